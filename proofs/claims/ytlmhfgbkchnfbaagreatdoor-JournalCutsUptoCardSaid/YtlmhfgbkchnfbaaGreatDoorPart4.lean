/-
  What the proofs of the claims need: part 4 of 6.
-/
import Derived.Test.YtlmhfgbkchnfbaaGreatDoorPart3
import Derived.KernelRfl
import Derived.Test.YtlmhfgbkchnfbaaGreatDoorRows
import Derived.WalkKit
import Derived.ProofKit
import Derived.OpenShut
import Derived.Deep.DeepHandedRow
import Derived.Lib.LaidTab
import Derived.LaidSub
import Derived.MakeChecks
import Derived.Test.YtlmhfgbkchnfbaaGreatDoorCards
import Derived.Test.YtlmhfgbkchnfbaaGreatDoorTie
import Derived.Lib.Bytealg
import Derived.Laws.Externs
import Derived.Shelf.SlSortCmp.NoneTotal
import Derived.Shelf.SlMaps.Clone
open And renaming intro→W0
open Array renaming eq_empty_of_size_eq_zero→Yn,toList_inj→Z7
open Bool renaming and_eq_true→XR,eq_iff_iff→Yu,false_eq_true→YQ,not_eq_false'→YR,not_eq_true'→Ye,or_eq_false_iff→YS,or_eq_true→Zc
open ByteArray renaming empty→Xb
open Classical renaming byContradiction→Yx
open Int renaming fdiv_eq_ediv_of_nonneg→Yp,le_refl→Zp,ofNat_lt→aad,toNat→Zt,toNat_natCast→W6
open List.Nodup renaming length_le_of_subset→Yo
open List.Pairwise renaming filter→Zi,imp→Z5,nil→Zf
open List renaming all_eq_true→XO,any_eq_false→XX,any_eq_true→Yr,append_assoc→Xf,append_eq_nil_iff→ZN,append_nil→XM,cons_append→Xp,drop_eq_getElem_cons→YO,drop_of_length_le→Yy,eq_nil_of_length_eq_zero→XL,ext_getElem→Zy,ext_getElem?→Zh,filter_congr→Y5,filter_cons→YT,find?_eq_none→Zb,flatMap_append→ZB,flatMap_cons→X5,foldl_cons→X8,getD_cons_succ→Yt,getD_cons_zero→YX,getD_eq_getElem?_getD→W2,getElem?_cons_succ→ZI,getElem?_eq_getElem→W5,getElem?_eq_some_iff→W4,getElem?_map→W9,getElem?_set→YP,getElem?_take→XK,getElem?_zipWith→aai,getElem_map→YN,getElem_mem→XS,length→Ze,length_append→W1,length_cons→Xy,length_eq_zero_iff→Yv,length_filter_le→Ys,length_map→Xw,length_pos_iff→Yi,length_singleton→Xu,length_take→XA,map_append→Xg,map_congr_left→Yj,map_cons→W7,map_map→Yb,map_nil→Xj,mem_append→Xr,mem_append_left→XV,mem_append_right→YB,mem_cons→Xm,mem_cons_of_mem→Xi,mem_cons_self→Xk,mem_filter→XG,mem_flatMap→ZU,mem_iff_getElem→Y2,mem_map→XH,mem_map_of_mem→ZX,mem_of_getElem?→XE,mem_range→Yz,mem_reverse→aaA,mem_singleton→Xd,mem_singleton_self→Y6,nil_append→Xq,nodup_append→YG,nodup_cons→XN,nodup_nil→XY,pairwise_append→YU,pairwise_cons→Yd,pairwise_iff_getElem→Yl,pairwise_singleton→Zo,perm_ext_iff_of_nodup→YJ,range→XC,replicate→X3,singleton_append→ZQ,sum_cons→Ym,take_length→Yk,take_of_length_le→Xh,take_succ_cons→Yq,zipWith→aae,zipWith_cons_cons→aaf
open List.cons renaming injEq→aag
open Nat renaming add_assoc→Yf,beq→Xv,ble→Y4,ble_eq_true_of_le→X0,blt→Xx,le_of_ble_eq_true→WY,le_of_eq→aac,le_of_not_lt→YA,le_refl→W8,le_succ→Yw,le_trans→X6,lt_succ_iff_lt_or_eq→Y1,lt_succ_self→YM,max_eq_right→aaB,min_eq_left→Y9,not_lt_zero→YY,zero_add→Xo,zero_le→Xc
open Option renaming bind_some→Zn,getD_some→X9,map_eq_none_iff→Zq,map_eq_some_iff→Xa,map_some→Ya
open Option.some renaming inj→X4,injEq→W3
open Prod renaming fst→Yc
open Prod.mk renaming injEq→Xe
set_option maxRecDepth 100000
open Bool renaming false→kw,true→jp
open Decidable renaming decide→lc
open Inhabited renaming default→co
open Option renaming none→is,some→io
open Array renaming getD_eq_getD_getElem?→WZ
open Array renaming range→Z3
open Array renaming getElem?_map→ZG
open Array renaming getElem?_eq_getElem→XJ
open Nat renaming mul_le_mul_right→Xt
open Nat renaming add_mul→XT
open Array renaming append_assoc→ZH
open Array renaming getElem?_append_left→XF
open List renaming getElem?_append_right→Xl
open Nat renaming sub_mul→aal
open Array renaming getElem?_append_right→YV
open Array renaming getElem?_toList→Xz
open Nat renaming mod_eq_of_lt→Zl
open List renaming getElem?_toArray→XP
open List renaming getElem?_append_left→Xn
namespace Go.Proofs.YtlmhfgbkchnfbaaGreatDoor
open Go Go.Al Go.Proofs.Tryz
section
section
variable (r:aw) (lit w:Int)
def nD(e:Expr):List Want:=if e.kind=1 then[⟨lit,eF r e.var w,1,0⟩] else if e.kind=2 then[⟨lit,cF.z,1,e.val.kind⟩] else[]
mutual
def gJ:Expr->List Want
 | .mk k v val op args=>nD r lit w (.mk k v val op args)++(if k=4 then tQ args else[])
def tQ:List Expr->List Want
 | []=> []
 |e::s=>gJ e++tQ s
end
theorem BT: ∀l:List Expr,tQ r lit w l=l.flatMap (gJ r lit w)
 | []=>rfl
 |e::s=>by rw[tQ,X5,BT s]
def jo(e:Expr):List Want:=if e.kind=4 then e.args.flatMap (gJ r lit w) else[]
theorem E2(e:Expr):gJ r lit w e=nD r lit w e++jo r lit w e:=by
 cases e;rw[gJ,BT];rfl
end
abbrev TS.add(t:TS)(l:List Want):TS:=⟨t.up,t.ws++l,t.kind⟩
section
variable {nt:NT} {Q:AQ} {k:List KI} {s:AS}
def tS(s:AS)(r:aw)(t:TS)(i u j m:Nat):AS:=match s with|⟨f,h,n⟩=>⟨f,(i,io (TS.cell r u n t.ws.length m))::(u,io (p5 t.up))::(n,io (aS 5 t.ws Want.c))::(m,io (qk t.kind))::(i,is)::(u,is)::(j,is)::(m,is)::h,n+1⟩
theorem Ug(s:AS)(r:aw)(t:TS)(i u j m:Nat):tS s r t i u j m=⟨s.f,(i,io (TS.cell r u s.nx t.ws.length m))::(u,io (p5 t.up))::(s.nx,io (aS 5 t.ws Want.c))::(m,io (qk t.kind))::(i,is)::(u,is)::(j,is)::(m,is)::s.h,s.nx+1⟩:=by cases s;rfl
def tR(s:AS)(r:aw)(t:TS)(i u j m:Nat):AS:=match s with|⟨f,h,n⟩=>⟨f,(i,io (TS.cell r u j t.ws.length m))::(u,io (p5 t.up))::(j,io (aS 5 t.ws Want.c))::(m,io (qk t.kind))::(i,is)::(u,is)::(j,is)::(m,is)::h,n⟩
theorem Uh(s:AS)(r:aw)(t:TS)(i u j m:Nat):tR s r t i u j m=⟨s.f,(i,io (TS.cell r u j t.ws.length m))::(u,io (p5 t.up))::(j,io (aS 5 t.ws Want.c))::(m,io (qk t.kind))::(i,is)::(u,is)::(j,is)::(m,is)::s.h,s.nx⟩:=by cases s;rfl
theorem HS{o:Oper}{c:Call}{g:FuncId}{args B:List PV}{r:aw}{t D:TS}{A:PV}{i u j m n:Nat}{es:List (List PV)}{s':AS}(hc:bh prog g (.ptr 0 0::args) (t.O r) A (D.H r) 5)(ho:o.op= .call c)(ha:bP s.f c=io (g,.ptr i 0::B))
  (hi:s.h.get i=io (TS.cell r u j n m)) (hu:s.h.get u=io (p5 t.up)) (hj:s.h.get j=io (.row 5 es)) (hm:s.h.get m=io (qk t.kind)) (hn:n=t.ws.length) (he:es=t.ws.map fun x=>(Want.c x).map .iv)
  (hlt:[i,u,j,m].all (fun x=>Xx x s.nx)=jp) (hnd:cI [i,u,j,m]=jp) (has:B=args) (hlow:bu 0 args=jp) (hr:A.low 0=jp)
  (hp:putDst nt o A (tS s r D i u j m)=io s'):OT prog nt o s (fun t=>t=s'):=by
 subst has;subst hn;subst he;have y: ∀σ,dh σ B=B:=fun σ=>iQ σ B hlow;refine lM ho ha hc (eV hnd) (fun j hj=>WY (XO.1 hlt j hj)) ?_ ?_ ?_
 .simp only[W7,Xj,hi,hu,hj,hm,b7];rfl
 .simp only[dh,y];rfl
 .rintro q G n0 ⟨rfl,rfl,rfl⟩;rw[PV.kn _ _ hr];rw[Ug]at hp;refine⟨s',?_,rfl⟩;rw[<-hp];simp only[TS.H,aC,oe,Ya,b7];rfl
theorem HO{o:Oper}{c:Call}{g:FuncId}{args B:List PV}{r:aw}{t:TS}{A:PV}{i u j m n:Nat}{es:List (List PV)}{s':AS}(hc:bh prog g (.ptr 0 0::args) (t.O r) A (t.K r) 4)(ho:o.op= .call c)(ha:bP s.f c=io (g,.ptr i 0::B))
  (hi:s.h.get i=io (TS.cell r u j n m)) (hu:s.h.get u=io (p5 t.up)) (hj:s.h.get j=io (.row 5 es)) (hm:s.h.get m=io (qk t.kind)) (hn:n=t.ws.length) (he:es=t.ws.map fun x=>(Want.c x).map .iv)
  (hlt:[i,u,j,m].all (fun x=>Xx x s.nx)=jp) (hnd:cI [i,u,j,m]=jp) (has:B=args) (hlow:bu 0 args=jp) (hr:A.low 0=jp)
  (hp:putDst nt o A (tR s r t i u j m)=io s'):OT prog nt o s (fun t=>t=s'):=by
 subst has;subst hn;subst he;have y: ∀σ,dh σ B=B:=fun σ=>iQ σ B hlow;refine lM ho ha hc (eV hnd) (fun j hj=>WY (XO.1 hlt j hj)) ?_ ?_ ?_
 .simp only[W7,Xj,hi,hu,hj,hm,b7];rfl
 .simp only[dh,y];rfl
 .rintro q D n0 ⟨rfl,rfl,rfl⟩;rw[PV.kn _ _ hr];rw[Uh]at hp;refine⟨s',?_,rfl⟩;rw[<-hp];simp only[TS.K,aC,oe,Ya,b7];rfl
theorem Ck{all rest:List Oper}{o:Oper}{c:Call}{g:FuncId}{args A:List PV}{r:aw}{t B:TS}{y:PV}{i u j m n:Nat}{es:List (List PV)}{s':AS}(hc:bh prog g (.ptr 0 0::args) (t.O r) y (B.H r) 5)(ho:o.op= .call c)(hg:o.guard=is)(ha:bP s.f c=io (g,.ptr i 0::A))
  (hi:s.h.get i=io (TS.cell r u j n m)) (hu:s.h.get u=io (p5 t.up)) (hj:s.h.get j=io (.row 5 es)) (hm:s.h.get m=io (qk t.kind)) (hn:n=t.ws.length) (he:es=t.ws.map fun x=>(Want.c x).map .iv)
  (hlt:[i,u,j,m].all (fun x=>Xx x s.nx)=jp) (hnd:cI [i,u,j,m]=jp) (has:A=args) (hlow:bu 0 args=jp) (hr:y.low 0=jp)
  (hp:putDst nt o y (tS s r B i u j m)=io s') (h:GO prog nt (.ops all rest::k) Q s'):GO prog nt (.ops all (o::rest)::k) Q s:=
 bB hg (HS hc ho ha hi hu hj hm hn he hlt hnd has hlow hr hp) fun t ht=>by subst ht;exact h
theorem Fo{all rest:List Oper}{o:Oper}{c:Call}{g:FuncId}{args A:List PV}{r:aw}{t B:TS}{y:PV}{i u j m n:Nat}{es:List (List PV)}{s':AS}(hc:bh prog g (.ptr 0 0::args) (t.O r) y (B.H r) 5)(h:GO prog nt (.ops all rest::k) Q s')(ho:o.op= .call c:=by exact rfl)(hg:o.guard=is:=by exact rfl)(ha:bP s.f c=io (g,.ptr i 0::A):=by exact rfl)(hi:s.h.get i=io (TS.cell r u j n m):=by exact rfl)(hu:s.h.get u=io (p5 t.up):=by exact rfl)(hj:s.h.get j=io (.row 5 es):=by exact rfl)(hm:s.h.get m=io (qk t.kind):=by exact rfl)(hn:n=t.ws.length:=by first|rfl|(rw[W1];rfl)|simp)(he:es=t.ws.map fun x=>(Want.c x).map .iv:=by first|rfl|(rw[Xg];rfl)|(simp only[Xg,Xf];rfl))(hlt:[i,u,j,m].all (fun x=>Xx x s.nx)=jp:=by exact rfl)(hnd:cI [i,u,j,m]=jp:=by exact rfl)(has:A=args:=by exact rfl)(hlow:bu 0 args=jp:=by exact rfl)(hr:y.low 0=jp:=by exact rfl)(hp:putDst nt o y (tS s r B i u j m)=io s':=by exact rfl):GO prog nt (.ops all (o::rest)::k) Q s:=Ck (hc:=hc) (ho:=ho) (hg:=hg) (ha:=ha) (hi:=hi) (hu:=hu) (hj:=hj) (hm:=hm) (hn:=hn) (he:=he) (hlt:=hlt) (hnd:=hnd) (has:=has) (hlow:=hlow) (hr:=hr) (hp:=hp) (h:=h)
theorem SI{all:List Oper}{todo pend:List (Nat×Oper)}{A:Nat}{D B:Prop}{o:Oper}{c:Call}{g:FuncId}{args G:List PV}{r:aw}{t:TS}{y:PV}{i u j m n:Nat}{es:List (List PV)}{s':AS}(hc:bh prog g (.ptr 0 0::args) (t.O r) y (t.K r) 4)
  (hrd:dz todo=[(A,o)]) (ho:o.op= .call c) (ha:bP s.f c=io (g,.ptr i 0::G))
  (hi:s.h.get i=io (TS.cell r u j n m)) (hu:s.h.get u=io (p5 t.up)) (hj:s.h.get j=io (.row 5 es)) (hm:s.h.get m=io (qk t.kind)) (hn:n=t.ws.length) (he:es=t.ws.map fun x=>(Want.c x).map .iv)
  (hlt:[i,u,j,m].all (fun x=>Xx x s.nx)=jp) (hnd:cI [i,u,j,m]=jp) (has:G=args) (hlow:bu 0 args=jp) (hr:y.low 0=jp)
  (hp:putDst nt o y (tR s r t i u j m)=io s')
  (hg:bR nt all s.f o=io jp) (hpb:gY all pend o=jp) (hE:nR todo [A]=jp)
  (hag:l3 qw nt all s todo pend=io D) (hCA:D) (hag2:c8 qw nt all s' (ba pend o)=io B) (hC2:B)
  (h:GO prog nt (.bS all (todo.filter fun x=>!Xv x.1 A) (ba pend o)::k) Q s'):GO prog nt (.bS all todo pend::k) Q s:=
 ja ab hrd hg hpb hE hag hCA (HO hc ho ha hi hu hj hm hn he hlt hnd has hlow hr hp) hag2 hC2 h
theorem oQ{all:List Oper}{todo pend:List (Nat×Oper)}{A:Nat}{D B:Prop}{o:Oper}{c:Call}{g:FuncId}{args G:List PV}{r:aw}{t:TS}{y:PV}{i u j m n:Nat}{es:List (List PV)}{s':AS}(hc:bh prog g (.ptr 0 0::args) (t.O r) y (t.K r) 4)(h:GO prog nt (.bS all (todo.filter fun x=>!Xv x.1 A) (ba pend o)::k) Q s')(hrd:dz todo=[(A,o)]:=by exact rfl)(ho:o.op= .call c:=by exact rfl)(ha:bP s.f c=io (g,.ptr i 0::G):=by exact rfl)(hi:s.h.get i=io (TS.cell r u j n m):=by exact rfl)(hu:s.h.get u=io (p5 t.up):=by exact rfl)(hj:s.h.get j=io (.row 5 es):=by exact rfl)(hm:s.h.get m=io (qk t.kind):=by exact rfl)(hn:n=t.ws.length:=by first|rfl|(rw[W1];rfl)|simp)(he:es=t.ws.map fun x=>(Want.c x).map .iv:=by first|rfl|(rw[Xg];rfl)|(simp only[Xg,Xf];rfl))(hlt:[i,u,j,m].all (fun x=>Xx x s.nx)=jp:=by exact rfl)(hnd:cI [i,u,j,m]=jp:=by exact rfl)(has:G=args:=by exact rfl)(hlow:bu 0 args=jp:=by exact rfl)(hr:y.low 0=jp:=by exact rfl)(hp:putDst nt o y (tR s r t i u j m)=io s':=by exact rfl)(hg:bR nt all s.f o=io jp:=by exact rfl)(hpb:gY all pend o=jp:=by exact rfl)(hE:nR todo [A]=jp:=by exact rfl)(hag:l3 qw nt all s todo pend=io D:=by exact rfl)(hCA:D:=by(repeat' (first|exact ac|exact rfl|exact ae.refl _|exact ae.bk (by assumption)|apply W0))<;>first|omega|(simp only[W6];omega)|(simp;done)|(simp;omega))(hag2:c8 qw nt all s' (ba pend o)=io B:=by exact rfl)(hC2:B:=by(repeat' (first|exact ac|exact rfl|exact ae.refl _|exact ae.bk (by assumption)|apply W0))<;>first|omega|(simp only[W6];omega)|(simp;done)|(simp;omega)):GO prog nt (.bS all todo pend::k) Q s:=SI (hc:=hc) (hrd:=hrd) (ho:=ho) (ha:=ha) (hi:=hi) (hu:=hu) (hj:=hj) (hm:=hm) (hn:=hn) (he:=he) (hlt:=hlt) (hnd:=hnd) (has:=has) (hlow:=hlow) (hr:=hr) (hp:=hp) (hg:=hg) (hpb:=hpb) (hE:=hE) (hag:=hag) (hCA:=hCA) (hag2:=hag2) (hC2:=hC2) (h:=h)
theorem Qp{l:List ResultVar}{r0:PV}{e:Exit}{r:aw}{y:TS}{u:PV}{j n:Nat}{es:List (List PV)}(he:e= .normal∨e= .ret)(hr:jh qw s l=io r0)(hi:s.h.get 0=io (TS.cell r 1 j n 3))(hu:s.h.get 1=io (p5 y.up))(hj:s.h.get j=io (.row 5 es))(hm:s.h.get 3=io (qk y.kind))
  (hn:n=y.ws.length) (hes:es=y.ws.map fun x=>(Want.c x).map .iv) (hlt:Xx j s.nx=jp) (hnd:cI [0,1,j,3]=jp) (hns:Y4 4 s.nx=jp) (hrl:ae r0 u) (hlow:u.low 0=jp) (hlow5:u.low 5=jp):Ei qw l 4 u (y.H r) 5 e s:=by
 subst hn;subst hes;refine ar [j] he hr ⟨rfl,WY hns,fun x A=>?_,⟨?_,hlow5,ac⟩,⟨⟨_,hi,.of_eq Z⟩,WY Z,rfl,⟨_,hu,.of_eq Z⟩,WY Z,ac,⟨_,hj,.of_eq (b7 _).symm⟩,WY Z,eR _,⟨_,hm,.of_eq Z⟩,WY Z,ac,ac⟩,?_⟩
 .simp only[Xd]at A;subst A;exact WY hlt
 .rw[PV.kn _ _ hlow];exact hrl
 .exact eV hnd
theorem xn{l:List ResultVar}{r0:PV}{e:Exit}{r:aw}{y:TS}{u:PV}{j n:Nat}{es:List (List PV)}(he:e= .normal∨e= .ret:=by first|exact .inr Z|exact .inl Z)(hr:jh qw s l=io r0:=by exact rfl)(hi:s.h.get 0=io (TS.cell r 1 j n 3):=by exact rfl)(hu:s.h.get 1=io (p5 y.up):=by exact rfl)(hj:s.h.get j=io (.row 5 es):=by exact rfl)(hm:s.h.get 3=io (qk y.kind):=by exact rfl)(hn:n=y.ws.length:=by first|rfl|(rw[W1];rfl)|simp)(hes:es=y.ws.map fun x=>(Want.c x).map .iv:=by first|rfl|(rw[Xg];rfl)|(simp only[Xg,Xf];rfl))(hlt:Xx j s.nx=jp:=by exact rfl)(hnd:cI [0,1,j,3]=jp:=by exact rfl)(hns:Y4 4 s.nx=jp:=by exact rfl)(hrl:ae r0 u:=by exact .refl _)(hlow:u.low 0=jp:=by exact rfl)(hlow5:u.low 5=jp:=by exact rfl):Ei qw l 4 u (y.H r) 5 e s:=Qp (he:=he) (hr:=hr) (hi:=hi) (hu:=hu) (hj:=hj) (hm:=hm) (hn:=hn) (hes:=hes) (hlt:=hlt) (hnd:=hnd) (hns:=hns) (hrl:=hrl) (hlow:=hlow) (hlow5:=hlow5)
theorem OL{n0 i u j m n:Nat}{es:List (List PV)}{tf:AF}{r:aw}{t y:TS}(hw:t=y)(hi:s.h.get i=io (TS.cell r u j n m))(hu:s.h.get u=io (p5 t.up))(hj:s.h.get j=io (.row 5 es))(hm:s.h.get m=io (qk t.kind))
  (hn:n=t.ws.length) (hes:es=t.ws.map fun x=>(Want.c x).map .iv) (hlt:Xx j s.nx=jp) (hnd:cI [i,u,j,m]=jp) (h0:[i,u,m].all (fun x=>Xx x n0)=jp) (hns:Y4 n0 s.nx=jp) (hf:HC (n0+1) (sg n0 [j]) s.f tf):
  Wk n0 [j] s ⟨tf,[(i,io (TS.cell r u n0 y.ws.length m)),(u,io (p5 y.up)),(n0,io (aS 5 y.ws Want.c)),(m,io (qk y.kind))],n0+1⟩:=by
 subst hw;subst hn;subst hes;simp only[List.all_cons,List.all_nil,Bool.and_true,XR]at h0;have A:i<n0:=WY h0.1;have D:u<n0:=WY h0.2.1;have B:m<n0:=WY h0.2.2;have s0:sg n0 [j] i=i:=gG A;have G:sg n0 [j] u=u:=gG D;have I:sg n0 [j] m=m:=gG B;have b0:Xx n0 n0=kw:=Bool.eq_false_iff.2 fun e=>absurd (WY e) (by omega);have J:sg n0 [j] n0=j:=by simp[sg,b0]
 have c1:Xx u (n0+1)=jp:=X0 (by omega);have c3:Xx m (n0+1)=jp:=X0 (by omega);have cn:Xx n0 (n0+1)=jp:=X0 (by omega);refine⟨rfl,WY hns,fun x Y=>?_,hf,⟨⟨_,by rw[s0];exact hi,?_⟩,by show i<n0+1;omega,?_,⟨_,by rw[G];exact hu,.of_eq Z⟩,by show u<n0+1;omega,ac,⟨_,by rw[J];exact hj,.of_eq (b7 _).symm⟩,YM _,eR _,⟨_,by rw[I];exact hm,.of_eq Z⟩,by show m<n0+1;omega,ac,ac⟩,?_⟩
 .simp only[Xd]at Y;subst Y;exact WY hlt
 .simp only[AO.b5,dh,PV.b5,G,I,J];exact .of_eq Z
 .simp[AO.low,bu,PV.low,c1,c3,cn]
 .simp only[fD,s0,G,I,J];exact eV hnd
theorem qt{n0 i u j m n:Nat}{es:List (List PV)}{A:AF}{r:aw}{t y:TS}(hw:t=y)(hi:s.h.get i=io (TS.cell r u j n m):=by exact rfl)(hu:s.h.get u=io (p5 t.up):=by exact rfl)(hj:s.h.get j=io (.row 5 es):=by exact rfl)(hm:s.h.get m=io (qk t.kind):=by exact rfl)(hn:n=t.ws.length:=by first|rfl|(rw[W1];rfl)|simp)(hes:es=t.ws.map fun x=>(Want.c x).map .iv:=by first|rfl|(rw[Xg];rfl)|(simp only[Xg,Xf];rfl))(hlt:Xx j s.nx=jp:=by exact rfl)(hnd:cI [i,u,j,m]=jp:=by exact rfl)(h0:[i,u,m].all (fun x=>Xx x n0)=jp:=by exact rfl)(hns:Y4 n0 s.nx=jp:=by exact rfl)(hf:HC (n0+1) (sg n0 [j]) s.f A:=by repeat' (first|exact ac|exact ae.refl _|exact rfl|apply W0)):Wk n0 [j] s ⟨A,[(i,io (TS.cell r u n0 y.ws.length m)),(u,io (p5 y.up)),(n0,io (aS 5 y.ws Want.c)),(m,io (qk y.kind))],n0+1⟩:=OL (hw:=hw) (hi:=hi) (hu:=hu) (hj:=hj) (hm:=hm) (hn:=hn) (hes:=hes) (hlt:=hlt) (hnd:=hnd) (h0:=h0) (hns:=hns) (hf:=hf)
end
theorem TS.add_add(t:TS)(a b:List Want):(t.add a).add b=t.add (a++b):=by simp[TS.add]
theorem TS.add_nil(t:TS):t.add []=t:=by simp[TS.add]
def OJ(r:aw)(n:Nat):Prop:= ∀(t:TS) (e:Expr) (lit w:Int),e.size<=n->t.ws.length+Expr.aE e.args<=1000000000->bh prog 250 [.ptr 0 0,ag e.c,pI lit,pI w] (t.O r) (.a7 []) ((t.add (jo r lit w e)).H r) 5
def S9(r:aw)(n:Nat):Prop:= ∀(t:TS) (e:Expr) (lit w:Int),e.size<=n->t.ws.length+e.size<=1000000000->bh prog 224 [.ptr 0 0,ag e.c,pI lit,pI w] (t.O r) (.a7 []) ((t.add (gJ r lit w e)).H r) 5
theorem d92(r:aw)(n:Nat)(x:OJ r n):S9 r n:=by
 intro t e lit w hs hb;have y:=e.size_eq;rw[E2,<-TS.add_add];refine ak ab func224 Z (by decide) ntmps224 Z (by simp) ?_;refine zJ Z Z (fun j=>?_) fun j=>?_
 .have j:e.kind=1:=zT j;have hl:nD r lit w e=[⟨lit,eF r e.var w,1,0⟩]:=am j;rw[hl];refine gA Z (oQ (d136 r t e.var w) ?_);refine gA Z (Ck (x (t.add [⟨lit,eF r e.var w,1,0⟩]) e lit w hs (by show(t.ws++_).length+_<=_;rw[W1,Xu];omega)) Z Z Z Z Z Z Z (by first|rfl|(rw[W1];rfl)|simp) (by first|rfl|(rw[Xg];rfl)|(simp only[Xg,Xf];rfl)) Z Z Z Z Z Z ?_);refine gA Z xn
 have j: ¬e.kind=1:=zF j;refine zJ Z Z (fun u=>?_) fun u=>?_
 .have u:e.kind=2:=zT u;have hl:nD r lit w e=[⟨lit,cF.z,1,e.val.kind⟩]:=by unfold nD;rw[be j,am u]
  rw[hl];refine gA Z (Ck (x (t.add [⟨lit,cF.z,1,e.val.kind⟩]) e lit w hs (by show(t.ws++_).length+_<=_;rw[W1,Xu];omega)) Z Z Z Z Z Z Z (by first|rfl|(rw[W1];rfl)|simp) (by first|rfl|(rw[Xg];rfl)|(simp only[Xg,Xf];rfl)) Z Z Z Z Z Z ?_);refine gA Z xn
 .have u: ¬e.kind=2:=zF u;have hl:nD r lit w e=[]:=by unfold nD;rw[be j,be u]
  rw[hl,TS.add_nil];refine gA Z (Fo (x t e lit w hs (by omega)) ?_);refine gA Z xn
theorem iU(r:aw)(lit w:Int): ∀e:Expr,(gJ r lit w e).length<=e.size
 | .mk k v val op args=>by
  rw[gJ,Expr.size,W1];have h1:(nD r lit w (.mk k v val op args)).length<=1:=by
   unfold nD
   repeat' split
   all_goals simp
  have j:(if k=4 then tQ r lit w args else[]).length<=Expr.aE args:=by
   split
   .exact numRs_len args
   .simp
  omega
where
 numRs_len: ∀l:List Expr,(tQ r lit w l).length<=Expr.aE l
 | []=>by simp[tQ]
 |e::s=>by
  have h1:=iU r lit w e;have h2:=numRs_len s;rw[tQ,Expr.aE,W1];omega
theorem IX(r:aw)(lit w:Int)(l:List Expr)(i:Nat)(h:i<l.length):((l.take i).flatMap (gJ r lit w)).length+(l.getD i co).size<=Expr.aE l:=by
 have h1: ∀l:List Expr,(l.flatMap (gJ r lit w)).length<=Expr.aE l:=by
  intro l
  induction l with
  |nil=>simp
  |cons e s ih=>
   have:=iU r lit w e;rw[X5,W1,Expr.aE];omega
 have u:=h1 (l.take i);have j: ∀(l:List Expr) (i:Nat),i<l.length->Expr.aE (l.take i)+(l.getD i co).size<=Expr.aE l:=by
  intro l
  induction l with
  |nil=>intro i h;simp at h
  |cons e s ih=>
   intro i h;cases i with
   |zero=>simp[Expr.aE]
   |succ i=>
    have:=ih i (by simpa using h);simp only[Yq,Yt,Expr.aE];omega
 have:=j l i h;omega
theorem d137(r:aw)(n:Nat)(y:S9 r n):OJ r (n+1):=by
 intro t e lit w hs hb;have x:=e.size_eq;refine bh.le (args:=[.ptr 0 0,ag e.c1,pI lit,pI w]) ?_ ⟨.refl _,e.DP,.refl _,.refl _,ac⟩;have u:=Expr.aJ e.args;refine ak ab func250 Z (by decide) ntmps250 Z (by simp) ?_;refine zE Z Z (fun k=>?_) fun k=>?_
 .have k: ¬e.kind=4:=zF k;have hl:jo r lit w e=[]:=be k;rw[hl,TS.add_nil];refine gA Z xn
 have k:e.kind=4:=zT k;have hl:jo r lit w e=e.args.flatMap (gJ r lit w):=am k;rw[hl];refine gA Z ?_
 refine aN 0 e.args.length (Xc _) (fun i=>⟨[(0,.ptr 0 0),(2,pI lit),(3,pI w),(14,.iv (aT 7 e.args Expr.c)),(15,pI e.args.length),(16,pI i)],
  [(0,io (TS.cell r 1 5 (t.add ((e.args.take i).flatMap (gJ r lit w))).ws.length 3)),(1,io (p5 (t.add ((e.args.take i).flatMap (gJ r lit w))).up)),(5,io (aS 5 (t.add ((e.args.take i).flatMap (gJ r lit w))).ws Want.c)),(3,io (qk (t.add ((e.args.take i).flatMap (gJ r lit w))).kind))],6⟩) (fun _=>True) _ ac
  (OL (t:=t) (TS.add_nil t).symm Z Z Z Z Z Z Z Z Z Z (bi (bi (bi (bi (bi (bi trivial))))))) fun i hi _=>?_
 refine zJ Z Z (fun h1=>?_) fun h1=>?_
 .have h1:i<e.args.length:=by simpa using h1
  have j:=bD (f:=gJ r lit w) h1;have B:=IX r lit w e.args i h1;have A:=Expr.bU e.args i h1;refine gA Z (Ck (y (t.add ((e.args.take i).flatMap (gJ r lit w))) (e.args.getD i co) lit w (by omega) (by show(t.ws++_).length+_<=_;rw[W1];omega)) Z Z Z Z Z Z Z (by first|rfl|(rw[W1];rfl)|simp) (by first|rfl|(rw[Xg];rfl)|(simp only[Xg,Xf];rfl)) Z Z Z Z Z Z ?_);refine gA Z ⟨h1,ac,_,OL ((by rw[TS.add_add,j])) Z Z Z Z (by first|rfl|(rw[W1];rfl)|simp) (by first|rfl|(rw[Xg];rfl)|(simp only[Xg,Xf];rfl)) Z Z Z Z (bi (bi (bi (bi (bi (bi ac))))))⟩
 .have h1:e.args.length<=i:=by simpa using h1
  rw[Xh h1];refine gA Z xn
end
theorem ta(r:aw): ∀n,S9 r n∧OJ r n
 |0=>by
  have j:OJ r 0:=fun t e lit w hs=>by have:=e.size_pos;omega
  exact⟨d92 r 0 j,j⟩
 |n+1=>by
  have h1:=d137 r n (ta r n).1;exact⟨d92 r (n+1) h1,h1⟩
theorem Kb(r:aw)(t:TS)(e:Expr)(lit w:Int)(hb:t.ws.length+e.size<=1000000000):bh prog 224 [.ptr 0 0,ag e.c,pI lit,pI w] (t.O r) (.a7 []) ((t.add (gJ r lit w e)).H r) 5:=(ta r e.size).1 t e lit w (W8 _) hb
theorem Qt(r:aw)(t:TS)(e:Expr)(lit w:Int)(hb:t.ws.length+e.size<=1000000000):bh prog 250 [.ptr 0 0,ag e.c,pI lit,pI w] (t.O r) (.a7 []) ((t.add (jo r lit w e)).H r) 5:=(ta r e.size).2 t e lit w (W8 _) (by have:=e.size_eq;omega)
def typeAt(p:Prog)(a:Atom)(i:Nat):Int:=(iz p a.rel).types.getD i co
def mX(p:Prog)(a:Atom)(i:Nat):Bool:=lc (i<(iz p a.rel).types.length)&&(lc (typeAt p a i=1)||decide (typeAt p a i=2))
def lQ(p:Prog)(r:aw)(a:Atom)(lit w:Int)(i:Nat):List Want:=
 if mX p a i=kw then[]
 else if(a.an.getD i co).kind=1 then[⟨lit,eF r (a.an.getD i co).var w,typeAt p a i,0⟩]
 else if(a.an.getD i co).kind=2 then[⟨lit,cF.z,typeAt p a i,(a.an.getD i co).val.kind⟩] else[]
def gQ(p:Prog)(r:aw)(a:Atom)(lit w:Int):Nat->List Want
 |0=> []
 |i+1=>gQ p r a lit w i++lQ p r a lit w i
theorem Db(p:Prog)(r:aw)(a:Atom)(lit w:Int)(i:Nat):(lQ p r a lit w i).length<=1:=by
 unfold lQ
 repeat' split
 all_goals simp
theorem nW(p:Prog)(r:aw)(a:Atom)(lit w:Int): ∀i,(gQ p r a lit w i).length<=i
 |0=>W8 _
 |i+1=>by
  have h1:=nW p r a lit w i;have j:=Db p r a lit w i;rw[gQ,W1];omega
set_option maxHeartbeats 1000000 in
theorem d90(p:Prog)(r:aw)(t:TS)(a:Atom)(lit w:Int)(hb:t.ws.length+a.an.length<=1000000000):bh prog 222 [.ptr 0 0,.iv (cX p),ag a.c,pI lit,pI w] (t.O r) (.a7 []) ((t.add (gQ p r a lit w a.an.length)).H r) 5:=by
 refine ak ab func222 Z (by decide) ntmps222 Z (by simp) ?_;refine gA Z ?_
 refine aN 0 a.an.length (Xc _) (fun i=>⟨[(0,.ptr 0 0),(3,pI lit),(4,pI w),(10,.iv (aT 1 (iz p a.rel).types kv)),(19,.iv (aT 5 a.an Term.c)),(20,pI a.an.length),(21,pI i)],
  [(0,io (TS.cell r 1 5 (t.add (gQ p r a lit w i)).ws.length 3)),(1,io (p5 (t.add (gQ p r a lit w i)).up)),(5,io (aS 5 (t.add (gQ p r a lit w i)).ws Want.c)),(3,io (qk (t.add (gQ p r a lit w i)).kind))],6⟩) (fun _=>True) _ ac
  (OL (t:=t) (TS.add_nil t).symm Z Z Z Z Z Z Z Z Z Z (bi (bi (bi (bi (bi (bi (bi trivial)))))))) fun i hi _=>?_
 refine zE Z Z (fun h1=>?_) fun h1=>?_
 .have h1:a.an.length<=i:=by simpa using h1
  have:i=a.an.length:=by omega
  subst this;refine gA Z xn
 have h1:i<a.an.length:=by simpa using h1
 have hl:=nW p r a lit w i;have hs:t.add (gQ p r a lit w (i+1))=(t.add (gQ p r a lit w i)).add (lQ p r a lit w i):=by rw[TS.add_add];rfl
 have y:(t.add (gQ p r a lit w i)).ws.length<=t.ws.length+i:=by show(t.ws++_).length<=_;rw[W1];omega
 generalize t.add (gQ p r a lit w i)=t1 at*
 refine zE Z Z (fun g1=>?_) fun g1=>?_
 .have g1: ¬i<(iz p a.rel).types.length:=by have g:=zT (show lc ((i:Int)>=((iz p a.rel).types.length:Int))=jp from g1);omega
  have hf:mX p a i=kw:=by rw[mX,decide_eq_false g1];rfl
  have x:lQ p r a lit w i=[]:=am hf;rw[x,TS.add_nil]at hs;refine gA Z ⟨h1,ac,_,qt (hs.symm)⟩
 have g1:i<(iz p a.rel).types.length:=by have g:=zF (show lc ((i:Int)>=((iz p a.rel).types.length:Int))=kw from g1);omega
 refine zJ Z Z (fun g2=>?_) fun g2=>?_
 .have g2: ¬typeAt p a i=1:=by simpa[typeAt]using g2
  refine zJ Z Z (fun g3=>?_) fun g3=>?_
  .have g3: ¬typeAt p a i=2:=by simpa[typeAt]using g3
   have hf:mX p a i=kw:=by rw[mX,decide_eq_true g1,decide_eq_false g2,decide_eq_false g3];rfl
   have x:lQ p r a lit w i=[]:=am hf;rw[x,TS.add_nil]at hs;refine gA Z ⟨h1,ac,_,qt (hs.symm)⟩
  .have g3:typeAt p a i=2:=by simpa[typeAt]using g3
   have ht:mX p a i=jp:=by rw[mX,decide_eq_true g1,decide_eq_true g3,Bool.or_true];rfl
   have x:lQ p r a lit w i=if(a.an.getD i co).kind=1 then[⟨lit,eF r (a.an.getD i co).var w,typeAt p a i,0⟩]
    else if(a.an.getD i co).kind=2 then[⟨lit,cF.z,typeAt p a i,(a.an.getD i co).val.kind⟩] else[]:=by unfold lQ;rw[ht];exact be (by decide)
   rw[x]at hs;refine zJ Z Z (fun j=>?_) fun j=>?_
   .have j:(a.an.getD i co).kind=1:=zT j;rw[am j]at hs;refine gA Z (oQ (d136 r t1 (a.an.getD i co).var w) ?_);refine gA Z ⟨h1,ac,_,qt (hs.symm)⟩
   have j: ¬(a.an.getD i co).kind=1:=zF j;rw[be j]at hs;refine zJ Z Z (fun u=>?_) fun u=>?_
   .have u:(a.an.getD i co).kind=2:=zT u;rw[am u]at hs;refine gA Z ⟨h1,ac,_,qt (hs.symm)⟩
   .have u: ¬(a.an.getD i co).kind=2:=zF u;rw[be u,TS.add_nil]at hs;refine gA Z ⟨h1,ac,_,qt (hs.symm)⟩
 .have g2:typeAt p a i=1:=by simpa[typeAt]using g2
  have ht:mX p a i=jp:=by rw[mX,decide_eq_true g1,decide_eq_true g2];rfl
  have x:lQ p r a lit w i=if(a.an.getD i co).kind=1 then[⟨lit,eF r (a.an.getD i co).var w,typeAt p a i,0⟩]
   else if(a.an.getD i co).kind=2 then[⟨lit,cF.z,typeAt p a i,(a.an.getD i co).val.kind⟩] else[]:=by unfold lQ;rw[ht];exact be (by decide)
  rw[x]at hs;refine zJ Z Z (fun j=>?_) fun j=>?_
  .have j:(a.an.getD i co).kind=1:=zT j;rw[am j]at hs;refine gA Z (oQ (d136 r t1 (a.an.getD i co).var w) ?_);refine gA Z ⟨h1,ac,_,qt (hs.symm)⟩
  have j: ¬(a.an.getD i co).kind=1:=zF j;rw[be j]at hs;refine zJ Z Z (fun u=>?_) fun u=>?_
  .have u:(a.an.getD i co).kind=2:=zT u;rw[am u]at hs;refine gA Z ⟨h1,ac,_,qt (hs.symm)⟩
  .have u: ¬(a.an.getD i co).kind=2:=zF u;rw[be u,TS.add_nil]at hs;refine gA Z ⟨h1,ac,_,qt (hs.symm)⟩
def xm(t:TS)(u v:cF):TS:=if u=v then t else⟨cS (.si .i64) t.up u v,t.ws,t.kind⟩
def ux(y:Expr):Int:=if y.kind=2 then y.val.kind else 1
def gT(r:aw)(lit w:Int)(t:TS)(x y:Expr):TS:=
 if y.kind=1 then xm t (bX t.up (eF r x.var w)) (bX t.up (eF r y.var w))
 else t.add (if x.kind=1 then[⟨lit,eF r x.var w,ux y,0⟩] else if x.kind=2 then[⟨lit,cF.z,ux y,x.val.kind⟩] else[⟨lit,cF.z,ux y,1⟩])
def ju(r:aw)(lit w:Int)(t:TS)(a b:Expr):TS:=
 if b.kind=1 then gT r lit w ((t.add (jo r lit w a)).add (jo r lit w b)) b a else gT r lit w ((t.add (jo r lit w a)).add (jo r lit w b)) a b
theorem Ms{u v:cF}(h:(!(lc (u.1=v.1)&&(lc (u.2=v.2)&&jp)))=jp):u≠v:=by
 rintro rfl;simp at h
theorem Mt{u v:cF}(h:(!(lc (u.1=v.1)&&(lc (u.2=v.2)&&jp)))=kw):u=v:=by
 simp at h;exact Prod.ext h.1 h.2
theorem r6(r:aw)(lit w:Int)(e:Expr):(jo r lit w e).length<=e.size:=by
 have h1:=iU r lit w e;rw[E2,W1]at h1;omega
set_option maxHeartbeats 1000000 in
theorem d93(r:aw)(t:TS)(a b:Expr)(lit w:Int)(ok:jg t.up)(hb:t.ws.length+a.size+b.size<=1000000000):bh prog 225 [.ptr 0 0,ag a.c,ag b.c,pI lit,pI w] (t.O r) (.a7 []) ((ju r lit w t a b).H r) 5:=by
 have h1:=r6 r lit w a;have J:=r6 r lit w b;have I:ju r lit w t a b=if b.kind=1 then gT r lit w ((t.add (jo r lit w a)).add (jo r lit w b)) b a else gT r lit w ((t.add (jo r lit w a)).add (jo r lit w b)) a b:=rfl;rw[I];have D:jg ((t.add (jo r lit w a)).add (jo r lit w b)).up:=ok;refine ak ab func225 Z (by decide) ntmps225 Z (by simp) ?_;refine gA Z (Fo (Qt r t a lit w (by omega)) ?_);refine gA Z (Ck (Qt r (t.add (jo r lit w a)) b lit w (by show(t.ws++_).length+_<=_;rw[W1];omega)) Z Z Z Z Z Z Z (by first|rfl|(rw[W1];rfl)|simp) (by first|rfl|(rw[Xg];rfl)|(simp only[Xg,Xf];rfl)) Z Z Z Z Z Z ?_);have hl:((t.add (jo r lit w a)).add (jo r lit w b)).ws.length<=t.ws.length+a.size+b.size:=by
  show((t.ws++_)++_).length<=_;rw[W1,W1];omega
 generalize(t.add (jo r lit w a)).add (jo r lit w b)=t1 at*
 refine zJ Z Z (fun x=>?_) fun x=>?_
 .have x:b.kind=1:=zT x;rw[am x];refine zJ Z Z (fun u=>?_) fun u=>?_
  .have u:a.kind=2:=zT u;have G: ¬a.kind=1:=by omega
   have hh:ux a=a.val.kind:=am u;have A:gT r lit w t1 b a=t1.add [⟨lit,eF r b.var w,ux a,0⟩]:=by unfold gT;rw[be G,am x]
   rw[A,hh];refine zJ Z Z (fun y=>?_) fun y=>?_
   .exact absurd (zT y) G
   refine zE Z Z (fun j=>?_) fun j=>?_
   .exact absurd x (zF j)
   refine gA Z (oQ (d136 r t1 b.var w) ?_);refine gA Z xn
  .have u: ¬a.kind=2:=zF u;refine zJ Z Z (fun y=>?_) fun y=>?_
   .have y:a.kind=1:=zT y;have A:gT r lit w t1 b a=xm t1 (bX t1.up (eF r b.var w)) (bX t1.up (eF r a.var w)):=am y;rw[A];refine gA Z (oQ (d136 r t1 b.var w) ?_);refine gA Z (oQ (d52 r t1 (eF r b.var w) D) ?_);refine gA Z (oQ (d136 r t1 a.var w) ?_);refine gA Z (oQ (d52 r t1 (eF r a.var w) D) ?_);refine zJ Z Z (fun j=>?_) fun j=>?_
    .have e:xm t1 (bX t1.up (eF r b.var w)) (bX t1.up (eF r a.var w))=⟨cS (.si .i64) t1.up (bX t1.up (eF r b.var w)) (bX t1.up (eF r a.var w)),t1.ws,t1.kind⟩:=be (Ms j);rw[e];refine gl Z (by repeat' (first|exact ac|exact rfl|exact VM (cF.c (bX t1.up (eF r a.var w)))|exact ae.refl _|apply W0)) (Qp (by first|exact .inr Z|exact .inl Z) Z Z Z Z Z Z Z Z Z Z (.refl _) Z Z)
    .have e:xm t1 (bX t1.up (eF r b.var w)) (bX t1.up (eF r a.var w))=t1:=am (Mt j);rw[e];refine gA Z xn
   .have G: ¬a.kind=1:=zF y;have hh:ux a=1:=be u;have A:gT r lit w t1 b a=t1.add [⟨lit,eF r b.var w,ux a,0⟩]:=by unfold gT;rw[be G,am x]
    rw[A,hh];refine zE Z Z (fun j=>?_) fun j=>?_
    .exact absurd x (zF j)
    refine gA Z (oQ (d136 r t1 b.var w) ?_);refine gA Z xn
 have x: ¬b.kind=1:=zF x;rw[be x];have A:gT r lit w t1 a b=t1.add (if a.kind=1 then[⟨lit,eF r a.var w,ux b,0⟩] else if a.kind=2 then[⟨lit,cF.z,ux b,a.val.kind⟩] else[⟨lit,cF.z,ux b,1⟩]):=be x;rw[A];refine zJ Z Z (fun u=>?_) fun u=>?_
 .have u:b.kind=2:=zT u;have hh:ux b=b.val.kind:=am u;rw[hh];refine zJ Z Z (fun y=>?_) fun y=>?_
  .exact absurd (zT y) x
  refine zJ Z Z (fun j=>?_) fun j=>?_
  .rw[am (zT j)];refine gA Z (oQ (d136 r t1 a.var w) ?_);refine gA Z xn
  rw[be (zF j)];refine zJ Z Z (fun B=>?_) fun B=>?_
  .rw[am (zT B)];refine gA Z xn
  .rw[be (zF B)];refine gA Z xn
 .have u: ¬b.kind=2:=zF u;have hh:ux b=1:=be u;rw[hh];refine zJ Z Z (fun y=>?_) fun y=>?_
  .exact absurd (zT y) x
  refine zJ Z Z (fun j=>?_) fun j=>?_
  .rw[am (zT j)];refine gA Z (oQ (d136 r t1 a.var w) ?_);refine gA Z xn
  rw[be (zF j)];refine zJ Z Z (fun B=>?_) fun B=>?_
  .rw[am (zT B)];refine gA Z xn
  .rw[be (zF B)];refine gA Z xn
def pT(p:Prog)(r:aw)(lit w:Int)(t:TS)(l:Lit):TS:=
 if l.kind=1∨l.kind=2 then t.add (gQ p r l.atom lit w l.atom.an.length)
 else if l.kind=3 then(if l.op=1∨l.op=2 then ju r lit w t l.left l.right else(t.add (gJ r lit w l.left)).add (gJ r lit w l.right)) else t
theorem d91(p:Prog)(r:aw)(t:TS)(l:Lit)(lit w:Int)(ok:jg t.up)(hb:t.ws.length+l.size<=1000000000):bh prog 223 [.ptr 0 0,.iv (cX p),ag l.c,pI lit,pI w] (t.O r) (.a7 []) ((pT p r lit w t l).H r) 5:=by
 have D:=l.size_eq;have G:=iU r lit w l.left;refine ak ab func223 Z (by decide) ntmps223 Z (by simp) ?_;refine zE Z Z (fun u=>?_) fun u=>?_
 .have u:l.kind=1:=by simpa using u
  have j:pT p r lit w t l=t.add (gQ p r l.atom lit w l.atom.an.length):=am (.inl u);rw[j];refine gA Z (Fo (d90 p r t l.atom lit w (by omega)) ?_);refine gA Z xn
 have u: ¬l.kind=1:=zF u;refine zJ Z Z (fun x=>?_) fun x=>?_
 .have x:l.kind=2:=zT x;have j:pT p r lit w t l=t.add (gQ p r l.atom lit w l.atom.an.length):=am (.inr x);rw[j];refine gA Z (Fo (d90 p r t l.atom lit w (by omega)) ?_);refine gA Z xn
 have x: ¬l.kind=2:=zF x;have j:pT p r lit w t l=if l.kind=3 then(if l.op=1∨l.op=2 then ju r lit w t l.left l.right else(t.add (gJ r lit w l.left)).add (gJ r lit w l.right)) else t:=be (by rintro(h|h);exact u h;exact x h);refine zJ Z Z (fun y=>?_) fun y=>?_
 .have y: ¬l.kind=3:=by simpa using y
  rw[be y]at j;rw[j];refine gA Z xn
 have y:l.kind=3:=by simpa using y
 rw[am y]at j;refine zE Z Z (fun A=>?_) fun A=>?_
 .have A:l.op=1:=by simpa using A
  rw[am (.inl A)]at j;rw[j];refine gA Z (Fo (d93 r t l.left l.right lit w ok (by omega)) ?_);refine gA Z xn
 have A: ¬l.op=1:=zF A;refine zJ Z Z (fun B=>?_) fun B=>?_
 .have B:l.op=2:=zT B;rw[am (.inr B)]at j;rw[j];refine gA Z (Fo (d93 r t l.left l.right lit w ok (by omega)) ?_);refine gA Z xn
 .have B: ¬l.op=2:=zF B;rw[be (by rintro(h|h);exact A h;exact B h)]at j;rw[j];refine gA Z (Fo (Kb r t l.left lit w (by omega)) ?_);refine gA Z (Ck (Kb r (t.add (gJ r lit w l.left)) l.right lit w (by show(t.ws++_).length+_<=_;rw[W1];omega)) Z Z Z Z Z Z Z (by first|rfl|(rw[W1];rfl)|simp) (by first|rfl|(rw[Xg];rfl)|(simp only[Xg,Xf];rfl)) Z Z Z Z Z Z ?_);refine gA Z xn
theorem qJ: ∀(n:Nat) (m:UM) (v:cF),jg m->F0 m v<=n->dA (.si .i64) m (bX m v)=kw
 |n,m,v,ok,hn=>by
  cases h:dA (.si .i64) m v with
  |false=>rw[rI m v h];exact h
  |true=>
   obtain⟨h1,j⟩:=oD m v ok h;cases n with
   |zero=>omega
   |succ n=>rw[<-h1];exact qJ n m _ ok (by omega)
theorem BC: ∀(m:UM) (u v:cF),dA (.si .i64) m u=kw->cS (.si .i64) m u v=m++ [(u,v)]
 | [],_,_,_=>rfl
 |(x,y)::r,u,v,h=>by
  unfold dA at h;split at h
  .cases h
  .rename_i j;show(if x=u then _ else(x,y)::cS (.si .i64) r u v)=_;rw[be j,BC r u v h];rfl
theorem Cj{m:UM}{u:cF}(h:dA (.si .i64) m u=kw): ∀q∈m,q.1≠u:=by
 induction m with
 |nil=>intro q hq;cases hq
 |cons a r ih=>
  obtain⟨x,y⟩:=a;unfold dA at h;split at h
  .cases h
  .rename_i j;intro q hq;rcases Xm.1 hq with rfl|hq
   .exact j
   .exact ih h q hq
theorem xJ: ∀{m:UM} {u v:cF},jg m->(∀q∈m,q.1≠u)->(∀q∈m,q.1≠v)->u≠v->jg (m++ [(u,v)])
 | [],u,v,_,_,_,hne=>⟨hne,fun q hq=>(nomatch hq),fun q hq=>(nomatch hq),ac⟩
 |(x,y)::r,u,v,⟨o1,o2,o3,o4⟩,hu,hv,hne=>by
  refine⟨o1,fun q hq=>?_,fun q hq=>?_,xJ o4 (fun q hq=>hu q (Xi _ hq)) (fun q hq=>hv q (Xi _ hq)) hne⟩
  .rcases Xr.1 hq with hq|hq
   .exact o2 q hq
   .simp only[Xd]at hq;subst hq;exact fun e=>hu _ Xk e.symm
  .rcases Xr.1 hq with hq|hq
   .exact o3 q hq
   .simp only[Xd]at hq;subst hq;exact fun e=>hv _ Xk e.symm
theorem Ry{t:TS}(ok:jg t.up)(a b:cF):jg (xm t (bX t.up a) (bX t.up b)).up:=by
 unfold xm;split
 .exact ok
 .rename_i j;have h1:=qJ _ t.up a ok (W8 _);have u:=qJ _ t.up b ok (W8 _);show jg (cS _ _ _ _);rw[BC _ _ _ h1];exact xJ ok (Cj h1) (Cj u) j
theorem y2(r:aw)(lit w:Int){t:TS}(ok:jg t.up)(x y:Expr):jg (gT r lit w t x y).up:=by
 unfold gT;split
 .exact Ry ok _ _
 .exact ok
theorem CY(r:aw)(lit w:Int){t:TS}(ok:jg t.up)(a b:Expr):jg (ju r lit w t a b).up:=by
 unfold ju;split
 .exact y2 r lit w (t:=(t.add (jo r lit w a)).add (jo r lit w b)) ok _ _
 .exact y2 r lit w (t:=(t.add (jo r lit w a)).add (jo r lit w b)) ok _ _
theorem Ja(p:Prog)(r:aw)(lit w:Int){t:TS}(ok:jg t.up)(l:Lit):jg (pT p r lit w t l).up:=by
 unfold pT
 repeat' split
 .exact ok
 .exact CY r lit w ok _ _
 .exact ok
 .exact ok
theorem Rx(t:TS)(u v:cF):(xm t u v).ws=t.ws:=by unfold xm;split<;>rfl
theorem xa(r:aw)(lit w:Int)(t:TS)(x y:Expr):(gT r lit w t x y).ws.length<=t.ws.length+1:=by
 unfold gT
 repeat' split
 .rw[Rx];omega
 all_goals(show(t.ws++_).length<=_;rw[W1,Xu];omega)
theorem y1(r:aw)(lit w:Int)(t:TS)(a b:Expr):(ju r lit w t a b).ws.length<=t.ws.length+a.size+b.size+1:=by
 have h1:=r6 r lit w a;have j:=r6 r lit w b;have u:((t.add (jo r lit w a)).add (jo r lit w b)).ws.length<=t.ws.length+a.size+b.size:=by
  show((t.ws++_)++_).length<=_;rw[W1,W1];omega
 unfold ju;split
 .exact X6 (xa _ _ _ _ _ _) (by omega)
 .exact X6 (xa _ _ _ _ _ _) (by omega)
theorem E7(p:Prog)(r:aw)(lit w:Int)(t:TS)(l:Lit):(pT p r lit w t l).ws.length<=t.ws.length+l.size:=by
 have j:=l.size_eq;have h1:=nW p r l.atom lit w l.atom.an.length;have u:=y1 r lit w t l.left l.right;have x:=iU r lit w l.left;have y:=iU r lit w l.right;unfold pT
 repeat' split
 .show(t.ws++_).length<=_;rw[W1];omega
 .omega
 .show((t.ws++_)++_).length<=_;rw[W1,W1];omega
 .omega
theorem bZ{P:Program}{nt:NT}{Q:AQ}{k:List KI}{s t:AS}{c:Code}(L:List Nat)(h0:Wk s.nx L s t)(h:GO P nt (.code c::k) Q t):GO P nt (.code c::k) Q s:=by
 intro M N a w hf;exact AW.then h (h0.fits hf) fun e A B u x s' y j hr=>⟨u,x,s',(h0.ext (.refl _ _ _ _ _)).trans y,j,hr⟩
theorem Np:fc .fE (p5 []):=⟨id,fun M N U w j u=>⟨#[],0,u,⟨rfl,by simp,by simp,by simp,by simp⟩,.agg _ _ Z fun j p u=>by
 match j,u with
 |0,u=>cases u;exact .v _
 |1,u=>cases u;exact .v _
 |j+2,u=>simp[cF.c]at u⟩⟩
theorem Nq:fc .fE (qk []):=⟨id,fun M N U w j u=>⟨#[],0,u,⟨rfl,by simp,by simp,by simp,by simp⟩,gp M⟩⟩
def pP(s:aq):Expr:= .mk 1 s ⟨0,0,Xb⟩ 0 []
abbrev KX(s:aq):PV:= .agg [pI 1,pS s,pI 0,pI 0,pS Xb,pI 0,.iv (.v (.slice is 0 0))]
theorem y6(s:aq):ae (KX s) (ag (pP s).c):= .agg ⟨.refl _,.refl _,.refl _,.refl _,.refl _,.refl _,.nil _ _,ac⟩
theorem l9(s:aq):(pP s).size=1:=rfl
def xl(r:aw)(i:Int)(t:TS)(f:Int)(v:aq)(o:Expr):TS:=
 if f=2 then(t.add (gJ r i i o)).add (gJ r i i (pP v)) else if f=1 then t.add (gJ r i i (pP v)) else ju r i i t (pP v) o
def qZ(p:Prog)(r:aw)(i:Int)(t:TS)(j:List Lit):Nat->TS
 |0=>t
 |k+1=>pT p r i i (qZ p r i t j k) (j.getD k co)
def stepT(p:Prog)(r:aw)(i:Int)(t:TS)(l:Lit):TS:=
 if l.kind=4 then qZ p r i (xl r i t l.dZ l.bJ l.ky) l.az l.az.length else pT p r i (-1) t l
def TS.o:TS:=⟨[],[],[]⟩
def fh(p:Prog)(r:aw):Nat->TS
 |0=>TS.o.add (gQ p r r.head (-1) (-1) r.head.an.length)
 |k+1=>stepT p r k (fh p r k) (r.body.getD k co)
def cR(j:UM)(m:KM)(w:Want):KM:=if w.has=0∧eh (.si .i64) m (bX j w.at_) 0=0 then cS (.si .i64) m (bX j w.at_) w.kind else m
def ow(p:Prog)(r:aw):TS:=⟨(fh p r r.body.length).up,(fh p r r.body.length).ws,(fh p r r.body.length).ws.foldl (cR (fh p r r.body.length).up) []⟩
theorem HF(r:aw)(i:Int){t:TS}(ok:jg t.up)(f:Int)(v:aq)(o:Expr):jg (xl r i t f v o).up:=by
 unfold xl
 repeat' split
 .exact ok
 .exact ok
 .exact CY r i i ok _ _
theorem Cg(p:Prog)(r:aw)(i:Int){t:TS}(ok:jg t.up)(j:List Lit): ∀k,jg (qZ p r i t j k).up
 |0=>ok
 |k+1=>Ja p r i i (Cg p r i ok j k) _
theorem Mp(p:Prog)(r:aw)(i:Int){t:TS}(ok:jg t.up)(l:Lit):jg (stepT p r i t l).up:=by
 unfold stepT;split
 .exact Cg p r i (HF r i ok _ _ _) _ _
 .exact Ja p r i (-1) ok l
theorem As(p:Prog)(r:aw): ∀k,jg (fh p r k).up
 |0=>trivial
 |k+1=>Mp p r k (As p r k) _
theorem w9(r:aw)(lit w:Int)(t:TS)(a b:Expr):(ju r lit w t a b).kind=t.kind:=by
 have h1: ∀(t:TS) u v,(xm t u v).kind=t.kind:=fun t u v=>by unfold xm;split<;>rfl
 have j: ∀(t:TS) x y,(gT r lit w t x y).kind=t.kind:=fun t x y=>by
  unfold gT;split
  .exact h1 _ _ _
  .rfl
 unfold ju;split<;>exact j _ _ _
theorem B5(p:Prog)(r:aw)(lit w:Int)(t:TS)(l:Lit):(pT p r lit w t l).kind=t.kind:=by
 unfold pT
 repeat' split
 .rfl
 .exact w9 r lit w t _ _
 .rfl
 .rfl
theorem Fk(p:Prog)(r:aw)(i:Int)(t:TS)(j:List Lit): ∀k,(qZ p r i t j k).kind=t.kind
 |0=>rfl
 |k+1=>by rw[qZ,B5,Fk p r i t j k]
theorem F8(p:Prog)(r:aw)(i:Int)(t:TS)(l:Lit):(stepT p r i t l).kind=t.kind:=by
 unfold stepT;split
 .rw[Fk];unfold xl
  repeat' split
  .rfl
  .rfl
  .exact w9 r i i t _ _
 .exact B5 p r i (-1) t l
theorem yT(p:Prog)(r:aw): ∀k,(fh p r k).kind=[]
 |0=>rfl
 |k+1=>by rw[fh,F8,yT p r k]
theorem Es(r:aw)(i:Int)(t:TS)(f:Int)(v:aq)(o:Expr):(xl r i t f v o).ws.length<=t.ws.length+o.size+2:=by
 have h1:=iU r i i o;have j:=iU r i i (pP v);have u:=y1 r i i t (pP v) o;rw[l9]at j u;unfold xl
 repeat' split
 .show((t.ws++_)++_).length<=_;rw[W1,W1];omega
 .show(t.ws++_).length<=_;rw[W1];omega
 .omega
theorem jD: ∀(l:List Lit) (i:Nat),i<l.length->Lit.aE (l.take i)+(l.getD i co).size<=Lit.aE l
 | [],i,h=>by simp at h
 |s::r,0,_=>by simp[Lit.aE]
 |s::r,i+1,h=>by
  have:=jD r i (by simpa using h);simp only[Yq,Yt,Lit.aE];omega
theorem Lit.vm(l:List Lit)(i:Nat)(h:i<l.length):Lit.aE (l.take (i+1))=Lit.aE (l.take i)+(l.getD i co).size:=by
 rw[bT h];have: ∀(a:List Lit) (b:Lit),Lit.aE (a++ [b])=Lit.aE a+b.size:=by
  intro a b
  induction a with
  |nil=>simp[Lit.aE]
  |cons x r ih=>simp only[Xp,Lit.aE,ih];omega
 exact this _ _
theorem we(p:Prog)(r:aw)(i:Int)(t:TS)(j:List Lit): ∀k,k<=j.length->(qZ p r i t j k).ws.length<=t.ws.length+Lit.aE (j.take k)
 |0,_=>by simp[qZ,Lit.aE]
 |k+1,h=>by
  have h1:=we p r i t j k (by omega);have u:=E7 p r i i (qZ p r i t j k) (j.getD k co);rw[qZ,Lit.vm j k (by omega)];omega
theorem H3(p:Prog)(r:aw)(i:Int)(t:TS)(l:Lit):(stepT p r i t l).ws.length<=t.ws.length+l.size:=by
 have j:=l.size_eq;unfold stepT;split
 .have h1:=we p r i (xl r i t l.dZ l.bJ l.ky) l.az l.az.length (W8 _);have u:=Es r i t l.dZ l.bJ l.ky;rw[Yk]at h1;omega
 .exact E7 p r i (-1) t l
theorem wR(p:Prog)(r:aw): ∀k,k<=r.body.length->(fh p r k).ws.length<=r.head.an.length+Lit.aE (r.body.take k)
 |0,_=>by
  have:=nW p r r.head (-1) (-1) r.head.an.length;show([]++_).length<=_;simp only[Xq];omega
 |k+1,h=>by
  have h1:=wR p r k (by omega);have j:=H3 p r k (fh p r k) (r.body.getD k co);rw[fh,Lit.vm r.body k (by omega)];omega
theorem Wt(r:aw)(j:UM)(u:KM)(W:IV)(v0:cF)(ok:jg j):bh prog 226 [.ptr 0 0,ag v0.c] [.cells [.iv (cM r),.mp 1,.iv W,.mp 2],p5 j,qk u] (ag (bX j v0).c) [(0,io (.cells [.iv (cM r),.mp 1,.iv W,.mp 2])),(1,io (p5 j)),(2,io (qk u))] 3:=by
 refine ak ab func226 Z (by decide) ntmps226 Z (by simp) ?_;refine gA Z ?_
 refine iF (σ:={v:cF//bX j v=bX j v0}) (fun v=>⟨[(0,.ptr 0 0),(3,.ptr 3 0),(4,.ptr 4 0)],
  [(0,io (.cells [.iv (cM r),.mp 1,.iv W,.mp 2])),(1,io (p5 j)),(2,io (qk u)),(3,io (.cells [pS v.1.1,pI v.1.2])),(4,io (.cells [pS ⟨#[]⟩,pI 0]))],5⟩) (fun v=>F0 j v.1) ⟨v0,rfl⟩ []
  (zW (zO (zC (zC ⟨⟨_,rfl,.of_eq Z⟩,WY Z,rfl,⟨_,rfl,.of_eq Z⟩,WY Z,rfl,ac⟩)))) fun v=>?_
 obtain⟨v,y⟩:=v;refine zJ Z Z (fun g=>?_) fun g=>?_
 .have h:dA (.si .i64) j v=kw:=by simpa using g
  have e:bX j v0=v:=by rw[<-y];exact rI j v h
  refine gA Z (zD [] Z (zM ⟨.of_eq (congrArg (fun x:cF=>ag x.c) e.symm),rfl,ac⟩ (zO (zC (zC ac)))))
 .have h:dA (.si .i64) j v=jp:=by simpa using g
  obtain⟨h1,A⟩:=oD j v ok h;refine gA Z ⟨⟨eh (.si .i64) j v cF.z,h1.trans y⟩,[],A,zW (zO (zC (zC ⟨⟨_,rfl,.of_eq Z⟩,WY Z,rfl,⟨_,rfl,.of_eq Z⟩,WY Z,rfl,ac⟩)))⟩
set_option maxHeartbeats 2000000 in
theorem c49(p:Prog)(r:aw)(hb:r.size<=100000000):Pure prog 187 [.iv (cX p),.iv (cM r)] (.iv (Rt r (ow p r))):=by
 unfold aw.size at hb;have b0:=Lit.aJ r.body;have i0:r.body.length<=Lit.aE r.body:=b0;refine ah ab func187 Z (by decide) ntmps187 Z (by simp) Z ?_;refine gM 14 Z (kR 2 2 5 Z Z ?_);refine bZ [] (t:=⟨[(0,.iv (cX p)),(1,.iv (cM r)),(5,.ptr 2 0)],[(2,io (TS.cell r 0 3 TS.o.ws.length 1)),(0,io (p5 TS.o.up)),(3,io (aS 5 TS.o.ws Want.c)),(1,io (qk TS.o.kind))],4⟩)
  (zW ⟨⟨_,rfl,.of_eq Z⟩,WY Z,rfl,⟨_,rfl,Np⟩,WY Z,ac,⟨_,rfl,.of_eq Z⟩,WY Z,eR _,⟨_,rfl,Nq⟩,WY Z,ac,ac⟩) ?_
 refine gA Z (Ck (d90 p r TS.o r.head (-1) (-1) (by show 0+_<=_;omega)) Z Z Z Z Z Z Z (by first|rfl|(rw[W1];rfl)|simp) (by first|rfl|(rw[Xg];rfl)|(simp only[Xg,Xf];rfl)) Z Z Z Z Z Z ?_);refine gA Z ?_
 refine aN 0 r.body.length (Xc _) (fun i=>⟨[(0,.iv (cX p)),(1,.iv (cM r)),(5,.ptr 2 0),(31,.iv (lits r.body)),(32,pI r.body.length),(33,pI i)],
  [(2,io (TS.cell r 0 5 (fh p r i).ws.length 1)),(0,io (p5 (fh p r i).up)),(5,io (aS 5 (fh p r i).ws Want.c)),(1,io (qk (fh p r i).kind))],6⟩) (fun _=>True) _ ac
  (OL (t:=fh p r 0) Z Z Z Z Z Z Z Z Z Z Z (bi (bi (bi (bi (bi (bi trivial))))))) fun i hi _=>?_
 have f0:=wR p r i hi;have hok:=As p r i;refine zJ Z Z (fun h1=>?_) fun h1=>?_
 .have h1:i<r.body.length:=by simpa using h1
  have k0:=jD r.body i h1;have hs:fh p r (i+1)=stepT p r i (fh p r i) (r.body.getD i co):=rfl;generalize fh p r i=t1 at*
  have m0:=(r.body.getD i co).size_eq;refine zJ Z Z (fun A=>?_) fun A=>?_
  .have A: ¬(r.body.getD i co).kind=4:=by have g:(!lc ((r.body.getD i co).kind=4))=jp:=A;simpa only[Ye,decide_eq_false_iff_not]using g
   have hS:stepT p r i t1 (r.body.getD i co)=pT p r i (-1) t1 (r.body.getD i co):=be A;rw[hS]at hs;refine gA Z (Fo (d91 p r t1 (r.body.getD i co) i (-1) hok (by omega)) ?_);refine gA Z ⟨h1,ac,_,qt (hs.symm)⟩
  have A:(r.body.getD i co).kind=4:=by have g:(!lc ((r.body.getD i co).kind=4))=kw:=A;simpa only[YR,decide_eq_true_eq]using g
  have hS:stepT p r i t1 (r.body.getD i co)=qZ p r i (xl r i t1 (r.body.getD i co).dZ (r.body.getD i co).bJ (r.body.getD i co).ky) (r.body.getD i co).az (r.body.getD i co).az.length:=am A;rw[hS]at hs;have J:xl r i t1 (r.body.getD i co).dZ (r.body.getD i co).bJ (r.body.getD i co).ky=if(r.body.getD i co).dZ=2 then(t1.add (gJ r i i (r.body.getD i co).ky)).add (gJ r i i (pP (r.body.getD i co).bJ)) else if(r.body.getD i co).dZ=1 then t1.add (gJ r i i (pP (r.body.getD i co).bJ)) else ju r i i t1 (pP (r.body.getD i co).bJ) (r.body.getD i co).ky:=rfl;have y:=HF r i hok (r.body.getD i co).dZ (r.body.getD i co).bJ (r.body.getD i co).ky;have g0:=Es r i t1 (r.body.getD i co).dZ (r.body.getD i co).bJ (r.body.getD i co).ky;have a0:=Lit.aJ (r.body.getD i co).az;have n0:=l9 (r.body.getD i co).bJ;have j0:=iU r i i (r.body.getD i co).ky;generalize xl r i t1 (r.body.getD i co).dZ (r.body.getD i co).bJ (r.body.getD i co).ky=V at*
  refine zJ Z Z (fun f2=>?_) fun f2=>?_
  .have f2:(r.body.getD i co).dZ=2:=zT f2;have I:V=(t1.add (gJ r i i (r.body.getD i co).ky)).add (gJ r i i (pP (r.body.getD i co).bJ)):=by rw[J,am f2]
   refine gA Z (Fo (Kb r t1 (r.body.getD i co).ky i i (by omega)) ?_);refine gA Z (Ck (bh.le (aa:=[.ptr 0 0,KX (r.body.getD i co).bJ,pI i,pI i]) (Kb r (t1.add (gJ r i i (r.body.getD i co).ky)) (pP (r.body.getD i co).bJ) i i (by show(t1.ws++_).length+_<=_;rw[W1,l9];omega)) ⟨.refl _,y6 _,.refl _,.refl _,ac⟩) Z Z Z Z Z Z Z (by first|rfl|(rw[W1];rfl)|simp) (by first|rfl|(rw[Xg];rfl)|(simp only[Xg,Xf];rfl)) Z Z Z Z Z Z ?_);refine gA Z ?_;refine aN 0 (r.body.getD i co).az.length (Xc _) (fun k=>⟨[(0,.iv (cX p)),(1,.iv (cM r)),(5,.ptr 2 0),(6,pI i),(31,.iv (lits r.body)),(32,pI r.body.length),(33,pI i),(79,.iv (lits (r.body.getD i co).az)),(80,pI (r.body.getD i co).az.length),(81,pI k)],[(2,io (TS.cell r 0 10 (qZ p r i V (r.body.getD i co).az k).ws.length 1)),(0,io (p5 (qZ p r i V (r.body.getD i co).az k).up)),(10,io (aS 5 (qZ p r i V (r.body.getD i co).az k).ws Want.c)),(1,io (qk (qZ p r i V (r.body.getD i co).az k).kind))],11⟩) (fun _=>True) _ ac
    (OL I.symm Z Z Z Z Z Z Z Z Z Z (bi (bi (bi (bi (bi (bi (bi ⟨.iv (nB _),rfl,bi (bi trivial)⟩)))))))) fun k hk _=>?_
   have B:=we p r i V (r.body.getD i co).az k hk;have u:=Cg p r i y (r.body.getD i co).az k;have D:qZ p r i V (r.body.getD i co).az (k+1)=pT p r i i (qZ p r i V (r.body.getD i co).az k) ((r.body.getD i co).az.getD k co):=rfl;refine zJ Z Z (fun j=>?_) fun j=>?_
   .have j:k<(r.body.getD i co).az.length:=zN j;have G:=jD (r.body.getD i co).az k j;refine gA Z (Fo (d91 p r (qZ p r i V (r.body.getD i co).az k) ((r.body.getD i co).az.getD k co) i i u (by omega)) ?_);refine gA Z ⟨j,ac,_,qt (rfl)⟩
   .have j:(r.body.getD i co).az.length<=k:=zG j;have x:k=(r.body.getD i co).az.length:=by omega
    subst x;refine gA Z ⟨h1,ac,_,qt (hs.symm)⟩
  have f2: ¬(r.body.getD i co).dZ=2:=zF f2;rw[be f2]at J;refine zJ Z Z (fun f1=>?_) fun f1=>?_
  .have f1:(r.body.getD i co).dZ=1:=zT f1;have I:V=t1.add (gJ r i i (pP (r.body.getD i co).bJ)):=by rw[J,am f1]
   refine gA Z (Fo (bh.le (aa:=[.ptr 0 0,KX (r.body.getD i co).bJ,pI i,pI i]) (Kb r t1 (pP (r.body.getD i co).bJ) i i (by rw[l9];omega)) ⟨.refl _,y6 _,.refl _,.refl _,ac⟩) ?_);refine gA Z ?_;refine aN 0 (r.body.getD i co).az.length (Xc _) (fun k=>⟨[(0,.iv (cX p)),(1,.iv (cM r)),(5,.ptr 2 0),(6,pI i),(31,.iv (lits r.body)),(32,pI r.body.length),(33,pI i),(79,.iv (lits (r.body.getD i co).az)),(80,pI (r.body.getD i co).az.length),(81,pI k)],[(2,io (TS.cell r 0 9 (qZ p r i V (r.body.getD i co).az k).ws.length 1)),(0,io (p5 (qZ p r i V (r.body.getD i co).az k).up)),(9,io (aS 5 (qZ p r i V (r.body.getD i co).az k).ws Want.c)),(1,io (qk (qZ p r i V (r.body.getD i co).az k).kind))],10⟩) (fun _=>True) _ ac
    (OL I.symm Z Z Z Z Z Z Z Z Z Z (bi (bi (bi (bi (bi (bi (bi ⟨.iv (nB _),rfl,bi (bi trivial)⟩)))))))) fun k hk _=>?_
   have B:=we p r i V (r.body.getD i co).az k hk;have u:=Cg p r i y (r.body.getD i co).az k;have D:qZ p r i V (r.body.getD i co).az (k+1)=pT p r i i (qZ p r i V (r.body.getD i co).az k) ((r.body.getD i co).az.getD k co):=rfl;refine zJ Z Z (fun j=>?_) fun j=>?_
   .have j:k<(r.body.getD i co).az.length:=zN j;have G:=jD (r.body.getD i co).az k j;refine gA Z (Fo (d91 p r (qZ p r i V (r.body.getD i co).az k) ((r.body.getD i co).az.getD k co) i i u (by omega)) ?_);refine gA Z ⟨j,ac,_,qt (rfl)⟩
   .have j:(r.body.getD i co).az.length<=k:=zG j;have x:k=(r.body.getD i co).az.length:=by omega
    subst x;refine gA Z ⟨h1,ac,_,qt (hs.symm)⟩
  .have f1: ¬(r.body.getD i co).dZ=1:=zF f1;have I:V=ju r i i t1 (pP (r.body.getD i co).bJ) (r.body.getD i co).ky:=by rw[J,be f1]
   refine gA Z (Fo (bh.le (aa:=[.ptr 0 0,KX (r.body.getD i co).bJ,ag (r.body.getD i co).ky.c,pI i,pI i]) (d93 r t1 (pP (r.body.getD i co).bJ) (r.body.getD i co).ky i i hok (by rw[l9];omega)) ⟨.refl _,y6 _,.refl _,.refl _,.refl _,ac⟩) ?_);refine gA Z ?_;refine aN 0 (r.body.getD i co).az.length (Xc _) (fun k=>⟨[(0,.iv (cX p)),(1,.iv (cM r)),(5,.ptr 2 0),(6,pI i),(31,.iv (lits r.body)),(32,pI r.body.length),(33,pI i),(79,.iv (lits (r.body.getD i co).az)),(80,pI (r.body.getD i co).az.length),(81,pI k)],[(2,io (TS.cell r 0 9 (qZ p r i V (r.body.getD i co).az k).ws.length 1)),(0,io (p5 (qZ p r i V (r.body.getD i co).az k).up)),(9,io (aS 5 (qZ p r i V (r.body.getD i co).az k).ws Want.c)),(1,io (qk (qZ p r i V (r.body.getD i co).az k).kind))],10⟩) (fun _=>True) _ ac
    (OL I.symm Z Z Z Z Z Z Z Z Z Z (bi (bi (bi (bi (bi (bi (bi ⟨.iv (nB _),rfl,bi (bi trivial)⟩)))))))) fun k hk _=>?_
   have B:=we p r i V (r.body.getD i co).az k hk;have u:=Cg p r i y (r.body.getD i co).az k;have D:qZ p r i V (r.body.getD i co).az (k+1)=pT p r i i (qZ p r i V (r.body.getD i co).az k) ((r.body.getD i co).az.getD k co):=rfl;refine zJ Z Z (fun j=>?_) fun j=>?_
   .have j:k<(r.body.getD i co).az.length:=zN j;have G:=jD (r.body.getD i co).az k j;refine gA Z (Fo (d91 p r (qZ p r i V (r.body.getD i co).az k) ((r.body.getD i co).az.getD k co) i i u (by omega)) ?_);refine gA Z ⟨j,ac,_,qt (rfl)⟩
   .have j:(r.body.getD i co).az.length<=k:=zG j;have x:k=(r.body.getD i co).az.length:=by omega
    subst x;refine gA Z ⟨h1,ac,_,qt (hs.symm)⟩
 .have h1:r.body.length<=i:=by simpa using h1
  have c0:i=r.body.length:=by omega
  subst c0;have hT:ow p r=⟨(fh p r r.body.length).up,(fh p r r.body.length).ws,(fh p r r.body.length).ws.foldl (cR (fh p r r.body.length).up) []⟩:=rfl;rw[hT];rw[Yk]at f0;have d0:(fh p r r.body.length).kind=[]:=yT p r _;generalize fh p r r.body.length=t1 at*
  have Y:t1.kind=(t1.ws.take 0).foldl (cR t1.up) []:=d0;refine gA Z ?_;refine iY 5 (fun k=>Want.c (t1.ws.getD k co)) Z (cG Z) (by simp[AF.kK,PV.aZ,mT]) ⟨(by simp[AO.kK,aY,PV.aZ]),ac,de _ _ _ _ _ _,ac,ac⟩ ?_
  refine aN 0 t1.ws.length (Xc _) (fun i=>⟨[(5,.ptr 2 0),(96,.iv (aT 5 t1.ws Want.c)),(97,pI t1.ws.length),(98,pI i)],
   [(2,io (.cells [.iv (cM r),.mp 0,.iv (aT 5 t1.ws Want.c),.mp 1])),(0,io (p5 t1.up)),(1,io (qk ((t1.ws.take i).foldl (cR t1.up) [])))],6⟩) (fun _=>True) [] ac
   (zM (bi ⟨.bI Z (fun k _=>by rw[Xo]),rfl,bi (bi trivial)⟩) ⟨⟨_,rfl,.cells ⟨.refl _,.refl _,.bI Z (fun k _=>by rw[Xo]),.refl _,ac⟩⟩,WY Z,rfl,zC (hM Z Y Z trivial)⟩) fun i hi _=>?_
  refine zJ Z Z (fun j=>?_) fun j=>?_
  .have j:i<t1.ws.length:=zN j;have hf:=iG (g:=cR t1.up) (b:=[]) j;refine gA Z (zq [2,0,1] (Wt r t1.up ((t1.ws.take i).foldl (cR t1.up) []) (aT 5 t1.ws Want.c) (t1.ws.getD i co).at_ hok) ?_);refine zJ Z Z (fun g1=>?_) fun g1=>?_
   .have g1:(t1.ws.getD i co).has=0:=zT g1;refine zJ Z Z (fun g2=>?_) fun g2=>?_
    .have g2:eh (.si .i64) ((t1.ws.take i).foldl (cR t1.up) []) (bX t1.up (t1.ws.getD i co).at_) 0=0:=zT g2;have hk:cR t1.up ((t1.ws.take i).foldl (cR t1.up) []) (t1.ws.getD i co)=cS (.si .i64) ((t1.ws.take i).foldl (cR t1.up) []) (bX t1.up (t1.ws.getD i co).at_) (t1.ws.getD i co).kind:=am ⟨g1,g2⟩;rw[hk]at hf;refine gA Z ⟨j,ac,[],zW (zO (zC (hM Z (by first|exact hf.symm|(rw[hf];rfl)) Z ac)))⟩
    .have g2: ¬eh (.si .i64) ((t1.ws.take i).foldl (cR t1.up) []) (bX t1.up (t1.ws.getD i co).at_) 0=0:=zF g2;have hk:cR t1.up ((t1.ws.take i).foldl (cR t1.up) []) (t1.ws.getD i co)=(t1.ws.take i).foldl (cR t1.up) []:=be fun h=>g2 h.2;rw[hk]at hf;refine gA Z ⟨j,ac,[],zW (zO (zC (hM Z (by first|exact hf.symm|(rw[hf];rfl)) Z ac)))⟩
   .have g1: ¬(t1.ws.getD i co).has=0:=zF g1;have hk:cR t1.up ((t1.ws.take i).foldl (cR t1.up) []) (t1.ws.getD i co)=(t1.ws.take i).foldl (cR t1.up) []:=be fun h=>g1 h.1;rw[hk]at hf;refine gA Z ⟨j,ac,[],zW (zO (zC (hM Z (by first|exact hf.symm|(rw[hf];rfl)) Z ac)))⟩
  .have j:t1.ws.length<=i:=zG j;have e0:t1.ws.take i=t1.ws:=Xh j;refine gl Z ac (fp (.inr Z) Z (.map 0 Z (.map 1 Z (.cells 2 _ Z (show _=List.map PV.iv [cM r,upI t1.up,aT 5 t1.ws Want.c,kdI (t1.ws.foldl (cR t1.up) [])] by rw[e0];rfl) (.done (.of_eq Z))))))
def u0(a:Atom):Bool:=(iK WS.o a).bad
def th(l:Lit):Bool:=(dF l.size l WS.o).bad
def u6(l:Lit):Bool:=lc (l.kind=4)&&lc ((l.az.length:Int)>12)
def jj(n:Nat):List Int:=(XC (n+1)).map fun k:Nat=>(k:Int)-1
theorem tg(n:Nat):(jj n).length=n+1:=by simp[jj]
theorem yo(n k:Nat)(h:k<n+1):(jj n).getD k co=(k:Int)-1:=by simp[jj,h]
def D4(f:Int->Bool)(n:Nat):Option Int:=(jj n).find? f
abbrev gF:=Int×Pos
def gF.c(d:gF):List IV:=[iI d.1,iI d.2.line,iI d.2.KT]
def oN(r:aw)(e:Int)(f:Int->Bool)(k:gF):gF:=match D4 f r.body.length with
 |some lit=>(e,s5 r lit)
 |none=>k
def z8(p:Prog)(r:aw):gF:=
 oN r 61 (fun lit=>(fO r lit).any fun x=>xc p x)<|oN r 62 (fun lit=>(fO r lit).any fun x=>Ay p x)<|oN r 65 (mZ r)<|oN r 63 (sI (ow p r))<|oN r 64 (lT r) (0,⟨0,0⟩)
def xV(p:Prog)(r:aw)(n:Int):gF:=
 if u0 r.head=jp then(1,r.at_) else match r.body.find? th with
 |some l=>(1,l.at)
 |none=>if n>256∨(r.body.length:Int)>12 then(66,r.at_) else if(H8 r:Int)>24 then(66,r.at_) else match r.body.find? u6 with
  |some l=>(66,l.at)
  |none=>z8 p r
def aw.fit(r:aw):Prop:=r.size<=10000000∧r.head.ts<=900000000∧ ∀l∈r.body,l.ts<=900000000
theorem mJ{α:Type}{p:α->Bool}{l:List α}(h:l.any p=kw):l.find? p=is:=by
 rw[Zb];intro x j;have:=XX.1 h x j;simpa using this
theorem oU{α:Type}[Inhabited α]{p:α->Bool}{l:List α}{i:Nat}(h:(l.take i).any p=kw)(hi:i<l.length)(hp:p (l.getD i co)=jp):l.find? p=io (l.getD i co):=by
 have u:l.getD i co=l[i]:=by simp[hi]
 rw[u]at hp ⊢;rw[List.find?_eq_some_iff_getElem];refine⟨hp,i,hi,rfl,fun j x=>?_⟩;have:=XX.1 h l[j] (List.mem_iff_getElem?.2 ⟨j,by rw[XK,am x,W5 (by omega)]⟩);simpa using this
def jL(p:Prog)(r:aw):List (List PV):=[[pI 61,.cB (.func 179) [] [.ptr 1 0,.ptr 0 0]],[pI 62,.cB (.func 183) [] [.ptr 1 0,.ptr 0 0]],[pI 65,.cB (.func 185) [] [.ptr 1 0]],[pI 63,.cB (.func 188) [.iv (Rt r (ow p r))] []],[pI 64,.cB (.func 189) [.iv (cM r)] []]]
theorem cJ(p:Prog)(r:aw)(n:Nat)(h:Xx 1 n=jp):(AO.row 2 (jL p r)).low n:=by
 have j:Xx 0 n=jp:=X0 (by have:=WY h;omega);intro k e hk
 match k,hk with
 |0,hk=>cases hk;simp[bu,PV.low,h,j]
 |1,hk=>cases hk;simp[bu,PV.low,h,j]
 |2,hk=>cases hk;simp[bu,PV.low,h,j]
 |3,hk=>cases hk;simp[bu,PV.low,h,j]
 |4,hk=>cases hk;simp[bu,PV.low,h,j]
 |k+5,hk=>simp[jL]at hk
theorem oM{r:aw}{e:Int}{f:Int->Bool}{k:gF}{i:Nat}(j:((jj r.body.length).take i).any f=kw)(hi:i<r.body.length+1)(h:f ((i:Int)-1)=jp):oN r e f k=(e,s5 r ((i:Int)-1)):=by
 have h1:=yo r.body.length i hi;have:=oU j (by rw[tg];exact hi) (by rw[h1];exact h);rw[h1]at this;rw[oN,D4,this]
theorem mz{r:aw}{e:Int}{f:Int->Bool}{k:gF}{i:Nat}(j:((jj r.body.length).take i).any f=kw)(hi:r.body.length+1<=i):oN r e f k=k:=by
 rw[Xh (by rw[tg];exact hi)]at j;rw[oN,D4,mJ j]
theorem my{r:aw}{f:Int->Bool}{i:Nat}(j:((jj r.body.length).take i).any f=kw)(hi:i<r.body.length+1)(h:f ((i:Int)-1)=kw):((jj r.body.length).take (i+1)).any f=kw:=by
 refine(c7 j (by rw[tg];exact hi)).2 ?_;rw[yo _ _ hi];exact h
set_option maxHeartbeats 4000000 in
theorem c65(p:Prog)(r:aw)(n:Int)(hb:r.fit):Pure prog 128 [.iv (cX p),ag r.c,pI n] (ag (xV p r n).c):=by
 obtain⟨hb,J,Y⟩:=hb;have d0:r.size=r.head.an.length+Lit.aE r.body:=rfl;have b0:=Lit.aJ r.body;refine ah ab func128 Z (by decide) ntmps128 Z (by simp) Z ?_;refine gA Z (zp (c61 r.head J) ?_);refine zJ Z Z (fun g1=>?_) fun g1=>?_
 .have g1:u0 r.head=jp:=by
   cases h:u0 r.head with
   |true=>rfl
   |false=>
    have h:(iK WS.o r.head).bad=kw:=h;rw[h]at g1;simp at g1
  rw[xV,am g1];exact zU Z
 have g1: ¬u0 r.head=jp:=by
  intro h;have h:(iK WS.o r.head).bad=jp:=h;rw[h]at g1;simp at g1
 rw[xV,be g1];refine gA Z ?_;refine aN 0 r.body.length (Xc _) (fun i=>⟨[(2,pI n),(3,.ptr 0 0),(4,.ptr 1 0),(6,.ptr 2 0),(32,.iv (lits r.body)),(33,pI r.body.length),(34,pI i)],[(0,io (.cells [.iv (cX p)])),(1,io (ax r.c)),(2,io (.cells [pI 0,pI 0,pI 0]))],3⟩) (fun i=>(r.body.take i).any th=kw) [] (by simp)
  (zW ⟨⟨_,rfl,.of_eq Z⟩,WY Z,rfl,⟨_,rfl,.of_eq Z⟩,WY Z,rfl,⟨_,rfl,.of_eq Z⟩,WY Z,rfl,ac⟩) fun i hi y=>?_
 refine zJ Z Z (fun h1=>?_) fun h1=>?_
 .have h1:i<r.body.length:=zN h1;have I:=c7 y h1;have hm:r.body.getD i co∈r.body:=by rw[W2,W5 h1];exact XS h1
  have c0:=Lit.bU r.body i h1;refine gA Z (aF (WN (r.body.getD i co) (Y _ hm) (by omega)) Z Z Z Z Z Z ?_);refine zJ Z Z (fun B=>?_) fun B=>?_
  .have B:th (r.body.getD i co)=jp:=by
    cases h:th (r.body.getD i co) with
    |true=>rfl
    |false=>
     have h:(dF (r.body.getD i co).size (r.body.getD i co) WS.o).bad=kw:=h;have g:(!lc ((if(dF (r.body.getD i co).size (r.body.getD i co) WS.o).bad=jp then(50:Int) else 0)=0))=jp:=B;rw[h]at g;simp at g
   rw[oU y h1 B];exact zU Z
  .have B:th (r.body.getD i co)=kw:=by
    cases h:th (r.body.getD i co) with
    |false=>rfl
    |true=>
     have h:(dF (r.body.getD i co).size (r.body.getD i co) WS.o).bad=jp:=h;have g:(!lc ((if(dF (r.body.getD i co).size (r.body.getD i co) WS.o).bad=jp then(50:Int) else 0)=0))=kw:=B;rw[h]at g;simp at g
   refine gA Z ⟨h1,I.2 B,[],zW ⟨⟨_,rfl,.of_eq Z⟩,WY Z,rfl,⟨_,rfl,.of_eq Z⟩,WY Z,rfl,⟨_,rfl,.of_eq Z⟩,WY Z,rfl,ac⟩⟩
 have h1:r.body.length<=i:=zG h1;rw[Xh h1]at y;rw[mJ y];refine zE Z Z (fun g2=>?_) fun g2=>?_
 .have g2:n>256:=by simpa using g2
  rw[am (.inl g2)];exact zU Z
 have g2: ¬n>256:=zF g2;refine zJ Z Z (fun g3=>?_) fun g3=>?_
 .rw[am (.inr (zT g3))];exact zU Z
 have g3: ¬(r.body.length:Int)>12:=zF g3;rw[be (by rintro(h|h);exact g2 h;exact g3 h)];refine gA Z (zp (c48 r (by omega)) ?_);refine gA Z (zp (WM r (by omega)) ?_);refine zJ Z Z (fun g4=>?_) fun g4=>?_
 .rw[am (zT g4)];exact zU Z
 have g4: ¬(H8 r:Int)>24:=zF g4;rw[be g4];refine gA Z ?_;refine aN 0 r.body.length (Xc _) (fun i=>⟨[(3,.ptr 0 0),(4,.ptr 1 0),(6,.ptr 2 0),(13,.iv (cM r)),(69,.iv (lits r.body)),(70,pI r.body.length),(71,pI i)],[(0,io (.cells [.iv (cX p)])),(1,io (ax r.c)),(2,io (.cells [pI 0,pI 0,pI 0]))],3⟩) (fun i=>(r.body.take i).any u6=kw) [] (by simp)
  (zW ⟨⟨_,rfl,.of_eq Z⟩,WY Z,rfl,⟨_,rfl,.of_eq Z⟩,WY Z,rfl,⟨_,rfl,.of_eq Z⟩,WY Z,rfl,ac⟩) fun i hi y=>?_
 refine zJ Z Z (fun B=>?_) fun B=>?_
 .have B:i<r.body.length:=zN B;have I:=c7 y B;refine zJ Z Z (fun D=>?_) fun D=>?_
  .have D:(r.body.getD i co).kind=4:=zT D;refine zJ Z Z (fun G=>?_) fun G=>?_
   .have G:u6 (r.body.getD i co)=jp:=by rw[u6,decide_eq_true D];exact G
    rw[oU y B G];exact zU Z
   .have G:u6 (r.body.getD i co)=kw:=by rw[u6,decide_eq_true D];exact G
    refine gA Z ⟨B,I.2 G,[],zW ⟨⟨_,rfl,.of_eq Z⟩,WY Z,rfl,⟨_,rfl,.of_eq Z⟩,WY Z,rfl,⟨_,rfl,.of_eq Z⟩,WY Z,rfl,ac⟩⟩
  .have D: ¬(r.body.getD i co).kind=4:=zF (by have g:lc ((r.body.getD i co).kind=4)=kw:=D;exact g);refine gA Z ⟨B,I.2 (by rw[u6,decide_eq_false D];rfl),[],zW ⟨⟨_,rfl,.of_eq Z⟩,WY Z,rfl,⟨_,rfl,.of_eq Z⟩,WY Z,rfl,⟨_,rfl,.of_eq Z⟩,WY Z,rfl,ac⟩⟩
 have B:r.body.length<=i:=zG B;rw[Xh B]at y;rw[mJ y];refine gA Z (zp (c49 p r (by omega)) ?_);refine gA Z ?_;refine bZ [] (t:=⟨[(3,.ptr 0 0),(4,.ptr 1 0),(6,.ptr 2 0),(104,.sl 3 0 5 2),(105,pI 5),(106,pI 0)],[(0,io (.cells [.iv (cX p)])),(1,io (ax r.c)),(2,io (.cells [pI 0,pI 0,pI 0])),(3,io (.row 2 (jL p r)))],4⟩)
  (zW (zO (zO (zO ⟨⟨_,rfl,.of_eq Z⟩,WY Z,cJ p r _ Z,ac⟩)))) ?_
 have a0:(ow p r).ws.length<=1000000000000:=by have:=wR p r r.body.length (W8 _);rw[Yk]at this;show(fh p r r.body.length).ws.length<=_;omega
 rw[z8];refine nL (n:=6) ?_;refine zE Z Z (fun q=>?_) fun q=>?_
 .exact absurd (show jp=kw from q) (by decide)
 refine gA Z ?_;refine aN 0 (r.body.length+1) (Xc _) (fun k=>⟨[(3,.ptr 0 0),(4,.ptr 1 0),(6,.ptr 2 0),(18,.ptr 4 0),(19,pI ((k:Int)-1)),(104,.sl 3 0 5 2),(105,pI 5),(106,pI 0)],[(0,io (.cells [.iv (cX p)])),(1,io (ax r.c)),(2,io (.cells [pI 0,pI 0,pI 0])),(3,io (.row 2 (jL p r))),(4,io (.cells [pI 61,.cB (.func 179) [] [.ptr 1 0,.ptr 0 0]]))],5⟩) (fun k=>((jj r.body.length).take k).any (fun lit=>(fO r lit).any fun x=>xc p x)=kw) [] Z
  (zW (zO (zO (zO ⟨⟨_,rfl,.of_eq Z⟩,WY Z,cJ p r _ Z,(zO trivial)⟩)))) fun k hk y=>?_
 refine zJ Z Z (fun u=>?_) fun u=>?_
 .have u:(k:Int)-1<r.body.length:=zT u;have j:k<r.body.length+1:=by omega
  refine gA Z (zq [1,0] (d110 p r ((k:Int)-1) (by omega) (by omega)) ?_);refine zJ Z Z (fun A=>?_) fun A=>?_
  .rw[oM y j A];refine gA Z (Ej (Kt r ((k:Int)-1) u) ?_);exact zU Z
  .refine gA Z ?_;exact⟨j,my y j A,[],zM (bi (bi (bi (bi ⟨.of_eq (Hx (by omega)),rfl,bi (bi (bi ac))⟩)))) (zO (zO (zO ⟨⟨_,rfl,.of_eq Z⟩,WY Z,cJ p r _ Z,(zO ac)⟩)))⟩
 have u: ¬(k:Int)-1<r.body.length:=zF u;rw[mz y (by omega)];clear y hk u;refine zE Z Z (fun q=>?_) fun q=>?_
 .exact absurd (show jp=kw from q) (by decide)
 refine gA Z ?_;refine aN 0 (r.body.length+1) (Xc _) (fun k=>⟨[(3,.ptr 0 0),(4,.ptr 1 0),(6,.ptr 2 0),(18,.ptr 5 0),(19,pI ((k:Int)-1)),(104,.sl 3 0 5 2),(105,pI 5),(106,pI 1)],[(0,io (.cells [.iv (cX p)])),(1,io (ax r.c)),(2,io (.cells [pI 0,pI 0,pI 0])),(3,io (.row 2 (jL p r))),(5,io (.cells [pI 62,.cB (.func 183) [] [.ptr 1 0,.ptr 0 0]]))],6⟩) (fun k=>((jj r.body.length).take k).any (fun lit=>(fO r lit).any fun x=>Ay p x)=kw) [] Z
  (zW (zO (zO (zO ⟨⟨_,rfl,.of_eq Z⟩,WY Z,cJ p r _ Z,(zO trivial)⟩)))) fun k hk y=>?_
 refine zJ Z Z (fun u=>?_) fun u=>?_
 .have u:(k:Int)-1<r.body.length:=zT u;have j:k<r.body.length+1:=by omega
  refine gA Z (zq [1,0] (d114 p r ((k:Int)-1) (by omega) (by omega)) ?_);refine zJ Z Z (fun A=>?_) fun A=>?_
  .rw[oM y j A];refine gA Z (Ej (Kt r ((k:Int)-1) u) ?_);exact zU Z
  .refine gA Z ?_;exact⟨j,my y j A,[],zM (bi (bi (bi (bi ⟨.of_eq (Hx (by omega)),rfl,bi (bi (bi ac))⟩)))) (zO (zO (zO ⟨⟨_,rfl,.of_eq Z⟩,WY Z,cJ p r _ Z,(zO ac)⟩)))⟩
 have u: ¬(k:Int)-1<r.body.length:=zF u;rw[mz y (by omega)];clear y hk u;refine zE Z Z (fun q=>?_) fun q=>?_
 .exact absurd (show jp=kw from q) (by decide)
 refine gA Z ?_;refine aN 0 (r.body.length+1) (Xc _) (fun k=>⟨[(3,.ptr 0 0),(4,.ptr 1 0),(6,.ptr 2 0),(18,.ptr 6 0),(19,pI ((k:Int)-1)),(104,.sl 3 0 5 2),(105,pI 5),(106,pI 2)],[(0,io (.cells [.iv (cX p)])),(1,io (ax r.c)),(2,io (.cells [pI 0,pI 0,pI 0])),(3,io (.row 2 (jL p r))),(6,io (.cells [pI 65,.cB (.func 185) [] [.ptr 1 0]]))],7⟩) (fun k=>((jj r.body.length).take k).any (mZ r)=kw) [] Z
  (zW (zO (zO (zO ⟨⟨_,rfl,.of_eq Z⟩,WY Z,cJ p r _ Z,(zO trivial)⟩)))) fun k hk y=>?_
 refine zJ Z Z (fun u=>?_) fun u=>?_
 .have u:(k:Int)-1<r.body.length:=zT u;have j:k<r.body.length+1:=by omega
  refine gA Z (zq [1] (d116 r ((k:Int)-1) (by omega) (by omega)) ?_);refine zJ Z Z (fun A=>?_) fun A=>?_
  .rw[oM y j A];refine gA Z (Ej (Kt r ((k:Int)-1) u) ?_);exact zU Z
  .refine gA Z ?_;exact⟨j,my y j A,[],zM (bi (bi (bi (bi ⟨.of_eq (Hx (by omega)),rfl,bi (bi (bi ac))⟩)))) (zO (zO (zO ⟨⟨_,rfl,.of_eq Z⟩,WY Z,cJ p r _ Z,(zO ac)⟩)))⟩
 have u: ¬(k:Int)-1<r.body.length:=zF u;rw[mz y (by omega)];clear y hk u;refine zE Z Z (fun q=>?_) fun q=>?_
 .exact absurd (show jp=kw from q) (by decide)
 refine gA Z ?_;refine aN 0 (r.body.length+1) (Xc _) (fun k=>⟨[(3,.ptr 0 0),(4,.ptr 1 0),(6,.ptr 2 0),(18,.ptr 7 0),(19,pI ((k:Int)-1)),(104,.sl 3 0 5 2),(105,pI 5),(106,pI 3)],[(0,io (.cells [.iv (cX p)])),(1,io (ax r.c)),(2,io (.cells [pI 0,pI 0,pI 0])),(3,io (.row 2 (jL p r))),(7,io (.cells [pI 63,.cB (.func 188) [.iv (Rt r (ow p r))] []]))],8⟩) (fun k=>((jj r.body.length).take k).any (sI (ow p r))=kw) [] Z
  (zW (zO (zO (zO ⟨⟨_,rfl,.of_eq Z⟩,WY Z,cJ p r _ Z,(zO trivial)⟩)))) fun k hk y=>?_
 refine zJ Z Z (fun u=>?_) fun u=>?_
 .have u:(k:Int)-1<r.body.length:=zT u;have j:k<r.body.length+1:=by omega
  refine gA Z (aF (WK r (ow p r) ((k:Int)-1) (As p r _) a0) Z Z Z Z Z Z ?_);refine zJ Z Z (fun A=>?_) fun A=>?_
  .rw[oM y j A];refine gA Z (Ej (Kt r ((k:Int)-1) u) ?_);exact zU Z
  .refine gA Z ?_;exact⟨j,my y j A,[],zM (bi (bi (bi (bi ⟨.of_eq (Hx (by omega)),rfl,bi (bi (bi ac))⟩)))) (zO (zO (zO ⟨⟨_,rfl,.of_eq Z⟩,WY Z,cJ p r _ Z,(zO ac)⟩)))⟩
 have u: ¬(k:Int)-1<r.body.length:=zF u;rw[mz y (by omega)];clear y hk u;refine zE Z Z (fun q=>?_) fun q=>?_
 .exact absurd (show jp=kw from q) (by decide)
 refine gA Z ?_;refine aN 0 (r.body.length+1) (Xc _) (fun k=>⟨[(3,.ptr 0 0),(4,.ptr 1 0),(6,.ptr 2 0),(18,.ptr 8 0),(19,pI ((k:Int)-1)),(104,.sl 3 0 5 2),(105,pI 5),(106,pI 4)],[(0,io (.cells [.iv (cX p)])),(1,io (ax r.c)),(2,io (.cells [pI 0,pI 0,pI 0])),(3,io (.row 2 (jL p r))),(8,io (.cells [pI 64,.cB (.func 189) [.iv (cM r)] []]))],9⟩) (fun k=>((jj r.body.length).take k).any (lT r)=kw) [] Z
  (zW (zO (zO (zO ⟨⟨_,rfl,.of_eq Z⟩,WY Z,cJ p r _ Z,(zO trivial)⟩)))) fun k hk y=>?_
 refine zJ Z Z (fun u=>?_) fun u=>?_
 .have u:(k:Int)-1<r.body.length:=zT u;have j:k<r.body.length+1:=by omega
  refine gA Z (zp (WJ r ((k:Int)-1) (by omega) (by omega)) ?_);refine zJ Z Z (fun A=>?_) fun A=>?_
  .rw[oM y j A];refine gA Z (Ej (Kt r ((k:Int)-1) u) ?_);exact zU Z
  .refine gA Z ?_;exact⟨j,my y j A,[],zM (bi (bi (bi (bi ⟨.of_eq (Hx (by omega)),rfl,bi (bi (bi ac))⟩)))) (zO (zO (zO ⟨⟨_,rfl,.of_eq Z⟩,WY Z,cJ p r _ Z,(zO ac)⟩)))⟩
 have u: ¬(k:Int)-1<r.body.length:=zF u;rw[mz y (by omega)];clear y hk u;refine zJ Z Z (fun q=>?_) fun q=>?_
 .exact absurd (show kw=jp from q) (by decide)
 exact zU Z
section
theorem jd:prog.cellsOf 3=1:=by kernel_rfl
theorem rj:prog.cellsOf 9=1:=by kernel_rfl
theorem uX:prog.cellsOf 59=3:=by kernel_rfl
theorem CK:prog.cellsOf 157=5:=by kernel_rfl
theorem Kp:prog.cellsOf 147=1:=by kernel_rfl
theorem wP:prog.cellsOf 149=2:=by kernel_rfl
theorem Ko:prog.cellsOf 192=1:=by kernel_rfl
theorem o6:prog.cellsOf 194=7:=by kernel_rfl
theorem CJ:prog.cellsOf 196=10:=by kernel_rfl
theorem CN:prog.cellsOf 150=1:=by kernel_rfl
theorem wM:prog.cellsOf 198=30:=by kernel_rfl
theorem uY:prog.cellsOf 55=2:=by kernel_rfl
theorem CL:prog.cellsOf 152=5:=by kernel_rfl
theorem Oe:prog.cellsOf 35=1:=by kernel_rfl
theorem FJ:prog.cellsOf 57=4:=by kernel_rfl
theorem Oi:prog.cellsOf 22=1:=by kernel_rfl
theorem Oh:prog.cellsOf 23=1:=by kernel_rfl
theorem Og:prog.cellsOf 25=2:=by kernel_rfl
theorem Oc:prog.cellsOf 60=1:=by kernel_rfl
theorem FI:prog.cellsOf 62=2:=by kernel_rfl
section
variable {H:Type}
abbrev bk(d:DataW H):Nat:=Rows.uptoBulk d
theorem Ee(d:DataW H):1<=bk d:=by
 cases d with
 |lit l=>cases l<;>simp[bk,Rows.uptoBulk]
 |nil=>simp[bk,Rows.uptoBulk]
 |ptr d=>simp[bk,Rows.uptoBulk]
 |slice elems spare=>simp[bk,Rows.uptoBulk]
 |agg parts=>simp[bk,Rows.uptoBulk]
 |iface t d=>simp[bk,Rows.uptoBulk]
 |map entries=>simp[bk,Rows.uptoBulk]
 |held h=>simp[bk,Rows.uptoBulk]
theorem tz(s:ByteArray):bk (DataW.lit (H:=H) (.string s.data.toList))=s.size+1:=by
 simp[bk,Rows.uptoBulk]
theorem _root_.Go.Al.QL.sum{α:Type}{Q:α->DataW H->Prop}{l:List α}{d:DataW H}(h:QL Q l d){f:α->Nat}{c:Nat}(hf: ∀x e,Q x e->f x<=c*bk e):(l.map f).sum<=c*bk d:=by
 obtain⟨j,hd,u,y⟩:=h;have key: ∀(l:List α) (j:List (DataW H)),l.length=j.length->(∀(i:Nat) (x:α) (e:DataW H),l[i]? =io x->j[i]? =io e->Q x e)->(l.map f).sum<=c*Rows.uptoBulkAll j:=by
  intro l
  induction l with
  |nil=>intro j _ _;simp
  |cons x r ih=>
   intro j hl y;cases j with
   |nil=>simp at hl
   |cons e j=>
    have h1:=hf x e (y 0 x e Z Z);have D:=ih j (by simpa using hl) fun i x e B A=>y (i+1) x e (by simpa using B) (by simpa using A);simp only[W7,Ym,Rows.uptoBulkAll,Nat.mul_add];simp only[bk]at h1;omega
 have h1:=key l j u y;rcases hd with⟨rfl,rfl⟩|⟨sp,rfl⟩
 .simp[Rows.uptoBulkAll]at h1;omega
 .refine X6 h1 (Nat.mul_le_mul_left c ?_);simp only[bk,Rows.uptoBulk];omega
theorem A3{α:Type}: ∀l:List α,(l.map fun _=>1).sum=l.length
 | []=>rfl
 |x::r=>by simp only[W7,Ym,Xy,A3 r];omega
theorem _root_.Go.Al.QL.len{α:Type}{Q:α->DataW H->Prop}{l:List α}{d:DataW H}(h:QL Q l d):l.length<=bk d:=by
 have:=h.sum (f:=fun _=>1) (c:=1) fun x e _=>by have:=Ee e;omega
 have e:=A3 l;omega
theorem _root_.Go.Al.QL.all{α:Type}{Q:α->DataW H->Prop}{l:List α}{d:DataW H}(h:QL Q l d): ∀x∈l,∃e,Q x e∧bk e<=bk d:=by
 intro x D;obtain⟨j,hd,A,B⟩:=h;obtain⟨i,hi,rfl⟩:=Y2.1 D;have u:i<j.length:=by omega
 refine⟨j[i],B i _ _ (W5 hi) (W5 u),?_⟩;have key: ∀(j:List (DataW H)),∀e∈j,bk e<=Rows.uptoBulkAll j:=by
  intro j
  induction j with
  |nil=>intro e he;cases he
  |cons y r ih=>
   intro e he;simp only[Rows.uptoBulkAll];rcases Xm.1 he with rfl|he
   .simp only[bk];omega
   .have:=ih e he;omega
 have h1:=key j j[i] (XS u);rcases hd with⟨rfl,rfl⟩|⟨sp,rfl⟩
 .simp at u
 .refine X6 h1 ?_;simp only[bk,Rows.uptoBulk];omega
end
theorem Expr.gx: ∀l:List Expr,Expr.aE l=(l.map Expr.size).sum
 | []=>rfl
 |e::r=>by simp only[Expr.aE,W7,Ym,Expr.gx r]
theorem Expr.pf: ∀l:List Expr,Expr.lk l=(l.map Expr.ts).sum
 | []=>rfl
 |e::r=>by simp only[Expr.lk,W7,Ym,Expr.pf r]
theorem Lit.gx: ∀l:List Lit,Lit.aE l=(l.map Lit.size).sum
 | []=>rfl
 |e::r=>by simp only[Lit.aE,W7,Ym,Lit.gx r]
theorem Lit.pf: ∀l:List Lit,Lit.lk l=(l.map Lit.ts).sum
 | []=>rfl
 |e::r=>by simp only[Lit.lk,W7,Ym,Lit.pf r]
section
variable {H:Type} {enc:TypeId×Value->H} {W:World} {hT:lN W} {sp:Nat->Bool} {held:Bool}
def QV(v:cW)(d:DataW H):Prop:=v.sym.size<=bk d
def QT(t:Term)(d:DataW H):Prop:=t.ts<=400*bk d
def QA(a:Atom)(d:DataW H):Prop:=a.ts<=400*bk d∧a.an.length<=bk d
def QE(e:Expr)(d:DataW H):Prop:=e.ts<=400*bk d∧e.size<=bk d
def QP(_:Pos)(_:DataW H):Prop:=True
def Pos.c(p:Pos):List IV:=[iI p.line,iI p.KT]
def QG(g:gU)(d:DataW H):Prop:=g.var.size+g.j9.ts+Lit.lk g.body<=400*bk d∧g.j9.size+Lit.aE g.body<=bk d
def QB(l:Lit)(d:DataW H):Prop:=l.ts<=400*bk d∧l.size<=bk d
theorem rd_val(n:Nat):Rd enc prog W hT sp held 59 cW.c QV n:=by
 intro m _ G y h;obtain⟨D,k,rfl,rfl,hl,A,hf⟩:=DataW.trod_struct underlying59 h
 match D,A with
 | [x0,x1,x2],_=>
  obtain⟨a,j,I,_⟩:=iR (hT:=hT) underlying3 k k (W8 _) _ _ (mI hf 0 Z Z Z jd Z);obtain⟨b,u,J,_⟩:=iR (hT:=hT) underlying3 k k (W8 _) _ _ (mI hf 1 Z Z Z jd Z);obtain⟨c,x,B,_⟩:=jn (hT:=hT) underlying9 k k (W8 _) _ _ (mI hf 2 Z Z Z rj Z);refine⟨⟨a,b,c⟩,j.eO (o':=1) Z (u.eO (o':=2) Z (x.eO (o':=3) Z (.end_ (hl.trans uX)))),?_⟩;simp only[QV,bk,W7,Xj,Rows.uptoBulk,Rows.uptoBulkAll];have:=tz (H:=H) c;rw[<-B]at this;simp only[bk]at this;omega
theorem Dy(n:Nat):Rd enc prog W hT sp held 55 Pos.c QP n:=by
 intro m _ B y h;obtain⟨A,k,rfl,rfl,hl,x,hf⟩:=DataW.trod_struct underlying55 h
 match A,x with
 | [x0,x1],_=>
  obtain⟨a,j,D,_⟩:=iR (hT:=hT) underlying3 k k (W8 _) _ _ (mI hf 0 Z Z Z jd Z);obtain⟨b,u,G,_⟩:=iR (hT:=hT) underlying3 k k (W8 _) _ _ (mI hf 1 Z Z Z jd Z);exact⟨⟨a,b⟩,j.eO (o':=1) Z (u.eO (o':=2) Z (.end_ (hl.trans uY))),ac⟩
theorem MS(n:Nat):Rd enc prog W hT sp held 157 Term.c QT n:=by
 intro m _ G y h;obtain⟨D,k,rfl,rfl,hl,A,hf⟩:=DataW.trod_struct underlying157 h
 match D,A with
 | [x0,x1,x2],_=>
  obtain⟨a,j,I,_⟩:=iR (hT:=hT) underlying3 k k (W8 _) _ _ (mI hf 0 Z Z Z jd Z);obtain⟨b,u,B,_⟩:=jn (hT:=hT) underlying9 k k (W8 _) _ _ (mI hf 1 Z Z Z rj Z);obtain⟨c,x,J⟩:=rd_val (hT:=hT) k k (W8 _) _ _ (mI hf 2 Z Z Z uX Z);refine⟨⟨a,b,c⟩,j.eO (o':=1) Z (u.eO (o':=2) Z (x.eO (o':=5) Z (.end_ (hl.trans CK)))),?_⟩;simp only[QT,Term.ts,bk,W7,Xj,Rows.uptoBulk,Rows.uptoBulkAll];have:=tz (H:=H) b;rw[<-B]at this;simp only[bk]at this;omega
theorem EX(n:Nat):Rd enc prog W hT sp held 149 Atom.c QA n:=by
 intro m _ J y h;obtain⟨I,k,rfl,rfl,hl,D,hf⟩:=DataW.trod_struct underlying149 h
 match I,D with
 | [x0,x1],_=>
  obtain⟨a,u,G,_⟩:=jn (hT:=hT) underlying9 k k (W8 _) _ _ (mI hf 0 Z Z Z rj Z);obtain⟨b,x,j⟩:=(gW (hT:=hT) underlying147 CK (by decide) (fun _=>rfl) (MS k)).mono (Yw k) k (W8 _) _ _ (mI hf 1 Z Z Z Kp Z);refine⟨⟨a,b⟩,u.eO (o':=1) Z (x.eO (o':=2) Z (.end_ (hl.trans wP))),?_⟩;have h1:=tz (H:=H) a;rw[<-G]at h1;have A:=j.sum (f:=Term.ts) (c:=400) fun _ _ h=>h;have B:=j.len;simp only[bk]at h1 A B;simp only[QA,Atom.ts,bk,W7,Xj,Rows.uptoBulk,Rows.uptoBulkAll];omega
theorem uI: ∀n:Nat,Rd enc prog W hT sp held 194 Expr.c QE n
 |0=>fun m Y J y h=>by
  obtain rfl:m=0:=by omega
  simp[DataW.trod]at h
 |n+1=>fun m Y J y h=>by
  obtain⟨xs,k,rfl,rfl,hl,hx,hf⟩:=DataW.trod_struct underlying194 h;have hs:=gW (hT:=hT) underlying192 o6 (by decide) (fun _=>rfl) (uI n)
  match xs,hx with
  | [x0,x1,x2,x3,x4],_=>
   obtain⟨a,A,qa,_⟩:=iR (hT:=hT) underlying3 k k (W8 _) _ _ (mI hf 0 Z Z Z jd Z);obtain⟨b,B,qb,_⟩:=jn (hT:=hT) underlying9 k k (W8 _) _ _ (mI hf 1 Z Z Z rj Z);obtain⟨c,D,qc⟩:=rd_val (hT:=hT) k k (W8 _) _ _ (mI hf 2 Z Z Z uX Z);obtain⟨d,G,qd,_⟩:=iR (hT:=hT) underlying3 k k (W8 _) _ _ (mI hf 3 Z Z Z jd Z);obtain⟨e,I,x⟩:=hs k (by omega) _ _ (mI hf 4 Z Z Z Ko Z);refine⟨.mk a b c d e,A.eO (o':=1) Z (B.eO (o':=2) Z (D.eO (o':=5) Z (G.eO (o':=6) Z ((I.DP (FB (.mk a b c d e))).eO (o':=7) Z (.end_ (hl.trans o6)))))),?_⟩;have h1:=tz (H:=H) b;rw[<-qb]at h1;have j:=x.sum (f:=Expr.ts) (c:=400) fun _ _ h=>h.1;have u:=x.sum (f:=Expr.size) (c:=1) fun _ _ h=>by have:=h.2;omega
   rw[<-Expr.pf]at j;rw[<-Expr.gx]at u;simp only[bk]at h1 j u;simp only[QE,Expr.ts,Expr.size,bk,W7,Xj,Rows.uptoBulk,Rows.uptoBulkAll];omega
theorem Sb{n:Nat}(hb:Rd enc prog W hT sp held 150 (fun l:List Lit=> [aT 30 l Lit.c]) (QL QB) n):Rd enc prog W hT sp held 196 gU.c QG (n+1):=by
 intro m hm cs y h;obtain⟨xs,k,rfl,rfl,hl,Y,hf⟩:=DataW.trod_struct underlying196 h
 match xs,Y with
 | [x0,x1,x2,x3],_=>
  obtain⟨a,A,qa,_⟩:=iR (hT:=hT) underlying3 k k (W8 _) _ _ (mI hf 0 Z Z Z jd Z);obtain⟨b,B,qb,_⟩:=jn (hT:=hT) underlying9 k k (W8 _) _ _ (mI hf 1 Z Z Z rj Z);obtain⟨c,D,qc⟩:=uI (hT:=hT) k k (W8 _) _ _ (mI hf 2 Z Z Z o6 Z);obtain⟨d,G,x⟩:=hb k (by omega) _ _ (mI hf 3 Z Z Z CN Z);refine⟨⟨a,b,c,d⟩,A.eO (o':=1) Z (B.eO (o':=2) Z (D.eO (o':=9) Z ((G.DP (Ab d)).eO (o':=10) Z (.end_ (hl.trans CJ))))),?_⟩;have h1:=tz (H:=H) b;rw[<-qb]at h1;have j:=x.sum (f:=Lit.ts) (c:=400) fun _ _ h=>h.1;have u:=x.sum (f:=Lit.size) (c:=1) fun _ _ h=>by have:=h.2;omega
  rw[<-Lit.pf]at j;rw[<-Lit.gx]at u;obtain⟨I,J⟩:=qc;simp only[bk]at h1 j u I J;simp only[QG,bk,W7,Xj,Rows.uptoBulk,Rows.uptoBulkAll];omega
theorem IG: ∀n:Nat,Rd enc prog W hT sp held 198 Lit.c QB n
 |0=>fun m hm J y h=>by
  obtain rfl:m=0:=by omega
  simp[DataW.trod]at h
 |n+1=>fun m hm J y h=>by
  obtain⟨xs,k,rfl,rfl,hl,hx,hf⟩:=DataW.trod_struct underlying198 h;have hs:=Sb (gW (hT:=hT) underlying150 wM (by decide) (fun _=>rfl) (IG n))
  match xs,hx with
  | [x0,x1,x2,x3,x4,x5,x6],_=>
   obtain⟨a,u,qa,_⟩:=iR (hT:=hT) underlying3 k k (W8 _) _ _ (mI hf 0 Z Z Z jd Z);obtain⟨b,x,qb⟩:=EX (hT:=hT) k k (W8 _) _ _ (mI hf 1 Z Z Z wP Z);obtain⟨c,A,qc,_⟩:=iR (hT:=hT) underlying3 k k (W8 _) _ _ (mI hf 2 Z Z Z jd Z);obtain⟨d,B,qd⟩:=uI (hT:=hT) k k (W8 _) _ _ (mI hf 3 Z Z Z o6 Z);obtain⟨e,D,qe⟩:=uI (hT:=hT) k k (W8 _) _ _ (mI hf 4 Z Z Z o6 Z);obtain⟨g,G,qg⟩:=hs k (by omega) _ _ (mI hf 5 Z Z Z CJ Z);obtain⟨p,I,_⟩:=Dy (hT:=hT) k k (W8 _) _ _ (mI hf 6 Z Z Z uY Z);refine⟨.mk a b c d e g.func g.var g.j9 g.body p,u.eO (o':=1) Z (x.eO (o':=3) Z (A.eO (o':=4) Z (B.eO (o':=11) Z (D.eO (o':=18) Z (G.eO (o':=28) Z (I.eO (o':=30) Z (.end_ (hl.trans wM)))))))),?_⟩;obtain⟨h1,Y⟩:=qb;obtain⟨h3,h4⟩:=qd;obtain⟨h5,h6⟩:=qe;obtain⟨h7,h8⟩:=qg;have h9:=Ee x0.1;have j:=Ee x2.1;simp only[bk]at h1 Y h3 h4 h5 h6 h7 h8 h9 j;simp only[QB,Lit.ts,Lit.size,bk,W7,Xj,Rows.uptoBulk,Rows.uptoBulkAll];omega
theorem MU(n:Nat):Rd enc prog W hT sp held 150 (fun l:List Lit=> [lits l]) (QL QB) n:=
 (gW (hT:=hT) underlying150 wM (by decide) (fun _=>rfl) (IG n)).mono (Yw n)
end
end
end Go.Proofs.YtlmhfgbkchnfbaaGreatDoor
namespace Go.Proofs.YtlmhfgbkchnfbaaGreatDoor
open Go Go.Al Go.Proofs.Tryz Go.ChangeShapes Go.WideShapes Go.RowKit
theorem own:ownKnob prog.godebug=is:=by kernel_rfl
theorem Vf:prog.globalNamed "internal/strconv.uint64pow10" =io 1:=by kernel_rfl
theorem JE:(prog.globals[1]?).map (·.type)=io 368:=by kernel_rfl
theorem Kn:prog.cellsOf 368=20:=by kernel_rfl
theorem Kq:prog.cellsOf 104=1:=by kernel_rfl
theorem HJ:prog.underlying 368=io (.array 20 104):=by kernel_rfl
theorem HK:prog.underlying 104=io (.int .u64):=by kernel_rfl
abbrev Jg:List (String×DataW Unit):=[("math/bits.deBruijn32tab",Rows.laid_math_bits_deBruijn32tab),("math/bits.deBruijn64tab",Rows.laid_math_bits_deBruijn64tab),("internal/strconv.uint64pow10",Rows.laid_internal_strconv_uint64pow10)]
theorem HW{W:World}(h:laidMetH prog Jg W):lN W:=by
 have u:=laidMetH.filter (fun x=>x.1== "internal/strconv.uint64pow10") h;have A:laidMet prog [("internal/strconv.uint64pow10",Lib.tabData .u64 qP)] W:=by
  rw[show Jg.filter (fun x=>x.1== "internal/strconv.uint64pow10")=[("internal/strconv.uint64pow10",Lib.tabData .u64 qP)] by kernel_rfl]at u;rwa[MakeChecks.laidMetH_plain _ _ _ (by kernel_rfl)]at u
 have j:Lib.TabIs prog W "internal/strconv.uint64pow10" .u64 qP:=Lib.tabIs_of_head (rest:=[]) Vf JE HJ HK Kq Kn A;intro b c hb;unfold Lib.TabIs World.var? at j;rw[Vf]at j
 match b with
 |0=>exact nomatch hb
 |1=>
  have B:(qP.map fun z=>Value.int .u64 z).toArray=c:=X4 hb;rw[B]at j;simp only[Zn]at j;split at j
  .rename_i D T y e;exact⟨T,y,by rw[e,X4 j]⟩
  .cases j
 |b+2=>exact nomatch hb
theorem kids:Kids prog (· <prog.types.size):=kids_rows (by kernel_rfl) (by kernel_rfl)
theorem full: ∀{t e},t<prog.types.size->prog.underlying t=io (.slice e)->0<prog.cellsOf e:=fun{t e}=>slices_full_of prog (by kernel_rfl) t e
theorem zy{H:Type}{enc:TypeId×Value->H}{W:World}(hT:lN W){k:FuncId}{f:Func}{s:ChangeSpec}{args:List PV}{vs:List Value}{B gs:List (DataW H)}{u:List MemPlace}
  (hp:Al.Pure prog k args (pB jp)) (G:args.length=vs.length) (hv: ∀(j:Nat) (p:PV),args[j]? =io p->VR (Mem.qS W hT) Tg (· <0) p (vs.getD j undef))
  (I: ∀t∈f.params.toList,t<prog.types.size) (A:s.vars=[]) (y:f.resultTypes= #[4])
  (hW:DataW.Whole enc prog f.params.toList s.vars kw W vs.toArray.toList B gs u)
  (J:(s.fn H (B++gs)).results=[.lit (.bool jp)]) (Y:(s.fn H (B++gs)).args=B) (a0:(s.fn H (B++gs)).vars=[]):
  Calls prog k vs.toArray W fun e W'=> ∃v,e= .returned v∧s.post enc prog f kw jp kw kw W vs.toArray v W':=by
 refine(hp.2 (Mem.qS W hT) Tg W vs (MR W hT) G hv).mono ?_;rintro e W' ⟨x,M',N',r,h',n',rfl,⟨rfl,rfl,rfl⟩,hx,hr,hvr⟩;have b0:x= .bool jp:=by
  cases hvr with
  |iv _ _ h=>cases h;rfl
 subst b0;refine⟨_,rfl,zA kids full I A hW hx.os hx.output.out (fun b hb=>hx.gK b hb fun i o hi=>(nomatch hi)) (fun b sp hd=>?_) Y a0 ?_⟩
 .rw[J,y];exact trodAll_cons_mk (shut_bool underlying4 _) trodAll_mk0
 .intro j t r h1 D;rw[y]at h1 D
  match j,h1,D with
  |0,h1,D=>
   cases h1;cases D;exact okWide_bool_mk underlying4 _
  |j+1,h1,D=>simp at h1
theorem bound{H:Type}{l:List (DataW H)}(hk:Rows.uptoSmall H l=jp):Rows.uptoBulkAll l<=1048576:=of_decide_eq_true hk
def Jf(b:Nat)(cs:Array Value)(h:Array Obj):Array Obj:=h.modify b fun
 | .cells _ t frozen=> .cells cs t frozen
 |o=>o
noncomputable def tj(os:Os):World:=
 {World.holding prog os ⟨#[], #[],[]⟩ with
  heap:=Jf 3 #[.int .u8 0,.int .u8 1,.int .u8 56,.int .u8 2,.int .u8 57,.int .u8 49,.int .u8 28,.int .u8 3,.int .u8 61,.int .u8 58,.int .u8 42,.int .u8 50,.int .u8 38,.int .u8 29,.int .u8 17,.int .u8 4,.int .u8 62,.int .u8 47,.int .u8 59,.int .u8 36,.int .u8 45,.int .u8 43,.int .u8 51,.int .u8 22,.int .u8 53,.int .u8 39,.int .u8 33,.int .u8 30,.int .u8 24,.int .u8 18,.int .u8 12,.int .u8 5,.int .u8 63,.int .u8 55,.int .u8 48,.int .u8 27,.int .u8 60,.int .u8 41,.int .u8 37,.int .u8 16,.int .u8 46,.int .u8 35,.int .u8 44,.int .u8 21,.int .u8 52,.int .u8 32,.int .u8 23,.int .u8 11,.int .u8 54,.int .u8 26,.int .u8 40,.int .u8 15,.int .u8 34,.int .u8 20,.int .u8 31,.int .u8 10,.int .u8 25,.int .u8 14,.int .u8 19,.int .u8 9,.int .u8 13,.int .u8 8,.int .u8 7,.int .u8 6] (Jf 2 #[.int .u8 0,.int .u8 1,.int .u8 28,.int .u8 2,.int .u8 29,.int .u8 14,.int .u8 24,.int .u8 3,.int .u8 30,.int .u8 22,.int .u8 20,.int .u8 15,.int .u8 25,.int .u8 17,.int .u8 4,.int .u8 8,.int .u8 31,.int .u8 27,.int .u8 13,.int .u8 23,.int .u8 21,.int .u8 19,.int .u8 16,.int .u8 7,.int .u8 26,.int .u8 12,.int .u8 18,.int .u8 6,.int .u8 11,.int .u8 5,.int .u8 10,.int .u8 9] (Jf 1 (qP.map fun z=>Value.int .u64 z).toArray (World.holding prog os ⟨#[], #[],[]⟩).heap))}
end Go.Proofs.YtlmhfgbkchnfbaaGreatDoor
namespace Go.Proofs.YtlmhfgbkchnfbaaGreatDoor
open Go Go.Al Go.Proofs.Tryz
def gF.z:gF:=(0,⟨0,0⟩)
theorem d64(d e:gF):bh prog 98 [ag d.c,.ptr 0 0] [ax e.c] (pB kw) [(0,io (ax d.c))] 1:=by
 refine ak ab func98 Z (by decide) ntmps98 Z (by simp) ?_;refine gA Z (zD [] Z (zW (zO ac)))
def gz(p:Prog)(i:Nat):List aq:=(p.aG.take i).map Decl.name
def gV(p:Prog)(i:Nat):Int:=qM (p.aG.getD i co) i (eh .str (aL (gz p i)) (p.aG.getD i co).name 0)
def qL(p:Prog):Nat->List gF
 |0=> []
 |i+1=>qL p i++(if gV p i=0 then[] else[(gV p i,(p.aG.getD i co).at_)])
def vz(p:Prog)(i:Nat):gF:=xV p (p.rules.getD i co) ((i:Int)+1)
def rG(p:Prog):Nat->List gF
 |0=> []
 |i+1=>rG p i++(if(vz p i).1=0 then[] else[vz p i])
def lK(p:Prog):List gF:=qL p p.aG.length++rG p p.rules.length
def fb(p:Prog):gF:=(lK p).headD gF.z
theorem Bt(p:Prog)(i:Nat): ∀k,∃t,qL p (i+k)=qL p i++t
 |0=>⟨[],by simp⟩
 |k+1=>by
  obtain⟨t,h⟩:=Bt p i k;exact⟨_,by rw[<-Yf,qL,h,Xf]⟩
theorem Bl(p:Prog)(i:Nat): ∀k,∃t,rG p (i+k)=rG p i++t
 |0=>⟨[],by simp⟩
 |k+1=>by
  obtain⟨t,h⟩:=Bl p i k;exact⟨_,by rw[<-Yf,rG,h,Xf]⟩
theorem Hj{p:Prog}{i:Nat}(j:qL p i=[])(hi:i<p.aG.length)(h: ¬gV p i=0):fb p=(gV p i,(p.aG.getD i co).at_):=by
 obtain⟨t,ht⟩:=Bt p (i+1) (p.aG.length-(i+1));have e:i+1+(p.aG.length-(i+1))=p.aG.length:=by omega
 rw[e,qL,j,be h]at ht;rw[fb,lK,ht];rfl
theorem Hi{p:Prog}{i:Nat}(h0:qL p p.aG.length=[])(j:rG p i=[])(hi:i<p.rules.length)(h: ¬(vz p i).1=0):fb p=vz p i:=by
 obtain⟨t,ht⟩:=Bl p (i+1) (p.rules.length-(i+1));have e:i+1+(p.rules.length-(i+1))=p.rules.length:=by omega
 rw[e,rG,j,be h]at ht;rw[fb,lK,ht,h0];rfl
theorem Km{p:Prog}(h0:qL p p.aG.length=[])(h1:rG p p.rules.length=[]):fb p=gF.z:=by
 rw[fb,lK,h0,h1];rfl
theorem zu{p:Prog}{i:Nat}(h:i<p.aG.length):aL (gz p (i+1))=bump (aL (gz p i)) (p.aG.getD i co).name:=by
 rw[gz,bT h,Xg];exact du _ _
theorem Dx(p:Prog)(i:Nat)(s:aq):0<=eh .str (aL (gz p i)) s 0∧eh .str (aL (gz p i)) s 0<=i:=by
 have h:=ic (gz p i) s;have j:(gz p i).length<=i:=by simp[gz];omega
 rw[bM];omega
def Prog.fit(p:Prog):Prop:=p.aG.length<=1000000000∧p.rules.length<=1000000000∧ ∀r∈p.rules,r.fit
theorem Ws(p:Prog)(hb:p.fit):bh prog 97 [ag p.c,.cB (.func 98) [] [.ptr 0 0]] [ax gF.z.c] (.a7 []) [(0,io (ax (fb p).c))] 1:=by
 obtain⟨B,D,A⟩:=hb;refine ak ab func97 Z (by decide) ntmps97 Z (by simp) ?_;refine gA Z ?_;refine aN 0 p.aG.length (Xc _) (fun i=>⟨[(1,.cB (.func 98) [] [.ptr 0 0]),(2,.ptr 1 0),(4,.mp 2),(13,.iv (aT 4 p.aG Decl.c)),(14,pI p.aG.length),(15,pI i)],[(0,io (ax gF.z.c)),(1,io (ax p.c)),(2,io (cZ (aL (gz p i))))],3⟩) (fun i=>qL p i=[]) [] Z
  (zW ⟨⟨_,rfl,.of_eq Z⟩,WY Z,rfl,⟨_,rfl,.of_eq Z⟩,WY Z,rfl,SC Z gp Z trivial⟩) fun i hi x=>?_
 refine zJ Z Z (fun h1=>?_) fun h1=>?_
 .have h1:i<p.aG.length:=zN h1;have hl:=Dx p i (p.aG.getD i co).name;have I:=zu h1;refine gA Z (zp (WO (p.aG.getD i co) i (eh .str (aL (gz p i)) (p.aG.getD i co).name 0)) ?_);refine zJ Z Z (fun g=>?_) fun g=>?_
  .have g: ¬gV p i=0:=by
    have g:(!lc (gV p i=0))=jp:=g;simpa only[Ye,decide_eq_false_iff_not]using g
   rw[Hj x h1 g];refine gA Z (zq [0] (d64 (gV p i,(p.aG.getD i co).at_) gF.z) ?_);refine zE Z Z (fun q=>?_) fun q=>?_
   .exact absurd (show jp=kw from q) (by decide)
   refine gA Z (zD [] Z (zW (zO ac)))
  .have g:gV p i=0:=by
    have g:(!lc (gV p i=0))=kw:=g;simpa only[YR,decide_eq_true_eq]using g
   refine gA Z ⟨h1,by rw[qL,x,am g];rfl,[],zW (zO (zO (hM Z (by rw[I];rfl) Z trivial)))⟩
 have h1:p.aG.length<=i:=zG h1;have u:i=p.aG.length:=by omega
 subst u;refine gA Z (zq [] (d50 p (by omega)) ?_);refine gA Z ?_;refine NI 3 Z ?_;refine aN 0 p.rules.length (Xc _) (fun i=>⟨[(1,.cB (.func 98) [] [.ptr 0 0]),(2,.ptr 1 0),(8,.iv (cX p)),(47,.iv (aT 5 p.rules aw.c)),(48,pI p.rules.length),(49,pI i)],[(0,io (ax gF.z.c)),(1,io (ax p.c))],4⟩) (fun i=>rG p i=[]) [] Z
  (zW (zO (zO trivial))) fun i hi y=>?_
 refine zJ Z Z (fun j=>?_) fun j=>?_
 .have j:i<p.rules.length:=zN j;have G:p.rules.getD i co∈p.rules:=by rw[W2,W5 j];exact XS j
  refine gA Z (aF (c65 p (p.rules.getD i co) ((i:Int)+1) (A _ G)) Z Z Z Z Z Z ?_);refine zJ Z Z (fun g=>?_) fun g=>?_
  .have g: ¬(vz p i).1=0:=by
    have g:(!lc ((vz p i).1=0))=jp:=g;simpa only[Ye,decide_eq_false_iff_not]using g
   rw[Hi x y j g];refine gA Z (zq [0] (d64 (vz p i) gF.z) ?_);refine zE Z Z (fun q=>?_) fun q=>?_
   .exact absurd (show jp=kw from q) (by decide)
   refine gA Z (zD [] Z (zW (zO ac)))
  .have g:(vz p i).1=0:=by
    have g:(!lc ((vz p i).1=0))=kw:=g;simpa only[YR,decide_eq_true_eq]using g
   refine gA Z ⟨j,by rw[rG,y,am g];rfl,[],zW (zO (zO trivial))⟩
 have j:p.rules.length<=i:=zG j;have u:i=p.rules.length:=by omega
 subst u;rw[Km x y];refine gA Z (zD [] Z (zW (zO ac)))
theorem c24(p:Prog)(hb:p.fit):Pure prog 66 [ag p.c] (ag (fb p).c):=by
 refine ah ab func66 Z (by decide) ntmps66 Z (by simp) Z ?_;refine gA Z (zq [2] (Ws p hb) ?_);exact zU Z
def MC:aq:=⟨#[114,101,108,97,116,105,111,110,32]⟩
def UC:aq:=⟨#[110,117,109]⟩
def Ut:aq:=⟨#[115,121,109]⟩
def Te:aq:=⟨#[32,58,45,32]⟩
def MH:aq:=⟨#[46,10]⟩
def Ht(w:WS)(t:Int):WS:=if t=1 then aW w [UC] else if t=2 then aW w [Ut] else oj w
def pQ(l:List Int)(w:WS):Nat->WS
 |0=>w
 |i+1=>Ht (ft i (pQ l w i)) (l.getD i co)
def sw(w:WS)(d:Decl):WS:=aW (pQ d.types (aW (aX w (gi d.name)) [MC,d.name,sO]) d.types.length) [sC]
def Decl.ts(d:Decl):Nat:=d.name.size+30+10*d.types.length
theorem KZ(w:WS)(t:Int):(Ht w t).l.length<=w.l.length+3:=by
 have j:UC.size=3:=rfl;have u:Ut.size=3:=rfl;unfold Ht
 repeat' split
 .rw[aK,j];omega
 .rw[aK,u];omega
 .rw[fH];omega
theorem QR(w:WS)(t:Int):(Ht w t).br=w.br:=by
 unfold Ht
 repeat' split
 .exact bQ _ _
 .exact bQ _ _
 .rfl
theorem vd(l:List Int)(w:WS): ∀i,(pQ l w i).l.length<=w.l.length+5*i
 |0=>by simp[pQ]
 |i+1=>by
  have h1:=vd l w i;have j:=jt i (pQ l w i);have u:=KZ (ft i (pQ l w i)) (l.getD i co);rw[pQ];omega
theorem Ev(l:List Int)(w:WS): ∀i,(pQ l w i).br=w.br
 |0=>rfl
 |i+1=>by rw[pQ,QR,pJ,Ev l w i]
theorem yO(w:WS)(d:Decl):(sw w d).l.length+10<=w.l.length+d.ts:=by
 have j:MC.size=9:=rfl;have u:sO.size=1:=rfl;have y:sC.size=1:=rfl;have x:eQ [MC,d.name,sO]=d.name.size+10:=by simp[eQ,j,u];omega
 have h:=vd d.types (aW (aX w (gi d.name)) [MC,d.name,sO]) d.types.length;rw[gX,x,aR]at h;rw[sw,aK,y,Decl.ts];omega
theorem J8(w:WS)(d:Decl):(sw w d).br=w.br:=by rw[sw,bQ,Ev,bQ];rfl
theorem Gk(w:WS)(d:Decl)(hb:w.l.length+d.ts<=900000000):bh prog 91 [.ptr 0 0,ag d.c] w.O (.a7 []) (sw w d).H 3:=by
 have Y:MC.size=9:=rfl;have e2:sO.size=1:=rfl;have e4:sC.size=1:=rfl;have e5:xq.size=2:=rfl;have I:UC.size=3:=rfl;have J:Ut.size=3:=rfl;have G:eQ [MC,d.name,sO]=d.name.size+10:=by simp[eQ,Y,e2];omega
 have c0:d.ts=d.name.size+30+10*d.types.length:=rfl;have a0:(aW (aX w (gi d.name)) [MC,d.name,sO]).l.length=w.l.length+(d.name.size+10):=by rw[gX,G,aR]
 refine ak ab func91 Z (by decide) ntmps91 Z (by simp) ?_;refine gA Z (aF (Vu d.name) Z Z Z Z Z Z ?_);refine gA Z (DY (d146 w (gi d.name)) Z Z Z Z Z Z Z Z Z Z Z Z ?_);refine gA Z (go_wp (d147 (aX w (gi d.name)) [MC,d.name,sO] (by simp) (by rw[G,aR];omega)) Z Z Z Z Z Z Z Z Z Z Z Z ?_);generalize hW:aW (aX w (gi d.name)) [MC,d.name,sO]=w1 at*
 refine gA Z ?_;refine aN 0 d.types.length (Xc _) (fun i=>⟨[(0,.ptr 0 0),(17,.iv (aT 1 d.types kv)),(18,pI d.types.length),(19,pI i)],[(0,io ((pQ d.types w1 i).rk 0 6)),(6,io (.bz (pQ d.types w1 i).l 5))],7⟩) (fun _=>True) _ ac
  (KP (w:=w1) Z Z Z Z Z (.refl _) (.refl _) Z Z Z Z Z (bi (bi (bi (bi trivial))))) fun i hi _=>?_
 have b0:=vd d.types w1 i;refine gA Z ?_;refine W0 (fun h1=>?_) (fun h1=>?_);rotate_left
 .have h1:d.types.length<=i:=YA fun hh=>absurd (aad.2 hh) (of_decide_eq_false h1)
  have D:i=d.types.length:=by omega
  subst D;refine gA Z (go_wp (d147 (pQ d.types w1 d.types.length) [sC] (by simp) (by rw[bx,e4];omega)) Z Z Z Z Z Z Z Z Z Z Z Z ?_);rw[sw,hW];refine gA Z (yJ (by first|exact .inr Z|exact .inl Z) Z Z Z Z Z (by first|exact .refl _|exact .kb _) (by first|exact .refl _|exact .kb _) Z Z Z Z (.refl _) Z Z)
 have h1:i<d.types.length:=aad.1 (of_decide_eq_true h1);have hs:pQ d.types w1 (i+1)=Ht (ft i (pQ d.types w1 i)) (d.types.getD i co):=rfl;have B:=jt i (pQ d.types w1 i);generalize pQ d.types w1 i=w2 at*
 refine gA Z ?_;refine W0 (fun x=>?_) (fun x=>?_)
 .have x: ¬i=0:=by have:=of_decide_eq_true x;omega
  rw[ft,be x]at hs B;refine gA Z (go_wp (d147 w2 [xq] (by simp) (by rw[bx,e5];omega)) Z Z Z Z Z Z Z Z Z Z Z Z ?_);refine gA Z ?_;refine W0 (fun y=>?_) (fun y=>?_)
  .have j:d.types.getD i co=1:=of_decide_eq_true y;rw[Ht,am j]at hs;refine gA Z (go_wp (d147 (aW w2 [xq]) [UC] (by simp) (by rw[bx,I];omega)) Z Z Z Z Z Z Z Z Z Z Z Z ?_);refine gA Z ⟨h1,ac,_,KP (hs.symm) Z Z Z Z (by first|exact .refl _|exact .kb _) (by first|exact .refl _|exact .kb _) Z Z Z Z Z (bi (bi (bi (bi ac))))⟩
  .have j: ¬d.types.getD i co=1:=of_decide_eq_false y;refine gA Z ?_;refine W0 (fun A=>?_) (fun A=>?_)
   .have u:d.types.getD i co=2:=of_decide_eq_true A;rw[Ht,be j,am u]at hs;refine gA Z (go_wp (d147 (aW w2 [xq]) [Ut] (by simp) (by rw[bx,J];omega)) Z Z Z Z Z Z Z Z Z Z Z Z ?_);refine gA Z ⟨h1,ac,_,KP (hs.symm) Z Z Z Z (by first|exact .refl _|exact .kb _) (by first|exact .refl _|exact .kb _) Z Z Z Z Z (bi (bi (bi (bi ac))))⟩
   .have u: ¬d.types.getD i co=2:=of_decide_eq_false A;rw[Ht,be j,be u]at hs;refine gA Z ⟨h1,ac,_,KP (hs.symm) Z Z Z Z (by first|exact .refl _|exact .kb _) (by first|exact .refl _|exact .kb _) Z Z Z Z Z (bi (bi (bi (bi ac))))⟩
 .have x:i=0:=by have:=of_decide_eq_false x;omega
  rw[ft,am x]at hs B;refine gA Z ?_;refine W0 (fun y=>?_) (fun y=>?_)
  .have j:d.types.getD i co=1:=of_decide_eq_true y;rw[Ht,am j]at hs;refine gA Z (go_wp (d147 w2 [UC] (by simp) (by rw[bx,I];omega)) Z Z Z Z Z Z Z Z Z Z Z Z ?_);refine gA Z ⟨h1,ac,_,KP (hs.symm) Z Z Z Z (by first|exact .refl _|exact .kb _) (by first|exact .refl _|exact .kb _) Z Z Z Z Z (bi (bi (bi (bi ac))))⟩
  .have j: ¬d.types.getD i co=1:=of_decide_eq_false y;refine gA Z ?_;refine W0 (fun A=>?_) (fun A=>?_)
   .have u:d.types.getD i co=2:=of_decide_eq_true A;rw[Ht,be j,am u]at hs;refine gA Z (go_wp (d147 w2 [Ut] (by simp) (by rw[bx,J];omega)) Z Z Z Z Z Z Z Z Z Z Z Z ?_);refine gA Z ⟨h1,ac,_,KP (hs.symm) Z Z Z Z (by first|exact .refl _|exact .kb _) (by first|exact .refl _|exact .kb _) Z Z Z Z Z (bi (bi (bi (bi ac))))⟩
   .have u: ¬d.types.getD i co=2:=of_decide_eq_false A;rw[Ht,be j,be u]at hs;refine gA Z ⟨h1,ac,_,KP (hs.symm) Z Z Z Z (by first|exact .refl _|exact .kb _) (by first|exact .refl _|exact .kb _) Z Z Z Z Z (bi (bi (bi (bi ac))))⟩
def p8(w:WS)(r:aw):WS:=if r.body=[] then iK w r.head else di (dF (Lit.aE r.body)) r.body (aW (iK w r.head) [Te]) r.body.length
def aw.ts(r:aw):Nat:=r.head.ts+Lit.lk r.body+30
theorem xU(w:WS)(r:aw):(p8 w r).l.length+10<=w.l.length+r.ts:=by
 have e:Te.size=4:=rfl;have h1:=pN w r.head;unfold p8 aw.ts;split
 .omega
 .have j:=mP (dF (Lit.aE r.body)) (rV _) r.body (aW (iK w r.head) [Te]) r.body.length (W8 _);rw[aK,e,Yk]at j;omega
theorem Iv(w:WS)(r:aw):(p8 w r).br=w.br:=by
 unfold p8;split
 .exact mS _ _
 .rw[mQ _ (uN _),bQ,mS]
theorem RO(w:WS)(r:aw)(hs:Lit.aE r.body<=100000000)(j:0<=w.br)(u:w.br<=16)(hb:w.l.length+r.ts<=900000000):bh prog 93 [.ptr 0 0,ag r.c] w.O (.a7 []) (p8 w r).H 3:=by
 have e:Te.size=4:=rfl;have y:r.ts=r.head.ts+Lit.lk r.body+30:=rfl;have h1:=pN w r.head;refine ak ab func93 Z (by decide) ntmps93 Z (by simp) ?_;refine gA Z (DY (d104 w r.head (by omega)) Z Z Z Z Z Z Z Z Z Z Z Z ?_);refine gA Z ?_;refine W0 (fun k=>?_) (fun k=>?_)
 .have x: ¬r.body=[]:=fun h=>by
   have g:=of_decide_eq_true k;rw[h]at g;simp at g
  rw[p8,be x];refine gA Z (go_wp (d147 (iK w r.head) [Te] (by simp) (by rw[bx,e];omega)) Z Z Z Z Z Z Z Z Z Z Z Z ?_);refine gA Z (DY (d214 (Lit.aE r.body) (Sw _ (by omega)) (aW (iK w r.head) [Te]) r.body (W8 _) (by rw[bQ,mS];exact j) (by rw[bQ,mS];exact u) (by rw[aK,e];omega) hs) Z Z Z Z Z Z Z Z Z Z Z Z ?_);refine gA Z (yJ (by first|exact .inr Z|exact .inl Z) Z Z Z Z Z (by first|exact .refl _|exact .kb _) (by first|exact .refl _|exact .kb _) Z Z Z Z (.refl _) Z Z)
 .have x:r.body=[]:=XL (by
   have g:=of_decide_eq_false k
   omega)
  rw[p8,am x];refine gA Z (yJ (by first|exact .inr Z|exact .inl Z) Z Z Z Z Z (by first|exact .refl _|exact .kb _) (by first|exact .refl _|exact .kb _) Z Z Z Z (.refl _) Z Z)
def gq(l:List Decl)(w:WS):Nat->WS
 |0=>w
 |i+1=>aW (sw (gq l w i) (l.getD i co)) [MH]
def il(l:List aw)(w:WS):Nat->WS
 |0=>w
 |i+1=>aW (p8 (il l w i) (l.getD i co)) [MH]
def rJ(p:Prog):WS:=il p.rules (gq p.aG WS.o p.aG.length) p.rules.length
def Prog.ts(p:Prog):Nat:=(p.aG.map Decl.ts).sum+(p.rules.map aw.ts).sum
theorem pj{α:Type}[Inhabited α](f:α->Nat)(l:List α)(i:Nat)(h:i<l.length):((l.take (i+1)).map f).sum=((l.take i).map f).sum+f (l.getD i co):=by
 rw[bT h,Xg,List.sum_append];simp
theorem rA{α:Type}(f:α->Nat): ∀(l:List α) (i:Nat),((l.take i).map f).sum<=(l.map f).sum
 | [],i=>by simp
 |s::r,0=>by simp
 |s::r,i+1=>by have:=rA f r i;simp at this ⊢;omega
theorem re(l:List Decl)(w:WS): ∀i,i<=l.length->(gq l w i).l.length<=w.l.length+((l.take i).map Decl.ts).sum
 |0,_=>by simp[gq]
 |i+1,h=>by
  have e:MH.size=2:=rfl;have h1:=re l w i (by omega);have j:=yO (gq l w i) (l.getD i co);rw[gq,aK,e,pj _ _ _ (by omega)];omega
theorem yN(l:List Decl)(w:WS): ∀i,(gq l w i).br=w.br
 |0=>rfl
 |i+1=>by rw[gq,bQ,J8,yN l w i]
theorem qI(l:List aw)(w:WS): ∀i,i<=l.length->(il l w i).l.length<=w.l.length+((l.take i).map aw.ts).sum
 |0,_=>by simp[il]
 |i+1,h=>by
  have e:MH.size=2:=rfl;have h1:=qI l w i (by omega);have j:=xU (il l w i) (l.getD i co);rw[il,aK,e,pj _ _ _ (by omega)];omega
theorem xT(l:List aw)(w:WS): ∀i,(il l w i).br=w.br
 |0=>rfl
 |i+1=>by rw[il,bQ,Iv,xT l w i]
theorem RU(p:Prog)(hs:p.size<=100000000)(hb:p.ts<=800000000):Pure prog 61 [ag p.c] (rJ p).told:=by
 have e:MH.size=2:=rfl;have e0:WS.o.l.length=0:=rfl;unfold Prog.ts at hb;unfold Prog.size at hs;refine ah ab func61 Z (by decide) ntmps61 Z (by simp) Z ?_;refine gM 12 Z (Ai 1 Z Z ?_);refine gA Z ?_;refine aN 0 p.aG.length (Xc _) (fun i=>⟨[(1,.ptr 0 0),(4,.ptr 1 0),(12,.iv (aT 4 p.aG Decl.c)),(13,pI p.aG.length),(14,pI i)],[(0,io (ax p.c)),(1,io ((gq p.aG WS.o i).rk 1 3)),(3,io (.bz (gq p.aG WS.o i).l 5))],4⟩) (fun _=>True) [2] ac
  (wk Z Z Z (bi (bi (bi (bi (bi trivial))))) (hC Z Z Z ⟨⟨_,rfl,.of_eq Z⟩,WY Z,rfl,⟨_,rfl,.of_eq Z⟩,WY Z,ac,ac⟩) Z) fun i hi _=>?_
 have D:=re p.aG WS.o i hi;have c0:=rA Decl.ts p.aG i;refine gA Z ?_;refine W0 (fun h1=>?_) (fun h1=>?_)
 .have h1:i<p.aG.length:=by simpa using h1
  have j:gq p.aG WS.o (i+1)=aW (sw (gq p.aG WS.o i) (p.aG.getD i co)) [MH]:=rfl;have B:=yO (gq p.aG WS.o i) (p.aG.getD i co);have G:=pj Decl.ts p.aG i h1;have A:=rA Decl.ts p.aG (i+1);generalize gq p.aG WS.o i=w2 at*
  refine gA Z (DY (Gk w2 (p.aG.getD i co) (by omega)) Z Z Z Z Z Z Z Z Z Z Z Z ?_);refine gA Z (go_wp (d147 (sw w2 (p.aG.getD i co)) [MH] (by simp) (by rw[bx,e];omega)) Z Z Z Z Z Z Z Z Z Z Z Z ?_);refine gA Z ⟨h1,ac,[7],wk Z Z Z (bi (bi (bi (bi (bi ac))))) (hC Z Z Z ⟨⟨_,rfl,.of_eq (by rw[j];rfl)⟩,WY Z,rfl,⟨_,rfl,.of_eq (by rw[j];rfl)⟩,WY Z,ac,ac⟩) Z⟩
 .have h1:p.aG.length<=i:=by simpa using h1
  have x:i=p.aG.length:=by omega
  subst x;have y:(gq p.aG WS.o p.aG.length).br=0:=yN _ _ _;rw[Yk]at D;generalize Y:gq p.aG WS.o p.aG.length=w1 at*
  refine gA Z ?_;refine aN 0 p.rules.length (Xc _) (fun i=>⟨[(4,.ptr 1 0),(26,.iv (aT 5 p.rules aw.c)),(27,pI p.rules.length),(28,pI i)],[(1,io ((il p.rules w1 i).rk 1 4)),(4,io (.bz (il p.rules w1 i).l 5))],5⟩) (fun _=>True) [3] ac
   (wk Z Z Z (bi (bi (bi (bi trivial)))) ⟨⟨_,rfl,.of_eq Z⟩,WY Z,rfl,⟨_,rfl,.of_eq Z⟩,WY Z,ac,ac⟩ Z) fun i hi _=>?_
  have I:=qI p.rules w1 i hi;have A:=rA aw.ts p.rules i;have a0:=(xT p.rules w1 i).trans y;refine gA Z ?_;refine W0 (fun u=>?_) (fun u=>?_)
  .have u:i<p.rules.length:=by simpa using u
   have j:il p.rules w1 (i+1)=aW (p8 (il p.rules w1 i) (p.rules.getD i co)) [MH]:=rfl;have B:=xU (il p.rules w1 i) (p.rules.getD i co);have G:=pj aw.ts p.rules i u;have J:=rA aw.ts p.rules (i+1);have d0:=pn aw.size p.rules i u;have b0:(p.rules.getD i co).size=(p.rules.getD i co).head.an.length+Lit.aE (p.rules.getD i co).body:=rfl;generalize il p.rules w1 i=w2 at*
   refine gA Z (DY (RO w2 (p.rules.getD i co) (by omega) (by omega) (by omega) (by omega)) Z Z Z Z Z Z Z Z Z Z Z Z ?_);refine gA Z (go_wp (d147 (p8 w2 (p.rules.getD i co)) [MH] (by simp) (by rw[bx,e];omega)) Z Z Z Z Z Z Z Z Z Z Z Z ?_);refine gA Z ⟨u,ac,[8],wk Z Z Z (bi (bi (bi (bi ac)))) ⟨⟨_,rfl,.of_eq (by rw[j];rfl)⟩,WY Z,rfl,⟨_,rfl,.of_eq (by rw[j];rfl)⟩,WY Z,ac,ac⟩ Z⟩
  .have u:p.rules.length<=i:=by simpa using u
   have x:i=p.rules.length:=by omega
   subst x;have hp:il p.rules w1 p.rules.length=rJ p:=by rw[rJ,Y]
   rw[hp];refine gA Z (ai [1,4] (d105 (rJ p)) Z Z Z Z Z Z Z Z ?_);refine gA Z (aM (by first|exact .inr Z|exact .inl Z) Z (.of_eq ?_));rfl
end Go.Proofs.YtlmhfgbkchnfbaaGreatDoor
namespace Go.Proofs.YtlmhfgbkchnfbaaGreatDoor
open Go Go.Al Go.Proofs.Tryz Go.ChangeShapes Go.WideShapes Go.RowKit
section
theorem A2{α:Type}(f:α->Nat): ∀l:List α,(l.map fun x=>f x+1).sum=(l.map f).sum+l.length
 | []=>rfl
 |x::r=>by simp only[W7,Ym,Xy,A2 f r];omega
section
variable {H:Type} {enc:TypeId×Value->H} {W:World} {hT:lN W} {sp:Nat->Bool} {held:Bool}
def QD(x:Decl)(d:DataW H):Prop:=x.types.length+1<=bk d∧x.ts<=400*bk d
def QR1(r:aw)(d:DataW H):Prop:=(r.size+1<=bk d∧r.ts<=400*bk d)∧r.head.ts<=400*bk d∧ ∀l∈r.body,l.ts<=400*bk d
def VN(p:Prog)(d:DataW H):Prop:=(p.size<=bk d∧p.ts<=400*bk d)∧p.aG.length<=bk d∧p.rules.length<=bk d∧ ∀r∈p.rules,r.size<=bk d∧r.head.ts<=400*bk d∧ ∀l∈r.body,l.ts<=400*bk d
def QF(f:Fact)(d:DataW H):Prop:=f.args.length<=bk d
theorem IE(n:Nat):Rd enc prog W hT sp held 152 aw.c QR1 n:=by
 intro m _ cs y h;obtain⟨xs,k,rfl,rfl,hl,hx,hf⟩:=DataW.trod_struct underlying152 h
 match xs,hx with
 | [x0,x1,x2],_=>
  obtain⟨a,A,qa⟩:=EX (hT:=hT) k k (W8 _) _ _ (mI hf 0 Z Z Z wP Z);obtain⟨b,B,j⟩:=MU (hT:=hT) k k (W8 _) _ _ (mI hf 1 Z Z Z CN Z);obtain⟨c,D,qc⟩:=Dy (hT:=hT) k k (W8 _) _ _ (mI hf 2 Z Z Z uY Z);refine⟨⟨a,b,c⟩,A.eO (o':=2) Z (B.eO (o':=3) Z (D.eO (o':=5) Z (.end_ (hl.trans CL)))),?_⟩;have u:=j.sum (f:=Lit.size) (c:=1) fun _ _ h=>by have:=h.2;omega
  rw[<-Lit.gx]at u;have x:=j.sum (f:=Lit.ts) (c:=400) fun _ _ h=>h.1;rw[<-Lit.pf]at x;obtain⟨G,I⟩:=qa;simp only[bk]at u G I x;refine⟨⟨?_,?_⟩,?_,fun l hl=>?_⟩
  .simp only[aw.size,bk,W7,Xj,Rows.uptoBulk,Rows.uptoBulkAll];omega
  .simp only[aw.ts,bk,W7,Xj,Rows.uptoBulk,Rows.uptoBulkAll];omega
  .simp only[bk,W7,Xj,Rows.uptoBulk,Rows.uptoBulkAll];omega
  .obtain⟨e,⟨J,_⟩,Y⟩:=j.all l hl;simp only[bk]at J Y;simp only[bk,W7,Xj,Rows.uptoBulk,Rows.uptoBulkAll];omega
theorem MW(n:Nat):Rd enc prog W hT sp held 3 kv (fun _ _=>True) n:=by
 intro m u j y h;obtain⟨z,x,_⟩:=iR (hT:=hT) underlying3 n m u j y h;exact⟨z,x,ac⟩
theorem MY(n:Nat):Rd enc prog W hT sp held 57 Decl.c QD n:=by
 intro m _ Y y h;obtain⟨J,k,rfl,rfl,hl,D,hf⟩:=DataW.trod_struct underlying57 h
 match J,D with
 | [x0,x1,x2],_=>
  obtain⟨a,u,G,_⟩:=jn (hT:=hT) underlying9 k k (W8 _) _ _ (mI hf 0 Z Z Z rj Z);obtain⟨b,x,I⟩:=(gW (hT:=hT) underlying35 jd (by decide) (fun _=>rfl) (MW k)).mono (Yw k) k (W8 _) _ _ (mI hf 1 Z Z Z Oe Z);obtain⟨c,A,qc⟩:=Dy (hT:=hT) k k (W8 _) _ _ (mI hf 2 Z Z Z uY Z);refine⟨⟨a,b,c⟩,u.eO (o':=1) Z (x.eO (o':=2) Z (A.eO (o':=4) Z (.end_ (hl.trans FJ)))),?_⟩;have B:=I.len;have j:=tz (H:=H) a;rw[<-G]at j;simp only[bk]at B j;refine⟨?_,?_⟩
  .simp only[bk,W7,Xj,Rows.uptoBulk,Rows.uptoBulkAll];omega
  .simp only[Decl.ts,bk,W7,Xj,Rows.uptoBulk,Rows.uptoBulkAll];omega
theorem MT(n:Nat):Rd enc prog W hT sp held 25 Prog.c VN n:=by
 intro m _ cs y h;obtain⟨xs,k,rfl,rfl,hl,hx,hf⟩:=DataW.trod_struct underlying25 h
 match xs,hx with
 | [x0,x1],_=>
  obtain⟨a,B,A⟩:=(gW (hT:=hT) underlying22 FJ (by decide) (fun _=>rfl) (MY k)).mono (Yw k) k (W8 _) _ _ (mI hf 0 Z Z Z Oi Z);obtain⟨b,D,j⟩:=(gW (hT:=hT) underlying23 CL (by decide) (fun _=>rfl) (IE k)).mono (Yw k) k (W8 _) _ _ (mI hf 1 Z Z Z Oh Z);refine⟨⟨a,b⟩,B.eO (o':=1) Z (D.eO (o':=2) Z (.end_ (hl.trans Og))),?_⟩;have h1:=A.sum (f:=fun d=>d.types.length+1) (c:=1) fun _ _ h=>by
   simp only[QD]at h;omega
  have u:=j.sum (f:=fun r=>r.size+1) (c:=1) fun _ _ h=>by have:=h.1.1;omega
  rw[A2]at h1 u;have Y:=A.sum (f:=Decl.ts) (c:=400) fun _ _ h=>h.2;have h9:=j.sum (f:=aw.ts) (c:=400) fun _ _ h=>h.1.2;simp only[bk]at h1 u Y h9;refine⟨⟨?_,?_⟩,?_,?_,fun r hr=>?_⟩
  .simp only[Prog.size,bk,W7,Xj,Rows.uptoBulk,Rows.uptoBulkAll];omega
  .simp only[Prog.ts,bk,W7,Xj,Rows.uptoBulk,Rows.uptoBulkAll];omega
  .simp only[bk,W7,Xj,Rows.uptoBulk,Rows.uptoBulkAll];omega
  .simp only[bk,W7,Xj,Rows.uptoBulk,Rows.uptoBulkAll];omega
  .obtain⟨e,⟨⟨G,_⟩,I,x⟩,J⟩:=j.all r hr;simp only[bk]at G I x J;refine⟨?_,?_,fun l hl=>?_⟩
   .simp only[bk,W7,Xj,Rows.uptoBulk,Rows.uptoBulkAll];omega
   .simp only[bk,W7,Xj,Rows.uptoBulk,Rows.uptoBulkAll];omega
   .have:=x l hl;simp only[bk,W7,Xj,Rows.uptoBulk,Rows.uptoBulkAll];omega
theorem MX(n:Nat):Rd enc prog W hT sp held 62 Fact.c QF n:=by
 intro m _ G y h;obtain⟨D,k,rfl,rfl,hl,A,hf⟩:=DataW.trod_struct underlying62 h
 match D,A with
 | [x0,x1],_=>
  obtain⟨a,j,I,_⟩:=jn (hT:=hT) underlying9 k k (W8 _) _ _ (mI hf 0 Z Z Z rj Z);obtain⟨b,u,B⟩:=(gW (hT:=hT) underlying60 uX (by decide) (fun _=>rfl) (rd_val k)).mono (Yw k) k (W8 _) _ _ (mI hf 1 Z Z Z Oc Z);refine⟨⟨a,b⟩,j.eO (o':=1) Z (u.eO (o':=2) Z (.end_ (hl.trans FI))),?_⟩;have x:=B.len;simp only[bk]at x;simp only[QF,bk,W7,Xj,Rows.uptoBulk,Rows.uptoBulkAll];omega
end
theorem SK{H:Type}{p:Prog}{d:DataW H}(h:VN p d)(hb:bk d<=1048576):p.fit:=by
 obtain⟨⟨h1,_⟩,x,y,j⟩:=h;refine⟨by omega,by omega,fun r hr=>?_⟩;obtain⟨A,B,u⟩:=j r hr;exact⟨by omega,by omega,fun l hl=>by have:=u l hl;omega⟩
theorem Kx{H:Type}{enc:TypeId×Value->H}{W:World}(hT:lN W){v:Value}{d:DataW H}{p:List MemPlace}(j: ∃base,Value.okWide prog W .any base 25 v)(h:DataW.Trod enc prog W 0 (fun _=>jp) jp 25 v d p):
  ∃x:Prog,VN x d∧VR (Mem.qS W hT) Tg (· <0) (ag x.c) v:=by
 obtain⟨base,j⟩:=j;obtain⟨A,rfl,_⟩:=okWide_struct underlying25 j;obtain⟨n,y⟩:=h;obtain⟨r,h1,u⟩:=MT (hT:=hT) n n (W8 _) _ _ y;exact⟨r,u,h1.agg⟩
theorem QM{M:Mem}{N:Nm}{U:Nat->Prop}{p:IV}{a:Option Addr}{l c:Nat}(h:CR M [p] (Value.slice a l c).cells.toList):VR M N U (.iv p) (.slice a l c):= .iv _ _ (h.2 0 p Z)
end
end Go.Proofs.YtlmhfgbkchnfbaaGreatDoor
namespace Go.Bo
section
structure TO {α:Type} (c:α->α->Int):Prop where
 eq: ∀x y,c x y=0↔x=y
 neg: ∀x y,c y x<0↔0<c x y
 tr: ∀x y z,c x y<0->c y z<0->c x z<0
section
variable {α:Type} {c:α->α->Int} (h:TO c)
include h
theorem TO.refl(x:α):c x x=0:=(h.eq x x).2 Z
theorem TO.Sz(x:α): ¬c x x<0:=by rw[h.refl];omega
theorem TO.asym{x y:α}(a:c x y<0): ¬c y x<0:=fun b=>by have:=(h.neg x y).1 b;omega
theorem TO.Td{x y:α}(a: ¬c x y<0)(b: ¬c y x<0):x=y:=by
 refine(h.eq x y).1 ?_;have:=(h.neg x y).2;omega
theorem TO.VI{x y z:α}(a: ¬c x y<0)(b: ¬c y z<0): ¬c x z<0:=fun g=>by
 by_cases e:c y x<0
 .exact b (h.tr _ _ _ e g)
 .rw[h.Td a e]at g;exact b g
end
def vL(a b:Int):Int:=if a=0 then b else a
theorem EY{a b j u:Int}(h1:j<0↔0<a)(x:a<0↔0<j)(y:u<0↔0<b):vL j u<0↔0<vL a b:=by
 unfold vL;split<;>split<;>omega
theorem TO.pair{α β:Type}{c:α->α->Int}{d:β->β->Int}(h:TO c)(g:TO d):TO fun(x y:α×β)=>vL (c x.1 y.1) (d x.2 y.2) where
 eq:=fun x y=>by
  unfold vL;constructor
  .intro e;split at e
   .rename_i a;exact Prod.ext ((h.eq _ _).1 a) ((g.eq _ _).1 e)
   .rename_i a;exact absurd e a
  .rintro rfl;rw[am (h.refl _)];exact g.refl _
 neg:=fun x y=>EY (h.neg _ _) (h.neg _ _) (g.neg _ _)
 tr:=fun x y z a b=>by
  unfold vL at*
  by_cases u:c x.1 y.1=0
  .rw[am u]at a;have A:=(h.eq _ _).1 u;rw[A];by_cases j:c y.1 z.1=0
   .rw[am j]at b ⊢;exact g.tr _ _ _ a b
   .rw[be j]at b ⊢;exact b
  .rw[be u]at a;by_cases j:c y.1 z.1=0
   .rw[<-(h.eq _ _).1 j,be u];exact a
   .rw[be j]at b;have:=h.tr _ _ _ a b;rw[be (by omega)];exact this
theorem TO.map{α β:Type}{c:β->β->Int}(h:TO c)(f:α->β)(hf: ∀x y,f x=f y->x=y):TO fun x y=>c (f x) (f y) where
 eq:=fun x y=>(h.eq _ _).trans ⟨hf x y,fun e=>by rw[e]⟩
 neg:=fun x y=>h.neg _ _
 tr:=fun x y z=>h.tr _ _ _
def cmpL{α:Type}(c:α->α->Int):List α->List α->Int
 | [],[]=>0
 | [],_::_=> -1
 |_::_,[]=>1
 |x::a,y::b=>vL (c x y) (cmpL c a b)
theorem TO.list{α:Type}{c:α->α->Int}(h:TO c):TO (cmpL c) where
 eq:=by
  intro x
  induction x with
  |nil=>intro y;cases y<;>simp[cmpL]
  |cons x a ih=>
   intro y;cases y with
   |nil=>simp[cmpL]
   |cons y b=>
    simp only[cmpL,vL,aag];constructor
    .intro e;split at e
     .rename_i q;exact⟨(h.eq _ _).1 q,(ih b).1 e⟩
     .rename_i q;exact absurd e q
    .rintro⟨rfl,rfl⟩;rw[am (h.refl _)];exact(ih a).2 Z
 neg:=by
  intro x
  induction x with
  |nil=>intro y;cases y<;>simp[cmpL]
  |cons x a ih=>
   intro y;cases y with
   |nil=>simp[cmpL]
   |cons y b=>exact EY (h.neg _ _) (h.neg _ _) (ih b)
 tr:=by
  intro x
  induction x with
  |nil=>
   intro y z a b;cases y with
   |nil=>simp[cmpL]at a
   |cons y y'=>cases z with
    |nil=>simp[cmpL]at b
    |cons z z'=>simp[cmpL]
  |cons x x' ih=>
   intro y z a b;cases y with
   |nil=>simp[cmpL]at a
   |cons y y'=>cases z with
    |nil=>simp[cmpL]at b
    |cons z z'=>
     simp only[cmpL,vL] at*
     by_cases u:c x y=0
     .rw[am u]at a;rw[(h.eq _ _).1 u];by_cases j:c y z=0
      .rw[am j]at b ⊢;exact ih _ _ a b
      .rw[be j]at b ⊢;exact b
     .rw[be u]at a;by_cases j:c y z=0
      .rw[<-(h.eq _ _).1 j,be u];exact a
      .rw[be j]at b;have:=h.tr _ _ _ a b;rw[be (by omega)];exact this
def oX(a b:Int):Int:=if a<b then-1 else if b<a then 1 else 0
theorem TO.int:TO oX where
 eq:=fun x y=>by unfold oX;split<;>(try split)<;>omega
 neg:=fun x y=>by unfold oX;split<;>(try split)<;>(try split)<;>(try split)<;>omega
 tr:=fun x y z=>by unfold oX;split<;>(try split)<;>(try split)<;>(try split)<;>(try split)<;>omega
section
variable {α:Type} (c:α->α->Int)
def rq(l:List α):Prop:=l.Pairwise fun x y=>c x y<0
def ins(x:α):List α->List α
 | []=> [x]
 |y::r=>if c x y<0 then x::y::r else if c y x<0 then y::ins x r else y::r
def tG(l:List α):List α:=l.foldr (ins c) []
theorem rq.filter{c:α->α->Int}{l:List α}(hs:rq c l)(p:α->Bool):rq c (l.filter p):=Zi p hs
variable {c} (h:TO c)
include h
theorem nr{x y:α}: ∀{l:List α},y∈ins c x l↔y=x∨y∈l
 | []=>by simp[ins]
 |z::r=>by
  unfold ins;split
  .simp
  .split
   .simp only[Xm,nr (l:=r)];constructor
    .rintro(a|a|a)<;>simp[a]
    .rintro(a|a|a)<;>simp[a]
   .rename_i a b;have:=h.Td a b;subst this;simp
theorem Ez{x:α}: ∀{l:List α},rq c l->rq c (ins c x l)
 | [],_=>by simp[ins,rq]
 |z::r,hs=>by
  have j:=Yd.1 hs;unfold ins;split
  .rename_i a;refine Yd.2 ⟨fun y hy=>?_,hs⟩;rcases Xm.1 hy with rfl|hy
   .exact a
   .exact h.tr _ _ _ a (j.1 y hy)
  .split
   .rename_i a b;refine Yd.2 ⟨fun y hy=>?_,Ez j.2⟩;rcases(nr h).1 hy with rfl|hy
    .exact b
    .exact j.1 y hy
   .exact hs
theorem tc{y:α}: ∀{l:List α},y∈tG c l↔y∈l
 | []=>by simp[tG]
 |x::l=>by
  show y∈ins c x (tG c l)↔_;rw[nr h,tc,Xm]
theorem sL: ∀(l:List α),rq c (tG c l)
 | []=>Zf
 |x::l=>Ez h (sL l)
theorem EA: ∀{a b:List α},rq c a->rq c b->(∀x,x∈a↔x∈b)->a=b
 | [],[],_,_,_=>rfl
 | [],y::b,_,_,e=>absurd ((e y).2 (Xk ..)) (by simp)
 |x::a,[],_,_,e=>absurd ((e x).1 (Xk ..)) (by simp)
 |x::a,y::b,ha,hb,e=>by
  have j:=Yd.1 ha;have u:=Yd.1 hb;have B:x=y:=by
   rcases Xm.1 ((e x).1 (Xk ..)) with q|q
   .exact q
   .rcases Xm.1 ((e y).2 (Xk ..)) with r|r
    .exact r.symm
    .exact absurd (u.1 x q) (h.asym (j.1 y r))
  subst B;have A: ∀{l:List α},(∀z∈l,c x z<0)->x∉l:=fun g m=>h.Sz x (g x m);rw[EA j.2 u.2 fun z=>⟨fun m=>?_,fun m=>?_⟩]
  .rcases Xm.1 ((e z).1 (Xi _ m)) with q|q
   .subst q;exact absurd m (A j.1)
   .exact q
  .rcases Xm.1 ((e z).2 (Xi _ m)) with q|q
   .subst q;exact absurd m (A u.1)
   .exact q
theorem rq.nodup{l:List α}(hs:rq c l):l.Nodup:=Z5 (fun a e=>by subst e;exact h.Sz _ a) hs
end
end
end Go.Bo
namespace Go.Proofs.YtlmhfgbkchnfbaaGreatDoor
open Go Go.Al Go.Bo
deriving instance DecidableEq for Fact
def Ue(s:aq):List Int:=s.data.toList.map fun b=>(b.toNat:Int)
theorem Mk{a b:aq}(h:Ue a=Ue b):a=b:=by
 have:a.data.toList=b.data.toList:=List.map_inj_right (fun x y e=>UInt8.toNat_inj.1 (Int.ofNat.inj e))|>.1 h;cases a;cases b;simp only[ByteArray.mk.injEq];exact Z7.1 this
def s7(a b:aq):Int:=cmpL oX (Ue a) (Ue b)
def CG(a b:cW):Int:=vL (oX a.kind b.kind) (vL (oX a.num b.num) (s7 a.sym b.sym))
def wK(a b:List cW):Int:=cmpL CG a b
def aU(a b:Fact):Int:=vL (s7 a.rel b.rel) (wK a.args b.args)
theorem toS:TO s7:=TO.int.list.map Ue fun _ _=>Mk
theorem toV:TO CG:=(TO.int.pair (TO.int.pair toS)).map (fun v:cW=>(v.kind,v.num,v.sym)) fun x y e=>by
 cases x;cases y;simp only[Xe]at e;obtain⟨rfl,rfl,rfl⟩:=e;rfl
theorem pg:TO aU:=(toS.pair toV.list).map (fun f:Fact=>(f.rel,f.args)) fun x y e=>by
 cases x;cases y;simp only[Xe]at e;obtain⟨rfl,rfl⟩:=e;rfl
def QN:Nat->FS
 |0=> []
 |n+1=>io .i64::io .i64::is::QN n
abbrev Nz:FS:=is::io .i64::QN 8
def Az:(n:Nat)->List cW->FK (QN n)
 |0,_=>()
 |n+1,[]=>(0,0,Xb,Az n [])
 |n+1,v::r=>(v.kind,v.num,v.sym,Az n r)
def cE(f:Fact):FK Nz:=(f.rel,(f.args.length:Int),Az 8 f.args)
theorem CW: ∀(n:Nat) (a b:List cW),a.length=b.length->a.length<=n->Az n a=Az n b->a=b
 |_,[],[],_,_,_=>rfl
 |_,[],_::_,h,_,_=>by simp at h
 |_,_::_,[],h,_,_=>by simp at h
 |0,_::_,_::_,_,h,_=>by simp at h
 |n+1,v::a,u::b,h,g,e=>by
  have j:(v.kind,v.num,v.sym,Az n a)=(u.kind,u.num,u.sym,Az n b):=e;rw[Xe,Xe,Xe]at j;obtain⟨x,y,A,B⟩:=j;rw[CW n a b (by simpa using h) (by simpa using g) B];cases v;cases u;simp only at x y A;subst x y A;rfl
theorem rZ{f g:Fact}(hf:f.args.length<=8)(e:cE f=cE g):f=g:=by
 have j:(f.rel,(f.args.length:Int),Az 8 f.args)=(g.rel,(g.args.length:Int),Az 8 g.args):=e;rw[Xe,Xe]at j;obtain⟨u,y,x⟩:=j;have:=CW 8 f.args g.args (by omega) hf x;cases f;cases g;simp only at u this;subst u this;rfl
end Go.Proofs.YtlmhfgbkchnfbaaGreatDoor
namespace Go.Bo
section
abbrev b3(F:Type):=Bool×F
def xe{F:Type}(c:F->F->Int)(l:List (b3 F)):Prop:=l.Pairwise fun x y=>c x.2 y.2<0
theorem Mq{F:Type}{c:F->F->Int}{l:List F}(hl:rq c l)(g:F->Option (b3 F))(hg: ∀f x,g f=io x->x.2=f):xe c (l.filterMap g):=by
 refine List.Pairwise.filterMap g (fun x y a u hu v j=>?_) hl;rw[hg _ _ hu,hg _ _ j];exact a
theorem xe.facts{F:Type}{c:F->F->Int}{l:List (b3 F)}(hl:xe c l):rq c (l.map (·.2)):=List.pairwise_map.2 hl
theorem xP{F:Type}{c:F->F->Int}: ∀(l:List F),(tG c l).length<=l.length
 | []=>W8 _
 |x::l=>by
  have key: ∀(m:List F),(ins c x m).length<=m.length+1:=by
   intro m
   induction m with
   |nil=>exact W8 _
   |cons y r ih=>
    unfold ins;split
    .exact W8 _
    .split
     .exact Nat.succ_le_succ ih
     .exact Yw _
  exact X6 (key _) (Nat.succ_le_succ (xP l))
section
variable {F:Type} [DecidableEq F] (c:F->F->Int)
def dT(l:List (b3 F))(f:F):Option Bool:=(l.reverse.find? fun x=>lc (x.2=f)).map (·.1)
def dM(S:List F)(l:List (b3 F)):List (b3 F):=
 (tG c (l.map (·.2))).filterMap fun f=>(dT l f).bind fun a=>if lc (f∈S)=a then is else io (a,f)
def ff(S:List F)(l:List (b3 F)):List F:=(tG c (S++l.map (·.2))).filter fun f=>(dT l f).getD jp
variable {c}
theorem qV{l:List (b3 F)}{f:F}:dT l f=is↔f∉l.map (·.2):=by
 unfold dT;rw[Zq,Zb];simp only[aaA,decide_eq_true_eq,XH,not_exists,not_and]
theorem iD{l:List (b3 F)}{f:F}{a:Bool}(e:dT l f=io a):(a,f)∈l:=by
 unfold dT at e;rw[Xa]at e;obtain⟨x,h1,rfl⟩:=e;have j:=List.find?_some h1;have u:=List.mem_of_find?_eq_some h1;rw[decide_eq_true_eq]at j;rw[<-j];exact aaA.1 u
theorem DQ{l:List (b3 F)}{f:F}(hm:f∈l.map (·.2)): ∃a,dT l f=io a:=by
 cases e:dT l f with
 |none=>exact absurd hm (qV.1 e)
 |some a=>exact⟨a,rfl⟩
theorem jK(h:TO c){S:List F}{l:List (b3 F)}{a:Bool}{f:F}:(a,f)∈dM c S l↔dT l f=io a∧lc (f∈S)≠a:=by
 unfold dM;rw[List.mem_filterMap];constructor
 .rintro⟨g,_,e⟩;cases e1:dT l g with
  |none=>rw[e1]at e;cases e
  |some b=>
   rw[e1,Zn]at e;split at e
   .cases e
   .rename_i q;cases e;exact⟨e1,q⟩
 .rintro⟨e1,e2⟩;refine⟨f,(tc h).2 (XH.2 ⟨_,iD e1,rfl⟩),?_⟩;rw[e1,Zn,be e2]
theorem rU(h:TO c){S:List F}{l:List (b3 F)}{f:F}:f∈ff c S l↔(dT l f=io jp∨dT l f=is∧f∈S):=by
 unfold ff;rw[XG,tc h,Xr];cases e:dT l f with
 |none=>have:=qV.1 e;simp[this]
 |some a=>
  have:f∈l.map (·.2):=XH.2 ⟨_,iD e,rfl⟩;cases a<;>simp[this]
theorem rB(h:TO c)(S:List F)(l:List (b3 F)):rq c (ff c S l):=(sL h _).filter _
theorem po(h:TO c)(S:List F)(l:List (b3 F)):xe c (dM c S l):=Mq (sL h _) _ fun f x e=>by
 cases e1:dT l f with
 |none=>rw[e1]at e;cases e
 |some b=>
  rw[e1,Zn]at e;split at e
  .cases e
  .cases e;rfl
theorem HQ(S:List F)(l:List (b3 F)):(dM c S l).length<=l.length:=by
 have:=List.length_filterMap_le (fun f=>(dT l f).bind fun a=>if lc (f∈S)=a then is else io (a,f)) (tG c (l.map (·.2)));have j:=xP (c:=c) (l.map (·.2));rw[Xw]at j;exact X6 this j
theorem IZ(h:TO c){S:List F}(hS:rq c S)(l:List (b3 F)):
  (ff c S l).length+((dM c S l).filter fun x=>!x.1).length=S.length+((dM c S l).filter fun x=>x.1).length:=by
 have hT:=po h S l;have A: ∀q:b3 F->Bool,(((dM c S l).filter q).map (·.2)).Nodup:=fun q=>
  (xe.facts (Zi q hT)).nodup h
 have y:(S.filter fun f=>lc ((kw,f)∉dM c S l)).Nodup:=(hS.filter _).nodup h;have j: ∀(b:Bool) (f:F),f∈((dM c S l).filter fun x=>x.1==b).map (·.2)↔(b,f)∈dM c S l:=fun b f=>by
  rw[XH];constructor
  .rintro⟨x,hx,rfl⟩;rw[XG,beq_iff_eq]at hx;rw[<-hx.2];exact hx.1
  .intro m;exact⟨_,XG.2 ⟨m,beq_self_eq_true b⟩,rfl⟩
 have D:(ff c S l).Perm ((S.filter fun f=>lc ((kw,f)∉dM c S l))++((dM c S l).filter fun x=>x.1==jp).map (·.2)):=by
  refine(YJ ((rB h S l).nodup h) ?_).2 fun f=>?_
  .refine YG.2 ⟨y,A _,fun f hf g u e=>?_⟩;subst e;rw[XG]at hf;have:=(jK h).1 ((j jp f).1 u);exact this.2 (decide_eq_true hf.1)
  .rw[Xr,XG,j,decide_eq_true_eq,jK h,jK h,rU h];by_cases m:f∈S<;>cases e:dT l f with
   |none=>simp[m]
   |some b=>cases b<;>simp[m]
 have G:S.Perm ((S.filter fun f=>lc ((kw,f)∉dM c S l))++((dM c S l).filter fun x=>x.1==kw).map (·.2)):=by
  refine(YJ (hS.nodup h) ?_).2 fun f=>?_
  .refine YG.2 ⟨y,A _,fun f hf g u e=>?_⟩;subst e;rw[XG,decide_eq_true_eq]at hf;exact hf.2 ((j kw f).1 u)
  .rw[Xr,XG,j,decide_eq_true_eq,jK h];by_cases m:f∈S<;>cases e:dT l f with
   |none=>simp[m]
   |some b=>cases b<;>simp[m]
 have l1:=D.length_eq;have B:=G.length_eq;rw[W1,Xw]at l1 B;have c1:((dM c S l).filter fun x=>x.1==jp)=(dM c S l).filter fun x=>x.1:=Y5 fun x _=>by cases x.1<;>rfl
 have c2:((dM c S l).filter fun x=>x.1==kw)=(dM c S l).filter fun x=>!x.1:=Y5 fun x _=>by cases x.1<;>rfl
 rw[c1]at l1;rw[c2]at B;omega
theorem G2{B:List F}{f:F}{a:Bool}:dT (B.map fun x=>(jp,x)) f=io a↔a=jp∧f∈B:=by
 constructor
 .intro e;obtain⟨x,u,j⟩:=XH.1 (iD e);cases j;exact⟨rfl,u⟩
 .rintro⟨rfl,m⟩;obtain⟨a,e⟩:=DQ (l:=B.map fun x=>(jp,x)) (f:=f) (by rw[Yb];exact XH.2 ⟨f,m,rfl⟩);rw[e];obtain⟨x,_,j⟩:=XH.1 (iD e);cases j;rfl
theorem v8{B:List F}{f:F}:dT (B.map fun x=>(jp,x)) f=is↔f∉B:=by
 rw[qV,Yb];show f∉B.map id↔_;rw[List.map_id]
theorem I7(h:TO c){S B:List F}{f:F}:f∈ff c S (B.map fun x=>(jp,x))↔f∈B∨f∈S:=by
 rw[rU h,G2,v8];by_cases m:f∈B<;>simp[m]
theorem BX(h:TO c){S B:List F}(j:rq c (S++B)):ff c S (B.map fun x=>(jp,x))=S++B:=
 EA h (rB h _ _) j fun f=>by rw[I7 h,Xr,Or.comm]
end
section
variable {F:Type} (c:F->F->Int)
def ep:List F->List F->List (b3 F)
 | [],b=>b.map fun f=>(jp,f)
 |a,[]=>a.map fun f=>(kw,f)
 |x::a,y::b=>if c x y<0 then(kw,x)::ep a (y::b) else if 0<c x y then(jp,y)::ep (x::a) b else ep a b
 termination_by a b=>a.length+b.length
variable {c}
theorem nq(b:List F):ep c [] b=b.map fun f=>(jp,f):=by unfold ep;rfl
theorem tU(a:List F):ep c a []=a.map fun f=>(kw,f):=by
 cases a with
 |nil=>unfold ep;rfl
 |cons=>unfold ep;rfl
theorem BZ(x y:F)(a b:List F):ep c (x::a) (y::b)=if c x y<0 then(kw,x)::ep c a (y::b) else if 0<c x y then(jp,y)::ep c (x::a) b else ep c a b:=by
 rw[ep]
structure ef (c:F->F->Int) (ok:F->Bool) (S:List F):Prop where
 zg:rq c S
 ok: ∀f∈S,ok f=jp
 JR:S.length<=65536
theorem ef.nil(c:F->F->Int)(ok:F->Bool):ef c ok []:=⟨Zf,fun _ m=>(nomatch m),Xc _⟩
variable [DecidableEq F]
def ir(c:F->F->Int)(ok:F->Bool)(S:List F)(l:List (b3 F)):Int:=
 if 4096<l.length then 2 else if(l.all fun x=>ok x.2)=kw then 5 else if 65536<(ff c S l).length then 3 else 0
abbrev Stt(F:Type):=List F×Nat
def ke(c:F->F->Int)(ok:F->Bool)(s:Stt F)(l:List (b3 F)):Stt F:=if ir c ok s.1 l=0 then(ff c s.1 l,s.2+1) else s
theorem kC{ok:F->Bool}{S:List F}{l:List (b3 F)}:ir c ok S l=0↔l.length<=4096∧(∀x∈l,ok x.2=jp)∧(ff c S l).length<=65536:=by
 unfold ir;split
 .exact⟨fun e=>by simp at e,fun e=>by omega⟩
 .split
  .rename_i q r;refine⟨fun e=>by simp at e,fun e=>?_⟩;rw[XO.2 e.2.1]at r;cases r
  .split
   .exact⟨fun e=>by simp at e,fun e=>by omega⟩
   .rename_i q r t;refine⟨fun _=>⟨by omega,?_,by omega⟩,fun _=>rfl⟩;rw[Bool.not_eq_false]at r;exact XO.1 r
theorem ef.next(h:TO c){ok:F->Bool}{S:List F}{l:List (b3 F)}(hS:ef c ok S)(e:ir c ok S l=0):ef c ok (ff c S l):=by
 rw[kC]at e;refine⟨rB h S l,fun f m=>?_,e.2.2⟩;rcases(rU h).1 m with q|⟨_,q⟩
 .exact e.2.1 _ (iD q)
 .exact hS.ok f q
end
section
variable {F:Type} [DecidableEq F]
def ll:List (b3 F)->b3 F->List (b3 F)
 | [],c=> [c]
 |x::r,c=>if x.2=c.2 then c::r else x::ll r c
def n9(l:List (b3 F)):List (b3 F):=l.foldl ll []
theorem B0{a:Bool}{f:F}: ∀{T:List (b3 F)} {c:b3 F},(T.map (·.2)).Nodup->((a,f)∈ll T c↔(a,f)=c∨(f≠c.2∧(a,f)∈T))
 | [],c,_=>by simp[ll]
 |x::r,c,hn=>by
  rw[W7,XN]at hn;unfold ll;split
  .rename_i e;rw[Xm,Xm];constructor
   .rintro(q|q)
    .exact .inl q
    .refine .inr ⟨fun j=>hn.1 (XH.2 ⟨_,q,?_⟩),.inr q⟩;show f=x.2;rw[j,e]
   .rintro(q|⟨q,r1|r1⟩)
    .exact .inl q
    .exact absurd (by rw[<-e,<-r1]) q
    .exact .inr r1
  .rename_i e;rw[Xm,Xm,B0 hn.2];constructor
   .rintro(q|q|⟨q,r1⟩)
    .exact .inr ⟨fun j=>e (by rw[<-q];exact j),.inl q⟩
    .exact .inl q
    .exact .inr ⟨q,.inr r1⟩
   .rintro(q|⟨q,r1|r1⟩)
    .exact .inr (.inl q)
    .exact .inl r1
    .exact .inr (.inr ⟨q,r1⟩)
theorem wA{f:F}: ∀{T:List (b3 F)} {c:b3 F},f∈(ll T c).map (·.2)↔f=c.2∨f∈T.map (·.2)
 | [],c=>by simp[ll]
 |x::r,c=>by
  unfold ll;split
  .rename_i e;simp only[W7,Xm];rw[e];constructor
   .rintro(q|q)
    .exact .inl q
    .exact .inr (.inr q)
   .rintro(q|q|q)
    .exact .inl q
    .exact .inl q
    .exact .inr q
  .simp only[W7,Xm,wA (T:=r)];constructor
   .rintro(q|q|q)
    .exact .inr (.inl q)
    .exact .inl q
    .exact .inr (.inr q)
   .rintro(q|q|q)
    .exact .inr (.inl q)
    .exact .inl q
    .exact .inr (.inr q)
theorem vQ: ∀{T:List (b3 F)} {c:b3 F},(T.map (·.2)).Nodup->((ll T c).map (·.2)).Nodup
 | [],c,_=>by simp[ll]
 |x::r,c,hn=>by
  rw[W7,XN]at hn;unfold ll;split
  .rename_i e;rw[W7,XN,<-e];exact hn
  .rename_i e;rw[W7,XN,wA];exact⟨fun q=>q.elim e hn.1,vQ hn.2⟩
theorem DR(l:List (b3 F))(c:b3 F)(f:F):dT (l++ [c]) f=if c.2=f then io c.1 else dT l f:=by
 unfold dT;rw[List.reverse_append,List.reverse_singleton,ZQ,List.find?_cons];by_cases e:c.2=f
 .rw[am e,decide_eq_true e];rfl
 .rw[be e,decide_eq_false e]
theorem qW(l:List (b3 F)):((n9 l).map (·.2)).Nodup∧ ∀(a:Bool) (f:F),(a,f)∈n9 l↔dT l f=io a:=by
 suffices key: ∀(m k:List (b3 F)) (T:List (b3 F)),(T.map (·.2)).Nodup->(∀(a:Bool) (f:F),(a,f)∈T↔dT k f=io a)->
   ((m.foldl ll T).map (·.2)).Nodup∧ ∀(a:Bool) (f:F),(a,f)∈m.foldl ll T↔dT (k++m) f=io a by
  have:=key l [] [] XY fun a f=>by simp[dT]
  exact this
 intro m
 induction m with
 |nil=>intro k T h1 j;rw[XM];exact⟨h1,j⟩
 |cons c m ih=>
  intro k T h1 j;have:=ih (k++ [c]) (ll T c) (vQ h1) fun a f=>by
   rw[B0 h1,DR,j];by_cases e:c.2=f
   .rw[am e];constructor
    .rintro(q|⟨q,_⟩)
     .rw[<-q]
     .exact absurd e.symm q
    .intro q;left;have:=X4 q;rw[<-this,<-e]
   .rw[be e];constructor
    .rintro(q|⟨_,q⟩)
     .exact absurd (by rw[<-q]) e
     .exact q
    .intro q;exact .inr ⟨fun g=>e g.symm,q⟩
  rw[Xf,ZQ]at this;exact this
theorem nE{c:F->F->Int}(h:TO c)(S:List F)(l:List (b3 F)):((n9 l).filter fun x=>!(lc (x.2∈S)==x.1)).Perm (dM c S l):=by
 obtain⟨h1,u⟩:=qW l;have j: ∀{t:List (b3 F)},(t.map (·.2)).Nodup->t.Nodup:=fun{t} q=>by
  have:=List.pairwise_map.1 q;exact this.imp fun a e=>a (by rw[e])
 refine(YJ (Zi _ (j h1)) (j ((xe.facts (po h S l)).nodup h))).2 fun x=>?_;obtain⟨a,f⟩:=x;rw[XG,u,jK h];simp
theorem Gx{kc:Go.Al.KC}{key:F->kc.K}(T:List (b3 F))(c:b3 F)(j: ∀x∈T,key x.2=key c.2->x.2=c.2):
  Go.Al.cS kc (T.map fun x=>(key x.2,x)) (key c.2) c=(ll T c).map fun x=>(key x.2,x):=by
 induction T with
 |nil=>rfl
 |cons x r ih=>
  simp only[W7,Go.Al.cS,ll];by_cases e:key x.2=key c.2
  .rw[am e,am (j x (Xk ..) e),W7]
  .rw[be e,be (fun q=>e (by rw[q])),W7,ih fun u hu=>j u (Xi _ hu)]
end
end
end Go.Bo
namespace Go.Proofs.YtlmhfgbkchnfbaaGreatDoor
open Go Go.Al Go.Proofs.Tryz Go.Bo
theorem yP: ∀a b:List UInt8,Lib.compareBytes a b=cmpL oX (a.map fun x=>(x.toNat:Int)) (b.map fun x=>(x.toNat:Int))
 | [],[]=>rfl
 | [],_::_=>rfl
 |_::_,[]=>rfl
 |x::a,y::b=>by
  simp only[Lib.compareBytes,W7,cmpL,yP a b];have h1:(x<y)↔((x.toNat:Int)<(y.toNat:Int)):=by rw[UInt8.lt_iff_toNat_lt];omega
  have j:(y<x)↔((y.toNat:Int)<(x.toNat:Int)):=by rw[UInt8.lt_iff_toNat_lt];omega
  simp only[vL,oX,h1,j];split
  .simp
  .split
   .simp
   .simp
theorem xz(a b:aq)(w:World):(callFunc 200 #[.string a,.string b]).run prog w= .ok (.value (.int .i64 (s7 a b))) w:=by
 rw[run_callFunc_extern func200 (by kernel_rfl) (by kernel_rfl) (by kernel_rfl) (e:=Extern.BytealgCompare.compare) (by kernel_rfl),Lib.run_compareString,yP];rfl
theorem Is(a b:aq):Pure prog 148 [pS a,pS b] (pI (s7 a b)):=by
 refine ah ab func148 Z (by decide) ntmps148 Z (by simp) Z ?_;refine gA Z (NJ (.int .i64 (s7 a b)) Z Z Z Z (xz a b) Z ?_);refine gA Z (aM (by first|exact .inr Z|exact .inl Z) Z (.of_eq ?_));rfl
theorem EM(a b:aq):Pure prog 110 [pS a,pS b] (pI (s7 a b)):=by
 refine ah ab func110 Z (by decide) ntmps110 Z (by simp) Z ?_;refine gA Z (aF (Is a b) Z Z Z Z Z Z ?_);refine gA Z (aM (by first|exact .inr Z|exact .inl Z) Z (.of_eq ?_));rfl
theorem UD(n:Int):Pure prog 239 [pI n] (pB kw):=by
 refine ah ab func239 Z (by decide) ntmps239 Z (by simp) Z ?_;refine gA Z (aM (by first|exact .inr Z|exact .inl Z) Z (.of_eq ?_));show pB (!lc (n=n))=pB kw;simp
theorem Qf(a b:Int):Pure prog 201 [pI a,pI b] (pI (oX a b)):=by
 refine ah ab func201 Z (by decide) ntmps201 Z (by simp) Z ?_;refine gA Z (aF (UD a) Z Z Z Z Z Z ?_);refine gA Z (aF (UD b) Z Z Z Z Z Z ?_);refine gA Z ?_;refine W0 (fun x=>?_) (fun x=>?_)
 .exact absurd x (by decide)
 refine gA Z ?_;refine W0 (fun y=>?_) (fun y=>?_)
 .exact absurd y (by decide)
 refine gA Z ?_;refine W0 (fun j=>?_) (fun j=>?_)
 .have j:a<b:=by simpa using j
  refine gA Z (aM (by first|exact .inr Z|exact .inl Z) Z (.of_eq ?_));rw[oX,am j];rfl
 have j: ¬a<b:=by simpa using j
 refine gA Z ?_;refine W0 (fun u=>?_) (fun u=>?_)
 .have u:b<a:=by simpa using u
  refine gA Z (aM (by first|exact .inr Z|exact .inl Z) Z (.of_eq ?_));rw[oX,be j,am u];rfl
 .have u: ¬b<a:=by simpa using u
  refine gA Z (aM (by first|exact .inr Z|exact .inl Z) Z (.of_eq ?_));rw[oX,be j,be u];rfl
def Hy:List Int->Int
 | []=>0
 |x::r=>vL x (Hy r)
theorem BQ{l:List Int}{i:Nat}(h: ∀x∈l.take i,x=0):Hy l=Hy (l.drop i):=by
 induction i generalizing l with
 |zero=>rfl
 |succ i ih=>
  cases l with
  |nil=>rfl
  |cons x r=>
   have j:x=0:=h x (by simp);rw[Hy,j,vL,am Z,List.drop_succ_cons];exact ih fun y u=>h y (by simp[u])
theorem sOr(l:List Int)(hl:l.length<=100):bh prog 109 [.sl 0 0 l.length 1] [aS 1 l kv] (pI (Hy l)) [] 1:=by
 refine ak ab func109 Z (by decide) ntmps109 Z (by simp) ?_;refine iY 0 (fun k=>kv (l.getD k co)) Z (cG Z) (show AF.kK 0 1 (l.map fun x=>(kv x).map PV.iv).length [(0,.sl 0 0 l.length 1)] from⟨by simp[PV.aZ],ac⟩) ⟨EZ _ _ _ _ _ _,ac⟩ ?_;refine gA Z ?_;refine aN 0 l.length (Xc _) (fun i=>⟨[(3,pI 0),(6,.iv (aT 1 l kv)),(7,pI l.length),(8,pI i)],[],1⟩) (fun i=> ∀x∈l.take i,x=0) [] (by simp)
  (wk Z Z Z (bi ⟨.bI Z (fun k _=>by rw[Xo]),rfl,bi (bi trivial)⟩) trivial Z) fun i hi u=>?_
 refine gA Z ?_;refine W0 (fun h1=>?_) (fun h1=>?_)
 .have h1:i<l.length:=by simpa using h1
  have hd:l.drop i=l.getD i co::l.drop (i+1):=by
   rw[W2,W5 h1,X9,YO h1]
  refine gA Z ?_;refine W0 (fun j=>?_) (fun j=>?_)
  .have j: ¬l.getD i co=0:=by simpa using j
   have:Hy l=l.getD i co:=by rw[BQ u,hd,Hy,vL,be j]
   rw[this];refine gA Z (ar [] (by first|exact .inr Z|exact .inl Z) Z (wk Z Z Z (bi ac) ac Z))
  .have j:l.getD i co=0:=by simpa using j
   refine gA Z ?_;refine⟨h1,fun x y=>?_,[],wk Z Z Z (bi (bi (bi (bi ac)))) ac Z⟩;rw[bT h1,Xr,Xd]at y;exact y.elim (u x) fun e=>e.trans j
 .have h1:l.length<=i:=by simpa using h1
  have:Hy l=0:=by rw[BQ u,Yy h1];rfl
  rw[this];refine gA Z (ar [] (by first|exact .inr Z|exact .inl Z) Z (wk Z Z Z (bi ac) ac Z))
theorem UN(a b:cW):Pure prog 150 [ag a.c,ag b.c] (pI (CG a b)):=by
 have e:CG a b=Hy [oX a.kind b.kind,oX a.num b.num,s7 a.sym b.sym]:=by
  simp only[CG,Hy];have:vL (s7 a.sym b.sym) 0=s7 a.sym b.sym:=by unfold vL;split<;>simp_all
  rw[this]
 rw[e];refine ah ab func150 Z (by decide) ntmps150 Z (by simp) Z ?_;refine gA Z (bf ab [] (Pure.nS (Qf a.kind b.kind)) Z Z Z Z Z Z Z Z Z Z Z Z (by(repeat' (first|exact ac|exact rfl|exact ae.refl _|exact ae.bk (by assumption)|apply W0))<;>first|omega|(simp only[W6];omega)|(simp;done)|(simp;omega)) Z (by(repeat' (first|exact ac|exact rfl|exact ae.refl _|exact ae.bk (by assumption)|apply W0))<;>first|omega|(simp only[W6];omega)|(simp;done)|(simp;omega)) ?_);refine gA Z (bf ab [] (Pure.nS (Qf a.num b.num)) Z Z Z Z Z Z Z Z Z Z Z Z (by(repeat' (first|exact ac|exact rfl|exact ae.refl _|exact ae.bk (by assumption)|apply W0))<;>first|omega|(simp only[W6];omega)|(simp;done)|(simp;omega)) Z (by(repeat' (first|exact ac|exact rfl|exact ae.refl _|exact ae.bk (by assumption)|apply W0))<;>first|omega|(simp only[W6];omega)|(simp;done)|(simp;omega)) ?_);refine gA Z (bf ab [] (Pure.nS (EM a.sym b.sym)) Z Z Z Z Z Z Z Z Z Z Z Z (by(repeat' (first|exact ac|exact rfl|exact ae.refl _|exact ae.bk (by assumption)|apply W0))<;>first|omega|(simp only[W6];omega)|(simp;done)|(simp;omega)) Z (by(repeat' (first|exact ac|exact rfl|exact ae.refl _|exact ae.bk (by assumption)|apply W0))<;>first|omega|(simp only[W6];omega)|(simp;done)|(simp;omega)) ?_);refine gA Z (bf ab [2] (sOr [oX a.kind b.kind,oX a.num b.num,s7 a.sym b.sym] (by simp)) Z Z Z Z Z Z Z Z Z Z Z Z (by(repeat' (first|exact ac|exact rfl|exact ae.refl _|exact ae.bk (by assumption)|apply W0))<;>first|omega|(simp only[W6];omega)|(simp;done)|(simp;omega)) Z (by(repeat' (first|exact ac|exact rfl|exact ae.refl _|exact ae.bk (by assumption)|apply W0))<;>first|omega|(simp only[W6];omega)|(simp;done)|(simp;omega)) ?_);refine gA Z (aM (by first|exact .inr Z|exact .inl Z) Z (.of_eq ?_));rfl
theorem R1(a b:List cW)(ha:a.length<=1000000000)(hb:b.length<=1000000000):Pure prog 149 [.iv (aT 3 a cW.c),.iv (aT 3 b cW.c),.cB (.func 150) [] []] (pI (wK a b)):=by
 refine ah ab func149 Z (by decide) ntmps149 Z (by simp) Z ?_;refine gA Z ?_;refine aN 0 a.length (Xc _) (fun i=>⟨[(0,.iv (aT 3 a cW.c)),(1,.iv (aT 3 b cW.c)),(2,.cB (.func 150) [] []),(11,.iv (aT 3 a cW.c)),(12,pI a.length),(13,pI i)],[],0⟩) (fun i=>i<=b.length∧wK a b=wK (a.drop i) (b.drop i)) [] ⟨Xc _,rfl⟩
  (wk Z Z Z (bi (bi (bi (bi (bi (bi trivial)))))) trivial Z) fun i hi x=>?_
 obtain⟨B,x⟩:=x;refine gA Z ?_;refine W0 (fun h1=>?_) (fun h1=>?_)
 .have h1:i<a.length:=by simpa using h1
  have hd:a.drop i=a.getD i co::a.drop (i+1):=by
   rw[W2,W5 h1,X9,YO h1]
  refine gA Z ?_;refine W0 (fun j=>?_) (fun j=>?_)
  .have j:b.length<=i:=by simpa using j
   rw[x,hd,Yy j];refine gA Z (aM (by first|exact .inr Z|exact .inl Z) Z (.of_eq ?_));rfl
  .have j:i<b.length:=by simpa using j
   have A:b.drop i=b.getD i co::b.drop (i+1):=by
    rw[W2,W5 j,X9,YO j]
   have hs:wK a b=vL (CG (a.getD i co) (b.getD i co)) (wK (a.drop (i+1)) (b.drop (i+1))):=by rw[x,hd,A];rfl
   refine gA Z (aF (UN (a.getD i co) (b.getD i co)) Z Z Z Z Z Z ?_);refine gA Z ?_;refine W0 (fun u=>?_) (fun u=>?_)
   .have u: ¬CG (a.getD i co) (b.getD i co)=0:=by simpa using u
    rw[hs,vL,be u];refine gA Z (aM (by first|exact .inr Z|exact .inl Z) Z (.of_eq ?_));rfl
   .have u:CG (a.getD i co) (b.getD i co)=0:=by simpa using u
    refine gA Z ⟨h1,⟨j,by rw[hs,u,vL,am Z]⟩,[],wk Z Z Z (bi (bi (bi (bi (bi (bi ac)))))) ac Z⟩
 .have h1:a.length<=i:=by simpa using h1
  have y:i=a.length:=by omega
  subst y;rw[x,Yy (W8 a.length)];refine gA Z ?_;refine W0 (fun j=>?_) (fun j=>?_)
  .have j:a.length<b.length:=by simpa using j
   rw[YO j];refine gA Z (aM (by first|exact .inr Z|exact .inl Z) Z (.of_eq ?_));rfl
  .have j:b.length<=a.length:=by simpa using j
   rw[Yy j];refine gA Z (aM (by first|exact .inr Z|exact .inl Z) Z (.of_eq ?_));rfl
theorem UO(a b:List cW)(ha:a.length<=1000000000)(hb:b.length<=1000000000):Pure prog 111 [.iv (aT 3 a cW.c),.iv (aT 3 b cW.c)] (pI (wK a b)):=by
 refine ah ab func111 Z (by decide) ntmps111 Z (by simp) Z ?_;refine gA Z (aF (R1 a b ha hb) Z Z Z Z Z Z ?_);refine gA Z (aM (by first|exact .inr Z|exact .inl Z) Z (.of_eq ?_));rfl
theorem p7(a b:Fact)(ha:a.args.length<=1000000000)(hb:b.args.length<=1000000000):Pure prog 73 [ag a.c,ag b.c] (pI (aU a b)):=by
 have e:aU a b=Hy [s7 a.rel b.rel,wK a.args b.args]:=by
  simp only[aU,Hy];have:vL (wK a.args b.args) 0=wK a.args b.args:=by unfold vL;split<;>simp_all
  rw[this]
 rw[e];refine ah ab func73 Z (by decide) ntmps73 Z (by simp) Z ?_;refine gA Z (bf ab [] (Pure.nS (EM a.rel b.rel)) Z Z Z Z Z Z Z Z Z Z Z Z (by(repeat' (first|exact ac|exact rfl|exact ae.refl _|exact ae.bk (by assumption)|apply W0))<;>first|omega|(simp only[W6];omega)|(simp;done)|(simp;omega)) Z (by(repeat' (first|exact ac|exact rfl|exact ae.refl _|exact ae.bk (by assumption)|apply W0))<;>first|omega|(simp only[W6];omega)|(simp;done)|(simp;omega)) ?_);refine gA Z (bf ab [] (Pure.nS (UO a.args b.args ha hb)) Z Z Z Z Z Z Z Z Z Z Z Z (by(repeat' (first|exact ac|exact rfl|exact ae.refl _|exact ae.bk (by assumption)|apply W0))<;>first|omega|(simp only[W6];omega)|(simp;done)|(simp;omega)) Z (by(repeat' (first|exact ac|exact rfl|exact ae.refl _|exact ae.bk (by assumption)|apply W0))<;>first|omega|(simp only[W6];omega)|(simp;done)|(simp;omega)) ?_);refine gA Z (bf ab [2] (sOr [s7 a.rel b.rel,wK a.args b.args] (by simp)) Z Z Z Z Z Z Z Z Z Z Z Z (by(repeat' (first|exact ac|exact rfl|exact ae.refl _|exact ae.bk (by assumption)|apply W0))<;>first|omega|(simp only[W6];omega)|(simp;done)|(simp;omega)) Z (by(repeat' (first|exact ac|exact rfl|exact ae.refl _|exact ae.bk (by assumption)|apply W0))<;>first|omega|(simp only[W6];omega)|(simp;done)|(simp;omega)) ?_);refine gA Z (aM (by first|exact .inr Z|exact .inl Z) Z (.of_eq ?_));rfl
def fN(x:b3 Fact):List IV:= .v (.bool x.1)::x.2.c
theorem MK(a b:b3 Fact)(ha:a.2.args.length<=1000000000)(hb:b.2.args.length<=1000000000):Pure prog 83 [ag (fN a),ag (fN b)] (pI (aU a.2 b.2)):=by
 refine ah ab func83 Z (by decide) ntmps83 Z (by simp) Z ?_;refine gA Z (aF (p7 a.2 b.2 ha hb) Z Z Z Z Z Z ?_);refine gA Z (aM (by first|exact .inr Z|exact .inl Z) Z (.of_eq ?_));rfl
section
theorem Ad{a b:Int}(h:a=b):ae (pI a) (pI b):=h▸ .refl _
theorem fY{α:Type}[Inhabited α](l:List α)(f:α->List IV):((XC l.length).map fun k=>(f (l.getD k co)).map PV.iv)=l.map fun x=>(f x).map PV.iv:=by
 refine Zy (by simp) fun i h1 j=>?_;simp only[Xw]at j;simp[W5 j]
def Up(L:List Fact):Prop:= ∀i j,i<j->j<L.length-> ¬aU (L.getD j co) (L.getD i co)<0
theorem Tw{L:List Fact}(h:rq aU L):Up L:=fun i j u x=>by
 have:=(Yl.1 h) i j (by omega) x u;rw[W2,W2,W5 x,W5 (by omega:i<L.length)];exact pg.asym this
def xE(L:List Fact):Prop:= ∀f∈L,f.args.length<=1000000000
theorem Hb{L:List Fact}{i:Nat}(hi:i<L.length):L.getD i co∈L:=by
 rw[W2,W5 hi];exact XS hi
theorem xE.at{L:List Fact}(h:xE L){i:Nat}(hi:i<L.length):(L.getD i co).args.length<=1000000000:=h _ (Hb hi)
abbrev kZ:PV:= .cB (.func 73) [] []
abbrev pW(L:List Fact):PV:= .iv (aT 2 L Fact.c)
theorem r7(i j:Nat)(h:i+j<=4000000000000):IntKind.i64.wrap (Int.fdiv (IntKind.u64.wrap ((i:Int)+(j:Int))) (2 ^ min (Zt 1) IntKind.u64.bits))=(((i+j)/2:Nat):Int):=by
 have h1:IntKind.u64.wrap ((i:Int)+(j:Int))=((i+j:Nat):Int):=by simp[IntKind.wrap,IntKind.bits,IntKind.signed];omega
 rw[h1];have u:Int.fdiv (((i+j:Nat)):Int) (2 ^ min (Zt 1) IntKind.u64.bits)=(((i+j)/2:Nat):Int):=by
  show Int.fdiv _ 2=_;rw[Yp _ (by decide)];omega
 rw[u];simp[IntKind.wrap,IntKind.bits,IntKind.signed];omega
section
variable {L:List Fact} (hu:Up L) (hF:xE L) (hl:L.length<=1000000000000)
include hu hF hl
theorem UI(a b:Nat)(j:a<=b)(hb:b<=L.length):Pure prog 138 [pW L,pI a,pI b,kZ] (.a7 []):=by
 refine ah ab func138 Z (by decide) ntmps138 Z (by simp) Z ?_;refine gA Z ?_;refine aN (a+1) (max (a+1) b) (Nat.le_max_left _ _) (fun i=>⟨[(0,pW L),(1,pI a),(2,pI b),(3,kZ),(8,pI i)],[],0⟩) (fun i=>a+1<=i) [] (W8 _)
  (wk Z Z Z (bi (bi (bi (bi (bi trivial))))) trivial Z) fun i hi u=>?_
 refine gA Z ?_;refine W0 (fun h1=>?_) (fun h1=>?_)
 .have h1:i<b:=by simpa using h1
  refine gA Z (nL (n:=0) ?_);have e:((i:Int)-1).toNat=i-1:=by omega
  refine gA Z ?_;refine W0 (fun g1=>?_) (fun g1=>?_)
  .refine gA Z (bf ab [] (Pure.nS (p7 (L.getD i co) (L.getD ((i:Int)-1).toNat co) (hF.at (by omega)) (hF.at (by omega)))) Z Z Z Z Z Z Z Z Z Z Z Z (by(repeat' (first|exact ac|exact rfl|exact ae.refl _|exact ae.bk (by assumption)|apply W0))<;>first|omega|(simp only[W6];omega)|(simp;done)|(simp;omega)) Z (by(repeat' (first|exact ac|exact rfl|exact ae.refl _|exact ae.bk (by assumption)|apply W0))<;>first|omega|(simp only[W6];omega)|(simp;done)|(simp;omega)) ?_);refine gA Z ?_;refine W0 (fun g2=>?_) (fun g2=>?_)
   .exact absurd (of_decide_eq_true g2) (by rw[e];exact hu (i-1) i (by omega) (by omega))
   .refine gA Z ?_;exact⟨by omega,by omega,[],wk Z Z Z (bi (bi (bi (bi (bi ac))))) ac Z⟩
  .exact absurd g1 (by simp;omega)
 .refine gA Z (aM (by first|exact .inr Z|exact .inl Z) Z (.of_eq ?_));rfl
theorem Us: ∀(n a m b:Nat),b-a<=n->a<m->m<b->b<=L.length->Pure prog 241 [pW L,pI a,pI m,pI b,kZ] (.a7 []):=by
 intro n
 induction n with
 |zero=>intro a m b h0 h1 h2 h3;omega
 |succ n ih=>
  intro a m b h0 h1 h2 h3;refine ah ab func241 Z (by decide) ntmps241 Z (by simp) Z ?_;refine gA Z ?_;refine W0 (fun J=>?_) (fun J=>?_)
  .have J:m=a+1:=by have:=of_decide_eq_true J;(try dsimp only at this);omega
   refine gA Z (iF (σ:={j:Nat//m<=j∧j<=b}) (fun j=>⟨[(0,pW L),(1,pI a),(2,pI m),(3,pI b),(4,kZ),(10,pI m),(11,pI j.1)],[],0⟩) (fun j=>j.1-m) ⟨b,by omega,W8 _⟩ []
    (wk Z Z Z (bi (bi (bi (bi (bi (bi (bi ac))))))) ac Z) fun j=>?_)
   obtain⟨j,j1,j2⟩:=j;refine gA Z ?_;refine W0 (fun g1=>?_) (fun g1=>?_)
   .have g1:m<j:=by simpa using g1
    have x:=r7 m j (by omega)
    (refine gM 12 Z ?_;refine bZ (L:=[]) (t:=⟨[(0,pW L),(1,pI a),(2,pI m),(3,pI b),(4,kZ),(10,pI m),(11,pI j),(12,pI ((m+j)/2:Nat))],[],0⟩) (wk Z Z Z (bi (bi (bi (bi (bi (bi (bi ⟨Ad x,rfl,ac⟩))))))) ac Z) ?_)
    refine gA Z (bf ab [] (Pure.nS (p7 (L.getD ((m+j)/2) co) (L.getD a co) (hF.at (by omega)) (hF.at (by omega)))) Z Z Z Z Z Z Z Z Z Z Z Z (by(repeat' (first|exact ac|exact rfl|exact ae.refl _|exact ae.bk (by assumption)|apply W0))<;>first|omega|(simp only[W6];omega)|(simp;done)|(simp;omega)) Z (by(repeat' (first|exact ac|exact rfl|exact ae.refl _|exact ae.bk (by assumption)|apply W0))<;>first|omega|(simp only[W6];omega)|(simp;done)|(simp;omega)) ?_);refine gA Z ?_;refine W0 (fun g2=>?_) (fun g2=>?_)
    .exact absurd (of_decide_eq_true g2) (hu a ((m+j)/2) (by omega) (by omega))
    .refine gA Z ?_;exact⟨⟨(m+j)/2,by omega,by omega⟩,[],by show(m+j)/2-m<j-m;omega,wk Z Z Z (bi (bi (bi (bi (bi (bi (bi ac))))))) ac Z⟩
   .refine gA Z (nL (n:=0) ?_);refine gA Z ?_;refine W0 (fun g3=>?_) (fun g3=>?_)
    .exact absurd g3 (by simp;omega)
    .refine gA Z (aM (by first|exact .inr Z|exact .inl Z) Z (.of_eq ?_));rfl
  have J: ¬m=a+1:=by have:=of_decide_eq_false J;(try dsimp only at this);omega
  refine gA Z ?_;refine W0 (fun Y=>?_) (fun Y=>?_)
  .have Y:b=m+1:=by have:=of_decide_eq_true Y;(try dsimp only at this);omega
   refine gA Z (iF (σ:={i:Nat//a<=i∧i<=m}) (fun i=>⟨[(0,pW L),(1,pI a),(2,pI m),(3,pI b),(4,kZ),(14,pI i.1),(15,pI m)],[],0⟩) (fun i=>m-i.1) ⟨a,W8 _,by omega⟩ []
    (wk Z Z Z (bi (bi (bi (bi (bi (bi (bi ac))))))) ac Z) fun i=>?_)
   obtain⟨i,i1,i2⟩:=i;refine gA Z ?_;refine W0 (fun g1=>?_) (fun g1=>?_)
   .have g1:i<m:=by simpa using g1
    have x:=r7 i m (by omega)
    (refine gM 12 Z ?_;refine bZ (L:=[]) (t:=⟨[(0,pW L),(1,pI a),(2,pI m),(3,pI b),(4,kZ),(14,pI i),(15,pI m),(16,pI ((i+m)/2:Nat))],[],0⟩) (wk Z Z Z (bi (bi (bi (bi (bi (bi (bi ⟨Ad x,rfl,ac⟩))))))) ac Z) ?_)
    refine gA Z (bf ab [] (Pure.nS (p7 (L.getD m co) (L.getD ((i+m)/2) co) (hF.at (by omega)) (hF.at (by omega)))) Z Z Z Z Z Z Z Z Z Z Z Z (by(repeat' (first|exact ac|exact rfl|exact ae.refl _|exact ae.bk (by assumption)|apply W0))<;>first|omega|(simp only[W6];omega)|(simp;done)|(simp;omega)) Z (by(repeat' (first|exact ac|exact rfl|exact ae.refl _|exact ae.bk (by assumption)|apply W0))<;>first|omega|(simp only[W6];omega)|(simp;done)|(simp;omega)) ?_);refine gA Z ?_;refine W0 (fun g2=>?_) (fun g2=>?_)
    .refine gA Z ?_;exact⟨⟨(i+m)/2+1,by omega,by omega⟩,[],by show m-((i+m)/2+1)<m-i;omega,wk Z Z Z (bi (bi (bi (bi (bi (bi (bi ac))))))) ac Z⟩
    .have g2:aU (L.getD m co) (L.getD ((i+m)/2) co)<0:=by simpa using g2
     exact absurd g2 (hu ((i+m)/2) m (by omega) (by omega))
   .have g1:m<=i:=by simpa using g1
    have:i=m:=by omega
    subst this;refine gA Z (nL (n:=0) ?_);refine gA Z ?_;refine W0 (fun g3=>?_) (fun g3=>?_)
    .exact absurd g3 (by simp)
    .refine gA Z (aM (by first|exact .inr Z|exact .inl Z) Z (.of_eq ?_));rfl
  have Y: ¬b=m+1:=by have:=of_decide_eq_false Y;(try dsimp only at this);omega
  have x:=r7 a b (by omega);obtain⟨u,D⟩: ∃u,u=(a+b)/2:=⟨_,rfl⟩
  rw[<-D]at x
  (refine gM 11 Z ?_;refine bZ (L:=[]) (t:=⟨[(0,pW L),(1,pI a),(2,pI m),(3,pI b),(4,kZ),(18,pI u)],[],0⟩) (wk Z Z Z (bi (bi (bi (bi (bi ⟨Ad x,rfl,ac⟩))))) ac Z) ?_)
  refine gA Z ?_;refine W0 (fun A=>?_) (fun A=>?_)
  .have A:u<m:=by simpa using A
   refine gA Z (iF (σ:={st:Nat//u+m-b<=st∧st<=u}) (fun st=>⟨[(0,pW L),(1,pI a),(2,pI m),(3,pI b),(4,kZ),(18,pI u),(19,pI (u+m:Nat)),(20,pI st.1),(21,pI u),(22,pI (u+m-1:Nat))],[],0⟩) (fun st=>u-st.1) ⟨u+m-b,W8 _,by omega⟩ []
    (wk Z Z Z (bi (bi (bi (bi (bi (bi (bi ⟨Ad (by(try dsimp only);omega),rfl,bi ⟨Ad (by(try dsimp only);omega),rfl,ac⟩⟩))))))) ac Z) fun st=>?_)
   obtain⟨st,s1,s2⟩:=st;refine gA Z ?_;refine W0 (fun g1=>?_) (fun g1=>?_)
   .have g1:st<u:=by simpa using g1
    have x:=r7 st u (by omega);obtain⟨c,hc⟩: ∃c,c=(st+u)/2:=⟨_,rfl⟩
    rw[<-hc]at x
    (refine gM 12 Z ?_;refine bZ (L:=[]) (t:=⟨[(0,pW L),(1,pI a),(2,pI m),(3,pI b),(4,kZ),(18,pI u),(19,pI (u+m:Nat)),(20,pI st),(21,pI u),(22,pI (u+m-1:Nat)),(23,pI c)],[],0⟩) (wk Z Z Z (bi (bi (bi (bi (bi (bi (bi (bi (bi (bi ⟨Ad x,rfl,ac⟩)))))))))) ac Z) ?_)
    have e:(((u+m-1:Nat):Int)-(c:Int)).toNat=u+m-1-c:=by omega
    refine gA Z (bf ab [] (Pure.nS (p7 (L.getD (((u+m-1:Nat):Int)-(c:Int)).toNat co) (L.getD c co) (hF.at (by omega)) (hF.at (by omega)))) Z Z Z Z Z Z Z Z Z Z Z Z (by(repeat' (first|exact ac|exact rfl|exact ae.refl _|exact ae.bk (by assumption)|apply W0))<;>first|omega|(simp only[W6];omega)|(simp;done)|(simp;omega)) Z (by(repeat' (first|exact ac|exact rfl|exact ae.refl _|exact ae.bk (by assumption)|apply W0))<;>first|omega|(simp only[W6];omega)|(simp;done)|(simp;omega)) ?_);refine gA Z ?_;refine W0 (fun g2=>?_) (fun g2=>?_)
    .refine gA Z ?_;exact⟨⟨c+1,by omega,by omega⟩,[],by show u-(c+1)<u-st;omega,wk Z Z Z (bi (bi (bi (bi (bi (bi (bi (bi (bi (bi ac)))))))))) ac Z⟩
    .have g2:aU (L.getD (((u+m-1:Nat):Int)-(c:Int)).toNat co) (L.getD c co)<0:=by simpa using g2
     rw[e]at g2;exact absurd g2 (hu c (u+m-1-c) (by omega) (by omega))
   .have g1:u<=st:=by simpa using g1
    have:st=u:=by omega
    subst this
    (refine gM 8 Z ?_;refine bZ (L:=[]) (t:=⟨[(0,pW L),(1,pI a),(2,pI m),(3,pI b),(4,kZ),(18,pI st),(20,pI st),(24,pI m)],[],0⟩) (wk Z Z Z (bi (bi (bi (bi (bi (bi (bi ⟨Ad (by(try dsimp only);omega),rfl,ac⟩))))))) ac Z) ?_)
    refine gA Z ?_;refine W0 (fun G=>?_) (fun G=>?_);rotate_left
    .exact absurd A (by simpa using G)
    refine gA Z ?_;refine W0 (fun k2=>?_) (fun k2=>?_)
    .exact absurd k2 (by simp)
    refine gA Z ?_;refine W0 (fun I=>?_) (fun I=>?_);rotate_left
    .exact absurd (show a<st by omega) (by simpa using I)
    refine gA Z ?_;refine W0 (fun B=>?_) (fun B=>?_)
    .exact absurd B (by simp)
    refine gA Z ?_;refine W0 (fun y=>?_) (fun y=>?_);rotate_left
    .exact absurd A (by simpa using y)
    refine gA Z ?_;refine W0 (fun k6=>?_) (fun k6=>?_)
    .refine gA Z (aF (ih st m b (by omega) A h2 h3) Z Z Z Z Z Z ?_);refine gA Z (aM (by first|exact .inr Z|exact .inl Z) Z (.of_eq ?_));rfl
    .exact absurd h2 (by simpa using k6)
  .have A:m<=u:=by simpa using A
   refine gA Z (iF (σ:={st:Nat//a<=st∧st<=m}) (fun st=>⟨[(0,pW L),(1,pI a),(2,pI m),(3,pI b),(4,kZ),(18,pI u),(19,pI (u+m:Nat)),(20,pI st.1),(21,pI m),(22,pI (u+m-1:Nat))],[],0⟩) (fun st=>m-st.1) ⟨a,W8 _,by omega⟩ []
    (wk Z Z Z (bi (bi (bi (bi (bi (bi ⟨Ad (by(try dsimp only);omega),rfl,bi (bi ⟨Ad (by(try dsimp only);omega),rfl,ac⟩)⟩)))))) ac Z) fun st=>?_)
   obtain⟨st,s1,s2⟩:=st;refine gA Z ?_;refine W0 (fun g1=>?_) (fun g1=>?_)
   .have g1:st<m:=by simpa using g1
    have x:=r7 st m (by omega);obtain⟨c,hc⟩: ∃c,c=(st+m)/2:=⟨_,rfl⟩
    rw[<-hc]at x
    (refine gM 12 Z ?_;refine bZ (L:=[]) (t:=⟨[(0,pW L),(1,pI a),(2,pI m),(3,pI b),(4,kZ),(18,pI u),(19,pI (u+m:Nat)),(20,pI st),(21,pI m),(22,pI (u+m-1:Nat)),(23,pI c)],[],0⟩) (wk Z Z Z (bi (bi (bi (bi (bi (bi (bi (bi (bi (bi ⟨Ad x,rfl,ac⟩)))))))))) ac Z) ?_)
    have e:(((u+m-1:Nat):Int)-(c:Int)).toNat=u+m-1-c:=by omega
    refine gA Z (bf ab [] (Pure.nS (p7 (L.getD (((u+m-1:Nat):Int)-(c:Int)).toNat co) (L.getD c co) (hF.at (by omega)) (hF.at (by omega)))) Z Z Z Z Z Z Z Z Z Z Z Z (by(repeat' (first|exact ac|exact rfl|exact ae.refl _|exact ae.bk (by assumption)|apply W0))<;>first|omega|(simp only[W6];omega)|(simp;done)|(simp;omega)) Z (by(repeat' (first|exact ac|exact rfl|exact ae.refl _|exact ae.bk (by assumption)|apply W0))<;>first|omega|(simp only[W6];omega)|(simp;done)|(simp;omega)) ?_);refine gA Z ?_;refine W0 (fun g2=>?_) (fun g2=>?_)
    .refine gA Z ?_;exact⟨⟨c+1,by omega,by omega⟩,[],by show m-(c+1)<m-st;omega,wk Z Z Z (bi (bi (bi (bi (bi (bi (bi (bi (bi (bi ac)))))))))) ac Z⟩
    .have g2:aU (L.getD (((u+m-1:Nat):Int)-(c:Int)).toNat co) (L.getD c co)<0:=by simpa using g2
     rw[e]at g2;exact absurd g2 (hu c (u+m-1-c) (by omega) (by omega))
   .have g1:m<=st:=by simpa using g1
    have:st=m:=by omega
    subst this
    (refine gM 8 Z ?_;refine bZ (L:=[]) (t:=⟨[(0,pW L),(1,pI a),(2,pI st),(3,pI b),(4,kZ),(18,pI u),(20,pI st),(24,pI u)],[],0⟩) (wk Z Z Z (bi (bi (bi (bi (bi (bi (bi ⟨Ad (by(try dsimp only);omega),rfl,ac⟩))))))) ac Z) ?_)
    refine gA Z ?_;refine W0 (fun G=>?_) (fun G=>?_)
    .exact absurd G (by simp)
    refine gA Z ?_;refine W0 (fun I=>?_) (fun I=>?_);rotate_left
    .exact absurd h1 (by simpa using I)
    refine gA Z ?_;refine W0 (fun B=>?_) (fun B=>?_)
    .have B:st<u:=by simpa using B
     refine gA Z (aF (ih a st u (by omega) h1 B (by omega)) Z Z Z Z Z Z ?_);refine gA Z ?_;refine W0 (fun y=>?_) (fun y=>?_)
     .exact absurd y (by simp)
     refine gA Z (aM (by first|exact .inr Z|exact .inl Z) Z (.of_eq ?_));rfl
    .refine gA Z ?_;refine W0 (fun y=>?_) (fun y=>?_)
     .exact absurd y (by simp)
     refine gA Z (aM (by first|exact .inr Z|exact .inl Z) Z (.of_eq ?_));rfl
theorem Mx:Pure prog 206 [pW L,pI L.length,kZ] (.a7 []):=by
 refine ah ab func206 Z (by decide) ntmps206 Z (by simp) Z ?_
 refine gA Z (iF (σ:={i:Nat//i<=L.length}) (fun i=>⟨[(0,pW L),(1,pI L.length),(2,kZ),(6,pI 20),(7,pI i.1),(8,pI (i.1+20:Nat))],[],0⟩) (fun i=>L.length-i.1) ⟨0,Xc _⟩ []
  (wk Z Z Z (bi (bi (bi (bi (bi (bi ac)))))) ac Z) fun i=>?_)
 obtain⟨i,i1⟩:=i;refine gA Z ?_;refine W0 (fun g1=>?_) (fun g1=>?_)
 .have g1:i+20<=L.length:=by have:=of_decide_eq_true g1;(try dsimp only at this);omega
  refine gA Z (aF (UI hu hF hl i (i+20) (by omega) g1) Z Z Z Z Z Z ?_);refine gA Z ⟨⟨i+20,g1⟩,[],by show L.length-(i+20)<L.length-i;omega,wk Z Z Z (bi (bi (bi (bi (bi ⟨Ad (by(try dsimp only);omega),rfl,ac⟩))))) ac Z⟩
 .refine gA Z (aF (UI hu hF hl i L.length (by omega) (W8 _)) Z Z Z Z Z Z ?_)
  refine gA Z (iF (σ:={bs:Nat//0<bs∧bs<=2*L.length+20}) (fun bs=>⟨[(0,pW L),(1,pI L.length),(2,kZ),(6,pI bs.1)],[],0⟩) (fun bs=>2*L.length+20-bs.1) ⟨20,by omega,by omega⟩ []
   (wk Z Z Z (bi (bi (bi (bi ac)))) ac Z) fun bs=>?_)
  obtain⟨bs,j,u⟩:=bs;refine gA Z ?_;refine W0 (fun g2=>?_) (fun g2=>?_)
  .have g2:bs<L.length:=by simpa using g2
   refine gA Z (iF (σ:={i:Nat//i<=L.length}) (fun i=>⟨[(0,pW L),(1,pI L.length),(2,kZ),(6,pI bs),(7,pI i.1),(8,pI (i.1+2*bs:Nat))],[],0⟩) (fun i=>L.length-i.1) ⟨0,Xc _⟩ []
    (wk Z Z Z (bi (bi (bi (bi (bi ⟨Ad (by(try dsimp only);omega),rfl,ac⟩))))) ac Z) fun i=>?_)
   obtain⟨i,i1⟩:=i;refine gA Z ?_;refine W0 (fun g3=>?_) (fun g3=>?_)
   .have g3:i+2*bs<=L.length:=by have:=of_decide_eq_true g3;(try dsimp only at this);omega
    refine gA Z (aF (Us hu hF hl (2*bs) i (i+bs) (i+2*bs) (by omega) (by omega) (by omega) g3) Z Z Z Z Z Z ?_);refine gA Z ⟨⟨i+2*bs,g3⟩,[],by show L.length-(i+2*bs)<L.length-i;omega,wk Z Z Z (bi (bi (bi (bi (bi ⟨Ad (by(try dsimp only);omega),rfl,ac⟩))))) ac Z⟩
   .refine gA Z ?_;refine W0 (fun g4=>?_) (fun g4=>?_)
    .have g4:i+bs<L.length:=by have:=of_decide_eq_true g4;(try dsimp only at this);omega
     refine gA Z (aF (Us hu hF hl L.length i (i+bs) L.length (by omega) (by omega) g4 (W8 _)) Z Z Z Z Z Z ?_);refine gA Z ⟨⟨2*bs,by omega,by omega⟩,[],by show 2*L.length+20-2*bs<2*L.length+20-bs;omega,wk Z Z Z (bi (bi (bi ⟨Ad (by(try dsimp only);omega),rfl,ac⟩))) ac Z⟩
    .refine gA Z ?_;exact⟨⟨2*bs,by omega,by omega⟩,[],by show 2*L.length+20-2*bs<2*L.length+20-bs;omega,wk Z Z Z (bi (bi (bi ⟨Ad (by(try dsimp only);omega),rfl,ac⟩))) ac Z⟩
  .refine gA Z (aM (by first|exact .inr Z|exact .inl Z) Z (.of_eq ?_));rfl
theorem Ib:Pure prog 164 [pW L,kZ] (.a7 []):=by
 refine ah ab func164 Z (by decide) ntmps164 Z (by simp) Z ?_;refine gA Z (aF (Mx hu hF hl) Z Z Z Z Z Z ?_);refine gA Z (aM (by first|exact .inr Z|exact .inl Z) Z (.of_eq ?_));rfl
end
end
theorem EO(l:List Int)(hb:l.length<=10000000000):Pure prog 69 [.iv (aT 1 l kv)] (.iv (aT 1 l kv)):=by
 refine ah ab func69 Z (by decide) ntmps69 Z (by simp) Z ?_;refine gl Z ac (jP Z Z Z Z underlying35 Z fun b u=>?_);refine gA Z ?_;refine W0 (fun x=>?_) (fun x=>?_)
 .have j:l=[]:=XL (u x);subst j;refine gA Z (aM (by first|exact .inr Z|exact .inl Z) Z ?_);exact .nil _ _
 refine gl Z ac (lH ab Z Z Z Z Z Z Z fun A=>?_);by_cases j:l=[]
 .subst j;refine gl Z ac (mG ab Z Z Z Z Z Z Z Z (el2:=fun k=>kv (([]:List Int).getD k co)) Z ?_);refine gA Z (aM (by first|exact .inr Z|exact .inl Z) Z ?_);exact .refl _
 .have y:0<l.length:=Yi.2 j;refine gl Z ac (lI ab Z Z Z Z Z Z Z Z (by decide) Z (ib Z) (by simp;omega) (by show((XC l.length).map _).length*8<=_;simp;omega) (by simp;omega) Z ?_);refine gA Z (dD (by first|exact .inr Z|exact .inl Z) Z Z ((fY l kv)) ((by simp)))
theorem uG(l:List Term)(hb:l.length<=10000000000):Pure prog 70 [.iv (aT 5 l Term.c)] (.iv (aT 5 l Term.c)):=by
 refine ah ab func70 Z (by decide) ntmps70 Z (by simp) Z ?_;refine gl Z ac (jP Z Z Z Z underlying147 Z fun b u=>?_);refine gA Z ?_;refine W0 (fun x=>?_) (fun x=>?_)
 .have j:l=[]:=XL (u x);subst j;refine gA Z (aM (by first|exact .inr Z|exact .inl Z) Z ?_);exact .nil _ _
 refine gl Z ac (lH ab Z Z Z Z Z Z Z fun A=>?_);by_cases j:l=[]
 .subst j;refine gl Z ac (mG ab Z Z Z Z Z Z Z Z (el2:=fun k=>Term.c (([]:List Term).getD k co)) Z ?_);refine gA Z (aM (by first|exact .inr Z|exact .inl Z) Z ?_);exact .refl _
 .have y:0<l.length:=Yi.2 j;refine gl Z ac (lI ab Z Z Z Z Z Z Z Z (by decide) Z (ib Z) (by simp;omega) (by show((XC l.length).map _).length*56<=_;simp;omega) (by simp;omega) Z ?_);refine gA Z (dD (by first|exact .inr Z|exact .inl Z) Z Z ((fY l Term.c)) ((by simp)))
theorem EN(l:List Lit)(hb:l.length<=10000000000):Pure prog 105 [.iv (aT 30 l Lit.c)] (.iv (aT 30 l Lit.c)):=by
 refine ah ab func105 Z (by decide) ntmps105 Z (by simp) Z ?_;refine gl Z ac (jP Z Z Z Z underlying150 Z fun b u=>?_);refine gA Z ?_;refine W0 (fun x=>?_) (fun x=>?_)
 .have j:l=[]:=XL (u x);subst j;refine gA Z (aM (by first|exact .inr Z|exact .inl Z) Z ?_);exact .nil _ _
 refine gl Z ac (lH ab Z Z Z Z Z Z Z fun A=>?_);by_cases j:l=[]
 .subst j;refine gl Z ac (mG ab Z Z Z Z Z Z Z Z (el2:=fun k=>Lit.c (([]:List Lit).getD k co)) Z ?_);refine gA Z (aM (by first|exact .inr Z|exact .inl Z) Z ?_);exact .refl _
 .have y:0<l.length:=Yi.2 j;refine gl Z ac (lI ab Z Z Z Z Z Z Z Z (by decide) Z (ib Z) (by simp;omega) (by show((XC l.length).map _).length*384<=_;simp;omega) (by simp;omega) Z ?_);refine gA Z (dD (by first|exact .inr Z|exact .inl Z) Z Z ((fY l Lit.c)) ((by simp)))
theorem Bj(l:List Lit)(hb:l.length<=10000000000)(h0:l≠ []):bh prog 105 [.iv (aT 30 l Lit.c)] [] (.sl 0 0 l.length 30) [(0,io (aS 30 l Lit.c))] 1:=by
 have x:0<l.length:=Yi.2 h0;refine ak ab func105 Z (by decide) ntmps105 Z (by simp) ?_;refine gl Z ac (jP Z Z Z Z underlying150 Z fun b j=>?_);refine gA Z ?_;refine W0 (fun u=>?_) (fun u=>?_)
 .exact absurd (j u) (by omega)
 refine gl Z ac (lH ab Z Z Z Z Z Z Z fun y=>?_);refine gl Z ac (lI ab Z Z Z Z Z Z Z Z (by decide) Z (ib Z) (by simp;omega) (by show((XC l.length).map _).length*384<=_;simp;omega) (by simp;omega) Z ?_);refine gA Z (ar [1] (by first|exact .inr Z|exact .inl Z) Z (wk Z Z Z ⟨.row (by simp),rfl,ac⟩ (hR Z (fY l Lit.c) Z ac) Z))
theorem EP(l:List Expr)(hb:l.length<=10000000000):Pure prog 137 [.iv (aT 7 l Expr.c)] (.iv (aT 7 l Expr.c)):=by
 refine ah ab func137 Z (by decide) ntmps137 Z (by simp) Z ?_;refine gl Z ac (jP Z Z Z Z underlying192 Z fun b u=>?_);refine gA Z ?_;refine W0 (fun x=>?_) (fun x=>?_)
 .have j:l=[]:=XL (u x);subst j;refine gA Z (aM (by first|exact .inr Z|exact .inl Z) Z ?_);exact .nil _ _
 refine gl Z ac (lH ab Z Z Z Z Z Z Z fun A=>?_);by_cases j:l=[]
 .subst j;refine gl Z ac (mG ab Z Z Z Z Z Z Z Z (el2:=fun k=>Expr.c (([]:List Expr).getD k co)) Z ?_);refine gA Z (aM (by first|exact .inr Z|exact .inl Z) Z ?_);exact .refl _
 .have y:0<l.length:=Yi.2 j;refine gl Z ac (lI ab Z Z Z Z Z Z Z Z (by decide) Z (ib Z) (by simp;omega) (by show((XC l.length).map _).length*88<=_;simp;omega) (by simp;omega) Z ?_);refine gA Z (dD (by first|exact .inr Z|exact .inl Z) Z Z ((fY l Expr.c)) ((by simp)))
theorem Bk(l:List Expr)(hb:l.length<=10000000000)(h0:l≠ []):bh prog 137 [.iv (aT 7 l Expr.c)] [] (.sl 0 0 l.length 7) [(0,io (aS 7 l Expr.c))] 1:=by
 have x:0<l.length:=Yi.2 h0;refine ak ab func137 Z (by decide) ntmps137 Z (by simp) ?_;refine gl Z ac (jP Z Z Z Z underlying192 Z fun b j=>?_);refine gA Z ?_;refine W0 (fun u=>?_) (fun u=>?_)
 .exact absurd (j u) (by omega)
 refine gl Z ac (lH ab Z Z Z Z Z Z Z fun y=>?_);refine gl Z ac (lI ab Z Z Z Z Z Z Z Z (by decide) Z (ib Z) (by simp;omega) (by show((XC l.length).map _).length*88<=_;simp;omega) (by simp;omega) Z ?_);refine gA Z (ar [1] (by first|exact .inr Z|exact .inl Z) Z (wk Z Z Z ⟨.row (by simp),rfl,ac⟩ (hR Z (fY l Expr.c) Z ac) Z))
theorem MI(l:List cW)(hb:l.length<=10000000000):Pure prog 81 [.iv (aT 3 l cW.c)] (.iv (aT 3 l cW.c)):=by
 refine ah ab func81 Z (by decide) ntmps81 Z (by simp) Z ?_;refine gl Z ac (jP Z Z Z Z underlying60 Z fun b u=>?_);refine gA Z ?_;refine W0 (fun x=>?_) (fun x=>?_)
 .have j:l=[]:=XL (u x);subst j;refine gA Z (aM (by first|exact .inr Z|exact .inl Z) Z ?_);exact .nil _ _
 refine gl Z ac (lH ab Z Z Z Z Z Z Z fun A=>?_);by_cases j:l=[]
 .subst j;refine gl Z ac (mG ab Z Z Z Z Z Z Z Z (el2:=fun k=>cW.c (([]:List cW).getD k co)) Z ?_);refine gA Z (aM (by first|exact .inr Z|exact .inl Z) Z ?_);exact .refl _
 .have y:0<l.length:=Yi.2 j;refine gl Z ac (lI ab Z Z Z Z Z Z Z Z (by decide) Z (ib Z) (by simp;omega) (by show((XC l.length).map _).length*32<=_;simp;omega) (by simp;omega) Z ?_);refine gA Z (dD (by first|exact .inr Z|exact .inl Z) Z Z ((fY l cW.c)) ((by simp)))
theorem MJ(l:List Fact)(hb:l.length<=10000000000):Pure prog 163 [.iv (aT 2 l Fact.c)] (.iv (aT 2 l Fact.c)):=by
 refine ah ab func163 Z (by decide) ntmps163 Z (by simp) Z ?_;refine gl Z ac (jP Z Z Z Z underlying36 Z fun b u=>?_);refine gA Z ?_;refine W0 (fun x=>?_) (fun x=>?_)
 .have j:l=[]:=XL (u x);subst j;refine gA Z (aM (by first|exact .inr Z|exact .inl Z) Z ?_);exact .nil _ _
 refine gl Z ac (lH ab Z Z Z Z Z Z Z fun A=>?_);by_cases j:l=[]
 .subst j;refine gl Z ac (mG ab Z Z Z Z Z Z Z Z (el2:=fun k=>Fact.c (([]:List Fact).getD k co)) Z ?_);refine gA Z (aM (by first|exact .inr Z|exact .inl Z) Z ?_);exact .refl _
 .have y:0<l.length:=Yi.2 j;refine gl Z ac (lI ab Z Z Z Z Z Z Z Z (by decide) Z (ib Z) (by simp;omega) (by show((XC l.length).map _).length*40<=_;simp;omega) (by simp;omega) Z ?_);refine gA Z (dD (by first|exact .inr Z|exact .inl Z) Z Z ((fY l Fact.c)) ((by simp)))
theorem Bn{α:Type}[Inhabited α]{l:List α}{g:α->List PV}{i:Nat}(hi:i<l.length):(l.map g).set (0+i) (g (l.getD i co))=l.map g:=by
 refine Zh fun j=>?_;rw[Xo,YP];split
 .rename_i e;subst e;rw[am (by simpa using hi),W9,W2,W5 hi];rfl
 .rfl
theorem Ds{α:Type}[Inhabited α]{l:List α}{g:α->List PV}{i:Nat}(hi:i<l.length):(l.map g)[0+i]? =io (g (l.getD i co)):=by
 rw[Xo,W9,W2,W5 hi];rfl
theorem Qe: ∀(n:Nat) (e:Expr),e.size<=n->e.size<=1000000000->Pure prog 106 [ag e.c] (ag e.c)
 |0,e,h,_=>absurd e.size_pos (by omega)
 |n+1,e,h,hb=>by
  have B:=e.size_eq;have A:=Expr.aJ e.args;refine Al.Pure.le (aa:=[ag e.c]) (args:=[ag e.c1]) ?_ ⟨e.DP,ac⟩;by_cases u:e.args=[]
  .refine ah ab func106 Z (by decide) ntmps106 Z (by simp) Z ?_;refine gA Z (aF (EP e.args (by omega)) Z Z Z Z Z Z ?_);refine gA Z (nL (n:=0) ?_);refine gA Z ?_;refine W0 (fun y=>?_) (fun y=>?_)
   .exact absurd y (by simp[u])
   refine gA Z (aM (by first|exact .inr Z|exact .inl Z) Z ?_);exact e.G1
  refine ah ab func106 Z (by decide) ntmps106 Z (by simp) Z ?_;refine gA Z (ai [] (Bk e.args (by omega) u) Z Z Z Z Z Z Z Z ?_);refine gA Z ?_;refine aN 0 e.args.length (Xc _) (fun i=>⟨[(1,.ptr 0 0),(2,.ptr 1 0),(10,pI e.args.length),(11,pI i)],[(0,io (.cells [.iv (iI e.kind),.iv (iS e.var),.iv (iI e.val.kind),.iv (iI e.val.num),.iv (iS e.val.sym),.iv (iI e.op),.sl 2 0 e.args.length 7])),(1,io (.cells [pI 0,pS Xb,pI 0,pI 0,pS Xb,pI 0,.iv (.v (.slice is 0 0))])),(2,io (aS 7 e.args Expr.c))],3⟩) (fun _=>True) [] ac
   (wk Z Z Z (bi (bi (bi (bi trivial)))) ⟨⟨_,rfl,.of_eq Z⟩,WY Z,rfl,⟨⟨_,rfl,.of_eq Z⟩,WY Z,rfl,hR Z (by rw[Yb];exact Yj fun x _=>jx _ _) Z trivial⟩⟩ Z) fun i hi _=>?_
  refine gA Z ?_;refine W0 (fun h1=>?_) (fun h1=>?_)
  .have h1:i<e.args.length:=by simpa using h1
   have D:=Expr.bU e.args i h1;have j:=Ds (g:=fun x=>(Expr.c x).map PV.iv) h1;refine gM 16 Z (kT (p:=ag (e.args.getD i co).c) 7 Z Z Z Z Z Z (dr ab Z Z Z Z j Z) ?_);refine gA Z (bf ab [] (Pure.nS (Qe n (e.args.getD i co) (by omega) (by omega))) Z Z Z Z Z Z Z Z Z Z Z Z (by(repeat' (first|exact ac|exact rfl|exact ae.refl _|exact ae.bk (by assumption)|apply W0))<;>first|omega|(simp only[W6];omega)|(simp;done)|(simp;omega)) Z (by(repeat' (first|exact ac|exact rfl|exact ae.refl _|exact ae.bk (by assumption)|apply W0))<;>first|omega|(simp only[W6];omega)|(simp;done)|(simp;omega)) ?_);refine gA Z (ja ab Z Z Z Z Z (by first|trivial|(repeat' apply W0)<;>trivial) (vk ab Z Z (i:=2) (sz:=7) (q:=0+i) Z Z Z Z (by simp;omega) Z Z Z) Z (by first|trivial|(repeat' apply W0)<;>trivial) ?_);refine gA Z ⟨h1,ac,[],wk Z Z Z (bi (bi (bi (bi ac)))) ⟨⟨_,rfl,.of_eq Z⟩,WY Z,rfl,⟨⟨_,rfl,.of_eq Z⟩,WY Z,rfl,hR Z (Bn (g:=fun x=>(Expr.c x).map PV.iv) h1) Z ac⟩⟩ Z⟩
  .have h1:e.args.length<=i:=by simpa using h1
   refine gA Z (fp (.inr Z) Z (fy.fR 2 e.args Expr.c Z Z (by simp[PV.aZ,aY]) (.done ?_)));have:ae (ag e.c1) (ag e.c):=e.G1;simp only[PV.dK,oh,Xo];exact this
theorem Dl(e:Expr)(hb:e.size<=1000000000):Pure prog 106 [ag e.c] (ag e.c):=Qe e.size e (W8 _) hb
theorem nf(f:Fact)(hb:f.args.length<=10000000000):Pure prog 46 [ag f.c] (ag f.c):=by
 refine ah ab func46 Z (by decide) ntmps46 Z (by simp) Z ?_;refine gA Z (bf ab [] (Pure.nS (MI f.args hb)) Z Z Z Z Z Z Z Z Z Z Z Z (by(repeat' (first|exact ac|exact rfl|exact ae.refl _|exact ae.bk (by assumption)|apply W0))<;>first|omega|(simp only[W6];omega)|(simp;done)|(simp;omega)) Z (by(repeat' (first|exact ac|exact rfl|exact ae.refl _|exact ae.bk (by assumption)|apply W0))<;>first|omega|(simp only[W6];omega)|(simp;done)|(simp;omega)) ?_);refine gA Z (aM (by first|exact .inr Z|exact .inl Z) Z (.of_eq ?_));rfl
abbrev kF:KC:= .fl Nz
abbrev Wg(f:Fact):PV:=kF.pk (cE f)
theorem G4(a0:aq): ∀(args:List cW),args.length<=8->
  ([pS a0,pI args.length]++(cj AY.zero).drop 2).take 2++((XC args.length).map fun k=>(cW.c (args.getD k co)).map PV.iv).flatten++([pS a0,pI args.length]++(cj AY.zero).drop 2).drop (2+((XC args.length).map fun k=>(cW.c (args.getD k co)).map PV.iv).length*3)
   =(FK.vs Nz (cE ⟨a0,args⟩)).map fun v=>PV.iv (.v v)
 | [],_=>rfl
 | [_],_=>rfl
 | [_,_],_=>rfl
 | [_,_,_],_=>rfl
 | [_,_,_,_],_=>rfl
 | [_,_,_,_,_],_=>rfl
 | [_,_,_,_,_,_],_=>rfl
 | [_,_,_,_,_,_,_],_=>rfl
 | [_,_,_,_,_,_,_,_],_=>rfl
 |_::_::_::_::_::_::_::_::_::_,h=>by simp at h
theorem RX(f:Fact)(hb:f.args.length<=8):Pure prog 78 [ag f.c] (.a7 [Wg f,pB jp]):=by
 refine ah ab func78 Z (by decide) ntmps78 Z (by simp) Z ?_;refine gA Z ?_;refine W0 (fun h1=>?_) (fun h1=>?_)
 .exact absurd h1 (by simp;omega)
 refine gA Z (kT (p:= .ot 2 2 8) 1 Z Z Z Z Z Z (Oz ab Z Z Z Z Z) ?_);refine gA Z (ja ab Z Z Z Z Z (by(repeat' (first|exact ac|exact rfl|exact ae.refl _|exact ae.bk (by assumption)|apply W0))<;>first|omega|(simp only[W6];omega)|(simp;done)|(simp;omega)) (Kg ab Z Z Z Z Z Z Z (ib Z) (fun e j=>by obtain⟨k,_,rfl⟩:=XH.1 j;rfl) (by simp;omega) (by show 2+_*3<=26;simp;omega) Z) Z (by(repeat' (first|exact ac|exact rfl|exact ae.refl _|exact ae.bk (by assumption)|apply W0))<;>first|omega|(simp only[W6];omega)|(simp;done)|(simp;omega)) ?_)
 (refine gM 1 Z ?_;refine bZ (L:=[]) (t:=⟨[(2,.ptr 1 0),(4,.ptr 2 0)],[(1,io (.cells (cj AY.zero))),(2,io (ax ((FK.vs Nz (cE f)).map IV.v)))],3⟩) (wk Z Z Z (bi (bi ac)) ⟨⟨_,rfl,.of_eq Z⟩,WY Z,rfl,hC Z (G4 f.rel f.args hb) Z ac⟩ Z) ?_)
 refine gA Z (aM (by first|exact .inr Z|exact .inl Z) Z (.of_eq ?_));rfl
end Go.Proofs.YtlmhfgbkchnfbaaGreatDoor
namespace Go.Proofs.YtlmhfgbkchnfbaaGreatDoor
open Go Go.Al Go.Bo
section
def Fact.z:Fact:=⟨Xb,[]⟩
def Fy(f:Fact):IV:= .agg f.c
def JU:Value:= .agg #[.string Xb,.slice is 0 0]
def valOf:List IV->cW
 | [.v (.int _ k),.v (.int _ n),.v (.string s)]=>⟨k,n,s⟩
 |_=>⟨0,0,Xb⟩
def Tm:PV->Fact
 | .agg [.iv (.v (.string s)),.iv (.bI _ n el)]=>⟨s,(XC n).map fun k=>valOf (el k)⟩
 |_=>Fact.z
def CI(x:b3 Fact):IV:= .agg (fN x)
def Oa:Value:= .agg #[.bool kw,.string Xb,.slice is 0 0]
def b3.z:b3 Fact:=(kw,Fact.z)
def VK:PV->b3 Fact
 | .agg [.iv (.v (.bool b)),p,q]=>(b,Tm (.agg [p,q]))
 |_=>b3.z
abbrev FM:=List (kF.K×Fact)
abbrev CM:=List (kF.K×b3 Fact)
abbrev bt(m:FM):AO:= .map kF Fy Fact.z JU Tm m
abbrev Kk(m:CM):AO:= .map kF CI b3.z Oa VK m
abbrev CH(m:CM):IV:= .fa kF CI b3.z Oa m
theorem HG(l:List cW):(XC l.length).map (fun k=>valOf (cW.c (l.getD k co)))=l:=by
 apply Zh;intro k;by_cases hk:k<l.length
 .simp[hk,valOf,cW.c]
 .simp[hk]
theorem J0(f:Fact):Tm (ag f.c)=f:=by
 show(⟨f.rel,(XC f.args.length).map fun k=>valOf (cW.c (f.args.getD k co))⟩:Fact)=f;rw[HG]
theorem Qr(x:b3 Fact):VK (ag (fN x))=x:=by
 show(x.1,Tm (ag x.2.c))=x;rw[J0]
theorem JV(f:Fact):ae (ag f.c) (.iv (Fy (Tm (ag f.c)))):=by rw[J0];exact VM _
theorem Ob(x:b3 Fact):ae (ag (fN x)) (.iv (CI (VK (ag (fN x))))):=by rw[Qr];exact VM _
theorem JT: ∀M,IR M (Fy Fact.z) JU:=fun M=>by
 refine .agg _ _ Z fun j p u=>?_
 match j,u with
 |0,u=>cases u;exact .v _
 |1,u=>cases u;exact .fS _ _ _ _
 |j+2,u=>simp[Fact.c]at u
theorem N9: ∀M,IR M (CI b3.z) Oa:=fun M=>by
 refine .agg _ _ Z fun j p u=>?_
 match j,u with
 |0,u=>cases u;exact .v _
 |1,u=>cases u;exact .v _
 |2,u=>cases u;exact .fS _ _ _ _
 |j+3,u=>simp[fN,Fact.c]at u
abbrev b8(p:Prog)(n:Nat)(i:Nat):AO:= .cells [.mp i,.iv (aT 4 p.aG Decl.c),.iv (aT 5 p.rules aw.c),pI n]
abbrev Wd:PV:= .iv (.v (.pointer is))
section
variable (p:Prog) (n:Nat) (m:FM)
abbrev bO:List AO:=[bt m,b8 p n 0]
abbrev bH:AH:=[(0,io (bt m)),(1,io (b8 p n 0))]
theorem UG:bh Tryz.prog 39 [.ptr 1 0] (bO p n m) (.ptr 1 0) (bH p n m) 2:=by
 refine ak ab Tryz.func39 Z (by decide) Tryz.ntmps39 Z (by simp) ?_;refine gA Z ?_;refine W0 (fun h1=>?_) (fun h1=>?_)
 .exact absurd h1 (by decide)
 refine gA Z (ar [] (by first|exact .inr Z|exact .inl Z) Z (wk Z Z Z (bi ac) (hM Z Z Z ⟨⟨_,rfl,.of_eq Z⟩,WY Z,rfl,ac⟩) Z))
end
end
end Go.Proofs.YtlmhfgbkchnfbaaGreatDoor
namespace Go.Proofs
open Go.Shelf
def Tryz.B9:Go.Shelf.Ren:=⟨fun|6=>82|15=>108|14=>116|28=>146|29=>147|20=>154|21=>155|22=>156|23=>157|24=>158|25=>159|26=>160|27=>161|46=>203|47=>196|48=>197|49=>204|50=>205|57=>240|n=>n,fun|22=>43|24=>64|25=>171|3=>3|39=>140|0=>0|53=>83|55=>104|4=>4|46=>251|45=>250|50=>255|5=>5|9=>9|66=>296|70=>300|76=>343|77=>344|n=>n,fun|n=>n⟩
theorem Tryz.E9:Go.Proofs.SlLaysF0.n6 Tryz.prog Tryz.B9:={
 mixed:=by kernel_rfl
 f6:=⟨Tryz.f82.name,by decide,Tryz.func82.trans (congrArg io (by kernel_rfl))⟩
 f14:=⟨Tryz.f116.name,by decide,Tryz.func116.trans (congrArg io (by kernel_rfl))⟩
 f15:=Tryz.func108.trans (congrArg io (by kernel_rfl))
 f20:=⟨Tryz.f154.name,by decide,Tryz.func154.trans (congrArg io (by kernel_rfl))⟩
 f21:=⟨Tryz.f155.name,by decide,Tryz.func155.trans (congrArg io (by kernel_rfl))⟩
 f22:=⟨Tryz.f156.name,by decide,Tryz.func156.trans (congrArg io (by kernel_rfl))⟩
 f23:=⟨Tryz.f157.name,by decide,Tryz.func157.trans (congrArg io (by kernel_rfl))⟩
 f24:=⟨Tryz.f158.name,by decide,Tryz.func158.trans (congrArg io (by kernel_rfl))⟩
 f25:=⟨Tryz.f159.name,by decide,Tryz.func159.trans (congrArg io (by kernel_rfl))⟩
 f26:=⟨Tryz.f160.name,by decide,Tryz.func160.trans (congrArg io (by kernel_rfl))⟩
 f27:=⟨Tryz.f161.name,by decide,Tryz.func161.trans (congrArg io (by kernel_rfl))⟩
 f28:=Tryz.func146.trans (congrArg io (by kernel_rfl))
 f29:=Tryz.func147.trans (congrArg io (by kernel_rfl))
 f46:=⟨Tryz.f203.name,by decide,Tryz.func203.trans (congrArg io (by kernel_rfl))⟩
 f47:=Tryz.func196.trans (congrArg io (by kernel_rfl))
 f48:=Tryz.func197.trans (congrArg io (by kernel_rfl))
 f49:=⟨Tryz.f204.name,by decide,Tryz.func204.trans (congrArg io (by kernel_rfl))⟩
 f50:=⟨Tryz.f205.name,by decide,Tryz.func205.trans (congrArg io (by kernel_rfl))⟩
 f57:=⟨Tryz.f240.name,by decide,Tryz.func240.trans (congrArg io (by kernel_rfl))⟩
 t0:=Tryz.underlying0
 a0:=Tryz.isAgg0
 z0:=Tryz.sizeOf0
 v0:=Tryz.zeroValue0
 t3:=Tryz.underlying3
 a3:=Tryz.isAgg3
 z3:=Tryz.sizeOf3
 v3:=Tryz.zeroValue3
 t4:=Tryz.underlying4
 a4:=Tryz.isAgg4
 z4:=Tryz.sizeOf4
 v4:=Tryz.zeroValue4
 t5:=Tryz.underlying5
 a5:=Tryz.isAgg5
 z5:=Tryz.sizeOf5
 v5:=Tryz.zeroValue5
 t9:=Tryz.underlying9
 a9:=Tryz.isAgg9
 z9:=Tryz.sizeOf9
 v9:=Tryz.zeroValue9
 t22:=Tryz.underlying43
 a22:=Tryz.isAgg43
 z22:=Tryz.sizeOf43
 v22:=Tryz.zeroValue43
 t25:=Tryz.underlying171
 a25:=Tryz.isAgg171
 z25:=Tryz.sizeOf171
 v25:=Tryz.zeroValue171
 t39:=Tryz.underlying140
 a39:=Tryz.isAgg140
 z39:=Tryz.sizeOf140
 v39:=Tryz.zeroValue140
 t45:=Tryz.underlying250
 a45:=Tryz.isAgg250
 z45:=Tryz.sizeOf250
 v45:=Tryz.zeroValue250
 t46:=Tryz.underlying251
 a46:=Tryz.isAgg251
 z46:=Tryz.sizeOf251
 v46:=Tryz.zeroValue251
 t50:=Tryz.underlying255
 a50:=Tryz.isAgg255
 z50:=Tryz.sizeOf255
 v50:=Tryz.zeroValue255
 t53:=Tryz.underlying83
 a53:=Tryz.isAgg83
 z53:=Tryz.sizeOf83
 v53:=Tryz.zeroValue83
 t55:=Tryz.underlying104
 a55:=Tryz.isAgg104
 z55:=Tryz.sizeOf104
 v55:=Tryz.zeroValue104
 t66:=Tryz.underlying296
 a66:=Tryz.isAgg296
 z66:=Tryz.sizeOf296
 v66:=Tryz.zeroValue296
 t70:=Tryz.underlying300
 a70:=Tryz.isAgg300
 z70:=Tryz.sizeOf300
 v70:=Tryz.zeroValue300
 t76:=Tryz.underlying343
 a76:=Tryz.isAgg343
 z76:=Tryz.sizeOf343
 v76:=Tryz.zeroValue343
 t77:=Tryz.underlying344
 a77:=Tryz.isAgg344
 z77:=Tryz.sizeOf344
 v77:=Tryz.zeroValue344}
def Tryz.B8:Go.Shelf.Ren:=⟨fun|6=>72|15=>108|14=>107|28=>146|29=>147|20=>138|21=>139|22=>140|23=>141|24=>142|25=>143|26=>144|27=>145|46=>195|47=>196|48=>197|49=>198|50=>199|57=>238|n=>n,fun|22=>36|24=>62|25=>160|3=>3|39=>140|0=>0|53=>83|55=>104|4=>4|46=>251|45=>250|50=>255|5=>5|9=>9|66=>296|70=>300|76=>343|77=>344|n=>n,fun|n=>n⟩
theorem Tryz.E8:Go.Proofs.SlLaysF0.n6 Tryz.prog Tryz.B8:={
 mixed:=by kernel_rfl
 f6:=⟨Tryz.f72.name,by decide,Tryz.func72.trans (congrArg io (by kernel_rfl))⟩
 f14:=⟨Tryz.f107.name,by decide,Tryz.func107.trans (congrArg io (by kernel_rfl))⟩
 f15:=Tryz.func108.trans (congrArg io (by kernel_rfl))
 f20:=⟨Tryz.f138.name,by decide,Tryz.func138.trans (congrArg io (by kernel_rfl))⟩
 f21:=⟨Tryz.f139.name,by decide,Tryz.func139.trans (congrArg io (by kernel_rfl))⟩
 f22:=⟨Tryz.f140.name,by decide,Tryz.func140.trans (congrArg io (by kernel_rfl))⟩
 f23:=⟨Tryz.f141.name,by decide,Tryz.func141.trans (congrArg io (by kernel_rfl))⟩
 f24:=⟨Tryz.f142.name,by decide,Tryz.func142.trans (congrArg io (by kernel_rfl))⟩
 f25:=⟨Tryz.f143.name,by decide,Tryz.func143.trans (congrArg io (by kernel_rfl))⟩
 f26:=⟨Tryz.f144.name,by decide,Tryz.func144.trans (congrArg io (by kernel_rfl))⟩
 f27:=⟨Tryz.f145.name,by decide,Tryz.func145.trans (congrArg io (by kernel_rfl))⟩
 f28:=Tryz.func146.trans (congrArg io (by kernel_rfl))
 f29:=Tryz.func147.trans (congrArg io (by kernel_rfl))
 f46:=⟨Tryz.f195.name,by decide,Tryz.func195.trans (congrArg io (by kernel_rfl))⟩
 f47:=Tryz.func196.trans (congrArg io (by kernel_rfl))
 f48:=Tryz.func197.trans (congrArg io (by kernel_rfl))
 f49:=⟨Tryz.f198.name,by decide,Tryz.func198.trans (congrArg io (by kernel_rfl))⟩
 f50:=⟨Tryz.f199.name,by decide,Tryz.func199.trans (congrArg io (by kernel_rfl))⟩
 f57:=⟨Tryz.f238.name,by decide,Tryz.func238.trans (congrArg io (by kernel_rfl))⟩
 t0:=Tryz.underlying0
 a0:=Tryz.isAgg0
 z0:=Tryz.sizeOf0
 v0:=Tryz.zeroValue0
 t3:=Tryz.underlying3
 a3:=Tryz.isAgg3
 z3:=Tryz.sizeOf3
 v3:=Tryz.zeroValue3
 t4:=Tryz.underlying4
 a4:=Tryz.isAgg4
 z4:=Tryz.sizeOf4
 v4:=Tryz.zeroValue4
 t5:=Tryz.underlying5
 a5:=Tryz.isAgg5
 z5:=Tryz.sizeOf5
 v5:=Tryz.zeroValue5
 t9:=Tryz.underlying9
 a9:=Tryz.isAgg9
 z9:=Tryz.sizeOf9
 v9:=Tryz.zeroValue9
 t22:=Tryz.underlying36
 a22:=Tryz.isAgg36
 z22:=Tryz.sizeOf36
 v22:=Tryz.zeroValue36
 t25:=Tryz.underlying160
 a25:=Tryz.isAgg160
 z25:=Tryz.sizeOf160
 v25:=Tryz.zeroValue160
 t39:=Tryz.underlying140
 a39:=Tryz.isAgg140
 z39:=Tryz.sizeOf140
 v39:=Tryz.zeroValue140
 t45:=Tryz.underlying250
 a45:=Tryz.isAgg250
 z45:=Tryz.sizeOf250
 v45:=Tryz.zeroValue250
 t46:=Tryz.underlying251
 a46:=Tryz.isAgg251
 z46:=Tryz.sizeOf251
 v46:=Tryz.zeroValue251
 t50:=Tryz.underlying255
 a50:=Tryz.isAgg255
 z50:=Tryz.sizeOf255
 v50:=Tryz.zeroValue255
 t53:=Tryz.underlying83
 a53:=Tryz.isAgg83
 z53:=Tryz.sizeOf83
 v53:=Tryz.zeroValue83
 t55:=Tryz.underlying104
 a55:=Tryz.isAgg104
 z55:=Tryz.sizeOf104
 v55:=Tryz.zeroValue104
 t66:=Tryz.underlying296
 a66:=Tryz.isAgg296
 z66:=Tryz.sizeOf296
 v66:=Tryz.zeroValue296
 t70:=Tryz.underlying300
 a70:=Tryz.isAgg300
 z70:=Tryz.sizeOf300
 v70:=Tryz.zeroValue300
 t76:=Tryz.underlying343
 a76:=Tryz.isAgg343
 z76:=Tryz.sizeOf343
 v76:=Tryz.zeroValue343
 t77:=Tryz.underlying344
 a77:=Tryz.isAgg344
 z77:=Tryz.sizeOf344
 v77:=Tryz.zeroValue344}
def Tryz.B7:Go.Shelf.Ren:=⟨fun|5=>44|7=>76|n=>n,fun|23=>95|25=>110|3=>62|4=>4|20=>20|n=>n,fun|n=>n⟩
theorem Tryz.Ny:Go.Proofs.SlLaysW.n5 Tryz.prog Tryz.B7:={
 mixed:=by kernel_rfl
 f5:=⟨Tryz.f44.name,by decide,Tryz.func44.trans (congrArg io (by kernel_rfl))⟩
 f7:=Tryz.func76.trans (congrArg io (by kernel_rfl))
 t4:=Tryz.underlying4
 a4:=Tryz.isAgg4
 z4:=Tryz.sizeOf4
 v4:=Tryz.zeroValue4
 t20:=Tryz.underlying20
 a20:=Tryz.isAgg20
 z20:=Tryz.sizeOf20
 v20:=Tryz.zeroValue20
 t23:=Tryz.underlying95
 a23:=Tryz.isAgg95
 z23:=Tryz.sizeOf95
 v23:=Tryz.zeroValue95}
theorem YtlmhfgbkchnfbaaGreatDoor.Um:Go.Al.Eh Tryz.prog 82 3:=
 ⟨fun enc hk h1 B hO g A y b0 a0 d w eg u hH j x=>AnyQ.slices_SortFunc Tryz.E9 3 (fun _=>Go.Al.fX (YtlmhfgbkchnfbaaGreatDoor.ab 64 _ Z)) (fun _=>Go.Al.aQ (YtlmhfgbkchnfbaaGreatDoor.ab 64 _ Z)) enc hk h1 B hO g A y b0 a0 d w eg u hH j x,
  fun p a0 D w=>AnyF.slices_SortFunc_none Tryz.E9 p a0 D w⟩
theorem YtlmhfgbkchnfbaaGreatDoor.Ul:Go.Al.Eh Tryz.prog 72 2:=
 ⟨fun enc hk h1 B hO g A y b0 a0 d w eg u hH j x=>AnyQ.slices_SortFunc Tryz.E8 2 (fun _=>Go.Al.fX (YtlmhfgbkchnfbaaGreatDoor.ab 62 _ Z)) (fun _=>Go.Al.aQ (YtlmhfgbkchnfbaaGreatDoor.ab 62 _ Z)) enc hk h1 B hO g A y b0 a0 d w eg u hH j x,
  fun p a0 D w=>AnyF.slices_SortFunc_none Tryz.E8 p a0 D w⟩
theorem YtlmhfgbkchnfbaaGreatDoor.SV:Go.Al.KO Tryz.prog 44:=fun b es clock w hb=>AnyW.maps_Clone Tryz.Ny b es clock w hb
end Go.Proofs
namespace Go.Proofs.YtlmhfgbkchnfbaaGreatDoor
open Go Go.Al Go.Proofs.Tryz Go.Bo
theorem Ga{l u:List Fact}(hF:xE l)(hp:l.Perm u)(hs:rq aU u)(j:l.length<=1000000000000):bh prog 72 [.sl 0 0 l.length 2,kZ] [aS 2 l Fact.c] (.a7 []) [(0,io (aS 2 u Fact.c))] 1:=
 xQ Ul (bg func72 Z (by decide)) (bg func73 Z (by decide)) (by decide) Fact.c aU (fun f=>f.args.length<=1000000000) (fun x y B D=>p7 x y B D) (fun _=>rfl)
  (fun x c A=>(Xm.1 A).elim (fun e=>by subst e;rfl) fun A=>by rw[Xd.1 A];rfl)
  (fun x _=>pg.Sz x) (fun x y z _ _ _=>pg.tr x y z) (fun x y z _ _ _=>pg.VI) l u hF (fun x _ y _ a b=>pg.Td a b) hp (hs.imp fun{a b} h=>pg.asym h) j kZ (fun M N U v h=>by
   cases h with
   |cB _ _ _ f' c' h1 h2=>simp at h1 h2;simp[Yn h1.symm,Yn h2.symm])
theorem H6{l u:List (b3 Fact)}(hF: ∀x∈l,x.2.args.length<=1000000000)(hn:(l.map (·.2)).Nodup)(hp:l.Perm u)(hs:xe aU u)(j:l.length<=1000000000000):bh prog 82 [.sl 0 0 l.length 3,.cB (.func 83) [] []] [aS 3 l fN] (.a7 []) [(0,io (aS 3 u fN))] 1:=
 xQ Um (bg func82 Z (by decide)) (bg func83 Z (by decide)) (by decide) fN (fun a b=>aU a.2 b.2) (fun f=>f.2.args.length<=1000000000) (fun x y A B=>MK x y A B) (fun _=>rfl)
  (fun x c hc=>by
   rcases Xm.1 hc with rfl|hc
   .rfl
   rcases Xm.1 hc with rfl|hc
   .rfl
   .rw[Xd.1 hc];rfl)
  (fun x _=>pg.Sz x.2) (fun x y z _ _ _=>pg.tr x.2 y.2 z.2) (fun x y z _ _ _=>pg.VI) l u hF (fun x A y B a b=>by
   have e:=pg.Td a b;have key: ∀{l:List (b3 Fact)},(l.map (·.2)).Nodup->x∈l->y∈l->x=y:=by
    intro l
    induction l with
    |nil=>intro _ m;cases m
    |cons z r ih=>
     intro hn m1 m2;rw[W7,XN]at hn;rcases Xm.1 m1 with e1|e1<;>rcases Xm.1 m2 with e2|e2
     .exact e1.trans e2.symm
     .exact absurd (XH.2 ⟨_,e2,by rw[<-e,e1]⟩) hn.1
     .exact absurd (XH.2 ⟨_,e1,by rw[e,e2]⟩) hn.1
     .exact ih hn.2 e1 e2
   exact key hn A B) hp (hs.imp fun{a b} h=>pg.asym h) j _ (fun M N U v h=>by
   cases h with
   |cB _ _ _ f' c' h1 h2=>simp at h1 h2;simp[Yn h1.symm,Yn h2.symm])
abbrev JW(m:FM)(j:Nat):Fact:=(m.getD j (cE Fact.z,Fact.z)).2
theorem JQ{l j:List Fact}(h:xE j)(hp:l.Perm j):xE l:=fun f hf=>h f (hp.mem_iff.1 hf)
theorem MG(p:Prog)(n:Nat){m:FM}{S:List Fact}(hk:b4 cE m S)(hs:rq aU S)(hF:xE S)(hl:S.length<=100000000):bh prog 40 [.ptr 1 0] (bO p n m) (.iv (aT 2 S Fact.c)) (bH p n m) 2:=by
 have I:=hk.len;have j:=hk.AR;refine ak ab func40 Z (by decide) ntmps40 Z (by simp) ?_;refine gA Z ?_;refine W0 (fun D=>?_) (fun D=>?_)
 .exact absurd D (by decide)
 refine gM 12 Z (bB Z (xZ ab Z Z Z Z Z Z (by decide)) ?_);rintro t ⟨bs,clock,hbl,hbn,hbc,rfl⟩;refine gM 2 Z (jz 3 2 Z ?_)
 refine gA Z (Fp m.length (fun vs=>⟨[(3,.sl 4 0 (vs.map (JW m)).length 2),(12,.ptr 2 0)],[(0,io (.iA kF Fy Fact.z JU Tm m bs clock)),(1,io (b8 p n 0)),(2,io (.eJ (.mp 0) clock (lR bs vs))),(4,io (aS 2 (vs.map (JW m)) Fact.c))],5⟩) (fun _=>True) [3] ac
  (wk Z Z Z (bi (bi ac)) ⟨⟨_,rfl,.of_eq Z⟩,WY Z,ac,⟨⟨_,rfl,.of_eq Z⟩,WY Z,rfl,⟨⟨_,rfl,.of_eq Z⟩,WY Z,rfl,hR Z Z Z ac⟩⟩⟩ Z) fun vs G v2 _=>?_)
 have Y:=C5 G v2;refine gM 2 Z (bB Z (BY Z Z Z Z Z (by decide)) ?_);rintro t (⟨hall,rfl⟩|⟨q,x,b,hx,hb,hns,rfl⟩)
 .have u:(vs.map (JW m)).Perm S:=by
   have:=((I6 (d:=(cE Fact.z,Fact.z)) hbl hbn G v2 hall).map (·.2)).trans j;rwa[Yb]at this
  have y:=u.length_eq;refine gA Z (ai [4] (Ga (JQ hF u) u hs (by omega)) Z Z Z Z Z (by show[_]=[io (AO.b5 _ (aS _ _ _))];rw[b7];rfl) Z Z ?_)
  (refine gM 1 Z ?_;refine bZ (L:=[]) (t:=⟨[(3,.sl 4 0 S.length 2)],[(0,io (bt m)),(1,io (b8 p n 0)),(4,io (aS 2 S Fact.c))],5⟩) (wk Z Z Z ⟨.row y,rfl,ac⟩ (hMb Z Z Z ⟨⟨_,rfl,.of_eq Z⟩,WY Z,rfl,hR Z (by rw[Yb];exact Yj fun x _=>jx _ _) Z ac⟩) Z) ?_)
  refine iY 4 (fun k=>Fact.c (S.getD k co)) Z (cG Z) ⟨by simp[PV.aZ],ac⟩ ⟨ac,(by simp[AO.kK,aY,PV.aZ]),EZ _ _ _ _ _ _,ac⟩ ?_;refine gA Z (ar [] (by first|exact .inr Z|exact .inl Z) Z (wk Z Z Z ⟨.bI Z (fun k _=>by rw[Xo]),rfl,ac⟩ (hM Z Z Z ⟨⟨_,rfl,.of_eq Z⟩,WY Z,rfl,ac⟩) Z))
 .have J:q<m.length:=(W4.1 hx).1;have B:x.2=JW m q:=by rw[JW,W2,hx];rfl
  have A:x.2∈S:=j.mem_iff.1 (XH.2 ⟨x,XE hx,rfl⟩);refine gM 8 Z (bB Z (yI Z Z Z Z xR hb hx Z) ?_);rintro t rfl;refine gA Z (aF (nf x.2 (by have:=hF _ A;omega)) Z Z Z Z Z Z ?_);refine gA Z ⟨q,J,vp hb hns,ac,[7],wk Z Z Z ⟨.row (by simp),rfl,bi ac⟩ ⟨⟨_,rfl,.of_eq Z⟩,WY Z,ac,⟨⟨_,rfl,.of_eq Z⟩,WY Z,rfl,⟨⟨_,rfl,.of_eq (by rw[sP hb];rfl)⟩,WY Z,rfl,hR Z (by rw[Xg,Xg,B];rfl) Z ac⟩⟩⟩ Z⟩
theorem Im(p:Prog)(n:Nat){m:FM}{S:List Fact}(hk:b4 cE m S)(hs:rq aU S)(hF:xE S)(hl:S.length<=100000000):bh prog 19 [.ptr 1 0] (bO p n m) (.iv (aT 2 S Fact.c)) (bH p n m) 2:=by
 refine ak ab func19 Z (by decide) ntmps19 Z (by simp) ?_;refine gA Z (ai [0,1] (UG p n m) Z Z Z Z Z Z Z Z ?_);refine gA Z (ai [0,1] (MG p n hk hs hF hl) Z Z Z Z Z Z Z Z ?_);refine gA Z (ar [] (by first|exact .inr Z|exact .inl Z) Z (wk Z Z Z (bi ac) (hM Z Z Z ⟨⟨_,rfl,.of_eq Z⟩,WY Z,rfl,ac⟩) Z))
abbrev mN(m:CM)(j:Nat):b3 Fact:=(m.getD j (cE Fact.z,b3.z)).2
theorem GR{m:CM}{vs:List Nat}(hn:vs.Nodup)(x: ∀j∈vs,j<m.length)(h: ∀j,j<m.length->j∈vs):(vs.reverse.map (mN m)).Perm (m.map (·.2)):=by
 have h1:=(y5 hn x h).map fun j=>m.getD j (cE Fact.z,b3.z);rw[cz]at h1;have u:=h1.map (·.2);rw[Yb]at u;exact((List.reverse_perm vs).map _).trans u
theorem Uq{u:CM}{L:List (b3 Fact)}(hp:(u.map (·.2)).Perm L)(hs:xe aU L)(hF: ∀x∈L,x.2.args.length<=1000000000)(hl:L.length<=100000000):Pure prog 47 [.iv (CH u)] (.iv (aT 3 L fN)):=by
 have c0:u.length=L.length:=by have:=hp.length_eq;rwa[Xw]at this
 refine ah ab func47 Z (by decide) ntmps47 Z (by simp) Z ?_;refine gA Z ?_;refine jz 3 3 Z ?_;refine gk u (fun vs=>⟨[(3,.sl 2 0 (vs.reverse.map (mN u)).length 3),(7,.ptr 0 0)],[(0,io (.bY kF CI u vs is)),(2,io (aS 3 (vs.reverse.map (mN u)) fN))],3⟩) (fun vs=>vs.Nodup∧ ∀j∈vs,j<u.length) [1] ⟨XY,by simp⟩
  (wk Z Z Z (bi (bi trivial)) (hI Z Z (.inl Z) Z (hR Z Z Z trivial)) Z) fun vs hJ=>?_
 obtain⟨A,B⟩:=hJ;have d0:=C5 A B;refine gl Z ac (dX Z Z Z Z Z (by decide) (fun G=>?_) fun j x D hj=>?_)
 .have I:=(GR A B G).trans hp;have J:=I.length_eq;refine gA Z (ai [2] (H6 (fun x D=>hF x (I.mem_iff.1 D)) (((I.map (·.2)).nodup_iff).2 ((xe.facts hs).nodup pg)) I hs (by omega)) Z Z Z Z Z (by show[_]=[io (AO.b5 _ (aS _ _ _))];rw[b7];rfl) Z Z ?_);refine gA Z (dD (by first|exact .inr Z|exact .inl Z) Z Z ((by rw[Yb];exact Yj fun x _=>jx _ _)) (J))
 .have b0:x.2=mN u j:=by rw[mN,W2,D];rfl
  have Y:x.2∈L:=hp.mem_iff.1 (XH.2 ⟨x,XE D,rfl⟩);have a0: ∀y,y=j::vs->y.Nodup∧ ∀i∈y,i<u.length:=fun y e=>e▸⟨XN.2 ⟨hj,A⟩,fun i hi=>(Xm.1 hi).elim (fun h=>h▸(W4.1 D).1) (B i)⟩;refine gA Z (bf ab [] (Pure.nS (nf x.2.2 (by have:=hF _ Y;omega))) Z Z Z Z Z Z Z Z Z Z Z Z (by(repeat' (first|exact ac|exact rfl|exact ae.refl _|exact ae.bk (by assumption)|apply W0))<;>first|omega|(simp only[W6];omega)|(simp;done)|(simp;omega)) Z (by(repeat' (first|exact ac|exact rfl|exact ae.refl _|exact ae.bk (by assumption)|apply W0))<;>first|omega|(simp only[W6];omega)|(simp;done)|(simp;omega)) ?_);refine gA Z ⟨j,x,D,hj,a0 _ Z,[5],wk Z Z Z ⟨.row (by simp),rfl,bi ac⟩ (hI Z Z (.inr Z) Z (hR Z (by rw[List.reverse_cons,Xg,Xg,List.map_singleton,<-b0];rfl) Z ac)) Z⟩
abbrev FL:AO:= .cells [.ptr 1 0]
abbrev nO(p:Prog)(n:Nat)(m:FM):List AO:=[bt m,b8 p n 0,FL]
abbrev nH(p:Prog)(n:Nat)(m:FM):AH:=[(0,io (bt m)),(1,io (b8 p n 0)),(2,io FL)]
def ob(m:FM)(e:kF.K×b3 Fact):Bool:=dA kF m e.1==e.2.1
theorem UJ(p:Prog)(n:Nat)(m:FM)(k:kF.K)(x:b3 Fact):bh prog 80 [kF.pk k,ag (fN x),.ptr 2 0] (nO p n m) (pB (ob m (k,x))) (nH p n m) 3:=by
 refine ak ab func80 Z (by decide) ntmps80 Z (by simp) ?_;refine gA Z (ar [] (by first|exact .inr Z|exact .inl Z) Z (wk Z Z Z (bi ac) (hM Z Z Z ⟨⟨_,rfl,.of_eq Z⟩,WY Z,rfl,⟨⟨_,rfl,.of_eq Z⟩,WY Z,rfl,ac⟩⟩) Z))
theorem V7(p:Prog)(n:Nat)(m:FM)(u:CM)(hn:(u.map (·.1)).Nodup)(hl:u.length<=1000000000):bh prog 79 [.mp 3,.cB (.func 80) [] [.ptr 2 0]] (nO p n m++ [Kk u]) (.a7 []) (nH p n m++ [(3,io (Kk (u.filter fun e=>!ob m e)))]) 4:=by
 refine ak ab func79 Z (by decide) ntmps79 Z (by simp) ?_;refine gM 3 Z (bB Z (xZ ab Z Z Z Z Z Z (by decide)) ?_);rintro t ⟨bs,clock,hbl,hbn,hbc,rfl⟩
 refine gA Z (Fp u.length (fun vs=>⟨[(0,.mp 3),(1,.cB (.func 80) [] [.ptr 2 0]),(7,.ptr 4 0)],[(0,io (bt m)),(1,io (b8 p n 0)),(2,io FL),(3,io (.iA kF CI b3.z Oa VK (oP u (cE Fact.z,b3.z) (fun j=>ob m (u.getD j (cE Fact.z,b3.z))) vs) (qj u.length bs (fun j=>ob m (u.getD j (cE Fact.z,b3.z))) vs) clock)),(4,io (.eJ (.mp 3) clock (lR bs vs)))],5⟩) (fun _=>True) [] ac
  (wk Z Z Z (bi (bi (bi ac))) (hM Z Z Z ⟨⟨_,rfl,.of_eq Z⟩,WY Z,rfl,⟨⟨_,rfl,.of_eq Z⟩,WY Z,rfl,⟨⟨_,rfl,.of_eq (by rw[GY,GZ hbl];rfl)⟩,WY Z,ac,⟨⟨_,rfl,.of_eq Z⟩,WY Z,rfl,ac⟩⟩⟩⟩) Z) fun vs v1 v2 _=>?_)
 refine gM 2 Z (bB Z (BY Z Z Z Z Z (by decide)) ?_);rintro t (⟨hall,rfl⟩|⟨q,x,b,hx,hb,hns,rfl⟩)
 .have hE:=Jd (d:=(cE Fact.z,b3.z)) hbl hbn v2 (ob m) (fun j=>rfl) hall;refine gA Z (ar [] (by first|exact .inr Z|exact .inl Z) Z (wk Z Z Z (bi ac) (hM Z Z Z ⟨⟨_,rfl,.of_eq Z⟩,WY Z,rfl,⟨⟨_,rfl,.of_eq Z⟩,WY Z,rfl,hMb Z hE Z ac⟩⟩) Z))
 .obtain⟨j,B,D,y,J⟩:=left_at hbl hx hb;have G:u.getD j (cE Fact.z,b3.z)=x:=by rw[W2,D];rfl
  refine gM 8 Z (bB Z (yI Z Z Z Z xR hb hx Z) ?_);rintro t rfl;refine gA Z (ai [0,1,2] (UJ p n m x.1 x.2) Z Z Z Z Z Z Z Z ?_);have I:ob m (x.1,x.2)=ob m (u.getD j (cE Fact.z,b3.z)):=by rw[G]
  refine gA Z ?_;refine W0 (fun g1=>?_) (fun g1=>?_)
  .have g1:ob m (u.getD j (cE Fact.z,b3.z))=jp:=by rw[<-I];exact g1
   obtain⟨A,Y⟩:=Jc (m:=u) (d:=(cE Fact.z,b3.z)) (bs:=bs) (dl:=fun j=>ob m (u.getD j (cE Fact.z,b3.z))) g1 B;refine gM 3 Z (bB Z (D9 ab Z Z Z Z Z Z (rfl:kF.dk _=io x.1) (Fx ((GW.map _).nodup hn) hx) Z) ?_);rintro t rfl;refine gA Z ⟨j,J,vp y hns,ac,[],wk Z Z Z (bi (bi (bi ac))) (hM Z Z Z ⟨⟨_,rfl,.of_eq Z⟩,WY Z,rfl,⟨⟨_,rfl,.of_eq Z⟩,WY Z,rfl,⟨⟨_,rfl,.of_eq (by rw[A,Y];rfl)⟩,WY Z,ac,⟨⟨_,rfl,.of_eq (by rw[sP y];rfl)⟩,WY Z,rfl,ac⟩⟩⟩⟩) Z⟩
  .have g1:ob m (u.getD j (cE Fact.z,b3.z))=kw:=by rw[<-I];exact g1
   have A:=DT (n:=u.length) (vs:=vs) (dl:=fun j=>ob m (u.getD j (cE Fact.z,b3.z))) g1;refine gA Z ⟨j,J,vp y hns,ac,[],wk Z Z Z (bi (bi (bi ac))) (hM Z Z Z ⟨⟨_,rfl,.of_eq Z⟩,WY Z,rfl,⟨⟨_,rfl,.of_eq Z⟩,WY Z,rfl,⟨⟨_,rfl,.of_eq (by unfold oP qj;rw[A];rfl)⟩,WY Z,ac,⟨⟨_,rfl,.of_eq (by rw[sP y];rfl)⟩,WY Z,rfl,ac⟩⟩⟩⟩) Z⟩
end Go.Proofs.YtlmhfgbkchnfbaaGreatDoor
namespace Go.Proofs.YtlmhfgbkchnfbaaGreatDoor
open Go Go.Al
def Hd(p:Prog)(f:Fact)(j:Nat):Bool:=lc ((f.args.getD j co).kind=(iz p f.rel).types.getD j co)
def oc(p:Prog)(f:Fact):Int:=
 if dA .str (tK p) f.rel=kw∨j7 f=kw∨ ¬(f.args.length:Int)=((iz p f.rel).types.length:Int) then 5
 else if(XC f.args.length).all (Hd p f)=jp then 0 else 5
theorem Gw{q:Nat->Bool}{n:Nat}(h: ∀j,j<n->q j=jp):(XC n).all q=jp:=XO.2 fun j u=>h j (Yz.1 u)
theorem Gv{q:Nat->Bool}{n j:Nat}(h:j<n)(u:q j=kw): ¬(XC n).all q=jp:=fun e=>by
 have:=XO.1 e j (Yz.2 h);rw[u]at this;cases this
theorem c16(p:Prog)(f:Fact)(hb:p.aG.length<=1000000000)(hf:f.args.length<=1000000000):Pure Tryz.prog 77 [ag p.c,ag f.c] (pI (oc p f)):=by
 refine ah ab Tryz.func77 Z (by decide) Tryz.ntmps77 Z (by simp) Z ?_;refine gA Z (zd [] (d50 p (by omega)) ?_);refine zE Z Z (fun g1=>?_) fun g1=>?_
 .have g1:dA .str (tK p) f.rel=kw:=by simpa using g1
  rw[oc,am (.inl g1)];exact zU Z
 have g1: ¬dA .str (tK p) f.rel=kw:=by
  have g:(!dA .str (tK p) f.rel)=kw:=g1;intro h;rw[h]at g;cases g
 refine gA Z (zp (c55 f) ?_);refine zE Z Z (fun g2=>?_) fun g2=>?_
 .have g2:j7 f=kw:=by
   cases h:j7 f with
   |false=>rfl
   |true=>
    have g:(!lc ((if j7 f then(0:Int) else 20)=0))=jp:=g2;rw[h]at g;simp at g
  rw[oc,am (.inr (.inl g2))];exact zU Z
 have g2: ¬j7 f=kw:=by
  intro h;have g:(!lc ((if j7 f then(0:Int) else 20)=0))=kw:=g2;rw[h]at g;simp at g
 refine zJ Z Z (fun g3=>?_) fun g3=>?_
 .have g3: ¬(f.args.length:Int)=((iz p f.rel).types.length:Int):=by
   have g:(!lc ((f.args.length:Int)=((iz p f.rel).types.length:Int)))=jp:=g3;simpa only[Ye,decide_eq_false_iff_not]using g
  rw[oc,am (.inr (.inr g3))];exact zU Z
 have g3:(f.args.length:Int)=((iz p f.rel).types.length:Int):=by
  have g:(!lc ((f.args.length:Int)=((iz p f.rel).types.length:Int)))=kw:=g3;simpa only[YR,decide_eq_true_eq]using g
 rw[oc,be (by rintro(h|h|h);exact g1 h;exact g2 h;exact h g3)];refine gA Z ?_;refine aN 0 f.args.length (Xc _) (fun i=>⟨[(5,.ptr 3 0),(34,.iv (aT 3 f.args cW.c)),(35,pI f.args.length),(36,pI i)],[(3,io (ax (iz p f.rel).c))],4⟩) (fun i=> ∀j,j<i->Hd p f j=jp) [] (fun j x=>absurd x (YY j))
  (zW (zO trivial)) fun i hi y=>?_
 refine zJ Z Z (fun h1=>?_) fun h1=>?_
 .have h1:i<f.args.length:=zN h1;refine zJ Z Z (fun u=>?_) fun u=>?_
  .have u:Hd p f i=kw:=by
    have g:(!Hd p f i)=jp:=u;simpa using g
   rw[be (Gv h1 u)];exact zU Z
  .have u:Hd p f i=jp:=by
    have g:(!Hd p f i)=kw:=u;simpa using g
   refine gA Z ⟨h1,fun j x=>by rcases Y1.1 x with h|h;exact y j h;exact h▸u,[],zW (zO ac)⟩
 .have h1:f.args.length<=i:=zG h1;rw[am (Gw fun j x=>y j (by omega))];exact zU Z
end Go.Proofs.YtlmhfgbkchnfbaaGreatDoor
namespace Go.Proofs.YtlmhfgbkchnfbaaGreatDoor
open Go Go.Al Go.Proofs.Tryz Go.Bo
def okF(p:Prog)(f:Fact):Bool:=lc (oc p f=0)
theorem iT{p:Prog}{f:Fact}(h:okF p f=jp):f.args.length<=8:=by
 have h:=of_decide_eq_true h;unfold oc at h;split at h
 .cases h
 .rename_i g;have g2: ¬j7 f=kw:=fun e=>g (.inr (.inl e));rw[Bool.not_eq_false]at g2;unfold j7 at g2;simp only[XR,decide_eq_true_eq]at g2;exact g2.2.1
abbrev mapOf(T:List (b3 Fact)):CM:=T.map fun x=>(cE x.2,x)
theorem B2{T:List (b3 Fact)}(hn:(T.map (·.2)).Nodup)(u: ∀x∈T,x.2.args.length<=8):((mapOf T).map (·.1)).Nodup:=by
 induction T with
 |nil=>exact XY
 |cons x r ih=>
  rw[W7,XN]at hn;rw[mapOf,W7,W7,XN];refine⟨fun m=>?_,ih hn.2 fun y j=>u y (Xi _ j)⟩;obtain⟨e,B,A⟩:=XH.1 m;obtain⟨y,j,rfl⟩:=XH.1 B;have:=rZ (u y (Xi _ j)) A;exact hn.1 (XH.2 ⟨y,j,this⟩)
def ct(S:List Fact)(l:List (b3 Fact)):List (b3 Fact):=(n9 l).filter fun x=>!(lc (x.2∈S)==x.1)
theorem yr{l:List (b3 Fact)}{x:b3 Fact}(h:x∈n9 l):x∈l:=by
 have:=((qW l).2 x.1 x.2).1 h;exact iD this
theorem G5{m:FM}{S:List Fact}(hk:b4 cE m S)(j: ∀f∈S,f.args.length<=8)(f:Fact):dA kF m (cE f)=lc (f∈S):=by
 have:=hk.has (f:=f) fun u hu e=>rZ (j u hu) e;by_cases h:f∈S
 .rw[decide_eq_true h,this.2 h]
 .rw[decide_eq_false h];cases e:dA kF m (cE f) with
  |false=>rfl
  |true=>exact absurd (this.1 e) h
theorem IC{m:FM}{S:List Fact}(hk:b4 cE m S)(j: ∀f∈S,f.args.length<=8)(l:List (b3 Fact)):((mapOf (n9 l)).filter fun e=>!ob m e)=mapOf (ct S l):=by
 unfold ct mapOf;rw[List.filter_map];congr 1;refine Y5 fun x _=>?_;show(!(dA kF m (cE x.2)==x.1))=_;rw[G5 hk j]
theorem BD: ∀(T:List (b3 Fact)) (c:b3 Fact),(ll T c).length<=T.length+1
 | [],_=>W8 _
 |x::r,c=>by
  have:=BD r c;unfold ll;split
  .simp
  .simp only[Xy];omega
theorem G3(l:List (b3 Fact)):(n9 l).length<=l.length:=by
 have key: ∀(l T:List (b3 Fact)),(l.foldl ll T).length<=T.length+l.length:=by
  intro l
  induction l with
  |nil=>intro T;exact W8 _
  |cons c r ih=>
   intro T;have h1:=ih (ll T c);have j:=BD T c;rw[X8,Xy];omega
 have:=key l [];show(l.foldl ll []).length<=_;simpa using this
def AJ(x:b3 Fact):Int:=if x.1=jp then 1 else-1
theorem BK{a b:List Int}(h:a.Perm b):a.sum=b.sum:=by
 induction h with
 |nil=>rfl
 |cons x _ ih=>rw[Ym,Ym,ih]
 |swap x y l=>rw[Ym,Ym,Ym,Ym];omega
 |trans _ _ a b=>exact a.trans b
theorem ED: ∀(T:List (b3 Fact)),(T.map AJ).sum=((T.filter fun x=>x.1).length:Int)-((T.filter fun x=>!x.1).length:Int)
 | []=>rfl
 |x::r=>by
  rw[W7,Ym,ED r];cases h:x.1 with
  |true=>simp[AJ,h];omega
  |false=>simp[AJ,h];omega
theorem IB{S:List Fact}(hS:rq aU S)(l:List (b3 Fact)):(S.length:Int)+((ct S l).map AJ).sum=(ff aU S l).length:=by
 have j:(ct S l).Perm (dM aU S l):=nE pg S l;rw[BK (j.map AJ),ED];have:=IZ pg hS l;omega
theorem Gg(T:List (b3 Fact)): -(T.length:Int)<=(T.map AJ).sum∧(T.map AJ).sum<=T.length:=by
 induction T with
 |nil=>simp
 |cons x r ih=>
  rw[W7,Ym,Xy];unfold AJ at*
  split<;>omega
def I1(p:Prog)(S:List Fact)(l:List (b3 Fact)):PV:=
 if ir aU (okF p) S l=0 then .a7 [.iv (CH (mapOf (ct S l))),pI 0] else .a7 [.iv (.v (.map is)),pI (ir aU (okF p) S l)]
theorem uL{p:Prog}{S:List Fact}{l:List (b3 Fact)}{e:Int}(h:ir aU (okF p) S l=e)(h0:e≠0):I1 p S l= .a7 [.iv (.v (.map is)),pI e]:=by
 unfold I1;rw[h,be h0]
theorem E4{p:Prog}{S:List Fact}{l:List (b3 Fact)}(h:ir aU (okF p) S l=0):I1 p S l= .a7 [.iv (CH (mapOf (ct S l))),pI 0]:=by
 unfold I1;rw[am h]
theorem V3(p:Prog)(n:Nat){m:FM}{S:List Fact}(l:List (b3 Fact))(hb:p.aG.length<=1000000000)(hk:b4 cE m S)(hS:ef aU (okF p) S)(hF: ∀x∈l,x.2.args.length<=1000000000):
  bh prog 45 [.ptr 1 0,.iv (aT 3 l fN)] (bO p n m) (I1 p S l) (bH p n m) 2:=by
 have v0:=hk.len;have k0:=hS.JR;have i0: ∀f∈S,f.args.length<=8:=fun f hf=>iT (hS.ok f hf);refine ak ab func45 Z (by decide) ntmps45 Z (by simp) ?_;refine gA Z ?_;refine W0 (fun k1=>?_) (fun k1=>?_)
 .exact absurd k1 (by decide)
 refine gA Z ?_;refine W0 (fun J=>?_) (fun J=>?_)
 .have J:4096<l.length:=by have:=of_decide_eq_true J;omega
  rw[uL (e:=2) (by unfold ir;rw[am J]) (by decide)];refine gA Z (ar [] (by first|exact .inr Z|exact .inl Z) Z (wk Z Z Z (bi ac) (hM Z Z Z ⟨⟨_,rfl,.of_eq Z⟩,WY Z,rfl,ac⟩) Z))
 have J:l.length<=4096:=by have:=of_decide_eq_false J;omega
 refine gA Z ?_;refine aN 0 l.length (Xc _) (fun i=>⟨[(2,.ptr 2 0),(6,.mp 3),(20,.iv (aT 3 l fN)),(21,pI l.length),(22,pI i)],[(0,io (bt m)),(1,io (b8 p n 0)),(2,io FL),(3,io (Kk (mapOf (n9 (l.take i)))))],4⟩) (fun i=> ∀x∈l.take i,okF p x.2=jp) [] (by simp)
  (wk Z Z Z (bi (bi (bi (bi (bi trivial))))) (hM Z Z Z ⟨⟨_,rfl,.of_eq Z⟩,WY Z,rfl,⟨⟨_,rfl,.of_eq Z⟩,WY Z,rfl,SC Z N9 Z trivial⟩⟩) Z) fun i hi Y=>?_
 refine gA Z ?_;refine W0 (fun h1=>?_) (fun h1=>?_)
 .have h1:i<l.length:=by simpa using h1
  have f0:l.getD i co∈l:=by rw[W2,W5 h1];exact XS h1
  have a0:=iG (g:=ll) (b:=([]:List (b3 Fact))) h1;have r0:=bT (l:=l) h1;refine gA Z (bf ab [] (Pure.nS (c16 p (l.getD i co).2 hb (hF _ f0))) Z Z Z Z Z Z Z Z Z Z Z Z (by(repeat' (first|exact ac|exact rfl|exact ae.refl _|exact ae.bk (by assumption)|apply W0))<;>first|omega|(simp only[W6];omega)|(simp;done)|(simp;omega)) Z (by(repeat' (first|exact ac|exact rfl|exact ae.refl _|exact ae.bk (by assumption)|apply W0))<;>first|omega|(simp only[W6];omega)|(simp;done)|(simp;omega)) ?_);refine gA Z ?_;refine W0 (fun g1=>?_) (fun g1=>?_)
  .have g1:okF p (l.getD i co).2=kw:=by
    have g:(!lc (oc p (l.getD i co).2=0))=jp:=g1;rw[Ye]at g;exact g
   rw[uL (e:=5) (by
    unfold ir;rw[be (by omega),am]
    exact List.all_eq_false.2 ⟨_,f0,by rw[g1];decide⟩) (by decide)]
   refine gA Z (ar [] (by first|exact .inr Z|exact .inl Z) Z (wk Z Z Z (bi ac) (hM Z Z Z ⟨⟨_,rfl,.of_eq Z⟩,WY Z,rfl,ac⟩) Z))
  .have g1:okF p (l.getD i co).2=jp:=by
    have g:(!lc (oc p (l.getD i co).2=0))=kw:=g1;rw[YR]at g;exact g
   have t0:=iT g1;refine gA Z (aF (RX (l.getD i co).2 t0) Z Z Z Z Z Z ?_);have p0:=Gx (kc:=kF) (key:=cE) (n9 (l.take i)) (l.getD i co) fun y hy e=>rZ (iT (Y y (yr hy))) e;refine gl Z ?_ ?_
   .repeat' (first|exact ac|exact rfl|exact Ob _|exact ae.refl _|apply W0)
    all_goals omega
   refine⟨h1,fun x u=>?_,[],wk Z Z Z (bi (bi (bi (bi (bi ac))))) (hM Z Z Z ⟨⟨_,rfl,.of_eq Z⟩,WY Z,rfl,⟨⟨_,rfl,.of_eq Z⟩,WY Z,rfl,hM Z ?_ Z ac⟩⟩) Z⟩
   .rw[r0,Xr,Xd]at u;exact u.elim (Y x) fun e=>e▸g1
   .show _=(n9 (l.take (i+1))).map fun x=>(cE x.2,x)
    unfold n9 at*
    rw[a0,<-p0,<-Qr (l.getD i co)];rfl
 .have h1:l.length<=i:=by simpa using h1
  have m0:i=l.length:=by omega
  subst m0;rw[Xh (W8 _)]at Y ⊢;have B:(l.all fun x=>okF p x.2)=jp:=XO.2 Y;have o0:=B2 (qW l).1 fun x u=>iT (Y x (yr u));have q0:=IC hk i0 l;have x0:=IB hS.zg l;have n0:=G3 l;have w0:(ct S l).length<=l.length:=X6 (Ys _ _) n0;refine gA Z (ai [0,1,2,3] (V7 p n m (mapOf (n9 l)) o0 (by rw[mapOf,Xw];omega)) Z Z Z Z Z Z Z Z ?_);rw[q0];refine gA Z ?_
  refine gk (mapOf (ct S l)) (fun vs=>⟨[(6,.iv (CH (mapOf (ct S l)))),(11,pI ((m.length:Int)+(vs.map fun j=>AJ (mN (mapOf (ct S l)) j)).sum)),(54,.ptr 4 0)],[(0,io (bt m)),(1,io (b8 p n 0)),(4,io (.bY kF CI (mapOf (ct S l)) vs is))],5⟩) (fun vs=>vs.Nodup∧ ∀j∈vs,j<(mapOf (ct S l)).length) [] ⟨XY,by simp⟩
   (wk Z Z Z (bi ⟨Ad (by simp),rfl,bi trivial⟩) (hM Z Z Z ⟨⟨_,rfl,.of_eq Z⟩,WY Z,rfl,hI Z Z (.inl Z) Z trivial⟩) Z) fun vs g0=>?_
  obtain⟨v1,v2⟩:=g0;have s0:=C5 v1 v2;rw[Xw]at s0;have I:=Gg (vs.map (mN (mapOf (ct S l))));rw[Yb,Xw]at I;have b0:=I.1;have c0:=I.2;have j0:(AJ ∘ mN (mapOf (ct S l)))=fun j=>AJ (mN (mapOf (ct S l)) j):=rfl;rw[j0]at b0 c0;refine gl Z ac (dX Z Z Z Z Z (by decide) (fun D=>?_) fun j x u hj=>?_)
  .have hq:(vs.map fun j=>AJ (mN (mapOf (ct S l)) j)).sum=((ct S l).map AJ).sum:=by
    have h1:=((y5 v1 v2 D).map fun j=>(mapOf (ct S l)).getD j (cE Fact.z,b3.z)).map fun e=>AJ e.2;rw[cz,Yb,Yb]at h1;exact BK h1
   rw[hq];refine gA Z ?_;refine W0 (fun g2=>?_) (fun g2=>?_)
   .have g2:65536<(ff aU S l).length:=by have:=of_decide_eq_true g2;omega
    rw[uL (e:=3) (by unfold ir;rw[be (by omega),be (by rw[B];decide),am g2]) (by decide)];refine gA Z (ar [] (by first|exact .inr Z|exact .inl Z) Z (wk Z Z Z (bi ac) (hM Z Z Z ⟨⟨_,rfl,.of_eq Z⟩,WY Z,rfl,ac⟩) Z))
   .have g2: ¬65536<(ff aU S l).length:=by have:=of_decide_eq_false g2;omega
    rw[E4 (by unfold ir;rw[be (by omega),be (by rw[B];decide),be g2])];refine gA Z (ar [] (by first|exact .inr Z|exact .inl Z) Z (wk Z Z Z (bi ac) (hM Z Z Z ⟨⟨_,rfl,.of_eq Z⟩,WY Z,rfl,ac⟩) Z))
  .have e0:x.2=mN (mapOf (ct S l)) j:=by rw[mN,W2,u];rfl
   have d0: ∀A,A=j::vs->A.Nodup∧ ∀i∈A,i<(mapOf (ct S l)).length:=fun A e=>e▸⟨XN.2 ⟨hj,v1⟩,fun i hi=>(Xm.1 hi).elim (fun h=>h▸(W4.1 u).1) (v2 i)⟩;refine gA Z ?_;refine W0 (fun g3=>?_) (fun g3=>?_)
   .have g3:x.2.1=jp:=g3;have G:AJ (mN (mapOf (ct S l)) j)=1:=by rw[<-e0,AJ,am g3]
    refine gA Z ⟨j,x,u,hj,d0 _ Z,[],wk Z Z Z (bi ⟨Ad (by rw[W7,Ym,G];omega),rfl,bi ac⟩) (hM Z Z Z ⟨⟨_,rfl,.of_eq Z⟩,WY Z,rfl,hI Z Z (.inr Z) Z ac⟩) Z⟩
   .have g3:x.2.1=kw:=g3;have G:AJ (mN (mapOf (ct S l)) j)= -1:=by rw[<-e0,AJ,be (by rw[g3];decide)]
    refine gA Z ⟨j,x,u,hj,d0 _ Z,[],wk Z Z Z (bi ⟨Ad (by rw[W7,Ym,G];omega),rfl,bi ac⟩) (hM Z Z Z ⟨⟨_,rfl,.of_eq Z⟩,WY Z,rfl,hI Z Z (.inr Z) Z ac⟩) Z⟩
theorem Ik{y:IV}(A:jW (lits []) y):Pure prog 71 [.iv (lits [])] (.iv y):=by
 refine ah ab func71 Z (by decide) ntmps71 Z (by simp) Z ?_;refine gA Z (aF (EN [] (by simp)) Z Z Z Z Z Z ?_);refine gA Z (nL (n:=0) ?_);refine gA Z ?_;refine W0 (fun j=>?_) (fun j=>?_)
 .exact absurd j (by simp)
 refine gA Z (aM (by first|exact .inr Z|exact .inl Z) Z ?_);exact .iv (fun M x u=>A M x u)
set_option maxHeartbeats 2000000 in
theorem UF: ∀(n:Nat) (l:List Lit) (y:IV),Lit.aE l<=n->Lit.aE l<=1000000000->jW (lits l) y->Pure prog 71 [.iv (lits l)] (.iv y):=by
 intro n
 induction n with
 |zero=>
  intro l y h hb A;have hl:=Lit.aJ l;have u:l=[]:=Yv.1 (by omega);subst u;exact Ik A
 |succ n ih=>
  intro l y h hb A;have hl:=Lit.aJ l;by_cases B:l=[]
  .subst B;exact Ik A
  refine ah ab func71 Z (by decide) ntmps71 Z (by simp) Z ?_;refine gA Z (ai [] (Bj l (by omega) B) Z Z Z Z Z Z Z Z ?_);refine gA Z ?_;refine aN 0 l.length (Xc _) (fun i=>⟨[(0,.iv (lits l)),(3,.sl 0 0 l.length 30),(9,pI l.length),(10,pI i)],[(0,io (aS 30 l Lit.c))],1⟩) (fun _=>True) [] ac
   (wk Z Z Z (bi (bi (bi (bi trivial)))) (hR Z (by rw[Yb];exact Yj fun x _=>jx _ _) Z trivial) Z) fun i hi _=>?_
  refine gA Z ?_;refine W0 (fun h1=>?_) (fun h1=>?_)
  .have h1:i<l.length:=by simpa using h1
   have G:=Lit.bU l i h1;have D:=(l.getD i co).size_eq;have j:=Ds (g:=fun x=>(Lit.c x).map PV.iv) h1;refine gM 22 Z (kS ab Z Z Z Z Z (j) Z Z ?_);refine gA Z (aF (uG (l.getD i co).atom.an (by omega)) Z Z Z Z Z Z ?_);refine gA Z (nM ab Z Z Z Z (i:=0) (q:=0+i) (off:=2) Z Z j Z Z (by decide) Z Z ?_);refine gM 9 Z (kT (p:=ag (l.getD i co).left.c) 6 Z Z Z Z Z Z (dr ab Z Z Z Z j Z) ?_);refine gM 3 Z (kT (p:=ag (l.getD i co).right.c) 11 Z Z Z Z Z Z (dr ab Z Z Z Z j Z) ?_);refine gM 4 Z (kT (p:=ag (l.getD i co).ky.c) 17 Z Z Z Z Z Z (dr ab Z Z Z Z j Z) ?_);refine gA Z (sa ab [11,17] [] (Pure.nS (Dl (l.getD i co).left (by omega))) Z Z Z Z Z Z Z Z Z Z Z Z (by(repeat' (first|exact ac|exact rfl|exact ae.refl _|exact ae.bk (by assumption)|apply W0))<;>first|omega|(simp only[W6];omega)|(simp;done)|(simp;omega)) Z (by(repeat' (first|exact ac|exact rfl|exact ae.refl _|exact ae.bk (by assumption)|apply W0))<;>first|omega|(simp only[W6];omega)|(simp;done)|(simp;omega)) ⟨mU ab Z Z Z Z Z Z Z j Z (.refl _),⟨mU ab Z Z Z Z Z Z Z j Z (.refl _),ac⟩⟩ ?_);refine gA Z (sa ab [17] [] (Pure.nS (Dl (l.getD i co).right (by omega))) Z Z Z Z Z Z Z Z Z Z Z Z (by(repeat' (first|exact ac|exact rfl|exact ae.refl _|exact ae.bk (by assumption)|apply W0))<;>first|omega|(simp only[W6];omega)|(simp;done)|(simp;omega)) Z (by(repeat' (first|exact ac|exact rfl|exact ae.refl _|exact ae.bk (by assumption)|apply W0))<;>first|omega|(simp only[W6];omega)|(simp;done)|(simp;omega)) ⟨mU ab Z Z Z Z Z Z Z j Z (.refl _),ac⟩ ?_);refine gA Z (bf ab [] (Pure.nS (Dl (l.getD i co).ky (by omega))) Z Z Z Z Z Z Z Z Z Z Z Z (by(repeat' (first|exact ac|exact rfl|exact ae.refl _|exact ae.bk (by assumption)|apply W0))<;>first|omega|(simp only[W6];omega)|(simp;done)|(simp;omega)) Z (by(repeat' (first|exact ac|exact rfl|exact ae.refl _|exact ae.bk (by assumption)|apply W0))<;>first|omega|(simp only[W6];omega)|(simp;done)|(simp;omega)) ?_);refine gA Z (ja ab Z Z Z Z Z (by(repeat' (first|exact ac|exact rfl|exact ae.refl _|exact ae.bk (by assumption)|apply W0))<;>first|omega|(simp only[W6];omega)|(simp;done)|(simp;omega)) (gv ab Z Z Z (i:=0) (q:=0+i) (off:=4) Z Z j Z Z (by decide) Z Z) Z (by(repeat' (first|exact ac|exact rfl|exact ae.refl _|exact ae.bk (by assumption)|apply W0))<;>first|omega|(simp only[W6];omega)|(simp;done)|(simp;omega)) ?_);refine gA Z (ja ab Z Z Z Z Z (by(repeat' (first|exact ac|exact rfl|exact ae.refl _|exact ae.bk (by assumption)|apply W0))<;>first|omega|(simp only[W6];omega)|(simp;done)|(simp;omega)) (gv ab Z Z Z (i:=0) (q:=0+i) (off:=11) Z Z j Z Z (by decide) Z Z) Z (by(repeat' (first|exact ac|exact rfl|exact ae.refl _|exact ae.bk (by assumption)|apply W0))<;>first|omega|(simp only[W6];omega)|(simp;done)|(simp;omega)) ?_);refine gA Z (ja ab Z Z Z Z Z (by(repeat' (first|exact ac|exact rfl|exact ae.refl _|exact ae.bk (by assumption)|apply W0))<;>first|omega|(simp only[W6];omega)|(simp;done)|(simp;omega)) (gv ab Z Z Z (i:=0) (q:=0+i) (off:=20) Z Z j Z Z (by decide) Z Z) Z (by(repeat' (first|exact ac|exact rfl|exact ae.refl _|exact ae.bk (by assumption)|apply W0))<;>first|omega|(simp only[W6];omega)|(simp;done)|(simp;omega)) ?_);refine gM 7 Z (kS ab Z Z Z Z Z (j) Z Z ?_);refine gA Z (aF (Al.Pure.le (aa:=[.iv (sD (l.getD i co).az)]) (ih (l.getD i co).az (sD (l.getD i co).az) (by omega) (by omega) (Ab _)) ⟨.iv (nB _),ac⟩) Z Z Z Z Z Z ?_);refine gA Z (nM ab Z Z Z Z (i:=0) (q:=0+i) (off:=27) Z Z j Z Z (by decide) Z Z ?_);refine gA Z ⟨h1,ac,[],wk Z Z Z (bi (bi (bi (bi ac)))) (hR Z Z Z ac) Z⟩
  .have h1:l.length<=i:=by simpa using h1
   refine gA Z (fp (r0:= .sl 0 0 l.length 30) (.inr Z) Z (fy.fR 0 l Lit.c Z Z (by simp[PV.aZ,aY]) (.done ?_)));have:ae (.iv (lits l)) (.iv y):= .iv A;simp only[PV.dK,oh,Xo];exact this
theorem RW(l:List Lit)(hb:Lit.aE l<=1000000000):Pure prog 71 [.iv (lits l)] (.iv (lits l)):=UF _ l _ (W8 _) hb (fun _ _ h=>h)
theorem Ih(p:Prog)(hb:p.size<=1000000000):Pure prog 38 [ag p.c] (ag p.c):=by
 unfold Prog.size at hb;refine ah ab func38 Z (by decide) ntmps38 Z (by simp) Z ?_;refine gM 9 Z ?_;refine kR 2 0 4 Z Z ?_;refine kR 2 1 5 Z Z ?_;refine gA Z ?_;refine aN 0 p.aG.length (Xc _) (fun i=>⟨[(1,.ptr 0 0),(2,.ptr 1 0),(3,.ptr 2 0),(9,.iv (aT 4 p.aG Decl.c)),(10,pI p.aG.length),(11,pI i)],[(0,io (ax p.c)),(1,io (.cells [.iv (.v (.slice is 0 0)),.iv (.v (.slice is 0 0))])),(2,io (.cells [.sl 5 0 i 4,.sl 4 0 0 5])),(4,io (aS 5 ([]:List aw) aw.c)),(5,io (aS 4 (p.aG.take i) Decl.c))],6⟩) (fun _=>True) [3] ac
  (wk Z Z Z (bi (bi (bi (bi (bi (bi trivial)))))) (hC Z Z Z ⟨⟨_,rfl,.of_eq Z⟩,WY Z,rfl,⟨_,rfl,.of_eq Z⟩,WY Z,rfl,hR Z Z Z (hR Z Z Z trivial)⟩) Z) fun i hi _=>?_
 refine gA Z ?_;refine W0 (fun h1=>?_) (fun h1=>?_)
 .have h1:i<p.aG.length:=by simpa using h1
  have y:(p.aG.take i).length=i:=by rw[XA];omega
  have x:=bT (l:=p.aG) h1;have A:=pn (fun d:Decl=>d.types.length) p.aG i h1;refine gA Z (aF (EO (p.aG.getD i co).types (by omega)) Z Z Z Z Z Z ?_);refine gA Z ⟨h1,ac,[8],wk Z Z Z (bi (bi (bi (bi (bi (bi ac)))))) (hC Z Z Z ⟨⟨_,rfl,.of_eq Z⟩,WY Z,rfl,⟨⟨_,rfl,.of_eq Z⟩,WY Z,rfl,hR Z Z Z (hR Z (by rw[x,Xg];rfl) Z ac)⟩⟩) Z⟩
 .have h1:p.aG.length<=i:=by simpa using h1
  have u:i=p.aG.length:=by omega
  subst u;rw[Xh (W8 _)];refine gA Z ?_;refine aN 0 p.rules.length (Xc _) (fun i=>⟨[(1,.ptr 0 0),(2,.ptr 1 0),(3,.ptr 2 0),(27,.iv (aT 5 p.rules aw.c)),(28,pI p.rules.length),(29,pI i)],[(0,io (ax p.c)),(1,io (.cells [.iv (.v (.slice is 0 0)),.iv (.v (.slice is 0 0))])),(2,io (.cells [.sl 5 0 p.aG.length 4,.sl 6 0 i 5])),(5,io (aS 4 p.aG Decl.c)),(6,io (aS 5 (p.rules.take i) aw.c))],7⟩) (fun _=>True) [4] ac
   (wk Z Z Z (bi (bi (bi (bi (bi (bi trivial)))))) (hC Z Z Z ⟨⟨_,rfl,.of_eq Z⟩,WY Z,rfl,⟨⟨_,rfl,.of_eq Z⟩,WY Z,rfl,hR Z Z Z (hR Z Z Z trivial)⟩⟩) Z) fun i hi _=>?_
  refine gA Z ?_;refine W0 (fun j=>?_) (fun j=>?_)
  .have j:i<p.rules.length:=by simpa using j
   have y:(p.rules.take i).length=i:=by rw[XA];omega
   have x:=bT (l:=p.rules) j;have A:=pn aw.size p.rules i j;have B:(p.rules.getD i co).size=(p.rules.getD i co).head.an.length+Lit.aE (p.rules.getD i co).body:=rfl;refine gA Z (aF (uG (p.rules.getD i co).head.an (by omega)) Z Z Z Z Z Z ?_);refine gA Z (aF (RW (p.rules.getD i co).body (by omega)) Z Z Z Z Z Z ?_);refine gA Z ⟨j,ac,[9],wk Z Z Z (bi (bi (bi (bi (bi (bi ac)))))) (hC Z Z Z ⟨⟨_,rfl,.of_eq Z⟩,WY Z,rfl,⟨⟨_,rfl,.of_eq Z⟩,WY Z,rfl,hR Z Z Z (hR Z (by rw[x,Xg];rfl) Z ac)⟩⟩) Z⟩
  .have j:p.rules.length<=i:=by simpa using j
   have u:i=p.rules.length:=by omega
   subst u;rw[Xh (W8 _)];refine gA Z (fp (r0:= .agg [.sl 5 0 p.aG.length 4,.sl 6 0 p.rules.length 5]) (.inr Z) Z (fy.fR 5 p.aG Decl.c Z Z (by simp[PV.aZ,aY]) (fy.fR 6 p.rules aw.c Z Z (by simp[PV.aZ,aY,PV.dK,oh,show Xv 6 5=kw from rfl]) (.done (.of_eq (by simp only[PV.dK,oh,Xo,show Xv 6 5=kw from rfl,show Xv 5 5=jp from rfl,show Xv 6 6=jp from rfl,cond_true,cond_false];rfl))))))
end Go.Proofs.YtlmhfgbkchnfbaaGreatDoor
namespace Go.Tj
section
section
variable {α:Type}
inductive om (succ:α->List α):α->α->Prop
 |refl (a:α):om succ a a
 |step {a b c:α}:om succ a b->c∈succ b->om succ a c
theorem om.trans{succ:α->List α}{a b c:α}(h:om succ a b)(g:om succ b c):om succ a c:=by
 induction g with
 |refl=>exact h
 |step _ he ih=>exact .step ih he
theorem om.one{succ:α->List α}{a b:α}(h:b∈succ a):om succ a b:= .step (.refl a) h
structure St (α:Type) where
 low:α->Int
 on:α->Int
 ring:α->Int
 n:Nat
 stack:List α
section
variable [DecidableEq α]
def y7(f:α->Int)(a:α)(v:Int):α->Int:=fun x=>if x=a then v else f x
theorem kH(f:α->Int)(a:α)(v:Int):y7 f a v a=v:=am Z
theorem lP{f:α->Int}{a x:α}{v:Int}(h: ¬x=a):y7 f a v x=f x:=be h
def push(s:St α)(a:α):St α:=⟨y7 s.low a ((s.n:Int)+1),y7 s.on a 1,s.ring,s.n+1,s.stack++ [a]⟩
def zH(j:Int)(s:St α):St α:=match s.stack.getLast? with
 |some b=>⟨s.low,y7 s.on b 2,y7 s.ring b j,s.n,s.stack.dropLast⟩
 |none=>s
def gh(a:α)(j:Int):Nat->St α->St α
 |0,s=>s
 |k+1,s=>if s.on a=1 then gh a j k (zH j s) else s
def tF(j:α->St α->Int×St α)(q:Int×St α)(b:α):Int×St α:=
 if q.2.low b=0 then(min q.1 (j b q.2).1,(j b q.2).2) else if q.2.on b=1 then(min q.1 (q.2.low b),q.2) else q
def uD(a:α)(j:Int)(q:Int×St α):Int×St α:=if q.1=j then(q.1,gh a j q.2.stack.length q.2) else q
def eN(succ:α->List α):Nat->α->St α->Int×St α
 |0,_,s=>(0,s)
 |f+1,a,s=>uD a ((s.n:Int)+1) ((succ a).foldl (tF (eN succ f)) ((s.n:Int)+1,push s a))
def im(succ:α->List α)(f:Nat)(V:List α)(s:St α):St α:=V.foldl (fun s a=>if s.low a=0 then(eN succ f a s).2 else s) s
end
def St.o:St α:=⟨fun _=>0,fun _=>0,fun _=>0,0,[]⟩
structure Inv (succ:α->List α) (path:List α) (s:St α):Prop where
 n4: ∀a,0<=s.low a∧s.low a<=s.n
 inj: ∀a b,s.low a=s.low b->s.low a≠0->a=b
 KR: ∀a,s.on a=0↔s.low a=0
 GJ: ∀a,s.on a=0∨s.on a=1∨s.on a=2
 xO: ∀a,s.on a=1↔a∈s.stack
 zg:s.stack.Pairwise fun x y=>s.low x<s.low y
 NZ: ∀a,s.on a=2-> ∀b∈succ a,s.on b=2
 Sg: ∀g∈path,s.on g=1
 up: ∀y,s.on y=1-> ∃g∈path,s.low g<=s.low y∧om succ y g
 dn: ∀g∈path,∀y,s.on y=1->s.low g<=s.low y->om succ g y
 aA: ∀y,s.low y≠0->y∉path-> ∀z∈succ y,s.low z≠0
 UT: ∀a,s.on a=2-> ∃r,s.on r=2∧s.low r=s.ring a∧om succ a r∧om succ r a
 cmp: ∀a b,s.on a=2->s.on b=2->om succ a b->om succ b a->s.ring a=s.ring b
structure Le (s s':St α):Prop where
 low: ∀x,s.low x≠0->s'.low x=s.low x
 NZ: ∀x,s.on x=2->s'.on x=2
 n:s.n<=s'.n
theorem Le.refl(s:St α):Le s s:=⟨fun _ _=>rfl,fun _ h=>h,W8 _⟩
theorem Le.trans{s t u:St α}(h:Le s t)(g:Le t u):Le s u:=
 ⟨fun x j=>by rw[g.low x (by rw[h.low x j];exact j),h.low x j],fun x j=>g.NZ x (h.NZ x j),X6 h.n g.n⟩
structure S8 (succ:α->List α) (path:List α) (a:α) (s:St α) (least:Int) (s':St α) (t:List α):Prop where
 inv:Inv succ path s'
 le:Le s s'
 stack:s'.stack=s.stack++t
 new: ∀y∈t,s.low y=0
 at_:(s.n:Int)<s'.low a
 Su:least<=s'.low a
 l1: ∀y∈t,∀z∈succ y,s'.on z=1->least<=s'.low z
 l2:(s'.on a=2∧least=s'.low a)∨ ∃z∈s.stack,s'.low z=least∧om succ a z
theorem vM{succ:α->List α}{path:List α}{s:St α}(h:Inv succ path s){x:α}(j:s.on x=1):s.low x≠0:=fun g=>by
 have:=(h.KR x).2 g;omega
theorem IT{succ:α->List α}{p:List α}{s s':St α}(h:Inv succ p s)(hl:Le s s'){x:α}(j:s.low x≠0)(ho:s'.on x=1):s.on x=1:=by
 rcases h.GJ x with g|g|g
 .exact absurd ((h.KR x).1 g) j
 .exact g
 .have:=hl.NZ x g;omega
section
variable [DecidableEq α]
theorem BE{succ:α->List α}{path:List α}{s:St α}{a:α}(h:Inv succ path s)(ha:s.low a=0)(hp: ∀g∈path,om succ g a):Inv succ (path++ [a]) (push s a):=by
 have c0:s.on a=0:=(h.KR a).2 ha;have Y:a∉s.stack:=fun g=>by have:=(h.xO a).2 g;omega
 have A: ∀x,¬x=a->(push s a).low x=s.low x:=fun x j=>lP j;have la:(push s a).low a=(s.n:Int)+1:=kH _ _ _;have G: ∀x,¬x=a->(push s a).on x=s.on x:=fun x j=>lP j;have I:(push s a).on a=1:=kH _ _ _;have hn:((push s a).n:Int)=(s.n:Int)+1:=by show((s.n+1:Nat):Int)=_;omega
 refine⟨fun x=>?_,fun x y D j=>?_,fun x=>?_,fun x=>?_,fun x=>?_,?_,fun x j b hb=>?_,fun g hg=>?_,fun y B=>?_,fun g hg y B J=>?_,fun y B a0 z hz=>?_,fun x j=>?_,fun x y j B h1 h2=>?_⟩
 .have:=h.n4 x;by_cases e:x=a
  .subst e;rw[la,hn];omega
  .rw[A x e,hn];omega
 .have h1:=h.n4 x;have h2:=h.n4 y;by_cases e:x=a
  .by_cases u:y=a
   .rw[e,u]
   .rw[e,la,A y u]at D;omega
  .by_cases u:y=a
   .rw[u,la,A x e]at D;omega
   .rw[A x e,A y u]at D;rw[A x e]at j;exact h.inj x y D j
 .by_cases e:x=a
  .subst e;rw[I,la];constructor<;>intro g<;>omega
  .rw[G x e,A x e];exact h.KR x
 .by_cases e:x=a
  .subst e;exact .inr (.inl I)
  .rw[G x e];exact h.GJ x
 .show _↔x∈s.stack++ [a];rw[Xr,Xd];by_cases e:x=a
  .subst e;simp[I]
  .rw[G x e,h.xO x];simp[e]
 .show(s.stack++ [a]).Pairwise _;rw[YU];refine⟨h.zg.imp_of_mem ?_,Zo _ _,fun x j y B=>?_⟩
  .intro x y j B D;rw[A x (fun e=>Y (e▸j)),A y (fun e=>Y (e▸B))];exact D
  .rw[Xd]at B;subst B;rw[la,A x (fun e=>Y (e▸j))];have:=h.n4 x;omega
 .have e: ¬x=a:=fun e=>by subst e;rw[I]at j;omega
  rw[G x e]at j;have b0:=h.NZ x j b hb;have u: ¬b=a:=fun e=>by subst e;omega
  rw[G b u];exact b0
 .rcases Xr.1 hg with g1|g1
  .have:=h.Sg g g1;rw[G g (fun e=>by subst e;omega)];exact this
  .rw[Xd]at g1;subst g1;exact I
 .by_cases e:y=a
  .subst e;exact⟨y,YB _ Xk,Zp _,.refl _⟩
  .rw[G y e]at B;obtain⟨g,g1,g2,g3⟩:=h.up y B;have u: ¬g=a:=fun e=>by have:=h.Sg g g1;subst e;omega
   exact⟨g,XV _ g1,by rw[A g u,A y e];exact g2,g3⟩
 .rcases Xr.1 hg with g1|g1
  .have u: ¬g=a:=fun e=>by have:=h.Sg g g1;subst e;omega
   by_cases e:y=a
   .subst e;exact hp g g1
   .rw[A g u,A y e]at J;rw[G y e]at B;exact h.dn g g1 y B J
  .rw[Xd]at g1;subst g1;by_cases e:y=g
   .subst e;exact .refl _
   .rw[la,A y e]at J;have:=h.n4 y;omega
 .have e: ¬y=a:=fun e=>a0 (YB _ (by rw[e];exact Xk))
  rw[A y e]at B;have:=h.aA y B (fun g=>a0 (XV _ g)) z hz;by_cases u:z=a
  .rw[u,la];omega
  .rw[A z u];exact this
 .have e: ¬x=a:=fun e=>by subst e;rw[I]at j;omega
  rw[G x e]at j;obtain⟨r,r1,r2,r3⟩:=h.UT x j;have u: ¬r=a:=fun e=>by subst e;omega
  exact⟨r,by rw[G r u];exact r1,by rw[A r u];exact r2,r3⟩
 .have e: ¬x=a:=fun e=>by subst e;rw[I]at j;omega
  have u: ¬y=a:=fun e=>by subst e;rw[I]at B;omega
  rw[G x e]at j;rw[G y u]at B;exact h.cmp x y j B h1 h2
theorem Nc{succ:α->List α}{path:List α}{s:St α}{a:α}(h:Inv succ path s)(ha:s.low a=0):Le s (push s a):=by
 have u:s.on a=0:=(h.KR a).2 ha;refine⟨fun x j=>lP fun e=>j (e▸ha),fun x j=>?_,by show s.n<=s.n+1;omega⟩;have: ¬x=a:=fun e=>by subst e;omega
 show y7 s.on a 1 x=2;rw[lP this];exact j
def zB(s:St α)(u c:List α)(j:Int):St α:=⟨s.low,fun x=>if x∈c then 2 else s.on x,fun x=>if x∈c then j else s.ring x,s.n,u⟩
theorem BF{a:α}{j:Int}{s:St α}(h: ¬s.on a=1): ∀k,gh a j k s=s
 |0=>rfl
 |k+1=>be h
theorem x9(a:α)(j:Int)(u:List α): ∀(k:Nat) (t:List α) (s:St α),t.length<k->s.stack=u++a::t->a∉t->s.on a=1->(gh a j k s).low=s.low∧(gh a j k s).n=s.n∧(gh a j k s).stack=u∧(∀x,(gh a j k s).on x=if x∈a::t then 2 else s.on x)∧ ∀x,(gh a j k s).ring x=if x∈a::t then j else s.ring x
 |0,t,s,h,_,_,_=>absurd h (YY _)
 |k+1,t,s,hk,hs,hn,ho=>by
  rw[gh,am ho];rcases t.eq_nil_or_concat with e|⟨t0,b,e⟩
  .subst e;have hl:s.stack.getLast? =io a:=by rw[hs];simp
   have hd:s.stack.dropLast=u:=by rw[hs];simp
   have I:zH j s=⟨s.low,y7 s.on a 2,y7 s.ring a j,s.n,u⟩:=by unfold zH;rw[hl,hd]
   rw[I,BF (by show¬y7 s.on a 2 a=1;rw[kH];decide)];exact⟨rfl,rfl,rfl,fun x=>by simp[y7],fun x=>by simp[y7]⟩
  .rw[List.concat_eq_append]at e;subst e;have B:s.stack=(u++a::t0)++ [b]:=by rw[hs];simp
   have hl:s.stack.getLast? =io b:=by rw[B];exact List.getLast?_concat
   have hd:s.stack.dropLast=u++a::t0:=by rw[B];exact List.dropLast_concat
   have I:zH j s=⟨s.low,y7 s.on b 2,y7 s.ring b j,s.n,u++a::t0⟩:=by unfold zH;rw[hl,hd]
   have G: ¬a=b:=fun e=>hn (by rw[e];simp);have D:=x9 a j u k t0 ⟨s.low,y7 s.on b 2,y7 s.ring b j,s.n,u++a::t0⟩ (by simp at hk;omega) Z (fun g=>hn (XV _ g)) (by show y7 s.on b 2 a=1;rw[lP G];exact ho);rw[I];refine⟨D.1,D.2.1,D.2.2.1,fun x=>?_,fun x=>?_⟩
   .rw[D.2.2.2.1 x];by_cases y:x∈a::t0
    .rw[am y,am (by rw[<-Xp];exact XV _ y)]
    .rw[be y];by_cases A:x=b
     .subst A;rw[am (by simp)];exact kH _ _ _
     .rw[be (by rw[<-Xp,Xr,Xd];exact fun g=>g.elim y A)];exact lP A
   .rw[D.2.2.2.2 x];by_cases y:x∈a::t0
    .rw[am y,am (by rw[<-Xp];exact XV _ y)]
    .rw[be y];by_cases A:x=b
     .subst A;rw[am (by simp)];exact kH _ _ _
     .rw[be (by rw[<-Xp,Xr,Xd];exact fun g=>g.elim y A)];exact lP A
theorem St.eq{β:Type}{s t:St β}(h1:s.low=t.low)(j:s.on=t.on)(u:s.ring=t.ring)(x:s.n=t.n)(y:s.stack=t.stack):s=t:=by
 cases s;cases t;simp_all
theorem s4{a:α}{j:Int}{u t:List α}{k:Nat}{s:St α}(hk:t.length<k)(hs:s.stack=u++a::t)(hn:a∉t)(ho:s.on a=1):gh a j k s=zB s u (a::t) j:=by
 obtain⟨h1,x,y,A,B⟩:=x9 a j u k t s hk hs hn ho;exact St.eq h1 (funext A) (funext B) x y
theorem yL{β:Type}{succ:β->List β}{path:List β}{s:St β}(h:Inv succ path s){a b:β}(ha:s.on a=2)(hr:om succ a b):s.on b=2:=by
 induction hr with
 |refl=>exact ha
 |step _ he ih=>exact h.NZ _ ih _ he
theorem Nd{succ:α->List α}{path:List α}{s:St α}{a:α}{u t:List α}(h:Inv succ (path++ [a]) s)(hs:s.stack=u++a::t)(a0: ∀g∈path,s.low g<s.low a)(k0: ∀z∈succ a,s.low z≠0)
  (f0: ∀y∈a::t,∀z∈succ y,s.on z=1->s.low a<=s.low z):Inv succ path (zB s u (a::t) (s.low a)):=by
 have J:=h.zg;rw[hs,YU]at J;obtain⟨hu,hc,d0⟩:=J;have g0:=(Yd.1 hc).1;have j0:s.on a=1:=(h.xO a).2 (by rw[hs];simp);have hC: ∀x,x∈a::t↔(s.on x=1∧s.low a<=s.low x):=by
  intro x;constructor
  .intro j;refine⟨(h.xO x).2 (by rw[hs];exact YB _ j),?_⟩;rcases Xm.1 j with e|e
   .rw[e];exact Zp _
   .have:=g0 x e;omega
  .rintro⟨h1,G⟩;have:=(h.xO x).1 h1;rw[hs]at this;rcases Xr.1 this with g|g
   .have:=d0 x g a Xk;omega
   .exact g
 have b0:a∈a::t:=Xk;have A: ∀x,x∈a::t->(zB s u (a::t) (s.low a)).on x=2:=fun x j=>am j;have no: ∀x,x∉a::t->(zB s u (a::t) (s.low a)).on x=s.on x:=fun x j=>be j
 have Y: ∀x,x∈a::t->om succ x a:=by
  intro x j;obtain⟨h1,G⟩:=(hC x).1 j;obtain⟨g,g1,g2,g3⟩:=h.up x h1;refine g3.trans (h.dn g g1 a j0 ?_);rcases Xr.1 g1 with e|e
  .have:=a0 g e;omega
  .rw[Xd]at e;rw[e];exact Zp _
 have I: ∀x,x∈a::t->om succ a x:=by
  intro x j;obtain⟨h1,G⟩:=(hC x).1 j;exact h.dn a (by simp) x h1 G
 have c0: ∀y,s.low y≠0->y∉path-> ∀z∈succ y,s.low z≠0:=by
  intro y B m0 z hz;by_cases e:y=a
  .rw[e]at hz;exact k0 z hz
  .exact h.aA y B (by rw[Xr,Xd];exact fun g=>g.elim m0 e) z hz
 refine⟨h.n4,h.inj,fun x=>?_,fun x=>?_,fun x=>?_,hu,fun x j b hb=>?_,fun g hg=>?_,fun y B=>?_,fun g hg y B i0=>?_,c0,fun x j=>?_,fun x y j B h1 G=>?_⟩
 .by_cases e:x∈a::t
  .rw[A x e];have:=vM h ((hC x).1 e).1;exact⟨fun g=>by omega,fun g=>absurd g this⟩
  .rw[no x e];exact h.KR x
 .by_cases e:x∈a::t
  .exact .inr (.inr (A x e))
  .rw[no x e];exact h.GJ x
 .show _↔x∈u;by_cases e:x∈a::t
  .rw[A x e];refine⟨fun g=>by omega,fun g=>?_⟩;have h1:=d0 x g a b0;have G:=((hC x).1 e).2;omega
  .rw[no x e,h.xO x,hs,Xr];exact⟨fun g=>g.elim id fun q=>absurd q e,.inl⟩
 .by_cases e:x∈a::t
  .obtain⟨h1,G⟩:=(hC x).1 e;have e0:s.low b≠0:=c0 x (vM h h1) (fun g=>by have:=a0 x g;omega) b hb;rcases h.GJ b with g|g|g
   .exact absurd ((h.KR b).1 g) e0
   .exact A b ((hC b).2 ⟨g,f0 x e b hb g⟩)
   .by_cases D:b∈a::t
    .exact A b D
    .rw[no b D];exact g
  .rw[no x e]at j;have g:=h.NZ x j b hb;by_cases D:b∈a::t
   .exact A b D
   .rw[no b D];exact g
 .have h1:=h.Sg g (XV _ hg);have G:=a0 g hg;rw[no g (fun e=>by have:=((hC g).1 e).2;omega)];exact h1
 .by_cases e:y∈a::t
  .rw[A y e]at B;omega
  .rw[no y e]at B;obtain⟨g,g1,g2,g3⟩:=h.up y B;rcases Xr.1 g1 with q|q
   .exact⟨g,q,g2,g3⟩
   .rw[Xd]at q;rw[q]at g2;exact absurd ((hC y).2 ⟨B,g2⟩) e
 .by_cases e:y∈a::t
  .rw[A y e]at B;omega
  .rw[no y e]at B;exact h.dn g (XV _ hg) y B i0
 .by_cases e:x∈a::t
  .exact⟨a,A a b0,(am e).symm,Y x e,I x e⟩
  .rw[no x e]at j;obtain⟨r,r1,r2,r3⟩:=h.UT x j;have D:r∉a::t:=fun g=>by have:=((hC r).1 g).1;omega
   refine⟨r,by rw[no r D];exact r1,?_,r3⟩;show s.low r=if x∈a::t then s.low a else s.ring x;rw[be e];exact r2
 .show(if x∈a::t then s.low a else s.ring x)=if y∈a::t then s.low a else s.ring y;by_cases e:x∈a::t
  .by_cases D:y∈a::t
   .rw[am e,am D]
   .rw[no y D]at B;have:=yL h B G;have:=((hC x).1 e).1;omega
  .rw[no x e]at j;by_cases D:y∈a::t
   .have:=yL h j h1;have:=((hC y).1 D).1;omega
   .rw[no y D]at B;rw[be e,be D];exact h.cmp x y j B h1 G
theorem G0{succ:α->List α}{path:List α}{s:St α}{a z:α}(h:Inv succ (path++ [a]) s)(u: ∀z∈succ a,s.low z≠0)(G:s.on z=1)(D:s.low z<s.low a)(hr:om succ a z):Inv succ path s:=by
 refine⟨h.n4,h.inj,h.KR,h.GJ,h.xO,h.zg,h.NZ,fun g j=>h.Sg g (XV _ j),fun y A=>?_,fun g j=>h.dn g (XV _ j),fun y A B w x=>?_,h.UT,h.cmp⟩
 .obtain⟨g,g1,g2,g3⟩:=h.up y A;rcases Xr.1 g1 with q|q
  .exact⟨g,q,g2,g3⟩
  .rw[Xd]at q;subst q;obtain⟨k,I,Y,J⟩:=h.up z G;rcases Xr.1 I with q|q
   .exact⟨k,q,by omega,(g3.trans hr).trans J⟩
   .rw[Xd]at q;subst q;omega
 .by_cases e:y=a
  .rw[e]at x;exact u w x
  .exact h.aA y A (by rw[Xr,Xd];exact fun g=>g.elim B e) w x
def kE(V:List α)(s:St α):Nat:=(V.filter fun x=>lc (s.low x=0)).length
theorem filter_le{β:Type}{p q:β->Bool}: ∀(l:List β),(∀x∈l,p x=jp->q x=jp)->(l.filter p).length<=(l.filter q).length
 | [],_=>W8 _
 |x::r,h=>by
  have A:=filter_le r fun y u=>h y (Xi _ u);have j:=h x Xk;rw[YT,YT];split
  .rename_i g;rw[am (j g)];simp only[Xy];omega
  .split
   .simp only[Xy];omega
   .exact A
theorem filter_lt{β:Type}{p q:β->Bool}{a:β}: ∀(l:List β),(∀x∈l,p x=jp->q x=jp)->a∈l->p a=kw->q a=jp->(l.filter p).length<(l.filter q).length
 | [],_,h,_,_=>nomatch h
 |x::r,h,ha,h1,h2=>by
  have u:=filter_le r fun y j=>h y (Xi _ j);have A:=h x Xk;rw[YT,YT];rcases Xm.1 ha with e|e
  .subst e;rw[h1,h2];simp only[YQ,if_false,if_true,Xy];omega
  .have B:=filter_lt r (fun y j=>h y (Xi _ j)) e h1 h2;split
   .rename_i g;rw[am (A g)];simp only[Xy];omega
   .split
    .simp only[Xy];omega
    .exact B
theorem xG{β:Type}{V:List β}{s s':St β}(h:Le s s'):kE V s'<=kE V s:=
 filter_le V fun x _ j=>by
  refine decide_eq_true (Yx fun g=>?_);have:=of_decide_eq_true j;rw[h.low x g]at this;exact g this
theorem lr{V:List α}{s:St α}{a:α}(hn: ∀x,0<=s.low x∧s.low x<=s.n)(ha:a∈V)(h0:s.low a=0):kE V (push s a)<kE V s:=by
 have la:(push s a).low a=(s.n:Int)+1:=kH _ _ _;refine filter_lt V (fun x _ j=>?_) ha (decide_eq_false (by rw[la];omega)) (decide_eq_true h0);have:=of_decide_eq_true j;by_cases e:x=a
 .rw[e];exact decide_eq_true h0
 .refine decide_eq_true ?_;rwa[show(push s a).low x=s.low x from lP e]at this
structure fQ (succ:α->List α) (path:List α) (a:α) (s0:St α) (done:List α) (q:Int×St α) (t:List α):Prop where
 inv:Inv succ (path++ [a]) q.2
 le:Le (push s0 a) q.2
 stack:q.2.stack=s0.stack++a::t
 new: ∀y∈t,s0.low y=0
 Su:q.1<=(s0.n:Int)+1
 l1: ∀y∈t,∀z∈succ y,q.2.on z=1->q.1<=q.2.low z
 U6: ∀z∈done,q.2.on z=1->q.1<=q.2.low z
 proc: ∀z∈done,q.2.low z≠0
 l2: ∃z,q.2.on z=1∧q.2.low z=q.1∧om succ a z
section
variable {succ:α->List α} {path:List α} {a:α} {s0:St α} {done:List α} {q:Int×St α} {t:List α}
theorem fQ.la(h:fQ succ path a s0 done q t):q.2.low a=(s0.n:Int)+1:=by
 have e:(push s0 a).low a=(s0.n:Int)+1:=kH _ _ _;rw[h.le.low a (by rw[e];omega),e]
theorem fQ.pa(h:fQ succ path a s0 done q t)(h0:Inv succ path s0)(ha:s0.low a=0): ∀g∈path,q.2.low g<q.2.low a:=by
 intro g u;have h1:=h0.Sg g u;have j:=vM h0 h1;have e:(push s0 a).low g=s0.low g:=lP fun e=>j (by rw[e];exact ha);rw[h.la,h.le.low g (by rw[e];exact j),e];have:=h0.n4 g;omega
theorem fQ.at_(h:fQ succ path a s0 done q t):a∉t:=fun g=>by
 have:=h.inv.zg;rw[h.stack,YU]at this;have:=(Yd.1 this.2.1).1 a g;omega
theorem fQ.step{V:List α}{u:α->St α->Int×St α}{f:Nat}(hV: ∀a∈V,∀b∈succ a,b∈V)
  (ih: ∀(path:List α) (b:α) (s:St α),Inv succ path s->s.low b=0->b∈V->(∀g∈path,om succ g b)->kE V s<=f-> ∃t,S8 succ path b s (u b s).1 (u b s).2 t)
  (h:fQ succ path a s0 done q t) (h0:Inv succ path s0) (ha:s0.low a=0) (a0:a∈V) {b:α} (hb:b∈succ a) (hw:kE V q.2<=f): ∃t',fQ succ path a s0 (done++ [b]) (tF u q b) t':=by
 have i0:=h.la;have e0:=h.pa h0 ha;have b0:=h.at_;have d0:q.2.on a=1:=(h.inv.xO a).2 (by rw[h.stack];simp);unfold tF;by_cases I:q.2.low b=0
 .rw[am I];have Y: ∀g∈path++ [a],om succ g b:=by
   intro g hg;refine .step (h.inv.dn g hg a d0 ?_) hb;rcases Xr.1 hg with e|e
   .have:=e0 g e;omega
   .rw[Xd]at e;rw[e];exact Zp _
  obtain⟨tb,x⟩:=ih (path++ [a]) b q.2 h.inv I (hV a a0 b hb) Y hw;generalize u b q.2=w at x ⊢;obtain⟨J,s'⟩:=w;have D: ∀z,q.2.on z=1->s'.on z=1:=fun z j=>(x.inv.xO z).2 (by rw[x.stack];exact XV _ ((h.inv.xO z).1 j));have k0:=h.le.n;have j0:(push s0 a).n=s0.n+1:=rfl;refine⟨t++tb,x.inv,h.le.trans x.le,?_,fun y hy=>?_,?_,fun y hy z j G=>?_,fun z j G=>?_,fun z j=>?_,?_⟩
  .show s'.stack=_;rw[x.stack,h.stack];simp
  .rcases Xr.1 hy with g|g
   .exact h.new y g
   .refine Yx fun hc=>?_
    have e:(push s0 a).low y=s0.low y:=lP fun e=>hc (by rw[e];exact ha);have:=h.le.low y (by rw[e];exact hc);rw[x.new y g,e]at this;exact hc this.symm
  .have:=h.Su;show min q.1 J<=_;omega
  .show min q.1 J<=s'.low z;rcases Xr.1 hy with g|g
   .have g0:q.2.on y=1:=(h.inv.xO y).2 (by rw[h.stack];simp[g]);have f0:y∉path++ [a]:=by
     rw[Xr,Xd];rintro(e|e)
     .have h1:=vM h0 (h0.Sg y e);exact h1 (h.new y g)
     .rw[e]at g;exact b0 g
    have A:=h.inv.aA y (vM h.inv g0) f0 z j;have B:=IT h.inv x.le A G;have:=h.l1 y g z j B;rw[x.le.low z A];omega
   .have:J<=s'.low z:=x.l1 y g z j G;omega
  .show min q.1 J<=s'.low z;rcases Xr.1 j with g|g
   .have A:=h.proc z g;have:=h.U6 z g (IT h.inv x.le A G);rw[x.le.low z A];omega
   .rw[Xd]at g;subst g;have:J<=s'.low z:=x.Su;omega
  .show s'.low z≠0;rcases Xr.1 j with g|g
   .have A:=h.proc z g;rw[x.le.low z A];exact A
   .rw[Xd]at g;subst g;have:(q.2.n:Int)<s'.low z:=x.at_;omega
  .obtain⟨z,z1,z2,z3⟩:=h.l2;by_cases c0:q.1<=J
   .exact⟨z,D z z1,by show s'.low z=min q.1 J;rw[x.le.low z (vM h.inv z1)];omega,z3⟩
   .rcases x.l2 with⟨_,g⟩|⟨w,w1,w2,w3⟩
    .have h1:J=s'.low b:=g;have h2:(q.2.n:Int)<s'.low b:=x.at_;have h3:=h.Su;omega
    .have w2:s'.low w=J:=w2;exact⟨w,D w ((h.inv.xO w).2 w1),by show s'.low w=min q.1 J;omega,(om.one hb).trans w3⟩
 .rw[be I];by_cases B:q.2.on b=1
  .rw[am B];refine⟨t,h.inv,h.le,h.stack,h.new,?_,fun y hy z j G=>?_,fun z j G=>?_,fun z j=>?_,?_⟩
   .have:=h.Su;show min q.1 (q.2.low b)<=_;omega
   .have:=h.l1 y hy z j G;show min q.1 (q.2.low b)<=q.2.low z;omega
   .show min q.1 (q.2.low b)<=q.2.low z;rcases Xr.1 j with g|g
    .have:=h.U6 z g G;omega
    .rw[Xd]at g;subst g;omega
   .rcases Xr.1 j with g|g
    .exact h.proc z g
    .rw[Xd]at g;subst g;exact I
   .obtain⟨z,z1,z2,z3⟩:=h.l2;by_cases c0:q.1<=q.2.low b
    .exact⟨z,z1,by show q.2.low z=min q.1 (q.2.low b);omega,z3⟩
    .exact⟨b,B,by show q.2.low b=min q.1 (q.2.low b);omega,.one hb⟩
  .rw[be B];refine⟨t,h.inv,h.le,h.stack,h.new,h.Su,h.l1,fun z j G=>?_,fun z j=>?_,h.l2⟩
   .rcases Xr.1 j with g|g
    .exact h.U6 z g G
    .rw[Xd]at g;subst g;exact absurd G B
   .rcases Xr.1 j with g|g
    .exact h.proc z g
    .rw[Xd]at g;subst g;exact I
end
theorem td{succ:α->List α}{path:List α}{a:α}{s0:St α}{V:List α}{j:α->St α->Int×St α}{f:Nat}(B: ∀a∈V,∀b∈succ a,b∈V)
  (D: ∀(path:List α) (b:α) (s:St α),Inv succ path s->s.low b=0->b∈V->(∀g∈path,om succ g b)->kE V s<=f-> ∃t,S8 succ path b s (j b s).1 (j b s).2 t)
  (h0:Inv succ path s0) (ha:s0.low a=0) (u:a∈V) (y:kE V (push s0 a)<=f):
  ∀(l done:List α) (q:Int×St α) (t:List α),fQ succ path a s0 done q t->(∀b∈l,b∈succ a)-> ∃I,fQ succ path a s0 (done++l) (l.foldl (tF j) q) I
 | [],done,q,t,h,_=>⟨t,by rw[XM];exact h⟩
 |b::l,done,q,t,h,hl=>by
  obtain⟨t1,h1⟩:=h.step B D h0 ha u (hl b Xk) (X6 (xG h.le) y);obtain⟨t2,A⟩:=td B D h0 ha u y l (done++ [b]) _ t1 h1 fun x G=>hl x (Xi _ G);exact⟨t2,by rw[Xf]at A;exact A⟩
theorem qu{succ:α->List α}{V:List α}(hV: ∀a∈V,∀b∈succ a,b∈V): ∀(f:Nat) (path:List α) (a:α) (s:St α),Inv succ path s->s.low a=0->a∈V->(∀g∈path,om succ g a)->kE V s<=f-> ∃t,S8 succ path a s (eN succ f a s).1 (eN succ f a s).2 t
 |0,path,a,s,h,ha,haV,_,hw=>by
  have:=lr h.n4 haV ha;omega
 |f+1,path,a,s,h,ha,haV,hp,hw=>by
  have e0:=lr h.n4 haV ha;have hi:=BE h ha hp;have la:(push s a).low a=(s.n:Int)+1:=kH _ _ _;have oa:(push s a).on a=1:=kH _ _ _;have Y:fQ succ path a s [] ((s.n:Int)+1,push s a) []:=
   ⟨hi,.refl _,rfl,fun y u=>(nomatch u),Zp _,fun y u=>(nomatch u),fun z D=>(nomatch D),fun z D=>(nomatch D),⟨a,oa,la,.refl _⟩⟩
  obtain⟨t,j⟩:=td hV (fun p b s'=>qu hV f p b s') h ha haV (by omega) (succ a) [] _ [] Y fun b hb=>hb;rw[Xq]at j;rw[eN];generalize(succ a).foldl (tF (eN succ f)) ((s.n:Int)+1,push s a)=q at j ⊢;have G:=j.la;have c0:=j.pa h ha;have a0:=j.at_;have b0:q.2.on a=1:=(j.inv.xO a).2 (by rw[j.stack];simp);have A:Le s q.2:=(Nc h ha).trans j.le;unfold uD;by_cases hm:q.1=(s.n:Int)+1
  .rw[am hm,s4 (by rw[j.stack];simp;omega) j.stack a0 b0,<-G];refine⟨[],Nd j.inv j.stack c0 j.proc fun y u z D I=>?_,⟨A.low,fun x hx=>?_,A.n⟩,by rw[XM];rfl,fun y u=>(nomatch u),?_,?_,fun y u=>(nomatch u),.inl ⟨am Xk,?_⟩⟩
   .rw[G,<-hm];rcases Xm.1 u with e|e
    .rw[e]at D;exact j.U6 z D I
    .exact j.l1 y e z D I
   .show(if x∈a::t then(2:Int) else q.2.on x)=2;split
    .rfl
    .exact A.NZ x hx
   .show(s.n:Int)<q.2.low a;omega
   .show q.1<=q.2.low a;omega
   .show q.1=q.2.low a;omega
  .rw[be hm];have d0:q.1<q.2.low a:=by have:=j.Su;omega
   obtain⟨z,z1,z2,z3⟩:=j.l2;have J:=j.inv.zg;rw[j.stack,YU]at J;refine⟨a::t,G0 j.inv j.proc z1 (by omega) z3,A,j.stack,fun y u=>?_,by omega,by omega,fun y u w B I=>?_,.inr ⟨z,?_,z2,z3⟩⟩
   .rcases Xm.1 u with e|e
    .rw[e];exact ha
    .exact j.new y e
   .rcases Xm.1 u with e|e
    .rw[e]at B;exact j.U6 w B I
    .exact j.l1 y e w B I
   .have:=(j.inv.xO z).1 z1;rw[j.stack]at this;rcases Xr.1 this with g|g
    .exact g
    .rcases Xm.1 g with e|e
     .rw[e]at z2;omega
     .have:=(Yd.1 J.2.1).1 z e;omega
theorem Qg{β:Type}(succ:β->List β):Inv succ [] (St.o:St β):=
 ⟨fun _=>⟨Zp _,Zp _⟩,fun _ _ _ h=>absurd Z h,fun _=>Iff.rfl,fun _=> .inl Z,fun _=>⟨fun h=>(nomatch h),fun h=>(nomatch h)⟩,.nil,fun _ h=>(nomatch h),fun _ h=>(nomatch h),fun _ h=>(nomatch h),fun _ h=>(nomatch h),fun _ h=>absurd Z h,fun _ h=>(nomatch h),fun _ _ h=>(nomatch h)⟩
theorem sV{succ:α->List α}{V:List α}(A: ∀a∈V,∀b∈succ a,b∈V){f:Nat}(hf:V.length<=f): ∀(l:List α) (s:St α),(∀a∈l,a∈V)->Inv succ [] s->Inv succ [] (im succ f l s)∧(∀x,s.low x≠0->(im succ f l s).low x≠0)∧ ∀a∈l,(im succ f l s).low a≠0
 | [],s,_,h=>⟨h,fun _ j=>j,fun _ u=>(nomatch u)⟩
 |b::l,s,hl,h=>by
  have key: ∃s',(if s.low b=0 then(eN succ f b s).2 else s)=s'∧Inv succ [] s'∧(∀x,s.low x≠0->s'.low x≠0)∧s'.low b≠0:=by
   by_cases e:s.low b=0
   .obtain⟨t,y⟩:=qu A f [] b s h e (hl b Xk) (fun g D=>nomatch D) (X6 (Ys _ _) hf);refine⟨_,am e,y.inv,fun x j=>by rw[y.le.low x j];exact j,?_⟩;have:=y.at_;omega
   .exact⟨s,be e,h,fun _ j=>j,e⟩
  obtain⟨s',e,G,I,J⟩:=key;obtain⟨i1,i2,i3⟩:=sV A hf l s' (fun a u=>hl a (Xi _ u)) G;have B:im succ f (b::l) s=im succ f l s':=by
   show im succ f l (if s.low b=0 then(eN succ f b s).2 else s)=_;rw[e]
  rw[B];refine⟨i1,fun x j=>i2 x (I x j),fun a u=>?_⟩;rcases Xm.1 u with q|q
  .rw[q];exact i2 b J
  .exact i3 a q
theorem Gs{succ:α->List α}{V:List α}(A: ∀a∈V,∀b∈succ a,b∈V){f:Nat}(hf:V.length<=f){a b:α}(ha:a∈V)(hb:b∈V):
  (im succ f V St.o).ring a=(im succ f V St.o).ring b↔om succ a b∧om succ b a:=by
 obtain⟨h,_,y⟩:=sV A hf V St.o (fun _ h=>h) (Qg succ);generalize im succ f V St.o=s at h y ⊢;have j: ∀x∈V,s.on x=2:=by
  intro x B;rcases h.GJ x with g|g|g
  .exact absurd ((h.KR x).1 g) (y x B)
  .obtain⟨k,D,_⟩:=h.up x g;exact nomatch D
  .exact g
 constructor
 .intro e;obtain⟨r,r1,r2,J,Y⟩:=h.UT a (j a ha);obtain⟨q,q1,q2,G,I⟩:=h.UT b (j b hb);have u:s.low r≠0:=fun g=>by have:=(h.KR r).2 g;omega
  have:r=q:=h.inj r q (by omega) u;subst this;exact⟨J.trans I,G.trans Y⟩
 .rintro⟨h1,h2⟩;exact h.cmp a b (j a ha) (j b hb) h1 h2
end
end
end
end Go.Tj
namespace Go.Wa
section
inductive xd (R:Nat->Nat->Prop):Nat->Nat->Prop
 |refl (a:Nat):xd R a a
 |step {a b c:Nat} (h:R a b) (t:xd R b c):xd R a c
theorem xd.trans{R:Nat->Nat->Prop}{a b c:Nat}(h:xd R a b)(k:xd R b c):xd R a c:=by
 induction h with
 |refl=>exact k
 |step h _ ih=>exact .step h (ih k)
def W(E:Nat->Nat->Bool):Nat->Nat->Nat->Bool
 |0,a,b=>E a b||a==b
 |m+1,a,b=>W E m a b||(W E m a m&&W E m m b)
variable {E:Nat->Nat->Bool}
theorem W.mono(m a b:Nat)(h:W E m a b=jp):W E (m+1) a b=jp:=by simp[W,h]
theorem W.Qh{m k a b:Nat}(hk:m<=k)(h:W E m a b=jp):W E k a b=jp:=by
 induction hk with
 |refl=>exact h
 |step _ ih=>exact W.mono _ _ _ ih
theorem W.self(m a:Nat):W E m a a=jp:=W.Qh (Xc m) (by simp[W])
theorem W.trans: ∀(m a k b:Nat),k<m->W E m a k=jp->W E m k b=jp->W E m a b=jp
 |m+1,a,k,b,hk,h1,j=>by
  simp only[W,Zc,XR]at h1 j ⊢;by_cases A:k=m
  .subst A;have B:W E k a k=jp:=by rcases h1 with h|h;exact h;exact h.1
   have D:W E k k b=jp:=by rcases j with h|h;exact h;exact h.2
   exact .inr ⟨B,D⟩
  .have u:k<m:=by omega
   rcases h1 with h1|⟨h1,y⟩<;>rcases j with j|⟨j,x⟩
   .exact .inl (W.trans m a k b u h1 j)
   .exact .inr ⟨W.trans m a k m u h1 j,x⟩
   .exact .inr ⟨h1,W.trans m m k b u y j⟩
   .exact .inr ⟨h1,x⟩
theorem W.sound: ∀(m a b:Nat),W E m a b=jp->xd (fun a b=>E a b=jp) a b
 |0,a,b,h=>by
  simp only[W,Zc,beq_iff_eq]at h;rcases h with h|h
  .exact .step h (.refl _)
  .subst h;exact .refl _
 |m+1,a,b,h=>by
  simp only[W,Zc,XR]at h;rcases h with h|⟨h1,j⟩
  .exact W.sound m a b h
  .exact(W.sound m a m h1).trans (W.sound m m b j)
theorem W.iff{n:Nat}(hE: ∀a b,a<n->E a b=jp->b<n){a b:Nat}(ha:a<n):W E n a b=jp↔xd (fun a b=>E a b=jp) a b:=by
 refine⟨W.sound n a b,fun h=>?_⟩
 induction h with
 |refl a=>exact W.self n a
 |step h _ ih=>
  have hb:=hE _ _ ha h;exact W.trans n _ _ _ hb (W.Qh (Xc n) (by simp[W,h])) (ih hb)
def V(E:Nat->Nat->Bool)(m a b x y:Nat):Bool:=if x<a∨x=a∧y<b then W E (m+1) x y else W E m x y
theorem V.row(m a b y:Nat):V E m a b m y=W E m m y:=by
 unfold V;split
 .simp only[W];cases W E m m y<;>simp
 .rfl
end
end Go.Wa
namespace Go.Co
section
section
variable {n:Nat} {xi:Nat->Nat->Bool} {e:Nat->Nat->Bool}
structure Far (n:Nat) (e xi:Nat->Nat->Bool):Prop where
 refl: ∀a,a<n->xi a a=jp
 trans: ∀a b c,xi a b=jp->xi b c=jp->xi a c=jp
 edge: ∀a b,a<n->e a b=jp->xi a b=jp
 lt: ∀a b,a<n->xi a b=jp->b<n
 elt: ∀a b,a<n->e a b=jp->b<n
 split: ∀a b (p:Nat->Prop),a<n->xi a b=jp->p a-> ¬p b-> ∃x y,x<n∧xi a x=jp∧p x∧e x y=jp∧ ¬p y∧xi y b=jp
def cls(xi:Nat->Nat->Bool)(a b:Nat):Bool:=xi a b&&xi b a
end
end
end Go.Co
namespace Go.Rg
open Go.Wa Go.Co Go.Tj
section
section
variable {α:Type} [Inhabited α]
def ed(V:List α)(g:α->α->Bool)(i j:Nat):Bool:=lc (i<V.length)&&lc (j<V.length)&&g (V.getD i co) (V.getD j co)
def xi(V:List α)(g:α->α->Bool):Nat->Nat->Bool:=W (ed V g) V.length
theorem D8{V:List α}{g:α->α->Bool}{i j:Nat}:ed V g i j=jp↔i<V.length∧j<V.length∧g (V.getD i co) (V.getD j co)=jp:=by
 simp[ed,and_assoc]
theorem z6{V:List α}{a:α}(h:a∈V): ∃i,i<V.length∧V.getD i co=a:=by
 obtain⟨i,hi,rfl⟩:=Y2.1 h;exact⟨i,hi,by simp[W2,hi]⟩
theorem get_mem{V:List α}{i:Nat}(h:i<V.length):V.getD i co∈V:=by
 rw[W2,W5 h];exact XS h
theorem Er{V:List α}(hn:V.Nodup){g:α->α->Bool}{succ:α->List α}(hs: ∀a∈V,∀b,b∈succ a↔b∈V∧g a b=jp){i j:Nat}(hi:i<V.length)(hj:j<V.length):
  xi V g i j=jp↔om succ (V.getD i co) (V.getD j co):=by
 have B: ∀{x y:Nat},x<V.length->y<V.length->V.getD x co=V.getD y co->x=y:=by
  intro x y D u h;rw[W2,W2,W5 D,W5 u]at h;exact(List.getElem_inj hn).1 h
 rw[xi,W.iff (n:=V.length) (fun a b _ h=>(D8.1 h).2.1) hi];constructor
 .intro h;clear hj;have: ∀{a b:Nat},xd (fun a b=>ed V g a b=jp) a b->om succ (V.getD a co) (V.getD b co):=by
   intro a b h
   induction h with
   |refl a=>exact .refl _
   |step h _ ih=>
    obtain⟨h1,A,G⟩:=D8.1 h;exact(om.step (.refl _) ((hs _ (get_mem h1) _).2 ⟨get_mem A,G⟩)).trans ih
  exact this h
 .intro h;have key: ∀{a b:α},om succ a b-> ∀x,x<V.length->V.getD x co=a-> ∃y,y<V.length∧V.getD y co=b∧xd (fun a b=>ed V g a b=jp) x y:=by
   intro a b h
   induction h with
   |refl=>exact fun x D I=>⟨x,D,I,.refl _⟩
   |step _ hc ih=>
    intro x D I;obtain⟨y,u,h1,A⟩:=ih x D I;subst h1;obtain⟨G,Y⟩:=(hs _ (get_mem u) _).1 hc;obtain⟨z,J,rfl⟩:=z6 G;exact⟨z,J,rfl,A.trans (.step (D8.2 ⟨u,J,Y⟩) (.refl _))⟩
  obtain⟨y,u,h1,A⟩:=key h i hi Z;have:=B u hj h1;subst this;exact A
def xf(V:List α)(g:α->α->Bool)(u:α->Int):Prop:= ∀i j,i<V.length->j<V.length->(u (V.getD i co)=u (V.getD j co)↔xi V g i j=jp∧xi V g j i=jp)
theorem Iz[DecidableEq α]{V:List α}(hn:V.Nodup){g:α->α->Bool}{succ:α->List α}(hs: ∀a∈V,∀b,b∈succ a↔b∈V∧g a b=jp){f:Nat}(hf:V.length<=f):xf V g (im succ f V St.o).ring:=by
 intro i j hi u;rw[Gs (fun a x b hb=>((hs a x b).1 hb).1) hf (get_mem hi) (get_mem u),Er hn hs hi u,Er hn hs u hi]
end
end
end Go.Rg
namespace Go.Proofs.YtlmhfgbkchnfbaaGreatDoor
open Go Go.Al
mutual
def named:Lit->List aq
 | .mk k a _ _ _ _ _ _ b _=>if k=1∨k=2 then[a.rel] else if k=4 then iu b else[]
def iu:List Lit->List aq
 | []=> []
 |l::r=>named l++iu r
end
def I3(l:Lit):List aq:=if l.kind=1∨l.kind=2 then[l.atom.rel] else if l.kind=4 then(l.az.filter fun x=>lc (x.kind=1∨x.kind=2)).map fun x=>x.atom.rel else[]
theorem oH: ∀l:List Lit,iu l=l.flatMap named
 | []=>rfl
 |x::r=>by simp only[iu,X5,oH r]
theorem yj: ∀(b:List Lit),(∀x∈b,x.kind≠4)->iu b=(b.filter fun x=>lc (x.kind=1∨x.kind=2)).map fun x=>x.atom.rel
 | [],_=>rfl
 | .mk k' a' op' le' ri' af' av' ao' b' at'::b,h=>by
  have j:k'≠4:=h (.mk k' a' op' le' ri' af' av' ao' b' at') (Xk ..);rw[iu,yj b fun y u=>h y (Xi _ u),YT];by_cases hk:k'=1∨k'=2
  .have:lc ((Lit.mk k' a' op' le' ri' af' av' ao' b' at').kind=1∨(Lit.mk k' a' op' le' ri' af' av' ao' b' at').kind=2)=jp:=decide_eq_true hk;rw[this,named,am hk];rfl
  .have:lc ((Lit.mk k' a' op' le' ri' af' av' ao' b' at').kind=1∨(Lit.mk k' a' op' le' ri' af' av' ao' b' at').kind=2)=kw:=decide_eq_false hk;rw[this,named,be hk,be j];rfl
theorem I2(l:Lit)(h:l.kind=4-> ∀x∈l.az,x.kind≠4):named l=I3 l:=by
 obtain⟨k,a,op,le,B,u,A,y,b,at_⟩:=l;show(if k=1∨k=2 then[a.rel] else if k=4 then iu b else[])=if k=1∨k=2 then[a.rel] else if k=4 then(b.filter fun x=>lc (x.kind=1∨x.kind=2)).map fun x=>x.atom.rel else[];by_cases j:k=4
 .rw[yj b (h j)]
 .rw[be j,be j]
def nJ(l:Lit):Nat:=if l.kind=1 then 1 else 2
def c5(p:Prog):List (aq×aq×Nat):=p.rules.flatMap fun r=>r.body.flatMap fun l=>(named l).map fun t=>(r.head.rel,t,nJ l)
def gD(hs:List (aq×aq×Nat))(a b:aq):Nat:=hs.foldl (fun m x=>if x.1=a∧x.2.1=b then max m x.2.2 else m) 0
theorem Am(a b:aq): ∀(hs:List (aq×aq×Nat)) (m:Nat),m<=hs.foldl (fun m x=>if x.1=a∧x.2.1=b then max m x.2.2 else m) m∧(∀k,(a,b,k)∈hs->k<=hs.foldl (fun m x=>if x.1=a∧x.2.1=b then max m x.2.2 else m) m)∧
  (hs.foldl (fun m x=>if x.1=a∧x.2.1=b then max m x.2.2 else m) m=m∨(a,b,hs.foldl (fun m x=>if x.1=a∧x.2.1=b then max m x.2.2 else m) m)∈hs)
 | [],m=>⟨W8 _,fun _ h=>(nomatch h),.inl Z⟩
 |(x,y,k)::hs,m=>by
  obtain⟨h1,u,h3⟩:=Am a b hs (if x=a∧y=b then max m k else m);rw[X8];refine⟨X6 ?_ h1,fun A hk=>?_,?_⟩
  .split<;>omega
  .rcases Xm.1 hk with h|h
   .cases h;refine X6 ?_ h1;rw[am ⟨rfl,rfl⟩];exact Nat.le_max_right _ _
   .exact u A h
  .rcases h3 with h3|h3
   .by_cases j:x=a∧y=b
    .rw[am j]at h3;rcases Nat.le_total m k with h4|h4
     .right;rw[aaB h4]at h3;obtain⟨rfl,rfl⟩:=j;simp only[and_self,if_true,aaB h4]at h3 ⊢;rw[h3];simp
     .left;rw[Nat.max_eq_left h4]at h3;simp only[j,and_self,if_true,Nat.max_eq_left h4]at h3 ⊢;exact h3
    .rw[be j]at h3;left;simp only[be j];exact h3
   .exact .inr (Xi _ h3)
theorem Vh{hs:List (aq×aq×Nat)}{a b:aq}{k:Nat}(h:(a,b,k)∈hs):k<=gD hs a b:=(Am a b hs 0).2.1 k h
theorem Vg(hs:List (aq×aq×Nat))(a b:aq):gD hs a b=0∨(a,b,gD hs a b)∈hs:=(Am a b hs 0).2.2
def ns(p:Prog):List aq:=dP (p.aG.map Decl.name)
theorem y3.Sp{l:List aq}(h:y3 l):l.Nodup:=by
 refine Z5 ?_ h;intro a b j e;subst e;exact nv _ j
def eg(p:Prog)(a b:aq):Bool:=lc (gD (c5 p) a b≠0)
def SN(p:Prog):Nat->Nat->Bool:=Go.Rg.xi (ns p) (eg p)
theorem IA{p:Prog}(hn:(p.aG.map Decl.name).Nodup){f:Nat}(hf:(ns p).length<=f):Go.Rg.xf (ns p) (eg p) (Go.Tj.im (fun a=>(ns p).filter (eg p a)) f (ns p) Go.Tj.St.o).ring:=
 Go.Rg.Iz (V:=ns p) (y3.Sp (ki hn)) (fun a _ b=>by rw[XG]) hf
def ringEq(p:Prog)(a b:aq):Bool:=(XC (ns p).length).any fun i=>(XC (ns p).length).any fun j=>lc ((ns p).getD i co=a)&&lc ((ns p).getD j co=b)&&Go.Co.cls (SN p) i j
theorem Du{p:Prog}{a b:aq}:ringEq p a b=jp↔ ∃i j,i<(ns p).length∧j<(ns p).length∧(ns p).getD i co=a∧(ns p).getD j co=b∧SN p i j=jp∧SN p j i=jp:=by
 simp only[ringEq,Yr,Yz,XR,decide_eq_true_eq,Go.Co.cls];constructor
 .rintro⟨i,hi,j,hj,⟨h1,h2⟩,h3,h4⟩;exact⟨i,j,hi,hj,h1,h2,h3,h4⟩
 .rintro⟨i,j,hi,hj,h1,h2,h3,h4⟩;exact⟨i,hi,j,hj,⟨h1,h2⟩,h3,h4⟩
theorem tJ{p:Prog}{u:aq->Int}(hr:Go.Rg.xf (ns p) (eg p) u){a b:aq}(ha:a∈ns p)(hb:b∈ns p):ringEq p a b=lc (u a=u b):=by
 rw[Yu,Du,decide_eq_true_eq];constructor
 .rintro⟨i,j,hi,x,rfl,rfl,y,A⟩;exact(hr i j hi x).2 ⟨y,A⟩
 .intro h;obtain⟨i,hi,rfl⟩:=Go.Rg.z6 ha;obtain⟨j,x,rfl⟩:=Go.Rg.z6 hb;obtain⟨y,A⟩:=(hr i j hi x).1 h;exact⟨i,j,hi,x,rfl,rfl,y,A⟩
def Dt(p:Prog)(r:aw):Bool:=r.body.any fun l=>lc (l.kind=1)&&ringEq p l.atom.rel r.head.rel
def ze(p:Prog)(r:aw):Option Lit:=r.body.find? fun l=>lc (l.kind≠1)&&(named l).any fun t=>ringEq p t r.head.rel
def tw(r:aw):Bool:=r.head.an.any fun t=>lc (t.kind=1)&&!ei (lS r) t.var
def y4(p:Prog)(r:aw):gF:=match ze p r with
 |some l=>(70,l.at)
 |none=>if tw r=jp∧Dt p r=jp then(71,r.at_) else gF.z
def gP(p:Prog):gF:=if(fb p).1≠0 then fb p else((p.rules.map (y4 p)).find? fun d=>lc (d.1≠0)).getD gF.z
end Go.Proofs.YtlmhfgbkchnfbaaGreatDoor
namespace Go.Re
open Go.Tj
section
variable {α:Type}
structure Mid (succ:α->List α) (S T:α->Prop) (a:α) (l:List α):Prop where
 U3: ∀x,S x->T x
 here:T a
 new: ∀x,T x->S x∨om succ a x
 next: ∀x,T x->S x∨x=a∨ ∀y∈succ x,T y
 done: ∀y∈l,T y
structure Top (succ:α->List α) (V:α->Prop) (T:α->Prop) (l:List α):Prop where
 new: ∀x,T x-> ∃r∈l,V r∧om succ r x
 next: ∀x,T x-> ∀y∈succ x,T y
 done: ∀r∈l,V r->T r
end
end Go.Re
namespace Go.Proofs.YtlmhfgbkchnfbaaGreatDoor
open Go Go.Al
section
section
variable {r t:aw} (hh:t.head=r.head) (hb: ∀x,x∈t.body↔x∈r.body)
include hh hb
end
section
variable {r t:aw} (hh:t.head=r.head) (hb: ∀x,x∈t.body↔x∈r.body)
include hh hb
end
structure WV (r t u:aw) (i k:Int):Prop where
 Wf: ∀x∈fP (aL (b6 r)),x∈fP (aL (aI r))
 UY: ∀x∈fP (aL (p9 r)),x∈fP (aL (b6 r))
 outer:fP (aL (aI t))=fP (aL (aI r))
 lim:fP (aL (b6 t))=fP (aL (b6 r))
 plain:fP (aL (p9 t))=fP (aL (p9 r))
 loc:Aa t i=Aa r k
 Aa: ∀x∈Aa r k,x∉fP (aL (aI r))
 more: ∀x∈fP (aL (b6 r)),x∈fP (aL (b6 u))
 hasX:Sl [88]∈fP (aL (b6 u))
end
theorem MM{n sz:Nat}{es:List (List PV)}(h:es.all (bu n)=jp):(AO.row sz es).low n:=fun _ e j=>XO.1 h e (XE j)
def xh:List IV->List IV->Prop
 | [],[]=>True
 |p::r,q::s=>jW p q∧xh r s
 |_,_=>False
theorem xh.length: ∀{a b:List IV},xh a b->a.length=b.length
 | [],[],_=>rfl
 |_::_,_::_,h=>congrArg (· +1) (xh.length h.2)
 | [],_::_,h=>h.elim
 |_::_,[],h=>h.elim
theorem xh.get: ∀{a b:List IV},xh a b-> ∀(j:Nat) (q:IV),b[j]? =io q-> ∃p,a[j]? =io p∧jW p q
 | [],[],_,j,q,h=>by simp at h
 |p::r,q0::s,hh,j,q,h=>by
  cases j with
  |zero=>simp at h;subst h;exact⟨p,rfl,hh.1⟩
  |succ j=>simpa using xh.get hh.2 j q (by simpa using h)
 | [],_::_,hh,_,_,_=>hh.elim
 |_::_,[],hh,_,_,_=>hh.elim
theorem EW(p:Prog): ∀i,∀d∈qL p i,¬d.1=0
 |0,d,h=>by cases h
 |i+1,d,h=>by
  rw[qL]at h;rcases Xr.1 h with h|h
  .exact EW p i d h
  .split at h
   .cases h
   .rename_i g;rw[Xd]at h;subst h;exact g
theorem EU(p:Prog): ∀i,∀d∈rG p i,¬d.1=0
 |0,d,h=>by cases h
 |i+1,d,h=>by
  rw[rG]at h;rcases Xr.1 h with h|h
  .exact EU p i d h
  .split at h
   .cases h
   .rename_i g;rw[Xd]at h;subst h;exact g
theorem He(p:Prog): ∀d∈lK p,¬d.1=0:=fun d h=>by
 rcases Xr.1 h with h|h
 .exact EW p _ d h
 .exact EU p _ d h
theorem Ea(p:Prog):(fb p).1=0↔lK p=[]:=by
 unfold fb;cases h:lK p with
 |nil=>exact⟨fun _=>rfl,fun _=>rfl⟩
 |cons d l=>exact⟨fun e=>absurd e (He p d (by rw[h];exact Xk)),fun e=>nomatch e⟩
theorem Bm(p:Prog): ∀n,rG p n=[]↔ ∀i,i<n->(vz p i).1=0
 |0=>⟨fun _ i h=>absurd h (YY i),fun _=>rfl⟩
 |n+1=>by
  rw[rG,ZN,Bm p n];constructor
  .rintro⟨h1,h2⟩ i hi;rcases Y1.1 hi with h|h
   .exact h1 i h
   .subst h;by_cases g:(vz p i).1=0
    .exact g
    .rw[be g]at h2;cases h2
  .intro h;exact⟨fun i hi=>h i (by omega),am (h n (by omega))⟩
theorem mH{α:Type}[Inhabited α]{l:List α}{i:Nat}(hi:i<l.length):l.getD i co∈l:=by rw[W2,W5 hi];exact XS hi
structure ef (p:Prog):Prop where
 nodup:(p.aG.map Decl.name).Nodup
 len:p.aG.length<=64
 Fl: ∀r∈p.rules,r.head.rel∈p.aG.map Decl.name
 lits: ∀r∈p.rules,∀l∈r.body,∀t∈named l,t∈p.aG.map Decl.name
 flat: ∀r∈p.rules,∀l∈r.body,l.kind=4-> ∀x∈l.az,x.kind≠4
theorem Bu(p:Prog): ∀n,qL p n=[]-> ∀i,i<n->gV p i=0
 |0,_,i,h=>absurd h (YY _)
 |n+1,h,i,hi=>by
  rw[qL]at h;obtain⟨h1,j⟩:=ZN.1 h;rcases Y1.1 hi with h3|h3
  .exact Bu p n h1 i h3
  .subst h3;exact Decidable.byContradiction fun u=>by rw[be u]at j;cases j
theorem tL{d:Decl}{i k:Int}(h:qM d i k=0): ¬i>=64∧ ¬k>0:=by
 unfold qM at h;split at h
 .cases h
 .split at h
  .cases h
  .rename_i j;split at h
   .cases h
   .rename_i u;exact⟨fun g=>j (.inl g),u⟩
theorem vP{α:Type}[Inhabited α]: ∀(n:Nat) (l:List α),l.length=n->(∀i,i<l.length->l.getD i co∉l.take i)->l.Nodup
 |0,l,hn,_=>by rw[Yv.1 hn];exact XY
 |n+1,l,hn,h=>by
  have hd:l=l.take n++ [l.getD n co]:=by rw[<-bT (by omega),Xh (by omega)]
  have h1:=vP n (l.take n) (by rw[XA];omega) fun i hi=>by
   rw[XA]at hi;have:=h i (by omega);rw[List.take_take,Y9 (by omega),W2,XK,am (by omega),<-W2];exact this
  rw[hd,YG];refine⟨h1,by simp,fun a j b hb e=>?_⟩;rw[Xd]at hb;subst e;subst hb;exact h n (by omega) j
theorem Br{s:aq}: ∀(l:List Decl) (m:DM),dA .str (l.foldl kq m) s=jp->s∈m.map Yc∨s∈l.map Decl.name
 | [],m,h=> .inl (Ci.1 h)
 |d::l,m,h=>by
  rw[X8]at h;rcases Br l _ h with h1|h1
  .unfold kq at h1;split at h1
   .exact .inl h1
   .rename_i j;rw[ey (fun g=>j (Ci.2 g))]at h1;rcases Xr.1 h1 with h3|h3
    .exact .inl h3
    .rw[Xd]at h3;subst h3;exact .inr Xk
  .exact .inr (Xi _ h1)
theorem OH{p:Prog}{a:Atom}(h:xc p a=kw):a.rel∈p.aG.map Decl.name:=by
 unfold xc at h;rw[YR]at h;rcases Br p.aG [] h with h1|h1
 .cases h1
 .exact h1
theorem ny{r:aw}{e:Int}(he:e≠0){f:Int->Bool}{k:gF}(h:(oN r e f k).1=0):(∀lit∈jj r.body.length,f lit=kw)∧k.1=0:=by
 unfold oN at h;split at h
 .exact absurd h he
 .rename_i h1;refine⟨fun lit hl=>?_,h⟩;have:=Zb.1 h1 lit hl;simpa using this
theorem Dr{p:Prog}{r:aw}{n:Int}(h:(xV p r n).1=0):(z8 p r).1=0:=by
 unfold xV at h;split at h
 .cases h
 .split at h
  .cases h
  .split at h
   .cases h
   .split at h
    .cases h
    .split at h
     .cases h
     .exact h
theorem Nu(n:Nat):(-1:Int)∈jj n:=XH.2 ⟨0,by simp,by simp⟩
theorem E6{n i:Nat}(h:i<n):(i:Int)∈jj n:=XH.2 ⟨i+1,by simp;omega,by simp⟩
theorem GP{l:Lit}{t:aq}(hf:l.kind=4-> ∀x∈l.az,x.kind≠4)(h:t∈named l): ∃a∈(if l.kind=4 then l.az else[l]).flatMap cT,a.rel=t:=by
 rw[I2 l hf]at h;unfold I3 at h;split at h
 .rename_i hk;rw[Xd]at h;have j: ¬l.kind=4:=by omega
  refine⟨l.atom,?_,h.symm⟩;rw[be j,ZU];exact⟨l,Y6 _,by rw[cT,am hk];exact Y6 _⟩
 .split at h
  .rename_i j;obtain⟨x,A,rfl⟩:=XH.1 h;obtain⟨u,y⟩:=XG.1 A;refine⟨x.atom,?_,rfl⟩;rw[am j,ZU];exact⟨x,u,by rw[cT,am (zT y)];exact Y6 _⟩
  .cases h
theorem Fv{p:Prog}(h:(fb p).1=0):ef p:=by
 have hF:=(Ea p).1 h;unfold lK at hF;obtain⟨h1,A⟩:=ZN.1 hF;have h1:=Bu p _ h1;have A:=(Bm p _).1 A;have u: ∀r∈p.rules,(z8 p r).1=0:=by
  intro r hr;obtain⟨i,hi,rfl⟩:=Y2.1 hr;have:=Dr (A i hi);rwa[W2,W5 hi]at this
 have y: ∀r∈p.rules,∀lit∈jj r.body.length,∀a∈fO r lit,a.rel∈p.aG.map Decl.name:=by
  intro r hr lit hl a B;have:=(ny (by decide) (u r hr)).1 lit hl;exact OH (by simpa using XX.1 this a B)
 have j: ∀r∈p.rules,∀l∈r.body,l.kind=4-> ∀x∈l.az,x.kind≠4:=by
  intro r hr l hl I x Y;obtain⟨i,hi,rfl⟩:=Y2.1 hl;have:=(ny (by decide) (ny (by decide) (ny (by decide) (u r hr)).2).2).1 _ (E6 hi);have e:au r (i:Int)=r.body[i]:=by unfold au;simp[W2,hi]
  unfold mZ at this;rw[be (by omega),e,am I,YS]at this;simpa using XX.1 this.1 x Y
 refine⟨vP _ _ Z fun i hi G=>?_,?_,fun r hr=>?_,fun r hr l hl t ht=>?_,j⟩
 .rw[Xw]at hi;have:=(tL (h1 i hi)).2;rw[bM]at this;have D:rh (gz p i) (p.aG.getD i co).name=0:=by omega
  rw[tx]at D;apply D;unfold gz;rw[W2,W9,W5 hi,<-List.map_take]at G;rw[W2,W5 hi];exact G
 .refine YA fun J=>?_
  have:=(tL (h1 64 J)).1;omega
 .exact y r hr (-1) (Nu _) r.head (by unfold fO;simp)
 .obtain⟨i,hi,rfl⟩:=Y2.1 hl;obtain⟨a,B,rfl⟩:=GP (j r hr _ hl) ht;refine y r hr _ (E6 hi) a ?_;have e:au r (i:Int)=r.body[i]:=by unfold au;simp[W2,hi]
  unfold fO Ac;rw[be (by omega),e];exact B
theorem ef.c5{p:Prog}(h:ef p){x:aq×aq×Nat}(j:x∈c5 p):x.1∈p.aG.map Decl.name∧x.2.1∈p.aG.map Decl.name∧0<x.2.2:=by
 simp only[_root_.Go.Proofs.YtlmhfgbkchnfbaaGreatDoor.c5,ZU,XH]at j;obtain⟨r,hr,l,hl,t,ht,rfl⟩:=j;refine⟨h.Fl r hr,h.lits r hr l hl t ht,?_⟩;show 0<nJ l;unfold nJ;split<;>omega
abbrev GM:=List ((KC.str).K×Option NM)
def GG:Option NM->IV
 |none=> .v (.map is)
 |some r=>BW r
abbrev yA(m:GM):IV:= .fa .str GG is (.map is) m
def Hr(row:NM)(t:aq)(j:Int):NM:=cS .str row t (max (eh .str row t 0) j)
def km(hs:List (aq×aq×Nat))(a:aq):NM:=hs.foldl (fun row x=>if x.1=a then Hr row x.2.1 x.2.2 else row) []
def cA(p:Prog)(hs:List (aq×aq×Nat)):GM:=p.aG.map fun r=>(r.name,io (km hs r.name))
def wi(p:Prog):IV:=if(fb p).1=0 then yA (cA p (c5 p)) else .v (.map is)
theorem pt(hs:List (aq×aq×Nat))(x:aq×aq×Nat)(a:aq):km (hs++ [x]) a=if x.1=a then Hr (km hs a) x.2.1 x.2.2 else km hs a:=by
 simp[km,List.foldl_append]
theorem xX(hs:List (aq×aq×Nat))(a:aq):((km hs a).map Yc).Nodup∧ ∀b:aq,b∈(km hs a).map Yc↔ ∃k,(a,b,k)∈hs:=by
 induction hs using rC with
 |h0=>exact⟨XY,fun b=>by simp[km]⟩
 |h1 hs x ih=>
  obtain⟨B,A⟩:=ih;obtain⟨y,z,k⟩:=x;rw[pt];by_cases h:y=a
  .rw[am h,Hr];by_cases D:z∈(km hs a).map Yc
   .rw[rY D];refine⟨B,fun b=>?_⟩;rw[A];constructor
    .rintro⟨j,hj⟩;exact⟨j,XV _ hj⟩
    .rintro⟨j,hj⟩;rcases Xr.1 hj with hj|hj
     .exact⟨j,hj⟩
     .rw[Xd]at hj;cases hj;exact(A z).1 D
   .rw[ey D];refine⟨YG.2 ⟨B,by simp,fun u hu v G e=>?_⟩,fun b=>?_⟩
    .rw[Xd]at G;subst e;subst G;exact D hu
    .rw[Xr,A,Xd];constructor
     .rintro(⟨j,hj⟩|rfl)
      .exact⟨j,XV _ hj⟩
      .exact⟨k,YB _ (by rw[h];exact Y6 _)⟩
     .rintro⟨j,hj⟩;rcases Xr.1 hj with hj|hj
      .exact .inl ⟨j,hj⟩
      .rw[Xd]at hj;cases hj;exact .inr Z
  .rw[be h];refine⟨B,fun b=>?_⟩;rw[A];constructor
   .rintro⟨j,hj⟩;exact⟨j,XV _ hj⟩
   .rintro⟨j,hj⟩;rcases Xr.1 hj with hj|hj
    .exact⟨j,hj⟩
    .rw[Xd]at hj;cases hj;exact absurd Z h
theorem Ix(hs:List (aq×aq×Nat))(a:aq):(km hs a).length<=hs.length:=by
 induction hs using rC with
 |h0=>exact W8 _
 |h1 hs x ih=>
  rw[pt,W1,Xu];split
  .have:=vH (km hs a) x.2.1 (max (eh .str (km hs a) x.2.1 0) x.2.2);unfold Hr;omega
  .omega
def bw(p:Prog)(a:aq):List aq:=(ns p).filter (eg p a)
theorem A4{p:Prog}(h:ef p)(a:aq):dP ((km (c5 p) a).map Yc)=bw p a:=by
 refine qF (ki (xX _ _).1) (Zi _ (ki h.nodup)) fun b=>?_;rw[mw,(xX _ _).2,bw,XG,ns,mw,eg,decide_eq_true_eq];constructor
 .rintro⟨k,hk⟩;have h1:=h.c5 hk;refine⟨h1.2.1,?_⟩;have:=Vh hk;have h2:0<k:=h1.2.2;omega
 .rintro⟨_,h1⟩;rcases Vg (c5 p) a b with h2|h2
  .exact absurd h2 h1
  .exact⟨_,h2⟩
theorem Js(p:Prog)(hs:List (aq×aq×Nat)){a:aq}(h:a∈p.aG.map Decl.name):eh .str (cA p hs) a is=io (km hs a):=by
 unfold cA
 revert h
 generalize p.aG=l
 induction l with
 |nil=>intro h;cases h
 |cons d l ih=>
  intro h;simp only[W7,eh];by_cases e:d.name=a
  .rw[am e,e]
  .rw[be e];rw[W7,Xm]at h;exact ih (h.resolve_left fun g=>e g.symm)
theorem DX(p:Prog)(hs:List (aq×aq×Nat)):(cA p hs).map Yc=p.aG.map Decl.name:=by
 simp[cA]
theorem tT{b:List Lit}{i:Nat}(h:i<b.length):iu (b.take (i+1))=iu (b.take i)++named (b.getD i co):=by
 rw[oH,oH,bT h,ZB];simp
mutual
theorem mv: ∀l:Lit,(named l).length<=l.size
 | .mk k a op le ri af av ao b at_=>by
  have:=qT b;unfold named Lit.size;split
  .simp;omega
  .split
   .omega
   .simp
theorem qT: ∀l:List Lit,(iu l).length<=Lit.aE l
 | []=>W8 _
 |l::r=>by
  have h1:=mv l;have j:=qT r;simp only[iu,Lit.aE,W1];omega
end
theorem GN(b:List Lit)(i:Nat):(iu (b.take i)).length<=Lit.aE b:=by
 have h1:=qT (b.take i);have j: ∀(b:List Lit) (i:Nat),Lit.aE (b.take i)<=Lit.aE b:=by
  intro b
  induction b with
  |nil=>intro i;simp[Lit.aE]
  |cons x r ih=>
   intro i;cases i with
   |zero=>simp[Lit.aE]
   |succ i=>have:=ih i;simp only[Yq,Lit.aE];omega
 exact X6 h1 (j b i)
def Tb(n:Nat):Prop:= ∀l:Lit,l.size<=n->Pure Tryz.prog 96 [ag l.c] (.iv (strs (named l)))
theorem rR(l:Lit):named l=if l.kind=1∨l.kind=2 then[l.atom.rel] else if l.kind=4 then iu l.az else[]:=by cases l;rfl
theorem Ij: ∀n:Nat,n<=100000000000->Tb n
 |0,_=>fun l h=>absurd l.size_pos (by omega)
 |n+1,hn=>fun l h=>by
  have G:=l.size_eq;refine Al.Pure.le (aa:=[ag l.c]) (args:=[ag l.c1]) ?_ ⟨l.DP,ac⟩;refine ah ab Tryz.func96 Z (by decide) Tryz.ntmps96 Z (by simp) Z ?_;refine zJ Z Z (fun j=>?_) fun j=>?_
  .have j:l.kind=1:=by simpa using j
   rw[rR,am (.inl j)];refine gA Z (dD (by first|exact .inr Z|exact .inl Z) Z Z (rfl) (rfl))
  have j: ¬l.kind=1:=by simpa using j
  refine zJ Z Z (fun u=>?_) fun u=>?_
  .have u:l.kind=2:=by simpa using u
   rw[rR,am (.inr u)];refine gA Z (dD (by first|exact .inr Z|exact .inl Z) Z Z (rfl) (rfl))
  have u: ¬l.kind=2:=by simpa using u
  rw[rR,be (by rintro(g|g);exact j g;exact u g)];refine zE Z Z (fun x=>?_) fun x=>?_
  .have x: ¬l.kind=4:=by simpa using x
   rw[be x];refine gA Z (zL ?_);exact .nil _ _
  have x:l.kind=4:=by simpa using x
  rw[am x];refine gA Z ?_;refine jz 3 1 Z ?_;refine aN 0 l.az.length (Xc _) (fun i=>⟨[(3,.sl 2 0 (iu (l.az.take i)).length 1),(19,.iv (lits l.az)),(20,pI l.az.length),(21,pI i)],[(2,io (aS 1 (iu (l.az.take i)) dm))],3⟩) (fun _=>True) [1] ac
   (zW (zS trivial)) fun i hi _=>?_
  have A:=GN l.az i;have y:=Lit.aJ l.az;refine zJ Z Z (fun h1=>?_) fun h1=>?_
  .have h1:i<l.az.length:=by simpa using h1
   have B:=Lit.bU l.az i h1;have D:=mv (l.az.getD i co);refine gA Z (zp (Ij n (by omega) (l.az.getD i co) (by omega)) ?_);refine gA Z ⟨h1,ac,[4],zM ⟨.row (by rw[tT h1,W1]),rfl,bi (bi (bi ac))⟩ (hR Z (by rw[zh,tT h1,Xg]) Z ac)⟩
  .have h1:l.az.length<=i:=by simpa using h1
   rw[Xh h1];refine gA Z (dD (by first|exact .inr Z|exact .inl Z) Z Z (rfl) (rfl))
theorem EJ(l:Lit)(h:l.size<=100000000000):Pure Tryz.prog 96 [ag l.c] (.iv (strs (named l))):=Ij l.size h l (W8 _)
end Go.Proofs.YtlmhfgbkchnfbaaGreatDoor
namespace Go.Proofs.YtlmhfgbkchnfbaaGreatDoor
open Go Go.Al Go.Proofs.Tryz
section
theorem P8(hS:fJ)(el:Nat->List IV):Pure prog 129 [.iv (.bI 1 0 el)] (.a7 []):=by
 refine⟨bg func129 Z (by decide),fun M N w vs hr j x=>?_⟩;obtain⟨v,rfl⟩: ∃v,vs=[v]:=by
  cases vs with
  |nil=>cases j
  |cons v r=>cases r with
   |nil=>exact⟨v,rfl⟩
   |cons a b=>simp at j
 have u:=x 0 _ Z;simp only[YX]at u;obtain⟨a,a0,rfl⟩: ∃a a0,v= .slice a 0 a0:=by
  cases u with
  |iv _ _ h=>cases h with
   |fS _ _ a a0=>exact⟨a,a0,rfl⟩
   |bI _ _ _ b off a0=>exact⟨_,a0,rfl⟩
 refine(hS.2 a a0 w).mono ?_;rintro e y ⟨rfl,rfl⟩;exact⟨_,M,N,.a7 [],_,_,rfl,⟨rfl,rfl,rfl⟩,.refl _ _ _ _ _,hr,.a7 [] #[] Z (by simp)⟩
section
variable {V:Type}
def Fh(m:List ((KC.str).K×V))(vs:List Nat):List aq:=iw (m.map fun x=>(x.1,0)) vs
theorem Cf(m:List ((KC.str).K×V))(vs:List Nat)(j:Nat)(x:(KC.str).K×V)(h:m[j]? =io x):Fh m (j::vs)=Fh m vs++ [x.1]:=
 lF _ _ _ (x.1,0) (by rw[W9,h];rfl)
theorem Fg(m:List ((KC.str).K×V))(vs:List Nat)(hn:vs.Nodup)(hb: ∀j∈vs,j<m.length)(u: ∀j,j<m.length->j∈vs):(Fh m vs).Perm (m.map (·.1)):=by
 have:=kN (m.map fun x=>(x.1,(0:Int))) vs hn (by simpa using hb) (by simpa using u);rw[Yb]at this;exact this
theorem Ff(m:List ((KC.str).K×V))(vs:List Nat):(Fh m vs).length<=vs.length:=wa _ _
end
def GF(i:Nat):List aq->PV
 | []=> .sl i 1 0 1
 |x::r=> .sl i 0 (x::r).length 1
def xr(n:Nat):List aq->AO
 | []=> .row 1 (X3 n [pS Xb])
 |x::r=>aS 1 (x::r) dm
theorem yf(i:Nat)(l:List aq)(s:aq):GF i (l++ [s])= .sl i 0 (l.length+1) 1:=by cases l<;>simp[GF]
theorem yg(n:Nat)(l:List aq)(s:aq):xr n (l++ [s])=aS 1 (l++ [s]) dm:=by cases l<;>rfl
theorem BO{i:Nat}{l:List aq}(h:l≠ []):GF i l= .sl i 0 l.length 1:=by cases l with
 |nil=>exact absurd Z h
 |cons=>rfl
theorem BP{n:Nat}{l:List aq}(h:l≠ []):xr n l=aS 1 l dm:=by cases l with
 |nil=>exact absurd Z h
 |cons=>rfl
theorem IP(n:Nat)(l:List aq)(k:Nat):(xr n l).low k:=by
 cases l with
 |nil=>
  intro j e u;rw[List.getElem?_replicate]at u;split at u
  .cases u;rfl
  .cases u
 |cons x r=>exact eR k
theorem IN(n:Nat)(l:List aq)(σ:Nat->Nat):(xr n l).b5 σ=xr n l:=by
 cases l with
 |nil=>simp only[xr,AO.b5];rw[List.map_replicate];rfl
 |cons x r=>exact b7 σ
theorem hO{h r:AH}{σ:Nat->Nat}{i n m:Nat}{o:AO}{l:List aq}(ho:h.get (σ i)=io o)(he:o=xr m l)(hi:Xx i n=jp)(hr:pc n σ h r):pc n σ h ((i,io (xr m l))::r):=
 ⟨⟨_,ho,.of_eq (by rw[IN,he])⟩,WY hi,IP m l n,hr⟩
theorem rL(i:Nat)(l:List aq){n:Nat}(h:Xx i n=jp):(GF i l).low n=jp:=by cases l<;>exact h
theorem Ic(hS:fJ)(m:NM)(hm:m.length<=100000000):Pure prog 100 [.iv (BW m)] (.iv (strs (dP (m.map (·.1))))):=by
 refine ah ab func100 Z (by decide) ntmps100 Z (by simp) Z ?_;rcases Nat.eq_zero_or_pos m.length with h0|h0
 .have h0:=Yv.1 h0;subst h0;refine gA Z (Ju ab 1 (fun k=>dm (([]:List aq).getD k co)) Z Z Z Z Z Z Z Z Z Z ?_);refine gA Z ?_;refine gk ([]:List ((KC.str).K×Int)) (fun _=>⟨[(3,.iv (.bI 1 0 (fun k=>dm (([]:List aq).getD k co)))),(9,.ptr 1 0)],[(1,io (.bY .str AK ([]:List ((KC.str).K×Int)) [] is))],2⟩) (fun _=>True) [] ac
   (zW (hI Z Z (.inl Z) Z trivial)) fun vs _=>?_
  refine gl Z ac (dX Z Z Z Z Z (by decide) (fun _=>?_) fun j x B _=>?_)
  .refine gA Z (aF (P8 hS _) Z Z Z Z Z Z ?_);refine gA Z (zL ?_);exact .of_eq (show _=PV.iv (strs (dP [])) by rw[pq];rfl)
  .cases B
 refine gA Z (Jv ab m.length 0 Z Z Z Z Z Z Z Z Z h0 (by omega) (by show 16*m.length<=_;omega) Z (by decide) Z (.inl ⟨rfl,rfl⟩) Z ?_);refine gA Z ?_;refine gk m (fun vs=>⟨[(3,GF 2 (Fh m vs)),(9,.ptr 1 0)],[(1,io (.bY .str AK m vs is)),(2,io (xr m.length (Fh m vs)))],3⟩) (fun vs=>vs.Nodup∧ ∀j∈vs,j<m.length) [0] ⟨XY,by simp⟩
  (zW (hI Z Z (.inl Z) Z (hO Z Z Z trivial))) fun vs hJ=>?_
 obtain⟨y,A⟩:=hJ;have c0:=vR y A;have G:=Ff m vs;refine gl Z ac (dX Z Z Z Z Z (by decide) (fun D=>?_) fun j x B J=>?_)
 .have Y:=Fg m vs y A D;have I:Fh m vs≠ []:=fun e=>by
   have:=Y.length_eq;rw[e,Xw]at this;simp at this;omega
  rw[BO I,BP I];refine gl Z ac (ai [2] (Ks hS (Fh m vs) (by omega)) Z Z Z Z Z (congrArg (fun o=> [io o]) (b7 _).symm) Z Z ?_);refine gl Z ac (dD (.inr Z) Z Z ((vB _ _).trans (by rw[qG Y])) ?_);rw[kA,<-Y.length_eq]
 .have hk:=Cf m vs j x B;have a0: ∀u,u=j::vs->u.Nodup∧ ∀i∈u,i<m.length:=fun u e=>e▸⟨XN.2 ⟨J,y⟩,fun i hi=>(Xm.1 hi).elim (fun h=>h▸(W4.1 B).1) (A i)⟩
  cases hl:Fh m vs with
  |nil=>
   rw[hl,Xq]at hk;refine gA Z (sd ab Z Z Z Z Z Z Z Z Z (by simp;omega) (by simp) (eD Z) Z ?_);refine gA Z ?_;exact⟨j,x,B,J,a0 _ Z,[4],zM ⟨.of_eq (by rw[hk];rfl),rL 2 _ Z,.refl _,rfl,ac⟩ (hI Z Z (.inr Z) Z (hO Z (by rw[hk];rfl) Z ac))⟩
  |cons a r=>
   rw[hl]at hk G;have b0:(r.length+1)<=m.length:=by simpa using X6 G c0
   refine gA Z ⟨j,x,B,J,a0 _ Z,[4],zM ⟨.of_eq (by rw[hk,yf];rfl),rL 2 _ Z,.refl _,rfl,ac⟩ (hI Z Z (.inr Z) Z (hO Z (by rw[hk,yg,aS,Xg];rfl) Z ac))⟩
theorem Ie(hS:fJ)(m:GM)(hm:m.length<=100000000):Pure prog 101 [.iv (yA m)] (.iv (strs (dP (m.map (·.1))))):=by
 refine ah ab func101 Z (by decide) ntmps101 Z (by simp) Z ?_;rcases Nat.eq_zero_or_pos m.length with h0|h0
 .have h0:=Yv.1 h0;subst h0;refine gA Z (Ju ab 1 (fun k=>dm (([]:List aq).getD k co)) Z Z Z Z Z Z Z Z Z Z ?_);refine gA Z ?_;refine gk ([]:List ((KC.str).K×Option NM)) (fun _=>⟨[(3,.iv (.bI 1 0 (fun k=>dm (([]:List aq).getD k co)))),(9,.ptr 1 0)],[(1,io (.bY .str GG ([]:List ((KC.str).K×Option NM)) [] is))],2⟩) (fun _=>True) [] ac
   (zW (hI Z Z (.inl Z) Z trivial)) fun vs _=>?_
  refine gl Z ac (dX Z Z Z Z Z (by decide) (fun _=>?_) fun j x B _=>?_)
  .refine gA Z (aF (P8 hS _) Z Z Z Z Z Z ?_);refine gA Z (zL ?_);exact .of_eq (show _=PV.iv (strs (dP [])) by rw[pq];rfl)
  .cases B
 refine gA Z (Jv ab m.length 0 Z Z Z Z Z Z Z Z Z h0 (by omega) (by show 16*m.length<=_;omega) Z (by decide) Z (.inl ⟨rfl,rfl⟩) Z ?_);refine gA Z ?_;refine gk m (fun vs=>⟨[(3,GF 2 (Fh m vs)),(9,.ptr 1 0)],[(1,io (.bY .str GG m vs is)),(2,io (xr m.length (Fh m vs)))],3⟩) (fun vs=>vs.Nodup∧ ∀j∈vs,j<m.length) [0] ⟨XY,by simp⟩
  (zW (hI Z Z (.inl Z) Z (hO Z Z Z trivial))) fun vs hJ=>?_
 obtain⟨y,A⟩:=hJ;have c0:=vR y A;have G:=Ff m vs;refine gl Z ac (dX Z Z Z Z Z (by decide) (fun D=>?_) fun j x B J=>?_)
 .have Y:=Fg m vs y A D;have I:Fh m vs≠ []:=fun e=>by
   have:=Y.length_eq;rw[e,Xw]at this;simp at this;omega
  rw[BO I,BP I];refine gl Z ac (ai [2] (Ks hS (Fh m vs) (by omega)) Z Z Z Z Z (congrArg (fun o=> [io o]) (b7 _).symm) Z Z ?_);refine gl Z ac (dD (.inr Z) Z Z ((vB _ _).trans (by rw[qG Y])) ?_);rw[kA,<-Y.length_eq]
 .have hk:=Cf m vs j x B;have a0: ∀u,u=j::vs->u.Nodup∧ ∀i∈u,i<m.length:=fun u e=>e▸⟨XN.2 ⟨J,y⟩,fun i hi=>(Xm.1 hi).elim (fun h=>h▸(W4.1 B).1) (A i)⟩
  cases hl:Fh m vs with
  |nil=>
   rw[hl,Xq]at hk;refine gA Z (sd ab Z Z Z Z Z Z Z Z Z (by simp;omega) (by simp) (eD Z) Z ?_);refine gA Z ?_;exact⟨j,x,B,J,a0 _ Z,[4],zM ⟨.of_eq (by rw[hk];rfl),rL 2 _ Z,.refl _,rfl,ac⟩ (hI Z Z (.inr Z) Z (hO Z (by rw[hk];rfl) Z ac))⟩
  |cons a r=>
   rw[hl]at hk G;have b0:(r.length+1)<=m.length:=by simpa using X6 G c0
   refine gA Z ⟨j,x,B,J,a0 _ Z,[4],zM ⟨.of_eq (by rw[hk,yf];rfl),rL 2 _ Z,.refl _,rfl,ac⟩ (hI Z Z (.inr Z) Z (hO Z (by rw[hk,yg,aS,Xg];rfl) Z ac))⟩
end
end Go.Proofs.YtlmhfgbkchnfbaaGreatDoor
namespace Go.Proofs.YtlmhfgbkchnfbaaGreatDoor
open Go Go.Al
def Wb(b:Option Nat):IV:= .v (.map b)
def dvR(p:PV):Option Nat:=match p with
 | .iv (.v (.map b))=>b
 |_=>is
abbrev RM:=List ((KC.str).K×Option Nat)
abbrev gO(m:RM):AO:= .map .str Wb is (.map is) dvR m
abbrev AM:=Nat×Nat
def kJ(l:List Decl)(B:List AM):RM:=aae (fun d b=>(d.name,io b.1)) l B
def en(L:List (Nat×Nat×NM)):bE:=fun b=>(L.find? fun y=>y.1==b).map fun y=> .obj (cZ y.2.2) y.2.1
theorem iO(L:List (Nat×Nat×NM)):(en L).still:=by
 intro b i e h;unfold en at h;cases hf:L.find? fun y=>y.1==b<;>rw[hf]at h<;>cases h
def rowsOf(l:List Decl)(B:List AM)(hs:List (aq×aq×Nat)):List (Nat×Nat×NM):=aae (fun d b=>(b.1,b.2,km hs d.name)) l B
theorem GS{V:Type}{kc:KC}{ev:V->IV}{z:V}{u:Value}{x:PV->V}(A: ∀M,IR M (ev z) u):fc .fE (.map kc ev z u x []):=
 ⟨id,fun M N U w j y=>⟨#[],0,y,⟨rfl,by simp,by simp,by simp,by simp⟩,A M⟩⟩
structure BOK (l:List Decl) (i:Nat) (B:List AM):Prop where
 len:B.length=i
 nd:(B.map Yc).Nodup
theorem BA(l:List Decl):kJ l []=[]:=by cases l<;>rfl
theorem vC(l:List Decl)(hs:List (aq×aq×Nat)):rowsOf l [] hs=[]:=by cases l<;>rfl
theorem De(l:List Decl)(hs:List (aq×aq×Nat)):en (rowsOf l [] hs)=bE.nil:=by rw[vC];rfl
theorem u2{α β γ:Type}[Inhabited α](f:α->β->γ): ∀(l:List α) (B:List β) (x:β),B.length<l.length->aae f l (B++ [x])=aae f l B++ [f (l.getD B.length co) x]
 |a::l,[],x,_=>by simp
 |a::l,b::B,x,h=>by
  have:=u2 f l B x (by simpa using h);simp[this]
 | [],B,x,h=>absurd h (YY _)
theorem Nl{B:List AM}{b e:Nat}(h:(B.map Yc).Nodup)(hb:b∉B.map Yc):((B++ [(b,e)]).map Yc).Nodup:=by
 rw[Xg,YG];exact⟨h,by simp,fun u hu v j g=>hb (by simp at j;subst g;subst j;exact hu)⟩
theorem oC(hs:List (aq×aq×Nat)): ∀(l:List Decl) (B:List AM),B.length<=l.length->(rowsOf l B hs).map Yc=B.map Yc
 |_,[],_=>by simp[vC]
 |d::l,b::B,h=>by
  have:=oC hs l B (by simpa using h);simp only[rowsOf,aaf,W7]at this ⊢;rw[this]
 | [],b::B,h=>absurd h (by simp)
theorem Gf{l:List Decl}{B:List AM}{hs:List (aq×aq×Nat)}{b:Nat}(hl:B.length<=l.length)(h:en (rowsOf l B hs) b=is):b∉B.map Yc:=by
 rw[<-oC hs l B hl];intro j;obtain⟨y,u,rfl⟩:=XH.1 j;unfold en at h;rw[Zq,Zb]at h;exact h y u (by simp)
theorem Bf(L:List (Nat×Nat×NM))(y:Nat×Nat×NM)(h:y.1∉L.map Yc):en (L++ [y])=(en L).put y.1 (.obj (cZ y.2.2) y.2.1):=by
 funext c
 unfold en bE.put;rw[List.find?_append];by_cases j:c=y.1
 .subst j;rw[am Z];have:L.find? (fun z=>z.1==y.1)=is:=Zb.2 fun z u=>by
   simp only[beq_iff_eq];exact fun e=>h (e▸ZX u)
  rw[this];simp
 .rw[be j];have: ¬y.1=c:=fun e=>j e.symm;cases hf:L.find? (fun z=>z.1==c)<;>simp[this,hf]
theorem Ge{l:List Decl}{B:List AM}{b e:Nat}(hl:B.length<l.length)(hb:b∉B.map Yc):en (rowsOf l (B++ [(b,e)]) [])=(en (rowsOf l B [])).put b (.obj (cZ []) e):=by
 have h:rowsOf l (B++ [(b,e)]) []=rowsOf l B []++ [(b,e,[])]:=u2 _ l B (b,e) hl;rw[h];exact Bf _ _ (by rw[oC _ _ _ (Nat.le_of_lt hl)];exact hb)
theorem Bx: ∀(l:List Decl) (B:List AM),B.length<=l.length->(kJ l B).map Yc=(l.take B.length).map Decl.name
 |_,[],_=>by simp[BA]
 |d::l,b::B,h=>by
  have:=Bx l B (by simpa using h);simp only[kJ,aaf,W7,Xy,Yq]at this ⊢;rw[this]
 | [],b::B,h=>absurd h (by simp)
theorem M9{V:Type}{m:List ((KC.str).K×V)}{s:aq}{v:V}(h:s∉m.map Yc):cS .str m s v=m++ [(s,v)]:=by
 induction m with
 |nil=>rfl
 |cons x r ih=>
  obtain⟨a,c⟩:=x;simp only[W7,Xm,not_or]at h;have: ¬a=s:=fun e=>h.1 e.symm;simp only[cS,be this,ih h.2];rfl
theorem IH{l:List Decl}{B:List AM}{i b e:Nat}(hn:(l.map Decl.name).Nodup)(hi:B.length=i)(hl:i<l.length):cS .str (kJ l B) (l.getD i co).name (io b)=kJ l (B++ [(b,e)]):=by
 subst hi;have h:kJ l (B++ [(b,e)])=kJ l B++ [((l.getD B.length co).name,io b)]:=u2 _ l B (b,e) hl;rw[h];apply M9;rw[Bx l B (Nat.le_of_lt hl)];intro u;have j:l.map Decl.name=(l.take B.length).map Decl.name++(l.drop B.length).map Decl.name:=by rw[<-Xg,List.take_append_drop]
 rw[j,YG]at hn;refine hn.2.2 _ u _ (XH.2 ⟨l.getD B.length co,?_,rfl⟩) Z;rw[W2,W5 hl];exact List.mem_drop_iff_getElem.2 ⟨0,by simpa using hl,by simp⟩
def r8(r:aw)(l:Lit):List (aq×aq×Nat):=(named l).map fun t=>(r.head.rel,t,nJ l)
def Fm(r:aw):List (aq×aq×Nat):=r.body.flatMap (r8 r)
theorem Fw: ∀{L:List (Nat×Nat×NM)} {j:Nat} {y:Nat×Nat×NM},(L.map Yc).Nodup->L[j]? =io y->L.find? (fun z=>z.1==y.1)=io y
 | [],_,_,_,h=>by simp at h
 |x::L,0,y,_,h=>by
  simp only[List.getElem?_cons_zero,W3]at h;subst h;simp
 |x::L,j+1,y,hn,h=>by
  rw[ZI]at h;rw[W7,XN]at hn;have u: ¬x.1=y.1:=fun e=>hn.1 (e▸ZX (XE h));rw[List.find?_cons_of_neg (by simpa using u)];exact Fw hn.2 h
theorem rD{l:List Decl}{B:List AM}{hs:List (aq×aq×Nat)}{j:Nat}{d:Decl}{b:AM}(hl:B.length=l.length)(hn:(B.map Yc).Nodup)(hd:l[j]? =io d)(hb:B[j]? =io b):en (rowsOf l B hs) b.1=io (.obj (cZ (km hs d.name)) b.2):=by
 have h:(rowsOf l B hs)[j]? =io (b.1,b.2,km hs d.name):=by
  unfold rowsOf;rw[aai,hd,hb]
 have u:=Fw (by rw[oC hs l B (aac hl)];exact hn) h;unfold en;rw[u];rfl
theorem Be{l:List Decl}{B:List AM}{hs:List (aq×aq×Nat)}{c:Nat}(hl:B.length<=l.length)(h:c∉B.map Yc):en (rowsOf l B hs) c=is:=by
 rw[<-oC hs l B hl]at h;unfold en;rw[Zq,Zb];intro y j;simp only[beq_iff_eq];exact fun e=>h (e▸ZX j)
theorem Gd{l:List Decl}{B:List AM}{hs:List (aq×aq×Nat)}{j h:Nat}{d:Decl}{b:AM}{t:aq}(hl:B.length=l.length)(hn:(B.map Yc).Nodup)(J:(l.map Decl.name).Nodup)(hd:l[j]? =io d)(hb:B[j]? =io b):
  (en (rowsOf l B hs)).put b.1 (.obj (cZ (Hr (km hs d.name) t h)) b.2)=en (rowsOf l B (hs++ [(d.name,t,h)])):=by
 funext c
 unfold bE.put;by_cases y:c=b.1
 .subst y;rw[am Z,rD hl hn hd hb,pt,am Z]
 .rw[be y];by_cases I:c∈B.map Yc
  .obtain⟨b',x,rfl⟩:=XH.1 I;obtain⟨i,hi,rfl⟩:=Y2.1 x;have u:i<l.length:=by omega
   have A:i≠j:=fun e=>y (by subst e;rw[W5 hi]at hb;cases hb;rfl);rw[rD hl hn (W5 u) (W5 hi),rD hl hn (W5 u) (W5 hi),pt,be];intro e;have Y:=(W4.1 hd)
   obtain⟨D,G⟩:=Y;apply A;refine(List.getElem_inj J (h₀:=by simpa using u) (h₁:=by simpa using D)).1 ?_;rw[YN,YN,G];exact e.symm
  .rw[Be (aac hl) I,Be (aac hl) I]
theorem Sc{l:List Decl}{B:List AM}{a:aq}(hl:B.length=l.length)(u:(l.map Decl.name).Nodup)(ha:a∈l.map Decl.name): ∃(j:Nat) (d:Decl) (b:AM),l[j]? =io d∧B[j]? =io b∧d.name=a∧eh .str (kJ l B) a is=io b.1:=by
 induction l generalizing B with
 |nil=>cases ha
 |cons d l ih=>
  cases B with
  |nil=>cases hl
  |cons b B=>
   by_cases h:d.name=a
   .exact⟨0,d,b,rfl,rfl,h,by simp[kJ,eh,h]⟩
   .rw[W7,XN]at u;rw[W7,Xm]at ha;obtain⟨j,y,x,h1,A,D,G⟩:=ih (by simpa using hl) u.2 (ha.resolve_left fun e=>h e.symm);exact⟨j+1,y,x,h1,A,D,by simpa[kJ,eh,h]using G⟩
def dvG(_:PV):Option NM:=is
theorem HH{p:Prog}{B:List AM}(hl:B.length=p.aG.length)(hn:(B.map Yc).Nodup){hs:List (aq×aq×Nat)}:Qz (en (rowsOf p.aG B hs)) (gO (kJ p.aG B)) (.map .str GG is (.map is) dvG (cA p hs)):=by
 refine .map _ _ _ _ _ _ _ _ _ _ (by simp[cA,kJ,hl]) (fun j A x=>?_) fun M=> .v _
 obtain⟨d,hd,rfl⟩: ∃d,p.aG[j]? =io d∧A=(d.name,io (km hs d.name)):=by
  unfold cA at x;rw[W9,Xa]at x;obtain⟨d,h1,y⟩:=x;exact⟨d,h1,y.symm⟩
 have u:j<B.length:=by rw[hl];exact(W4.1 hd).1
 refine⟨(d.name,io B[j].1),.map (io B[j].1),?_,rfl,rfl,?_⟩
 .unfold kJ;rw[aai,hd,W5 u]
 .refine .map B[j].1 B[j].2 .str AK 0 (.int .i64 0) Wj (km hs d.name) ?_;exact rD hl hn hd (W5 u)
theorem Qa(hS:fJ)(p:Prog)(hb:p.fit):Pure Tryz.prog 65 [ag p.c] (.a7 [.iv (wi p),pB (lc ((fb p).1=0))]):=by
 refine ah ab Tryz.func65 Z (by decide) Tryz.ntmps65 Z (by simp) Z ?_;refine gA Z (zp (c24 p hb) ?_);refine zJ Z Z (fun I=>?_) fun I=>?_
 .have I: ¬(fb p).1=0:=by simpa using I
  rw[wi,be I,decide_eq_false I];exact zU Z
 have I:(fb p).1=0:=by simpa using I
 have hf:=Fv I;have w0:=hf.len;rw[wi,am I,decide_eq_true I];refine gM 1 Z ?_;refine Vd ?_;refine db (kQ ?_);refine gA Z ?_;refine db (db (wh ⟨[(1,.ptr 0 0),(4,.mp 2),(20,.iv (aT 4 p.aG Decl.c)),(21,pI p.aG.length),(22,pI 0)],[(0,io (ax p.c)),(2,io (gO []))],3⟩ ?_ ?_))
 .refine gA Z (yy [1] ?_);exact zW (zK (SC Z (fun _=> .v _) Z ac))
 refine jM (Ah 0 p.aG.length (Xc _) (fun i (x:ULift.{1} (List AM))=>⟨[(1,.ptr 0 0),(4,.mp 2),(20,.iv (aT 4 p.aG Decl.c)),(21,pI p.aG.length),(22,pI i)],[(0,io (ax p.c)),(2,io (gO (kJ p.aG x.down)))],3⟩)
  (fun i x Y=>BOK p.aG i x.down∧Y=en (rowsOf p.aG x.down [])) ⟨[]⟩ [] ⟨⟨rfl,XY⟩,(De p.aG []).symm⟩
  (zW (zK (hM Z (BA p.aG).symm Z ac))) (fun _ _ _ h=>h.2▸iO _) fun i x Y hi hJ=>?_)
 obtain⟨hB,rfl⟩:=hJ;obtain⟨B⟩:=x;refine db (kQ ?_);refine gA Z ?_;refine db (uS Z (fun h1=>uP ?_) (fun h1=>uR ?_))
 .have h1:i<p.aG.length:=by simpa using h1
  refine db (jM (db (kQ ?_)));refine gA Z ?_;refine yx (uQ 4 ?_);refine gA Z ?_;refine Ag (RD (i:=4) (o':=cZ []) Z (GS gp)) fun t Y ht=>?_;obtain⟨rfl,rfl⟩:=ht;refine Ag (F6 (i:=4) (d:=29) (iO _) Z Z ac Z) fun t Y ht=>?_;obtain⟨b,e,p0,rfl,rfl⟩:=ht;refine uQ 1 ?_;refine gA Z ?_;refine wg (Jq (kQ ?_));refine gA Z ?_;have a0:=Gf (by rw[hB.len];exact hi) p0;exact⟨h1,⟨B++ [(b,e)]⟩,[],⟨⟨by rw[W1,hB.len];rfl,Nl hB.nd a0⟩,(Ge (by rw[hB.len];exact h1) a0).symm⟩,zW (zK (hM Z (IH hf.nodup hB.len h1) Z ac))⟩
 have h1:p.aG.length<=i:=by simpa using h1
 have J:B.length=p.aG.length:=by have:B.length=i:=hB.len;omega
 have d0:=hB.nd;clear hB;have z0:p.rules.length<=1000000000:=hb.2.1
 let G:Nat->List (aq×aq×Nat):=fun r=>(p.rules.take r).flatMap Fm
 change GX _ _ [.code _] _ _ _;refine db (db (wh ⟨[(1,.ptr 0 0),(4,.mp 2),(32,.iv (aT 5 p.rules aw.c)),(33,pI p.rules.length),(34,pI 0)],[(0,io (ax p.c)),(2,io (gO (kJ p.aG B)))],3⟩ ?_ ?_))
 .refine gA Z (yy [] ?_);exact zW (zK (zC ac))
 refine jM (Ah 0 p.rules.length (Xc _) (fun i (_:PUnit.{2})=>⟨[(1,.ptr 0 0),(4,.mp 2),(32,.iv (aT 5 p.rules aw.c)),(33,pI p.rules.length),(34,pI i)],[(0,io (ax p.c)),(2,io (gO (kJ p.aG B)))],3⟩)
  (fun i _ Y=>Y=en (rowsOf p.aG B (G i))) ⟨⟩ [] Z (zW (zK (zC ac))) (fun _ _ _ h=>h▸iO _) fun n _ Y hn hJ=>?_)
 subst hJ;refine db (kQ ?_);refine gA Z ?_;refine db (uS Z (fun h1=>uP ?_) (fun h1=>uR ?_));rotate_left
 .have h1:p.rules.length<=n:=by simpa using h1
  have m0:G n=c5 p:=by show((p.rules.take n).flatMap Fm)=_;rw[Xh h1];rfl
  rw[m0];change GX _ _ [.code _] _ _ _;refine Qm (RE (i:=2) (o':= .map .str GG is (.map is) dvG (cA p (c5 p))) Z (HH J d0)) fun t Y ht=>?_;obtain⟨rfl,rfl⟩:=ht;refine kQ ?_;refine gA Z (fp (.inr Z) Z (fy.map 2 Z (.done (.refl _))))
 have h1:n<p.rules.length:=by simpa using h1
 have hR:p.rules.getD n co∈p.rules:=mH h1;have g0:G (n+1)=G n++Fm (p.rules.getD n co):=by show((p.rules.take (n+1)).flatMap Fm)=_;rw[bT h1,ZB];simp;rfl
 have b0:=hb.2.2 _ hR;have A:=b0.1;have u:=hf.Fl _ hR;have y:=hf.lits _ hR;generalize n0:p.rules.getD n co=R at hR g0 b0 A u y;refine db (jM (db (kQ ?_)));refine gA Z ?_;refine db (wh ⟨[(1,.ptr 0 0),(4,.mp 2),(8,.ptr 3 0),(32,.iv (aT 5 p.rules aw.c)),(33,pI p.rules.length),(34,pI n),(39,.iv (lits R.body)),(40,pI R.body.length),(41,pI 0)],[(0,io (ax p.c)),(2,io (gO (kJ p.aG B))),(3,io (ax R.c))],4⟩ ?_ ?_)
 .refine gA Z (yy [] ?_);subst n0;exact zW (zK (zC (zK ac)))
 have t0:R.body.length<=10000000:=by have:=Lit.aJ R.body;unfold aw.size at A;omega
 refine jM (Ah 0 R.body.length (Xc _) (fun i (_:PUnit.{2})=>⟨[(1,.ptr 0 0),(4,.mp 2),(8,.ptr 3 0),(32,.iv (aT 5 p.rules aw.c)),(33,pI p.rules.length),(34,pI n),(39,.iv (lits R.body)),(40,pI R.body.length),(41,pI i)],[(0,io (ax p.c)),(2,io (gO (kJ p.aG B))),(3,io (ax R.c))],4⟩)
  (fun i _ Y=>Y=en (rowsOf p.aG B (G n++(R.body.take i).flatMap (r8 R)))) ⟨⟩ [] (by simp) (zW (zK (zC (zK ac)))) (fun _ _ _ h=>h▸iO _) fun i _ Y v0 hJ=>?_)
 subst hJ;refine db (kQ ?_);refine gA Z ?_;refine db (uS Z (fun D=>uP ?_) (fun D=>uR ?_));rotate_left
 .have D:R.body.length<=i:=by simpa using D
  rw[Xh D,show G n++R.body.flatMap (r8 R)=G (n+1) from g0.symm];change GX _ _ (.code _::_) _ _ _;refine kQ ?_;refine gA Z ⟨h1,⟨⟩,[],rfl,zW (zK (zC ac))⟩
 have D:i<R.body.length:=by simpa using D
 have hl:R.body.getD i co∈R.body:=mH D;have i0:(R.body.take (i+1)).flatMap (r8 R)=(R.body.take i).flatMap (r8 R)++r8 R (R.body.getD i co):=by rw[bT D,ZB];simp
 have f0:(R.body.getD i co).size<=10000000:=by have:=Lit.bU R.body i D;unfold aw.size at A;omega
 have e0:=y _ hl;generalize r0:R.body.getD i co=l at hl i0 f0 e0;refine db (jM (db (kQ ?_)));refine gA Z ?_;refine db (wh ⟨[(1,.ptr 0 0),(4,.mp 2),(8,.ptr 3 0),(10,.ptr 4 0),(32,.iv (aT 5 p.rules aw.c)),(33,pI p.rules.length),(34,pI n),(39,.iv (lits R.body)),(40,pI R.body.length),(41,pI i),(46,.iv (strs (named l))),(47,pI (named l).length),(48,pI 0)],[(0,io (ax p.c)),(2,io (gO (kJ p.aG B))),(3,io (ax R.c)),(4,io (ax l.c))],5⟩ ?_ ?_)
 .subst r0;refine gA Z (zp (EJ (R.body.getD i co) (by omega)) ?_);refine gA Z (yy [] ?_);exact zW (zK (zC (zK (zK ac))))
 have x0:=mv l
 refine jM (Ah 0 (named l).length (Xc _) (fun k (_:PUnit.{2})=>⟨[(1,.ptr 0 0),(4,.mp 2),(8,.ptr 3 0),(10,.ptr 4 0),(32,.iv (aT 5 p.rules aw.c)),(33,pI p.rules.length),(34,pI n),(39,.iv (lits R.body)),(40,pI R.body.length),(41,pI i),(46,.iv (strs (named l))),(47,pI (named l).length),(48,pI k)],[(0,io (ax p.c)),(2,io (gO (kJ p.aG B))),(3,io (ax R.c)),(4,io (ax l.c))],5⟩)
  (fun k _ Y=>Y=en (rowsOf p.aG B ((G n++(R.body.take i).flatMap (r8 R))++((named l).take k).map fun t=>(R.head.rel,t,nJ l)))) ⟨⟩ [] (by simp) (zW (zK (zC (zK (zK ac))))) (fun _ _ _ h=>h▸iO _) fun k _ Y hk hJ=>?_)
 subst hJ;refine db (kQ ?_);refine gA Z ?_;refine db (uS Z (fun h3=>uP ?_) (fun h3=>uR ?_));rotate_left
 .have h3:(named l).length<=k:=by simpa using h3
  have eX:(G n++(R.body.take i).flatMap (r8 R))++(named l).map (fun t=>(R.head.rel,t,nJ l))=G n++(R.body.take (i+1)).flatMap (r8 R):=by rw[Xf,i0];rfl
  rw[Xh h3,eX];change GX _ _ (.code _::_) _ _ _;refine kQ ?_;refine gA Z ⟨D,⟨⟩,[],rfl,zW (zK (zC (zK ac)))⟩
 have h3:k<(named l).length:=by simpa using h3
 obtain⟨j,d,b,hd,j0,q0,k0⟩:=Sc J hf.nodup u;have hX:=rD (hs:=(G n++(R.body.take i).flatMap (r8 R))++((named l).take k).map fun t=>(R.head.rel,t,nJ l)) J d0 hd j0;have c0:=Gd (hs:=(G n++(R.body.take i).flatMap (r8 R))++((named l).take k).map fun t=>(R.head.rel,t,nJ l)) (t:=(named l).getD k co) (h:=nJ l) J d0 hf.nodup hd j0;rw[q0]at hX c0;have s0:((G n++(R.body.take i).flatMap (r8 R))++((named l).take k).map fun t=>(R.head.rel,t,nJ l))++ [(R.head.rel,(named l).getD k co,nJ l)]=(G n++(R.body.take i).flatMap (r8 R))++((named l).take (k+1)).map fun t=>(R.head.rel,t,nJ l):=by
  rw[bT h3,Xg,Xf];rfl
 rw[s0]at c0;generalize(G n++(R.body.take i).flatMap (r8 R))++((named l).take k).map (fun t=>(R.head.rel,t,nJ l))=hs at hX c0;refine db (jM (db (kQ ?_)));refine gA Z ?_;refine db (kQ ?_);refine gA Z ?_;refine db (wh ⟨[(1,.ptr 0 0),(4,.mp 2),(8,.ptr 3 0),(10,.ptr 4 0),(32,.iv (aT 5 p.rules aw.c)),(33,pI p.rules.length),(34,pI n),(39,.iv (lits R.body)),(40,pI R.body.length),(41,pI i),(46,.iv (strs (named l))),(47,pI (named l).length),(48,pI k),(12,pS ((named l).getD k co)),(13,pI (nJ l))],[(0,io (ax p.c)),(2,io (gO (kJ p.aG B))),(3,io (ax R.c)),(4,io (ax l.c))],5⟩ ?_ ?_)
 .refine zJ Z Z (fun h4=>?_) fun h4=>?_
  .have h4:l.kind=1:=zT h4;refine gA Z (yy [] ?_);exact zM (bi (bi (bi (bi (bi (bi (bi (bi (bi (bi (bi (bi (bi (bi ⟨.of_eq (by rw[nJ,am h4];rfl),rfl,ac⟩)))))))))))))) (zK (zC (zK (zK ac))))
  .have h4: ¬l.kind=1:=zF h4;refine gA Z (yy [] ?_);exact zM (bi (bi (bi (bi (bi (bi (bi (bi (bi (bi (bi (bi (bi (bi ⟨.of_eq (by rw[nJ,be h4];rfl),rfl,ac⟩)))))))))))))) (zK (zC (zK (zK ac))))
 refine yx (uQ 12 ?_);refine gA Z ?_;refine Ag (F5 (d:=65) hX (show PV.iv (.v (.map (eh .str (kJ p.aG B) R.head.rel is)))=_ by rw[k0])) fun t Y ht=>?_;obtain⟨rfl,rfl⟩:=ht;refine Ag (HX (b:=b.1) (j:=5) (e:=b.2) (d:=59) (p:= .mp 5) (bE.gd _ _ _) fun M N U x hu o0 _ hv=>?_) fun t Y ht=>?_
 .have hv:VR M N U (PV.iv (.v (.map (eh .str (kJ p.aG B) R.head.rel is)))) x:=hv;rw[k0]at hv;cases hv with
  |iv _ _ hi=>cases hi with
   |v=>rw[<-o0];exact .mp 5 hu
 obtain⟨rfl,rfl⟩:=ht;refine uQ 4 ?_;refine gA Z ?_;refine wg (Jq (Qm (Ui (b:=b.1) (e:=b.2) (i:=5) (o:=cZ (Hr (km hs R.head.rel) ((named l).getD k co) (nJ l))) (bE.gd _ _ _) Z Z ac) fun t Y ht=>?_));obtain⟨rfl,rfl⟩:=ht;rw[bE.M8];refine kQ ?_;refine gA Z ⟨h3,⟨⟩,[],c0,zW (zK (zC (zK (zK ac))))⟩
end Go.Proofs.YtlmhfgbkchnfbaaGreatDoor
namespace Go.Proofs.YtlmhfgbkchnfbaaGreatDoor
open Go Go.Al Go.Tj
def qD(e:Option aq)(i:Nat)(l:List aq):PV:=match e,l with
 |some _,[]=> .sl i 1 0 1
 |_,l=> .sl i 0 l.length 1
def qE(e:Option aq)(l:List aq):AO:=match e,l with
 |some y,[]=> .row 1 [[pS y]]
 |_,l=>aS 1 l dm
theorem mb(σ:Nat->Nat)(e:Option aq)(i:Nat)(l:List aq):(qD e i l).b5 σ=qD e (σ i) l:=by cases e<;>cases l<;>rfl
theorem me(σ:Nat->Nat)(e:Option aq)(l:List aq):(qE e l).b5 σ=qE e l:=by
 cases e<;>cases l<;>first|rfl|exact b7 σ
theorem A7{n i:Nat}(h:Xx i n=jp)(e:Option aq)(l:List aq):(qD e i l).low n=jp:=by cases e<;>cases l<;>exact h
theorem Ba(n:Nat)(e:Option aq)(l:List aq):(qE e l).low n:=by
 cases e with
 |none=>exact eR n
 |some y=>
  cases l with
  |nil=>
   intro k e j;cases k with
   |zero=>cases j;rfl
   |succ k=>cases j
  |cons=>exact eR n
theorem A6{e:Option aq}{i:Nat}{l:List aq}(h:e=is∨l≠ []):qD e i l= .sl i 0 l.length 1:=by
 cases e with
 |none=>rfl
 |some y=>cases l with
  |nil=>exact absurd Z (h.resolve_left (by simp))
  |cons=>rfl
theorem A8{e:Option aq}{l:List aq}(h:e=is∨l≠ []):qE e l=aS 1 l dm:=by
 cases e with
 |none=>rfl
 |some y=>cases l with
  |nil=>exact absurd Z (h.resolve_left (by simp))
  |cons=>rfl
structure TW where
 low:NM
 on:NM
 ring:NM
 stack:List aq
 uy:Option aq
def TW.st(w:TW):St aq:=⟨fun a=>eh .str w.low a 0,fun a=>eh .str w.on a 0,fun a=>eh .str w.ring a 0,w.low.length,w.stack⟩
structure TW.Ok (V:List aq) (w:TW):Prop where
 nz: ∀a∈w.low.map Yc,eh .str w.low a 0≠0
 nd:(w.low.map Yc).Nodup
 sub: ∀a∈w.low.map Yc,a∈V
abbrev AV:PV:= .cB (.func 99) [] [.ptr 0 0,.ptr 1 0,.ptr 2 0,.ptr 3 0,.ptr 4 0,.ptr 5 0]
abbrev tO(G:IV)(w:TW):List AO:=[.cells [.mp 6],.cells [.mp 7],.cells [qD w.uy 9 w.stack],.cells [.iv G],.cells [AV],.cells [.mp 8],cZ w.low,cZ w.on,cZ w.ring,qE w.uy w.stack]
abbrev tH(G:IV)(w:TW)(k:Nat):AH:=[(0,io (.cells [.mp 6])),(1,io (.cells [.mp 7])),(2,io (.cells [qD w.uy k w.stack])),(3,io (.cells [.iv G])),(4,io (.cells [AV])),(5,io (.cells [.mp 8])),
 (6,io (cZ w.low)),(7,io (cZ w.on)),(8,io (cZ w.ring)),(k,io (qE w.uy w.stack))]
theorem u5{n k:Nat}{σ:Nat->Nat}{h:AH}{G:IV}{w:TW}{B:PV}{x y A:NM}{o:AO}(b:Y4 9 n=jp)(bk:Xx k n=jp)(hs: ∀i,i<9->σ i=i)
  (g0:h.get 0=io (.cells [.mp 6])) (g1:h.get 1=io (.cells [.mp 7])) (g2:h.get 2=io (.cells [B])) (g3:h.get 3=io (.cells [.iv G])) (g4:h.get 4=io (.cells [AV])) (g5:h.get 5=io (.cells [.mp 8]))
  (g6:h.get 6=io (cZ x)) (g7:h.get 7=io (cZ y)) (g8:h.get 8=io (cZ A)) (g9:h.get (σ k)=io o)
  (D:B=qD w.uy (σ k) w.stack) (I:x=w.low) (J:y=w.on) (Y:A=w.ring) (e9:fc o (qE w.uy w.stack)):pc n σ h (tH G w k):=by
 have b9:=WY b;have bk:=WY bk;have hb: ∀i,i<9->Xx i n=jp:=fun i hi=>X0 (by omega);subst D I J Y;have r: ∀i,i<9->PV.mp (σ i)=PV.mp i:=fun i hi=>by rw[hs i hi]
 have j: ∀i,i<9->PV.ptr (σ i) 0=PV.ptr i 0:=fun i hi=>by rw[hs i hi]
 have u: ∀i,i<9->bu n [PV.mp i]=jp:=fun i hi=>by simp only[bu,PV.low,hb i hi]
 refine⟨⟨_,by rw[hs 0 (by omega)];exact g0,.of_eq (by simp only[AO.b5,dh,PV.b5,r 6 (by omega)])⟩,by omega,u 6 (by omega),
  ⟨_,by rw[hs 1 (by omega)];exact g1,.of_eq (by simp only[AO.b5,dh,PV.b5,r 7 (by omega)])⟩,by omega,u 7 (by omega),
  ⟨_,by rw[hs 2 (by omega)];exact g2,.of_eq (by simp only[AO.b5,dh,mb])⟩,by omega,by simp only[AO.low,bu,A7 (X0 bk)],
  ⟨_,by rw[hs 3 (by omega)];exact g3,.of_eq Z⟩,by omega,rfl,
  ⟨_,by rw[hs 4 (by omega)];exact g4,.of_eq (by simp only[AO.b5,dh,PV.b5,j 0 (by omega),j 1 (by omega),j 2 (by omega),j 3 (by omega),j 4 (by omega),j 5 (by omega)])⟩,by omega,by simp only[AO.low,bu,PV.low,hb 0 (by omega),hb 1 (by omega),hb 2 (by omega),hb 3 (by omega),hb 4 (by omega),hb 5 (by omega)],
  ⟨_,by rw[hs 5 (by omega)];exact g5,.of_eq (by simp only[AO.b5,dh,PV.b5,r 8 (by omega)])⟩,by omega,u 8 (by omega),
  ⟨_,by rw[hs 6 (by omega)];exact g6,.of_eq Z⟩,by omega,ac,
  ⟨_,by rw[hs 7 (by omega)];exact g7,.of_eq Z⟩,by omega,ac,
  ⟨_,by rw[hs 8 (by omega)];exact g8,.of_eq Z⟩,by omega,ac,
  ⟨_,g9,by rw[me];exact e9⟩,bk,Ba _ _ _,ac⟩
theorem zf(m:NM)(b:aq)(v:Int):(fun x=>eh .str (cS .str m b v) x 0)=y7 (fun x=>eh .str m x 0) b v:=by
 funext x
 rw[mB,y7];by_cases h:b=x
 .rw[am h,am h.symm]
 .rw[be h,be fun e=>h e.symm]
def TW.push(w:TW)(a:aq):TW:=⟨cS .str w.low a ((w.low.length:Int)+1),cS .str w.on a 1,w.ring,w.stack++ [a],is⟩
theorem TW.key{V:List aq}{w:TW}(h:w.Ok V){a:aq}(h0:w.st.low a=0):a∉w.low.map Yc:=fun g=>h.nz a g h0
theorem tN{m:NM}{a:aq}{v:Int}(h:a∉m.map Yc):(cS .str m a v).length=m.length+1:=by
 have:=congrArg Ze (ey (v:=v) h);simpa using this
theorem TW.Na{V:List aq}{w:TW}(h:w.Ok V){a:aq}(h0:w.st.low a=0):(w.push a).st=Go.Tj.push w.st a:=
 St.eq (zf _ _ _) (zf _ _ _) Z (tN (TW.key h h0)) Z
theorem TW.Nb{V:List aq}{w:TW}(h:w.Ok V){a:aq}(h0:w.st.low a=0)(ha:a∈V):(w.push a).Ok V:=by
 have hk:=TW.key h h0;refine⟨fun x j=>?_,?_,fun x j=>?_⟩
 .show eh .str (cS .str w.low a _) x 0≠0;rw[mB];split
  .omega
  .rename_i y;have j:x∈(cS .str w.low a ((w.low.length:Int)+1)).map Yc:=j;rw[ey hk,Xr,Xd]at j;exact h.nz x (j.resolve_right fun e=>y e.symm)
 .show((cS .str w.low a _).map Yc).Nodup;rw[ey hk,YG];exact⟨h.nd,by simp,fun u hu v A e=>hk (by rw[Xd]at A;subst e;subst A;exact hu)⟩
 .have j:x∈(cS .str w.low a ((w.low.length:Int)+1)).map Yc:=j;rw[ey hk,Xr,Xd]at j;rcases j with j|rfl
  .exact h.sub x j
  .exact ha
theorem TW.len{V:List aq}{w:TW}(h:w.Ok V):w.low.length<=V.length:=by
 have:=Yo h.nd (l₂:=V) h.sub;simpa using this
theorem TW.xO{V:List aq}{w:TW}(h:w.Ok V){succ:aq->List aq}{path:List aq}(hI:Inv succ path w.st):w.stack.length<=V.length:=by
 refine Yo (l₂:=V) ?_ fun y B=>?_
 .refine Z5 ?_ hI.zg;intro x y A e;subst e;omega
 .have h1:=(hI.xO y).2 B;have j:w.st.low y≠0:=vM hI h1;refine h.sub y (Yx fun u=>j (DJ u))
def TW.pop(w:TW)(u:List aq)(b:aq)(j:Int):TW:=⟨w.low,cS .str w.on b 2,cS .str w.ring b j,u,io b⟩
theorem TW.IK{w:TW}{u:List aq}{b:aq}(h:w.stack=u++ [b])(j:Int):(w.pop u b j).st=zH j w.st:=by
 have h1:w.st.stack.getLast? =io b:=by show w.stack.getLast? =_;rw[h];simp
 have x:w.st.stack.dropLast=u:=by show w.stack.dropLast=_;rw[h];simp
 unfold zH;rw[h1];exact St.eq Z (zf _ _ _) (zf _ _ _) Z x.symm
theorem TW.Sh{V:List aq}{w:TW}(h:w.Ok V)(u:List aq)(b:aq)(j:Int):(w.pop u b j).Ok V:=⟨h.nz,h.nd,h.sub⟩
theorem Uu(hS:fJ){p:Prog}(hf:ef p)(hl:(c5 p).length<=100000000)(a:aq):Pure Tryz.prog 100 [.iv (BW (km (c5 p) a))] (.iv (strs (bw p a))):=by
 rw[<-A4 hf];exact Ic hS _ (X6 (Ix _ _) hl)
end Go.Proofs.YtlmhfgbkchnfbaaGreatDoor
