/-
  What the proofs of the claims need: part 4 of 5.
-/
import Derived.Test.YtbhphmfbligliaaGreatDoorPart3
import Derived.KernelRfl
import Derived.Test.YtbhphmfbligliaaGreatDoorRows
import Derived.WalkKit
import Derived.ProofKit
import Derived.OpenShut
import Derived.Deep.DeepHandedRow
import Derived.Lib.LaidTab
import Derived.LaidSub
import Derived.MakeChecks
import Derived.Test.YtbhphmfbligliaaGreatDoorCards
import Derived.Test.YtbhphmfbligliaaGreatDoorTie
open And renaming intro→Tq
open Bool renaming and_eq_true→TZ,and_false→Vy,eq_iff_iff→UN,false_and→Vc,false_eq_true→VK,not_eq_false'→Vl,not_eq_true'→UD,or_eq_false_iff→Vh,or_eq_true→Vr,true_and→Vo
open ByteArray renaming empty→Tx
open Classical renaming byContradiction→UU
open Int renaming fdiv_eq_ediv_of_nonneg→UT,le_refl→Vb,ofNat_lt→VL,toNat_natCast→Tt
open List.Nodup renaming length_le_of_subset→U7
open List.Pairwise renaming imp→W4
open List renaming all_cons→VZ,all_eq_true→T7,any_eq_false→Uo,any_eq_true→UO,append_assoc→Tz,append_eq_nil_iff→VN,append_nil→T1,concat_eq_append→Wb,cons_append→TV,drop_eq_getElem_cons→Vz,drop_zero→Wq,eq_nil_of_length_eq_zero→Ud,ext_getElem?→VD,filter_cons→Vv,find?_cons→Xg,find?_eq_none→VM,flatMap_append→U8,flatMap_cons→T9,foldl_cons→Uc,getD_cons_succ→UK,getD_eq_getElem?_getD→Tr,getElem?_append_right→TI,getElem?_cons_succ→VH,getElem?_drop→Uz,getElem?_eq_getElem→Ts,getElem?_eq_some_iff→Tp,getElem?_map→Tu,getElem?_set→U9,getElem?_take→T4,getElem?_zipWith→WL,getElem_map→We,getElem_mem→Uw,length→Vp,length_append→Tn,length_cons→TO,length_drop→U5,length_eq_zero_iff→UC,length_filter_le→UY,length_map→T2,length_nil→UJ,length_pos_iff→UE,length_reverse→Vt,length_singleton→Ui,length_take→TY,map_append→TA,map_congr_left→UX,map_cons→TD,map_map→Ve,map_nil→TX,mem_append→TP,mem_append_left→Ue,mem_append_right→UQ,mem_cons→TQ,mem_cons_of_mem→TH,mem_cons_self→TJ,mem_filter→Ub,mem_flatMap→Wd,mem_iff_getElem→Vi,mem_map→UG,mem_map_of_mem→Wl,mem_of_getElem?→Uv,mem_of_mem_take→UP,mem_range→Vx,mem_singleton→TF,mem_singleton_self→Vq,nil_append→T3,nodup_append→Va,nodup_cons→UF,nodup_nil→Us,pairwise_append→VS,pairwise_cons→UW,range→Uk,replicate→VQ,reverse_append→Wj,size_toArray→VC,sum_cons→Vj,take_append_drop→Um,take_length→Uj,take_of_length_le→TE,take_succ_cons→UL,take_zero→VI,zipWith→WE,zipWith_cons_cons→WG
open Nat renaming add_assoc→Ux,add_mul→Ug,beq→TR,beq_refl→WD,ble→Vm,ble_eq_true_of_le→Uu,blt→TU,div_lt_iff_lt_mul→WK,eq_of_beq_eq_true→TM,eq_zero_or_pos→V2,le_of_ble_eq_true→Tk,le_of_eq→W5,le_of_not_lt→UR,le_refl→Tv,le_succ→Vg,le_trans→Uh,lt_of_lt_of_le→Vf,lt_or_ge→Un,lt_succ_iff_lt_or_eq→VE,lt_succ_self→US,max_eq_right→Xc,mod_eq_of_lt→VU,mul_assoc→WX,mul_le_mul_right→TN,not_lt_zero→Vs,pow_succ→V9,zero_add→TL,zero_le→TB
open Option renaming bind_some→Wy,map_eq_none_iff→V5,map_eq_some_iff→Tw,map_some→Ut
open Option.some renaming inj→Uy,injEq→Tm
open Prod renaming fst→Ur
set_option maxRecDepth 100000
open Bool renaming false→jp,true→is
open Decidable renaming decide→kw
open Inhabited renaming default→co
open Option renaming none→io,some→dl
open Array renaming getD_eq_getD_getElem?→Tl
open Array renaming range→Wu
open Array renaming getElem?_map→Vw
open Option renaming getD_some→UI
open Array renaming getElem?_eq_getElem→Uq
open Array renaming append_assoc→V1
open Array renaming getElem?_append_left→T6
open Nat renaming sub_mul→WO
open Array renaming getElem?_append_right→Vu
open Array renaming getElem?_toList→T5
open Nat renaming add_comm→V6
open Array renaming toList_append→VG
namespace Go.Proofs.YtbhphmfbligliaaGreatDoor
open Go Go.Al Go.Proofs.Tryz
section
section
variable (r:ar) (lit w:Int)
def l3(e:Expr):List Want:=if e.kind=1 then[⟨lit,en r e.var w,1,0⟩] else if e.kind=2 then[⟨lit,cA.z,1,e.val.kind⟩] else[]
mutual
def gk:Expr->List Want
 | .mk k v val op args=>l3 r lit w (.mk k v val op args)++(if k=4 then sc args else[])
def sc:List Expr->List Want
 | []=> []
 |e::s=>gk e++sc s
end
theorem Ah: ∀l:List Expr,sc r lit w l=l.flatMap (gk r lit w)
 | []=>rfl
 |e::s=>by rw[sc,T9,Ah s]
def iE(e:Expr):List Want:=if e.kind=4 then e.args.flatMap (gk r lit w) else[]
theorem CU(e:Expr):gk r lit w e=l3 r lit w e++iE r lit w e:=by
 cases e;rw[gk,Ah];rfl
end
abbrev TS.add(t:TS)(l:List Want):TS:=⟨t.up,t.ws++l,t.kind⟩
section
variable {nt:NT} {Q:AQ} {k:List KI} {s:AS}
def tS(s:AS)(r:ar)(t:TS)(i u j m:Nat):AS:=match s with|⟨f,h,n⟩=>⟨f,(i,dl (TS.cell r u n t.ws.length m))::(u,dl (oq t.up))::(n,dl (aX 5 t.ws Want.c))::(m,dl (oz t.kind))::(i,io)::(u,io)::(j,io)::(m,io)::h,n+1⟩
theorem Qm(s:AS)(r:ar)(t:TS)(i u j m:Nat):tS s r t i u j m=⟨s.f,(i,dl (TS.cell r u s.nx t.ws.length m))::(u,dl (oq t.up))::(s.nx,dl (aX 5 t.ws Want.c))::(m,dl (oz t.kind))::(i,io)::(u,io)::(j,io)::(m,io)::s.h,s.nx+1⟩:=by cases s;rfl
def tR(s:AS)(r:ar)(t:TS)(i u j m:Nat):AS:=match s with|⟨f,h,n⟩=>⟨f,(i,dl (TS.cell r u j t.ws.length m))::(u,dl (oq t.up))::(j,dl (aX 5 t.ws Want.c))::(m,dl (oz t.kind))::(i,io)::(u,io)::(j,io)::(m,io)::h,n⟩
theorem Qn(s:AS)(r:ar)(t:TS)(i u j m:Nat):tR s r t i u j m=⟨s.f,(i,dl (TS.cell r u j t.ws.length m))::(u,dl (oq t.up))::(j,dl (aX 5 t.ws Want.c))::(m,dl (oz t.kind))::(i,io)::(u,io)::(j,io)::(m,io)::s.h,s.nx⟩:=by cases s;rfl
theorem Fk{o:Oper}{c:Call}{g:FuncId}{args A:List PV}{r:ar}{t B:TS}{y:PV}{i u j m n:Nat}{es:List (List PV)}{s':AS}(hc:bC prog g (.ptr 0 0::args) (t.O r) y (B.H r) 5)(ho:o.op= .call c)(ha:bM s.f c=dl (g,.ptr i 0::A))
  (hi:s.h.get i=dl (TS.cell r u j n m)) (hu:s.h.get u=dl (oq t.up)) (hj:s.h.get j=dl (.row 5 es)) (hm:s.h.get m=dl (oz t.kind)) (hn:n=t.ws.length) (he:es=t.ws.map fun x=>(Want.c x).map .iv)
  (hlt:[i,u,j,m].all (fun x=>TU x s.nx)=is) (hnd:cz [i,u,j,m]=is) (has:A=args) (hlow:bD 0 args=is) (hr:y.low 0=is)
  (hp:putDst nt o y (tS s r B i u j m)=dl s'):OT prog nt o s (fun t=>t=s'):=by
 subst has;subst hn;subst he;have d: ∀σ,db σ A=A:=fun σ=>hP σ A hlow;refine kH ho ha hc (eG hnd) (fun j hj=>Tk (T7.1 hlt j hj)) ?_ ?_ ?_
 .simp only[TD,TX,hi,hu,hj,hm,bL];rfl
 .simp only[db,d];rfl
 .rintro q C n0 ⟨rfl,rfl,rfl⟩;rw[PV.jz _ _ hr];rw[Qm]at hp;refine⟨s',?_,rfl⟩;rw[<-hp];simp only[TS.H,aO,xY,Ut,bL];rfl
theorem Fg{o:Oper}{c:Call}{g:FuncId}{args A:List PV}{r:ar}{t:TS}{y:PV}{i u j m n:Nat}{es:List (List PV)}{s':AS}(hc:bC prog g (.ptr 0 0::args) (t.O r) y (t.K r) 4)(ho:o.op= .call c)(ha:bM s.f c=dl (g,.ptr i 0::A))
  (hi:s.h.get i=dl (TS.cell r u j n m)) (hu:s.h.get u=dl (oq t.up)) (hj:s.h.get j=dl (.row 5 es)) (hm:s.h.get m=dl (oz t.kind)) (hn:n=t.ws.length) (he:es=t.ws.map fun x=>(Want.c x).map .iv)
  (hlt:[i,u,j,m].all (fun x=>TU x s.nx)=is) (hnd:cz [i,u,j,m]=is) (has:A=args) (hlow:bD 0 args=is) (hr:y.low 0=is)
  (hp:putDst nt o y (tR s r t i u j m)=dl s'):OT prog nt o s (fun t=>t=s'):=by
 subst has;subst hn;subst he;have d: ∀σ,db σ A=A:=fun σ=>hP σ A hlow;refine kH ho ha hc (eG hnd) (fun j hj=>Tk (T7.1 hlt j hj)) ?_ ?_ ?_
 .simp only[TD,TX,hi,hu,hj,hm,bL];rfl
 .simp only[db,d];rfl
 .rintro q B n0 ⟨rfl,rfl,rfl⟩;rw[PV.jz _ _ hr];rw[Qn]at hp;refine⟨s',?_,rfl⟩;rw[<-hp];simp only[TS.K,aO,xY,Ut,bL];rfl
theorem Aw{all rest:List Oper}{o:Oper}{c:Call}{g:FuncId}{args y:List PV}{r:ar}{t A:TS}{d:PV}{i u j m n:Nat}{es:List (List PV)}{s':AS}(hc:bC prog g (.ptr 0 0::args) (t.O r) d (A.H r) 5)(ho:o.op= .call c)(hg:o.guard=io)(ha:bM s.f c=dl (g,.ptr i 0::y))
  (hi:s.h.get i=dl (TS.cell r u j n m)) (hu:s.h.get u=dl (oq t.up)) (hj:s.h.get j=dl (.row 5 es)) (hm:s.h.get m=dl (oz t.kind)) (hn:n=t.ws.length) (he:es=t.ws.map fun x=>(Want.c x).map .iv)
  (hlt:[i,u,j,m].all (fun x=>TU x s.nx)=is) (hnd:cz [i,u,j,m]=is) (has:y=args) (hlow:bD 0 args=is) (hr:d.low 0=is)
  (hp:putDst nt o d (tS s r A i u j m)=dl s') (h:GO prog nt (.ops all rest::k) Q s'):GO prog nt (.ops all (o::rest)::k) Q s:=
 bF hg (Fk hc ho ha hi hu hj hm hn he hlt hnd has hlow hr hp) fun t B=>by subst B;exact h
theorem De{all rest:List Oper}{o:Oper}{c:Call}{g:FuncId}{args y:List PV}{r:ar}{t A:TS}{d:PV}{i u j m n:Nat}{es:List (List PV)}{s':AS}(hc:bC prog g (.ptr 0 0::args) (t.O r) d (A.H r) 5)(h:GO prog nt (.ops all rest::k) Q s')(ho:o.op= .call c:=by exact rfl)(hg:o.guard=io:=by exact rfl)(ha:bM s.f c=dl (g,.ptr i 0::y):=by exact rfl)(hi:s.h.get i=dl (TS.cell r u j n m):=by exact rfl)(hu:s.h.get u=dl (oq t.up):=by exact rfl)(hj:s.h.get j=dl (.row 5 es):=by exact rfl)(hm:s.h.get m=dl (oz t.kind):=by exact rfl)(hn:n=t.ws.length:=by first|rfl|(rw[Tn];rfl)|simp)(he:es=t.ws.map fun x=>(Want.c x).map .iv:=by first|rfl|(rw[TA];rfl)|(simp only[TA,Tz];rfl))(hlt:[i,u,j,m].all (fun x=>TU x s.nx)=is:=by exact rfl)(hnd:cz [i,u,j,m]=is:=by exact rfl)(has:y=args:=by exact rfl)(hlow:bD 0 args=is:=by exact rfl)(hr:d.low 0=is:=by exact rfl)(hp:putDst nt o d (tS s r A i u j m)=dl s':=by exact rfl):GO prog nt (.ops all (o::rest)::k) Q s:=Aw (hc:=hc) (ho:=ho) (hg:=hg) (ha:=ha) (hi:=hi) (hu:=hu) (hj:=hj) (hm:=hm) (hn:=hn) (he:=he) (hlt:=hlt) (hnd:=hnd) (has:=has) (hlow:=hlow) (hr:=hr) (hp:=hp) (h:=h)
theorem O8{all:List Oper}{todo pend:List (Nat×Oper)}{y:Nat}{B A:Prop}{o:Oper}{c:Call}{g:FuncId}{args C:List PV}{r:ar}{t:TS}{d:PV}{i u j m n:Nat}{es:List (List PV)}{s':AS}(hc:bC prog g (.ptr 0 0::args) (t.O r) d (t.K r) 4)
  (hrd:dX todo=[(y,o)]) (ho:o.op= .call c) (ha:bM s.f c=dl (g,.ptr i 0::C))
  (hi:s.h.get i=dl (TS.cell r u j n m)) (hu:s.h.get u=dl (oq t.up)) (hj:s.h.get j=dl (.row 5 es)) (hm:s.h.get m=dl (oz t.kind)) (hn:n=t.ws.length) (he:es=t.ws.map fun x=>(Want.c x).map .iv)
  (hlt:[i,u,j,m].all (fun x=>TU x s.nx)=is) (hnd:cz [i,u,j,m]=is) (has:C=args) (hlow:bD 0 args=is) (hr:d.low 0=is)
  (hp:putDst nt o d (tR s r t i u j m)=dl s')
  (hg:bV nt all s.f o=dl is) (hpb:hQ all pend o=is) (hE:mC todo [y]=is)
  (hag:mF mB nt all s todo pend=dl B) (hCA:B) (hag2:de mB nt all s' (a8 pend o)=dl A) (hC2:A)
  (h:GO prog nt (.bY all (todo.filter fun x=>!TR x.1 y) (a8 pend o)::k) Q s'):GO prog nt (.bY all todo pend::k) Q s:=
 mb ab hrd hg hpb hE hag hCA (Fg hc ho ha hi hu hj hm hn he hlt hnd has hlow hr hp) hag2 hC2 h
theorem nk{all:List Oper}{todo pend:List (Nat×Oper)}{y:Nat}{B A:Prop}{o:Oper}{c:Call}{g:FuncId}{args C:List PV}{r:ar}{t:TS}{d:PV}{i u j m n:Nat}{es:List (List PV)}{s':AS}(hc:bC prog g (.ptr 0 0::args) (t.O r) d (t.K r) 4)(h:GO prog nt (.bY all (todo.filter fun x=>!TR x.1 y) (a8 pend o)::k) Q s')(hrd:dX todo=[(y,o)]:=by exact rfl)(ho:o.op= .call c:=by exact rfl)(ha:bM s.f c=dl (g,.ptr i 0::C):=by exact rfl)(hi:s.h.get i=dl (TS.cell r u j n m):=by exact rfl)(hu:s.h.get u=dl (oq t.up):=by exact rfl)(hj:s.h.get j=dl (.row 5 es):=by exact rfl)(hm:s.h.get m=dl (oz t.kind):=by exact rfl)(hn:n=t.ws.length:=by first|rfl|(rw[Tn];rfl)|simp)(he:es=t.ws.map fun x=>(Want.c x).map .iv:=by first|rfl|(rw[TA];rfl)|(simp only[TA,Tz];rfl))(hlt:[i,u,j,m].all (fun x=>TU x s.nx)=is:=by exact rfl)(hnd:cz [i,u,j,m]=is:=by exact rfl)(has:C=args:=by exact rfl)(hlow:bD 0 args=is:=by exact rfl)(hr:d.low 0=is:=by exact rfl)(hp:putDst nt o d (tR s r t i u j m)=dl s':=by exact rfl)(hg:bV nt all s.f o=dl is:=by exact rfl)(hpb:hQ all pend o=is:=by exact rfl)(hE:mC todo [y]=is:=by exact rfl)(hag:mF mB nt all s todo pend=dl B:=by exact rfl)(hCA:B:=by(repeat' (first|exact ac|exact rfl|exact aj.refl _|exact aj.bk (by assumption)|apply Tq))<;>first|omega|(simp only[Tt];omega)|(simp;done)|(simp;omega))(hag2:de mB nt all s' (a8 pend o)=dl A:=by exact rfl)(hC2:A:=by(repeat' (first|exact ac|exact rfl|exact aj.refl _|exact aj.bk (by assumption)|apply Tq))<;>first|omega|(simp only[Tt];omega)|(simp;done)|(simp;omega)):GO prog nt (.bY all todo pend::k) Q s:=O8 (hc:=hc) (hrd:=hrd) (ho:=ho) (ha:=ha) (hi:=hi) (hu:=hu) (hj:=hj) (hm:=hm) (hn:=hn) (he:=he) (hlt:=hlt) (hnd:=hnd) (has:=has) (hlow:=hlow) (hr:=hr) (hp:=hp) (hg:=hg) (hpb:=hpb) (hE:=hE) (hag:=hag) (hCA:=hCA) (hag2:=hag2) (hC2:=hC2) (h:=h)
theorem MV{l:List ResultVar}{r0:PV}{e:Exit}{r:ar}{u:TS}{d:PV}{j n:Nat}{es:List (List PV)}(he:e= .normal∨e= .ret)(hr:jy mB s l=dl r0)(hi:s.h.get 0=dl (TS.cell r 1 j n 3))(hu:s.h.get 1=dl (oq u.up))(hj:s.h.get j=dl (.row 5 es))(hm:s.h.get 3=dl (oz u.kind))
  (hn:n=u.ws.length) (hes:es=u.ws.map fun x=>(Want.c x).map .iv) (hlt:TU j s.nx=is) (hnd:cz [0,1,j,3]=is) (hns:Vm 4 s.nx=is) (hrl:aj r0 d) (hlow:d.low 0=is) (hlow5:d.low 5=is):B8 mB l 4 d (u.H r) 5 e s:=by
 subst hn;subst hes;refine aD [j] he hr ⟨rfl,Tk hns,fun x y=>?_,⟨?_,hlow5,ac⟩,⟨⟨_,hi,.of_eq I⟩,Tk I,rfl,⟨_,hu,.of_eq I⟩,Tk I,ac,⟨_,hj,.of_eq (bL _).symm⟩,Tk I,cQ _,⟨_,hm,.of_eq I⟩,Tk I,ac,ac⟩,?_⟩
 .simp only[TF]at y;subst y;exact Tk hlt
 .rw[PV.jz _ _ hlow];exact hrl
 .exact eG hnd
theorem vJ{l:List ResultVar}{r0:PV}{e:Exit}{r:ar}{u:TS}{d:PV}{j n:Nat}{es:List (List PV)}(he:e= .normal∨e= .ret:=by first|exact .inr I|exact .inl I)(hr:jy mB s l=dl r0:=by exact rfl)(hi:s.h.get 0=dl (TS.cell r 1 j n 3):=by exact rfl)(hu:s.h.get 1=dl (oq u.up):=by exact rfl)(hj:s.h.get j=dl (.row 5 es):=by exact rfl)(hm:s.h.get 3=dl (oz u.kind):=by exact rfl)(hn:n=u.ws.length:=by first|rfl|(rw[Tn];rfl)|simp)(hes:es=u.ws.map fun x=>(Want.c x).map .iv:=by first|rfl|(rw[TA];rfl)|(simp only[TA,Tz];rfl))(hlt:TU j s.nx=is:=by exact rfl)(hnd:cz [0,1,j,3]=is:=by exact rfl)(hns:Vm 4 s.nx=is:=by exact rfl)(hrl:aj r0 d:=by exact .refl _)(hlow:d.low 0=is:=by exact rfl)(hlow5:d.low 5=is:=by exact rfl):B8 mB l 4 d (u.H r) 5 e s:=MV (he:=he) (hr:=hr) (hi:=hi) (hu:=hu) (hj:=hj) (hm:=hm) (hn:=hn) (hes:=hes) (hlt:=hlt) (hnd:=hnd) (hns:=hns) (hrl:=hrl) (hlow:=hlow) (hlow5:=hlow5)
theorem Lj{n0 i u j m n:Nat}{es:List (List PV)}{J:AF}{r:ar}{t d:TS}(hw:t=d)(hi:s.h.get i=dl (TS.cell r u j n m))(hu:s.h.get u=dl (oq t.up))(hj:s.h.get j=dl (.row 5 es))(hm:s.h.get m=dl (oz t.kind))
  (hn:n=t.ws.length) (hes:es=t.ws.map fun x=>(Want.c x).map .iv) (hlt:TU j s.nx=is) (hnd:cz [i,u,j,m]=is) (h0:[i,u,m].all (fun x=>TU x n0)=is) (hns:Vm n0 s.nx=is) (hf:EU (n0+1) (sg n0 [j]) s.f J):
  Wk n0 [j] s ⟨J,[(i,dl (TS.cell r u n0 d.ws.length m)),(u,dl (oq d.up)),(n0,dl (aX 5 d.ws Want.c)),(m,dl (oz d.kind))],n0+1⟩:=by
 subst hw;subst hn;subst hes;simp only[VZ,List.all_nil,Bool.and_true,TZ]at h0;have y:i<n0:=Tk h0.1;have B:u<n0:=Tk h0.2.1;have A:m<n0:=Tk h0.2.2;have s0:sg n0 [j] i=i:=fZ y;have C:sg n0 [j] u=u:=fZ B;have D:sg n0 [j] m=m:=fZ A;have Y:TU n0 n0=jp:=Bool.eq_false_iff.2 fun e=>absurd (Tk e) (by omega);have F:sg n0 [j] n0=j:=by simp[sg,Y]
 have c1:TU u (n0+1)=is:=Uu (by omega);have Z:TU m (n0+1)=is:=Uu (by omega);have cn:TU n0 (n0+1)=is:=Uu (by omega);refine⟨rfl,Tk hns,fun x G=>?_,hf,⟨⟨_,by rw[s0];exact hi,?_⟩,by show i<n0+1;omega,?_,⟨_,by rw[C];exact hu,.of_eq I⟩,by show u<n0+1;omega,ac,⟨_,by rw[F];exact hj,.of_eq (bL _).symm⟩,US _,cQ _,⟨_,by rw[D];exact hm,.of_eq I⟩,by show m<n0+1;omega,ac,ac⟩,?_⟩
 .simp only[TF]at G;subst G;exact Tk hlt
 .simp only[AO.bZ,db,PV.bZ,C,D,F];exact .of_eq I
 .simp[AO.low,bD,PV.low,c1,Z,cn]
 .simp only[fi,s0,C,D,F];exact eG hnd
theorem oL{n0 i u j m n:Nat}{es:List (List PV)}{y:AF}{r:ar}{t d:TS}(hw:t=d)(hi:s.h.get i=dl (TS.cell r u j n m):=by exact rfl)(hu:s.h.get u=dl (oq t.up):=by exact rfl)(hj:s.h.get j=dl (.row 5 es):=by exact rfl)(hm:s.h.get m=dl (oz t.kind):=by exact rfl)(hn:n=t.ws.length:=by first|rfl|(rw[Tn];rfl)|simp)(hes:es=t.ws.map fun x=>(Want.c x).map .iv:=by first|rfl|(rw[TA];rfl)|(simp only[TA,Tz];rfl))(hlt:TU j s.nx=is:=by exact rfl)(hnd:cz [i,u,j,m]=is:=by exact rfl)(h0:[i,u,m].all (fun x=>TU x n0)=is:=by exact rfl)(hns:Vm n0 s.nx=is:=by exact rfl)(hf:EU (n0+1) (sg n0 [j]) s.f y:=by repeat' (first|exact ac|exact aj.refl _|exact rfl|apply Tq)):Wk n0 [j] s ⟨y,[(i,dl (TS.cell r u n0 d.ws.length m)),(u,dl (oq d.up)),(n0,dl (aX 5 d.ws Want.c)),(m,dl (oz d.kind))],n0+1⟩:=Lj (hw:=hw) (hi:=hi) (hu:=hu) (hj:=hj) (hm:=hm) (hn:=hn) (hes:=hes) (hlt:=hlt) (hnd:=hnd) (h0:=h0) (hns:=hns) (hf:=hf)
end
theorem TS.add_add(t:TS)(a b:List Want):(t.add a).add b=t.add (a++b):=by simp[TS.add]
theorem TS.add_nil(t:TS):t.add []=t:=by simp[TS.add]
def Lg(r:ar)(n:Nat):Prop:= ∀(t:TS) (e:Expr) (lit w:Int),e.size<=n->t.ws.length+Expr.an e.args<=1000000000->bC prog 303 [.ptr 0 0,ag e.c,pI lit,pI w] (t.O r) (.aZ []) ((t.add (iE r lit w e)).H r) 5
def Pt(r:ar)(n:Nat):Prop:= ∀(t:TS) (e:Expr) (lit w:Int),e.size<=n->t.ws.length+e.size<=1000000000->bC prog 266 [.ptr 0 0,ag e.c,pI lit,pI w] (t.O r) (.aZ []) ((t.add (gk r lit w e)).H r) 5
theorem d92(r:ar)(n:Nat)(y:Lg r n):Pt r n:=by
 intro t e lit w x hb;have A:=e.size_eq;rw[CU,<-TS.add_add];refine aq ab func266 I (by decide) ntmps266 I (by simp) ?_;refine zJ I I (fun d=>?_) fun d=>?_
 .have d:e.kind=1:=zT d;have u:l3 r lit w e=[⟨lit,en r e.var w,1,0⟩]:=am d;rw[u];refine gA I (nk (d136 r t e.var w) ?_);refine gA I (Aw (y (t.add [⟨lit,en r e.var w,1,0⟩]) e lit w x (by show(t.ws++_).length+_<=_;rw[Tn,Ui];omega)) I I I I I I I (by first|rfl|(rw[Tn];rfl)|simp) (by first|rfl|(rw[TA];rfl)|(simp only[TA,Tz];rfl)) I I I I I I ?_);refine gA I vJ
 have d: ¬e.kind=1:=zF d;refine zJ I I (fun j=>?_) fun j=>?_
 .have j:e.kind=2:=zT j;have u:l3 r lit w e=[⟨lit,cA.z,1,e.val.kind⟩]:=by unfold l3;rw[be d,am j]
  rw[u];refine gA I (Aw (y (t.add [⟨lit,cA.z,1,e.val.kind⟩]) e lit w x (by show(t.ws++_).length+_<=_;rw[Tn,Ui];omega)) I I I I I I I (by first|rfl|(rw[Tn];rfl)|simp) (by first|rfl|(rw[TA];rfl)|(simp only[TA,Tz];rfl)) I I I I I I ?_);refine gA I vJ
 .have j: ¬e.kind=2:=zF j;have u:l3 r lit w e=[]:=by unfold l3;rw[be d,be j]
  rw[u,TS.add_nil];refine gA I (De (y t e lit w x (by omega)) ?_);refine gA I vJ
theorem hZ(r:ar)(lit w:Int): ∀e:Expr,(gk r lit w e).length<=e.size
 | .mk k v val op args=>by
  rw[gk,Expr.size,Tn];have d:(l3 r lit w (.mk k v val op args)).length<=1:=by
   unfold l3
   repeat' split
   all_goals simp
  have j:(if k=4 then sc r lit w args else[]).length<=Expr.an args:=by
   split
   .exact numRs_len args
   .simp
  omega
where
 numRs_len: ∀l:List Expr,(sc r lit w l).length<=Expr.an l
 | []=>by simp[sc]
 |e::s=>by
  have h1:=hZ r lit w e;have h2:=numRs_len s;rw[sc,Expr.an,Tn];omega
theorem Gh(r:ar)(lit w:Int)(l:List Expr)(i:Nat)(h:i<l.length):((l.take i).flatMap (gk r lit w)).length+(l.getD i co).size<=Expr.an l:=by
 have d: ∀l:List Expr,(l.flatMap (gk r lit w)).length<=Expr.an l:=by
  intro l
  induction l with
  |nil=>simp
  |cons e s ih=>
   have:=hZ r lit w e;rw[T9,Tn,Expr.an];omega
 have u:=d (l.take i);have j: ∀(l:List Expr) (i:Nat),i<l.length->Expr.an (l.take i)+(l.getD i co).size<=Expr.an l:=by
  intro l
  induction l with
  |nil=>intro i h;simp at h
  |cons e s ih=>
   intro i h;cases i with
   |zero=>simp[Expr.an]
   |succ i=>
    have:=ih i (by simpa using h);simp only[UL,UK,Expr.an];omega
 have:=j l i h;omega
theorem d137(r:ar)(n:Nat)(A:Pt r n):Lg r (n+1):=by
 intro t e lit w F hb;have y:=e.size_eq;refine bC.le (args:=[.ptr 0 0,ag e.c1,pI lit,pI w]) ?_ ⟨.refl _,e.wY,.refl _,.refl _,ac⟩;have x:=Expr.aA e.args;refine aq ab func303 I (by decide) ntmps303 I (by simp) ?_;refine zE I I (fun k=>?_) fun k=>?_
 .have k: ¬e.kind=4:=zF k;have j:iE r lit w e=[]:=be k;rw[j,TS.add_nil];refine gA I vJ
 have k:e.kind=4:=zT k;have j:iE r lit w e=e.args.flatMap (gk r lit w):=am k;rw[j];refine gA I ?_
 refine aG 0 e.args.length (TB _) (fun i=>⟨[(0,.ptr 0 0),(2,pI lit),(3,pI w),(14,.iv (bp 7 e.args Expr.c)),(15,pI e.args.length),(16,pI i)],
  [(0,dl (TS.cell r 1 5 (t.add ((e.args.take i).flatMap (gk r lit w))).ws.length 3)),(1,dl (oq (t.add ((e.args.take i).flatMap (gk r lit w))).up)),(5,dl (aX 5 (t.add ((e.args.take i).flatMap (gk r lit w))).ws Want.c)),(3,dl (oz (t.add ((e.args.take i).flatMap (gk r lit w))).kind))],6⟩) (fun _=>True) _ ac
  (Lj (t:=t) (TS.add_nil t).symm I I I I I I I I I I (bi (bi (bi (bi (bi (bi trivial))))))) fun i C _=>?_
 refine zJ I I (fun d=>?_) fun d=>?_
 .have d:i<e.args.length:=by simpa using d
  have u:=bx (f:=gk r lit w) d;have D:=Gh r lit w e.args i d;have B:=Expr.cf e.args i d;refine gA I (Aw (A (t.add ((e.args.take i).flatMap (gk r lit w))) (e.args.getD i co) lit w (by omega) (by show(t.ws++_).length+_<=_;rw[Tn];omega)) I I I I I I I (by first|rfl|(rw[Tn];rfl)|simp) (by first|rfl|(rw[TA];rfl)|(simp only[TA,Tz];rfl)) I I I I I I ?_);refine gA I ⟨d,ac,_,Lj ((by rw[TS.add_add,u])) I I I I (by first|rfl|(rw[Tn];rfl)|simp) (by first|rfl|(rw[TA];rfl)|(simp only[TA,Tz];rfl)) I I I I (bi (bi (bi (bi (bi (bi ac))))))⟩
 .have d:e.args.length<=i:=by simpa using d
  rw[TE d];refine gA I vJ
end
theorem rq(r:ar): ∀n,Pt r n∧Lg r n
 |0=>by
  have d:Lg r 0:=fun t e lit w u=>by have:=e.size_pos;omega
  exact⟨d92 r 0 d,d⟩
 |n+1=>by
  have j:=d137 r n (rq r n).1;exact⟨d92 r (n+1) j,j⟩
theorem Hl(r:ar)(t:TS)(e:Expr)(lit w:Int)(hb:t.ws.length+e.size<=1000000000):bC prog 266 [.ptr 0 0,ag e.c,pI lit,pI w] (t.O r) (.aZ []) ((t.add (gk r lit w e)).H r) 5:=(rq r e.size).1 t e lit w (Tv _) hb
theorem MY(r:ar)(t:TS)(e:Expr)(lit w:Int)(hb:t.ws.length+e.size<=1000000000):bC prog 303 [.ptr 0 0,ag e.c,pI lit,pI w] (t.O r) (.aZ []) ((t.add (iE r lit w e)).H r) 5:=(rq r e.size).2 t e lit w (Tv _) (by have:=e.size_eq;omega)
def typeAt(p:Prog)(a:Atom)(i:Nat):Int:=(eK p a.rel).types.getD i co
def lL(p:Prog)(a:Atom)(i:Nat):Bool:=kw (i<(eK p a.rel).types.length)&&(kw (typeAt p a i=1)||decide (typeAt p a i=2))
def kL(p:Prog)(r:ar)(a:Atom)(lit w:Int)(i:Nat):List Want:=
 if lL p a i=jp then[]
 else if(a.ak.getD i co).kind=1 then[⟨lit,en r (a.ak.getD i co).var w,typeAt p a i,0⟩]
 else if(a.ak.getD i co).kind=2 then[⟨lit,cA.z,typeAt p a i,(a.ak.getD i co).val.kind⟩] else[]
def gm(p:Prog)(r:ar)(a:Atom)(lit w:Int):Nat->List Want
 |0=> []
 |i+1=>gm p r a lit w i++kL p r a lit w i
theorem Bc(p:Prog)(r:ar)(a:Atom)(lit w:Int)(i:Nat):(kL p r a lit w i).length<=1:=by
 unfold kL
 repeat' split
 all_goals simp
theorem mr(p:Prog)(r:ar)(a:Atom)(lit w:Int): ∀i,(gm p r a lit w i).length<=i
 |0=>Tv _
 |i+1=>by
  have d:=mr p r a lit w i;have j:=Bc p r a lit w i;rw[gm,Tn];omega
set_option maxHeartbeats 1000000 in
theorem d90(p:Prog)(r:ar)(t:TS)(a:Atom)(lit w:Int)(hb:t.ws.length+a.ak.length<=1000000000):bC prog 264 [.ptr 0 0,.iv (cU p),ag a.c,pI lit,pI w] (t.O r) (.aZ []) ((t.add (gm p r a lit w a.ak.length)).H r) 5:=by
 refine aq ab func264 I (by decide) ntmps264 I (by simp) ?_;refine gA I ?_
 refine aG 0 a.ak.length (TB _) (fun i=>⟨[(0,.ptr 0 0),(3,pI lit),(4,pI w),(10,.iv (bp 1 (eK p a.rel).types eO)),(19,.iv (bp 5 a.ak Term.c)),(20,pI a.ak.length),(21,pI i)],
  [(0,dl (TS.cell r 1 5 (t.add (gm p r a lit w i)).ws.length 3)),(1,dl (oq (t.add (gm p r a lit w i)).up)),(5,dl (aX 5 (t.add (gm p r a lit w i)).ws Want.c)),(3,dl (oz (t.add (gm p r a lit w i)).kind))],6⟩) (fun _=>True) _ ac
  (Lj (t:=t) (TS.add_nil t).symm I I I I I I I I I I (bi (bi (bi (bi (bi (bi (bi trivial)))))))) fun i D _=>?_
 refine zE I I (fun x=>?_) fun x=>?_
 .have x:a.ak.length<=i:=by simpa using x
  have:i=a.ak.length:=by omega
  subst this;refine gA I vJ
 have x:i<a.ak.length:=by simpa using x
 have F:=mr p r a lit w i;have d:t.add (gm p r a lit w (i+1))=(t.add (gm p r a lit w i)).add (kL p r a lit w i):=by rw[TS.add_add];rfl
 have C:(t.add (gm p r a lit w i)).ws.length<=t.ws.length+i:=by show(t.ws++_).length<=_;rw[Tn];omega
 generalize t.add (gm p r a lit w i)=t1 at*
 refine zE I I (fun g1=>?_) fun g1=>?_
 .have g1: ¬i<(eK p a.rel).types.length:=by have g:=zT (show kw ((i:Int)>=((eK p a.rel).types.length:Int))=is from g1);omega
  have A:lL p a i=jp:=by rw[lL,decide_eq_false g1];rfl
  have y:kL p r a lit w i=[]:=am A;rw[y,TS.add_nil]at d;refine gA I ⟨x,ac,_,oL (d.symm)⟩
 have g1:i<(eK p a.rel).types.length:=by have g:=zF (show kw ((i:Int)>=((eK p a.rel).types.length:Int))=jp from g1);omega
 refine zJ I I (fun g2=>?_) fun g2=>?_
 .have g2: ¬typeAt p a i=1:=by simpa[typeAt]using g2
  refine zJ I I (fun g3=>?_) fun g3=>?_
  .have g3: ¬typeAt p a i=2:=by simpa[typeAt]using g3
   have A:lL p a i=jp:=by rw[lL,decide_eq_true g1,decide_eq_false g2,decide_eq_false g3];rfl
   have y:kL p r a lit w i=[]:=am A;rw[y,TS.add_nil]at d;refine gA I ⟨x,ac,_,oL (d.symm)⟩
  .have g3:typeAt p a i=2:=by simpa[typeAt]using g3
   have B:lL p a i=is:=by rw[lL,decide_eq_true g1,decide_eq_true g3,Bool.or_true];rfl
   have y:kL p r a lit w i=if(a.ak.getD i co).kind=1 then[⟨lit,en r (a.ak.getD i co).var w,typeAt p a i,0⟩]
    else if(a.ak.getD i co).kind=2 then[⟨lit,cA.z,typeAt p a i,(a.ak.getD i co).val.kind⟩] else[]:=by unfold kL;rw[B];exact be (by decide)
   rw[y]at d;refine zJ I I (fun j=>?_) fun j=>?_
   .have j:(a.ak.getD i co).kind=1:=zT j;rw[am j]at d;refine gA I (nk (d136 r t1 (a.ak.getD i co).var w) ?_);refine gA I ⟨x,ac,_,oL (d.symm)⟩
   have j: ¬(a.ak.getD i co).kind=1:=zF j;rw[be j]at d;refine zJ I I (fun u=>?_) fun u=>?_
   .have u:(a.ak.getD i co).kind=2:=zT u;rw[am u]at d;refine gA I ⟨x,ac,_,oL (d.symm)⟩
   .have u: ¬(a.ak.getD i co).kind=2:=zF u;rw[be u,TS.add_nil]at d;refine gA I ⟨x,ac,_,oL (d.symm)⟩
 .have g2:typeAt p a i=1:=by simpa[typeAt]using g2
  have B:lL p a i=is:=by rw[lL,decide_eq_true g1,decide_eq_true g2];rfl
  have y:kL p r a lit w i=if(a.ak.getD i co).kind=1 then[⟨lit,en r (a.ak.getD i co).var w,typeAt p a i,0⟩]
   else if(a.ak.getD i co).kind=2 then[⟨lit,cA.z,typeAt p a i,(a.ak.getD i co).val.kind⟩] else[]:=by unfold kL;rw[B];exact be (by decide)
  rw[y]at d;refine zJ I I (fun j=>?_) fun j=>?_
  .have j:(a.ak.getD i co).kind=1:=zT j;rw[am j]at d;refine gA I (nk (d136 r t1 (a.ak.getD i co).var w) ?_);refine gA I ⟨x,ac,_,oL (d.symm)⟩
  have j: ¬(a.ak.getD i co).kind=1:=zF j;rw[be j]at d;refine zJ I I (fun u=>?_) fun u=>?_
  .have u:(a.ak.getD i co).kind=2:=zT u;rw[am u]at d;refine gA I ⟨x,ac,_,oL (d.symm)⟩
  .have u: ¬(a.ak.getD i co).kind=2:=zF u;rw[be u,TS.add_nil]at d;refine gA I ⟨x,ac,_,oL (d.symm)⟩
def vI(t:TS)(u v:cA):TS:=if u=v then t else⟨cJ (.si .i64) t.up u v,t.ws,t.kind⟩
def sV(y:Expr):Int:=if y.kind=2 then y.val.kind else 1
def gn(r:ar)(lit w:Int)(t:TS)(x y:Expr):TS:=
 if y.kind=1 then vI t (bX t.up (en r x.var w)) (bX t.up (en r y.var w))
 else t.add (if x.kind=1 then[⟨lit,en r x.var w,sV y,0⟩] else if x.kind=2 then[⟨lit,cA.z,sV y,x.val.kind⟩] else[⟨lit,cA.z,sV y,1⟩])
def iL(r:ar)(lit w:Int)(t:TS)(a b:Expr):TS:=
 if b.kind=1 then gn r lit w ((t.add (iE r lit w a)).add (iE r lit w b)) b a else gn r lit w ((t.add (iE r lit w a)).add (iE r lit w b)) a b
theorem Jy{u v:cA}(h:(!(kw (u.1=v.1)&&(kw (u.2=v.2)&&is)))=is):u≠v:=by
 rintro rfl;simp at h
theorem Jz{u v:cA}(h:(!(kw (u.1=v.1)&&(kw (u.2=v.2)&&is)))=jp):u=v:=by
 simp at h;exact Prod.ext h.1 h.2
theorem qx(r:ar)(lit w:Int)(e:Expr):(iE r lit w e).length<=e.size:=by
 have d:=hZ r lit w e;rw[CU,Tn]at d;omega
set_option maxHeartbeats 1000000 in
theorem d93(r:ar)(t:TS)(a b:Expr)(lit w:Int)(ok:ir t.up)(hb:t.ws.length+a.size+b.size<=1000000000):bC prog 267 [.ptr 0 0,ag a.c,ag b.c,pI lit,pI w] (t.O r) (.aZ []) ((iL r lit w t a b).H r) 5:=by
 have F:=qx r lit w a;have G:=qx r lit w b;have D:iL r lit w t a b=if b.kind=1 then gn r lit w ((t.add (iE r lit w a)).add (iE r lit w b)) b a else gn r lit w ((t.add (iE r lit w a)).add (iE r lit w b)) a b:=rfl;rw[D];have B:ir ((t.add (iE r lit w a)).add (iE r lit w b)).up:=ok;refine aq ab func267 I (by decide) ntmps267 I (by simp) ?_;refine gA I (De (MY r t a lit w (by omega)) ?_);refine gA I (Aw (MY r (t.add (iE r lit w a)) b lit w (by show(t.ws++_).length+_<=_;rw[Tn];omega)) I I I I I I I (by first|rfl|(rw[Tn];rfl)|simp) (by first|rfl|(rw[TA];rfl)|(simp only[TA,Tz];rfl)) I I I I I I ?_);have J:((t.add (iE r lit w a)).add (iE r lit w b)).ws.length<=t.ws.length+a.size+b.size:=by
  show((t.ws++_)++_).length<=_;rw[Tn,Tn];omega
 generalize(t.add (iE r lit w a)).add (iE r lit w b)=t1 at*
 refine zJ I I (fun u=>?_) fun u=>?_
 .have u:b.kind=1:=zT u;rw[am u];refine zJ I I (fun j=>?_) fun j=>?_
  .have j:a.kind=2:=zT j;have C: ¬a.kind=1:=by omega
   have hh:sV a=a.val.kind:=am j;have y:gn r lit w t1 b a=t1.add [⟨lit,en r b.var w,sV a,0⟩]:=by unfold gn;rw[be C,am u]
   rw[y,hh];refine zJ I I (fun x=>?_) fun x=>?_
   .exact absurd (zT x) C
   refine zE I I (fun d=>?_) fun d=>?_
   .exact absurd u (zF d)
   refine gA I (nk (d136 r t1 b.var w) ?_);refine gA I vJ
  .have j: ¬a.kind=2:=zF j;refine zJ I I (fun x=>?_) fun x=>?_
   .have x:a.kind=1:=zT x;have y:gn r lit w t1 b a=vI t1 (bX t1.up (en r b.var w)) (bX t1.up (en r a.var w)):=am x;rw[y];refine gA I (nk (d136 r t1 b.var w) ?_);refine gA I (nk (d52 r t1 (en r b.var w) B) ?_);refine gA I (nk (d136 r t1 a.var w) ?_);refine gA I (nk (d52 r t1 (en r a.var w) B) ?_);refine zJ I I (fun d=>?_) fun d=>?_
    .have e:vI t1 (bX t1.up (en r b.var w)) (bX t1.up (en r a.var w))=⟨cJ (.si .i64) t1.up (bX t1.up (en r b.var w)) (bX t1.up (en r a.var w)),t1.ws,t1.kind⟩:=be (Jy d);rw[e];refine iq I (by repeat' (first|exact ac|exact rfl|exact agI (cA.c (bX t1.up (en r a.var w)))|exact aj.refl _|apply Tq)) (MV (by first|exact .inr I|exact .inl I) I I I I I I I I I I (.refl _) I I)
    .have e:vI t1 (bX t1.up (en r b.var w)) (bX t1.up (en r a.var w))=t1:=am (Jz d);rw[e];refine gA I vJ
   .have C: ¬a.kind=1:=zF x;have hh:sV a=1:=be j;have y:gn r lit w t1 b a=t1.add [⟨lit,en r b.var w,sV a,0⟩]:=by unfold gn;rw[be C,am u]
    rw[y,hh];refine zE I I (fun d=>?_) fun d=>?_
    .exact absurd u (zF d)
    refine gA I (nk (d136 r t1 b.var w) ?_);refine gA I vJ
 have u: ¬b.kind=1:=zF u;rw[be u];have y:gn r lit w t1 a b=t1.add (if a.kind=1 then[⟨lit,en r a.var w,sV b,0⟩] else if a.kind=2 then[⟨lit,cA.z,sV b,a.val.kind⟩] else[⟨lit,cA.z,sV b,1⟩]):=be u;rw[y];refine zJ I I (fun j=>?_) fun j=>?_
 .have j:b.kind=2:=zT j;have hh:sV b=b.val.kind:=am j;rw[hh];refine zJ I I (fun x=>?_) fun x=>?_
  .exact absurd (zT x) u
  refine zJ I I (fun d=>?_) fun d=>?_
  .rw[am (zT d)];refine gA I (nk (d136 r t1 a.var w) ?_);refine gA I vJ
  rw[be (zF d)];refine zJ I I (fun A=>?_) fun A=>?_
  .rw[am (zT A)];refine gA I vJ
  .rw[be (zF A)];refine gA I vJ
 .have j: ¬b.kind=2:=zF j;have hh:sV b=1:=be j;rw[hh];refine zJ I I (fun x=>?_) fun x=>?_
  .exact absurd (zT x) u
  refine zJ I I (fun d=>?_) fun d=>?_
  .rw[am (zT d)];refine gA I (nk (d136 r t1 a.var w) ?_);refine gA I vJ
  rw[be (zF d)];refine zJ I I (fun A=>?_) fun A=>?_
  .rw[am (zT A)];refine gA I vJ
  .rw[be (zF A)];refine gA I vJ
def oi(p:Prog)(r:ar)(lit w:Int)(t:TS)(l:Lit):TS:=
 if l.kind=1∨l.kind=2 then t.add (gm p r l.atom lit w l.atom.ak.length)
 else if l.kind=3 then(if l.op=1∨l.op=2 then iL r lit w t l.left l.right else(t.add (gk r lit w l.left)).add (gk r lit w l.right)) else t
theorem d91(p:Prog)(r:ar)(t:TS)(l:Lit)(lit w:Int)(ok:ir t.up)(hb:t.ws.length+l.size<=1000000000):bC prog 265 [.ptr 0 0,.iv (cU p),ag l.c,pI lit,pI w] (t.O r) (.aZ []) ((oi p r lit w t l).H r) 5:=by
 have B:=l.size_eq;have C:=hZ r lit w l.left;refine aq ab func265 I (by decide) ntmps265 I (by simp) ?_;refine zE I I (fun j=>?_) fun j=>?_
 .have j:l.kind=1:=by simpa using j
  have d:oi p r lit w t l=t.add (gm p r l.atom lit w l.atom.ak.length):=am (.inl j);rw[d];refine gA I (De (d90 p r t l.atom lit w (by omega)) ?_);refine gA I vJ
 have j: ¬l.kind=1:=zF j;refine zJ I I (fun u=>?_) fun u=>?_
 .have u:l.kind=2:=zT u;have d:oi p r lit w t l=t.add (gm p r l.atom lit w l.atom.ak.length):=am (.inr u);rw[d];refine gA I (De (d90 p r t l.atom lit w (by omega)) ?_);refine gA I vJ
 have u: ¬l.kind=2:=zF u;have d:oi p r lit w t l=if l.kind=3 then(if l.op=1∨l.op=2 then iL r lit w t l.left l.right else(t.add (gk r lit w l.left)).add (gk r lit w l.right)) else t:=be (by rintro(h|h);exact j h;exact u h);refine zJ I I (fun x=>?_) fun x=>?_
 .have x: ¬l.kind=3:=by simpa using x
  rw[be x]at d;rw[d];refine gA I vJ
 have x:l.kind=3:=by simpa using x
 rw[am x]at d;refine zE I I (fun y=>?_) fun y=>?_
 .have y:l.op=1:=by simpa using y
  rw[am (.inl y)]at d;rw[d];refine gA I (De (d93 r t l.left l.right lit w ok (by omega)) ?_);refine gA I vJ
 have y: ¬l.op=1:=zF y;refine zJ I I (fun A=>?_) fun A=>?_
 .have A:l.op=2:=zT A;rw[am (.inr A)]at d;rw[d];refine gA I (De (d93 r t l.left l.right lit w ok (by omega)) ?_);refine gA I vJ
 .have A: ¬l.op=2:=zF A;rw[be (by rintro(h|h);exact y h;exact A h)]at d;rw[d];refine gA I (De (Hl r t l.left lit w (by omega)) ?_);refine gA I (Aw (Hl r (t.add (gk r lit w l.left)) l.right lit w (by show(t.ws++_).length+_<=_;rw[Tn];omega)) I I I I I I I (by first|rfl|(rw[Tn];rfl)|simp) (by first|rfl|(rw[TA];rfl)|(simp only[TA,Tz];rfl)) I I I I I I ?_);refine gA I vJ
theorem oV: ∀(n:Nat) (m:UM) (v:cA),ir m->DH m v<=n->cZ (.si .i64) m (bX m v)=jp
 |n,m,v,ok,hn=>by
  cases h:cZ (.si .i64) m v with
  |false=>rw[p8 m v h];exact h
  |true=>
   obtain⟨d,j⟩:=mO m v ok h;cases n with
   |zero=>omega
   |succ n=>rw[<-d];exact oV n m _ ok (by omega)
theorem zR: ∀(m:UM) (u v:cA),cZ (.si .i64) m u=jp->cJ (.si .i64) m u v=m++ [(u,v)]
 | [],_,_,_=>rfl
 |(x,y)::r,u,v,h=>by
  unfold cZ at h;split at h
  .cases h
  .rename_i d;show(if x=u then _ else(x,y)::cJ (.si .i64) r u v)=_;rw[be d,zR r u v h];rfl
theorem Av{m:UM}{u:cA}(h:cZ (.si .i64) m u=jp): ∀q∈m,q.1≠u:=by
 induction m with
 |nil=>intro q hq;cases hq
 |cons a r ih=>
  obtain⟨x,y⟩:=a;unfold cZ at h;split at h
  .cases h
  .rename_i d;intro q hq;rcases TQ.1 hq with rfl|hq
   .exact d
   .exact ih h q hq
theorem we: ∀{m:UM} {u v:cA},ir m->(∀q∈m,q.1≠u)->(∀q∈m,q.1≠v)->u≠v->ir (m++ [(u,v)])
 | [],u,v,_,_,_,hne=>⟨hne,fun q hq=>(nomatch hq),fun q hq=>(nomatch hq),ac⟩
 |(x,y)::r,u,v,⟨o1,o2,o3,o4⟩,hu,hv,hne=>by
  refine⟨o1,fun q hq=>?_,fun q hq=>?_,we o4 (fun q hq=>hu q (TH _ hq)) (fun q hq=>hv q (TH _ hq)) hne⟩
  .rcases TP.1 hq with hq|hq
   .exact o2 q hq
   .simp only[TF]at hq;subst hq;exact fun e=>hu _ TJ e.symm
  .rcases TP.1 hq with hq|hq
   .exact o3 q hq
   .simp only[TF]at hq;subst hq;exact fun e=>hv _ TJ e.symm
theorem NQ{t:TS}(ok:ir t.up)(a b:cA):ir (vI t (bX t.up a) (bX t.up b)).up:=by
 unfold vI;split
 .exact ok
 .rename_i d;have j:=oV _ t.up a ok (Tv _);have u:=oV _ t.up b ok (Tv _);show ir (cJ _ _ _ _);rw[zR _ _ _ j];exact we ok (Av j) (Av u) d
theorem xC(r:ar)(lit w:Int){t:TS}(ok:ir t.up)(x y:Expr):ir (gn r lit w t x y).up:=by
 unfold gn;split
 .exact NQ ok _ _
 .exact ok
theorem A5(r:ar)(lit w:Int){t:TS}(ok:ir t.up)(a b:Expr):ir (iL r lit w t a b).up:=by
 unfold iL;split
 .exact xC r lit w (t:=(t.add (iE r lit w a)).add (iE r lit w b)) ok _ _
 .exact xC r lit w (t:=(t.add (iE r lit w a)).add (iE r lit w b)) ok _ _
theorem Gx(p:Prog)(r:ar)(lit w:Int){t:TS}(ok:ir t.up)(l:Lit):ir (oi p r lit w t l).up:=by
 unfold oi
 repeat' split
 .exact ok
 .exact A5 r lit w ok _ _
 .exact ok
 .exact ok
theorem NP(t:TS)(u v:cA):(vI t u v).ws=t.ws:=by unfold vI;split<;>rfl
theorem vt(r:ar)(lit w:Int)(t:TS)(x y:Expr):(gn r lit w t x y).ws.length<=t.ws.length+1:=by
 unfold gn
 repeat' split
 .rw[NP];omega
 all_goals(show(t.ws++_).length<=_;rw[Tn,Ui];omega)
theorem xB(r:ar)(lit w:Int)(t:TS)(a b:Expr):(iL r lit w t a b).ws.length<=t.ws.length+a.size+b.size+1:=by
 have d:=qx r lit w a;have j:=qx r lit w b;have u:((t.add (iE r lit w a)).add (iE r lit w b)).ws.length<=t.ws.length+a.size+b.size:=by
  show((t.ws++_)++_).length<=_;rw[Tn,Tn];omega
 unfold iL;split
 .exact Uh (vt _ _ _ _ _ _) (by omega)
 .exact Uh (vt _ _ _ _ _ _) (by omega)
theorem CY(p:Prog)(r:ar)(lit w:Int)(t:TS)(l:Lit):(oi p r lit w t l).ws.length<=t.ws.length+l.size:=by
 have d:=l.size_eq;have j:=mr p r l.atom lit w l.atom.ak.length;have u:=xB r lit w t l.left l.right;have x:=hZ r lit w l.left;have y:=hZ r lit w l.right;unfold oi
 repeat' split
 .show(t.ws++_).length<=_;rw[Tn];omega
 .omega
 .show((t.ws++_)++_).length<=_;rw[Tn,Tn];omega
 .omega
theorem ep{P:Program}{nt:NT}{Q:AQ}{k:List KI}{s t:AS}{c:Code}(L:List Nat)(h0:Wk s.nx L s t)(h:GO P nt (.code c::k) Q t):GO P nt (.code c::k) Q s:=by
 intro M N a w x;exact AW.then h (h0.fits x) fun e B C j u s' A d y=>⟨j,u,s',(h0.ext (.refl _ _ _ _ _)).trans A,d,y⟩
theorem Kl:dK .fx (oq []):=⟨id,fun M N U w j d=>⟨#[],0,d,⟨rfl,by simp,by simp,by simp,by simp⟩,.agg _ _ I fun j p d=>by
 match j,d with
 |0,d=>cases d;exact .v _
 |1,d=>cases d;exact .v _
 |j+2,d=>simp[cA.c]at d⟩⟩
theorem Km:dK .fx (oz []):=⟨id,fun M N U w j d=>⟨#[],0,d,⟨rfl,by simp,by simp,by simp,by simp⟩,eJ M⟩⟩
def od(s:ae):Expr:= .mk 1 s ⟨0,0,Tx⟩ 0 []
abbrev H6(s:ae):PV:= .agg [pI 1,pS s,pI 0,pI 0,pS Tx,pI 0,.iv (.v (.slice io 0 0))]
theorem xG(s:ae):aj (H6 s) (ag (od s).c):= .agg ⟨.refl _,.refl _,.refl _,.refl _,.refl _,.refl _,.nil _ _,ac⟩
theorem kV(s:ae):(od s).size=1:=rfl
def vH(r:ar)(i:Int)(t:TS)(f:Int)(v:ae)(o:Expr):TS:=
 if f=2 then(t.add (gk r i i o)).add (gk r i i (od v)) else if f=1 then t.add (gk r i i (od v)) else iL r i i t (od v) o
def pj(p:Prog)(r:ar)(i:Int)(t:TS)(d:List Lit):Nat->TS
 |0=>t
 |k+1=>oi p r i i (pj p r i t d k) (d.getD k co)
def stepT(p:Prog)(r:ar)(i:Int)(t:TS)(l:Lit):TS:=
 if l.kind=4 then pj p r i (vH r i t l.dT l.bI l.j8) l.ay l.ay.length else oi p r i (-1) t l
def TS.o:TS:=⟨[],[],[]⟩
def eQ(p:Prog)(r:ar):Nat->TS
 |0=>TS.o.add (gm p r r.head (-1) (-1) r.head.ak.length)
 |k+1=>stepT p r k (eQ p r k) (r.body.getD k co)
def cS(d:UM)(m:KM)(w:Want):KM:=if w.has=0∧cK (.si .i64) m (bX d w.at_) 0=0 then cJ (.si .i64) m (bX d w.at_) w.kind else m
def mK(p:Prog)(r:ar):TS:=⟨(eQ p r r.body.length).up,(eQ p r r.body.length).ws,(eQ p r r.body.length).ws.foldl (cS (eQ p r r.body.length).up) []⟩
theorem E6(r:ar)(i:Int){t:TS}(ok:ir t.up)(f:Int)(v:ae)(o:Expr):ir (vH r i t f v o).up:=by
 unfold vH
 repeat' split
 .exact ok
 .exact ok
 .exact A5 r i i ok _ _
theorem Au(p:Prog)(r:ar)(i:Int){t:TS}(ok:ir t.up)(d:List Lit): ∀k,ir (pj p r i t d k).up
 |0=>ok
 |k+1=>Gx p r i i (Au p r i ok d k) _
theorem Jw(p:Prog)(r:ar)(i:Int){t:TS}(ok:ir t.up)(l:Lit):ir (stepT p r i t l).up:=by
 unfold stepT;split
 .exact Au p r i (E6 r i ok _ _ _) _ _
 .exact Gx p r i (-1) ok l
theorem yK(p:Prog)(r:ar): ∀k,ir (eQ p r k).up
 |0=>trivial
 |k+1=>Jw p r k (yK p r k) _
theorem vq(r:ar)(lit w:Int)(t:TS)(a b:Expr):(iL r lit w t a b).kind=t.kind:=by
 have d: ∀(t:TS) u v,(vI t u v).kind=t.kind:=fun t u v=>by unfold vI;split<;>rfl
 have j: ∀(t:TS) x y,(gn r lit w t x y).kind=t.kind:=fun t x y=>by
  unfold gn;split
  .exact d _ _ _
  .rfl
 unfold iL;split<;>exact j _ _ _
theorem An(p:Prog)(r:ar)(lit w:Int)(t:TS)(l:Lit):(oi p r lit w t l).kind=t.kind:=by
 unfold oi
 repeat' split
 .rfl
 .exact vq r lit w t _ _
 .rfl
 .rfl
theorem Da(p:Prog)(r:ar)(i:Int)(t:TS)(d:List Lit): ∀k,(pj p r i t d k).kind=t.kind
 |0=>rfl
 |k+1=>by rw[pj,An,Da p r i t d k]
theorem DR(p:Prog)(r:ar)(i:Int)(t:TS)(l:Lit):(stepT p r i t l).kind=t.kind:=by
 unfold stepT;split
 .rw[Da];unfold vH
  repeat' split
  .rfl
  .rfl
  .exact vq r i i t _ _
 .exact An p r i (-1) t l
theorem xv(p:Prog)(r:ar): ∀k,(eQ p r k).kind=[]
 |0=>rfl
 |k+1=>by rw[eQ,DR,xv p r k]
theorem Cg(r:ar)(i:Int)(t:TS)(f:Int)(v:ae)(o:Expr):(vH r i t f v o).ws.length<=t.ws.length+o.size+2:=by
 have u:=hZ r i i o;have d:=hZ r i i (od v);have j:=xB r i i t (od v) o;rw[kV]at d j;unfold vH
 repeat' split
 .show((t.ws++_)++_).length<=_;rw[Tn,Tn];omega
 .show(t.ws++_).length<=_;rw[Tn];omega
 .omega
theorem iT: ∀(l:List Lit) (i:Nat),i<l.length->Lit.an (l.take i)+(l.getD i co).size<=Lit.an l
 | [],i,h=>by simp at h
 |s::r,0,_=>by simp[Lit.an]
 |s::r,i+1,h=>by
  have:=iT r i (by simpa using h);simp only[UL,UK,Lit.an];omega
theorem Lit.tW(l:List Lit)(i:Nat)(h:i<l.length):Lit.an (l.take (i+1))=Lit.an (l.take i)+(l.getD i co).size:=by
 rw[bc h];have: ∀(a:List Lit) (b:Lit),Lit.an (a++ [b])=Lit.an a+b.size:=by
  intro a b
  induction a with
  |nil=>simp[Lit.an]
  |cons x r ih=>simp only[TV,Lit.an,ih];omega
 exact this _ _
theorem uM(p:Prog)(r:ar)(i:Int)(t:TS)(d:List Lit): ∀k,k<=d.length->(pj p r i t d k).ws.length<=t.ws.length+Lit.an (d.take k)
 |0,_=>by simp[pj,Lit.an]
 |k+1,h=>by
  have j:=uM p r i t d k (by omega);have u:=CY p r i i (pj p r i t d k) (d.getD k co);rw[pj,Lit.tW d k (by omega)];omega
theorem Fx(p:Prog)(r:ar)(i:Int)(t:TS)(l:Lit):(stepT p r i t l).ws.length<=t.ws.length+l.size:=by
 have j:=l.size_eq;unfold stepT;split
 .have d:=uM p r i (vH r i t l.dT l.bI l.j8) l.ay l.ay.length (Tv _);have u:=Cg r i t l.dT l.bI l.j8;rw[Uj]at d;omega
 .exact CY p r i (-1) t l
theorem vh(p:Prog)(r:ar): ∀k,k<=r.body.length->(eQ p r k).ws.length<=r.head.ak.length+Lit.an (r.body.take k)
 |0,_=>by
  have:=mr p r r.head (-1) (-1) r.head.ak.length;show([]++_).length<=_;simp only[T3];omega
 |k+1,h=>by
  have d:=vh p r k (by omega);have j:=Fx p r k (eQ p r k) (r.body.getD k co);rw[eQ,Lit.tW r.body k (by omega)];omega
theorem SP(r:ar)(d:UM)(kd:KM)(W:IV)(v0:cA)(ok:ir d):bC prog 268 [.ptr 0 0,ag v0.c] [.cells [.iv (cG r),.mp 1,.iv W,.mp 2],oq d,oz kd] (ag (bX d v0).c) [(0,dl (.cells [.iv (cG r),.mp 1,.iv W,.mp 2])),(1,dl (oq d)),(2,dl (oz kd))] 3:=by
 refine aq ab func268 I (by decide) ntmps268 I (by simp) ?_;refine gA I ?_
 refine lA (σ:={v:cA//bX d v=bX d v0}) (fun v=>⟨[(0,.ptr 0 0),(3,.ptr 3 0),(4,.ptr 4 0)],
  [(0,dl (.cells [.iv (cG r),.mp 1,.iv W,.mp 2])),(1,dl (oq d)),(2,dl (oz kd)),(3,dl (.cells [pS v.1.1,pI v.1.2])),(4,dl (.cells [pS ⟨#[]⟩,pI 0]))],5⟩) (fun v=>DH d v.1) ⟨v0,rfl⟩ []
  (zW (zO (zC (zC ⟨⟨_,rfl,.of_eq I⟩,Tk I,rfl,⟨_,rfl,.of_eq I⟩,Tk I,rfl,ac⟩)))) fun v=>?_
 obtain⟨v,j⟩:=v;refine zJ I I (fun g=>?_) fun g=>?_
 .have h:cZ (.si .i64) d v=jp:=by simpa using g
  have e:bX d v0=v:=by rw[<-j];exact p8 d v h
  refine gA I (zD [] I (zM ⟨.of_eq (congrArg (fun x:cA=>ag x.c) e.symm),rfl,ac⟩ (zO (zC (zC ac)))))
 .have h:cZ (.si .i64) d v=is:=by simpa using g
  obtain⟨u,y⟩:=mO d v ok h;refine gA I ⟨⟨cK (.si .i64) d v cA.z,u.trans j⟩,[],y,zW (zO (zC (zC ⟨⟨_,rfl,.of_eq I⟩,Tk I,rfl,⟨_,rfl,.of_eq I⟩,Tk I,rfl,ac⟩)))⟩
set_option maxHeartbeats 2000000 in
theorem c49(p:Prog)(r:ar)(hb:r.size<=100000000):Pure prog 222 [.iv (cU p),.iv (cG r)] (.iv (NL r (mK p r))):=by
 unfold ar.size at hb;have c0:=Lit.aA r.body;have j0:r.body.length<=Lit.an r.body:=c0;refine ai ab func222 I (by decide) ntmps222 I (by simp) I ?_;refine gM 14 I (fm 2 2 5 I I ?_);refine ep [] (t:=⟨[(0,.iv (cU p)),(1,.iv (cG r)),(5,.ptr 2 0)],[(2,dl (TS.cell r 0 3 TS.o.ws.length 1)),(0,dl (oq TS.o.up)),(3,dl (aX 5 TS.o.ws Want.c)),(1,dl (oz TS.o.kind))],4⟩)
  (zW ⟨⟨_,rfl,.of_eq I⟩,Tk I,rfl,⟨_,rfl,Kl⟩,Tk I,ac,⟨_,rfl,.of_eq I⟩,Tk I,cQ _,⟨_,rfl,Km⟩,Tk I,ac,ac⟩) ?_
 refine gA I (Aw (d90 p r TS.o r.head (-1) (-1) (by show 0+_<=_;omega)) I I I I I I I (by first|rfl|(rw[Tn];rfl)|simp) (by first|rfl|(rw[TA];rfl)|(simp only[TA,Tz];rfl)) I I I I I I ?_);refine gA I ?_
 refine aG 0 r.body.length (TB _) (fun i=>⟨[(0,.iv (cU p)),(1,.iv (cG r)),(5,.ptr 2 0),(31,.iv (lits r.body)),(32,pI r.body.length),(33,pI i)],
  [(2,dl (TS.cell r 0 5 (eQ p r i).ws.length 1)),(0,dl (oq (eQ p r i).up)),(5,dl (aX 5 (eQ p r i).ws Want.c)),(1,dl (oz (eQ p r i).kind))],6⟩) (fun _=>True) _ ac
  (Lj (t:=eQ p r 0) I I I I I I I I I I I (bi (bi (bi (bi (bi (bi trivial))))))) fun i hi _=>?_
 have g0:=vh p r i hi;have B:=yK p r i;refine zJ I I (fun y=>?_) fun y=>?_
 .have y:i<r.body.length:=by simpa using y
  have l0:=iT r.body i y;have F:eQ p r (i+1)=stepT p r i (eQ p r i) (r.body.getD i co):=rfl;generalize eQ p r i=t1 at*
  have m0:=(r.body.getD i co).size_eq;refine zJ I I (fun D=>?_) fun D=>?_
  .have D: ¬(r.body.getD i co).kind=4:=by have g:(!kw ((r.body.getD i co).kind=4))=is:=D;simpa only[UD,decide_eq_false_iff_not]using g
   have hS:stepT p r i t1 (r.body.getD i co)=oi p r i (-1) t1 (r.body.getD i co):=be D;rw[hS]at F;refine gA I (De (d91 p r t1 (r.body.getD i co) i (-1) B (by omega)) ?_);refine gA I ⟨y,ac,_,oL (F.symm)⟩
  have D:(r.body.getD i co).kind=4:=by have g:(!kw ((r.body.getD i co).kind=4))=jp:=D;simpa only[Vl,decide_eq_true_eq]using g
  have hS:stepT p r i t1 (r.body.getD i co)=pj p r i (vH r i t1 (r.body.getD i co).dT (r.body.getD i co).bI (r.body.getD i co).j8) (r.body.getD i co).ay (r.body.getD i co).ay.length:=am D;rw[hS]at F;have hV:vH r i t1 (r.body.getD i co).dT (r.body.getD i co).bI (r.body.getD i co).j8=if(r.body.getD i co).dT=2 then(t1.add (gk r i i (r.body.getD i co).j8)).add (gk r i i (od (r.body.getD i co).bI)) else if(r.body.getD i co).dT=1 then t1.add (gk r i i (od (r.body.getD i co).bI)) else iL r i i t1 (od (r.body.getD i co).bI) (r.body.getD i co).j8:=rfl;have C:=E6 r i B (r.body.getD i co).dT (r.body.getD i co).bI (r.body.getD i co).j8;have i0:=Cg r i t1 (r.body.getD i co).dT (r.body.getD i co).bI (r.body.getD i co).j8;have b0:=Lit.aA (r.body.getD i co).ay;have n0:=kV (r.body.getD i co).bI;have k0:=hZ r i i (r.body.getD i co).j8;generalize vH r i t1 (r.body.getD i co).dT (r.body.getD i co).bI (r.body.getD i co).j8=V at*
  refine zJ I I (fun f2=>?_) fun f2=>?_
  .have f2:(r.body.getD i co).dT=2:=zT f2;have Z:V=(t1.add (gk r i i (r.body.getD i co).j8)).add (gk r i i (od (r.body.getD i co).bI)):=by rw[hV,am f2]
   refine gA I (De (Hl r t1 (r.body.getD i co).j8 i i (by omega)) ?_);refine gA I (Aw (bC.le (aa:=[.ptr 0 0,H6 (r.body.getD i co).bI,pI i,pI i]) (Hl r (t1.add (gk r i i (r.body.getD i co).j8)) (od (r.body.getD i co).bI) i i (by show(t1.ws++_).length+_<=_;rw[Tn,kV];omega)) ⟨.refl _,xG _,.refl _,.refl _,ac⟩) I I I I I I I (by first|rfl|(rw[Tn];rfl)|simp) (by first|rfl|(rw[TA];rfl)|(simp only[TA,Tz];rfl)) I I I I I I ?_);refine gA I ?_;refine aG 0 (r.body.getD i co).ay.length (TB _) (fun k=>⟨[(0,.iv (cU p)),(1,.iv (cG r)),(5,.ptr 2 0),(6,pI i),(31,.iv (lits r.body)),(32,pI r.body.length),(33,pI i),(79,.iv (lits (r.body.getD i co).ay)),(80,pI (r.body.getD i co).ay.length),(81,pI k)],[(2,dl (TS.cell r 0 10 (pj p r i V (r.body.getD i co).ay k).ws.length 1)),(0,dl (oq (pj p r i V (r.body.getD i co).ay k).up)),(10,dl (aX 5 (pj p r i V (r.body.getD i co).ay k).ws Want.c)),(1,dl (oz (pj p r i V (r.body.getD i co).ay k).kind))],11⟩) (fun _=>True) _ ac
    (Lj Z.symm I I I I I I I I I I (bi (bi (bi (bi (bi (bi (bi ⟨.iv (nh _),rfl,bi (bi trivial)⟩)))))))) fun k u _=>?_
   have G:=uM p r i V (r.body.getD i co).ay k u;have j:=Au p r i C (r.body.getD i co).ay k;have J:pj p r i V (r.body.getD i co).ay (k+1)=oi p r i i (pj p r i V (r.body.getD i co).ay k) ((r.body.getD i co).ay.getD k co):=rfl;refine zJ I I (fun d=>?_) fun d=>?_
   .have d:k<(r.body.getD i co).ay.length:=zN d;have Y:=iT (r.body.getD i co).ay k d;refine gA I (De (d91 p r (pj p r i V (r.body.getD i co).ay k) ((r.body.getD i co).ay.getD k co) i i j (by omega)) ?_);refine gA I ⟨d,ac,_,oL (rfl)⟩
   .have d:(r.body.getD i co).ay.length<=k:=zG d;have x:k=(r.body.getD i co).ay.length:=by omega
    subst x;refine gA I ⟨y,ac,_,oL (F.symm)⟩
  have f2: ¬(r.body.getD i co).dT=2:=zF f2;rw[be f2]at hV;refine zJ I I (fun f1=>?_) fun f1=>?_
  .have f1:(r.body.getD i co).dT=1:=zT f1;have Z:V=t1.add (gk r i i (od (r.body.getD i co).bI)):=by rw[hV,am f1]
   refine gA I (De (bC.le (aa:=[.ptr 0 0,H6 (r.body.getD i co).bI,pI i,pI i]) (Hl r t1 (od (r.body.getD i co).bI) i i (by rw[kV];omega)) ⟨.refl _,xG _,.refl _,.refl _,ac⟩) ?_);refine gA I ?_;refine aG 0 (r.body.getD i co).ay.length (TB _) (fun k=>⟨[(0,.iv (cU p)),(1,.iv (cG r)),(5,.ptr 2 0),(6,pI i),(31,.iv (lits r.body)),(32,pI r.body.length),(33,pI i),(79,.iv (lits (r.body.getD i co).ay)),(80,pI (r.body.getD i co).ay.length),(81,pI k)],[(2,dl (TS.cell r 0 9 (pj p r i V (r.body.getD i co).ay k).ws.length 1)),(0,dl (oq (pj p r i V (r.body.getD i co).ay k).up)),(9,dl (aX 5 (pj p r i V (r.body.getD i co).ay k).ws Want.c)),(1,dl (oz (pj p r i V (r.body.getD i co).ay k).kind))],10⟩) (fun _=>True) _ ac
    (Lj Z.symm I I I I I I I I I I (bi (bi (bi (bi (bi (bi (bi ⟨.iv (nh _),rfl,bi (bi trivial)⟩)))))))) fun k u _=>?_
   have G:=uM p r i V (r.body.getD i co).ay k u;have j:=Au p r i C (r.body.getD i co).ay k;have J:pj p r i V (r.body.getD i co).ay (k+1)=oi p r i i (pj p r i V (r.body.getD i co).ay k) ((r.body.getD i co).ay.getD k co):=rfl;refine zJ I I (fun d=>?_) fun d=>?_
   .have d:k<(r.body.getD i co).ay.length:=zN d;have Y:=iT (r.body.getD i co).ay k d;refine gA I (De (d91 p r (pj p r i V (r.body.getD i co).ay k) ((r.body.getD i co).ay.getD k co) i i j (by omega)) ?_);refine gA I ⟨d,ac,_,oL (rfl)⟩
   .have d:(r.body.getD i co).ay.length<=k:=zG d;have x:k=(r.body.getD i co).ay.length:=by omega
    subst x;refine gA I ⟨y,ac,_,oL (F.symm)⟩
  .have f1: ¬(r.body.getD i co).dT=1:=zF f1;have Z:V=iL r i i t1 (od (r.body.getD i co).bI) (r.body.getD i co).j8:=by rw[hV,be f1]
   refine gA I (De (bC.le (aa:=[.ptr 0 0,H6 (r.body.getD i co).bI,ag (r.body.getD i co).j8.c,pI i,pI i]) (d93 r t1 (od (r.body.getD i co).bI) (r.body.getD i co).j8 i i B (by rw[kV];omega)) ⟨.refl _,xG _,.refl _,.refl _,.refl _,ac⟩) ?_);refine gA I ?_;refine aG 0 (r.body.getD i co).ay.length (TB _) (fun k=>⟨[(0,.iv (cU p)),(1,.iv (cG r)),(5,.ptr 2 0),(6,pI i),(31,.iv (lits r.body)),(32,pI r.body.length),(33,pI i),(79,.iv (lits (r.body.getD i co).ay)),(80,pI (r.body.getD i co).ay.length),(81,pI k)],[(2,dl (TS.cell r 0 9 (pj p r i V (r.body.getD i co).ay k).ws.length 1)),(0,dl (oq (pj p r i V (r.body.getD i co).ay k).up)),(9,dl (aX 5 (pj p r i V (r.body.getD i co).ay k).ws Want.c)),(1,dl (oz (pj p r i V (r.body.getD i co).ay k).kind))],10⟩) (fun _=>True) _ ac
    (Lj Z.symm I I I I I I I I I I (bi (bi (bi (bi (bi (bi (bi ⟨.iv (nh _),rfl,bi (bi trivial)⟩)))))))) fun k u _=>?_
   have G:=uM p r i V (r.body.getD i co).ay k u;have j:=Au p r i C (r.body.getD i co).ay k;have J:pj p r i V (r.body.getD i co).ay (k+1)=oi p r i i (pj p r i V (r.body.getD i co).ay k) ((r.body.getD i co).ay.getD k co):=rfl;refine zJ I I (fun d=>?_) fun d=>?_
   .have d:k<(r.body.getD i co).ay.length:=zN d;have Y:=iT (r.body.getD i co).ay k d;refine gA I (De (d91 p r (pj p r i V (r.body.getD i co).ay k) ((r.body.getD i co).ay.getD k co) i i j (by omega)) ?_);refine gA I ⟨d,ac,_,oL (rfl)⟩
   .have d:(r.body.getD i co).ay.length<=k:=zG d;have x:k=(r.body.getD i co).ay.length:=by omega
    subst x;refine gA I ⟨y,ac,_,oL (F.symm)⟩
 .have y:r.body.length<=i:=by simpa using y
  have d0:i=r.body.length:=by omega
  subst d0;have hT:mK p r=⟨(eQ p r r.body.length).up,(eQ p r r.body.length).ws,(eQ p r r.body.length).ws.foldl (cS (eQ p r r.body.length).up) []⟩:=rfl;rw[hT];rw[Uj]at g0;have f0:(eQ p r r.body.length).kind=[]:=xv p r _;generalize eQ p r r.body.length=t1 at*
  have a0:t1.kind=(t1.ws.take 0).foldl (cS t1.up) []:=f0;refine gA I ?_;refine eW 5 (fun k=>Want.c (t1.ws.getD k co)) I (dq I) (by simp[AF.iw,PV.bh,kS]) ⟨(by simp[AO.iw,bg,PV.bh]),ac,cX _ _ _ _ _ _,ac,ac⟩ ?_
  refine aG 0 t1.ws.length (TB _) (fun i=>⟨[(5,.ptr 2 0),(96,.iv (bp 5 t1.ws Want.c)),(97,pI t1.ws.length),(98,pI i)],
   [(2,dl (.cells [.iv (cG r),.mp 0,.iv (bp 5 t1.ws Want.c),.mp 1])),(0,dl (oq t1.up)),(1,dl (oz ((t1.ws.take i).foldl (cS t1.up) [])))],6⟩) (fun _=>True) [] ac
   (zM (bi ⟨.bU I (fun k _=>by rw[TL]),rfl,bi (bi trivial)⟩) ⟨⟨_,rfl,.cells ⟨.refl _,.refl _,.bU I (fun k _=>by rw[TL]),.refl _,ac⟩⟩,Tk I,rfl,zC (hM I a0 I trivial)⟩) fun i hi _=>?_
  refine zJ I I (fun d=>?_) fun d=>?_
  .have d:i<t1.ws.length:=zN d;have A:=iG (g:=cS t1.up) (b:=[]) d;refine gA I (zq [2,0,1] (SP r t1.up ((t1.ws.take i).foldl (cS t1.up) []) (bp 5 t1.ws Want.c) (t1.ws.getD i co).at_ B) ?_);refine zJ I I (fun g1=>?_) fun g1=>?_
   .have g1:(t1.ws.getD i co).has=0:=zT g1;refine zJ I I (fun g2=>?_) fun g2=>?_
    .have g2:cK (.si .i64) ((t1.ws.take i).foldl (cS t1.up) []) (bX t1.up (t1.ws.getD i co).at_) 0=0:=zT g2;have u:cS t1.up ((t1.ws.take i).foldl (cS t1.up) []) (t1.ws.getD i co)=cJ (.si .i64) ((t1.ws.take i).foldl (cS t1.up) []) (bX t1.up (t1.ws.getD i co).at_) (t1.ws.getD i co).kind:=am ⟨g1,g2⟩;rw[u]at A;refine gA I ⟨d,ac,[],zW (zO (zC (hM I (by first|exact A.symm|(rw[A];rfl)) I ac)))⟩
    .have g2: ¬cK (.si .i64) ((t1.ws.take i).foldl (cS t1.up) []) (bX t1.up (t1.ws.getD i co).at_) 0=0:=zF g2;have u:cS t1.up ((t1.ws.take i).foldl (cS t1.up) []) (t1.ws.getD i co)=(t1.ws.take i).foldl (cS t1.up) []:=be fun h=>g2 h.2;rw[u]at A;refine gA I ⟨d,ac,[],zW (zO (zC (hM I (by first|exact A.symm|(rw[A];rfl)) I ac)))⟩
   .have g1: ¬(t1.ws.getD i co).has=0:=zF g1;have u:cS t1.up ((t1.ws.take i).foldl (cS t1.up) []) (t1.ws.getD i co)=(t1.ws.take i).foldl (cS t1.up) []:=be fun h=>g1 h.1;rw[u]at A;refine gA I ⟨d,ac,[],zW (zO (zC (hM I (by first|exact A.symm|(rw[A];rfl)) I ac)))⟩
  .have d:t1.ws.length<=i:=zG d;have e0:t1.ws.take i=t1.ws:=TE d;refine iq I ac (iP (.inr I) I (.map 0 I (.map 1 I (.cells 2 _ I (show _=List.map PV.iv [cG r,upI t1.up,bp 5 t1.ws Want.c,kdI (t1.ws.foldl (cS t1.up) [])] by rw[e0];rfl) (.done (.of_eq I))))))
def tv(a:Atom):Bool:=(gV WS.o a).bad
def rA(l:Lit):Bool:=(dJ l.size l WS.o).bad
def tE(l:Lit):Bool:=kw (l.kind=4)&&kw ((l.ay.length:Int)>12)
def ix(n:Nat):List Int:=(Uk (n+1)).map fun k:Nat=>(k:Int)-1
theorem rz(n:Nat):(ix n).length=n+1:=by simp[ix]
theorem wU(n k:Nat)(h:k<n+1):(ix n).getD k co=(k:Int)-1:=by simp[ix,h]
def BX(f:Int->Bool)(n:Nat):Option Int:=(ix n).find? f
abbrev fY:=Int×Pos
def fY.c(d:fY):List IV:=[iI d.1,iI d.2.line,iI d.2.H2]
def mZ(r:ar)(e:Int)(f:Int->Bool)(k:fY):fY:=match BX f r.body.length with
 |some lit=>(e,rm r lit)
 |none=>k
def yq(p:Prog)(r:ar):fY:=
 mZ r 61 (fun lit=>(fz r lit).any fun x=>vv p x)<|mZ r 62 (fun lit=>(fz r lit).any fun x=>yM p x)<|mZ r 65 (lQ r)<|mZ r 63 (qS (mK p r))<|mZ r 64 (kN r) (0,⟨0,0⟩)
def r5(p:Prog)(r:ar)(n:Int):fY:=
 if tv r.head=is then(1,r.at_) else match r.body.find? rA with
 |some l=>(1,l.at)
 |none=>if n>256∨(r.body.length:Int)>12 then(66,r.at_) else if(FB r:Int)>24 then(66,r.at_) else match r.body.find? tE with
  |some l=>(66,l.at)
  |none=>yq p r
def ar.fit(r:ar):Prop:=r.size<=10000000∧r.head.ts<=900000000∧ ∀l∈r.body,l.ts<=900000000
theorem lD{α:Type}{p:α->Bool}{l:List α}(h:l.any p=jp):l.find? p=io:=by
 rw[VM];intro x d;have:=Uo.1 h x d;simpa using this
theorem nr{α:Type}[Inhabited α]{p:α->Bool}{l:List α}{i:Nat}(h:(l.take i).any p=jp)(hi:i<l.length)(hp:p (l.getD i co)=is):l.find? p=dl (l.getD i co):=by
 have d:l.getD i co=l[i]:=by simp[hi]
 rw[d]at hp ⊢;rw[List.find?_eq_some_iff_getElem];refine⟨hp,i,hi,rfl,fun j u=>?_⟩;have:=Uo.1 h l[j] (List.mem_iff_getElem?.2 ⟨j,by rw[T4,am u,Ts (by omega)]⟩);simpa using this
def iX(p:Prog)(r:ar):List (List PV):=[[pI 61,.cN (.func 214) [] [.ptr 1 0,.ptr 0 0]],[pI 62,.cN (.func 218) [] [.ptr 1 0,.ptr 0 0]],[pI 65,.cN (.func 220) [] [.ptr 1 0]],[pI 63,.cN (.func 223) [.iv (NL r (mK p r))] []],[pI 64,.cN (.func 224) [.iv (cG r)] []]]
theorem cD(p:Prog)(r:ar)(n:Nat)(h:TU 1 n=is):(AO.row 2 (iX p r)).low n:=by
 have j:TU 0 n=is:=Uu (by have:=Tk h;omega);intro k e d
 match k,d with
 |0,d=>cases d;simp[bD,PV.low,h,j]
 |1,d=>cases d;simp[bD,PV.low,h,j]
 |2,d=>cases d;simp[bD,PV.low,h,j]
 |3,d=>cases d;simp[bD,PV.low,h,j]
 |4,d=>cases d;simp[bD,PV.low,h,j]
 |k+5,d=>simp[iX]at d
theorem mY{r:ar}{e:Int}{f:Int->Bool}{k:fY}{i:Nat}(j:((ix r.body.length).take i).any f=jp)(hi:i<r.body.length+1)(h:f ((i:Int)-1)=is):mZ r e f k=(e,rm r ((i:Int)-1)):=by
 have d:=wU r.body.length i hi;have:=nr j (by rw[rz];exact hi) (by rw[d];exact h);rw[d]at this;rw[mZ,BX,this]
theorem lu{r:ar}{e:Int}{f:Int->Bool}{k:fY}{i:Nat}(d:((ix r.body.length).take i).any f=jp)(hi:r.body.length+1<=i):mZ r e f k=k:=by
 rw[TE (by rw[rz];exact hi)]at d;rw[mZ,BX,lD d]
theorem lr{r:ar}{f:Int->Bool}{i:Nat}(d:((ix r.body.length).take i).any f=jp)(hi:i<r.body.length+1)(h:f ((i:Int)-1)=jp):((ix r.body.length).take (i+1)).any f=jp:=by
 refine(c7 d (by rw[rz];exact hi)).2 ?_;rw[wU _ _ hi];exact h
set_option maxHeartbeats 4000000 in
theorem c65(p:Prog)(r:ar)(n:Int)(hb:r.fit):Pure prog 172 [.iv (cU p),ag r.c,pI n] (ag (r5 p r n).c):=by
 obtain⟨hb,J,Y⟩:=hb;have c0:r.size=r.head.ak.length+Lit.an r.body:=rfl;have a0:=Lit.aA r.body;refine ai ab func172 I (by decide) ntmps172 I (by simp) I ?_;refine gA I (zp (c61 r.head J) ?_);refine zJ I I (fun g1=>?_) fun g1=>?_
 .have g1:tv r.head=is:=by
   cases h:tv r.head with
   |true=>rfl
   |false=>
    have h:(gV WS.o r.head).bad=jp:=h;rw[h]at g1;simp at g1
  rw[r5,am g1];exact zU I
 have g1: ¬tv r.head=is:=by
  intro h;have h:(gV WS.o r.head).bad=is:=h;rw[h]at g1;simp at g1
 rw[r5,be g1];refine gA I ?_;refine aG 0 r.body.length (TB _) (fun i=>⟨[(2,pI n),(3,.ptr 0 0),(4,.ptr 1 0),(6,.ptr 2 0),(32,.iv (lits r.body)),(33,pI r.body.length),(34,pI i)],[(0,dl (.cells [.iv (cU p)])),(1,dl (az r.c)),(2,dl (.cells [pI 0,pI 0,pI 0]))],3⟩) (fun i=>(r.body.take i).any rA=jp) [] (by simp)
  (zW ⟨⟨_,rfl,.of_eq I⟩,Tk I,rfl,⟨_,rfl,.of_eq I⟩,Tk I,rfl,⟨_,rfl,.of_eq I⟩,Tk I,rfl,ac⟩) fun i hi u=>?_
 refine zJ I I (fun B=>?_) fun B=>?_
 .have B:i<r.body.length:=zN B;have G:=c7 u B;have hm:r.body.getD i co∈r.body:=by rw[Tr,Ts B];exact Uw B
  have b0:=Lit.cf r.body i B;refine gA I (aP (Ta (r.body.getD i co) (Y _ hm) (by omega)) I I I I I I ?_);refine zJ I I (fun A=>?_) fun A=>?_
  .have A:rA (r.body.getD i co)=is:=by
    cases h:rA (r.body.getD i co) with
    |true=>rfl
    |false=>
     have h:(dJ (r.body.getD i co).size (r.body.getD i co) WS.o).bad=jp:=h;have g:(!kw ((if(dJ (r.body.getD i co).size (r.body.getD i co) WS.o).bad=is then(50:Int) else 0)=0))=is:=A;rw[h]at g;simp at g
   rw[nr u B A];exact zU I
  .have A:rA (r.body.getD i co)=jp:=by
    cases h:rA (r.body.getD i co) with
    |false=>rfl
    |true=>
     have h:(dJ (r.body.getD i co).size (r.body.getD i co) WS.o).bad=is:=h;have g:(!kw ((if(dJ (r.body.getD i co).size (r.body.getD i co) WS.o).bad=is then(50:Int) else 0)=0))=jp:=A;rw[h]at g;simp at g
   refine gA I ⟨B,G.2 A,[],zW ⟨⟨_,rfl,.of_eq I⟩,Tk I,rfl,⟨_,rfl,.of_eq I⟩,Tk I,rfl,⟨_,rfl,.of_eq I⟩,Tk I,rfl,ac⟩⟩
 have B:r.body.length<=i:=zG B;rw[TE B]at u;rw[lD u];refine zE I I (fun g2=>?_) fun g2=>?_
 .have g2:n>256:=by simpa using g2
  rw[am (.inl g2)];exact zU I
 have g2: ¬n>256:=zF g2;refine zJ I I (fun g3=>?_) fun g3=>?_
 .rw[am (.inr (zT g3))];exact zU I
 have g3: ¬(r.body.length:Int)>12:=zF g3;rw[be (by rintro(h|h);exact g2 h;exact g3 h)];refine gA I (zp (c48 r (by omega)) ?_);refine gA I (zp (S9 r (by omega)) ?_);refine zJ I I (fun g4=>?_) fun g4=>?_
 .rw[am (zT g4)];exact zU I
 have g4: ¬(FB r:Int)>24:=zF g4;rw[be g4];refine gA I ?_;refine aG 0 r.body.length (TB _) (fun i=>⟨[(3,.ptr 0 0),(4,.ptr 1 0),(6,.ptr 2 0),(13,.iv (cG r)),(69,.iv (lits r.body)),(70,pI r.body.length),(71,pI i)],[(0,dl (.cells [.iv (cU p)])),(1,dl (az r.c)),(2,dl (.cells [pI 0,pI 0,pI 0]))],3⟩) (fun i=>(r.body.take i).any tE=jp) [] (by simp)
  (zW ⟨⟨_,rfl,.of_eq I⟩,Tk I,rfl,⟨_,rfl,.of_eq I⟩,Tk I,rfl,⟨_,rfl,.of_eq I⟩,Tk I,rfl,ac⟩) fun i hi u=>?_
 refine zJ I I (fun A=>?_) fun A=>?_
 .have A:i<r.body.length:=zN A;have G:=c7 u A;refine zJ I I (fun D=>?_) fun D=>?_
  .have D:(r.body.getD i co).kind=4:=zT D;refine zJ I I (fun F=>?_) fun F=>?_
   .have F:tE (r.body.getD i co)=is:=by rw[tE,decide_eq_true D];exact F
    rw[nr u A F];exact zU I
   .have F:tE (r.body.getD i co)=jp:=by rw[tE,decide_eq_true D];exact F
    refine gA I ⟨A,G.2 F,[],zW ⟨⟨_,rfl,.of_eq I⟩,Tk I,rfl,⟨_,rfl,.of_eq I⟩,Tk I,rfl,⟨_,rfl,.of_eq I⟩,Tk I,rfl,ac⟩⟩
  .have D: ¬(r.body.getD i co).kind=4:=zF (by have g:kw ((r.body.getD i co).kind=4)=jp:=D;exact g);refine gA I ⟨A,G.2 (by rw[tE,decide_eq_false D];rfl),[],zW ⟨⟨_,rfl,.of_eq I⟩,Tk I,rfl,⟨_,rfl,.of_eq I⟩,Tk I,rfl,⟨_,rfl,.of_eq I⟩,Tk I,rfl,ac⟩⟩
 have A:r.body.length<=i:=zG A;rw[TE A]at u;rw[lD u];refine gA I (zp (c49 p r (by omega)) ?_);refine gA I ?_;refine ep [] (t:=⟨[(3,.ptr 0 0),(4,.ptr 1 0),(6,.ptr 2 0),(104,.sl 3 0 5 2),(105,pI 5),(106,pI 0)],[(0,dl (.cells [.iv (cU p)])),(1,dl (az r.c)),(2,dl (.cells [pI 0,pI 0,pI 0])),(3,dl (.row 2 (iX p r)))],4⟩)
  (zW (zO (zO (zO ⟨⟨_,rfl,.of_eq I⟩,Tk I,cD p r _ I,ac⟩)))) ?_
 have Z:(mK p r).ws.length<=1000000000000:=by have:=vh p r r.body.length (Tv _);rw[Uj]at this;show(eQ p r r.body.length).ws.length<=_;omega
 rw[yq];refine yA (n:=6) ?_;refine zE I I (fun q=>?_) fun q=>?_
 .exact absurd (show is=jp from q) (by decide)
 refine gA I ?_;refine aG 0 (r.body.length+1) (TB _) (fun k=>⟨[(3,.ptr 0 0),(4,.ptr 1 0),(6,.ptr 2 0),(18,.ptr 4 0),(19,pI ((k:Int)-1)),(104,.sl 3 0 5 2),(105,pI 5),(106,pI 0)],[(0,dl (.cells [.iv (cU p)])),(1,dl (az r.c)),(2,dl (.cells [pI 0,pI 0,pI 0])),(3,dl (.row 2 (iX p r))),(4,dl (.cells [pI 61,.cN (.func 214) [] [.ptr 1 0,.ptr 0 0]]))],5⟩) (fun k=>((ix r.body.length).take k).any (fun lit=>(fz r lit).any fun x=>vv p x)=jp) [] I
  (zW (zO (zO (zO ⟨⟨_,rfl,.of_eq I⟩,Tk I,cD p r _ I,(zO trivial)⟩)))) fun k C u=>?_
 refine zJ I I (fun j=>?_) fun j=>?_
 .have j:(k:Int)-1<r.body.length:=zT j;have d:k<r.body.length+1:=by omega
  refine gA I (zq [1,0] (d110 p r ((k:Int)-1) (by omega) (by omega)) ?_);refine zJ I I (fun y=>?_) fun y=>?_
  .rw[mY u d y];refine gA I (B9 (Hx r ((k:Int)-1) j) ?_);exact zU I
  .refine gA I ?_;exact⟨d,lr u d y,[],zM (bi (bi (bi (bi ⟨.of_eq (EZ (by omega)),rfl,bi (bi (bi ac))⟩)))) (zO (zO (zO ⟨⟨_,rfl,.of_eq I⟩,Tk I,cD p r _ I,(zO ac)⟩)))⟩
 have j: ¬(k:Int)-1<r.body.length:=zF j;rw[lu u (by omega)];clear u C j;refine zE I I (fun q=>?_) fun q=>?_
 .exact absurd (show is=jp from q) (by decide)
 refine gA I ?_;refine aG 0 (r.body.length+1) (TB _) (fun k=>⟨[(3,.ptr 0 0),(4,.ptr 1 0),(6,.ptr 2 0),(18,.ptr 5 0),(19,pI ((k:Int)-1)),(104,.sl 3 0 5 2),(105,pI 5),(106,pI 1)],[(0,dl (.cells [.iv (cU p)])),(1,dl (az r.c)),(2,dl (.cells [pI 0,pI 0,pI 0])),(3,dl (.row 2 (iX p r))),(5,dl (.cells [pI 62,.cN (.func 218) [] [.ptr 1 0,.ptr 0 0]]))],6⟩) (fun k=>((ix r.body.length).take k).any (fun lit=>(fz r lit).any fun x=>yM p x)=jp) [] I
  (zW (zO (zO (zO ⟨⟨_,rfl,.of_eq I⟩,Tk I,cD p r _ I,(zO trivial)⟩)))) fun k C u=>?_
 refine zJ I I (fun j=>?_) fun j=>?_
 .have j:(k:Int)-1<r.body.length:=zT j;have d:k<r.body.length+1:=by omega
  refine gA I (zq [1,0] (d114 p r ((k:Int)-1) (by omega) (by omega)) ?_);refine zJ I I (fun y=>?_) fun y=>?_
  .rw[mY u d y];refine gA I (B9 (Hx r ((k:Int)-1) j) ?_);exact zU I
  .refine gA I ?_;exact⟨d,lr u d y,[],zM (bi (bi (bi (bi ⟨.of_eq (EZ (by omega)),rfl,bi (bi (bi ac))⟩)))) (zO (zO (zO ⟨⟨_,rfl,.of_eq I⟩,Tk I,cD p r _ I,(zO ac)⟩)))⟩
 have j: ¬(k:Int)-1<r.body.length:=zF j;rw[lu u (by omega)];clear u C j;refine zE I I (fun q=>?_) fun q=>?_
 .exact absurd (show is=jp from q) (by decide)
 refine gA I ?_;refine aG 0 (r.body.length+1) (TB _) (fun k=>⟨[(3,.ptr 0 0),(4,.ptr 1 0),(6,.ptr 2 0),(18,.ptr 6 0),(19,pI ((k:Int)-1)),(104,.sl 3 0 5 2),(105,pI 5),(106,pI 2)],[(0,dl (.cells [.iv (cU p)])),(1,dl (az r.c)),(2,dl (.cells [pI 0,pI 0,pI 0])),(3,dl (.row 2 (iX p r))),(6,dl (.cells [pI 65,.cN (.func 220) [] [.ptr 1 0]]))],7⟩) (fun k=>((ix r.body.length).take k).any (lQ r)=jp) [] I
  (zW (zO (zO (zO ⟨⟨_,rfl,.of_eq I⟩,Tk I,cD p r _ I,(zO trivial)⟩)))) fun k C u=>?_
 refine zJ I I (fun j=>?_) fun j=>?_
 .have j:(k:Int)-1<r.body.length:=zT j;have d:k<r.body.length+1:=by omega
  refine gA I (zq [1] (d116 r ((k:Int)-1) (by omega) (by omega)) ?_);refine zJ I I (fun y=>?_) fun y=>?_
  .rw[mY u d y];refine gA I (B9 (Hx r ((k:Int)-1) j) ?_);exact zU I
  .refine gA I ?_;exact⟨d,lr u d y,[],zM (bi (bi (bi (bi ⟨.of_eq (EZ (by omega)),rfl,bi (bi (bi ac))⟩)))) (zO (zO (zO ⟨⟨_,rfl,.of_eq I⟩,Tk I,cD p r _ I,(zO ac)⟩)))⟩
 have j: ¬(k:Int)-1<r.body.length:=zF j;rw[lu u (by omega)];clear u C j;refine zE I I (fun q=>?_) fun q=>?_
 .exact absurd (show is=jp from q) (by decide)
 refine gA I ?_;refine aG 0 (r.body.length+1) (TB _) (fun k=>⟨[(3,.ptr 0 0),(4,.ptr 1 0),(6,.ptr 2 0),(18,.ptr 7 0),(19,pI ((k:Int)-1)),(104,.sl 3 0 5 2),(105,pI 5),(106,pI 3)],[(0,dl (.cells [.iv (cU p)])),(1,dl (az r.c)),(2,dl (.cells [pI 0,pI 0,pI 0])),(3,dl (.row 2 (iX p r))),(7,dl (.cells [pI 63,.cN (.func 223) [.iv (NL r (mK p r))] []]))],8⟩) (fun k=>((ix r.body.length).take k).any (qS (mK p r))=jp) [] I
  (zW (zO (zO (zO ⟨⟨_,rfl,.of_eq I⟩,Tk I,cD p r _ I,(zO trivial)⟩)))) fun k C u=>?_
 refine zJ I I (fun j=>?_) fun j=>?_
 .have j:(k:Int)-1<r.body.length:=zT j;have d:k<r.body.length+1:=by omega
  refine gA I (aP (S7 r (mK p r) ((k:Int)-1) (yK p r _) Z) I I I I I I ?_);refine zJ I I (fun y=>?_) fun y=>?_
  .rw[mY u d y];refine gA I (B9 (Hx r ((k:Int)-1) j) ?_);exact zU I
  .refine gA I ?_;exact⟨d,lr u d y,[],zM (bi (bi (bi (bi ⟨.of_eq (EZ (by omega)),rfl,bi (bi (bi ac))⟩)))) (zO (zO (zO ⟨⟨_,rfl,.of_eq I⟩,Tk I,cD p r _ I,(zO ac)⟩)))⟩
 have j: ¬(k:Int)-1<r.body.length:=zF j;rw[lu u (by omega)];clear u C j;refine zE I I (fun q=>?_) fun q=>?_
 .exact absurd (show is=jp from q) (by decide)
 refine gA I ?_;refine aG 0 (r.body.length+1) (TB _) (fun k=>⟨[(3,.ptr 0 0),(4,.ptr 1 0),(6,.ptr 2 0),(18,.ptr 8 0),(19,pI ((k:Int)-1)),(104,.sl 3 0 5 2),(105,pI 5),(106,pI 4)],[(0,dl (.cells [.iv (cU p)])),(1,dl (az r.c)),(2,dl (.cells [pI 0,pI 0,pI 0])),(3,dl (.row 2 (iX p r))),(8,dl (.cells [pI 64,.cN (.func 224) [.iv (cG r)] []]))],9⟩) (fun k=>((ix r.body.length).take k).any (kN r)=jp) [] I
  (zW (zO (zO (zO ⟨⟨_,rfl,.of_eq I⟩,Tk I,cD p r _ I,(zO trivial)⟩)))) fun k C u=>?_
 refine zJ I I (fun j=>?_) fun j=>?_
 .have j:(k:Int)-1<r.body.length:=zT j;have d:k<r.body.length+1:=by omega
  refine gA I (zp (S6 r ((k:Int)-1) (by omega) (by omega)) ?_);refine zJ I I (fun y=>?_) fun y=>?_
  .rw[mY u d y];refine gA I (B9 (Hx r ((k:Int)-1) j) ?_);exact zU I
  .refine gA I ?_;exact⟨d,lr u d y,[],zM (bi (bi (bi (bi ⟨.of_eq (EZ (by omega)),rfl,bi (bi (bi ac))⟩)))) (zO (zO (zO ⟨⟨_,rfl,.of_eq I⟩,Tk I,cD p r _ I,(zO ac)⟩)))⟩
 have j: ¬(k:Int)-1<r.body.length:=zF j;rw[lu u (by omega)];clear u C j;refine zJ I I (fun q=>?_) fun q=>?_
 .exact absurd (show jp=is from q) (by decide)
 exact zU I
section
theorem jo:prog.cellsOf 3=1:=by kernel_rfl
theorem pD:prog.cellsOf 9=1:=by kernel_rfl
theorem tr:prog.cellsOf 62=3:=by kernel_rfl
theorem A0:prog.cellsOf 196=5:=by kernel_rfl
theorem Hu:prog.cellsOf 100=1:=by kernel_rfl
theorem ve:prog.cellsOf 102=2:=by kernel_rfl
theorem Hs:prog.cellsOf 199=1:=by kernel_rfl
theorem nE:prog.cellsOf 201=7:=by kernel_rfl
theorem AZ:prog.cellsOf 203=10:=by kernel_rfl
theorem A2:prog.cellsOf 103=1:=by kernel_rfl
theorem vd:prog.cellsOf 205=30:=by kernel_rfl
theorem tq:prog.cellsOf 91=2:=by kernel_rfl
theorem A1:prog.cellsOf 105=5:=by kernel_rfl
theorem KT:prog.cellsOf 58=1:=by kernel_rfl
theorem Du:prog.cellsOf 99=4:=by kernel_rfl
theorem KY:prog.cellsOf 22=1:=by kernel_rfl
theorem KX:prog.cellsOf 23=1:=by kernel_rfl
theorem KW:prog.cellsOf 25=2:=by kernel_rfl
theorem KV:prog.cellsOf 26=1:=by kernel_rfl
theorem Dw:prog.cellsOf 28=2:=by kernel_rfl
section
variable {H:Type}
abbrev bk(d:DataW H):Nat:=Rows.uptoBulk d
theorem B4(d:DataW H):1<=bk d:=by
 cases d with
 |lit l=>cases l<;>simp[bk,Rows.uptoBulk]
 |nil=>simp[bk,Rows.uptoBulk]
 |ptr d=>simp[bk,Rows.uptoBulk]
 |slice elems spare=>simp[bk,Rows.uptoBulk]
 |agg parts=>simp[bk,Rows.uptoBulk]
 |iface t d=>simp[bk,Rows.uptoBulk]
 |map entries=>simp[bk,Rows.uptoBulk]
 |held h=>simp[bk,Rows.uptoBulk]
theorem rS(s:ByteArray):bk (DataW.lit (H:=H) (.string s.data.toList))=s.size+1:=by
 simp[bk,Rows.uptoBulk]
theorem _root_.Go.Al.QL.sum{α:Type}{Q:α->DataW H->Prop}{l:List α}{d:DataW H}(h:QL Q l d){f:α->Nat}{c:Nat}(hf: ∀x e,Q x e->f x<=c*bk e):(l.map f).sum<=c*bk d:=by
 obtain⟨j,hd,u,A⟩:=h;have key: ∀(l:List α) (j:List (DataW H)),l.length=j.length->(∀(i:Nat) (x:α) (e:DataW H),l[i]? =dl x->j[i]? =dl e->Q x e)->(l.map f).sum<=c*Rows.uptoBulkAll j:=by
  intro l
  induction l with
  |nil=>intro j _ _;simp
  |cons x r ih=>
   intro j B A;cases j with
   |nil=>simp at B
   |cons e j=>
    have y:=hf x e (A 0 x e I I);have F:=ih j (by simpa using B) fun i x e D C=>A (i+1) x e (by simpa using D) (by simpa using C);simp only[TD,Vj,Rows.uptoBulkAll,Nat.mul_add];simp only[bk]at y;omega
 have y:=key l j u A;rcases hd with⟨rfl,rfl⟩|⟨sp,rfl⟩
 .simp[Rows.uptoBulkAll]at y;omega
 .refine Uh y (Nat.mul_le_mul_left c ?_);simp only[bk,Rows.uptoBulk];omega
theorem y6{α:Type}: ∀l:List α,(l.map fun _=>1).sum=l.length
 | []=>rfl
 |x::r=>by simp only[TD,Vj,TO,y6 r];omega
theorem _root_.Go.Al.QL.len{α:Type}{Q:α->DataW H->Prop}{l:List α}{d:DataW H}(h:QL Q l d):l.length<=bk d:=by
 have:=h.sum (f:=fun _=>1) (c:=1) fun x e _=>by have:=B4 e;omega
 have e:=y6 l;omega
theorem _root_.Go.Al.QL.all{α:Type}{Q:α->DataW H->Prop}{l:List α}{d:DataW H}(h:QL Q l d): ∀x∈l,∃e,Q x e∧bk e<=bk d:=by
 intro x F;obtain⟨j,hd,A,D⟩:=h;obtain⟨i,C,rfl⟩:=Vi.1 F;have u:i<j.length:=by omega
 refine⟨j[i],D i _ _ (Ts C) (Ts u),?_⟩;have key: ∀(j:List (DataW H)),∀e∈j,bk e<=Rows.uptoBulkAll j:=by
  intro j
  induction j with
  |nil=>intro e he;cases he
  |cons y r ih=>
   intro e he;simp only[Rows.uptoBulkAll];rcases TQ.1 he with rfl|he
   .simp only[bk];omega
   .have:=ih e he;omega
 have B:=key j j[i] (Uw u);rcases hd with⟨rfl,rfl⟩|⟨sp,rfl⟩
 .simp at u
 .refine Uh B ?_;simp only[bk,Rows.uptoBulk];omega
end
theorem Expr.dM: ∀l:List Expr,Expr.an l=(l.map Expr.size).sum
 | []=>rfl
 |e::r=>by simp only[Expr.an,TD,Vj,Expr.dM r]
theorem Expr.nK: ∀l:List Expr,Expr.kj l=(l.map Expr.ts).sum
 | []=>rfl
 |e::r=>by simp only[Expr.kj,TD,Vj,Expr.nK r]
theorem Lit.dM: ∀l:List Lit,Lit.an l=(l.map Lit.size).sum
 | []=>rfl
 |e::r=>by simp only[Lit.an,TD,Vj,Lit.dM r]
theorem Lit.nK: ∀l:List Lit,Lit.kj l=(l.map Lit.ts).sum
 | []=>rfl
 |e::r=>by simp only[Lit.kj,TD,Vj,Lit.nK r]
section
variable {H:Type} {enc:TypeId×Value->H} {W:World} {hT:lI W} {sp:Nat->Bool} {held:Bool}
def QV(v:ei)(d:DataW H):Prop:=v.sym.size<=bk d
def QT(t:Term)(d:DataW H):Prop:=t.ts<=400*bk d
def QA(a:Atom)(d:DataW H):Prop:=a.ts<=400*bk d∧a.ak.length<=bk d
def QE(e:Expr)(d:DataW H):Prop:=e.ts<=400*bk d∧e.size<=bk d
def QP(_:Pos)(_:DataW H):Prop:=True
def Pos.c(p:Pos):List IV:=[iI p.line,iI p.H2]
def QG(g:gp)(d:DataW H):Prop:=g.var.size+g.jt.ts+Lit.kj g.body<=400*bk d∧g.jt.size+Lit.an g.body<=bk d
def QB(l:Lit)(d:DataW H):Prop:=l.ts<=400*bk d∧l.size<=bk d
theorem rd_val(n:Nat):Rd enc prog W hT sp held 62 ei.c QV n:=by
 intro m _ F y h;obtain⟨D,k,rfl,rfl,A,B,d⟩:=DataW.trod_struct underlying62 h
 match D,B with
 | [x0,x1,x2],_=>
  obtain⟨a,j,G,_⟩:=iC (hT:=hT) underlying3 k k (Tv _) _ _ (me d 0 I I I jo I);obtain⟨b,u,J,_⟩:=iC (hT:=hT) underlying3 k k (Tv _) _ _ (me d 1 I I I jo I);obtain⟨c,x,C,_⟩:=iB (hT:=hT) underlying9 k k (Tv _) _ _ (me d 2 I I I pD I);refine⟨⟨a,b,c⟩,j.eS (o':=1) I (u.eS (o':=2) I (x.eS (o':=3) I (.end_ (A.trans tr)))),?_⟩;simp only[QV,bk,TD,TX,Rows.uptoBulk,Rows.uptoBulkAll];have:=rS (H:=H) c;rw[<-C]at this;simp only[bk]at this;omega
theorem Bu(n:Nat):Rd enc prog W hT sp held 91 Pos.c QP n:=by
 intro m _ C y h;obtain⟨B,k,rfl,rfl,x,A,d⟩:=DataW.trod_struct underlying91 h
 match B,A with
 | [x0,x1],_=>
  obtain⟨a,j,D,_⟩:=iC (hT:=hT) underlying3 k k (Tv _) _ _ (me d 0 I I I jo I);obtain⟨b,u,F,_⟩:=iC (hT:=hT) underlying3 k k (Tv _) _ _ (me d 1 I I I jo I);exact⟨⟨a,b⟩,j.eS (o':=1) I (u.eS (o':=2) I (.end_ (x.trans tq))),ac⟩
theorem JZ(n:Nat):Rd enc prog W hT sp held 196 Term.c QT n:=by
 intro m _ F y h;obtain⟨D,k,rfl,rfl,A,B,d⟩:=DataW.trod_struct underlying196 h
 match D,B with
 | [x0,x1,x2],_=>
  obtain⟨a,j,G,_⟩:=iC (hT:=hT) underlying3 k k (Tv _) _ _ (me d 0 I I I jo I);obtain⟨b,u,C,_⟩:=iB (hT:=hT) underlying9 k k (Tv _) _ _ (me d 1 I I I pD I);obtain⟨c,x,J⟩:=rd_val (hT:=hT) k k (Tv _) _ _ (me d 2 I I I tr I);refine⟨⟨a,b,c⟩,j.eS (o':=1) I (u.eS (o':=2) I (x.eS (o':=5) I (.end_ (A.trans A0)))),?_⟩;simp only[QT,Term.ts,bk,TD,TX,Rows.uptoBulk,Rows.uptoBulkAll];have:=rS (H:=H) b;rw[<-C]at this;simp only[bk]at this;omega
theorem CI(n:Nat):Rd enc prog W hT sp held 102 Atom.c QA n:=by
 intro m _ Y y h;obtain⟨J,k,rfl,rfl,D,F,j⟩:=DataW.trod_struct underlying102 h
 match J,F with
 | [x0,x1],_=>
  obtain⟨a,x,G,_⟩:=iB (hT:=hT) underlying9 k k (Tv _) _ _ (me j 0 I I I pD I);obtain⟨b,A,u⟩:=(gr (hT:=hT) underlying100 A0 (by decide) (fun _=>rfl) (JZ k)).mono (Vg k) k (Tv _) _ _ (me j 1 I I I Hu I);refine⟨⟨a,b⟩,x.eS (o':=1) I (A.eS (o':=2) I (.end_ (D.trans ve))),?_⟩;have d:=rS (H:=H) a;rw[<-G]at d;have B:=u.sum (f:=Term.ts) (c:=400) fun _ _ h=>h;have C:=u.len;simp only[bk]at d B C;simp only[QA,Atom.ts,bk,TD,TX,Rows.uptoBulk,Rows.uptoBulkAll];omega
theorem s8: ∀n:Nat,Rd enc prog W hT sp held 201 Expr.c QE n
 |0=>fun m hm Y y h=>by
  obtain rfl:m=0:=by omega
  simp[DataW.trod]at h
 |n+1=>fun m hm Y y h=>by
  obtain⟨xs,k,rfl,rfl,Z,hx,j⟩:=DataW.trod_struct underlying201 h;have hs:=gr (hT:=hT) underlying199 nE (by decide) (fun _=>rfl) (s8 n)
  match xs,hx with
  | [x0,x1,x2,x3,x4],_=>
   obtain⟨a,C,qa,_⟩:=iC (hT:=hT) underlying3 k k (Tv _) _ _ (me j 0 I I I jo I);obtain⟨b,D,qb,_⟩:=iB (hT:=hT) underlying9 k k (Tv _) _ _ (me j 1 I I I pD I);obtain⟨c,F,qc⟩:=rd_val (hT:=hT) k k (Tv _) _ _ (me j 2 I I I tr I);obtain⟨d,G,qd,_⟩:=iC (hT:=hT) underlying3 k k (Tv _) _ _ (me j 3 I I I jo I);obtain⟨e,J,B⟩:=hs k (by omega) _ _ (me j 4 I I I Hs I);refine⟨.mk a b c d e,C.eS (o':=1) I (D.eS (o':=2) I (F.eS (o':=5) I (G.eS (o':=6) I ((J.wY (Dn (.mk a b c d e))).eS (o':=7) I (.end_ (Z.trans nE)))))),?_⟩;have u:=rS (H:=H) b;rw[<-qb]at u;have x:=B.sum (f:=Expr.ts) (c:=400) fun _ _ h=>h.1;have A:=B.sum (f:=Expr.size) (c:=1) fun _ _ h=>by have:=h.2;omega
   rw[<-Expr.nK]at x;rw[<-Expr.dM]at A;simp only[bk]at u x A;simp only[QE,Expr.ts,Expr.size,bk,TD,TX,Rows.uptoBulk,Rows.uptoBulkAll];omega
theorem OE{n:Nat}(hb:Rd enc prog W hT sp held 103 (fun l:List Lit=> [bp 30 l Lit.c]) (QL QB) n):Rd enc prog W hT sp held 203 gp.c QG (n+1):=by
 intro m hm cs y h;obtain⟨xs,k,rfl,rfl,Z,hx,j⟩:=DataW.trod_struct underlying203 h
 match xs,hx with
 | [x0,x1,x2,x3],_=>
  obtain⟨a,C,qa,_⟩:=iC (hT:=hT) underlying3 k k (Tv _) _ _ (me j 0 I I I jo I);obtain⟨b,D,qb,_⟩:=iB (hT:=hT) underlying9 k k (Tv _) _ _ (me j 1 I I I pD I);obtain⟨c,F,qc⟩:=s8 (hT:=hT) k k (Tv _) _ _ (me j 2 I I I nE I);obtain⟨d,G,B⟩:=hb k (by omega) _ _ (me j 3 I I I A2 I);refine⟨⟨a,b,c,d⟩,C.eS (o':=1) I (D.eS (o':=2) I (F.eS (o':=9) I ((G.wY (BF d)).eS (o':=10) I (.end_ (Z.trans AZ))))),?_⟩;have u:=rS (H:=H) b;rw[<-qb]at u;have x:=B.sum (f:=Lit.ts) (c:=400) fun _ _ h=>h.1;have A:=B.sum (f:=Lit.size) (c:=1) fun _ _ h=>by have:=h.2;omega
  rw[<-Lit.nK]at x;rw[<-Lit.dM]at A;obtain⟨J,Y⟩:=qc;simp only[bk]at u x A J Y;simp only[QG,bk,TD,TX,Rows.uptoBulk,Rows.uptoBulkAll];omega
theorem F4: ∀n:Nat,Rd enc prog W hT sp held 205 Lit.c QB n
 |0=>fun m hm J y h=>by
  obtain rfl:m=0:=by omega
  simp[DataW.trod]at h
 |n+1=>fun m hm J y h=>by
  obtain⟨xs,k,rfl,rfl,hl,hx,j⟩:=DataW.trod_struct underlying205 h;have hs:=OE (gr (hT:=hT) underlying103 vd (by decide) (fun _=>rfl) (F4 n))
  match xs,hx with
  | [x0,x1,x2,x3,x4,x5,x6],_=>
   obtain⟨a,x,qa,_⟩:=iC (hT:=hT) underlying3 k k (Tv _) _ _ (me j 0 I I I jo I);obtain⟨b,A,qb⟩:=CI (hT:=hT) k k (Tv _) _ _ (me j 1 I I I ve I);obtain⟨c,B,qc,_⟩:=iC (hT:=hT) underlying3 k k (Tv _) _ _ (me j 2 I I I jo I);obtain⟨d,C,qd⟩:=s8 (hT:=hT) k k (Tv _) _ _ (me j 3 I I I nE I);obtain⟨e,D,qe⟩:=s8 (hT:=hT) k k (Tv _) _ _ (me j 4 I I I nE I);obtain⟨g,F,qg⟩:=hs k (by omega) _ _ (me j 5 I I I AZ I);obtain⟨p,G,_⟩:=Bu (hT:=hT) k k (Tv _) _ _ (me j 6 I I I tq I);refine⟨.mk a b c d e g.func g.var g.jt g.body p,x.eS (o':=1) I (A.eS (o':=3) I (B.eS (o':=4) I (C.eS (o':=11) I (D.eS (o':=18) I (F.eS (o':=28) I (G.eS (o':=30) I (.end_ (hl.trans vd)))))))),?_⟩;obtain⟨Y,Z⟩:=qb;obtain⟨h3,h4⟩:=qd;obtain⟨h5,h6⟩:=qe;obtain⟨h7,h8⟩:=qg;have h9:=B4 x0.1;have u:=B4 x2.1;simp only[bk]at Y Z h3 h4 h5 h6 h7 h8 h9 u;simp only[QB,Lit.ts,Lit.size,bk,TD,TX,Rows.uptoBulk,Rows.uptoBulkAll];omega
theorem J1(n:Nat):Rd enc prog W hT sp held 103 (fun l:List Lit=> [lits l]) (QL QB) n:=
 (gr (hT:=hT) underlying103 vd (by decide) (fun _=>rfl) (F4 n)).mono (Vg n)
end
end
end Go.Proofs.YtbhphmfbligliaaGreatDoor
namespace Go.Proofs.YtbhphmfbligliaaGreatDoor
open Go Go.Al Go.Proofs.Tryz Go.ChangeShapes Go.WideShapes Go.RowKit
theorem own:ownKnob prog.godebug=io:=by kernel_rfl
theorem RA:prog.globalNamed "internal/strconv.uint64pow10" =dl 0:=by kernel_rfl
theorem G3:(prog.globals[0]?).map (·.type)=dl 420:=by kernel_rfl
theorem Hr:prog.cellsOf 420=20:=by kernel_rfl
theorem Ht:prog.cellsOf 116=1:=by kernel_rfl
theorem Fa:prog.underlying 420=dl (.array 20 116):=by kernel_rfl
theorem Fb:prog.underlying 116=dl (.int .u64):=by kernel_rfl
abbrev GB:List (String×DataW Unit):=[("math/bits.deBruijn32tab",Rows.laid_math_bits_deBruijn32tab),("math/bits.deBruijn64tab",Rows.laid_math_bits_deBruijn64tab),("internal/strconv.uint64pow10",Rows.laid_internal_strconv_uint64pow10)]
theorem Fo{W:World}(h:laidMetH prog GB W):lI W:=by
 have j:=laidMetH.filter (fun x=>x.1== "internal/strconv.uint64pow10") h;have y:laidMet prog [("internal/strconv.uint64pow10",Lib.tabData .u64 o7)] W:=by
  rw[show GB.filter (fun x=>x.1== "internal/strconv.uint64pow10")=[("internal/strconv.uint64pow10",Lib.tabData .u64 o7)] by kernel_rfl]at j;rwa[MakeChecks.laidMetH_plain _ _ _ (by kernel_rfl)]at j
 have d:Lib.TabIs prog W "internal/strconv.uint64pow10" .u64 o7:=Lib.tabIs_of_head (rest:=[]) RA G3 Fa Fb Ht Hr y;intro b c hb;unfold Lib.TabIs World.var? at d;rw[RA]at d
 match b with
 |0=>
  have A:(o7.map fun z=>Value.int .u64 z).toArray=c:=Uy hb;rw[A]at d;simp only[Wy]at d;split at d
  .rename_i B T u e;exact⟨T,u,by rw[e,Uy d]⟩
  .cases d
 |b+1=>exact nomatch hb
theorem kids:Kids prog (· <prog.types.size):=kids_rows (by kernel_rfl) (by kernel_rfl)
theorem full: ∀{t e},t<prog.types.size->prog.underlying t=dl (.slice e)->0<prog.cellsOf e:=fun{t e}=>slices_full_of prog (by kernel_rfl) t e
theorem x9{H:Type}{enc:TypeId×Value->H}{W:World}(hT:lI W){k:FuncId}{f:Func}{s:ChangeSpec}{args:List PV}{vs:List Value}{B gs:List (DataW H)}{d:List MemPlace}
  (hp:Al.Pure prog k args (pB is)) (D:args.length=vs.length) (hv: ∀(j:Nat) (p:PV),args[j]? =dl p->VR (Mem.pb W hT) PB (· <0) p (vs.getD j undef))
  (F: ∀t∈f.params.toList,t<prog.types.size) (y:s.vars=[]) (u:f.resultTypes= #[4])
  (hW:DataW.Whole enc prog f.params.toList s.vars jp W vs.toArray.toList B gs d)
  (G:(s.fn H (B++gs)).results=[.lit (.bool is)]) (J:(s.fn H (B++gs)).args=B) (Y:(s.fn H (B++gs)).vars=[]):
  Calls prog k vs.toArray W fun e W'=> ∃v,e= .returned v∧s.post enc prog f jp is jp jp W vs.toArray v W':=by
 refine(hp.2 (Mem.pb W hT) PB W vs (JY W hT) D hv).mono ?_;rintro e W' ⟨x,M',N',r,h',n',rfl,⟨rfl,rfl,rfl⟩,hx,hr,hvr⟩;have Z:x= .bool is:=by
  cases hvr with
  |iv _ _ h=>cases h;rfl
 subst Z;refine⟨_,rfl,ya kids full F y hW hx.os hx.output.out (fun b hb=>hx.eU b hb fun i o hi=>(nomatch hi)) (fun b sp hd=>?_) J Y ?_⟩
 .rw[G,u];exact trodAll_cons_mk (shut_bool underlying4 _) trodAll_mk0
 .intro j t r A C;rw[u]at A C
  match j,A,C with
  |0,A,C=>
   cases A;cases C;exact okWide_bool_mk underlying4 _
  |j+1,A,C=>simp at A
theorem bound{H:Type}{l:List (DataW H)}(d:Rows.uptoSmall H l=is):Rows.uptoBulkAll l<=1048576:=of_decide_eq_true d
def GA(b:Nat)(cs:Array Value)(h:Array Obj):Array Obj:=h.modify b fun
 | .cells _ t frozen=> .cells cs t frozen
 |o=>o
noncomputable def rB(os:Os):World:=
 {World.holding prog os ⟨#[], #[],[]⟩ with
  heap:=GA 2 #[.int .u8 0,.int .u8 1,.int .u8 56,.int .u8 2,.int .u8 57,.int .u8 49,.int .u8 28,.int .u8 3,.int .u8 61,.int .u8 58,.int .u8 42,.int .u8 50,.int .u8 38,.int .u8 29,.int .u8 17,.int .u8 4,.int .u8 62,.int .u8 47,.int .u8 59,.int .u8 36,.int .u8 45,.int .u8 43,.int .u8 51,.int .u8 22,.int .u8 53,.int .u8 39,.int .u8 33,.int .u8 30,.int .u8 24,.int .u8 18,.int .u8 12,.int .u8 5,.int .u8 63,.int .u8 55,.int .u8 48,.int .u8 27,.int .u8 60,.int .u8 41,.int .u8 37,.int .u8 16,.int .u8 46,.int .u8 35,.int .u8 44,.int .u8 21,.int .u8 52,.int .u8 32,.int .u8 23,.int .u8 11,.int .u8 54,.int .u8 26,.int .u8 40,.int .u8 15,.int .u8 34,.int .u8 20,.int .u8 31,.int .u8 10,.int .u8 25,.int .u8 14,.int .u8 19,.int .u8 9,.int .u8 13,.int .u8 8,.int .u8 7,.int .u8 6] (GA 1 #[.int .u8 0,.int .u8 1,.int .u8 28,.int .u8 2,.int .u8 29,.int .u8 14,.int .u8 24,.int .u8 3,.int .u8 30,.int .u8 22,.int .u8 20,.int .u8 15,.int .u8 25,.int .u8 17,.int .u8 4,.int .u8 8,.int .u8 31,.int .u8 27,.int .u8 13,.int .u8 23,.int .u8 21,.int .u8 19,.int .u8 16,.int .u8 7,.int .u8 26,.int .u8 12,.int .u8 18,.int .u8 6,.int .u8 11,.int .u8 5,.int .u8 10,.int .u8 9] (GA 0 (o7.map fun z=>Value.int .u64 z).toArray (World.holding prog os ⟨#[], #[],[]⟩).heap))}
end Go.Proofs.YtbhphmfbligliaaGreatDoor
namespace Go.Proofs.YtbhphmfbligliaaGreatDoor
open Go Go.Al Go.Proofs.Tryz
def fY.z:fY:=(0,⟨0,0⟩)
theorem d64(d e:fY):bC prog 137 [ag d.c,.ptr 0 0] [az e.c] (pB jp) [(0,dl (az d.c))] 1:=by
 refine aq ab func137 I (by decide) ntmps137 I (by simp) ?_;refine gA I (zD [] I (zW (zO ac)))
def fU(p:Prog)(i:Nat):List ae:=(p.aw.take i).map Decl.name
def gq(p:Prog)(i:Nat):Int:=oY (p.aw.getD i co) i (cK .str (aI (fU p i)) (p.aw.getD i co).name 0)
def oX(p:Prog):Nat->List fY
 |0=> []
 |i+1=>oX p i++(if gq p i=0 then[] else[(gq p i,(p.aw.getD i co).at_)])
def uc(p:Prog)(i:Nat):fY:=r5 p (p.rules.getD i co) ((i:Int)+1)
def p6(p:Prog):Nat->List fY
 |0=> []
 |i+1=>p6 p i++(if(uc p i).1=0 then[] else[uc p i])
def jE(p:Prog):List fY:=oX p p.aw.length++p6 p p.rules.length
def ef(p:Prog):fY:=(jE p).headD fY.z
theorem zx(p:Prog)(i:Nat): ∀k,∃t,oX p (i+k)=oX p i++t
 |0=>⟨[],by simp⟩
 |k+1=>by
  obtain⟨t,h⟩:=zx p i k;exact⟨_,by rw[<-Ux,oX,h,Tz]⟩
theorem zr(p:Prog)(i:Nat): ∀k,∃t,p6 p (i+k)=p6 p i++t
 |0=>⟨[],by simp⟩
 |k+1=>by
  obtain⟨t,h⟩:=zr p i k;exact⟨_,by rw[<-Ux,p6,h,Tz]⟩
theorem EK{p:Prog}{i:Nat}(j:oX p i=[])(hi:i<p.aw.length)(h: ¬gq p i=0):ef p=(gq p i,(p.aw.getD i co).at_):=by
 obtain⟨t,d⟩:=zx p (i+1) (p.aw.length-(i+1));have e:i+1+(p.aw.length-(i+1))=p.aw.length:=by omega
 rw[e,oX,j,be h]at d;rw[ef,jE,d];rfl
theorem EJ{p:Prog}{i:Nat}(h0:oX p p.aw.length=[])(j:p6 p i=[])(hi:i<p.rules.length)(h: ¬(uc p i).1=0):ef p=uc p i:=by
 obtain⟨t,d⟩:=zr p (i+1) (p.rules.length-(i+1));have e:i+1+(p.rules.length-(i+1))=p.rules.length:=by omega
 rw[e,p6,j,be h]at d;rw[ef,jE,d,h0];rfl
theorem Hp{p:Prog}(h0:oX p p.aw.length=[])(h1:p6 p p.rules.length=[]):ef p=fY.z:=by
 rw[ef,jE,h0,h1];rfl
theorem xZ{p:Prog}{i:Nat}(h:i<p.aw.length):aI (fU p (i+1))=vg (aI (fU p i)) (p.aw.getD i co).name:=by
 rw[fU,bc h,TA];exact dz _ _
theorem Bt(p:Prog)(i:Nat)(s:ae):0<=cK .str (aI (fU p i)) s 0∧cK .str (aI (fU p i)) s 0<=i:=by
 have h:=gz (fU p i) s;have d:(fU p i).length<=i:=by simp[fU];omega
 rw[bO];omega
def Prog.fit(p:Prog):Prop:=p.aw.length<=1000000000∧p.rules.length<=1000000000∧ ∀r∈p.rules,r.fit
theorem SO(p:Prog)(hb:p.fit):bC prog 136 [ag p.c,.cN (.func 137) [] [.ptr 0 0]] [az fY.z.c] (.aZ []) [(0,dl (az (ef p).c))] 1:=by
 obtain⟨B,C,A⟩:=hb;refine aq ab func136 I (by decide) ntmps136 I (by simp) ?_;refine gA I ?_;refine aG 0 p.aw.length (TB _) (fun i=>⟨[(1,.cN (.func 137) [] [.ptr 0 0]),(2,.ptr 1 0),(4,.mp 2),(13,.iv (bp 4 p.aw Decl.c)),(14,pI p.aw.length),(15,pI i)],[(0,dl (az fY.z.c)),(1,dl (az p.c)),(2,dl (cO (aI (fU p i))))],3⟩) (fun i=>oX p i=[]) [] I
  (zW ⟨⟨_,rfl,.of_eq I⟩,Tk I,rfl,⟨_,rfl,.of_eq I⟩,Tk I,rfl,O4 I eJ I trivial⟩) fun i D x=>?_
 refine zJ I I (fun j=>?_) fun j=>?_
 .have j:i<p.aw.length:=zN j;have J:=Bt p i (p.aw.getD i co).name;have G:=xZ j;refine gA I (zp (Tb (p.aw.getD i co) i (cK .str (aI (fU p i)) (p.aw.getD i co).name 0)) ?_);refine zJ I I (fun g=>?_) fun g=>?_
  .have g: ¬gq p i=0:=by
    have g:(!kw (gq p i=0))=is:=g;simpa only[UD,decide_eq_false_iff_not]using g
   rw[EK x j g];refine gA I (zq [0] (d64 (gq p i,(p.aw.getD i co).at_) fY.z) ?_);refine zE I I (fun q=>?_) fun q=>?_
   .exact absurd (show is=jp from q) (by decide)
   refine gA I (zD [] I (zW (zO ac)))
  .have g:gq p i=0:=by
    have g:(!kw (gq p i=0))=jp:=g;simpa only[Vl,decide_eq_true_eq]using g
   refine gA I ⟨j,by rw[oX,x,am g];rfl,[],zW (zO (zO (hM I (by rw[G];rfl) I trivial)))⟩
 have j:p.aw.length<=i:=zG j;have u:i=p.aw.length:=by omega
 subst u;refine gA I (zq [] (d50 p (by omega)) ?_);refine gA I ?_;refine Dg 3 I ?_;refine aG 0 p.rules.length (TB _) (fun i=>⟨[(1,.cN (.func 137) [] [.ptr 0 0]),(2,.ptr 1 0),(8,.iv (cU p)),(47,.iv (bp 5 p.rules ar.c)),(48,pI p.rules.length),(49,pI i)],[(0,dl (az fY.z.c)),(1,dl (az p.c))],4⟩) (fun i=>p6 p i=[]) [] I
  (zW (zO (zO trivial))) fun i D y=>?_
 refine zJ I I (fun d=>?_) fun d=>?_
 .have d:i<p.rules.length:=zN d;have F:p.rules.getD i co∈p.rules:=by rw[Tr,Ts d];exact Uw d
  refine gA I (aP (c65 p (p.rules.getD i co) ((i:Int)+1) (A _ F)) I I I I I I ?_);refine zJ I I (fun g=>?_) fun g=>?_
  .have g: ¬(uc p i).1=0:=by
    have g:(!kw ((uc p i).1=0))=is:=g;simpa only[UD,decide_eq_false_iff_not]using g
   rw[EJ x y d g];refine gA I (zq [0] (d64 (uc p i) fY.z) ?_);refine zE I I (fun q=>?_) fun q=>?_
   .exact absurd (show is=jp from q) (by decide)
   refine gA I (zD [] I (zW (zO ac)))
  .have g:(uc p i).1=0:=by
    have g:(!kw ((uc p i).1=0))=jp:=g;simpa only[Vl,decide_eq_true_eq]using g
   refine gA I ⟨d,by rw[p6,y,am g];rfl,[],zW (zO (zO trivial))⟩
 have d:p.rules.length<=i:=zG d;have u:i=p.rules.length:=by omega
 subst u;rw[Hp x y];refine gA I (zD [] I (zW (zO ac)))
theorem c24(p:Prog)(hb:p.fit):Pure prog 94 [ag p.c] (ag (ef p).c):=by
 refine ai ab func94 I (by decide) ntmps94 I (by simp) I ?_;refine gA I (zq [2] (SO p hb) ?_);exact zU I
def JL:ae:=⟨#[114,101,108,97,116,105,111,110,32]⟩
def QU:ae:=⟨#[110,117,109]⟩
def Qz:ae:=⟨#[115,121,109]⟩
def Pz:ae:=⟨#[32,58,45,32]⟩
def JO:ae:=⟨#[46,10]⟩
def EV(w:WS)(t:Int):WS:=if t=1 then aU w [QU] else if t=2 then aU w [Qz] else mE w
def oe(l:List Int)(w:WS):Nat->WS
 |0=>w
 |i+1=>EV (fa i (oe l w i)) (l.getD i co)
def qI(w:WS)(d:Decl):WS:=aU (oe d.types (aU (aV w (gf d.name)) [JL,d.name,sO]) d.types.length) [sC]
def Decl.ts(d:Decl):Nat:=d.name.size+30+10*d.types.length
theorem H9(w:WS)(t:Int):(EV w t).l.length<=w.l.length+3:=by
 have d:QU.size=3:=rfl;have j:Qz.size=3:=rfl;unfold EV
 repeat' split
 .rw[aH,d];omega
 .rw[aH,j];omega
 .rw[fo];omega
theorem Nl(w:WS)(t:Int):(EV w t).br=w.br:=by
 unfold EV
 repeat' split
 .exact bR _ _
 .exact bR _ _
 .rfl
theorem tM(l:List Int)(w:WS): ∀i,(oe l w i).l.length<=w.l.length+5*i
 |0=>by simp[oe]
 |i+1=>by
  have d:=tM l w i;have j:=iH i (oe l w i);have u:=H9 (fa i (oe l w i)) (l.getD i co);rw[oe];omega
theorem Cj(l:List Int)(w:WS): ∀i,(oe l w i).br=w.br
 |0=>rfl
 |i+1=>by rw[oe,Nl,n4,Cj l w i]
theorem xp(w:WS)(d:Decl):(qI w d).l.length+10<=w.l.length+d.ts:=by
 have j:JL.size=9:=rfl;have u:sO.size=1:=rfl;have y:sC.size=1:=rfl;have x:eE [JL,d.name,sO]=d.name.size+10:=by simp[eE,j,u];omega
 have h:=tM d.types (aU (aV w (gf d.name)) [JL,d.name,sO]) d.types.length;rw[gu,x,aQ]at h;rw[qI,aH,y,Decl.ts];omega
theorem Hi(w:WS)(d:Decl):(qI w d).br=w.br:=by rw[qI,bR,Cj,bR];rfl
theorem D1(w:WS)(d:Decl)(hb:w.l.length+d.ts<=900000000):bC prog 97 [.ptr 0 0,ag d.c] w.O (.aZ []) (qI w d).H 3:=by
 have Z:JL.size=9:=rfl;have e2:sO.size=1:=rfl;have e4:sC.size=1:=rfl;have e5:vL.size=2:=rfl;have J:QU.size=3:=rfl;have Y:Qz.size=3:=rfl;have G:eE [JL,d.name,sO]=d.name.size+10:=by simp[eE,Z,e2];omega
 have c0:d.ts=d.name.size+30+10*d.types.length:=rfl;have a0:(aU (aV w (gf d.name)) [JL,d.name,sO]).l.length=w.l.length+(d.name.size+10):=by rw[gu,G,aQ]
 refine aq ab func97 I (by decide) ntmps97 I (by simp) ?_;refine gA I (aP (RR d.name) I I I I I I ?_);refine gA I (BR (d146 w (gf d.name)) I I I I I I I I I I I I ?_);refine gA I (go_wp (d147 (aV w (gf d.name)) [JL,d.name,sO] (by simp) (by rw[G,aQ];omega)) I I I I I I I I I I I I ?_);generalize hW:aU (aV w (gf d.name)) [JL,d.name,sO]=w1 at*
 refine gA I ?_;refine aG 0 d.types.length (TB _) (fun i=>⟨[(0,.ptr 0 0),(17,.iv (bp 1 d.types eO)),(18,pI d.types.length),(19,pI i)],[(0,dl ((oe d.types w1 i).pE 0 6)),(6,dl (.bA (oe d.types w1 i).l 5))],7⟩) (fun _=>True) _ ac
  (HW (w:=w1) I I I I I (.refl _) (.refl _) I I I I I (bi (bi (bi (bi trivial))))) fun i hi _=>?_
 have b0:=tM d.types w1 i;refine gA I ?_;refine Tq (fun y=>?_) (fun y=>?_);rotate_left
 .have y:d.types.length<=i:=UR fun hh=>absurd (VL.2 hh) (of_decide_eq_false y)
  have F:i=d.types.length:=by omega
  subst F;refine gA I (go_wp (d147 (oe d.types w1 d.types.length) [sC] (by simp) (by rw[bw,e4];omega)) I I I I I I I I I I I I ?_);rw[qI,hW];refine gA I (xj (by first|exact .inr I|exact .inl I) I I I I I (by first|exact .refl _|exact .kb _) (by first|exact .refl _|exact .kb _) I I I I (.refl _) I I)
 have y:i<d.types.length:=VL.1 (of_decide_eq_true y);have x:oe d.types w1 (i+1)=EV (fa i (oe d.types w1 i)) (d.types.getD i co):=rfl;have D:=iH i (oe d.types w1 i);generalize oe d.types w1 i=w2 at*
 refine gA I ?_;refine Tq (fun A=>?_) (fun A=>?_)
 .have A: ¬i=0:=by have:=of_decide_eq_true A;omega
  rw[fa,be A]at x D;refine gA I (go_wp (d147 w2 [vL] (by simp) (by rw[bw,e5];omega)) I I I I I I I I I I I I ?_);refine gA I ?_;refine Tq (fun B=>?_) (fun B=>?_)
  .have j:d.types.getD i co=1:=of_decide_eq_true B;rw[EV,am j]at x;refine gA I (go_wp (d147 (aU w2 [vL]) [QU] (by simp) (by rw[bw,J];omega)) I I I I I I I I I I I I ?_);refine gA I ⟨y,ac,_,HW (x.symm) I I I I (by first|exact .refl _|exact .kb _) (by first|exact .refl _|exact .kb _) I I I I I (bi (bi (bi (bi ac))))⟩
  .have j: ¬d.types.getD i co=1:=of_decide_eq_false B;refine gA I ?_;refine Tq (fun C=>?_) (fun C=>?_)
   .have u:d.types.getD i co=2:=of_decide_eq_true C;rw[EV,be j,am u]at x;refine gA I (go_wp (d147 (aU w2 [vL]) [Qz] (by simp) (by rw[bw,Y];omega)) I I I I I I I I I I I I ?_);refine gA I ⟨y,ac,_,HW (x.symm) I I I I (by first|exact .refl _|exact .kb _) (by first|exact .refl _|exact .kb _) I I I I I (bi (bi (bi (bi ac))))⟩
   .have u: ¬d.types.getD i co=2:=of_decide_eq_false C;rw[EV,be j,be u]at x;refine gA I ⟨y,ac,_,HW (x.symm) I I I I (by first|exact .refl _|exact .kb _) (by first|exact .refl _|exact .kb _) I I I I I (bi (bi (bi (bi ac))))⟩
 .have A:i=0:=by have:=of_decide_eq_false A;omega
  rw[fa,am A]at x D;refine gA I ?_;refine Tq (fun B=>?_) (fun B=>?_)
  .have j:d.types.getD i co=1:=of_decide_eq_true B;rw[EV,am j]at x;refine gA I (go_wp (d147 w2 [QU] (by simp) (by rw[bw,J];omega)) I I I I I I I I I I I I ?_);refine gA I ⟨y,ac,_,HW (x.symm) I I I I (by first|exact .refl _|exact .kb _) (by first|exact .refl _|exact .kb _) I I I I I (bi (bi (bi (bi ac))))⟩
  .have j: ¬d.types.getD i co=1:=of_decide_eq_false B;refine gA I ?_;refine Tq (fun C=>?_) (fun C=>?_)
   .have u:d.types.getD i co=2:=of_decide_eq_true C;rw[EV,be j,am u]at x;refine gA I (go_wp (d147 w2 [Qz] (by simp) (by rw[bw,Y];omega)) I I I I I I I I I I I I ?_);refine gA I ⟨y,ac,_,HW (x.symm) I I I I (by first|exact .refl _|exact .kb _) (by first|exact .refl _|exact .kb _) I I I I I (bi (bi (bi (bi ac))))⟩
   .have u: ¬d.types.getD i co=2:=of_decide_eq_false C;rw[EV,be j,be u]at x;refine gA I ⟨y,ac,_,HW (x.symm) I I I I (by first|exact .refl _|exact .kb _) (by first|exact .refl _|exact .kb _) I I I I I (bi (bi (bi (bi ac))))⟩
def ou(w:WS)(r:ar):WS:=if r.body=[] then gV w r.head else dm (dJ (Lit.an r.body)) r.body (aU (gV w r.head) [Pz]) r.body.length
def ar.ts(r:ar):Nat:=r.head.ts+Lit.kj r.body+30
theorem wu(w:WS)(r:ar):(ou w r).l.length+10<=w.l.length+r.ts:=by
 have e:Pz.size=4:=rfl;have j:=ob w r.head;unfold ou ar.ts;split
 .omega
 .have d:=lF (dJ (Lit.an r.body)) (qu _) r.body (aU (gV w r.head) [Pz]) r.body.length (Tv _);rw[aH,e,Uj]at d;omega
theorem FO(w:WS)(r:ar):(ou w r).br=w.br:=by
 unfold ou;split
 .exact lH _ _
 .rw[lG _ (tc _),bR,lH]
theorem Og(w:WS)(r:ar)(hs:Lit.an r.body<=100000000)(d:0<=w.br)(j:w.br<=16)(hb:w.l.length+r.ts<=900000000):bC prog 99 [.ptr 0 0,ag r.c] w.O (.aZ []) (ou w r).H 3:=by
 have e:Pz.size=4:=rfl;have x:r.ts=r.head.ts+Lit.kj r.body+30:=rfl;have y:=ob w r.head;refine aq ab func99 I (by decide) ntmps99 I (by simp) ?_;refine gA I (BR (d104 w r.head (by omega)) I I I I I I I I I I I I ?_);refine gA I ?_;refine Tq (fun k=>?_) (fun k=>?_)
 .have u: ¬r.body=[]:=fun h=>by
   have g:=of_decide_eq_true k;rw[h]at g;simp at g
  rw[ou,be u];refine gA I (go_wp (d147 (gV w r.head) [Pz] (by simp) (by rw[bw,e];omega)) I I I I I I I I I I I I ?_);refine gA I (BR (d214 (Lit.an r.body) (OY _ (by omega)) (aU (gV w r.head) [Pz]) r.body (Tv _) (by rw[bR,lH];exact d) (by rw[bR,lH];exact j) (by rw[aH,e];omega) hs) I I I I I I I I I I I I ?_);refine gA I (xj (by first|exact .inr I|exact .inl I) I I I I I (by first|exact .refl _|exact .kb _) (by first|exact .refl _|exact .kb _) I I I I (.refl _) I I)
 .have u:r.body=[]:=Ud (by
   have g:=of_decide_eq_false k
   omega)
  rw[ou,am u];refine gA I (xj (by first|exact .inr I|exact .inl I) I I I I I (by first|exact .refl _|exact .kb _) (by first|exact .refl _|exact .kb _) I I I I (.refl _) I I)
def fP(l:List Decl)(w:WS):Nat->WS
 |0=>w
 |i+1=>aU (qI (fP l w i) (l.getD i co)) [JO]
def gF(l:List ar)(w:WS):Nat->WS
 |0=>w
 |i+1=>aU (ou (gF l w i) (l.getD i co)) [JO]
def qi(p:Prog):WS:=gF p.rules (fP p.aw WS.o p.aw.length) p.rules.length
def Prog.ts(p:Prog):Nat:=(p.aw.map Decl.ts).sum+(p.rules.map ar.ts).sum
theorem nL{α:Type}[Inhabited α](f:α->Nat)(l:List α)(i:Nat)(h:i<l.length):((l.take (i+1)).map f).sum=((l.take i).map f).sum+f (l.getD i co):=by
 rw[bc h,TA,List.sum_append];simp
theorem pP{α:Type}(f:α->Nat): ∀(l:List α) (i:Nat),((l.take i).map f).sum<=(l.map f).sum
 | [],i=>by simp
 |s::r,0=>by simp
 |s::r,i+1=>by have:=pP f r i;simp at this ⊢;omega
theorem pA(l:List Decl)(w:WS): ∀i,i<=l.length->(fP l w i).l.length<=w.l.length+((l.take i).map Decl.ts).sum
 |0,_=>by simp[fP]
 |i+1,h=>by
  have e:JO.size=2:=rfl;have d:=pA l w i (by omega);have j:=xp (fP l w i) (l.getD i co);rw[fP,aH,e,nL _ _ _ (by omega)];omega
theorem xo(l:List Decl)(w:WS): ∀i,(fP l w i).br=w.br
 |0=>rfl
 |i+1=>by rw[fP,bR,Hi,xo l w i]
theorem oU(l:List ar)(w:WS): ∀i,i<=l.length->(gF l w i).l.length<=w.l.length+((l.take i).map ar.ts).sum
 |0,_=>by simp[gF]
 |i+1,h=>by
  have e:JO.size=2:=rfl;have d:=oU l w i (by omega);have j:=wu (gF l w i) (l.getD i co);rw[gF,aH,e,nL _ _ _ (by omega)];omega
theorem wt(l:List ar)(w:WS): ∀i,(gF l w i).br=w.br
 |0=>rfl
 |i+1=>by rw[gF,bR,FO,wt l w i]
theorem Om(p:Prog)(hs:p.size<=100000000)(hb:p.ts<=800000000):Pure prog 45 [ag p.c] (qi p).told:=by
 have e:JO.size=2:=rfl;have e0:WS.o.l.length=0:=rfl;unfold Prog.ts at hb;unfold Prog.size at hs;refine ai ab func45 I (by decide) ntmps45 I (by simp) I ?_;refine gM 12 I (yz 1 I I ?_);refine gA I ?_;refine aG 0 p.aw.length (TB _) (fun i=>⟨[(1,.ptr 0 0),(4,.ptr 1 0),(12,.iv (bp 4 p.aw Decl.c)),(13,pI p.aw.length),(14,pI i)],[(0,dl (az p.c)),(1,dl ((fP p.aw WS.o i).pE 1 3)),(3,dl (.bA (fP p.aw WS.o i).l 5))],4⟩) (fun _=>True) [2] ac
  (wk I I I (bi (bi (bi (bi (bi trivial))))) (hC I I I ⟨⟨_,rfl,.of_eq I⟩,Tk I,rfl,⟨_,rfl,.of_eq I⟩,Tk I,ac,ac⟩) I) fun i C _=>?_
 have D:=pA p.aw WS.o i C;have b0:=pP Decl.ts p.aw i;refine gA I ?_;refine Tq (fun u=>?_) (fun u=>?_)
 .have u:i<p.aw.length:=by simpa using u
  have d:fP p.aw WS.o (i+1)=aU (qI (fP p.aw WS.o i) (p.aw.getD i co)) [JO]:=rfl;have B:=xp (fP p.aw WS.o i) (p.aw.getD i co);have F:=nL Decl.ts p.aw i u;have A:=pP Decl.ts p.aw (i+1);generalize fP p.aw WS.o i=w2 at*
  refine gA I (BR (D1 w2 (p.aw.getD i co) (by omega)) I I I I I I I I I I I I ?_);refine gA I (go_wp (d147 (qI w2 (p.aw.getD i co)) [JO] (by simp) (by rw[bw,e];omega)) I I I I I I I I I I I I ?_);refine gA I ⟨u,ac,[7],wk I I I (bi (bi (bi (bi (bi ac))))) (hC I I I ⟨⟨_,rfl,.of_eq (by rw[d];rfl)⟩,Tk I,rfl,⟨_,rfl,.of_eq (by rw[d];rfl)⟩,Tk I,ac,ac⟩) I⟩
 .have u:p.aw.length<=i:=by simpa using u
  have x:i=p.aw.length:=by omega
  subst x;have y:(fP p.aw WS.o p.aw.length).br=0:=xo _ _ _;rw[Uj]at D;generalize Y:fP p.aw WS.o p.aw.length=w1 at*
  refine gA I ?_;refine aG 0 p.rules.length (TB _) (fun i=>⟨[(4,.ptr 1 0),(26,.iv (bp 5 p.rules ar.c)),(27,pI p.rules.length),(28,pI i)],[(1,dl ((gF p.rules w1 i).pE 1 4)),(4,dl (.bA (gF p.rules w1 i).l 5))],5⟩) (fun _=>True) [3] ac
   (wk I I I (bi (bi (bi (bi trivial)))) ⟨⟨_,rfl,.of_eq I⟩,Tk I,rfl,⟨_,rfl,.of_eq I⟩,Tk I,ac,ac⟩ I) fun i C _=>?_
  have G:=oU p.rules w1 i C;have A:=pP ar.ts p.rules i;have Z:=(wt p.rules w1 i).trans y;refine gA I ?_;refine Tq (fun j=>?_) (fun j=>?_)
  .have j:i<p.rules.length:=by simpa using j
   have d:gF p.rules w1 (i+1)=aU (ou (gF p.rules w1 i) (p.rules.getD i co)) [JO]:=rfl;have B:=wu (gF p.rules w1 i) (p.rules.getD i co);have F:=nL ar.ts p.rules i j;have J:=pP ar.ts p.rules (i+1);have c0:=kr ar.size p.rules i j;have a0:(p.rules.getD i co).size=(p.rules.getD i co).head.ak.length+Lit.an (p.rules.getD i co).body:=rfl;generalize gF p.rules w1 i=w2 at*
   refine gA I (BR (Og w2 (p.rules.getD i co) (by omega) (by omega) (by omega) (by omega)) I I I I I I I I I I I I ?_);refine gA I (go_wp (d147 (ou w2 (p.rules.getD i co)) [JO] (by simp) (by rw[bw,e];omega)) I I I I I I I I I I I I ?_);refine gA I ⟨j,ac,[8],wk I I I (bi (bi (bi (bi ac)))) ⟨⟨_,rfl,.of_eq (by rw[d];rfl)⟩,Tk I,rfl,⟨_,rfl,.of_eq (by rw[d];rfl)⟩,Tk I,ac,ac⟩ I⟩
  .have j:p.rules.length<=i:=by simpa using j
   have x:i=p.rules.length:=by omega
   subst x;have hp:gF p.rules w1 p.rules.length=qi p:=by rw[qi,Y]
   rw[hp];refine gA I (aE [1,4] (d105 (qi p)) I I I I I I I I ?_);refine gA I (aN (by first|exact .inr I|exact .inl I) I (.of_eq ?_));rfl
end Go.Proofs.YtbhphmfbligliaaGreatDoor
namespace Go.Proofs.YtbhphmfbligliaaGreatDoor
open Go Go.Al Go.Proofs.Tryz Go.ChangeShapes Go.WideShapes Go.RowKit
section
theorem y5{α:Type}(f:α->Nat): ∀l:List α,(l.map fun x=>f x+1).sum=(l.map f).sum+l.length
 | []=>rfl
 |x::r=>by simp only[TD,Vj,TO,y5 f r];omega
section
variable {H:Type} {enc:TypeId×Value->H} {W:World} {hT:lI W} {sp:Nat->Bool} {held:Bool}
def QD(x:Decl)(d:DataW H):Prop:=x.types.length+1<=bk d∧x.ts<=400*bk d
def QR1(r:ar)(d:DataW H):Prop:=(r.size+1<=bk d∧r.ts<=400*bk d)∧r.head.ts<=400*bk d∧ ∀l∈r.body,l.ts<=400*bk d
def R6(p:Prog)(d:DataW H):Prop:=(p.size<=bk d∧p.ts<=400*bk d)∧p.aw.length<=bk d∧p.rules.length<=bk d∧ ∀r∈p.rules,r.size<=bk d∧r.head.ts<=400*bk d∧ ∀l∈r.body,l.ts<=400*bk d
def QF(f:Fact)(d:DataW H):Prop:=f.args.length<=bk d
theorem F2(n:Nat):Rd enc prog W hT sp held 105 ar.c QR1 n:=by
 intro m _ cs y h;obtain⟨xs,k,rfl,rfl,j,Z,d⟩:=DataW.trod_struct underlying105 h
 match xs,Z with
 | [x0,x1,x2],_=>
  obtain⟨a,B,qa⟩:=CI (hT:=hT) k k (Tv _) _ _ (me d 0 I I I ve I);obtain⟨b,C,u⟩:=J1 (hT:=hT) k k (Tv _) _ _ (me d 1 I I I A2 I);obtain⟨c,D,qc⟩:=Bu (hT:=hT) k k (Tv _) _ _ (me d 2 I I I tq I);refine⟨⟨a,b,c⟩,B.eS (o':=2) I (C.eS (o':=3) I (D.eS (o':=5) I (.end_ (j.trans A1)))),?_⟩;have x:=u.sum (f:=Lit.size) (c:=1) fun _ _ h=>by have:=h.2;omega
  rw[<-Lit.dM]at x;have A:=u.sum (f:=Lit.ts) (c:=400) fun _ _ h=>h.1;rw[<-Lit.nK]at A;obtain⟨F,G⟩:=qa;simp only[bk]at x F G A;refine⟨⟨?_,?_⟩,?_,fun l j=>?_⟩
  .simp only[ar.size,bk,TD,TX,Rows.uptoBulk,Rows.uptoBulkAll];omega
  .simp only[ar.ts,bk,TD,TX,Rows.uptoBulk,Rows.uptoBulkAll];omega
  .simp only[bk,TD,TX,Rows.uptoBulk,Rows.uptoBulkAll];omega
  .obtain⟨e,⟨J,_⟩,Y⟩:=u.all l j;simp only[bk]at J Y;simp only[bk,TD,TX,Rows.uptoBulk,Rows.uptoBulkAll];omega
theorem J2(n:Nat):Rd enc prog W hT sp held 3 eO (fun _ _=>True) n:=by
 intro m j d y h;obtain⟨z,u,_⟩:=iC (hT:=hT) underlying3 n m j d y h;exact⟨z,u,ac⟩
theorem J4(n:Nat):Rd enc prog W hT sp held 99 Decl.c QD n:=by
 intro m _ Y y h;obtain⟨J,k,rfl,rfl,C,D,d⟩:=DataW.trod_struct underlying99 h
 match J,D with
 | [x0,x1,x2],_=>
  obtain⟨a,u,F,_⟩:=iB (hT:=hT) underlying9 k k (Tv _) _ _ (me d 0 I I I pD I);obtain⟨b,x,G⟩:=(gr (hT:=hT) underlying58 jo (by decide) (fun _=>rfl) (J2 k)).mono (Vg k) k (Tv _) _ _ (me d 1 I I I KT I);obtain⟨c,A,Z⟩:=Bu (hT:=hT) k k (Tv _) _ _ (me d 2 I I I tq I);refine⟨⟨a,b,c⟩,u.eS (o':=1) I (x.eS (o':=2) I (A.eS (o':=4) I (.end_ (C.trans Du)))),?_⟩;have B:=G.len;have j:=rS (H:=H) a;rw[<-F]at j;simp only[bk]at B j;refine⟨?_,?_⟩
  .simp only[bk,TD,TX,Rows.uptoBulk,Rows.uptoBulkAll];omega
  .simp only[Decl.ts,bk,TD,TX,Rows.uptoBulk,Rows.uptoBulkAll];omega
theorem J0(n:Nat):Rd enc prog W hT sp held 25 Prog.c R6 n:=by
 intro m _ cs y h;obtain⟨xs,k,rfl,rfl,j,hx,C⟩:=DataW.trod_struct underlying25 h
 match xs,hx with
 | [x0,x1],_=>
  obtain⟨a,F,D⟩:=(gr (hT:=hT) underlying22 Du (by decide) (fun _=>rfl) (J4 k)).mono (Vg k) k (Tv _) _ _ (me C 0 I I I KY I);obtain⟨b,G,u⟩:=(gr (hT:=hT) underlying23 A1 (by decide) (fun _=>rfl) (F2 k)).mono (Vg k) k (Tv _) _ _ (me C 1 I I I KX I);refine⟨⟨a,b⟩,F.eS (o':=1) I (G.eS (o':=2) I (.end_ (j.trans KW))),?_⟩;have x:=D.sum (f:=fun d=>d.types.length+1) (c:=1) fun _ _ h=>by
   simp only[QD]at h;omega
  have A:=u.sum (f:=fun r=>r.size+1) (c:=1) fun _ _ h=>by have:=h.1.1;omega
  rw[y5]at x A;have h8:=D.sum (f:=Decl.ts) (c:=400) fun _ _ h=>h.2;have h9:=u.sum (f:=ar.ts) (c:=400) fun _ _ h=>h.1.2;simp only[bk]at x A h8 h9;refine⟨⟨?_,?_⟩,?_,?_,fun r hr=>?_⟩
  .simp only[Prog.size,bk,TD,TX,Rows.uptoBulk,Rows.uptoBulkAll];omega
  .simp only[Prog.ts,bk,TD,TX,Rows.uptoBulk,Rows.uptoBulkAll];omega
  .simp only[bk,TD,TX,Rows.uptoBulk,Rows.uptoBulkAll];omega
  .simp only[bk,TD,TX,Rows.uptoBulk,Rows.uptoBulkAll];omega
  .obtain⟨e,⟨⟨J,_⟩,Y,B⟩,Z⟩:=u.all r hr;simp only[bk]at J Y B Z;refine⟨?_,?_,fun l j=>?_⟩
   .simp only[bk,TD,TX,Rows.uptoBulk,Rows.uptoBulkAll];omega
   .simp only[bk,TD,TX,Rows.uptoBulk,Rows.uptoBulkAll];omega
   .have:=B l j;simp only[bk,TD,TX,Rows.uptoBulk,Rows.uptoBulkAll];omega
theorem J3(n:Nat):Rd enc prog W hT sp held 28 Fact.c QF n:=by
 intro m _ F y h;obtain⟨D,k,rfl,rfl,A,B,d⟩:=DataW.trod_struct underlying28 h
 match D,B with
 | [x0,x1],_=>
  obtain⟨a,j,G,_⟩:=iB (hT:=hT) underlying9 k k (Tv _) _ _ (me d 0 I I I pD I);obtain⟨b,u,C⟩:=(gr (hT:=hT) underlying26 tr (by decide) (fun _=>rfl) (rd_val k)).mono (Vg k) k (Tv _) _ _ (me d 1 I I I KV I);refine⟨⟨a,b⟩,j.eS (o':=1) I (u.eS (o':=2) I (.end_ (A.trans Dw))),?_⟩;have x:=C.len;simp only[bk]at x;simp only[QF,bk,TD,TX,Rows.uptoBulk,Rows.uptoBulkAll];omega
end
theorem Pc{H:Type}{p:Prog}{d:DataW H}(h:R6 p d)(hb:bk d<=1048576):p.fit:=by
 obtain⟨⟨A,_⟩,B,C,j⟩:=h;refine⟨by omega,by omega,fun r y=>?_⟩;obtain⟨D,F,u⟩:=j r y;exact⟨by omega,by omega,fun l x=>by have:=u l x;omega⟩
theorem HB{H:Type}{enc:TypeId×Value->H}{W:World}(hT:lI W){v:Value}{d:DataW H}{p:List MemPlace}(j: ∃base,Value.okWide prog W .any base 25 v)(h:DataW.Trod enc prog W 0 (fun _=>is) is 25 v d p):
  ∃x:Prog,R6 x d∧VR (Mem.pb W hT) PB (· <0) (ag x.c) v:=by
 obtain⟨base,j⟩:=j;obtain⟨B,rfl,_⟩:=okWide_struct underlying25 j;obtain⟨n,A⟩:=h;obtain⟨r,u,y⟩:=J0 (hT:=hT) n n (Tv _) _ _ A;exact⟨r,y,u.agg⟩
theorem Ng{M:Mem}{N:Nm}{U:Nat->Prop}{p:IV}{a:Option Addr}{l c:Nat}(h:CR M [p] (Value.slice a l c).cells.toList):VR M N U (.iv p) (.slice a l c):= .iv _ _ (h.2 0 p I)
end
end Go.Proofs.YtbhphmfbligliaaGreatDoor
namespace Go.Proofs.YtbhphmfbligliaaGreatDoor
open Go Go.Al
inductive Tree where
 |mk (fact:Fact) (c8:Int) (kids:List Tree)
instance:Inhabited Tree:=⟨.mk co 0 []⟩
def Tree.fact:Tree->Fact| .mk f _ _=>f
def Tree.c8:Tree->Int| .mk _ r _=>r
def Tree.kids:Tree->List Tree| .mk _ _ k=>k
structure du where
 fact:Fact
 c8:Int
 kids:List Int
 deriving Inhabited
structure cM where
 fact:Fact
 c8:Int
 kids:Int
 up:List Int
 deriving Inhabited
mutual
def Tree.cr:Tree->List IV
 | .mk f r ks=> [iS f.rel,bp 3 f.args ei.c,iI r,.bU 4 ks.length (fun j=>(Tree.qR ks).getD j [])]
def Tree.qR:List Tree->List (List IV)
 | []=> []
 |e::r=>e.cr::Tree.qR r
end
def Tree.c(t:Tree):List IV:=[iS t.fact.rel,bp 3 t.fact.args ei.c,iI t.c8,.bU 4 t.kids.length (fun j=>(Tree.qR t.kids).getD j [])]
def Tree.c1(t:Tree):List IV:=[iS t.fact.rel,bp 3 t.fact.args ei.c,iI t.c8,bp 4 t.kids Tree.c]
theorem Tree.AV(e:Tree):e.cr=e.c:=by cases e;rfl
theorem Tree.j6: ∀(l:List Tree) (k:Nat),k<l.length->(Tree.qR l).getD k []=(l.getD k co).c
 |e::r,0,_=>by simp[Tree.qR,Tree.AV]
 |e::r,k+1,h=>by simpa[Tree.qR]using Tree.j6 r k (by simpa using h)
 | [],k,h=>by simp at h
theorem Ff(l:List Tree):jG (.bU 4 l.length (fun j=>(Tree.qR l).getD j [])) (bp 4 l Tree.c):= .bU I (Tree.j6 l)
theorem Cm(l:List Tree):jG (bp 4 l Tree.c) (.bU 4 l.length (fun j=>(Tree.qR l).getD j [])):= .bU I (fun k d=>(Tree.j6 l k d).symm)
theorem Tree.wY(e:Tree):aj (ag e.c) (ag e.c1):= .agg ⟨.refl _,.refl _,.refl _,.iv (Ff _),ac⟩
theorem Tree.BJ(e:Tree):aj (ag e.c1) (ag e.c):= .agg ⟨.refl _,.refl _,.refl _,.iv (Cm _),ac⟩
def du.c(l:du):List IV:=[iS l.fact.rel,bp 3 l.fact.args ei.c,iI l.c8,bp 1 l.kids eO]
def cM.c(n:cM):List IV:=[iS n.fact.rel,bp 3 n.fact.args ei.c,iI n.c8,iI n.kids,bp 1 n.up eO]
mutual
def Tree.size:Tree->Nat
 | .mk _ _ ks=>1+Tree.an ks
def Tree.an:List Tree->Nat
 | []=>0
 |e::r=>e.size+Tree.an r
end
theorem Tree.size_eq(e:Tree):e.size=1+Tree.an e.kids:=by cases e;rw[Tree.size];rfl
theorem Tree.fu: ∀a b:List Tree,Tree.an (a++b)=Tree.an a+Tree.an b
 | [],b=>by simp[Tree.an]
 |x::a,b=>by rw[TV,Tree.an,Tree.an,Tree.fu a b];omega
theorem Tree.size_pos(e:Tree):1<=e.size:=by rw[e.size_eq];omega
theorem Tree.aA: ∀l:List Tree,l.length<=Tree.an l
 | []=>Tv _
 |e::r=>by have:=e.size_pos;have:=Tree.aA r;simp only[TO,Tree.an];omega
def Tree.vP(t:Tree):cM:=⟨t.fact,t.c8,t.kids.length,[]⟩
mutual
def Tree.pre:Tree->List cM
 | .mk f r ks=>⟨f,r,ks.length,[]⟩::Tree.fw ks
def Tree.fw:List Tree->List cM
 | []=> []
 |e::r=>e.pre++Tree.fw r
end
theorem Tree.OJ(t:Tree):t.pre=t.vP::Tree.fw t.kids:=by cases t;rw[Tree.pre];rfl
mutual
theorem Tree.fV: ∀t:Tree,t.pre.length=t.size
 | .mk f r ks=>by rw[Tree.pre,Tree.size,TO,Tree.qj ks];omega
theorem Tree.qj: ∀l:List Tree,(Tree.fw l).length=Tree.an l
 | []=>rfl
 |e::r=>by rw[Tree.fw,Tree.an,Tn,Tree.fV e,Tree.qj r]
end
theorem Tree.mP: ∀a b:List Tree,Tree.fw (a++b)=Tree.fw a++Tree.fw b
 | [],b=>by simp[Tree.fw]
 |x::a,b=>by rw[TV,Tree.fw,Tree.fw,Tree.mP a b,Tz]
def qU(i:Nat)(k:Int):Int:=if 0<=k∧k<i then i-k else 0
def du.vP(i:Nat)(l:du):cM:=⟨l.fact,l.c8,l.kids.length,l.kids.map (qU i)⟩
def cE(l:List du):List cM:=l.zipIdx.map fun x=>x.1.vP x.2
end Go.Proofs.YtbhphmfbligliaaGreatDoor
namespace Go.Proofs.YtbhphmfbligliaaGreatDoor
open Go Go.Al Go.Proofs.Tryz Go.ChangeShapes Go.WideShapes Go.RowKit
section
theorem KU:prog.cellsOf 29=1:=by kernel_rfl
theorem Dv:prog.cellsOf 31=4:=by kernel_rfl
section
variable {H:Type} {enc:TypeId×Value->H} {W:World} {hT:lI W} {sp:Nat->Bool} {held:Bool}
theorem PO{z:Int}(h:(Go.Lit.int .u8 z).wf=is):0<=z∧z<256:=by
 have h:(kw ((0:Int)<=z)&&kw (z<=255))=is:=h;rw[TZ,decide_eq_true_eq,decide_eq_true_eq]at h;omega
theorem J5(n:Nat):Rd enc prog W hT sp held 5 bb (fun _ _=>True) n:=by
 intro m j d y h;obtain⟨z,x,_,u⟩:=iC (hT:=hT) underlying5 n m j d y h;obtain⟨A,B⟩:=PO u;refine⟨UInt8.ofNat z.toNat,?_,ac⟩;have e:((UInt8.ofNat z.toNat).toNat:Int)=z:=by simp;omega
 show CR _ [.v (.int .u8 ((UInt8.ofNat z.toNat).toNat:Int))] d;rw[e];exact x
def QTr(t:Tree)(d:DataW H):Prop:=t.size<=bk d∧ ∀x∈t.pre,x.fact.args.length<=bk d
theorem Tree.dM: ∀l:List Tree,Tree.an l=(l.map Tree.size).sum
 | []=>rfl
 |e::r=>by simp only[Tree.an,TD,Vj,Tree.dM r]
theorem Tree.zY: ∀{l:List Tree} {x:cM},x∈Tree.fw l-> ∃t∈l,x∈t.pre
 |e::r,x,h=>by
  rw[Tree.fw]at h;rcases TP.1 h with h|h
  .exact⟨e,TJ ..,h⟩
  .obtain⟨t,d,j⟩:=Tree.zY h;exact⟨t,TH _ d,j⟩
theorem CH: ∀n:Nat,Rd enc prog W hT sp held 31 Tree.c QTr n
 |0=>fun m hm F y h=>by
  obtain rfl:m=0:=by omega
  simp[DataW.trod]at h
 |n+1=>fun m hm F y h=>by
  obtain⟨xs,k,rfl,rfl,hl,hx,j⟩:=DataW.trod_struct underlying31 h;have hs:=gr (hT:=hT) underlying29 Dv (by decide) (fun _=>rfl) (CH n)
  match xs,hx with
  | [x0,x1,x2],_=>
   obtain⟨a,B,qa⟩:=J3 (hT:=hT) k k (Tv _) _ _ (me j 0 I I I Dw I);obtain⟨b,C,qb,_⟩:=iC (hT:=hT) underlying3 k k (Tv _) _ _ (me j 1 I I I jo I);obtain⟨e,D,A⟩:=hs k (by omega) _ _ (me j 2 I I I KU I);refine⟨.mk a b e,B.eS (o':=2) I (C.eS (o':=3) I ((D.wY (Cm e)).eS (o':=4) I (.end_ (hl.trans Dv)))),?_⟩;have u:=A.sum (f:=Tree.size) (c:=1) fun _ _ h=>by have:=h.1;omega
   rw[<-Tree.dM]at u;have G:a.args.length<=bk x0.1:=qa;simp only[bk]at u G;refine⟨?_,fun x hx=>?_⟩
   .simp only[Tree.size,bk,TD,TX,Rows.uptoBulk,Rows.uptoBulkAll];omega
   .rw[Tree.pre]at hx;rcases TQ.1 hx with rfl|hx
    .simp only[bk,TD,TX,Rows.uptoBulk,Rows.uptoBulkAll];omega
    .obtain⟨t,J,Y⟩:=Tree.zY hx;obtain⟨d,Z,h8⟩:=A.all t J;have h9:=Z.2 x Y;simp only[bk]at h8 h9;simp only[bk,TD,TX,Rows.uptoBulk,Rows.uptoBulkAll];omega
end
theorem ES{H:Type}{enc:TypeId×Value->H}{W:World}(hT:lI W){v:Value}{d:DataW H}{p:List MemPlace}(j: ∃base,Value.okWide prog W .any base 33 v)(h:DataW.Trod enc prog W 0 (fun _=>is) is 33 v d p):
  ∃x:List UInt8,x.length<=bk d∧VR (Mem.pb W hT) PB (· <0) (.iv (bp 1 x bb)) v:=by
 obtain⟨base,j⟩:=j;obtain⟨a,len,a0,rfl⟩:=okWide_slice underlying33 j;obtain⟨n,A⟩:=h;obtain⟨r,u,y⟩:=(gr (hT:=hT) underlying33 Hq (by decide) (fun _=>rfl) (J5 n)).mono (Vg n) n (Tv _) _ _ A;exact⟨r,y.len,Ng u⟩
theorem HA{H:Type}{enc:TypeId×Value->H}{W:World}(hT:lI W){v:Value}{d:DataW H}{p:List MemPlace}(j: ∃base,Value.okWide prog W .any base 31 v)(h:DataW.Trod enc prog W 0 (fun _=>is) is 31 v d p):
  ∃x:Tree,QTr x d∧VR (Mem.pb W hT) PB (· <0) (ag x.c) v:=by
 obtain⟨base,j⟩:=j;obtain⟨B,rfl,_⟩:=okWide_struct underlying31 j;obtain⟨n,A⟩:=h;obtain⟨r,u,y⟩:=CH (hT:=hT) n n (Tv _) _ _ A;exact⟨r,y,u.agg⟩
theorem Qj{H:Type}{p:Prog}{d:DataW H}(h:R6 p d)(hb:bk d<=1048576):p.ts<=800000000:=by
 have:=h.1.2;omega
end
theorem lS:prog.closure 8=[8,9,26,27,11,30,57,24,44,93,94,137,136,171,208,256,209,145,181,231,282,313,232,157,172,210,147,144,98,146,182,233,183,184,234,242,283,250,298,330,337,338,281,343,344,339,340,345,346,348,349,314,100,149,211,185,235,284,236,285,286,316,315,317,237,148,212,228,257,300,213,258,263,214,216,217,215,259,218,219,220,221,260,301,261,179,230,262,222,264,302,265,267,303,266,268,223,224,269,304,305,174,229,270,306,225,135,95,138,139,173,227,280,226,271,277,312,272,307,273,308,309,274,310,311,331,275,276,278,279,140,96,141,175,176,177,142,178,143,180,46,101,102,103,150,151,186,45,97,99,47,58,59,110,158,190,240,287,241,60,61,62,111,64,63,66,65,112,67,113,68,69,70,71,72,114,15,13,31,73,74,115,116,117,75,118,76,77,78,119,79,32,33,80,17,18,14,34,81,120]:=by kernel_rfl
theorem vW:joinedFacts prog 8 f8 (Rows.OpenSpec.upto Rows.certCutSpec).bare Rows.certCutUptoRow=is:=by
 have j:prog.inPlace 8=Rows.certCutUptoRow.inPlace:=by unfold Program.inPlace;rw[lS];kernel_rfl
 have d:prog.unfollowed 8=is:=by unfold Program.unfollowed;rw[lS];kernel_rfl
 have u:prog.varsNamed 8=Rows.certCutUptoRow.named:=by unfold Program.varsNamed;rw[lS];kernel_rfl
 have x:prog.recurses 8=is:=by unfold Program.recurses;rw[d];rfl
 unfold joinedFacts;rw[j,d,u,x];show(_:Bool)=is
 kernel_rfl
end Go.Proofs.YtbhphmfbligliaaGreatDoor
namespace Go.En
def gy:Nat->Nat->List UInt8
 |0,n=> [UInt8.ofNat n]
 |f+1,n=>if n<128 then[UInt8.ofNat n] else UInt8.ofNat (n % 128+128)::gy f (n/128)
def enc(n:Nat):List UInt8:=gy 10 n
inductive Res where
 |ok (n k:Nat)
 |short
 |form
def dec:Nat->Nat->List UInt8->Res
 |_,_,[]=> .short
 |i,a,c::r=>if(i=9∧1<c.toNat)∨(0<i∧c.toNat=0) then .form else if c.toNat<128 then .ok (a+c.toNat % 128*128 ^ i) (i+1) else dec (i+1) (a+c.toNat % 128*128 ^ i) r
theorem tN{n:Nat}(h:n<256):(UInt8.ofNat n).toNat=n:=by simp;omega
theorem nv: ∀f n,1<=(gy f n).length∧(gy f n).length<=f+1
 |0,_=>by simp[gy]
 |f+1,n=>by
  unfold gy;split
  .simp
  .have:=nv f (n/128);simp;omega
theorem AT: ∀(f i n a:Nat) (r:List UInt8),i+f=9->(0<i->0<n)->n<2*128 ^ f->dec i a (gy f n++r)= .ok (a+n*128 ^ i) (i+(gy f n).length)
 |0,i,n,a,r,hi,h0,hn=>by
  have y:n<2:=by simpa using hn
  have u:=tN (n:=n) (by omega);have d: ¬((i=9∧1<n)∨(0<i∧n=0)):=by
   rintro(⟨_,h⟩|⟨h,x⟩)
   .omega
   .have:=h0 h;omega
  simp only[gy,TV,T3,dec,u,be d,am (show n<128 by omega),VU (show n<128 by omega),TO,UJ]
 |f+1,i,n,a,r,hi,h0,hn=>by
  unfold gy;split
  .rename_i h;have u:=tN (n:=n) (by omega);have d: ¬((i=9∧1<n)∨(0<i∧n=0)):=by
    rintro(⟨h3,_⟩|⟨h,x⟩)
    .omega
    .have:=h0 h;omega
   simp only[TV,T3,dec,u,be d,am h,VU h,TO,UJ]
  .rename_i h;have A:=Nat.mod_lt n (show 0<128 by decide);have u:=tN (n:=n % 128+128) (by omega);have d: ¬((i=9∧1<n % 128+128)∨(0<i∧n % 128+128=0)):=by rintro(⟨h3,_⟩|⟨_,x⟩)<;>omega
   have j:n/128<2*128 ^ f:=by
    rw[WK (by decide)]
    calc n<2*128 ^ (f+1):=hn
     _=2*128 ^ f*128:=by rw[V9,WX]
   simp only[TV,dec,u,be d,be (show¬n % 128+128<128 by omega),TO];rw[AT f (i+1) (n/128) _ r (by omega) (fun _=>by omega) j];have e:(n % 128+128) % 128=n % 128:=by omega
   rw[e];congr 1
   .have x:n=n % 128+n/128*128:=by omega
    rw[V9]
    calc a+n % 128*128 ^ i+n/128*(128 ^ i*128)=a+(n % 128+n/128*128)*128 ^ i:=by rw[Ug,WX (n/128) 128,Nat.mul_comm (128 ^ i) 128,Ux]
     _=a+n*128 ^ i:=by rw[<-x]
   .omega
theorem yH{n:Nat}(h:n<2 ^ 64)(r:List UInt8):dec 0 0 (gy 9 n++r)= .ok n (gy 9 n).length:=by
 have:=AT 9 0 n 0 r I (fun h=>absurd h (by decide)) (by rw[show 2*128 ^ 9=2 ^ 64 by decide];exact h);simpa using this
theorem xl: ∀(f n:Nat),n<128 ^ (f+1)->gy (f+1) n=gy f n
 |0,n,h=>by
  have:n<128:=by simpa using h
  simp[gy,this]
 |f+1,n,h=>by
  rw[gy]
  conv=>rhs;rw[gy]
  split
  .rfl
  .rw[xl f];rw[WK (by decide)];rwa[V9]at h
theorem u5{n:Nat}(h:n<2 ^ 64):enc n=gy 9 n:=xl 9 n (Vf h (by decide))
theorem AP: ∀(l:List UInt8) {i a n k:Nat},i<=9->dec i a l= .ok n k-> ∃m,n=a+m*128 ^ i∧l.take (k-i)=gy (9-i) m∧k-i<=l.length∧i<k∧m<2*128 ^ (9-i)∧(0<i->0<m)
 | [],_,_,_,_,_,h=>by cases h
 |c::l,i,a,n,k,hi,h=>by
  unfold dec at h;split at h
  .cases h
  .rename_i j;have F:=c.toNat_lt;split at h
   .rename_i d;cases h;rw[VU d];refine⟨c.toNat,rfl,?_,by simp,by omega,?_,fun u=>?_⟩
    .rw[show i+1-i=1 by omega,UL,VI];cases hf:9-i with
     |zero=>simp[gy]
     |succ f=>rw[gy,am d];simp
    .rcases Un i 9 with g|g
     .calc c.toNat<128:=d
       _<=2*128 ^ (9-i):=by
        have:128 ^ 1<=128 ^ (9-i):=Nat.pow_le_pow_right (by decide) (by omega);omega
     .have:i=9:=by omega
      subst this;have: ¬1<c.toNat:=fun h=>j (.inl ⟨rfl,h⟩);simp;omega
    .rcases V2 c.toNat with e|e
     .exact absurd (.inr ⟨u,e⟩) j
     .exact e
   .rename_i d;have y:i<9:=by
     rcases Un i 9 with g|g
     .exact g
     .exact absurd (Or.inl ⟨by omega,by omega⟩) j
    obtain⟨m,B,C,G,J,Y,D⟩:=AP l (by omega) h;have A:=D (by omega);have x:c.toNat % 128=c.toNat-128:=by omega
    refine⟨c.toNat % 128+m*128,?_,?_,by simp;omega,by omega,?_,fun _=>by omega⟩
    .rw[B,V9,Ug,WX m 128,Nat.mul_comm 128 (128 ^ i),Ux]
    .rw[show k-i=(k-(i+1))+1 by omega,UL,C,show 9-i=(9-(i+1))+1 by omega,gy,be (by omega)];congr 1
     .rw[show(c.toNat % 128+m*128) % 128+128=c.toNat by omega];simp
     .rw[show(c.toNat % 128+m*128)/128=m by omega]
    .rw[show 9-i=(9-(i+1))+1 by omega,V9];omega
theorem AR{l:List UInt8}{n k:Nat}(h:dec 0 0 l= .ok n k):n<2 ^ 64∧l.take k=gy 9 n∧k<=l.length∧0<k:=by
 obtain⟨m,d,j,u,x,y,_⟩:=AP l (TB _) h;have e:n=m:=by simpa using d
 subst e;refine⟨by rw[<-show 2*128 ^ 9=2 ^ 64 by decide];exact y,by simpa using j,by simpa using u,x⟩
abbrev By:=List UInt8
structure RS where
 p:Nat
 f:Int
def zz(n:Int):Nat:=if n<0 then(-2*n-1).toNat else(2*n).toNat
def yR(u:Nat):Int:=if u % 2=0 then((u/2:Nat):Int) else-((u/2:Nat):Int)-1
theorem Ni(n:Int):yR (zz n)=n:=by
 unfold zz yR;split<;>split<;>omega
def bt(b:By)(most:Nat)(s:RS):Nat×RS:=
 if s.f=0 then match dec 0 0 (b.drop s.p) with
  | .ok n k=>if n<=most then(n,⟨s.p+k,0⟩) else(0,⟨s.p,12⟩)
  | .short=>(0,⟨s.p,10⟩)
  | .form=>(0,⟨s.p,11⟩)
 else(0,s)
def kP(b:By)(lo hi:Int)(s:RS):Int×RS:=
 if s.f=0 then match dec 0 0 (b.drop s.p) with
  | .ok n k=>if lo<=yR n∧yR n<=hi then(yR n,⟨s.p+k,0⟩) else(0,⟨s.p,12⟩)
  | .short=>(0,⟨s.p,10⟩)
  | .form=>(0,⟨s.p,11⟩)
 else(0,s)
def fG(b:By)(most:Nat)(s:RS):By×RS:=
 if s.f=0 then match dec 0 0 (b.drop s.p) with
  | .ok n k=>if n<=most then(if n<=b.length-(s.p+k) then((b.drop (s.p+k)).take n,⟨s.p+k+n,0⟩) else([],⟨s.p,10⟩)) else([],⟨s.p,12⟩)
  | .short=>([],⟨s.p,10⟩)
  | .form=>([],⟨s.p,11⟩)
 else([],s)
structure At (b:By) (s:RS) (r:By):Prop where
 f:s.f=0
 le:s.p<=b.length
 r:b.drop s.p=r
theorem At.go{b:By}{s:RS}{x r:By}(h:At b s (x++r)):At b ⟨s.p+x.length,0⟩ r:=by
 have d:=congrArg Vp h.r;have j:=h.le;rw[U5,Tn]at d;refine⟨rfl,by show s.p+x.length<=_;omega,?_⟩;show b.drop (s.p+x.length)=r;rw[<-List.drop_drop,h.r];simp
theorem jH{b:By}{s:RS}{r:By}{n most:Nat}(h:At b s (enc n++r))(hm:n<=most)(hn:n<2 ^ 64):bt b most s=(n,⟨s.p+(enc n).length,0⟩):=by
 have d:=yH hn r;rw[<-u5 hn]at d;simp[bt,h.f,h.r,d,hm]
theorem GD{b:By}{s:RS}{r:By}{n lo hi:Int}(h:At b s (enc (zz n)++r))(j:lo<=n)(hh:n<=hi)(hn:zz n<2 ^ 64):kP b lo hi s=(n,⟨s.p+(enc (zz n)).length,0⟩):=by
 have d:=yH hn r;rw[<-u5 hn]at d;simp[kP,h.f,h.r,d,Ni,j,hh]
def mj(t:By):By:=enc t.length++t
theorem DJ{b:By}{s:RS}{t r:By}{most:Nat}(h:At b s (mj t++r))(hm:t.length<=most)(hn:t.length<2 ^ 64):fG b most s=(t,⟨s.p+(mj t).length,0⟩):=by
 unfold mj at h;rw[Tz]at h;have d:=yH hn (t++r);rw[<-u5 hn]at d;have j:=h.go;have u:=congrArg Vp j.r;rw[U5,Tn]at u;have x:t.length<=b.length-(s.p+(enc t.length).length):=by
  have:b.length-(s.p+(enc t.length).length)=t.length+r.length:=u;omega
 have y:b.drop (s.p+(enc t.length).length)=t++r:=j.r;simp[fG,h.f,h.r,d,hm,x,y,mj,Ux]
def dH(b:By)(most:Nat):Nat->RS->List By×RS
 |0,s=>([],s)
 |n+1,s=>if s.f=0 then((fG b most s).1::(dH b most n (fG b most s).2).1,(dH b most n (fG b most s).2).2) else([],s)
theorem tP{b:By}{most:Nat}(d:most<2 ^ 64): ∀(l:List By) {s:RS} {r:By},At b s (l.flatMap mj++r)->(∀t∈l,t.length<=most)->dH b most l.length s=(l,⟨s.p+(l.flatMap mj).length,0⟩)
 | [],s,r,h,_=>by
  have:=h.f;cases s
  simp_all [dH]
 |t::l,s,r,h,hm=>by
  rw[T9,Tz]at h;have j:=hm t (TJ ..);have u:=DJ h j (by omega);have x:=tP d l h.go fun t y=>hm t (TH _ y);rw[TO,dH,am h.f,u];simp only[x,T9,Tn,Ux]
end Go.En
namespace Go.Proofs.YtbhphmfbligliaaGreatDoor
open Go Go.Al
def EC(p:Prog)(f:Fact)(j:Nat):Bool:=kw ((f.args.getD j co).kind=(eK p f.rel).types.getD j co)
def oF(p:Prog)(f:Fact):Int:=
 if cZ .str (p9 p) f.rel=jp∨mg f=jp∨ ¬(f.args.length:Int)=((eK p f.rel).types.length:Int) then 5
 else if(Uk f.args.length).all (EC p f)=is then 0 else 5
theorem D9{q:Nat->Bool}{n:Nat}(h: ∀j,j<n->q j=is):(Uk n).all q=is:=T7.2 fun j d=>h j (Vx.1 d)
theorem D8{q:Nat->Bool}{n j:Nat}(h:j<n)(d:q j=jp): ¬(Uk n).all q=is:=fun e=>by
 have:=T7.1 e j (Vx.2 h);rw[d]at this;cases this
theorem c16(p:Prog)(f:Fact)(hb:p.aw.length<=1000000000)(hf:f.args.length<=1000000000):Pure Tryz.prog 110 [ag p.c,ag f.c] (pI (oF p f)):=by
 refine ai ab Tryz.func110 I (by decide) Tryz.ntmps110 I (by simp) I ?_;refine gA I (zd [] (d50 p (by omega)) ?_);refine zE I I (fun g1=>?_) fun g1=>?_
 .have g1:cZ .str (p9 p) f.rel=jp:=by simpa using g1
  rw[oF,am (.inl g1)];exact zU I
 have g1: ¬cZ .str (p9 p) f.rel=jp:=by
  have g:(!cZ .str (p9 p) f.rel)=jp:=g1;intro h;rw[h]at g;cases g
 refine gA I (zp (c55 f) ?_);refine zE I I (fun g2=>?_) fun g2=>?_
 .have g2:mg f=jp:=by
   cases h:mg f with
   |false=>rfl
   |true=>
    have g:(!kw ((if mg f then(0:Int) else 20)=0))=is:=g2;rw[h]at g;simp at g
  rw[oF,am (.inr (.inl g2))];exact zU I
 have g2: ¬mg f=jp:=by
  intro h;have g:(!kw ((if mg f then(0:Int) else 20)=0))=jp:=g2;rw[h]at g;simp at g
 refine zJ I I (fun g3=>?_) fun g3=>?_
 .have g3: ¬(f.args.length:Int)=((eK p f.rel).types.length:Int):=by
   have g:(!kw ((f.args.length:Int)=((eK p f.rel).types.length:Int)))=is:=g3;simpa only[UD,decide_eq_false_iff_not]using g
  rw[oF,am (.inr (.inr g3))];exact zU I
 have g3:(f.args.length:Int)=((eK p f.rel).types.length:Int):=by
  have g:(!kw ((f.args.length:Int)=((eK p f.rel).types.length:Int)))=jp:=g3;simpa only[Vl,decide_eq_true_eq]using g
 rw[oF,be (by rintro(h|h|h);exact g1 h;exact g2 h;exact h g3)];refine gA I ?_;refine aG 0 f.args.length (TB _) (fun i=>⟨[(5,.ptr 3 0),(34,.iv (bp 3 f.args ei.c)),(35,pI f.args.length),(36,pI i)],[(3,dl (az (eK p f.rel).c))],4⟩) (fun i=> ∀j,j<i->EC p f j=is) [] (fun j x=>absurd x (Vs j))
  (zW (zO trivial)) fun i A y=>?_
 refine zJ I I (fun d=>?_) fun d=>?_
 .have d:i<f.args.length:=zN d;refine zJ I I (fun u=>?_) fun u=>?_
  .have u:EC p f i=jp:=by
    have g:(!EC p f i)=is:=u;simpa using g
   rw[be (D8 d u)];exact zU I
  .have u:EC p f i=is:=by
    have g:(!EC p f i)=jp:=u;simpa using g
   refine gA I ⟨d,fun j x=>by rcases VE.1 x with h|h;exact y j h;exact h▸u,[],zW (zO ac)⟩
 .have d:f.args.length<=i:=zG d;rw[am (D9 fun j x=>y j (by omega))];exact zU I
end Go.Proofs.YtbhphmfbligliaaGreatDoor
namespace Go.Tj
section
section
variable {α:Type}
inductive mG (succ:α->List α):α->α->Prop
 |refl (a:α):mG succ a a
 |step {a b c:α}:mG succ a b->c∈succ b->mG succ a c
theorem mG.trans{succ:α->List α}{a b c:α}(h:mG succ a b)(g:mG succ b c):mG succ a c:=by
 induction g with
 |refl=>exact h
 |step _ he ih=>exact .step ih he
theorem mG.one{succ:α->List α}{a b:α}(h:b∈succ a):mG succ a b:= .step (.refl a) h
structure St (α:Type) where
 low:α->Int
 on:α->Int
 ring:α->Int
 n:Nat
 stack:List α
section
variable [DecidableEq α]
def xI(f:α->Int)(a:α)(v:Int):α->Int:=fun x=>if x=a then v else f x
theorem jN(f:α->Int)(a:α)(v:Int):xI f a v a=v:=am I
theorem kK{f:α->Int}{a x:α}{v:Int}(h: ¬x=a):xI f a v x=f x:=be h
def push(s:St α)(a:α):St α:=⟨xI s.low a ((s.n:Int)+1),xI s.on a 1,s.ring,s.n+1,s.stack++ [a]⟩
def yc(d:Int)(s:St α):St α:=match s.stack.getLast? with
 |some b=>⟨s.low,xI s.on b 2,xI s.ring b d,s.n,s.stack.dropLast⟩
 |none=>s
def fL(a:α)(d:Int):Nat->St α->St α
 |0,s=>s
 |k+1,s=>if s.on a=1 then fL a d k (yc d s) else s
def rY(d:α->St α->Int×St α)(q:Int×St α)(b:α):Int×St α:=
 if q.2.low b=0 then(min q.1 (d b q.2).1,(d b q.2).2) else if q.2.on b=1 then(min q.1 (q.2.low b),q.2) else q
def s4(a:α)(d:Int)(q:Int×St α):Int×St α:=if q.1=d then(q.1,fL a d q.2.stack.length q.2) else q
def eC(succ:α->List α):Nat->α->St α->Int×St α
 |0,_,s=>(0,s)
 |f+1,a,s=>s4 a ((s.n:Int)+1) ((succ a).foldl (rY (eC succ f)) ((s.n:Int)+1,push s a))
def gH(succ:α->List α)(f:Nat)(V:List α)(s:St α):St α:=V.foldl (fun s a=>if s.low a=0 then(eC succ f a s).2 else s) s
end
def St.o:St α:=⟨fun _=>0,fun _=>0,fun _=>0,0,[]⟩
structure Inv (succ:α->List α) (path:List α) (s:St α):Prop where
 mA: ∀a,0<=s.low a∧s.low a<=s.n
 inj: ∀a b,s.low a=s.low b->s.low a≠0->a=b
 HZ: ∀a,s.on a=0↔s.low a=0
 Ei: ∀a,s.on a=0∨s.on a=1∨s.on a=2
 wo: ∀a,s.on a=1↔a∈s.stack
 Py:s.stack.Pairwise fun x y=>s.low x<s.low y
 KN: ∀a,s.on a=2-> ∀b∈succ a,s.on b=2
 OI: ∀g∈path,s.on g=1
 up: ∀y,s.on y=1-> ∃g∈path,s.low g<=s.low y∧mG succ y g
 dn: ∀g∈path,∀y,s.on y=1->s.low g<=s.low y->mG succ g y
 aC: ∀y,s.low y≠0->y∉path-> ∀z∈succ y,s.low z≠0
 Rc: ∀a,s.on a=2-> ∃r,s.on r=2∧s.low r=s.ring a∧mG succ a r∧mG succ r a
 cmp: ∀a b,s.on a=2->s.on b=2->mG succ a b->mG succ b a->s.ring a=s.ring b
structure Le (s s':St α):Prop where
 low: ∀x,s.low x≠0->s'.low x=s.low x
 KN: ∀x,s.on x=2->s'.on x=2
 n:s.n<=s'.n
theorem Le.refl(s:St α):Le s s:=⟨fun _ _=>rfl,fun _ h=>h,Tv _⟩
theorem Le.trans{s t u:St α}(h:Le s t)(g:Le t u):Le s u:=
 ⟨fun x d=>by rw[g.low x (by rw[h.low x d];exact d),h.low x d],fun x d=>g.KN x (h.KN x d),Uh h.n g.n⟩
structure Ps (succ:α->List α) (path:List α) (a:α) (s:St α) (least:Int) (s':St α) (t:List α):Prop where
 inv:Inv succ path s'
 le:Le s s'
 stack:s'.stack=s.stack++t
 new: ∀y∈t,s.low y=0
 at_:(s.n:Int)<s'.low a
 OW:least<=s'.low a
 l1: ∀y∈t,∀z∈succ y,s'.on z=1->least<=s'.low z
 l2:(s'.on a=2∧least=s'.low a)∨ ∃z∈s.stack,s'.low z=least∧mG succ a z
theorem uu{succ:α->List α}{path:List α}{s:St α}(h:Inv succ path s){x:α}(d:s.on x=1):s.low x≠0:=fun g=>by
 have:=(h.HZ x).2 g;omega
theorem Ge{succ:α->List α}{p:List α}{s s':St α}(h:Inv succ p s)(d:Le s s'){x:α}(j:s.low x≠0)(ho:s'.on x=1):s.on x=1:=by
 rcases h.Ei x with g|g|g
 .exact absurd ((h.HZ x).1 g) j
 .exact g
 .have:=d.KN x g;omega
section
variable [DecidableEq α]
theorem zX{succ:α->List α}{path:List α}{s:St α}{a:α}(h:Inv succ path s)(ha:s.low a=0)(hp: ∀g∈path,mG succ g a):Inv succ (path++ [a]) (push s a):=by
 have a0:s.on a=0:=(h.HZ a).2 ha;have G:a∉s.stack:=fun g=>by have:=(h.wo a).2 g;omega
 have u: ∀x,¬x=a->(push s a).low x=s.low x:=fun x d=>kK d;have la:(push s a).low a=(s.n:Int)+1:=jN _ _ _;have C: ∀x,¬x=a->(push s a).on x=s.on x:=fun x d=>kK d;have D:(push s a).on a=1:=jN _ _ _;have hn:((push s a).n:Int)=(s.n:Int)+1:=by show((s.n+1:Nat):Int)=_;omega
 refine⟨fun x=>?_,fun x y B d=>?_,fun x=>?_,fun x=>?_,fun x=>?_,?_,fun x d b hb=>?_,fun g Z=>?_,fun y A=>?_,fun g Z y A F=>?_,fun y A J z hz=>?_,fun x d=>?_,fun x y d A h1 h2=>?_⟩
 .have:=h.mA x;by_cases e:x=a
  .subst e;rw[la,hn];omega
  .rw[u x e,hn];omega
 .have h1:=h.mA x;have h2:=h.mA y;by_cases e:x=a
  .by_cases j:y=a
   .rw[e,j]
   .rw[e,la,u y j]at B;omega
  .by_cases j:y=a
   .rw[j,la,u x e]at B;omega
   .rw[u x e,u y j]at B;rw[u x e]at d;exact h.inj x y B d
 .by_cases e:x=a
  .subst e;rw[D,la];constructor<;>intro g<;>omega
  .rw[C x e,u x e];exact h.HZ x
 .by_cases e:x=a
  .subst e;exact .inr (.inl D)
  .rw[C x e];exact h.Ei x
 .show _↔x∈s.stack++ [a];rw[TP,TF];by_cases e:x=a
  .subst e;simp[D]
  .rw[C x e,h.wo x];simp[e]
 .show(s.stack++ [a]).Pairwise _;rw[VS];refine⟨h.Py.imp_of_mem ?_,List.pairwise_singleton _ _,fun x d y A=>?_⟩
  .intro x y d A B;rw[u x (fun e=>G (e▸d)),u y (fun e=>G (e▸A))];exact B
  .rw[TF]at A;subst A;rw[la,u x (fun e=>G (e▸d))];have:=h.mA x;omega
 .have e: ¬x=a:=fun e=>by subst e;rw[D]at d;omega
  rw[C x e]at d;have Y:=h.KN x d b hb;have j: ¬b=a:=fun e=>by subst e;omega
  rw[C b j];exact Y
 .rcases TP.1 Z with g1|g1
  .have:=h.OI g g1;rw[C g (fun e=>by subst e;omega)];exact this
  .rw[TF]at g1;subst g1;exact D
 .by_cases e:y=a
  .subst e;exact⟨y,UQ _ TJ,Vb _,.refl _⟩
  .rw[C y e]at A;obtain⟨g,g1,g2,g3⟩:=h.up y A;have j: ¬g=a:=fun e=>by have:=h.OI g g1;subst e;omega
   exact⟨g,Ue _ g1,by rw[u g j,u y e];exact g2,g3⟩
 .rcases TP.1 Z with g1|g1
  .have j: ¬g=a:=fun e=>by have:=h.OI g g1;subst e;omega
   by_cases e:y=a
   .subst e;exact hp g g1
   .rw[u g j,u y e]at F;rw[C y e]at A;exact h.dn g g1 y A F
  .rw[TF]at g1;subst g1;by_cases e:y=g
   .subst e;exact .refl _
   .rw[la,u y e]at F;have:=h.mA y;omega
 .have e: ¬y=a:=fun e=>J (UQ _ (by rw[e];exact TJ))
  rw[u y e]at A;have:=h.aC y A (fun g=>J (Ue _ g)) z hz;by_cases j:z=a
  .rw[j,la];omega
  .rw[u z j];exact this
 .have e: ¬x=a:=fun e=>by subst e;rw[D]at d;omega
  rw[C x e]at d;obtain⟨r,r1,r2,r3⟩:=h.Rc x d;have j: ¬r=a:=fun e=>by subst e;omega
  exact⟨r,by rw[C r j];exact r1,by rw[u r j];exact r2,r3⟩
 .have e: ¬x=a:=fun e=>by subst e;rw[D]at d;omega
  have j: ¬y=a:=fun e=>by subst e;rw[D]at A;omega
  rw[C x e]at d;rw[C y j]at A;exact h.cmp x y d A h1 h2
theorem Kb{succ:α->List α}{path:List α}{s:St α}{a:α}(h:Inv succ path s)(ha:s.low a=0):Le s (push s a):=by
 have j:s.on a=0:=(h.HZ a).2 ha;refine⟨fun x d=>kK fun e=>d (e▸ha),fun x d=>?_,by show s.n<=s.n+1;omega⟩;have: ¬x=a:=fun e=>by subst e;omega
 show xI s.on a 1 x=2;rw[kK this];exact d
def yb(s:St α)(u c:List α)(d:Int):St α:=⟨s.low,fun x=>if x∈c then 2 else s.on x,fun x=>if x∈c then d else s.ring x,s.n,u⟩
theorem zZ{a:α}{d:Int}{s:St α}(h: ¬s.on a=1): ∀k,fL a d k s=s
 |0=>rfl
 |k+1=>be h
theorem wD(a:α)(d:Int)(u:List α): ∀(k:Nat) (t:List α) (s:St α),t.length<k->s.stack=u++a::t->a∉t->s.on a=1->(fL a d k s).low=s.low∧(fL a d k s).n=s.n∧(fL a d k s).stack=u∧(∀x,(fL a d k s).on x=if x∈a::t then 2 else s.on x)∧ ∀x,(fL a d k s).ring x=if x∈a::t then d else s.ring x
 |0,t,s,h,_,_,_=>absurd h (Vs _)
 |k+1,t,s,hk,hs,hn,ho=>by
  rw[fL,am ho];rcases t.eq_nil_or_concat with e|⟨t0,b,e⟩
  .subst e;have D:s.stack.getLast? =dl a:=by rw[hs];simp
   have hd:s.stack.dropLast=u:=by rw[hs];simp
   have F:yc d s=⟨s.low,xI s.on a 2,xI s.ring a d,s.n,u⟩:=by unfold yc;rw[D,hd]
   rw[F,zZ (by show¬xI s.on a 2 a=1;rw[jN];decide)];exact⟨rfl,rfl,rfl,fun x=>by simp[xI],fun x=>by simp[xI]⟩
  .rw[Wb]at e;subst e;have A:s.stack=(u++a::t0)++ [b]:=by rw[hs];simp
   have D:s.stack.getLast? =dl b:=by rw[A];exact List.getLast?_concat
   have hd:s.stack.dropLast=u++a::t0:=by rw[A];exact List.dropLast_concat
   have F:yc d s=⟨s.low,xI s.on b 2,xI s.ring b d,s.n,u++a::t0⟩:=by unfold yc;rw[D,hd]
   have C: ¬a=b:=fun e=>hn (by rw[e];simp);have B:=wD a d u k t0 ⟨s.low,xI s.on b 2,xI s.ring b d,s.n,u++a::t0⟩ (by simp at hk;omega) I (fun g=>hn (Ue _ g)) (by show xI s.on b 2 a=1;rw[kK C];exact ho);rw[F];refine⟨B.1,B.2.1,B.2.2.1,fun x=>?_,fun x=>?_⟩
   .rw[B.2.2.2.1 x];by_cases j:x∈a::t0
    .rw[am j,am (by rw[<-TV];exact Ue _ j)]
    .rw[be j];by_cases y:x=b
     .subst y;rw[am (by simp)];exact jN _ _ _
     .rw[be (by rw[<-TV,TP,TF];exact fun g=>g.elim j y)];exact kK y
   .rw[B.2.2.2.2 x];by_cases j:x∈a::t0
    .rw[am j,am (by rw[<-TV];exact Ue _ j)]
    .rw[be j];by_cases y:x=b
     .subst y;rw[am (by simp)];exact jN _ _ _
     .rw[be (by rw[<-TV,TP,TF];exact fun g=>g.elim j y)];exact kK y
theorem St.eq{β:Type}{s t:St β}(h1:s.low=t.low)(d:s.on=t.on)(j:s.ring=t.ring)(u:s.n=t.n)(x:s.stack=t.stack):s=t:=by
 cases s;cases t;simp_all
theorem rk{a:α}{d:Int}{u t:List α}{k:Nat}{s:St α}(C:t.length<k)(hs:s.stack=u++a::t)(hn:a∉t)(ho:s.on a=1):fL a d k s=yb s u (a::t) d:=by
 obtain⟨j,x,y,A,B⟩:=wD a d u k t s C hs hn ho;exact St.eq j (funext A) (funext B) x y
theorem xm{β:Type}{succ:β->List β}{path:List β}{s:St β}(h:Inv succ path s){a b:β}(ha:s.on a=2)(hr:mG succ a b):s.on b=2:=by
 induction hr with
 |refl=>exact ha
 |step _ he ih=>exact h.KN _ ih _ he
theorem Kc{succ:α->List α}{path:List α}{s:St α}{a:α}{u t:List α}(h:Inv succ (path++ [a]) s)(hs:s.stack=u++a::t)(Y: ∀g∈path,s.low g<s.low a)(i0: ∀z∈succ a,s.low z≠0)
  (d0: ∀y∈a::t,∀z∈succ y,s.on z=1->s.low a<=s.low z):Inv succ path (yb s u (a::t) (s.low a)):=by
 have G:=h.Py;rw[hs,VS]at G;obtain⟨hu,hc,b0⟩:=G;have e0:=(UW.1 hc).1;have g0:s.on a=1:=(h.wo a).2 (by rw[hs];simp);have hC: ∀x,x∈a::t↔(s.on x=1∧s.low a<=s.low x):=by
  intro x;constructor
  .intro d;refine⟨(h.wo x).2 (by rw[hs];exact UQ _ d),?_⟩;rcases TQ.1 d with e|e
   .rw[e];exact Vb _
   .have:=e0 x e;omega
  .rintro⟨C,D⟩;have:=(h.wo x).1 C;rw[hs]at this;rcases TP.1 this with g|g
   .have:=b0 x g a TJ;omega
   .exact g
 have Z:a∈a::t:=TJ;have j: ∀x,x∈a::t->(yb s u (a::t) (s.low a)).on x=2:=fun x d=>am d;have no: ∀x,x∉a::t->(yb s u (a::t) (s.low a)).on x=s.on x:=fun x d=>be d
 have J: ∀x,x∈a::t->mG succ x a:=by
  intro x d;obtain⟨C,D⟩:=(hC x).1 d;obtain⟨g,g1,g2,g3⟩:=h.up x C;refine g3.trans (h.dn g g1 a g0 ?_);rcases TP.1 g1 with e|e
  .have:=Y g e;omega
  .rw[TF]at e;rw[e];exact Vb _
 have F: ∀x,x∈a::t->mG succ a x:=by
  intro x d;obtain⟨C,D⟩:=(hC x).1 d;exact h.dn a (by simp) x C D
 have a0: ∀y,s.low y≠0->y∉path-> ∀z∈succ y,s.low z≠0:=by
  intro y A j0 z hz;by_cases e:y=a
  .rw[e]at hz;exact i0 z hz
  .exact h.aC y A (by rw[TP,TF];exact fun g=>g.elim j0 e) z hz
 refine⟨h.mA,h.inj,fun x=>?_,fun x=>?_,fun x=>?_,hu,fun x d b hb=>?_,fun g hg=>?_,fun y A=>?_,fun g hg y A f0=>?_,a0,fun x d=>?_,fun x y d A C D=>?_⟩
 .by_cases e:x∈a::t
  .rw[j x e];have:=uu h ((hC x).1 e).1;exact⟨fun g=>by omega,fun g=>absurd g this⟩
  .rw[no x e];exact h.HZ x
 .by_cases e:x∈a::t
  .exact .inr (.inr (j x e))
  .rw[no x e];exact h.Ei x
 .show _↔x∈u;by_cases e:x∈a::t
  .rw[j x e];refine⟨fun g=>by omega,fun g=>?_⟩;have C:=b0 x g a Z;have D:=((hC x).1 e).2;omega
  .rw[no x e,h.wo x,hs,TP];exact⟨fun g=>g.elim id fun q=>absurd q e,.inl⟩
 .by_cases e:x∈a::t
  .obtain⟨C,D⟩:=(hC x).1 e;have c0:s.low b≠0:=a0 x (uu h C) (fun g=>by have:=Y x g;omega) b hb;rcases h.Ei b with g|g|g
   .exact absurd ((h.HZ b).1 g) c0
   .exact j b ((hC b).2 ⟨g,d0 x e b hb g⟩)
   .by_cases B:b∈a::t
    .exact j b B
    .rw[no b B];exact g
  .rw[no x e]at d;have g:=h.KN x d b hb;by_cases B:b∈a::t
   .exact j b B
   .rw[no b B];exact g
 .have C:=h.OI g (Ue _ hg);have D:=Y g hg;rw[no g (fun e=>by have:=((hC g).1 e).2;omega)];exact C
 .by_cases e:y∈a::t
  .rw[j y e]at A;omega
  .rw[no y e]at A;obtain⟨g,g1,g2,g3⟩:=h.up y A;rcases TP.1 g1 with q|q
   .exact⟨g,q,g2,g3⟩
   .rw[TF]at q;rw[q]at g2;exact absurd ((hC y).2 ⟨A,g2⟩) e
 .by_cases e:y∈a::t
  .rw[j y e]at A;omega
  .rw[no y e]at A;exact h.dn g (Ue _ hg) y A f0
 .by_cases e:x∈a::t
  .exact⟨a,j a Z,(am e).symm,J x e,F x e⟩
  .rw[no x e]at d;obtain⟨r,r1,r2,r3⟩:=h.Rc x d;have B:r∉a::t:=fun g=>by have:=((hC r).1 g).1;omega
   refine⟨r,by rw[no r B];exact r1,?_,r3⟩;show s.low r=if x∈a::t then s.low a else s.ring x;rw[be e];exact r2
 .show(if x∈a::t then s.low a else s.ring x)=if y∈a::t then s.low a else s.ring y;by_cases e:x∈a::t
  .by_cases B:y∈a::t
   .rw[am e,am B]
   .rw[no y B]at A;have:=xm h A D;have:=((hC x).1 e).1;omega
  .rw[no x e]at d;by_cases B:y∈a::t
   .have:=xm h d C;have:=((hC y).1 B).1;omega
   .rw[no y B]at A;rw[be e,be B];exact h.cmp x y d A C D
theorem Ev{succ:α->List α}{path:List α}{s:St α}{a z:α}(h:Inv succ (path++ [a]) s)(j: ∀z∈succ a,s.low z≠0)(C:s.on z=1)(B:s.low z<s.low a)(hr:mG succ a z):Inv succ path s:=by
 refine⟨h.mA,h.inj,h.HZ,h.Ei,h.wo,h.Py,h.KN,fun g d=>h.OI g (Ue _ d),fun y x=>?_,fun g d=>h.dn g (Ue _ d),fun y x A w u=>?_,h.Rc,h.cmp⟩
 .obtain⟨g,g1,g2,g3⟩:=h.up y x;rcases TP.1 g1 with q|q
  .exact⟨g,q,g2,g3⟩
  .rw[TF]at q;subst q;obtain⟨k,D,G,F⟩:=h.up z C;rcases TP.1 D with q|q
   .exact⟨k,q,by omega,(g3.trans hr).trans F⟩
   .rw[TF]at q;subst q;omega
 .by_cases e:y=a
  .rw[e]at u;exact j w u
  .exact h.aC y x (by rw[TP,TF];exact fun g=>g.elim A e) w u
def jL(V:List α)(s:St α):Nat:=(V.filter fun x=>kw (s.low x=0)).length
theorem filter_le{β:Type}{p q:β->Bool}: ∀(l:List β),(∀x∈l,p x=is->q x=is)->(l.filter p).length<=(l.filter q).length
 | [],_=>Tv _
 |x::r,h=>by
  have u:=filter_le r fun y j=>h y (TH _ j);have d:=h x TJ;rw[Vv,Vv];split
  .rename_i g;rw[am (d g)];simp only[TO];omega
  .split
   .simp only[TO];omega
   .exact u
theorem filter_lt{β:Type}{p q:β->Bool}{a:β}: ∀(l:List β),(∀x∈l,p x=is->q x=is)->a∈l->p a=jp->q a=is->(l.filter p).length<(l.filter q).length
 | [],_,h,_,_=>nomatch h
 |x::r,h,ha,h1,h2=>by
  have j:=filter_le r fun y d=>h y (TH _ d);have u:=h x TJ;rw[Vv,Vv];rcases TQ.1 ha with e|e
  .subst e;rw[h1,h2];simp only[VK,if_false,if_true,TO];omega
  .have A:=filter_lt r (fun y d=>h y (TH _ d)) e h1 h2;split
   .rename_i g;rw[am (u g)];simp only[TO];omega
   .split
    .simp only[TO];omega
    .exact A
theorem v8{β:Type}{V:List β}{s s':St β}(h:Le s s'):jL V s'<=jL V s:=
 filter_le V fun x _ d=>by
  refine decide_eq_true (UU fun g=>?_);have:=of_decide_eq_true d;rw[h.low x g]at this;exact g this
theorem kn{V:List α}{s:St α}{a:α}(hn: ∀x,0<=s.low x∧s.low x<=s.n)(ha:a∈V)(h0:s.low a=0):jL V (push s a)<jL V s:=by
 have la:(push s a).low a=(s.n:Int)+1:=jN _ _ _;refine filter_lt V (fun x _ d=>?_) ha (decide_eq_false (by rw[la];omega)) (decide_eq_true h0);have:=of_decide_eq_true d;by_cases e:x=a
 .rw[e];exact decide_eq_true h0
 .refine decide_eq_true ?_;rwa[show(push s a).low x=s.low x from kK e]at this
structure fC (succ:α->List α) (path:List α) (a:α) (s0:St α) (done:List α) (q:Int×St α) (t:List α):Prop where
 inv:Inv succ (path++ [a]) q.2
 le:Le (push s0 a) q.2
 stack:q.2.stack=s0.stack++a::t
 new: ∀y∈t,s0.low y=0
 OW:q.1<=(s0.n:Int)+1
 l1: ∀y∈t,∀z∈succ y,q.2.on z=1->q.1<=q.2.low z
 Rq: ∀z∈done,q.2.on z=1->q.1<=q.2.low z
 proc: ∀z∈done,q.2.low z≠0
 l2: ∃z,q.2.on z=1∧q.2.low z=q.1∧mG succ a z
section
variable {succ:α->List α} {path:List α} {a:α} {s0:St α} {done:List α} {q:Int×St α} {t:List α}
theorem fC.la(h:fC succ path a s0 done q t):q.2.low a=(s0.n:Int)+1:=by
 have e:(push s0 a).low a=(s0.n:Int)+1:=jN _ _ _;rw[h.le.low a (by rw[e];omega),e]
theorem fC.pa(h:fC succ path a s0 done q t)(h0:Inv succ path s0)(ha:s0.low a=0): ∀g∈path,q.2.low g<q.2.low a:=by
 intro g u;have j:=h0.OI g u;have d:=uu h0 j;have e:(push s0 a).low g=s0.low g:=kK fun e=>d (by rw[e];exact ha);rw[h.la,h.le.low g (by rw[e];exact d),e];have:=h0.mA g;omega
theorem fC.at_(h:fC succ path a s0 done q t):a∉t:=fun g=>by
 have:=h.inv.Py;rw[h.stack,VS]at this;have:=(UW.1 this.2.1).1 a g;omega
theorem fC.step{V:List α}{j:α->St α->Int×St α}{f:Nat}(hV: ∀a∈V,∀b∈succ a,b∈V)
  (ih: ∀(path:List α) (b:α) (s:St α),Inv succ path s->s.low b=0->b∈V->(∀g∈path,mG succ g b)->jL V s<=f-> ∃t,Ps succ path b s (j b s).1 (j b s).2 t)
  (h:fC succ path a s0 done q t) (h0:Inv succ path s0) (ha:s0.low a=0) (Z:a∈V) {b:α} (hb:b∈succ a) (hw:jL V q.2<=f): ∃t',fC succ path a s0 (done++ [b]) (rY j q b) t':=by
 have g0:=h.la;have d0:=h.pa h0 ha;have a0:=h.at_;have c0:q.2.on a=1:=(h.inv.wo a).2 (by rw[h.stack];simp);unfold rY;by_cases D:q.2.low b=0
 .rw[am D];have G: ∀g∈path++ [a],mG succ g b:=by
   intro g hg;refine .step (h.inv.dn g hg a c0 ?_) hb;rcases TP.1 hg with e|e
   .have:=d0 g e;omega
   .rw[TF]at e;rw[e];exact Vb _
  obtain⟨tb,u⟩:=ih (path++ [a]) b q.2 h.inv D (hV a Z b hb) G hw;generalize j b q.2=w at u ⊢;obtain⟨F,s'⟩:=w;have B: ∀z,q.2.on z=1->s'.on z=1:=fun z d=>(u.inv.wo z).2 (by rw[u.stack];exact Ue _ ((h.inv.wo z).1 d));have j0:=h.le.n;have i0:(push s0 a).n=s0.n+1:=rfl;refine⟨t++tb,u.inv,h.le.trans u.le,?_,fun y J=>?_,?_,fun y J z d C=>?_,fun z d C=>?_,fun z d=>?_,?_⟩
  .show s'.stack=_;rw[u.stack,h.stack];simp
  .rcases TP.1 J with g|g
   .exact h.new y g
   .refine UU fun hc=>?_
    have e:(push s0 a).low y=s0.low y:=kK fun e=>hc (by rw[e];exact ha);have:=h.le.low y (by rw[e];exact hc);rw[u.new y g,e]at this;exact hc this.symm
  .have:=h.OW;show min q.1 F<=_;omega
  .show min q.1 F<=s'.low z;rcases TP.1 J with g|g
   .have f0:q.2.on y=1:=(h.inv.wo y).2 (by rw[h.stack];simp[g]);have e0:y∉path++ [a]:=by
     rw[TP,TF];rintro(e|e)
     .have h1:=uu h0 (h0.OI y e);exact h1 (h.new y g)
     .rw[e]at g;exact a0 g
    have x:=h.inv.aC y (uu h.inv f0) e0 z d;have A:=Ge h.inv u.le x C;have:=h.l1 y g z d A;rw[u.le.low z x];omega
   .have:F<=s'.low z:=u.l1 y g z d C;omega
  .show min q.1 F<=s'.low z;rcases TP.1 d with g|g
   .have x:=h.proc z g;have:=h.Rq z g (Ge h.inv u.le x C);rw[u.le.low z x];omega
   .rw[TF]at g;subst g;have:F<=s'.low z:=u.OW;omega
  .show s'.low z≠0;rcases TP.1 d with g|g
   .have x:=h.proc z g;rw[u.le.low z x];exact x
   .rw[TF]at g;subst g;have:(q.2.n:Int)<s'.low z:=u.at_;omega
  .obtain⟨z,Y,z2,z3⟩:=h.l2;by_cases b0:q.1<=F
   .exact⟨z,B z Y,by show s'.low z=min q.1 F;rw[u.le.low z (uu h.inv Y)];omega,z3⟩
   .rcases u.l2 with⟨_,g⟩|⟨w,w1,w2,w3⟩
    .have h1:F=s'.low b:=g;have h2:(q.2.n:Int)<s'.low b:=u.at_;have h3:=h.OW;omega
    .have w2:s'.low w=F:=w2;exact⟨w,B w ((h.inv.wo w).2 w1),by show s'.low w=min q.1 F;omega,(mG.one hb).trans w3⟩
 .rw[be D];by_cases A:q.2.on b=1
  .rw[am A];refine⟨t,h.inv,h.le,h.stack,h.new,?_,fun y J z d C=>?_,fun z d C=>?_,fun z d=>?_,?_⟩
   .have:=h.OW;show min q.1 (q.2.low b)<=_;omega
   .have:=h.l1 y J z d C;show min q.1 (q.2.low b)<=q.2.low z;omega
   .show min q.1 (q.2.low b)<=q.2.low z;rcases TP.1 d with g|g
    .have:=h.Rq z g C;omega
    .rw[TF]at g;subst g;omega
   .rcases TP.1 d with g|g
    .exact h.proc z g
    .rw[TF]at g;subst g;exact D
   .obtain⟨z,Y,z2,z3⟩:=h.l2;by_cases b0:q.1<=q.2.low b
    .exact⟨z,Y,by show q.2.low z=min q.1 (q.2.low b);omega,z3⟩
    .exact⟨b,A,by show q.2.low b=min q.1 (q.2.low b);omega,.one hb⟩
  .rw[be A];refine⟨t,h.inv,h.le,h.stack,h.new,h.OW,h.l1,fun z d C=>?_,fun z d=>?_,h.l2⟩
   .rcases TP.1 d with g|g
    .exact h.Rq z g C
    .rw[TF]at g;subst g;exact absurd C A
   .rcases TP.1 d with g|g
    .exact h.proc z g
    .rw[TF]at g;subst g;exact D
end
theorem ry{succ:α->List α}{path:List α}{a:α}{s0:St α}{V:List α}{d:α->St α->Int×St α}{f:Nat}(A: ∀a∈V,∀b∈succ a,b∈V)
  (B: ∀(path:List α) (b:α) (s:St α),Inv succ path s->s.low b=0->b∈V->(∀g∈path,mG succ g b)->jL V s<=f-> ∃t,Ps succ path b s (d b s).1 (d b s).2 t)
  (h0:Inv succ path s0) (ha:s0.low a=0) (j:a∈V) (u:jL V (push s0 a)<=f):
  ∀(l done:List α) (q:Int×St α) (t:List α),fC succ path a s0 done q t->(∀b∈l,b∈succ a)-> ∃F,fC succ path a s0 (done++l) (l.foldl (rY d) q) F
 | [],done,q,t,h,_=>⟨t,by rw[T1];exact h⟩
 |b::l,done,q,t,h,hl=>by
  obtain⟨t1,C⟩:=h.step A B h0 ha j (hl b TJ) (Uh (v8 h.le) u);obtain⟨t2,y⟩:=ry A B h0 ha j u l (done++ [b]) _ t1 C fun x D=>hl x (TH _ D);exact⟨t2,by rw[Tz]at y;exact y⟩
theorem oM{succ:α->List α}{V:List α}(hV: ∀a∈V,∀b∈succ a,b∈V): ∀(f:Nat) (path:List α) (a:α) (s:St α),Inv succ path s->s.low a=0->a∈V->(∀g∈path,mG succ g a)->jL V s<=f-> ∃t,Ps succ path a s (eC succ f a s).1 (eC succ f a s).2 t
 |0,path,a,s,h,ha,haV,_,hw=>by
  have:=kn h.mA haV ha;omega
 |f+1,path,a,s,h,ha,haV,hp,hw=>by
  have c0:=kn h.mA haV ha;have hi:=zX h ha hp;have la:(push s a).low a=(s.n:Int)+1:=jN _ _ _;have oa:(push s a).on a=1:=jN _ _ _;have G:fC succ path a s [] ((s.n:Int)+1,push s a) []:=
   ⟨hi,.refl _,rfl,fun y j=>(nomatch j),Vb _,fun y j=>(nomatch j),fun z B=>(nomatch B),fun z B=>(nomatch B),⟨a,oa,la,.refl _⟩⟩
  obtain⟨t,d⟩:=ry hV (fun p b s'=>oM hV f p b s') h ha haV (by omega) (succ a) [] _ [] G fun b hb=>hb;rw[T3]at d;rw[eC];generalize(succ a).foldl (rY (eC succ f)) ((s.n:Int)+1,push s a)=q at d ⊢;have C:=d.la;have a0:=d.pa h ha;have J:=d.at_;have Z:q.2.on a=1:=(d.inv.wo a).2 (by rw[d.stack];simp);have u:Le s q.2:=(Kb h ha).trans d.le;unfold s4;by_cases Y:q.1=(s.n:Int)+1
  .rw[am Y,rk (by rw[d.stack];simp;omega) d.stack J Z,<-C];refine⟨[],Kc d.inv d.stack a0 d.proc fun y j z B D=>?_,⟨u.low,fun x hx=>?_,u.n⟩,by rw[T1];rfl,fun y j=>(nomatch j),?_,?_,fun y j=>(nomatch j),.inl ⟨am TJ,?_⟩⟩
   .rw[C,<-Y];rcases TQ.1 j with e|e
    .rw[e]at B;exact d.Rq z B D
    .exact d.l1 y e z B D
   .show(if x∈a::t then(2:Int) else q.2.on x)=2;split
    .rfl
    .exact u.KN x hx
   .show(s.n:Int)<q.2.low a;omega
   .show q.1<=q.2.low a;omega
   .show q.1=q.2.low a;omega
  .rw[be Y];have b0:q.1<q.2.low a:=by have:=d.OW;omega
   obtain⟨z,z1,z2,z3⟩:=d.l2;have F:=d.inv.Py;rw[d.stack,VS]at F;refine⟨a::t,Ev d.inv d.proc z1 (by omega) z3,u,d.stack,fun y j=>?_,by omega,by omega,fun y j w A D=>?_,.inr ⟨z,?_,z2,z3⟩⟩
   .rcases TQ.1 j with e|e
    .rw[e];exact ha
    .exact d.new y e
   .rcases TQ.1 j with e|e
    .rw[e]at A;exact d.Rq w A D
    .exact d.l1 y e w A D
   .have:=(d.inv.wo z).1 z1;rw[d.stack]at this;rcases TP.1 this with g|g
    .exact g
    .rcases TQ.1 g with e|e
     .rw[e]at z2;omega
     .have:=(UW.1 F.2.1).1 z e;omega
theorem MQ{β:Type}(succ:β->List β):Inv succ [] (St.o:St β):=
 ⟨fun _=>⟨Vb _,Vb _⟩,fun _ _ _ h=>absurd I h,fun _=>Iff.rfl,fun _=> .inl I,fun _=>⟨fun h=>(nomatch h),fun h=>(nomatch h)⟩,.nil,fun _ h=>(nomatch h),fun _ h=>(nomatch h),fun _ h=>(nomatch h),fun _ h=>(nomatch h),fun _ h=>absurd I h,fun _ h=>(nomatch h),fun _ _ h=>(nomatch h)⟩
theorem rf{succ:α->List α}{V:List α}(y: ∀a∈V,∀b∈succ a,b∈V){f:Nat}(hf:V.length<=f): ∀(l:List α) (s:St α),(∀a∈l,a∈V)->Inv succ [] s->Inv succ [] (gH succ f l s)∧(∀x,s.low x≠0->(gH succ f l s).low x≠0)∧ ∀a∈l,(gH succ f l s).low a≠0
 | [],s,_,h=>⟨h,fun _ d=>d,fun _ j=>(nomatch j)⟩
 |b::l,s,hl,h=>by
  have key: ∃s',(if s.low b=0 then(eC succ f b s).2 else s)=s'∧Inv succ [] s'∧(∀x,s.low x≠0->s'.low x≠0)∧s'.low b≠0:=by
   by_cases e:s.low b=0
   .obtain⟨t,u⟩:=oM y f [] b s h e (hl b TJ) (fun g B=>nomatch B) (Uh (UY _ _) hf);refine⟨_,am e,u.inv,fun x d=>by rw[u.le.low x d];exact d,?_⟩;have:=u.at_;omega
   .exact⟨s,be e,h,fun _ d=>d,e⟩
  obtain⟨s',e,D,F,G⟩:=key;obtain⟨C,i2,i3⟩:=rf y hf l s' (fun a j=>hl a (TH _ j)) D;have A:gH succ f (b::l) s=gH succ f l s':=by
   show gH succ f l (if s.low b=0 then(eC succ f b s).2 else s)=_;rw[e]
  rw[A];refine⟨C,fun x d=>i2 x (F x d),fun a j=>?_⟩;rcases TQ.1 j with q|q
  .rw[q];exact i2 b G
  .exact i3 a q
theorem D5{succ:α->List α}{V:List α}(y: ∀a∈V,∀b∈succ a,b∈V){f:Nat}(hf:V.length<=f){a b:α}(ha:a∈V)(hb:b∈V):
  (gH succ f V St.o).ring a=(gH succ f V St.o).ring b↔mG succ a b∧mG succ b a:=by
 obtain⟨h,_,u⟩:=rf y hf V St.o (fun _ h=>h) (MQ succ);generalize gH succ f V St.o=s at h u ⊢;have d: ∀x∈V,s.on x=2:=by
  intro x A;rcases h.Ei x with g|g|g
  .exact absurd ((h.HZ x).1 g) (u x A)
  .obtain⟨k,B,_⟩:=h.up x g;exact nomatch B
  .exact g
 constructor
 .intro e;obtain⟨r,Z,r2,F,G⟩:=h.Rc a (d a ha);obtain⟨q,J,Y,C,D⟩:=h.Rc b (d b hb);have j:s.low r≠0:=fun g=>by have:=(h.HZ r).2 g;omega
  have:r=q:=h.inj r q (by omega) j;subst this;exact⟨F.trans D,C.trans G⟩
 .rintro⟨h1,h2⟩;exact h.cmp a b (d a ha) (d b hb) h1 h2
end
end
end
end Go.Tj
namespace Go.Wa
section
inductive vw (R:Nat->Nat->Prop):Nat->Nat->Prop
 |refl (a:Nat):vw R a a
 |step {a b c:Nat} (h:R a b) (t:vw R b c):vw R a c
theorem vw.trans{R:Nat->Nat->Prop}{a b c:Nat}(h:vw R a b)(k:vw R b c):vw R a c:=by
 induction h with
 |refl=>exact k
 |step h _ ih=>exact .step h (ih k)
def W(E:Nat->Nat->Bool):Nat->Nat->Nat->Bool
 |0,a,b=>E a b||a==b
 |m+1,a,b=>W E m a b||(W E m a m&&W E m m b)
variable {E:Nat->Nat->Bool}
theorem W.mono(m a b:Nat)(h:W E m a b=is):W E (m+1) a b=is:=by simp[W,h]
theorem W.MR{m k a b:Nat}(d:m<=k)(h:W E m a b=is):W E k a b=is:=by
 induction d with
 |refl=>exact h
 |step _ ih=>exact W.mono _ _ _ ih
theorem W.self(m a:Nat):W E m a a=is:=W.MR (TB m) (by simp[W])
theorem W.trans: ∀(m a k b:Nat),k<m->W E m a k=is->W E m k b=is->W E m a b=is
 |m+1,a,k,b,hk,d,j=>by
  simp only[W,Vr,TZ]at d j ⊢;by_cases A:k=m
  .subst A;have B:W E k a k=is:=by rcases d with h|h;exact h;exact h.1
   have C:W E k k b=is:=by rcases j with h|h;exact h;exact h.2
   exact .inr ⟨B,C⟩
  .have u:k<m:=by omega
   rcases d with d|⟨d,y⟩<;>rcases j with j|⟨j,x⟩
   .exact .inl (W.trans m a k b u d j)
   .exact .inr ⟨W.trans m a k m u d j,x⟩
   .exact .inr ⟨d,W.trans m m k b u y j⟩
   .exact .inr ⟨d,x⟩
theorem W.sound: ∀(m a b:Nat),W E m a b=is->vw (fun a b=>E a b=is) a b
 |0,a,b,h=>by
  simp only[W,Vr,beq_iff_eq]at h;rcases h with h|h
  .exact .step h (.refl _)
  .subst h;exact .refl _
 |m+1,a,b,h=>by
  simp only[W,Vr,TZ]at h;rcases h with h|⟨d,j⟩
  .exact W.sound m a b h
  .exact(W.sound m a m d).trans (W.sound m m b j)
theorem W.iff{n:Nat}(hE: ∀a b,a<n->E a b=is->b<n){a b:Nat}(ha:a<n):W E n a b=is↔vw (fun a b=>E a b=is) a b:=by
 refine⟨W.sound n a b,fun h=>?_⟩
 induction h with
 |refl a=>exact W.self n a
 |step h _ ih=>
  have hb:=hE _ _ ha h;exact W.trans n _ _ _ hb (W.MR (TB n) (by simp[W,h])) (ih hb)
def V(E:Nat->Nat->Bool)(m a b x y:Nat):Bool:=if x<a∨x=a∧y<b then W E (m+1) x y else W E m x y
theorem V.row(m a b y:Nat):V E m a b m y=W E m m y:=by
 unfold V;split
 .simp only[W];cases W E m m y<;>simp
 .rfl
end
end Go.Wa
namespace Go.Co
section
section
variable {n:Nat} {vC:Nat->Nat->Bool} {e:Nat->Nat->Bool}
structure Far (n:Nat) (e vC:Nat->Nat->Bool):Prop where
 refl: ∀a,a<n->vC a a=is
 trans: ∀a b c,vC a b=is->vC b c=is->vC a c=is
 edge: ∀a b,a<n->e a b=is->vC a b=is
 lt: ∀a b,a<n->vC a b=is->b<n
 elt: ∀a b,a<n->e a b=is->b<n
 split: ∀a b (p:Nat->Prop),a<n->vC a b=is->p a-> ¬p b-> ∃x y,x<n∧vC a x=is∧p x∧e x y=is∧ ¬p y∧vC y b=is
def cls(vC:Nat->Nat->Bool)(a b:Nat):Bool:=vC a b&&vC b a
end
end
end Go.Co
namespace Go.Rg
open Go.Wa Go.Co Go.Tj
section
section
variable {α:Type} [Inhabited α]
def ed(V:List α)(g:α->α->Bool)(i j:Nat):Bool:=kw (i<V.length)&&kw (j<V.length)&&g (V.getD i co) (V.getD j co)
def vC(V:List α)(g:α->α->Bool):Nat->Nat->Bool:=W (ed V g) V.length
theorem B0{V:List α}{g:α->α->Bool}{i j:Nat}:ed V g i j=is↔i<V.length∧j<V.length∧g (V.getD i co) (V.getD j co)=is:=by
 simp[ed,and_assoc]
theorem yo{V:List α}{a:α}(h:a∈V): ∃i,i<V.length∧V.getD i co=a:=by
 obtain⟨i,d,rfl⟩:=Vi.1 h;exact⟨i,d,by simp[Tr,d]⟩
theorem get_mem{V:List α}{i:Nat}(h:i<V.length):V.getD i co∈V:=by
 rw[Tr,Ts h];exact Uw h
theorem Cf{V:List α}(hn:V.Nodup){g:α->α->Bool}{succ:α->List α}(hs: ∀a∈V,∀b,b∈succ a↔b∈V∧g a b=is){i j:Nat}(hi:i<V.length)(hj:j<V.length):
  vC V g i j=is↔mG succ (V.getD i co) (V.getD j co):=by
 have B: ∀{x y:Nat},x<V.length->y<V.length->V.getD x co=V.getD y co->x=y:=by
  intro x y C d h;rw[Tr,Tr,Ts C,Ts d]at h;exact(List.getElem_inj hn).1 h
 rw[vC,W.iff (n:=V.length) (fun a b _ h=>(B0.1 h).2.1) hi];constructor
 .intro h;clear hj;have: ∀{a b:Nat},vw (fun a b=>ed V g a b=is) a b->mG succ (V.getD a co) (V.getD b co):=by
   intro a b h
   induction h with
   |refl a=>exact .refl _
   |step h _ ih=>
    obtain⟨u,A,D⟩:=B0.1 h;exact(mG.step (.refl _) ((hs _ (get_mem u) _).2 ⟨get_mem A,D⟩)).trans ih
  exact this h
 .intro h;have key: ∀{a b:α},mG succ a b-> ∀x,x<V.length->V.getD x co=a-> ∃y,y<V.length∧V.getD y co=b∧vw (fun a b=>ed V g a b=is) x y:=by
   intro a b h
   induction h with
   |refl=>exact fun x C F=>⟨x,C,F,.refl _⟩
   |step _ hc ih=>
    intro x C F;obtain⟨y,d,u,A⟩:=ih x C F;subst u;obtain⟨D,J⟩:=(hs _ (get_mem d) _).1 hc;obtain⟨z,G,rfl⟩:=yo D;exact⟨z,G,rfl,A.trans (.step (B0.2 ⟨d,G,J⟩) (.refl _))⟩
  obtain⟨y,d,u,A⟩:=key h i hi I;have:=B d hj u;subst this;exact A
def vz(V:List α)(g:α->α->Bool)(d:α->Int):Prop:= ∀i j,i<V.length->j<V.length->(d (V.getD i co)=d (V.getD j co)↔vC V g i j=is∧vC V g j i=is)
theorem FZ[DecidableEq α]{V:List α}(hn:V.Nodup){g:α->α->Bool}{succ:α->List α}(hs: ∀a∈V,∀b,b∈succ a↔b∈V∧g a b=is){f:Nat}(hf:V.length<=f):vz V g (gH succ f V St.o).ring:=by
 intro i j d u;rw[D5 (fun a x b hb=>((hs a x b).1 hb).1) hf (get_mem d) (get_mem u),Cf hn hs d u,Cf hn hs u d]
end
end
end Go.Rg
namespace Go.Proofs.YtbhphmfbligliaaGreatDoor
open Go Go.Al
mutual
def named:Lit->List ae
 | .mk k a _ _ _ _ _ _ b _=>if k=1∨k=2 then[a.rel] else if k=4 then gJ b else[]
def gJ:List Lit->List ae
 | []=> []
 |l::r=>named l++gJ r
end
def Gn(l:Lit):List ae:=if l.kind=1∨l.kind=2 then[l.atom.rel] else if l.kind=4 then(l.ay.filter fun x=>kw (x.kind=1∨x.kind=2)).map fun x=>x.atom.rel else[]
theorem mV: ∀l:List Lit,gJ l=l.flatMap named
 | []=>rfl
 |x::r=>by simp only[gJ,T9,mV r]
theorem wP: ∀(b:List Lit),(∀x∈b,x.kind≠4)->gJ b=(b.filter fun x=>kw (x.kind=1∨x.kind=2)).map fun x=>x.atom.rel
 | [],_=>rfl
 | .mk k' a' op' le' ri' af' av' ao' b' at'::b,h=>by
  have j:k'≠4:=h (.mk k' a' op' le' ri' af' av' ao' b' at') (TJ ..);rw[gJ,wP b fun y u=>h y (TH _ u),Vv];by_cases d:k'=1∨k'=2
  .have:kw ((Lit.mk k' a' op' le' ri' af' av' ao' b' at').kind=1∨(Lit.mk k' a' op' le' ri' af' av' ao' b' at').kind=2)=is:=decide_eq_true d;rw[this,named,am d];rfl
  .have:kw ((Lit.mk k' a' op' le' ri' af' av' ao' b' at').kind=1∨(Lit.mk k' a' op' le' ri' af' av' ao' b' at').kind=2)=jp:=decide_eq_false d;rw[this,named,be d,be j];rfl
theorem Gm(l:Lit)(h:l.kind=4-> ∀x∈l.ay,x.kind≠4):named l=Gn l:=by
 obtain⟨k,a,op,le,A,j,y,u,b,at_⟩:=l;show(if k=1∨k=2 then[a.rel] else if k=4 then gJ b else[])=if k=1∨k=2 then[a.rel] else if k=4 then(b.filter fun x=>kw (x.kind=1∨x.kind=2)).map fun x=>x.atom.rel else[];by_cases d:k=4
 .rw[wP b (h d)]
 .rw[be d,be d]
def l9(l:Lit):Nat:=if l.kind=1 then 1 else 2
def c4(p:Prog):List (ae×ae×Nat):=p.rules.flatMap fun r=>r.body.flatMap fun l=>(named l).map fun t=>(r.head.rel,t,l9 l)
def gD(hs:List (ae×ae×Nat))(a b:ae):Nat:=hs.foldl (fun m x=>if x.1=a∧x.2.1=b then max m x.2.2 else m) 0
theorem yD(a b:ae): ∀(hs:List (ae×ae×Nat)) (m:Nat),m<=hs.foldl (fun m x=>if x.1=a∧x.2.1=b then max m x.2.2 else m) m∧(∀k,(a,b,k)∈hs->k<=hs.foldl (fun m x=>if x.1=a∧x.2.1=b then max m x.2.2 else m) m)∧
  (hs.foldl (fun m x=>if x.1=a∧x.2.1=b then max m x.2.2 else m) m=m∨(a,b,hs.foldl (fun m x=>if x.1=a∧x.2.1=b then max m x.2.2 else m) m)∈hs)
 | [],m=>⟨Tv _,fun _ h=>(nomatch h),.inl I⟩
 |(x,y,k)::hs,m=>by
  obtain⟨j,u,h3⟩:=yD a b hs (if x=a∧y=b then max m k else m);rw[Uc];refine⟨Uh ?_ j,fun B A=>?_,?_⟩
  .split<;>omega
  .rcases TQ.1 A with h|h
   .cases h;refine Uh ?_ j;rw[am ⟨rfl,rfl⟩];exact Nat.le_max_right _ _
   .exact u B h
  .rcases h3 with h3|h3
   .by_cases d:x=a∧y=b
    .rw[am d]at h3;rcases Nat.le_total m k with h4|h4
     .right;rw[Xc h4]at h3;obtain⟨rfl,rfl⟩:=d;simp only[and_self,if_true,Xc h4]at h3 ⊢;rw[h3];simp
     .left;rw[Nat.max_eq_left h4]at h3;simp only[d,and_self,if_true,Nat.max_eq_left h4]at h3 ⊢;exact h3
    .rw[be d]at h3;left;simp only[be d];exact h3
   .exact .inr (TH _ h3)
theorem RC{hs:List (ae×ae×Nat)}{a b:ae}{k:Nat}(h:(a,b,k)∈hs):k<=gD hs a b:=(yD a b hs 0).2.1 k h
theorem RB(hs:List (ae×ae×Nat))(a b:ae):gD hs a b=0∨(a,b,gD hs a b)∈hs:=(yD a b hs 0).2.2
def ns(p:Prog):List ae:=dP (p.aw.map Decl.name)
theorem xD.OP{l:List ae}(h:xD l):l.Nodup:=by
 refine W4 ?_ h;intro a b d e;subst e;exact lW _ d
def eg(p:Prog)(a b:ae):Bool:=kw (gD (c4 p) a b≠0)
def Pd(p:Prog):Nat->Nat->Bool:=Go.Rg.vC (ns p) (eg p)
theorem F0{p:Prog}(hn:(p.aw.map Decl.name).Nodup){f:Nat}(hf:(ns p).length<=f):Go.Rg.vz (ns p) (eg p) (Go.Tj.gH (fun a=>(ns p).filter (eg p a)) f (ns p) Go.Tj.St.o).ring:=
 Go.Rg.FZ (V:=ns p) (xD.OP (jv hn)) (fun a _ b=>by rw[Ub]) hf
def ringEq(p:Prog)(a b:ae):Bool:=(Uk (ns p).length).any fun i=>(Uk (ns p).length).any fun j=>kw ((ns p).getD i co=a)&&kw ((ns p).getD j co=b)&&Go.Co.cls (Pd p) i j
theorem Bp{p:Prog}{a b:ae}:ringEq p a b=is↔ ∃i j,i<(ns p).length∧j<(ns p).length∧(ns p).getD i co=a∧(ns p).getD j co=b∧Pd p i j=is∧Pd p j i=is:=by
 simp only[ringEq,UO,Vx,TZ,decide_eq_true_eq,Go.Co.cls];constructor
 .rintro⟨i,hi,j,hj,⟨h1,h2⟩,h3,h4⟩;exact⟨i,j,hi,hj,h1,h2,h3,h4⟩
 .rintro⟨i,j,hi,hj,h1,h2,h3,h4⟩;exact⟨i,hi,j,hj,⟨h1,h2⟩,h3,h4⟩
theorem r7{p:Prog}{d:ae->Int}(hr:Go.Rg.vz (ns p) (eg p) d){a b:ae}(ha:a∈ns p)(hb:b∈ns p):ringEq p a b=kw (d a=d b):=by
 rw[UN,Bp,decide_eq_true_eq];constructor
 .rintro⟨i,j,u,x,rfl,rfl,y,A⟩;exact(hr i j u x).2 ⟨y,A⟩
 .intro h;obtain⟨i,u,rfl⟩:=Go.Rg.yo ha;obtain⟨j,x,rfl⟩:=Go.Rg.yo hb;obtain⟨y,A⟩:=(hr i j u x).1 h;exact⟨i,j,u,x,rfl,rfl,y,A⟩
def Bo(p:Prog)(r:ar):Bool:=r.body.any fun l=>kw (l.kind=1)&&ringEq p l.atom.rel r.head.rel
def xP(p:Prog)(r:ar):Option Lit:=r.body.find? fun l=>kw (l.kind≠1)&&(named l).any fun t=>ringEq p t r.head.rel
def rP(r:ar):Bool:=r.head.ak.any fun t=>kw (t.kind=1)&&!dU (kM r) t.var
def xE(p:Prog)(r:ar):fY:=match xP p r with
 |some l=>(70,l.at)
 |none=>if rP r=is∧Bo p r=is then(71,r.at_) else fY.z
def b7(p:Prog):fY:=if(ef p).1≠0 then ef p else((p.rules.map (xE p)).find? fun d=>kw (d.1≠0)).getD fY.z
end Go.Proofs.YtbhphmfbligliaaGreatDoor
namespace Go.Re
open Go.Tj
section
variable {α:Type}
structure Mid (succ:α->List α) (S T:α->Prop) (a:α) (l:List α):Prop where
 Rk: ∀x,S x->T x
 here:T a
 new: ∀x,T x->S x∨mG succ a x
 next: ∀x,T x->S x∨x=a∨ ∀y∈succ x,T y
 done: ∀y∈l,T y
structure Top (succ:α->List α) (V:α->Prop) (T:α->Prop) (l:List α):Prop where
 new: ∀x,T x-> ∃r∈l,V r∧mG succ r x
 next: ∀x,T x-> ∀y∈succ x,T y
 done: ∀r∈l,V r->T r
end
end Go.Re
namespace Go.Proofs.YtbhphmfbligliaaGreatDoor
open Go Go.Al
section
section
variable {r t:ar} (hh:t.head=r.head) (hb: ∀x,x∈t.body↔x∈r.body)
include hh hb
end
section
variable {r t:ar} (hh:t.head=r.head) (hb: ∀x,x∈t.body↔x∈r.body)
include hh hb
end
structure Te (r t u:ar) (i k:Int):Prop where
 Sv: ∀x∈fA (aI (b3 r)),x∈fA (aI (aF r))
 Rj: ∀x∈fA (aI (ov r)),x∈fA (aI (b3 r))
 outer:fA (aI (aF t))=fA (aI (aF r))
 lim:fA (aI (b3 t))=fA (aI (b3 r))
 plain:fA (aI (ov t))=fA (aI (ov r))
 loc:yr t i=yr r k
 yr: ∀x∈yr r k,x∉fA (aI (aF r))
 more: ∀x∈fA (aI (b3 r)),x∈fA (aI (b3 u))
 hasX:OM [88]∈fA (aI (b3 u))
end
theorem JT{n sz:Nat}{es:List (List PV)}(h:es.all (bD n)=is):(AO.row sz es).low n:=fun _ e d=>T7.1 h e (Uv d)
def vB:List IV->List IV->Prop
 | [],[]=>True
 |p::r,q::s=>jG p q∧vB r s
 |_,_=>False
theorem vB.length: ∀{a b:List IV},vB a b->a.length=b.length
 | [],[],_=>rfl
 |_::_,_::_,h=>congrArg (· +1) (vB.length h.2)
 | [],_::_,h=>h.elim
 |_::_,[],h=>h.elim
theorem vB.get: ∀{a b:List IV},vB a b-> ∀(j:Nat) (q:IV),b[j]? =dl q-> ∃p,a[j]? =dl p∧jG p q
 | [],[],_,j,q,h=>by simp at h
 |p::r,q0::s,hh,j,q,h=>by
  cases j with
  |zero=>simp at h;subst h;exact⟨p,rfl,hh.1⟩
  |succ j=>simpa using vB.get hh.2 j q (by simpa using h)
 | [],_::_,hh,_,_,_=>hh.elim
 |_::_,[],hh,_,_,_=>hh.elim
def vf(i sz n:Nat):PV->Bool
 | .iv _=>is
 | .sl j off len s=>bif TR j i then TR s sz&&Vm (off+len) n else is
 |_=>jp
theorem EM{i sz n:Nat}{p:PV}(h:vf i sz n p=is):p.bh i sz n:=by
 cases p with
 |iv=>trivial
 |sl j off len s=>
  simp only[vf]at h;show if j=i then s=sz∧off+len<=n else True;split
  .rename_i e;subst e;simp only[WD,cond_true,TZ]at h;exact⟨TM h.1,Tk h.2⟩
  .trivial
 |_=>cases h
theorem ue{i sz n:Nat}: ∀{l:List PV},l.all (vf i sz n)=is->bg i sz n l
 | [],_=>trivial
 |p::r,h=>by
  rw[VZ,TZ]at h;exact⟨EM h.1,ue h.2⟩
def uv(i sz n:Nat):AH->Bool
 | []=>is
 |(_,io)::r=>uv i sz n r
 |(_,dl (.cells cs _))::r=>cs.all (vf i sz n)&&uv i sz n r
 |(_,dl (.row _ es))::r=>(es.all fun e=>e.all (vf i sz n))&&uv i sz n r
 |_::_=>jp
theorem qo{i sz n:Nat}: ∀{h:AH},uv i sz n h=is->h.yk i sz n
 | [],_=>trivial
 |(_,io)::r,h=>qo (h:=r) h
 |(_,dl (.cells cs _))::r,h=>by
  simp only[uv,TZ]at h;exact⟨ue h.1,qo h.2⟩
 |(_,dl (.row _ es))::r,h=>by
  simp only[uv,TZ]at h;exact⟨fun e d=>ue (T7.1 h.1 e d),qo h.2⟩
 |(_,dl (.bA _ _))::r,h=>by simp[uv]at h
 |(_,dl .fx)::r,h=>by simp[uv]at h
 |(_,dl (.map ..))::r,h=>by simp[uv]at h
 |(_,dl (.b5 ..))::r,h=>by simp[uv]at h
 |(_,dl (.dQ ..))::r,h=>by simp[uv]at h
theorem CG(p:Prog): ∀i,∀d∈oX p i,¬d.1=0
 |0,d,h=>by cases h
 |i+1,d,h=>by
  rw[oX]at h;rcases TP.1 h with h|h
  .exact CG p i d h
  .split at h
   .cases h
   .rename_i g;rw[TF]at h;subst h;exact g
theorem CE(p:Prog): ∀i,∀d∈p6 p i,¬d.1=0
 |0,d,h=>by cases h
 |i+1,d,h=>by
  rw[p6]at h;rcases TP.1 h with h|h
  .exact CE p i d h
  .split at h
   .cases h
   .rename_i g;rw[TF]at h;subst h;exact g
theorem ED(p:Prog): ∀d∈jE p,¬d.1=0:=fun d h=>by
 rcases TP.1 h with h|h
 .exact CG p _ d h
 .exact CE p _ d h
theorem vb(p:Prog):(ef p).1=0↔jE p=[]:=by
 unfold ef;cases h:jE p with
 |nil=>exact⟨fun _=>rfl,fun _=>rfl⟩
 |cons d l=>exact⟨fun e=>absurd e (ED p d (by rw[h];exact TJ)),fun e=>nomatch e⟩
theorem ub(p:Prog): ∀n,p6 p n=[]↔ ∀i,i<n->(uc p i).1=0
 |0=>⟨fun _ i h=>absurd h (Vs i),fun _=>rfl⟩
 |n+1=>by
  rw[p6,VN,ub p n];constructor
  .rintro⟨h1,h2⟩ i d;rcases VE.1 d with h|h
   .exact h1 i h
   .subst h;by_cases g:(uc p i).1=0
    .exact g
    .rw[be g]at h2;cases h2
  .intro h;exact⟨fun i d=>h i (by omega),am (h n (by omega))⟩
theorem lB{α:Type}[Inhabited α]{l:List α}{i:Nat}(hi:i<l.length):l.getD i co∈l:=by rw[Tr,Ts hi];exact Uw hi
structure s6 (p:Prog):Prop where
 nodup:(p.aw.map Decl.name).Nodup
 len:p.aw.length<=64
 Db: ∀r∈p.rules,r.head.rel∈p.aw.map Decl.name
 lits: ∀r∈p.rules,∀l∈r.body,∀t∈named l,t∈p.aw.map Decl.name
 flat: ∀r∈p.rules,∀l∈r.body,l.kind=4-> ∀x∈l.ay,x.kind≠4
theorem zy(p:Prog): ∀n,oX p n=[]-> ∀i,i<n->gq p i=0
 |0,_,i,h=>absurd h (Vs _)
 |n+1,h,i,hi=>by
  rw[oX]at h;obtain⟨j,d⟩:=VN.1 h;rcases VE.1 hi with h3|h3
  .exact zy p n j i h3
  .subst h3;exact Decidable.byContradiction fun u=>by rw[be u]at d;cases d
theorem r8{d:Decl}{i k:Int}(h:oY d i k=0): ¬i>=64∧ ¬k>0:=by
 unfold oY at h;split at h
 .cases h
 .split at h
  .cases h
  .rename_i j;split at h
   .cases h
   .rename_i u;exact⟨fun g=>j (.inl g),u⟩
theorem ux{α:Type}[Inhabited α]: ∀(n:Nat) (l:List α),l.length=n->(∀i,i<l.length->l.getD i co∉l.take i)->l.Nodup
 |0,l,hn,_=>by rw[UC.1 hn];exact Us
 |n+1,l,hn,h=>by
  have hd:l=l.take n++ [l.getD n co]:=by rw[<-bc (by omega),TE (by omega)]
  have d:=ux n (l.take n) (by rw[TY];omega) fun i u=>by
   rw[TY]at u;have:=h i (by omega);rw[List.take_take,Nat.min_eq_left (by omega),Tr,T4,am (by omega),<-Tr];exact this
  rw[hd,Va];refine⟨d,by simp,fun a j b hb e=>?_⟩;rw[TF]at hb;subst e;subst hb;exact h n (by omega) j
theorem zw{s:ae}: ∀(l:List Decl) (m:DM),cZ .str (l.foldl c9 m) s=is->s∈m.map Ur∨s∈l.map Decl.name
 | [],m,h=> .inl (nj.1 h)
 |d::l,m,h=>by
  rw[Uc]at h;rcases zw l _ h with h1|h1
  .unfold c9 at h1;split at h1
   .exact .inl h1
   .rename_i j;rw[cV (fun g=>j (nj.2 g))]at h1;rcases TP.1 h1 with h3|h3
    .exact .inl h3
    .rw[TF]at h3;subst h3;exact .inr TJ
  .exact .inr (TH _ h1)
theorem Lc{p:Prog}{a:Atom}(h:vv p a=jp):a.rel∈p.aw.map Decl.name:=by
 unfold vv at h;rw[Vl]at h;rcases zw p.aw [] h with h1|h1
 .cases h1
 .exact h1
theorem lX{r:ar}{e:Int}(he:e≠0){f:Int->Bool}{k:fY}(h:(mZ r e f k).1=0):(∀lit∈ix r.body.length,f lit=jp)∧k.1=0:=by
 unfold mZ at h;split at h
 .exact absurd h he
 .rename_i d;refine⟨fun lit j=>?_,h⟩;have:=VM.1 d lit j;simpa using this
theorem Bn{p:Prog}{r:ar}{n:Int}(h:(r5 p r n).1=0):(yq p r).1=0:=by
 unfold r5 at h;split at h
 .cases h
 .split at h
  .cases h
  .split at h
   .cases h
   .split at h
    .cases h
    .split at h
     .cases h
     .exact h
theorem Kq(n:Nat):(-1:Int)∈ix n:=UG.2 ⟨0,by simp,by simp⟩
theorem CX{n i:Nat}(h:i<n):(i:Int)∈ix n:=UG.2 ⟨i+1,by simp;omega,by simp⟩
theorem Ep{l:Lit}{t:ae}(hf:l.kind=4-> ∀x∈l.ay,x.kind≠4)(h:t∈named l): ∃a∈(if l.kind=4 then l.ay else[l]).flatMap cT,a.rel=t:=by
 rw[Gm l hf]at h;unfold Gn at h;split at h
 .rename_i y;rw[TF]at h;have d: ¬l.kind=4:=by omega
  refine⟨l.atom,?_,h.symm⟩;rw[be d,Wd];exact⟨l,Vq _,by rw[cT,am y];exact Vq _⟩
 .split at h
  .rename_i d;obtain⟨x,A,rfl⟩:=UG.1 h;obtain⟨j,u⟩:=Ub.1 A;refine⟨x.atom,?_,rfl⟩;rw[am d,Wd];exact⟨x,j,by rw[cT,am (zT u)];exact Vq _⟩
  .cases h
theorem yF{p:Prog}(h:(ef p).1=0):s6 p:=by
 have J:=(vb p).1 h;unfold jE at J;obtain⟨C,D⟩:=VN.1 J;have C:=zy p _ C;have D:=(ub p _).1 D;have u: ∀r∈p.rules,(yq p r).1=0:=by
  intro r y;obtain⟨i,d,rfl⟩:=Vi.1 y;have:=Bn (D i d);rwa[Tr,Ts d]at this
 have A: ∀r∈p.rules,∀lit∈ix r.body.length,∀a∈fz r lit,a.rel∈p.aw.map Decl.name:=by
  intro r y lit B a F;have:=(lX (by decide) (u r y)).1 lit B;exact Lc (by simpa using Uo.1 this a F)
 have j: ∀r∈p.rules,∀l∈r.body,l.kind=4-> ∀x∈l.ay,x.kind≠4:=by
  intro r y l B Z x hx;obtain⟨i,d,rfl⟩:=Vi.1 B;have:=(lX (by decide) (lX (by decide) (lX (by decide) (u r y)).2).2).1 _ (CX d);have e:au r (i:Int)=r.body[i]:=by unfold au;simp[Tr,d]
  unfold lQ at this;rw[be (by omega),e,am Z,Vh]at this;simpa using Uo.1 this.1 x hx
 refine⟨ux _ _ I fun i d Y=>?_,?_,fun r y=>?_,fun r y l B t ht=>?_,j⟩
 .rw[T2]at d;have:=(r8 (C i d)).2;rw[bO]at this;have G:pC (fU p i) (p.aw.getD i co).name=0:=by omega
  rw[rQ]at G;apply G;unfold fU;rw[Tr,Tu,Ts d,<-List.map_take]at Y;rw[Tr,Ts d];exact Y
 .refine UR fun hc=>?_
  have:=(r8 (C 64 hc)).1;omega
 .exact A r y (-1) (Kq _) r.head (by unfold fz;simp)
 .obtain⟨i,d,rfl⟩:=Vi.1 B;obtain⟨a,F,rfl⟩:=Ep (j r y _ B) ht;refine A r y _ (CX d) a ?_;have e:au r (i:Int)=r.body[i]:=by unfold au;simp[Tr,d]
  unfold fz yt;rw[be (by omega),e];exact F
theorem s6.c4{p:Prog}(h:s6 p){x:ae×ae×Nat}(j:x∈c4 p):x.1∈p.aw.map Decl.name∧x.2.1∈p.aw.map Decl.name∧0<x.2.2:=by
 simp only[_root_.Go.Proofs.YtbhphmfbligliaaGreatDoor.c4,Wd,UG]at j;obtain⟨r,d,l,u,t,y,rfl⟩:=j;refine⟨h.Db r d,h.lits r d l u t y,?_⟩;show 0<l9 l;unfold l9;split<;>omega
abbrev GM:=List ((KC.str).K×Option NM)
def Eg:Option NM->IV
 |none=> .v (.map io)
 |some r=>wM r
abbrev w9(m:GM):IV:= .eP .str Eg io (.map io) m
def ET(row:NM)(t:ae)(d:Int):NM:=cJ .str row t (max (cK .str row t 0) d)
def jx(hs:List (ae×ae×Nat))(a:ae):NM:=hs.foldl (fun row x=>if x.1=a then ET row x.2.1 x.2.2 else row) []
def cv(p:Prog)(hs:List (ae×ae×Nat)):GM:=p.aw.map fun r=>(r.name,dl (jx hs r.name))
def uS(p:Prog):IV:=if(ef p).1=0 then w9 (cv p (c4 p)) else .v (.map io)
theorem nQ(hs:List (ae×ae×Nat))(x:ae×ae×Nat)(a:ae):jx (hs++ [x]) a=if x.1=a then ET (jx hs a) x.2.1 x.2.2 else jx hs a:=by
 simp[jx,List.foldl_append]
theorem wx(hs:List (ae×ae×Nat))(a:ae):((jx hs a).map Ur).Nodup∧ ∀b:ae,b∈(jx hs a).map Ur↔ ∃k,(a,b,k)∈hs:=by
 induction hs using pT with
 |h0=>exact⟨Us,fun b=>by simp[jx]⟩
 |h1 hs x ih=>
  obtain⟨A,d⟩:=ih;obtain⟨y,z,k⟩:=x;rw[nQ];by_cases h:y=a
  .rw[am h,ET];by_cases B:z∈(jx hs a).map Ur
   .rw[l5 B];refine⟨A,fun b=>?_⟩;rw[d];constructor
    .rintro⟨j,hj⟩;exact⟨j,Ue _ hj⟩
    .rintro⟨j,hj⟩;rcases TP.1 hj with hj|hj
     .exact⟨j,hj⟩
     .rw[TF]at hj;cases hj;exact(d z).1 B
   .rw[cV B];refine⟨Va.2 ⟨A,by simp,fun u hu v C e=>?_⟩,fun b=>?_⟩
    .rw[TF]at C;subst e;subst C;exact B hu
    .rw[TP,d,TF];constructor
     .rintro(⟨j,hj⟩|rfl)
      .exact⟨j,Ue _ hj⟩
      .exact⟨k,UQ _ (by rw[h];exact Vq _)⟩
     .rintro⟨j,hj⟩;rcases TP.1 hj with hj|hj
      .exact .inl ⟨j,hj⟩
      .rw[TF]at hj;cases hj;exact .inr I
  .rw[be h];refine⟨A,fun b=>?_⟩;rw[d];constructor
   .rintro⟨j,hj⟩;exact⟨j,Ue _ hj⟩
   .rintro⟨j,hj⟩;rcases TP.1 hj with hj|hj
    .exact⟨j,hj⟩
    .rw[TF]at hj;cases hj;exact absurd I h
theorem FU(hs:List (ae×ae×Nat))(a:ae):(jx hs a).length<=hs.length:=by
 induction hs using pT with
 |h0=>exact Tv _
 |h1 hs x ih=>
  rw[nQ,Tn,Ui];split
  .have:=qh (jx hs a) x.2.1 (max (cK .str (jx hs a) x.2.1 0) x.2.2);unfold ET;omega
  .omega
def bu(p:Prog)(a:ae):List ae:=(ns p).filter (eg p a)
theorem y7{p:Prog}(h:s6 p)(a:ae):dP ((jx (c4 p) a).map Ur)=bu p a:=by
 refine oR (jv (wx _ _).1) (List.Pairwise.filter _ (jv h.nodup)) fun b=>?_;rw[lq,(wx _ _).2,bu,Ub,ns,lq,eg,decide_eq_true_eq];constructor
 .rintro⟨k,hk⟩;have d:=h.c4 hk;refine⟨d.2.1,?_⟩;have:=RC hk;have h2:0<k:=d.2.2;omega
 .rintro⟨_,d⟩;rcases RB (c4 p) a b with h2|h2
  .exact absurd h2 d
  .exact⟨_,h2⟩
theorem GN(p:Prog)(hs:List (ae×ae×Nat)){a:ae}(h:a∈p.aw.map Decl.name):cK .str (cv p hs) a io=dl (jx hs a):=by
 unfold cv
 revert h
 generalize p.aw=l
 induction l with
 |nil=>intro h;cases h
 |cons d l ih=>
  intro h;simp only[TD,cK];by_cases e:d.name=a
  .rw[am e,e]
  .rw[be e];rw[TD,TQ]at h;exact ih (h.resolve_left fun g=>e g.symm)
theorem BQ(p:Prog)(hs:List (ae×ae×Nat)):(cv p hs).map Ur=p.aw.map Decl.name:=by
 simp[cv]
end Go.Proofs.YtbhphmfbligliaaGreatDoor
namespace Go.Proofs.YtbhphmfbligliaaGreatDoor
open Go Go.Al Go.En
def yd(p:Prog):Nat->NM
 |0=> []
 |n+1=>cJ .str (yd p n) (p.aw.getD n co).name n
abbrev sT(p:Prog):NM:=yd p p.aw.length
def tF(r:ar):Int:=(r.body.countP fun l=>kw (l.kind=1):Nat)
def bW(p:Prog):List Int:=0::p.rules.map tF
def kT(d:Nat)(u:Int):Bool:=kw (1<=u)&&kw (u<=d)
def j3(p:Prog)(n:cM)(d:Nat):Bool:=kw (0<=n.c8)&&(kw (n.c8<(bW p).length)&&(kw (n.kids=(bW p).getD n.c8.toNat 0)&&(kw (oF p n.fact=0)&&n.up.all (kT d))))
def bz(p:Prog):Nat->List cM->Bool
 |_,[]=>is
 |i,n::l=>j3 p n i&&bz p (i+1) l
def pN:List ae->NM
 | []=> []
 |s::r=>cJ .str (pN r) s r.length
abbrev jO(S:List ae):NM:=pN S.reverse
def pG(S:List ae)(s:ae):List ae:=if cZ .str (jO S) s=is then S else S++ [s]
def iQ(S:List ae)(v:ei):List ae:=if v.kind=2 then pG S v.sym else S
def xO(S:List ae)(n:cM):List ae:=n.fact.args.foldl iQ S
abbrev bm(l:List cM):List ae:=l.foldl xO []
def pQ(s:ae):By:=s.data.toList
def j7(S:List ae)(v:ei):By:=if v.kind=1 then enc (zz v.num) else enc (cK .str (jO S) v.sym 0).toNat
def sQ(u:Int):By:=enc u.toNat
def lU(p:Prog)(S:List ae)(n:cM):By:=enc (cK .str (sT p) n.fact.rel 0).toNat++(n.fact.args.flatMap (j7 S)++(enc n.c8.toNat++n.up.flatMap sQ))
def ja(kd:UInt8)(d:Nat):By:=[80,68,71,49]++([kd]++ [UInt8.ofNat (d/16777216),UInt8.ofNat (d/65536),UInt8.ofNat (d/256),UInt8.ofNat d])
def lM(S:List ae):By:=enc S.length++S.flatMap fun s=>mj (pQ s)
def gv(p:Prog)(S:List ae)(l:List cM):By:=enc l.length++l.flatMap (lU p S)
def bj(p:Prog)(d:Nat)(kd:UInt8)(l:List cM):By:=ja kd d++(lM (bm l)++gv p (bm l) l)
def fp(b:By)(S:List ae):List Int->RS->Option (List ei)×RS
 | [],s=>(dl [],s)
 |k::ks,s=>
  if k=1 then
   match fp b S ks (kP b (-2147483647) 2147483647 s).2 with
   |(dl l,s2)=>(dl (⟨k,(kP b (-2147483647) 2147483647 s).1,Tx⟩::l),s2)
   |(io,s2)=>(io,s2)
  else if(bt b 4194304 s).1<S.length then
   match fp b S ks (bt b 4194304 s).2 with
   |(dl l,s2)=>(dl (⟨k,0,S.getD (bt b 4194304 s).1 co⟩::l),s2)
   |(io,s2)=>(io,s2)
  else(io,(bt b 4194304 s).2)
def jM(b:By):Nat->RS->List Int×RS
 |0,s=>([],s)
 |n+1,s=>(((bt b 65536 s).1:Int)::(jM b n (bt b 65536 s).2).1,(jM b n (bt b 65536 s).2).2)
def qp(p:Prog)(b:By)(S:List ae)(lines:Bool)(s:RS):Option cM×RS:=
 let y:=(bt b 64 s).2
 let d:=p.aw.getD (bt b 64 s).1 co
 if y.f=0∧(bt b 64 s).1<p.aw.length then
  match fp b S d.types y with
  |(io,s2)=>(io,s2)
  |(dl l,s2)=>
   let u:=(bt b 256 s2).1
   let j:=(bt b 256 s2).2
   if j.f=0∧u<(bW p).length then
    let k:=(bW p).getD u 0
    let x:=if lines=is then jM b k.toNat j else([],j)
    if x.2.f=0 then(dl ⟨⟨d.name,l⟩,u,k,x.1⟩,x.2) else(io,x.2)
   else(io,j)
 else(io,y)
def gd(p:Prog)(b:By)(S:List ae)(lines:Bool):Nat->RS->Option (List cM)×RS
 |0,s=>(dl [],s)
 | n+1,s=>if s.f=0 then
   match qp p b S lines s with
   |(io,s1)=>(io,s1)
   |(dl x,s1)=>match gd p b S lines n s1 with
    |(io,s2)=>(io,s2)
    |(dl l,s2)=>(dl (x::l),s2)
  else(dl [],s)
def vM(b:By)(n:Nat)(s:RS):RS:=if s.f=0 then(if n<=b.length-s.p then⟨s.p+n,0⟩ else⟨s.p,10⟩) else s
def y8(t:By):ae:=⟨t.toArray⟩
def kq(b:By):List ae×RS:=
 let x:=bt b 4194304 (vM b 9 ⟨0,0⟩)
 ((dH b 64 x.1 x.2).1.map y8,(dH b 64 x.1 x.2).2)
def B5(p:Prog)(b:By)(lines:Bool):Option (List cM)×RS:=
 let x:=bt b 65536 (kq b).2
 gd p b (kq b).1 lines x.1 x.2
def i6(b:By):Nat:=if 4<b.length∧b.take 4=[80,68,71,49]∧(b.getD 4 0=1∨b.getD 4 0=2) then(b.getD 4 0).toNat else 0
def kz(p:Prog)(b:By)(kd:Nat):Option (List cM):=
 if i6 b=kd then match B5 p b (kd==2) with
  |(dl l,s)=>if s.f=0∧b.length<=s.p then dl l else io
  |(io,_)=>io
 else io
theorem rv{α:Type}: ∀{l:List α},l.Nodup->l.reverse.Nodup
 | [],_=>by simp
 |x::l,h=>by
  obtain⟨j,u⟩:=UF.1 h;rw[List.reverse_cons];exact Va.2 ⟨rv u,by simp,fun a d b hb=>by simp at hb d;subst hb;exact fun e=>j (e▸d)⟩
theorem wj: ∀(r:List ae),r.Nodup->(pN r).map Ur=r.reverse∧ ∀t,t∈(pN r).map Ur↔t∈r
 | [],_=>⟨rfl,fun _=>Iff.rfl⟩
 |s::r,h=>by
  obtain⟨d,j⟩:=UF.1 h;obtain⟨g1,g2⟩:=wj r j;have:s∉(pN r).map Ur:=fun u=>d ((g2 s).1 u)
  have e:(pN (s::r)).map Ur=(s::r).reverse:=by
   show(cJ .str (pN r) s _).map Ur=_;rw[cV this,g1];simp
  exact⟨e,fun t=>by rw[e];simp[or_comm]⟩
theorem Dc{S:List ae}(h:S.Nodup)(s:ae):cZ .str (jO S) s=is↔s∈S:=by
 rw[nj,(wj S.reverse (rv h)).2 s];simp
theorem Cq: ∀(r:List ae),r.Nodup-> ∀(i:Nat) (s:ae),r[i]? =dl s->cK .str (pN r) s 0=((r.length-1-i:Nat):Int)
 | [],_,i,s,hi=>by simp at hi
 |t::r,h,i,s,hi=>by
  obtain⟨u,x⟩:=UF.1 h;show cK .str (cJ .str (pN r) t _) s 0=_;rw[eI];cases i with
  |zero=>simp at hi;subst hi;simp
  |succ i=>
   have d:r[i]? =dl s:=by simpa using hi
   have A:s∈r:=Uv d;have j: ¬t=s:=fun e=>u (e▸A);have y:=(Tp.1 d).1;rw[be j,Cq r x i s d,TO];congr 1;omega
theorem NU{S:List ae}(h:S.Nodup){i:Nat}{s:ae}(hi:S[i]? =dl s):cK .str (jO S) s 0=(i:Int):=by
 have d:=(Tp.1 hi).1;rw[Cq S.reverse (rv h) (S.length-1-i) s (by rw[List.getElem?_reverse (by omega)];rw[<-hi];congr 1;omega),Vt];congr 1;omega
theorem B6{S:List ae}(h:S.Nodup)(s:ae):(pG S s).Nodup:=by
 unfold pG;split
 .exact h
 .rename_i d;rw[Dc h]at d;exact Va.2 ⟨h,by simp,fun a j b hb=>by simp at hb;subst hb;exact fun e=>d (e▸j)⟩
theorem HN{S:List ae}(h:S.Nodup)(s:ae):s∈pG S s:=by
 unfold pG;split
 .rename_i d;exact(Dc h s).1 d
 .simp
theorem HM(S:List ae)(s:ae): ∀t∈S,t∈pG S s:=fun t d=>by
 unfold pG;split
 .exact d
 .simp[d]
theorem xN: ∀(l:List ei) {S:List ae},S.Nodup->(l.foldl iQ S).Nodup∧(∀t∈S,t∈l.foldl iQ S)∧ ∀v∈l,v.kind=2->v.sym∈l.foldl iQ S
 | [],S,h=>⟨h,fun _ h=>h,fun _ h=>nomatch h⟩
 |v::l,S,h=>by
  rw[Uc];have j:(iQ S v).Nodup:=by unfold iQ;split;exact B6 h _;exact h
  have x: ∀t∈S,t∈iQ S v:=by unfold iQ;split;exact HM S _;exact fun _ h=>h
  obtain⟨g1,g2,g3⟩:=xN l j;refine⟨g1,fun t y=>g2 t (x t y),fun u hu d=>?_⟩;rcases TQ.1 hu with rfl|hu
  .refine g2 _ ?_;unfold iQ;rw[am d];exact HN h _
  .exact g3 u hu d
theorem pO: ∀(l:List cM) {S:List ae},S.Nodup->(l.foldl xO S).Nodup∧(∀t∈S,t∈l.foldl xO S)∧ ∀n∈l,∀v∈n.fact.args,v.kind=2->v.sym∈l.foldl xO S
 | [],S,h=>⟨h,fun _ h=>h,fun _ h=>nomatch h⟩
 |n::l,S,h=>by
  rw[Uc];obtain⟨x,y,A⟩:=xN n.fact.args h;obtain⟨g1,g2,g3⟩:=pO l x;refine⟨g1,fun t B=>g2 t (y t B),fun u hu v j d=>?_⟩;rcases TQ.1 hu with rfl|hu
  .exact g2 _ (A v j d)
  .exact g3 u hu v j d
theorem Fq{G:ae->Prop}{S:List ae}(h: ∀t∈S,G t)(v:ei)(j:v.kind=2->G v.sym):(∀t∈iQ S v,G t)∧(iQ S v).length<=S.length+1:=by
 unfold iQ pG;split
 .rename_i d;split
  .exact⟨h,by omega⟩
  .refine⟨fun t ht=>?_,by simp⟩;rcases TP.1 ht with ht|ht
   .exact h t ht
   .simp at ht;subst ht;exact j d
 .exact⟨h,by omega⟩
theorem tT{G:ae->Prop}: ∀(l:List ei) {S:List ae},(∀t∈S,G t)->(∀v∈l,v.kind=2->G v.sym)->(∀t∈l.foldl iQ S,G t)∧(l.foldl iQ S).length<=S.length+l.length
 | [],S,h,_=>⟨h,Tv _⟩
 |v::l,S,h,hv=>by
  obtain⟨d,j⟩:=Fq h v (hv v (TJ ..));obtain⟨g1,g2⟩:=tT l d fun u hu=>hv u (TH _ hu);rw[Uc];exact⟨g1,by rw[TO];omega⟩
theorem kY{G:ae->Prop}: ∀(l:List cM) {S:List ae},(∀t∈S,G t)->(∀n∈l,n.fact.args.length<=8∧ ∀v∈n.fact.args,v.kind=2->G v.sym)->(∀t∈l.foldl xO S,G t)∧(l.foldl xO S).length<=S.length+8*l.length
 | [],S,h,_=>⟨h,Tv _⟩
 |n::l,S,h,hv=>by
  obtain⟨y,d⟩:=hv n (TJ ..);obtain⟨j,x⟩:=tT n.fact.args h d;obtain⟨g1,g2⟩:=kY l (S:=xO S n) j fun u hu=>hv u (TH _ hu);rw[Uc]
  exact⟨g1,by
   have:(xO S n).length<=S.length+n.fact.args.length:=x
   rw[TO];omega⟩
end Go.Proofs.YtbhphmfbligliaaGreatDoor
namespace Go.Proofs.YtbhphmfbligliaaGreatDoor
open Go Go.Al Go.Proofs.Tryz Go.En
abbrev n6(l:By):AO:=aX 1 l bb
abbrev iJ(i:Nat)(l:By):AO:= .cells [.sl i 0 l.length 1]
abbrev wO(l:By):List AO:=[iJ 1 l,n6 l]
abbrev wH(l:By):AH:=[(0,dl (iJ 2 l)),(2,dl (n6 l))]
abbrev pU(n:Nat):PV:= .iv (.v (.int .u64 (n:Int)))
abbrev pY(n:Int):PV:= .iv (.v (.int .u8 n))
theorem b4(σ:Nat->Nat)(l:By):(n6 l).bZ σ=n6 l:=bL σ
theorem cP(σ:Nat->Nat)(l:By):(AO.row 1 (eL l)).bZ σ= .row 1 (eL l):=bL σ
theorem bS(σ:Nat->Nat)(l:By):(l.map fun x=>(bb x).map PV.iv).map (db σ)=l.map fun x=>(bb x).map PV.iv:=by
 rw[Ve];exact UX fun x _=>nS _ _
theorem QQ(l xs:By){es:List (List PV)}{n:Nat}(he:es=eL xs)(hn:n=xs.length)(hb:l.length+xs.length<=100000000000000):bC prog 111 [.ptr 0 0,.sl 2 0 n 1] (wO l++ [.row 1 es]) (.aZ []) [(0,dl (iJ 3 (l++xs))),(3,dl (n6 (l++xs)))] 4:=by
 subst he;subst hn;refine aq ab func111 I (by decide) ntmps111 I (by simp) ?_;refine iq I ⟨ac,by simp,by simp,?_,by omega,by omega⟩ (aD [3] (by first|exact .inr I|exact .inl I) I (wk I I I (bi ac) ⟨⟨_,rfl,.of_eq ?_⟩,Tk I,rfl,hR I ?_ I ac⟩ I))
 .rw[Wq,TE (by simp)];exact fQ (fun _=>rfl) xs
 .simp[AO.bZ,db,PV.bZ,sg]
 .rw[Wq,TE (by simp),TA]
theorem Cz(l:By)(x:UInt8){v:Int}(d:v=(x.toNat:Int))(hb:l.length<=90000000000000):bC prog 111 [.ptr 0 0,.sl 2 0 1 1] (wO l++ [.row 1 [[pY v]]]) (.aZ []) [(0,dl (iJ 3 (l++ [x]))),(3,dl (n6 (l++ [x])))] 4:=
 QQ l [x] (by rw[d];rfl) I (by simp;omega)
theorem BC(m:Nat):IntKind.u8.wrap (m:Int)=((UInt8.ofNat m).toNat:Int):=by
 have e:IntKind.u8.wrap (m:Int)=(m:Int) % 256:=rfl;rw[e];simp
theorem orB(m:Nat):IntKind.u8.wrap ((BitVec.ofInt IntKind.u8.bits (IntKind.u8.wrap (m:Int))|||BitVec.ofInt IntKind.u8.bits 128).toNat:Int)=((UInt8.ofNat (m % 128+128)).toNat:Int):=by
 have d:IntKind.u8.wrap (m:Int)=((m % 256:Nat):Int):=by
  have e:IntKind.u8.wrap (m:Int)=(m:Int) % 256:=rfl;rw[e];omega
 have j: ∀k:Fin 256,(BitVec.ofInt 8 ((k.val:Nat):Int)|||BitVec.ofInt 8 128).toNat=k.val % 128+128:=by decide+kernel
 have u:=j ⟨m % 256,by omega⟩;rw[d];have x:(BitVec.ofInt IntKind.u8.bits ((m % 256:Nat):Int)|||BitVec.ofInt IntKind.u8.bits 128).toNat=m % 256 % 128+128:=u;have y:m % 256 % 128+128=m % 128+128:=by omega
 rw[x,y];exact BC _
theorem Sj(m:Nat):((m:Int)).fdiv (2 ^ min ((7:Int)).toNat IntKind.u64.bits)=((m/128:Nat):Int):=by
 have e:(2:Int) ^ min ((7:Int)).toNat IntKind.u64.bits=128:=by decide
 rw[e,UT _ (by decide)];rfl
theorem Hb{f m:Nat}(h: ¬m<128):gy (f+1) m=UInt8.ofNat (m % 128+128)::gy f (m/128):=by rw[gy,be h]
theorem Bh(l:By)(n:Nat)(hb:l.length<=80000000000000):bC prog 112 [.ptr 0 0,pU n] (wO l) (.aZ []) (wH (l++enc n)) 3:=by
 refine aq ab func112 I (by decide) ntmps112 I (by simp) ?_;refine gA I ?_;refine jD 0 10 (TB _) (fun i (x:Nat×By)=>⟨[(0,.ptr 0 0),(1,pU x.1),(4,pI i)],[(0,dl (iJ 2 x.2)),(2,dl (n6 x.2))],3⟩) (fun i x=>x.2.length=l.length+i∧x.2++gy (10-i) x.1=l++enc n) (n,l) [1] ⟨rfl,rfl⟩
  (wk I I I (bi (bi (bi trivial))) ⟨⟨_,rfl,.of_eq I⟩,Tk I,rfl,hR I I I trivial⟩ I) fun i x F D=>?_
 obtain⟨m,y⟩:=x;obtain⟨B,A⟩:=D;have d: ∀(g:m<128∨i=10),y++ [UInt8.ofNat m]=l++enc n:=fun g=>by
  rw[<-A];congr 1;cases hf:10-i with
  |zero=>rw[gy]
  |succ f=>
   rw[gy,am];rcases g with g|g
   .exact g
   .omega
 have C:y.length=l.length+i:=B;refine gA I ?_;refine Tq (fun u=>?_) (fun u=>?_)
 .have u:i<10:=by have:(i:Int)<10:=of_decide_eq_true u;omega
  refine gA I ?_;refine Tq (fun j=>?_) (fun j=>?_)
  .have j:m<128:=by have:(m:Int)<128:=of_decide_eq_true j;omega
   refine gA I (aE [0,2,3] (Cz y (UInt8.ofNat m) (BC m) (by omega)) I I I I I (by simp only[TD,TX,TV,T3,b4,cP];rfl) I I ?_);rw[d (.inl j)];refine gA I (aD [4] (by first|exact .inr I|exact .inl I) I (wk I I I (bi ac) ⟨⟨_,rfl,.of_eq I⟩,Tk I,rfl,hR I (by first|rfl|exact bS _ _) I ac⟩ I))
  .have j: ¬m<128:=by have: ¬(m:Int)<128:=of_decide_eq_false j;omega
   refine gA I (aE [0,2,3] (Cz y (UInt8.ofNat (m % 128+128)) (orB m) (by omega)) I I I I I (by simp only[TD,TX,TV,T3,b4,cP];rfl) I I ?_);refine gA I ?_;refine⟨u,(m/128,y++ [UInt8.ofNat (m % 128+128)]),[4],⟨by simp;omega,?_⟩,wk I I I (bi ⟨.of_eq ?_,rfl,bi ac⟩) ⟨⟨_,rfl,.of_eq I⟩,Tk I,rfl,hR I (by first|rfl|exact bS _ _) I ac⟩ I⟩
   .show(y++ [UInt8.ofNat (m % 128+128)])++gy (10-(i+1)) (m/128)=l++enc n;rw[<-A,Tz];have e:10-i=(10-(i+1))+1:=by omega
    show _=y++gy (10-i) m;rw[e,Hb j];rfl
   .show PV.iv (.v (.int .u64 _))=_;rw[Sj];rfl
 .have u:10<=i:=by have: ¬(i:Int)<10:=of_decide_eq_false u;omega
  refine gA I (aE [0,2,3] (Cz y (UInt8.ofNat m) (BC m) (by omega)) I I I I I (by simp only[TD,TX,TV,T3,b4,cP];rfl) I I ?_);rw[d (.inr (by omega))];refine gA I (aD [4] (by first|exact .inr I|exact .inl I) I (wk I I I (bi ac) ⟨⟨_,rfl,.of_eq I⟩,Tk I,rfl,hR I (by first|rfl|exact bS _ _) I ac⟩ I))
theorem Sl(l xs:By){es:List (List PV)}{n:Nat}(he:es=eL xs)(hn:n=xs.length)(hb:l.length+xs.length<=80000000000000):bC prog 62 [.ptr 0 0,.sl 2 0 n 1] (wO l++ [.row 1 es]) (.aZ []) [(0,dl (iJ 3 (l++xs))),(3,dl (n6 (l++xs)))] 4:=by
 subst he;subst hn;refine aq ab func62 I (by decide) ntmps62 I (by simp) ?_;refine gA I ?_;refine Tq (fun zz=>?_) (fun zz=>?_)<;>(try(exact absurd zz (by decide)))
 refine gA I (aE [0,1,2] (QQ l xs I I (by omega)) I I I I I (by simp only[TD,TX,TV,T3,b4,cP];rfl) I I ?_);refine gA I (aD [3] (by first|exact .inr I|exact .inl I) I (wk I I I (bi ac) ⟨⟨_,rfl,.of_eq I⟩,Tk I,rfl,hR I (by first|rfl|exact bS _ _) I ac⟩ I))
theorem Q8(l:By)(x:UInt8)(hb:l.length<=80000000000000):bC prog 63 [.ptr 0 0,pY (x.toNat:Int)] (wO l) (.aZ []) (wH (l++ [x])) 3:=by
 refine aq ab func63 I (by decide) ntmps63 I (by simp) ?_;refine gA I ?_;refine Tq (fun zz=>?_) (fun zz=>?_)<;>(try(exact absurd zz (by decide)))
 refine gA I (aE [0,1,2] (Cz l x I (by omega)) I I I I I (by simp only[TD,TX,TV,T3,b4,cP];rfl) I I ?_);refine gA I (aD [3] (by first|exact .inr I|exact .inl I) I (wk I I I (bi ac) ⟨⟨_,rfl,.of_eq I⟩,Tk I,rfl,hR I (by first|rfl|exact bS _ _) I ac⟩ I))
theorem Qv(l:By)(n:Nat)(hb:l.length<=70000000000000):bC prog 65 [.ptr 0 0,pU n] (wO l) (.aZ []) (wH (l++enc n)) 3:=by
 refine aq ab func65 I (by decide) ntmps65 I (by simp) ?_;refine gA I ?_;refine Tq (fun zz=>?_) (fun zz=>?_)<;>(try(exact absurd zz (by decide)))
 refine gA I (aE [0,1] (Bh l n (by omega)) I I I I I (by simp only[TD,TX,TV,T3,b4,cP];rfl) I I ?_);refine gA I (aD [2] (by first|exact .inr I|exact .inl I) I (wk I I I (bi ac) ⟨⟨_,rfl,.of_eq I⟩,Tk I,rfl,hR I (by first|rfl|exact bS _ _) I ac⟩ I))
theorem RW{a b:By}{i n:Nat}{σ:Nat->Nat}{j:Nat}(h:b=a)(hn:n=a.length)(hi:σ i=j):dK (.cells [.sl j 0 n 1]) ((iJ i b).bZ σ):=by
 subst h;subst hn;subst hi;exact .of_eq I
theorem wrU(m:Nat)(h:m<9223372036854775808):IntKind.u64.wrap (m:Int)=(m:Int):=by
 have e:IntKind.u64.wrap (m:Int)=(m:Int) % 18446744073709551616:=rfl;rw[e];omega
theorem Qw(l:By)(s:ae)(hs:s.size<=10000000000)(hb:l.length<=60000000000000):bC prog 68 [.ptr 0 0,pS s] (wO l) (.aZ []) (wH (l++mj s.data.toList)) 3:=by
 have d:s.data.toList.length=s.size:=by simp
 have u:=nv 10 s.size;have j:l++mj s.data.toList=l++enc s.size++s.data.toList:=by rw[mj,d,Tz]
 refine aq ab func68 I (by decide) ntmps68 I (by simp) ?_;refine gA I ?_;refine Tq (fun zz=>?_) (fun zz=>?_)<;>(try(exact absurd zz (by decide)))
 refine gA I (aE [0,1] (bC.le (aa:=[.ptr 0 0,.iv (.v (.int .u64 (IntKind.u64.wrap (s.size:Int))))]) (Bh l s.size (by omega)) ⟨.refl _,.of_eq (congrArg (fun z:Int=>PV.iv (.v (.int .u64 z))) (wrU s.size (by omega))),ac⟩) I I I I I (by simp only[TD,TX,TV,T3,b4,cP];rfl) I I ?_);refine gM 9 I (bF I (JF (l:=l++enc s.size) ab I I I I I I I (by exact congrArg dl (b4 _ _)) I I I I I (by simp only[Tn,enc];omega) I) ?_);rintro t rfl;refine gA I (aD [3] (by first|exact .inr I|exact .inl I) I (wk I I I (bi ac) ⟨⟨_,rfl,RW j (by simp[Ux]) I⟩,Tk I,rfl,hR I (by rw[j,TA]) I ac⟩ I))
theorem Cb(x:Nat)(h:x<18446744073709551616):(BitVec.ofInt 64 ((x:Nat):Int) ^^^ BitVec.ofInt 64 18446744073709551615).toNat=18446744073709551615-x:=by
 have d:BitVec.ofInt 64 18446744073709551615=BitVec.allOnes 64:=by decide
 have j:BitVec.ofInt 64 ((x:Nat):Int)=BitVec.ofNat 64 x:=by simp[BitVec.ofInt_natCast]
 rw[d,j,BitVec.xor_allOnes,BitVec.toNat_not,BitVec.toNat_ofNat];omega
theorem Ca(x:Nat)(h:x<18446744073709551616):(BitVec.ofInt 64 ((x:Nat):Int) ^^^ BitVec.ofInt 64 0).toNat=x:=by
 have d:BitVec.ofInt 64 0=0#64:=by decide
 have j:BitVec.ofInt 64 ((x:Nat):Int)=BitVec.ofNat 64 x:=by simp[BitVec.ofInt_natCast]
 rw[d,j,BitVec.xor_zero,BitVec.toNat_ofNat];omega
theorem zzB{n:Int}(h1: -2147483647<=n)(y:n<=2147483647):IntKind.u64.wrap ((BitVec.ofInt IntKind.u64.bits (IntKind.u64.wrap (IntKind.u64.wrap n*2 ^ min (1:Int).toNat IntKind.u64.bits)) ^^^ BitVec.ofInt IntKind.u64.bits (IntKind.u64.wrap (n.fdiv (2 ^ min (63:Int).toNat IntKind.i64.bits)))).toNat:Int)=(zz n:Int):=by
 have w: ∀z:Int,IntKind.u64.wrap z=z % 18446744073709551616:=fun _=>rfl;have u:(2:Int) ^ min (1:Int).toNat IntKind.u64.bits=2:=by decide
 have x:(2:Int) ^ min (63:Int).toNat IntKind.i64.bits=9223372036854775808:=by decide
 rw[u,x,UT _ (by decide),w,w n,w (n/9223372036854775808),w ((n % 18446744073709551616)*2)];show(((BitVec.ofInt 64 _ ^^^ BitVec.ofInt 64 _).toNat:Nat):Int) % _=_;unfold zz;by_cases h:n<0
 .rw[am h];have d:n/9223372036854775808 % 18446744073709551616=18446744073709551615:=by omega
  have j:n % 18446744073709551616*2 % 18446744073709551616=(((2*n+18446744073709551616).toNat:Nat):Int):=by omega
  rw[d,j,Cb _ (by omega)];omega
 .rw[be h];have d:n/9223372036854775808 % 18446744073709551616=0:=by omega
  have j:n % 18446744073709551616*2 % 18446744073709551616=(((2*n).toNat:Nat):Int):=by omega
  rw[d,j,Ca _ (by omega)];omega
theorem Sn(l:By)(n:Int)(h1: -2147483647<=n)(d:n<=2147483647)(hb:l.length<=60000000000000):bC prog 69 [.ptr 0 0,pI n] (wO l) (.aZ []) (wH (l++enc (zz n))) 3:=by
 refine aq ab func69 I (by decide) ntmps69 I (by simp) ?_;refine gA I (Tq (fun g=>?_) (fun g=>absurd g (by decide)));refine gA I (aE [0,1] (bC.le (aa:=[.ptr 0 0,.iv (.v (.int .u64 (IntKind.u64.wrap ((BitVec.ofInt IntKind.u64.bits (IntKind.u64.wrap (IntKind.u64.wrap n*2 ^ min (1:Int).toNat IntKind.u64.bits)) ^^^ BitVec.ofInt IntKind.u64.bits (IntKind.u64.wrap (n.fdiv (2 ^ min (63:Int).toNat IntKind.i64.bits)))).toNat:Int))))]) (Bh l (zz n) (by omega)) ⟨.refl _,.of_eq (congrArg (fun z:Int=>PV.iv (.v (.int .u64 z))) (zzB h1 d)),ac⟩) I I I I I (by simp only[TD,TX,TV,T3,b4,cP];rfl) I I ?_);refine gA I (aD [2] (by first|exact .inr I|exact .inl I) I (wk I I I (bi ac) ⟨⟨_,rfl,.of_eq I⟩,Tk I,rfl,hR I (by first|rfl|exact bS _ _) I ac⟩ I))
theorem Qu(l:By):bC prog 71 [.ptr 0 0] (wO l) (pI l.length) [(0,dl (iJ 1 l)),(1,dl (n6 l))] 2:=by
 refine aq ab func71 I (by decide) ntmps71 I (by simp) ?_;refine gA I ?_;refine Tq (fun zz=>?_) (fun zz=>?_)<;>(try(exact absurd zz (by decide)))
 refine gA I (aD [] (by first|exact .inr I|exact .inl I) I (wk I I I (bi ac) ⟨⟨_,rfl,.of_eq I⟩,Tk I,rfl,hR I (by first|rfl|exact bS _ _) I ac⟩ I))
theorem QX:bC prog 61 [] [] (.ptr 0 0) [(0,dl (.cells [.iv (.v (.slice io 0 0))]))] 1:=by
 refine aq ab func61 I (by decide) ntmps61 I (by simp) ?_;refine gA I (aD [0] (by first|exact .inr I|exact .inl I) I (wk I I I (bi ac) ⟨⟨_,rfl,.of_eq I⟩,Tk I,rfl,ac⟩ I))
theorem Qs{h:AH}(l:By){j n:Nat}(hj:h.get j=dl (n6 l))(hn:n=l.length):zg h 1 (.sl j 0 n 1)=dl (eL l):=by
 subst hn;have e:TR 1 1=is:=rfl;unfold zg;simp only[e,hj,n6,aX,TL,T2,Nat.ble_eq,Tv,Wq];rw[show Vm l.length l.length=is from Uu (Tv _)];show dl _=_;rw[TE (by simp)]
theorem Ra(l:By)(hb:l.length<=60000000000000):bC prog 114 [.ptr 0 0] (wO l) (.sl 2 0 l.length 1) [(0,dl (iJ 1 l)),(1,dl (n6 l)),(2,dl (n6 l))] 3:=by
 refine aq ab func114 I (by decide) ntmps114 I (by simp) ?_;refine gA I (bF I (tw (news:=eL l) (eu:=Px) (sz:=1) ab I I I I I I I (by decide) (by exact Qs l I I) (fe (fQ (fun _=>rfl) l)) (by show(eL l).length*1<=_;simp;omega) (by simp;omega) I) ?_);rintro t rfl;refine gA I (aD [3] (by first|exact .inr I|exact .inl I) I (wk I I I ⟨.row (by simp),rfl,ac⟩ ⟨⟨_,rfl,.of_eq I⟩,Tk I,rfl,hR I (by first|rfl|exact bS _ _) I (hR I (by first|rfl|exact bS _ _) I ac)⟩ I))
theorem Sm(l:By)(hb:l.length<=60000000000000):bC prog 72 [.ptr 0 0] (wO l) (.sl 2 0 l.length 1) [(0,dl (iJ 1 l)),(1,dl (n6 l)),(2,dl (n6 l))] 3:=by
 refine aq ab func72 I (by decide) ntmps72 I (by simp) ?_;refine gA I (Tq (fun g=>absurd g (by decide)) (fun g=>?_));refine gA I (aE [0,1] (Ra l hb) I I I I I (by simp only[TD,TX,TV,T3,b4,cP];rfl) I I ?_);refine gA I (aD [2] (by first|exact .inr I|exact .inl I) I (wk I I I ⟨.row I,rfl,ac⟩ ⟨⟨_,rfl,.of_eq I⟩,Tk I,rfl,hR I (by first|rfl|exact bS _ _) I (hR I (by first|rfl|exact bS _ _) I ac)⟩ I))
theorem y3(S:List ae)(s:ae):jO (S++ [s])=cJ .str (jO S) s S.length:=by
 show pN (S++ [s]).reverse=_;rw[Wj];show cJ .str (pN S.reverse) s S.reverse.length=_;rw[Vt]
abbrev NS(j n:Nat):AO:= .cells [.mp 1,.sl j 0 n 1]
abbrev Se(S:List ae):List AO:=[NS 2 S.length,cO (jO S),aX 1 S cB]
abbrev Sf(S:List ae):AH:=[(0,dl (NS 3 S.length)),(1,dl (cO (jO S))),(3,dl (aX 1 S cB))]
theorem NR{a b:Nat}{i j:Nat}{σ:Nat->Nat}(h:a=b)(hi:σ 1=1)(hj:σ j=i):dK (.cells [.mp 1,.sl i 0 a 1]) ((NS j b).bZ σ):=by
 subst h;subst hj;exact .of_eq (by show _=AO.cells [.mp (σ 1),_];rw[hi];rfl)
theorem QY:bC prog 58 [] [] (.ptr 1 0) [(0,dl .fx),(1,dl (.cells [.mp 0,.iv (.v (.slice io 0 0))]))] 2:=by
 refine aq ab func58 I (by decide) ntmps58 I (by simp) ?_;refine gA I (aD [0,1] (by first|exact .inr I|exact .inl I) I (wk I I I (bi ac) ⟨⟨_,rfl,.of_eq I⟩,Tk I,ac,⟨_,rfl,.of_eq I⟩,Tk I,rfl,ac⟩ I))
theorem Qx(S:List ae)(j:S.Nodup)(s:ae)(u:S.length<=1000000000):bC prog 60 [.ptr 0 0,pS s] (Se S) (pI (cK .str (jO (pG S s)) s 0)) (Sf (pG S s)) 4:=by
 refine aq ab func60 I (by decide) ntmps60 I (by simp) ?_;refine gA I (Tq (fun g=>absurd g (by decide)) (fun g=>?_));refine gA I ?_;refine Tq (fun h=>?_) (fun h=>?_)
 .have h:cZ .str (jO S) s=is:=h;have e:pG S s=S:=by rw[pG,am h]
  rw[e];refine gA I (aD [2] (by first|exact .inr I|exact .inl I) I (wk I I I (bi ac) ⟨⟨_,rfl,.of_eq I⟩,Tk I,rfl,hM I I I (hR I I I ac)⟩ I))
 .have h: ¬cZ .str (jO S) s=is:=by
   have g:cZ .str (jO S) s=jp:=h;rw[g];simp
  have e:pG S s=S++ [s]:=by rw[pG,be h]
  have d:cK .str (jO (S++ [s])) s 0=(S.length:Int):=by rw[y3,eI,am I]
  rw[e,d];refine gA I (aD [4] (by first|exact .inr I|exact .inl I) I (wk I I I (bi ac) ⟨⟨_,rfl,NR (by simp) I I⟩,Tk I,rfl,hM I (y3 S s).symm I (hR I (by rw[TA];rfl) I ac)⟩ I))
abbrev kW(S:List ae):IV:= .i7 [wM (jO S),strs S]
theorem Qy(S:List ae):Pure prog 66 [.iv (kW S)] (pI S.length):=by
 refine ai ab func66 I (by decide) ntmps66 I (by simp) I ?_;refine gA I (bF I (eR (p:= .iv (.v (.bool jp))) (yw ab I I I I) I) ?_);rintro t rfl;refine gA I (Tq (fun g=>absurd g (by decide)) (fun g=>?_));refine gA I (aN (by first|exact .inr I|exact .inl I) I (.of_eq ?_));rfl
theorem Q6(S:List ae)(s:ae):Pure prog 70 [.iv (kW S),pS s] (.aZ [pI (cK .str (jO S) s 0),pB (cZ .str (jO S) s)]):=by
 refine ai ab func70 I (by decide) ntmps70 I (by simp) I ?_;refine gA I (bF I (eR (p:= .iv (.v (.bool jp))) (yw ab I I I I) I) ?_);rintro t rfl;refine gA I (Tq (fun g=>absurd g (by decide)) (fun g=>?_));refine gA I (aN (by first|exact .inr I|exact .inl I) I (.of_eq ?_));rfl
theorem Sp(S:List ae):bC prog 67 [.iv (kW S)] [] (.cN (.func 113) [] [.ptr 0 0]) [(0,dl (.cells [.iv (kW S)]))] 1:=by
 refine aq ab func67 I (by decide) ntmps67 I (by simp) ?_;refine gA I (aD [0] (by first|exact .inr I|exact .inl I) I (wk I I I (bi ac) ⟨⟨_,rfl,.of_eq I⟩,Tk I,rfl,ac⟩ I))
abbrev M9(l:Nat):PV:= .iv (.v (.func (.yield l) #[] #[]))
noncomputable abbrev wrC:Code:=f30.body.getD .skip
noncomputable abbrev HV:=ye wrC
noncomputable abbrev R4:LC:=⟨HV.2.2.2.2.1,HV.2.2.2.2.2.1,HV.2.2.2.2.2.2.1,187⟩
def xJ(s:ae):By:=mj s.data.toList
abbrev RY:AF:=[(14,.ptr 2 0)]
noncomputable abbrev alO(d:Nat)(S:List ae)(l:By):List AO:=[.fy d R4 RY,.cells [.iv (kW S)],.cells [.ptr 3 0],iJ 4 l,n6 l]
noncomputable abbrev alH(d:Nat)(l:By):AH:=[(0,dl (.fy d R4 RY)),(2,dl (.cells [.ptr 3 0])),(3,dl (iJ 5 l)),(5,dl (n6 l))]
theorem Ck: ∀(S:List ae),(∀s∈S,s.size<=1000)->(S.flatMap xJ).length<=S.length*1100
 | [],_=>by simp
 |s::S,h=>by
  have j:=Ck S fun t d=>h t (TH _ d);have u:=h s (TJ ..);have x:=nv 10 s.data.toList.length;have y:(xJ s).length=(gy 10 s.data.toList.length).length+s.data.toList.length:=by rw[xJ,mj,Tn];rfl
  have A:s.data.toList.length=s.size:=by simp
  rw[T9,Tn,TO,Ug];omega
theorem HH{n:Nat}(h:Vm 3 n=is): ∀d,(AF.get RY d).low n=is:=fun d=>by
 rw[AF.ax];split
 .exact h
 .rfl
theorem Rb(j:Nat)(S:List ae)(l:By)(D:S.length<=1000000)(hs: ∀s∈S,s.size<=1000)(hb:l.length<=1000000):bC prog 113 [M9 j,.ptr 1 0] (alO j S l) (.aZ []) (alH j (l++S.flatMap xJ)) 6:=by
 refine aq ab func113 I (by decide) ntmps113 I (by simp) ?_;refine gA I (bF I (eR (p:= .iv (.v (.bool jp))) (yw ab I I I I) I) ?_);rintro t rfl;refine gA I (Tq (fun g=>absurd g (by decide)) (fun g=>?_));refine gA I (rE (p:= .iv (strs S)) 9 I I I I I I (qK ab I I I I I I I (Tv _)) ?_);refine gA I ?_;refine aG 0 S.length (TB _) (fun i=>⟨[(0,M9 j),(16,.iv (strs S)),(17,pI S.length),(18,pI i)],[(0,dl (.fy j R4 RY)),(2,dl (.cells [.ptr 3 0])),(3,dl (iJ 5 (l++(S.take i).flatMap xJ))),(5,dl (n6 (l++(S.take i).flatMap xJ)))],6⟩) (fun _=>True) [4] ac
  (wk I I I (bi (bi (bi (bi trivial)))) ⟨⟨_,rfl,.of_eq I⟩,Tk I,HH I,⟨_,rfl,.of_eq I⟩,Tk I,rfl,⟨_,rfl,.of_eq (by simp;rfl)⟩,Tk I,rfl,hR I (by simp) I trivial⟩ I) fun i F _=>?_
 refine gA I ?_;refine Tq (fun d=>?_) (fun d=>?_)
 .have d:i<S.length:=by simpa using d
  refine gM 12 I (EA 3 I I I I I ?_);refine gA I ⟨rfl,0,j,R4,RY,_,rfl,rfl,rfl,rfl,rfl,?_⟩;have y:S.getD ((i:Int)).toNat co=S.getD i co:=by rw[Tt]
  have u:S.getD i co∈S:=by
   rw[Tr,Ts d];exact Uw d
  have x:l++(S.take (i+1)).flatMap xJ=l++(S.take i).flatMap xJ++xJ (S.getD i co):=by
   rw[bc d,U8,Tz];simp
  have B:(l++(S.take i).flatMap xJ).length<=1000000+1000000*1100:=by
   have:=Ck (S.take i) fun s A=>hs s (UP A);rw[Tn];have C:(S.take i).length<=1000000:=by rw[TY];omega
   have:((S.take i).flatMap xJ).length<=1000000*1100:=Uh this (TN _ C);omega
  rw[y];refine show RN _ _ (.region _ _ jp) _ _ from wy I ?_
  refine gA I ⟨rfl,?_⟩;refine show RN _ _ (.block _ (.region _ _ jp)) _ _ from FV (wy I ?_)
  refine gA I (aE [3,5] (Qw (l++(S.take i).flatMap xJ) (S.getD i co) (Uh (hs _ u) (by omega)) (by omega)) I I I I I (by simp only[TD,TX,TV,T3,b4,cP];rfl) I I ?_);refine gA I ⟨rfl,_,rfl,?_⟩;refine gA I ⟨rfl,?_⟩;refine gA I ⟨d,ac,[6],wk I I I (bi (bi (bi (bi ac)))) ⟨⟨_,rfl,.of_eq I⟩,Tk I,HH I,⟨_,rfl,.of_eq I⟩,Tk I,rfl,⟨_,rfl,.of_eq (by rw[x];rfl)⟩,Tk I,rfl,hR I (by rw[x];exact bS _ _) I ac⟩ I⟩
 .have d:S.length<=i:=by simpa using d
  rw[TE d];refine gA I (aD [5] (by first|exact .inr I|exact .inl I) I (wk I I I (bi ac) ⟨⟨_,rfl,.of_eq I⟩,Tk I,HH I,⟨_,rfl,.of_eq I⟩,Tk I,rfl,⟨_,rfl,.of_eq I⟩,Tk I,rfl,hR I (by first|rfl|exact bS _ _) I ac⟩ I))
end Go.Proofs.YtbhphmfbligliaaGreatDoor
namespace Go.Proofs.YtbhphmfbligliaaGreatDoor
open Go Go.Al Go.Proofs.Tryz
theorem iD{α:Type}[Inhabited α](l:List α)(f:α->List IV):((Uk l.length).map fun k=>(f (l.getD k co)).map PV.iv)=l.map fun x=>(f x).map PV.iv:=by
 refine List.ext_getElem (by simp) fun i j d=>?_;simp only[T2]at d;simp[Ts d]
theorem JQ(l:List Int)(hb:l.length<=10000000000):Pure prog 101 [.iv (bp 1 l eO)] (.iv (bp 1 l eO)):=by
 refine ai ab func101 I (by decide) ntmps101 I (by simp) I ?_;refine iq I ac (lz I I I I underlying58 I fun b j=>?_);refine gA I ?_;refine Tq (fun u=>?_) (fun u=>?_)
 .have d:l=[]:=Ud (j u);subst d;refine gA I (aN (by first|exact .inr I|exact .inl I) I ?_);exact .nil _ _
 refine iq I ac (nW ab I I I I I I I fun y=>?_);by_cases d:l=[]
 .subst d;refine iq I ac (qz ab I I I I I I I I (el2:=fun k=>eO (([]:List Int).getD k co)) I ?_);refine gA I (aN (by first|exact .inr I|exact .inl I) I ?_);exact .refl _
 .have x:0<l.length:=UE.2 d;refine iq I ac (nX ab I I I I I I I I (by decide) I (ku I) (by simp;omega) (by show((Uk l.length).map _).length*8<=_;simp;omega) (by simp;omega) I ?_);refine gA I (eA (by first|exact .inr I|exact .inl I) I I ((iD l eO)) ((by simp)))
theorem CC(l:List Term)(hb:l.length<=10000000000):Pure prog 102 [.iv (bp 5 l Term.c)] (.iv (bp 5 l Term.c)):=by
 refine ai ab func102 I (by decide) ntmps102 I (by simp) I ?_;refine iq I ac (lz I I I I underlying100 I fun b j=>?_);refine gA I ?_;refine Tq (fun u=>?_) (fun u=>?_)
 .have d:l=[]:=Ud (j u);subst d;refine gA I (aN (by first|exact .inr I|exact .inl I) I ?_);exact .nil _ _
 refine iq I ac (nW ab I I I I I I I fun y=>?_);by_cases d:l=[]
 .subst d;refine iq I ac (qz ab I I I I I I I I (el2:=fun k=>Term.c (([]:List Term).getD k co)) I ?_);refine gA I (aN (by first|exact .inr I|exact .inl I) I ?_);exact .refl _
 .have x:0<l.length:=UE.2 d;refine iq I ac (nX ab I I I I I I I I (by decide) I (ku I) (by simp;omega) (by show((Uk l.length).map _).length*56<=_;simp;omega) (by simp;omega) I ?_);refine gA I (eA (by first|exact .inr I|exact .inl I) I I ((iD l Term.c)) ((by simp)))
theorem JP(l:List Lit)(hb:l.length<=10000000000):Pure prog 150 [.iv (bp 30 l Lit.c)] (.iv (bp 30 l Lit.c)):=by
 refine ai ab func150 I (by decide) ntmps150 I (by simp) I ?_;refine iq I ac (lz I I I I underlying103 I fun b j=>?_);refine gA I ?_;refine Tq (fun u=>?_) (fun u=>?_)
 .have d:l=[]:=Ud (j u);subst d;refine gA I (aN (by first|exact .inr I|exact .inl I) I ?_);exact .nil _ _
 refine iq I ac (nW ab I I I I I I I fun y=>?_);by_cases d:l=[]
 .subst d;refine iq I ac (qz ab I I I I I I I I (el2:=fun k=>Lit.c (([]:List Lit).getD k co)) I ?_);refine gA I (aN (by first|exact .inr I|exact .inl I) I ?_);exact .refl _
 .have x:0<l.length:=UE.2 d;refine iq I ac (nX ab I I I I I I I I (by decide) I (ku I) (by simp;omega) (by show((Uk l.length).map _).length*384<=_;simp;omega) (by simp;omega) I ?_);refine gA I (eA (by first|exact .inr I|exact .inl I) I I ((iD l Lit.c)) ((by simp)))
theorem FL(l:List Lit)(hb:l.length<=10000000000)(h0:l≠ []):bC prog 150 [.iv (bp 30 l Lit.c)] [] (.sl 0 0 l.length 30) [(0,dl (aX 30 l Lit.c))] 1:=by
 have u:0<l.length:=UE.2 h0;refine aq ab func150 I (by decide) ntmps150 I (by simp) ?_;refine iq I ac (lz I I I I underlying103 I fun b d=>?_);refine gA I ?_;refine Tq (fun j=>?_) (fun j=>?_)
 .exact absurd (d j) (by omega)
 refine iq I ac (nW ab I I I I I I I fun x=>?_);refine iq I ac (nX ab I I I I I I I I (by decide) I (ku I) (by simp;omega) (by show((Uk l.length).map _).length*384<=_;simp;omega) (by simp;omega) I ?_);refine gA I (aD [1] (by first|exact .inr I|exact .inl I) I (wk I I I ⟨.row (by simp),rfl,ac⟩ (hR I (iD l Lit.c) I ac) I))
theorem JR(l:List Expr)(hb:l.length<=10000000000):Pure prog 186 [.iv (bp 7 l Expr.c)] (.iv (bp 7 l Expr.c)):=by
 refine ai ab func186 I (by decide) ntmps186 I (by simp) I ?_;refine iq I ac (lz I I I I underlying199 I fun b j=>?_);refine gA I ?_;refine Tq (fun u=>?_) (fun u=>?_)
 .have d:l=[]:=Ud (j u);subst d;refine gA I (aN (by first|exact .inr I|exact .inl I) I ?_);exact .nil _ _
 refine iq I ac (nW ab I I I I I I I fun y=>?_);by_cases d:l=[]
 .subst d;refine iq I ac (qz ab I I I I I I I I (el2:=fun k=>Expr.c (([]:List Expr).getD k co)) I ?_);refine gA I (aN (by first|exact .inr I|exact .inl I) I ?_);exact .refl _
 .have x:0<l.length:=UE.2 d;refine iq I ac (nX ab I I I I I I I I (by decide) I (ku I) (by simp;omega) (by show((Uk l.length).map _).length*88<=_;simp;omega) (by simp;omega) I ?_);refine gA I (eA (by first|exact .inr I|exact .inl I) I I ((iD l Expr.c)) ((by simp)))
theorem FM(l:List Expr)(hb:l.length<=10000000000)(h0:l≠ []):bC prog 186 [.iv (bp 7 l Expr.c)] [] (.sl 0 0 l.length 7) [(0,dl (aX 7 l Expr.c))] 1:=by
 have u:0<l.length:=UE.2 h0;refine aq ab func186 I (by decide) ntmps186 I (by simp) ?_;refine iq I ac (lz I I I I underlying199 I fun b d=>?_);refine gA I ?_;refine Tq (fun j=>?_) (fun j=>?_)
 .exact absurd (d j) (by omega)
 refine iq I ac (nW ab I I I I I I I fun x=>?_);refine iq I ac (nX ab I I I I I I I I (by decide) I (ku I) (by simp;omega) (by show((Uk l.length).map _).length*88<=_;simp;omega) (by simp;omega) I ?_);refine gA I (aD [1] (by first|exact .inr I|exact .inl I) I (wk I I I ⟨.row (by simp),rfl,ac⟩ (hR I (iD l Expr.c) I ac) I))
theorem FQ{α:Type}[Inhabited α]{l:List α}{g:α->List PV}{i:Nat}(hi:i<l.length):(l.map g).set (0+i) (g (l.getD i co))=l.map g:=by
 refine VD fun j=>?_;rw[TL,U9];split
 .rename_i e;subst e;rw[am (by simpa using hi),Tu,Tr,Ts hi];rfl
 .rfl
theorem Oz{α:Type}[Inhabited α]{l:List α}{g:α->List PV}{i:Nat}(hi:i<l.length):(l.map g)[0+i]? =dl (g (l.getD i co)):=by
 rw[TL,Tu,Tr,Ts hi];rfl
theorem MN: ∀(n:Nat) (e:Expr),e.size<=n->e.size<=1000000000->Pure prog 151 [ag e.c] (ag e.c)
 |0,e,h,_=>absurd e.size_pos (by omega)
 |n+1,e,h,hb=>by
  have B:=e.size_eq;have A:=Expr.aA e.args;refine Al.Pure.le (aa:=[ag e.c]) (args:=[ag e.c1]) ?_ ⟨e.wY,ac⟩;by_cases u:e.args=[]
  .refine ai ab func151 I (by decide) ntmps151 I (by simp) I ?_;refine gA I (aP (JR e.args (by omega)) I I I I I I ?_);refine gA I (yA (n:=0) ?_);refine gA I ?_;refine Tq (fun y=>?_) (fun y=>?_)
   .exact absurd y (by simp[u])
   refine gA I (aN (by first|exact .inr I|exact .inl I) I ?_);exact e.BJ
  refine ai ab func151 I (by decide) ntmps151 I (by simp) I ?_;refine gA I (aE [] (FM e.args (by omega) u) I I I I I I I I ?_);refine gA I ?_;refine aG 0 e.args.length (TB _) (fun i=>⟨[(1,.ptr 0 0),(2,.ptr 1 0),(10,pI e.args.length),(11,pI i)],[(0,dl (.cells [.iv (iI e.kind),.iv (iS e.var),.iv (iI e.val.kind),.iv (iI e.val.num),.iv (iS e.val.sym),.iv (iI e.op),.sl 2 0 e.args.length 7])),(1,dl (.cells [pI 0,pS Tx,pI 0,pI 0,pS Tx,pI 0,.iv (.v (.slice io 0 0))])),(2,dl (aX 7 e.args Expr.c))],3⟩) (fun _=>True) [] ac
   (wk I I I (bi (bi (bi (bi trivial)))) ⟨⟨_,rfl,.of_eq I⟩,Tk I,rfl,⟨⟨_,rfl,.of_eq I⟩,Tk I,rfl,hR I (by rw[Ve];exact UX fun x _=>nS _ _) I trivial⟩⟩ I) fun i D _=>?_
  refine gA I ?_;refine Tq (fun d=>?_) (fun d=>?_)
  .have d:i<e.args.length:=by simpa using d
   have C:=Expr.cf e.args i d;have j:=Oz (g:=fun x=>(Expr.c x).map PV.iv) d;refine gM 16 I (rE (p:=ag (e.args.getD i co).c) 7 I I I I I I (iY ab I I I I j I) ?_);refine gA I (ck ab [] (Pure.A6 (MN n (e.args.getD i co) (by omega) (by omega))) I I I I I I I I I I I I (by(repeat' (first|exact ac|exact rfl|exact aj.refl _|exact aj.bk (by assumption)|apply Tq))<;>first|omega|(simp only[Tt];omega)|(simp;done)|(simp;omega)) I (by(repeat' (first|exact ac|exact rfl|exact aj.refl _|exact aj.bk (by assumption)|apply Tq))<;>first|omega|(simp only[Tt];omega)|(simp;done)|(simp;omega)) ?_);refine gA I (mb ab I I I I I (by first|trivial|(repeat' apply Tq)<;>trivial) (Bd ab I I (i:=2) (sz:=7) (q:=0+i) I I I I (by simp;omega) I I I) I (by first|trivial|(repeat' apply Tq)<;>trivial) ?_);refine gA I ⟨d,ac,[],wk I I I (bi (bi (bi (bi ac)))) ⟨⟨_,rfl,.of_eq I⟩,Tk I,rfl,⟨⟨_,rfl,.of_eq I⟩,Tk I,rfl,hR I (FQ (g:=fun x=>(Expr.c x).map PV.iv) d) I ac⟩⟩ I⟩
  .have d:e.args.length<=i:=by simpa using d
   refine gA I (iP (.inr I) I (fD.gG 2 e.args Expr.c I I (by simp[PV.bh,bg]) (.done ?_)));have:aj (ag e.c1) (ag e.c):=e.BJ;simp only[PV.ey,qD,TL];exact this
theorem Bl(e:Expr)(hb:e.size<=1000000000):Pure prog 151 [ag e.c] (ag e.c):=MN e.size e (Tv _) hb
mutual
def Lit.bare:Lit->Lit
 | .mk k a op l r f v o b _=> .mk k a op l r f v o (Lit.il b) ⟨0,0⟩
def Lit.il:List Lit->List Lit
 | []=> []
 |x::r=>x.bare::Lit.il r
end
def Lit.Tc(l:Lit):Lit:= .mk l.kind l.atom l.op l.left l.right l.dT l.bI l.j8 l.ay ⟨0,0⟩
theorem Lit.K4(l:Lit):l.bare= .mk l.kind l.atom l.op l.left l.right l.dT l.bI l.j8 (Lit.il l.ay) ⟨0,0⟩:=by cases l;rw[Lit.bare];rfl
theorem Lit.n9: ∀l:List Lit,Lit.il l=l.map Lit.bare
 | []=>rfl
 |x::r=>by rw[Lit.il,Lit.n9 r];rfl
def ar.bare(r:ar):ar:=⟨r.head,Lit.il r.body,⟨0,0⟩⟩
def Decl.bare(d:Decl):Decl:=⟨d.name,d.types,⟨0,0⟩⟩
def Prog.bare(p:Prog):Prog:=⟨p.aw.map Decl.bare,p.rules.map ar.bare⟩
def gG(l:List Lit)(i:Nat):List Lit:=(l.take i).map Lit.bare++l.drop i
abbrev cL(x:Lit):List PV:=(Lit.c x).map PV.iv
theorem OA(l:List Lit):gG l 0=l:=by simp[gG]
theorem FT{l:List Lit}{i:Nat}(h:l.length<=i):gG l i=Lit.il l:=by
 rw[gG,TE h,List.drop_eq_nil_of_le h,T1,Lit.n9]
theorem JU{l:List Lit}{i:Nat}(h:i<l.length):((gG l i).map cL)[0+i]? =dl (cL (l.getD i co)):=by
 rw[TL,Tu,gG,TI (by simp;omega)];simp only[T2,TY,Uz];rw[show i+(i-min i l.length)=i by omega,Ts h,Tr,Ts h];rfl
theorem N7{es:List (List PV)}{i:Nat}{r r2:List PV}(h:es[0+i]? =dl r):(es.set (0+i) r2)[0+i]? =dl r2:=by
 rw[U9,am I,am (Tp.1 h).1]
theorem D4{l:List Lit}{i:Nat}(h:i<l.length)(r:List PV):(((gG l i).map cL).set (0+i) r).set (0+i) (cL (l.getD i co).bare)=(gG l (i+1)).map cL:=by
 rw[List.set_set,TL];have d:gG l i=(l.take i).map Lit.bare++(l.getD i co::l.drop (i+1)):=by
  rw[gG,Tr,Ts h];show _++l.drop i=_++(l[i]::_)
  rw[Vz h]
 have j:gG l (i+1)=(l.take i).map Lit.bare++((l.getD i co).bare::l.drop (i+1)):=by
  rw[gG,bc h,TA,Tz];rfl
 rw[d,j,TA,TA,List.set_append_right _ _ (by simp;omega)];simp only[T2,TY,TD];rw[show i-min i l.length=0 by omega];rfl
theorem FJ{y:IV}(u:jG (lits []) y):Pure prog 103 [.iv (lits [])] (.iv y):=by
 refine ai ab func103 I (by decide) ntmps103 I (by simp) I ?_;refine gA I (aP (JP [] (by simp)) I I I I I I ?_);refine gA I (yA (n:=0) ?_);refine gA I ?_;refine Tq (fun d=>?_) (fun d=>?_)
 .exact absurd d (by simp)
 refine gA I (aN (by first|exact .inr I|exact .inl I) I ?_);exact .iv (fun M x j=>u M x j)
set_option maxHeartbeats 2000000 in
theorem QZ: ∀(n:Nat) (l:List Lit) (y:IV),Lit.an l<=n->Lit.an l<=1000000000->jG (lits (Lit.il l)) y->Pure prog 103 [.iv (lits l)] (.iv y):=by
 intro n
 induction n with
 |zero=>
  intro l y h hb D;have G:=Lit.aA l;have C:l=[]:=UC.1 (by omega);subst C;exact FJ D
 |succ n ih=>
  intro l y h hb D;have G:=Lit.aA l;by_cases F:l=[]
  .subst F;exact FJ D
  refine ai ab func103 I (by decide) ntmps103 I (by simp) I ?_;refine gA I (aE [] (FL l (by omega) F) I I I I I I I I ?_);refine gA I ?_;refine aG 0 l.length (TB _) (fun i=>⟨[(0,.iv (lits l)),(3,.sl 0 0 l.length 30),(9,pI l.length),(10,pI i)],[(0,dl (.row 30 ((gG l i).map cL)))],1⟩) (fun _=>True) [] ac
   (wk I I I (bi (bi (bi (bi trivial)))) (hR (l:=gG l 0) I (by rw[OA,Ve];exact UX fun x _=>nS _ _) I trivial) I) fun i Z _=>?_
  refine gA I ?_;refine Tq (fun u=>?_) (fun u=>?_)
  .have u:i<l.length:=by simpa using u
   have Y:=Lit.cf l i u;have J:=(l.getD i co).size_eq;have d:=JU u;have j:=D4 u (cL (l.getD i co).Tc);generalize(gG l i).map cL=es at d j ⊢;generalize B:(gG l (i+1)).map cL=es2 at j;generalize A:es.set (0+i) (cL (l.getD i co).Tc)=es1 at j;refine gA I (uT ab es1 I I I I I I d I I (by decide) I A ?_);have d:=N7 (r2:=cL (l.getD i co).Tc) d;rw[A]at d;refine gM 8 I (ma ab I I I I I (d) I I ?_);refine gA I (aP (CC (l.getD i co).atom.ak (by omega)) I I I I I I ?_);refine gA I (yB ab I I I I (i:=0) (q:=0+i) (off:=2) I I d I I (by decide) I I ?_);refine gM 9 I (rE (p:=ag (l.getD i co).left.c) 6 I I I I I I (iY ab I I I I d I) ?_);refine gM 3 I (rE (p:=ag (l.getD i co).right.c) 11 I I I I I I (iY ab I I I I d I) ?_);refine gM 4 I (rE (p:=ag (l.getD i co).j8.c) 17 I I I I I I (iY ab I I I I d I) ?_);refine gA I (AA ab [11,17] [] (Pure.A6 (Bl (l.getD i co).left (by omega))) I I I I I I I I I I I I (by(repeat' (first|exact ac|exact rfl|exact aj.refl _|exact aj.bk (by assumption)|apply Tq))<;>first|omega|(simp only[Tt];omega)|(simp;done)|(simp;omega)) I (by(repeat' (first|exact ac|exact rfl|exact aj.refl _|exact aj.bk (by assumption)|apply Tq))<;>first|omega|(simp only[Tt];omega)|(simp;done)|(simp;omega)) ⟨vu ab I I I I I I I d I (.refl _),⟨vu ab I I I I I I I d I (.refl _),ac⟩⟩ ?_);refine gA I (AA ab [17] [] (Pure.A6 (Bl (l.getD i co).right (by omega))) I I I I I I I I I I I I (by(repeat' (first|exact ac|exact rfl|exact aj.refl _|exact aj.bk (by assumption)|apply Tq))<;>first|omega|(simp only[Tt];omega)|(simp;done)|(simp;omega)) I (by(repeat' (first|exact ac|exact rfl|exact aj.refl _|exact aj.bk (by assumption)|apply Tq))<;>first|omega|(simp only[Tt];omega)|(simp;done)|(simp;omega)) ⟨vu ab I I I I I I I d I (.refl _),ac⟩ ?_);refine gA I (ck ab [] (Pure.A6 (Bl (l.getD i co).j8 (by omega))) I I I I I I I I I I I I (by(repeat' (first|exact ac|exact rfl|exact aj.refl _|exact aj.bk (by assumption)|apply Tq))<;>first|omega|(simp only[Tt];omega)|(simp;done)|(simp;omega)) I (by(repeat' (first|exact ac|exact rfl|exact aj.refl _|exact aj.bk (by assumption)|apply Tq))<;>first|omega|(simp only[Tt];omega)|(simp;done)|(simp;omega)) ?_);refine gA I (mb ab I I I I I (by(repeat' (first|exact ac|exact rfl|exact aj.refl _|exact aj.bk (by assumption)|apply Tq))<;>first|omega|(simp only[Tt];omega)|(simp;done)|(simp;omega)) (lN ab I I I (i:=0) (q:=0+i) (off:=4) I I d I I (by decide) I I) I (by(repeat' (first|exact ac|exact rfl|exact aj.refl _|exact aj.bk (by assumption)|apply Tq))<;>first|omega|(simp only[Tt];omega)|(simp;done)|(simp;omega)) ?_);refine gA I (mb ab I I I I I (by(repeat' (first|exact ac|exact rfl|exact aj.refl _|exact aj.bk (by assumption)|apply Tq))<;>first|omega|(simp only[Tt];omega)|(simp;done)|(simp;omega)) (lN ab I I I (i:=0) (q:=0+i) (off:=11) I I d I I (by decide) I I) I (by(repeat' (first|exact ac|exact rfl|exact aj.refl _|exact aj.bk (by assumption)|apply Tq))<;>first|omega|(simp only[Tt];omega)|(simp;done)|(simp;omega)) ?_);refine gA I (mb ab I I I I I (by(repeat' (first|exact ac|exact rfl|exact aj.refl _|exact aj.bk (by assumption)|apply Tq))<;>first|omega|(simp only[Tt];omega)|(simp;done)|(simp;omega)) (lN ab I I I (i:=0) (q:=0+i) (off:=20) I I d I I (by decide) I I) I (by(repeat' (first|exact ac|exact rfl|exact aj.refl _|exact aj.bk (by assumption)|apply Tq))<;>first|omega|(simp only[Tt];omega)|(simp;done)|(simp;omega)) ?_);refine gM 7 I (ma ab I I I I I (d) I I ?_);refine gA I (aP (Al.Pure.le (aa:=[.iv (vi (l.getD i co).ay)]) (ih (l.getD i co).ay (vi (Lit.il (l.getD i co).ay)) (by omega) (by omega) (BF _)) ⟨.iv (nh _),ac⟩) I I I I I I ?_);refine gA I (uT ab es2 I I I I I I d I I (by decide) I (by rw[<-j,Lit.K4];rfl) ?_);refine gA I ?_;subst B;exact⟨u,ac,[],wk I I I (bi (bi (bi (bi ac)))) (hR (l:=gG l (i+1)) I I I ac) I⟩
  .have u:l.length<=i:=by simpa using u
   rw[FT u];refine gA I (iP (r0:= .sl 0 0 l.length 30) (.inr I) I (fD.gG 0 (Lit.il l) Lit.c I I (by simp[PV.bh,bg,Lit.n9]) (.done ?_)));have e:(Lit.il l).length=l.length:=by rw[Lit.n9,T2]
   have:aj (.iv (.bU 30 l.length fun k=>Lit.c ((Lit.il l).getD k co))) (.iv y):=by rw[<-e];exact .iv D
   simp only[PV.ey,qD,TL];exact this
theorem On(l:List Lit)(hb:Lit.an l<=1000000000):Pure prog 103 [.iv (lits l)] (.iv (lits (Lit.il l))):=QZ _ l _ (Tv _) hb (fun _ _ h=>h)
end Go.Proofs.YtbhphmfbligliaaGreatDoor
namespace Go.Proofs.YtbhphmfbligliaaGreatDoor
open Go Go.Al
theorem Q9(p:Prog)(hb:p.size<=1000000000):Pure Tryz.prog 46 [ag p.c] (ag p.bare.c):=by
 unfold Prog.size at hb;refine ai ab Tryz.func46 I (by decide) Tryz.ntmps46 I (by simp) I ?_;refine gM 9 I ?_;refine fm 2 0 4 I I ?_;refine fm 2 1 5 I I ?_;refine gA I ?_;refine aG 0 p.aw.length (TB _) (fun i=>⟨[(1,.ptr 0 0),(2,.ptr 1 0),(3,.ptr 2 0),(9,.iv (bp 4 p.aw Decl.c)),(10,pI p.aw.length),(11,pI i)],[(0,dl (az p.c)),(1,dl (.cells [.iv (.v (.slice io 0 0)),.iv (.v (.slice io 0 0))])),(2,dl (.cells [.sl 5 0 i 4,.sl 4 0 0 5])),(4,dl (aX 5 ([]:List ar) ar.c)),(5,dl (aX 4 ((p.aw.take i).map Decl.bare) Decl.c))],6⟩) (fun _=>True) [3] ac
  (wk I I I (bi (bi (bi (bi (bi (bi trivial)))))) (hC I I I ⟨⟨_,rfl,.of_eq I⟩,Tk I,rfl,⟨_,rfl,.of_eq I⟩,Tk I,rfl,hR I I I (hR I I I trivial)⟩) I) fun i C _=>?_
 refine gA I ?_;refine Tq (fun j=>?_) (fun j=>?_)
 .have j:i<p.aw.length:=by simpa using j
  have A:((p.aw.take i).map Decl.bare).length=i:=by rw[T2,TY];omega
  have y:=bc (l:=p.aw) j;have B:=kr (fun d:Decl=>d.types.length) p.aw i j;refine gA I (ck ab [] (Pure.A6 (JQ (p.aw.getD i co).types (by omega))) I I I I I I I I I I I I (by(repeat' (first|exact ac|exact rfl|exact aj.refl _|exact aj.bk (by assumption)|apply Tq))<;>first|omega|(simp only[Tt];omega)|(simp;done)|(simp;omega)) I (by(repeat' (first|exact ac|exact rfl|exact aj.refl _|exact aj.bk (by assumption)|apply Tq))<;>first|omega|(simp only[Tt];omega)|(simp;done)|(simp;omega)) ?_);refine gA I ⟨j,ac,[8],wk I I I (bi (bi (bi (bi (bi (bi ac)))))) (hC I I I ⟨⟨_,rfl,.of_eq I⟩,Tk I,rfl,⟨⟨_,rfl,.of_eq I⟩,Tk I,rfl,hR I I I (hR I (by rw[y,TA,TA];rfl) I ac)⟩⟩) I⟩
 .have j:p.aw.length<=i:=by simpa using j
  have x:i=p.aw.length:=by omega
  subst x;rw[TE (Tv _)];refine gA I ?_;refine aG 0 p.rules.length (TB _) (fun i=>⟨[(1,.ptr 0 0),(2,.ptr 1 0),(3,.ptr 2 0),(28,.iv (bp 5 p.rules ar.c)),(29,pI p.rules.length),(30,pI i)],[(0,dl (az p.c)),(1,dl (.cells [.iv (.v (.slice io 0 0)),.iv (.v (.slice io 0 0))])),(2,dl (.cells [.sl 5 0 p.aw.length 4,.sl 6 0 i 5])),(5,dl (aX 4 (p.aw.map Decl.bare) Decl.c)),(6,dl (aX 5 ((p.rules.take i).map ar.bare) ar.c))],7⟩) (fun _=>True) [4] ac
   (wk I I I (bi (bi (bi (bi (bi (bi trivial)))))) (hC I I I ⟨⟨_,rfl,.of_eq I⟩,Tk I,rfl,⟨⟨_,rfl,.of_eq I⟩,Tk I,rfl,hR I I I (hR I I I trivial)⟩⟩) I) fun i C _=>?_
  refine gA I ?_;refine Tq (fun u=>?_) (fun u=>?_)
  .have u:i<p.rules.length:=by simpa using u
   have A:((p.rules.take i).map ar.bare).length=i:=by rw[T2,TY];omega
   have y:=bc (l:=p.rules) u;have B:=kr ar.size p.rules i u;have D:(p.rules.getD i co).size=(p.rules.getD i co).head.ak.length+Lit.an (p.rules.getD i co).body:=rfl;refine gA I (ck ab [] (Pure.A6 (CC (p.rules.getD i co).head.ak (by omega))) I I I I I I I I I I I I (by(repeat' (first|exact ac|exact rfl|exact aj.refl _|exact aj.bk (by assumption)|apply Tq))<;>first|omega|(simp only[Tt];omega)|(simp;done)|(simp;omega)) I (by(repeat' (first|exact ac|exact rfl|exact aj.refl _|exact aj.bk (by assumption)|apply Tq))<;>first|omega|(simp only[Tt];omega)|(simp;done)|(simp;omega)) ?_);refine gA I (ck ab [] (Pure.A6 (On (p.rules.getD i co).body (by omega))) I I I I I I I I I I I I (by(repeat' (first|exact ac|exact rfl|exact aj.refl _|exact aj.bk (by assumption)|apply Tq))<;>first|omega|(simp only[Tt];omega)|(simp;done)|(simp;omega)) I (by(repeat' (first|exact ac|exact rfl|exact aj.refl _|exact aj.bk (by assumption)|apply Tq))<;>first|omega|(simp only[Tt];omega)|(simp;done)|(simp;omega)) ?_);refine gA I ⟨u,ac,[9],wk I I I (bi (bi (bi (bi (bi (bi ac)))))) (hC I I I ⟨⟨_,rfl,.of_eq I⟩,Tk I,rfl,⟨⟨_,rfl,.of_eq I⟩,Tk I,rfl,hR I I I (hR I (by rw[y,TA,TA];rfl) I ac)⟩⟩) I⟩
  .have u:p.rules.length<=i:=by simpa using u
   have x:i=p.rules.length:=by omega
   subst x;rw[TE (Tv _)];refine gA I (iP (r0:= .agg [.sl 5 0 p.aw.length 4,.sl 6 0 p.rules.length 5]) (.inr I) I (fD.gG 5 (p.aw.map Decl.bare) Decl.c I I (by simp[PV.bh,bg]) (fD.gG 6 (p.rules.map ar.bare) ar.c I I (by simp[PV.bh,bg,PV.ey,qD,show TR 6 5=jp from rfl]) (.done (.of_eq (by simp only[PV.ey,qD,TL,show TR 6 5=jp from rfl,show TR 5 5=is from rfl,show TR 6 6=is from rfl,cond_true,cond_false];show _=PV.agg [PV.iv (.bU 4 (p.aw.map Decl.bare).length fun k=>((List.map Decl.bare p.aw).getD k co).c),PV.iv (.bU 5 (p.rules.map ar.bare).length fun k=>((List.map ar.bare p.rules).getD k co).c)];rw[T2,T2]))))))
theorem sq{b:List Lit}{i:Nat}(h:i<b.length):gJ (b.take (i+1))=gJ (b.take i)++named (b.getD i co):=by
 rw[mV,mV,bc h,U8];simp
mutual
theorem ll: ∀l:Lit,(named l).length<=l.size
 | .mk k a op le ri af av ao b at_=>by
  have:=pc b;unfold named Lit.size;split
  .simp;omega
  .split
   .omega
   .simp
theorem pc: ∀l:List Lit,(gJ l).length<=Lit.an l
 | []=>Tv _
 |l::r=>by
  have d:=ll l;have j:=pc r;simp only[gJ,Lit.an,Tn];omega
end
theorem Eo(b:List Lit)(i:Nat):(gJ (b.take i)).length<=Lit.an b:=by
 have d:=pc (b.take i);have j: ∀(b:List Lit) (i:Nat),Lit.an (b.take i)<=Lit.an b:=by
  intro b
  induction b with
  |nil=>intro i;simp[Lit.an]
  |cons x r ih=>
   intro i;cases i with
   |zero=>simp[Lit.an]
   |succ i=>have:=ih i;simp only[UL,Lit.an];omega
 exact Uh d (j b i)
def Pv(n:Nat):Prop:= ∀l:Lit,l.size<=n->Pure Tryz.prog 135 [ag l.c] (.iv (strs (named l)))
theorem qq(l:Lit):named l=if l.kind=1∨l.kind=2 then[l.atom.rel] else if l.kind=4 then gJ l.ay else[]:=by cases l;rfl
theorem FH: ∀n:Nat,n<=100000000000->Pv n
 |0,_=>fun l h=>absurd l.size_pos (by omega)
 |n+1,hn=>fun l h=>by
  have D:=l.size_eq;refine Al.Pure.le (aa:=[ag l.c]) (args:=[ag l.c1]) ?_ ⟨l.wY,ac⟩;refine ai ab Tryz.func135 I (by decide) Tryz.ntmps135 I (by simp) I ?_;refine zJ I I (fun j=>?_) fun j=>?_
  .have j:l.kind=1:=by simpa using j
   rw[qq,am (.inl j)];refine gA I (eA (by first|exact .inr I|exact .inl I) I I (rfl) (rfl))
  have j: ¬l.kind=1:=by simpa using j
  refine zJ I I (fun u=>?_) fun u=>?_
  .have u:l.kind=2:=by simpa using u
   rw[qq,am (.inr u)];refine gA I (eA (by first|exact .inr I|exact .inl I) I I (rfl) (rfl))
  have u: ¬l.kind=2:=by simpa using u
  rw[qq,be (by rintro(g|g);exact j g;exact u g)];refine zE I I (fun x=>?_) fun x=>?_
  .have x: ¬l.kind=4:=by simpa using x
   rw[be x];refine gA I (zL ?_);exact .nil _ _
  have x:l.kind=4:=by simpa using x
  rw[am x];refine gA I ?_;refine jC 3 1 I ?_;refine aG 0 l.ay.length (TB _) (fun i=>⟨[(3,.sl 2 0 (gJ (l.ay.take i)).length 1),(19,.iv (lits l.ay)),(20,pI l.ay.length),(21,pI i)],[(2,dl (aX 1 (gJ (l.ay.take i)) cB))],3⟩) (fun _=>True) [1] ac
   (zW (zS trivial)) fun i F _=>?_
  have A:=Eo l.ay i;have y:=Lit.aA l.ay;refine zJ I I (fun d=>?_) fun d=>?_
  .have d:i<l.ay.length:=by simpa using d
   have B:=Lit.cf l.ay i d;have C:=ll (l.ay.getD i co);refine gA I (zp (FH n (by omega) (l.ay.getD i co) (by omega)) ?_);refine gA I ⟨d,ac,[4],zM ⟨.row (by rw[sq d,Tn]),rfl,bi (bi (bi ac))⟩ (hR I (by rw[pR,sq d,TA]) I ac)⟩
  .have d:l.ay.length<=i:=by simpa using d
   rw[TE d];refine gA I (eA (by first|exact .inr I|exact .inl I) I I (rfl) (rfl))
theorem CB(l:Lit)(h:l.size<=100000000000):Pure Tryz.prog 135 [ag l.c] (.iv (strs (named l))):=FH l.size h l (Tv _)
end Go.Proofs.YtbhphmfbligliaaGreatDoor
namespace Go.Proofs.YtbhphmfbligliaaGreatDoor
open Go Go.Al Go.Proofs.Tryz
section
theorem MG(u:dE)(el:Nat->List IV):Pure prog 173 [.iv (.bU 1 0 el)] (.aZ []):=by
 refine⟨bQ func173 I (by decide),fun M N w vs x d y=>?_⟩;obtain⟨v,rfl⟩: ∃v,vs=[v]:=by
  cases vs with
  |nil=>cases d
  |cons v r=>cases r with
   |nil=>exact⟨v,rfl⟩
   |cons a b=>simp at d
 have j:=y 0 _ I;simp only[List.getD_cons_zero]at j;obtain⟨a,a0,rfl⟩: ∃a a0,v= .slice a 0 a0:=by
  cases j with
  |iv _ _ h=>cases h with
   |fN _ _ a a0=>exact⟨a,a0,rfl⟩
   |bU _ _ _ b off a0=>exact⟨_,a0,rfl⟩
 refine(u.2 a a0 w).mono ?_;rintro e A ⟨rfl,rfl⟩;exact⟨_,M,N,.aZ [],_,_,rfl,⟨rfl,rfl,rfl⟩,.refl _ _ _ _ _,x,.aZ [] #[] I (by simp)⟩
section
variable {V:Type}
def C6(m:List ((KC.str).K×V))(vs:List Nat):List ae:=gK (m.map fun x=>(x.1,0)) vs
theorem As(m:List ((KC.str).K×V))(vs:List Nat)(j:Nat)(x:(KC.str).K×V)(h:m[j]? =dl x):C6 m (j::vs)=C6 m vs++ [x.1]:=
 kF _ _ _ (x.1,0) (by rw[Tu,h];rfl)
theorem C5(m:List ((KC.str).K×V))(vs:List Nat)(hn:vs.Nodup)(hb: ∀j∈vs,j<m.length)(d: ∀j,j<m.length->j∈vs):(C6 m vs).Perm (m.map (·.1)):=by
 have:=jT (m.map fun x=>(x.1,(0:Int))) vs hn (by simpa using hb) (by simpa using d);rw[Ve]at this;exact this
theorem C4(m:List ((KC.str).K×V))(vs:List Nat):(C6 m vs).length<=vs.length:=uK _ _
end
def Ef(i:Nat):List ae->PV
 | []=> .sl i 1 0 1
 |x::r=> .sl i 0 (x::r).length 1
def vN(n:Nat):List ae->AO
 | []=> .row 1 (VQ n [pS Tx])
 |x::r=>aX 1 (x::r) cB
theorem wI(i:Nat)(l:List ae)(s:ae):Ef i (l++ [s])= .sl i 0 (l.length+1) 1:=by cases l<;>simp[Ef]
theorem wJ(n:Nat)(l:List ae)(s:ae):vN n (l++ [s])=aX 1 (l++ [s]) cB:=by cases l<;>rfl
theorem Ae{i:Nat}{l:List ae}(h:l≠ []):Ef i l= .sl i 0 l.length 1:=by cases l with
 |nil=>exact absurd I h
 |cons=>rfl
theorem Af{n:Nat}{l:List ae}(h:l≠ []):vN n l=aX 1 l cB:=by cases l with
 |nil=>exact absurd I h
 |cons=>rfl
theorem Gc(n:Nat)(l:List ae)(k:Nat):(vN n l).low k:=by
 cases l with
 |nil=>
  intro j e d;rw[List.getElem?_replicate]at d;split at d
  .cases d;rfl
  .cases d
 |cons x r=>exact cQ k
theorem Gb(n:Nat)(l:List ae)(σ:Nat->Nat):(vN n l).bZ σ=vN n l:=by
 cases l with
 |nil=>simp only[vN,AO.bZ];rw[List.map_replicate];rfl
 |cons x r=>exact bL σ
theorem hO{h r:AH}{σ:Nat->Nat}{i n m:Nat}{o:AO}{l:List ae}(ho:h.get (σ i)=dl o)(he:o=vN m l)(hi:TU i n=is)(hr:mH n σ h r):mH n σ h ((i,dl (vN m l))::r):=
 ⟨⟨_,ho,.of_eq (by rw[Gb,he])⟩,Tk hi,Gc m l n,hr⟩
theorem qm(i:Nat)(l:List ae){n:Nat}(h:TU i n=is):(Ef i l).low n=is:=by cases l<;>exact h
theorem FD(Z:dE)(m:NM)(hm:m.length<=100000000):Pure prog 139 [.iv (wM m)] (.iv (strs (dP (m.map (·.1))))):=by
 refine ai ab func139 I (by decide) ntmps139 I (by simp) I ?_;rcases V2 m.length with h0|h0
 .have h0:=UC.1 h0;subst h0;refine gA I (GR ab 1 (fun k=>cB (([]:List ae).getD k co)) I I I I I I I I I I ?_);refine gA I ?_;refine ig ([]:List ((KC.str).K×Int)) (fun _=>⟨[(3,.iv (.bU 1 0 (fun k=>cB (([]:List ae).getD k co)))),(9,.ptr 1 0)],[(1,dl (.b5 .str yS ([]:List ((KC.str).K×Int)) [] io))],2⟩) (fun _=>True) [] ac
   (zW (hI I I (.inl I) I trivial)) fun vs _=>?_
  refine iq I ac (fB I I I I I (by decide) (fun _=>?_) fun j x B _=>?_)
  .refine gA I (aP (MG Z _) I I I I I I ?_);refine gA I (zL ?_);exact .of_eq (show _=PV.iv (strs (dP [])) by rw[nM];rfl)
  .cases B
 refine gA I (MU ab m.length 0 I I I I I I I I I h0 (by omega) (by show 16*m.length<=_;omega) I (by decide) I (.inl ⟨rfl,rfl⟩) I ?_);refine gA I ?_;refine ig m (fun vs=>⟨[(3,Ef 2 (C6 m vs)),(9,.ptr 1 0)],[(1,dl (.b5 .str yS m vs io)),(2,dl (vN m.length (C6 m vs)))],3⟩) (fun vs=>vs.Nodup∧ ∀j∈vs,j<m.length) [0] ⟨Us,by simp⟩
  (zW (hI I I (.inl I) I (hO I I I trivial))) fun vs hJ=>?_
 obtain⟨u,y⟩:=hJ;have Y:=uy u y;have D:=C4 m vs;refine iq I ac (fB I I I I I (by decide) (fun C=>?_) fun j x B G=>?_)
 .have J:=C5 m vs u y C;have F:C6 m vs≠ []:=fun e=>by
   have:=J.length_eq;rw[e,T2]at this;simp at this;omega
  rw[Ae F,Af F];refine iq I ac (aE [2] (Hw Z (C6 m vs) (by omega)) I I I I I (congrArg (fun o=> [dl o]) (bL _).symm) I I ?_);refine iq I ac (eA (.inr I) I I ((p7 _ _).trans (by rw[oS J])) ?_);rw[jI,<-J.length_eq]
 .have A:=As m vs j x B;have a0: ∀d,d=j::vs->d.Nodup∧ ∀i∈d,i<m.length:=fun d e=>e▸⟨UF.2 ⟨G,u⟩,fun i hi=>(TQ.1 hi).elim (fun h=>h▸(Tp.1 B).1) (y i)⟩
  cases hl:C6 m vs with
  |nil=>
   rw[hl,T3]at A;refine gA I (tm ab I I I I I I I I I (by simp;omega) (by simp) (fe I) I ?_);refine gA I ?_;exact⟨j,x,B,G,a0 _ I,[4],zM ⟨.of_eq (by rw[A];rfl),qm 2 _ I,.refl _,rfl,ac⟩ (hI I I (.inr I) I (hO I (by rw[A];rfl) I ac))⟩
  |cons a r=>
   rw[hl]at A D;have b0:(r.length+1)<=m.length:=by simpa using Uh D Y
   refine gA I ⟨j,x,B,G,a0 _ I,[4],zM ⟨.of_eq (by rw[A,wI];rfl),qm 2 _ I,.refl _,rfl,ac⟩ (hI I I (.inr I) I (hO I (by rw[A,wJ,aX,TA];rfl) I ac))⟩
theorem FE(Z:dE)(m:GM)(hm:m.length<=100000000):Pure prog 140 [.iv (w9 m)] (.iv (strs (dP (m.map (·.1))))):=by
 refine ai ab func140 I (by decide) ntmps140 I (by simp) I ?_;rcases V2 m.length with h0|h0
 .have h0:=UC.1 h0;subst h0;refine gA I (GR ab 1 (fun k=>cB (([]:List ae).getD k co)) I I I I I I I I I I ?_);refine gA I ?_;refine ig ([]:List ((KC.str).K×Option NM)) (fun _=>⟨[(3,.iv (.bU 1 0 (fun k=>cB (([]:List ae).getD k co)))),(9,.ptr 1 0)],[(1,dl (.b5 .str Eg ([]:List ((KC.str).K×Option NM)) [] io))],2⟩) (fun _=>True) [] ac
   (zW (hI I I (.inl I) I trivial)) fun vs _=>?_
  refine iq I ac (fB I I I I I (by decide) (fun _=>?_) fun j x B _=>?_)
  .refine gA I (aP (MG Z _) I I I I I I ?_);refine gA I (zL ?_);exact .of_eq (show _=PV.iv (strs (dP [])) by rw[nM];rfl)
  .cases B
 refine gA I (MU ab m.length 0 I I I I I I I I I h0 (by omega) (by show 16*m.length<=_;omega) I (by decide) I (.inl ⟨rfl,rfl⟩) I ?_);refine gA I ?_;refine ig m (fun vs=>⟨[(3,Ef 2 (C6 m vs)),(9,.ptr 1 0)],[(1,dl (.b5 .str Eg m vs io)),(2,dl (vN m.length (C6 m vs)))],3⟩) (fun vs=>vs.Nodup∧ ∀j∈vs,j<m.length) [0] ⟨Us,by simp⟩
  (zW (hI I I (.inl I) I (hO I I I trivial))) fun vs hJ=>?_
 obtain⟨u,y⟩:=hJ;have Y:=uy u y;have D:=C4 m vs;refine iq I ac (fB I I I I I (by decide) (fun C=>?_) fun j x B G=>?_)
 .have J:=C5 m vs u y C;have F:C6 m vs≠ []:=fun e=>by
   have:=J.length_eq;rw[e,T2]at this;simp at this;omega
  rw[Ae F,Af F];refine iq I ac (aE [2] (Hw Z (C6 m vs) (by omega)) I I I I I (congrArg (fun o=> [dl o]) (bL _).symm) I I ?_);refine iq I ac (eA (.inr I) I I ((p7 _ _).trans (by rw[oS J])) ?_);rw[jI,<-J.length_eq]
 .have A:=As m vs j x B;have a0: ∀d,d=j::vs->d.Nodup∧ ∀i∈d,i<m.length:=fun d e=>e▸⟨UF.2 ⟨G,u⟩,fun i hi=>(TQ.1 hi).elim (fun h=>h▸(Tp.1 B).1) (y i)⟩
  cases hl:C6 m vs with
  |nil=>
   rw[hl,T3]at A;refine gA I (tm ab I I I I I I I I I (by simp;omega) (by simp) (fe I) I ?_);refine gA I ?_;exact⟨j,x,B,G,a0 _ I,[4],zM ⟨.of_eq (by rw[A];rfl),qm 2 _ I,.refl _,rfl,ac⟩ (hI I I (.inr I) I (hO I (by rw[A];rfl) I ac))⟩
  |cons a r=>
   rw[hl]at A D;have b0:(r.length+1)<=m.length:=by simpa using Uh D Y
   refine gA I ⟨j,x,B,G,a0 _ I,[4],zM ⟨.of_eq (by rw[A,wI];rfl),qm 2 _ I,.refl _,rfl,ac⟩ (hI I I (.inr I) I (hO I (by rw[A,wJ,aX,TA];rfl) I ac))⟩
end
end Go.Proofs.YtbhphmfbligliaaGreatDoor
namespace Go.Proofs.YtbhphmfbligliaaGreatDoor
open Go Go.Al
def Sq(b:Option Nat):IV:= .v (.map b)
def dvR(p:PV):Option Nat:=match p with
 | .iv (.v (.map b))=>b
 |_=>io
abbrev RM:=List ((KC.str).K×Option Nat)
abbrev gO(m:RM):AO:= .map .str Sq io (.map io) dvR m
abbrev yT:=Nat×Nat
def jQ(l:List Decl)(B:List yT):RM:=WE (fun d b=>(d.name,dl b.1)) l B
def dW(L:List (Nat×Nat×NM)):bG:=fun b=>(L.find? fun y=>y.1==b).map fun y=> .obj (cO y.2.2) y.2.1
theorem gY(L:List (Nat×Nat×NM)):(dW L).still:=by
 intro b i e h;unfold dW at h;cases hf:L.find? fun y=>y.1==b<;>rw[hf]at h<;>cases h
def rowsOf(l:List Decl)(B:List yT)(hs:List (ae×ae×Nat)):List (Nat×Nat×NM):=WE (fun d b=>(b.1,b.2,jx hs d.name)) l B
theorem Er{V:Type}{kc:KC}{ev:V->IV}{z:V}{d:Value}{u:PV->V}(y: ∀M,IR M (ev z) d):dK .fx (.map kc ev z d u []):=
 ⟨id,fun M N U w j x=>⟨#[],0,x,⟨rfl,by simp,by simp,by simp,by simp⟩,y M⟩⟩
structure BOK (l:List Decl) (i:Nat) (B:List yT):Prop where
 len:B.length=i
 nd:(B.map Ur).Nodup
theorem zB(l:List Decl):jQ l []=[]:=by cases l<;>rfl
theorem ud(l:List Decl)(hs:List (ae×ae×Nat)):rowsOf l [] hs=[]:=by cases l<;>rfl
theorem Bg(l:List Decl)(hs:List (ae×ae×Nat)):dW (rowsOf l [] hs)=bG.nil:=by rw[ud];rfl
theorem tx{α β γ:Type}[Inhabited α](f:α->β->γ): ∀(l:List α) (B:List β) (x:β),B.length<l.length->WE f l (B++ [x])=WE f l B++ [f (l.getD B.length co) x]
 |a::l,[],x,_=>by simp
 |a::l,b::B,x,h=>by
  have:=tx f l B x (by simpa using h);simp[this]
 | [],B,x,h=>absurd h (Vs _)
theorem Ki{B:List yT}{b e:Nat}(h:(B.map Ur).Nodup)(hb:b∉B.map Ur):((B++ [(b,e)]).map Ur).Nodup:=by
 rw[TA,Va];exact⟨h,by simp,fun u hu v d g=>hb (by simp at d;subst g;subst d;exact hu)⟩
theorem mN(hs:List (ae×ae×Nat)): ∀(l:List Decl) (B:List yT),B.length<=l.length->(rowsOf l B hs).map Ur=B.map Ur
 |_,[],_=>by simp[ud]
 |d::l,b::B,h=>by
  have:=mN hs l B (by simpa using h);simp only[rowsOf,WG,TD]at this ⊢;rw[this]
 | [],b::B,h=>absurd h (by simp)
theorem DX{l:List Decl}{B:List yT}{hs:List (ae×ae×Nat)}{b:Nat}(d:B.length<=l.length)(h:dW (rowsOf l B hs) b=io):b∉B.map Ur:=by
 rw[<-mN hs l B d];intro j;obtain⟨y,u,rfl⟩:=UG.1 j;unfold dW at h;rw[V5,VM]at h;exact h y u (by simp)
theorem zk(L:List (Nat×Nat×NM))(y:Nat×Nat×NM)(h:y.1∉L.map Ur):dW (L++ [y])=(dW L).put y.1 (.obj (cO y.2.2) y.2.1):=by
 funext c
 unfold dW bG.put;rw[List.find?_append];by_cases d:c=y.1
 .subst d;rw[am I];have:L.find? (fun z=>z.1==y.1)=io:=VM.2 fun z j=>by
   simp only[beq_iff_eq];exact fun e=>h (e▸Wl j)
  rw[this];simp
 .rw[be d];have: ¬y.1=c:=fun e=>d e.symm;cases hf:L.find? (fun z=>z.1==c)<;>simp[this,hf]
theorem DW{l:List Decl}{B:List yT}{b e:Nat}(d:B.length<l.length)(hb:b∉B.map Ur):dW (rowsOf l (B++ [(b,e)]) [])=(dW (rowsOf l B [])).put b (.obj (cO []) e):=by
 have h:rowsOf l (B++ [(b,e)]) []=rowsOf l B []++ [(b,e,[])]:=tx _ l B (b,e) d;rw[h];exact zk _ _ (by rw[mN _ _ _ (Nat.le_of_lt d)];exact hb)
theorem zA: ∀(l:List Decl) (B:List yT),B.length<=l.length->(jQ l B).map Ur=(l.take B.length).map Decl.name
 |_,[],_=>by simp[zB]
 |d::l,b::B,h=>by
  have:=zA l B (by simpa using h);simp only[jQ,WG,TD,TO,UL]at this ⊢;rw[this]
 | [],b::B,h=>absurd h (by simp)
theorem J8{V:Type}{m:List ((KC.str).K×V)}{s:ae}{v:V}(h:s∉m.map Ur):cJ .str m s v=m++ [(s,v)]:=by
 induction m with
 |nil=>rfl
 |cons x r ih=>
  obtain⟨a,c⟩:=x;simp only[TD,TQ,not_or]at h;have: ¬a=s:=fun e=>h.1 e.symm;simp only[cJ,be this,ih h.2];rfl
theorem F5{l:List Decl}{B:List yT}{i b e:Nat}(hn:(l.map Decl.name).Nodup)(hi:B.length=i)(d:i<l.length):cJ .str (jQ l B) (l.getD i co).name (dl b)=jQ l (B++ [(b,e)]):=by
 subst hi;have h:jQ l (B++ [(b,e)])=jQ l B++ [((l.getD B.length co).name,dl b)]:=tx _ l B (b,e) d;rw[h];apply J8;rw[zA l B (Nat.le_of_lt d)];intro u;have j:l.map Decl.name=(l.take B.length).map Decl.name++(l.drop B.length).map Decl.name:=by rw[<-TA,Um]
 rw[j,Va]at hn;refine hn.2.2 _ u _ (UG.2 ⟨l.getD B.length co,?_,rfl⟩) I;rw[Tr,Ts d];exact List.mem_drop_iff_getElem.2 ⟨0,by simpa using d,by simp⟩
def qy(r:ar)(l:Lit):List (ae×ae×Nat):=(named l).map fun t=>(r.head.rel,t,l9 l)
def Dd(r:ar):List (ae×ae×Nat):=r.body.flatMap (qy r)
theorem Dk: ∀{L:List (Nat×Nat×NM)} {j:Nat} {y:Nat×Nat×NM},(L.map Ur).Nodup->L[j]? =dl y->L.find? (fun z=>z.1==y.1)=dl y
 | [],_,_,_,h=>by simp at h
 |x::L,0,y,_,h=>by
  simp only[List.getElem?_cons_zero,Tm]at h;subst h;simp
 |x::L,j+1,y,hn,h=>by
  rw[VH]at h;rw[TD,UF]at hn;have d: ¬x.1=y.1:=fun e=>hn.1 (e▸Wl (Uv h));rw[List.find?_cons_of_neg (by simpa using d)];exact Dk hn.2 h
theorem pZ{l:List Decl}{B:List yT}{hs:List (ae×ae×Nat)}{j:Nat}{d:Decl}{b:yT}(x:B.length=l.length)(hn:(B.map Ur).Nodup)(hd:l[j]? =dl d)(hb:B[j]? =dl b):dW (rowsOf l B hs) b.1=dl (.obj (cO (jx hs d.name)) b.2):=by
 have h:(rowsOf l B hs)[j]? =dl (b.1,b.2,jx hs d.name):=by
  unfold rowsOf;rw[WL,hd,hb]
 have u:=Dk (by rw[mN hs l B (W5 x)];exact hn) h;unfold dW;rw[u];rfl
theorem zj{l:List Decl}{B:List yT}{hs:List (ae×ae×Nat)}{c:Nat}(d:B.length<=l.length)(h:c∉B.map Ur):dW (rowsOf l B hs) c=io:=by
 rw[<-mN hs l B d]at h;unfold dW;rw[V5,VM];intro y j;simp only[beq_iff_eq];exact fun e=>h (e▸Wl j)
theorem DV{l:List Decl}{B:List yT}{hs:List (ae×ae×Nat)}{j h:Nat}{d:Decl}{b:yT}{t:ae}(x:B.length=l.length)(hn:(B.map Ur).Nodup)(Y:(l.map Decl.name).Nodup)(hd:l[j]? =dl d)(hb:B[j]? =dl b):
  (dW (rowsOf l B hs)).put b.1 (.obj (cO (ET (jx hs d.name) t h)) b.2)=dW (rowsOf l B (hs++ [(d.name,t,h)])):=by
 funext c
 unfold bG.put;by_cases A:c=b.1
 .subst A;rw[am I,pZ x hn hd hb,nQ,am I]
 .rw[be A];by_cases J:c∈B.map Ur
  .obtain⟨b',y,rfl⟩:=UG.1 J;obtain⟨i,C,rfl⟩:=Vi.1 y;have u:i<l.length:=by omega
   have D:i≠j:=fun e=>A (by subst e;rw[Ts C]at hb;cases hb;rfl);rw[pZ x hn (Ts u) (Ts C),pZ x hn (Ts u) (Ts C),nQ,be];intro e;have Z:=(Tp.1 hd)
   obtain⟨F,G⟩:=Z;apply D;refine(List.getElem_inj Y (h₀:=by simpa using u) (h₁:=by simpa using F)).1 ?_;rw[We,We,G];exact e.symm
  .rw[zj (W5 x) J,zj (W5 x) J]
theorem OF{l:List Decl}{B:List yT}{a:ae}(x:B.length=l.length)(u:(l.map Decl.name).Nodup)(ha:a∈l.map Decl.name): ∃(j:Nat) (d:Decl) (b:yT),l[j]? =dl d∧B[j]? =dl b∧d.name=a∧cK .str (jQ l B) a io=dl b.1:=by
 induction l generalizing B with
 |nil=>cases ha
 |cons d l ih=>
  cases B with
  |nil=>cases x
  |cons b B=>
   by_cases h:d.name=a
   .exact⟨0,d,b,rfl,rfl,h,by simp[jQ,cK,h]⟩
   .rw[TD,UF]at u;rw[TD,TQ]at ha;obtain⟨j,A,y,C,D,F,G⟩:=ih (by simpa using x) u.2 (ha.resolve_left fun e=>h e.symm);exact⟨j+1,A,y,C,D,F,by simpa[jQ,cK,h]using G⟩
def dvG(_:PV):Option NM:=io
theorem E7{p:Prog}{B:List yT}(x:B.length=p.aw.length)(hn:(B.map Ur).Nodup){hs:List (ae×ae×Nat)}:M7 (dW (rowsOf p.aw B hs)) (gO (jQ p.aw B)) (.map .str Eg io (.map io) dvG (cv p hs)):=by
 refine .map _ _ _ _ _ _ _ _ _ _ (by simp[cv,jQ,x]) (fun j D y=>?_) fun M=> .v _
 obtain⟨d,hd,rfl⟩: ∃d,p.aw[j]? =dl d∧D=(d.name,dl (jx hs d.name)):=by
  unfold cv at y;rw[Tu,Tw]at y;obtain⟨d,A,C⟩:=y;exact⟨d,A,C.symm⟩
 have u:j<B.length:=by rw[x];exact(Tp.1 hd).1
 refine⟨(d.name,dl B[j].1),.map (dl B[j].1),?_,rfl,rfl,?_⟩
 .unfold jQ;rw[WL,hd,Ts u]
 .refine .map B[j].1 B[j].2 .str yS 0 (.int .i64 0) SF (jx hs d.name) ?_;exact pZ x hn hd (Ts u)
theorem MJ(hS:dE)(p:Prog)(hb:p.fit):Pure Tryz.prog 93 [ag p.c] (.aZ [.iv (uS p),pB (kw ((ef p).1=0))]):=by
 refine ai ab Tryz.func93 I (by decide) Tryz.ntmps93 I (by simp) I ?_;refine gA I (zp (c24 p hb) ?_);refine zJ I I (fun J=>?_) fun J=>?_
 .have J: ¬(ef p).1=0:=by simpa using J
  rw[uS,be J,decide_eq_false J];exact zU I
 have J:(ef p).1=0:=by simpa using J
 have hf:=yF J;have v0:=hf.len;rw[uS,am J,decide_eq_true J];refine gM 1 I ?_;refine Ry ?_;refine dc (jW ?_);refine gA I ?_;refine dc (dc (uP ⟨[(1,.ptr 0 0),(4,.mp 2),(20,.iv (bp 4 p.aw Decl.c)),(21,pI p.aw.length),(22,pI 0)],[(0,dl (az p.c)),(2,dl (gO []))],3⟩ ?_ ?_))
 .refine gA I (w5 [1] ?_);exact zW (zK (O4 I (fun _=> .v _) I ac))
 refine jb (yy 0 p.aw.length (TB _) (fun i (x:ULift.{1} (List yT))=>⟨[(1,.ptr 0 0),(4,.mp 2),(20,.iv (bp 4 p.aw Decl.c)),(21,pI p.aw.length),(22,pI i)],[(0,dl (az p.c)),(2,dl (gO (jQ p.aw x.down)))],3⟩)
  (fun i x Y=>BOK p.aw i x.down∧Y=dW (rowsOf p.aw x.down [])) ⟨[]⟩ [] ⟨⟨rfl,Us⟩,(Bg p.aw []).symm⟩
  (zW (zK (hM I (zB p.aw).symm I ac))) (fun _ _ _ h=>h.2▸gY _) fun i x Y hi hJ=>?_)
 obtain⟨hB,rfl⟩:=hJ;obtain⟨B⟩:=x;refine dc (jW ?_);refine gA I ?_;refine dc (ti I (fun u=>te ?_) (fun u=>th ?_))
 .have u:i<p.aw.length:=by simpa using u
  refine dc (jb (dc (jW ?_)));refine gA I ?_;refine w4 (tg 4 ?_);refine gA I ?_;refine yx (NZ (i:=4) (o':=cO []) I (Er eJ)) fun t Y D=>?_;obtain⟨rfl,rfl⟩:=D;refine yx (DP (i:=4) (d:=29) (gY _) I I ac I) fun t Y D=>?_;obtain⟨b,e,o0,rfl,rfl⟩:=D;refine tg 1 ?_;refine gA I ?_;refine uO (GJ (jW ?_));refine gA I ?_;have a0:=DX (by rw[hB.len];exact hi) o0;exact⟨u,⟨B++ [(b,e)]⟩,[],⟨⟨by rw[Tn,hB.len];rfl,Ki hB.nd a0⟩,(DW (by rw[hB.len];exact u) a0).symm⟩,zW (zK (hM I (F5 hf.nodup hB.len u) I ac))⟩
 have u:p.aw.length<=i:=by simpa using u
 have Z:B.length=p.aw.length:=by have:B.length=i:=hB.len;omega
 have d0:=hB.nd;clear hB;have x0:p.rules.length<=1000000000:=hb.2.1
 let G:Nat->List (ae×ae×Nat):=fun r=>(p.rules.take r).flatMap Dd
 change GX _ _ [.code _] _ _ _;refine dc (dc (uP ⟨[(1,.ptr 0 0),(4,.mp 2),(32,.iv (bp 5 p.rules ar.c)),(33,pI p.rules.length),(34,pI 0)],[(0,dl (az p.c)),(2,dl (gO (jQ p.aw B)))],3⟩ ?_ ?_))
 .refine gA I (w5 [] ?_);exact zW (zK (zC ac))
 refine jb (yy 0 p.rules.length (TB _) (fun i (_:PUnit.{2})=>⟨[(1,.ptr 0 0),(4,.mp 2),(32,.iv (bp 5 p.rules ar.c)),(33,pI p.rules.length),(34,pI i)],[(0,dl (az p.c)),(2,dl (gO (jQ p.aw B)))],3⟩)
  (fun i _ Y=>Y=dW (rowsOf p.aw B (G i))) ⟨⟩ [] I (zW (zK (zC ac))) (fun _ _ _ h=>h▸gY _) fun n _ Y hn hJ=>?_)
 subst hJ;refine dc (jW ?_);refine gA I ?_;refine dc (ti I (fun u=>te ?_) (fun u=>th ?_));rotate_left
 .have u:p.rules.length<=n:=by simpa using u
  have l0:G n=c4 p:=by show((p.rules.take n).flatMap Dd)=_;rw[TE u];rfl
  rw[l0];change GX _ _ [.code _] _ _ _;refine MT (N4 (i:=2) (o':= .map .str Eg io (.map io) dvG (cv p (c4 p))) I (E7 Z d0)) fun t Y D=>?_;obtain⟨rfl,rfl⟩:=D;refine jW ?_;refine gA I (iP (.inr I) I (fD.map 2 I (.done (.refl _))))
 have u:n<p.rules.length:=by simpa using u
 have hR:p.rules.getD n co∈p.rules:=lB u;have g0:G (n+1)=G n++Dd (p.rules.getD n co):=by show((p.rules.take (n+1)).flatMap Dd)=_;rw[bc u,U8];simp;rfl
 have b0:=hb.2.2 _ hR;have C:=b0.1;have y:=hf.Db _ hR;have A:=hf.lits _ hR;generalize m0:p.rules.getD n co=R at hR g0 b0 C y A;refine dc (jb (dc (jW ?_)));refine gA I ?_;refine dc (uP ⟨[(1,.ptr 0 0),(4,.mp 2),(8,.ptr 3 0),(32,.iv (bp 5 p.rules ar.c)),(33,pI p.rules.length),(34,pI n),(39,.iv (lits R.body)),(40,pI R.body.length),(41,pI 0)],[(0,dl (az p.c)),(2,dl (gO (jQ p.aw B))),(3,dl (az R.c))],4⟩ ?_ ?_)
 .refine gA I (w5 [] ?_);subst m0;exact zW (zK (zC (zK ac)))
 have s0:R.body.length<=10000000:=by have:=Lit.aA R.body;unfold ar.size at C;omega
 refine jb (yy 0 R.body.length (TB _) (fun i (_:PUnit.{2})=>⟨[(1,.ptr 0 0),(4,.mp 2),(8,.ptr 3 0),(32,.iv (bp 5 p.rules ar.c)),(33,pI p.rules.length),(34,pI n),(39,.iv (lits R.body)),(40,pI R.body.length),(41,pI i)],[(0,dl (az p.c)),(2,dl (gO (jQ p.aw B))),(3,dl (az R.c))],4⟩)
  (fun i _ Y=>Y=dW (rowsOf p.aw B (G n++(R.body.take i).flatMap (qy R)))) ⟨⟩ [] (by simp) (zW (zK (zC (zK ac)))) (fun _ _ _ h=>h▸gY _) fun i _ Y t0 hJ=>?_)
 subst hJ;refine dc (jW ?_);refine gA I ?_;refine dc (ti I (fun F=>te ?_) (fun F=>th ?_));rotate_left
 .have F:R.body.length<=i:=by simpa using F
  rw[TE F,show G n++R.body.flatMap (qy R)=G (n+1) from g0.symm];change GX _ _ (.code _::_) _ _ _;refine jW ?_;refine gA I ⟨u,⟨⟩,[],rfl,zW (zK (zC ac))⟩
 have F:i<R.body.length:=by simpa using F
 have hl:R.body.getD i co∈R.body:=lB F;have i0:(R.body.take (i+1)).flatMap (qy R)=(R.body.take i).flatMap (qy R)++qy R (R.body.getD i co):=by rw[bc F,U8];simp
 have f0:(R.body.getD i co).size<=10000000:=by have:=Lit.cf R.body i F;unfold ar.size at C;omega
 have e0:=A _ hl;generalize q0:R.body.getD i co=l at hl i0 f0 e0;refine dc (jb (dc (jW ?_)));refine gA I ?_;refine dc (uP ⟨[(1,.ptr 0 0),(4,.mp 2),(8,.ptr 3 0),(10,.ptr 4 0),(32,.iv (bp 5 p.rules ar.c)),(33,pI p.rules.length),(34,pI n),(39,.iv (lits R.body)),(40,pI R.body.length),(41,pI i),(46,.iv (strs (named l))),(47,pI (named l).length),(48,pI 0)],[(0,dl (az p.c)),(2,dl (gO (jQ p.aw B))),(3,dl (az R.c)),(4,dl (az l.c))],5⟩ ?_ ?_)
 .subst q0;refine gA I (zp (CB (R.body.getD i co) (by omega)) ?_);refine gA I (w5 [] ?_);exact zW (zK (zC (zK (zK ac))))
 have w0:=ll l
 refine jb (yy 0 (named l).length (TB _) (fun k (_:PUnit.{2})=>⟨[(1,.ptr 0 0),(4,.mp 2),(8,.ptr 3 0),(10,.ptr 4 0),(32,.iv (bp 5 p.rules ar.c)),(33,pI p.rules.length),(34,pI n),(39,.iv (lits R.body)),(40,pI R.body.length),(41,pI i),(46,.iv (strs (named l))),(47,pI (named l).length),(48,pI k)],[(0,dl (az p.c)),(2,dl (gO (jQ p.aw B))),(3,dl (az R.c)),(4,dl (az l.c))],5⟩)
  (fun k _ Y=>Y=dW (rowsOf p.aw B ((G n++(R.body.take i).flatMap (qy R))++((named l).take k).map fun t=>(R.head.rel,t,l9 l)))) ⟨⟩ [] (by simp) (zW (zK (zC (zK (zK ac))))) (fun _ _ _ h=>h▸gY _) fun k _ Y hk hJ=>?_)
 subst hJ;refine dc (jW ?_);refine gA I ?_;refine dc (ti I (fun h3=>te ?_) (fun h3=>th ?_));rotate_left
 .have h3:(named l).length<=k:=by simpa using h3
  have eX:(G n++(R.body.take i).flatMap (qy R))++(named l).map (fun t=>(R.head.rel,t,l9 l))=G n++(R.body.take (i+1)).flatMap (qy R):=by rw[Tz,i0];rfl
  rw[TE h3,eX];change GX _ _ (.code _::_) _ _ _;refine jW ?_;refine gA I ⟨F,⟨⟩,[],rfl,zW (zK (zC (zK ac)))⟩
 have h3:k<(named l).length:=by simpa using h3
 obtain⟨j,d,b,hd,j0,p0,k0⟩:=OF Z hf.nodup y;have hX:=pZ (hs:=(G n++(R.body.take i).flatMap (qy R))++((named l).take k).map fun t=>(R.head.rel,t,l9 l)) Z d0 hd j0;have c0:=DV (hs:=(G n++(R.body.take i).flatMap (qy R))++((named l).take k).map fun t=>(R.head.rel,t,l9 l)) (t:=(named l).getD k co) (h:=l9 l) Z d0 hf.nodup hd j0;rw[p0]at hX c0;have r0:((G n++(R.body.take i).flatMap (qy R))++((named l).take k).map fun t=>(R.head.rel,t,l9 l))++ [(R.head.rel,(named l).getD k co,l9 l)]=(G n++(R.body.take i).flatMap (qy R))++((named l).take (k+1)).map fun t=>(R.head.rel,t,l9 l):=by
  rw[bc h3,TA,Tz];rfl
 rw[r0]at c0;generalize(G n++(R.body.take i).flatMap (qy R))++((named l).take k).map (fun t=>(R.head.rel,t,l9 l))=hs at hX c0;refine dc (jb (dc (jW ?_)));refine gA I ?_;refine dc (jW ?_);refine gA I ?_;refine dc (uP ⟨[(1,.ptr 0 0),(4,.mp 2),(8,.ptr 3 0),(10,.ptr 4 0),(32,.iv (bp 5 p.rules ar.c)),(33,pI p.rules.length),(34,pI n),(39,.iv (lits R.body)),(40,pI R.body.length),(41,pI i),(46,.iv (strs (named l))),(47,pI (named l).length),(48,pI k),(12,pS ((named l).getD k co)),(13,pI (l9 l))],[(0,dl (az p.c)),(2,dl (gO (jQ p.aw B))),(3,dl (az R.c)),(4,dl (az l.c))],5⟩ ?_ ?_)
 .refine zJ I I (fun h4=>?_) fun h4=>?_
  .have h4:l.kind=1:=zT h4;refine gA I (w5 [] ?_);exact zM (bi (bi (bi (bi (bi (bi (bi (bi (bi (bi (bi (bi (bi (bi ⟨.of_eq (by rw[l9,am h4];rfl),rfl,ac⟩)))))))))))))) (zK (zC (zK (zK ac))))
  .have h4: ¬l.kind=1:=zF h4;refine gA I (w5 [] ?_);exact zM (bi (bi (bi (bi (bi (bi (bi (bi (bi (bi (bi (bi (bi (bi ⟨.of_eq (by rw[l9,be h4];rfl),rfl,ac⟩)))))))))))))) (zK (zC (zK (zK ac))))
 refine w4 (tg 12 ?_);refine gA I ?_;refine yx (DO (d:=65) hX (show PV.iv (.v (.map (cK .str (jQ p.aw B) R.head.rel io)))=_ by rw[k0])) fun t Y D=>?_;obtain⟨rfl,rfl⟩:=D;refine yx (Fs (b:=b.1) (j:=5) (e:=b.2) (d:=59) (p:= .mp 5) (bG.fJ _ _ _) fun M N U x hu n0 _ hv=>?_) fun t Y D=>?_
 .have hv:VR M N U (PV.iv (.v (.map (cK .str (jQ p.aw B) R.head.rel io)))) x:=hv;rw[k0]at hv;cases hv with
  |iv _ _ hi=>cases hi with
   |v=>rw[<-n0];exact .mp 5 hu
 obtain⟨rfl,rfl⟩:=D;refine tg 4 ?_;refine gA I ?_;refine uO (GJ (MT (Qo (b:=b.1) (e:=b.2) (i:=5) (o:=cO (ET (jx hs R.head.rel) ((named l).getD k co) (l9 l))) (bG.fJ _ _ _) I I ac) fun t Y D=>?_));obtain⟨rfl,rfl⟩:=D;rw[bG.J7];refine jW ?_;refine gA I ⟨h3,⟨⟩,[],c0,zW (zK (zC (zK (zK ac))))⟩
end Go.Proofs.YtbhphmfbligliaaGreatDoor
namespace Go.Proofs.YtbhphmfbligliaaGreatDoor
open Go Go.Al Go.Proofs.Tryz Go.Tj
def oP(e:Option ae)(i:Nat)(l:List ae):PV:=match e,l with
 |some _,[]=> .sl i 1 0 1
 |_,l=> .sl i 0 l.length 1
def oQ(e:Option ae)(l:List ae):AO:=match e,l with
 |some y,[]=> .row 1 [[pS y]]
 |_,l=>aX 1 l cB
theorem kZ(σ:Nat->Nat)(e:Option ae)(i:Nat)(l:List ae):(oP e i l).bZ σ=oP e (σ i) l:=by cases e<;>cases l<;>rfl
theorem k9(σ:Nat->Nat)(e:Option ae)(l:List ae):(oQ e l).bZ σ=oQ e l:=by
 cases e<;>cases l<;>first|rfl|exact bL σ
theorem zb{n i:Nat}(h:TU i n=is)(e:Option ae)(l:List ae):(oP e i l).low n=is:=by cases e<;>cases l<;>exact h
theorem zf(n:Nat)(e:Option ae)(l:List ae):(oQ e l).low n:=by
 cases e with
 |none=>exact cQ n
 |some y=>
  cases l with
  |nil=>
   intro k e d;cases k with
   |zero=>cases d;rfl
   |succ k=>cases d
  |cons=>exact cQ n
theorem za{e:Option ae}{i:Nat}{l:List ae}(h:e=io∨l≠ []):oP e i l= .sl i 0 l.length 1:=by
 cases e with
 |none=>rfl
 |some y=>cases l with
  |nil=>exact absurd I (h.resolve_left (by simp))
  |cons=>rfl
theorem zc{e:Option ae}{l:List ae}(h:e=io∨l≠ []):oQ e l=aX 1 l cB:=by
 cases e with
 |none=>rfl
 |some y=>cases l with
  |nil=>exact absurd I (h.resolve_left (by simp))
  |cons=>rfl
structure TW where
 low:NM
 on:NM
 ring:NM
 stack:List ae
 sW:Option ae
def TW.st(w:TW):St ae:=⟨fun a=>cK .str w.low a 0,fun a=>cK .str w.on a 0,fun a=>cK .str w.ring a 0,w.low.length,w.stack⟩
structure TW.Ok (V:List ae) (w:TW):Prop where
 nz: ∀a∈w.low.map Ur,cK .str w.low a 0≠0
 nd:(w.low.map Ur).Nodup
 sub: ∀a∈w.low.map Ur,a∈V
abbrev yY:PV:= .cN (.func 138) [] [.ptr 0 0,.ptr 1 0,.ptr 2 0,.ptr 3 0,.ptr 4 0,.ptr 5 0]
abbrev tO(G:IV)(w:TW):List AO:=[.cells [.mp 6],.cells [.mp 7],.cells [oP w.sW 9 w.stack],.cells [.iv G],.cells [yY],.cells [.mp 8],cO w.low,cO w.on,cO w.ring,oQ w.sW w.stack]
abbrev tH(G:IV)(w:TW)(k:Nat):AH:=[(0,dl (.cells [.mp 6])),(1,dl (.cells [.mp 7])),(2,dl (.cells [oP w.sW k w.stack])),(3,dl (.cells [.iv G])),(4,dl (.cells [yY])),(5,dl (.cells [.mp 8])),
 (6,dl (cO w.low)),(7,dl (cO w.on)),(8,dl (cO w.ring)),(k,dl (oQ w.sW w.stack))]
theorem tD{n k:Nat}{σ:Nat->Nat}{h:AH}{G:IV}{w:TW}{B:PV}{x y A:NM}{o:AO}(b:Vm 9 n=is)(bk:TU k n=is)(hs: ∀i,i<9->σ i=i)
  (g0:h.get 0=dl (.cells [.mp 6])) (g1:h.get 1=dl (.cells [.mp 7])) (g2:h.get 2=dl (.cells [B])) (g3:h.get 3=dl (.cells [.iv G])) (g4:h.get 4=dl (.cells [yY])) (g5:h.get 5=dl (.cells [.mp 8]))
  (g6:h.get 6=dl (cO x)) (g7:h.get 7=dl (cO y)) (g8:h.get 8=dl (cO A)) (g9:h.get (σ k)=dl o)
  (C:B=oP w.sW (σ k) w.stack) (D:x=w.low) (F:y=w.on) (J:A=w.ring) (Y:dK o (oQ w.sW w.stack)):mH n σ h (tH G w k):=by
 have Z:=Tk b;have bk:=Tk bk;have hb: ∀i,i<9->TU i n=is:=fun i d=>Uu (by omega);subst C D F J;have r: ∀i,i<9->PV.mp (σ i)=PV.mp i:=fun i d=>by rw[hs i d]
 have j: ∀i,i<9->PV.ptr (σ i) 0=PV.ptr i 0:=fun i d=>by rw[hs i d]
 have u: ∀i,i<9->bD n [PV.mp i]=is:=fun i d=>by simp only[bD,PV.low,hb i d]
 refine⟨⟨_,by rw[hs 0 (by omega)];exact g0,.of_eq (by simp only[AO.bZ,db,PV.bZ,r 6 (by omega)])⟩,by omega,u 6 (by omega),
  ⟨_,by rw[hs 1 (by omega)];exact g1,.of_eq (by simp only[AO.bZ,db,PV.bZ,r 7 (by omega)])⟩,by omega,u 7 (by omega),
  ⟨_,by rw[hs 2 (by omega)];exact g2,.of_eq (by simp only[AO.bZ,db,kZ])⟩,by omega,by simp only[AO.low,bD,zb (Uu bk)],
  ⟨_,by rw[hs 3 (by omega)];exact g3,.of_eq I⟩,by omega,rfl,
  ⟨_,by rw[hs 4 (by omega)];exact g4,.of_eq (by simp only[AO.bZ,db,PV.bZ,j 0 (by omega),j 1 (by omega),j 2 (by omega),j 3 (by omega),j 4 (by omega),j 5 (by omega)])⟩,by omega,by simp only[AO.low,bD,PV.low,hb 0 (by omega),hb 1 (by omega),hb 2 (by omega),hb 3 (by omega),hb 4 (by omega),hb 5 (by omega)],
  ⟨_,by rw[hs 5 (by omega)];exact g5,.of_eq (by simp only[AO.bZ,db,PV.bZ,r 8 (by omega)])⟩,by omega,u 8 (by omega),
  ⟨_,by rw[hs 6 (by omega)];exact g6,.of_eq I⟩,by omega,ac,
  ⟨_,by rw[hs 7 (by omega)];exact g7,.of_eq I⟩,by omega,ac,
  ⟨_,by rw[hs 8 (by omega)];exact g8,.of_eq I⟩,by omega,ac,
  ⟨_,g9,by rw[k9];exact Y⟩,bk,zf _ _ _,ac⟩
theorem xQ(m:NM)(b:ae)(v:Int):(fun x=>cK .str (cJ .str m b v) x 0)=xI (fun x=>cK .str m x 0) b v:=by
 funext x
 rw[eI,xI];by_cases h:b=x
 .rw[am h,am h.symm]
 .rw[be h,be fun e=>h e.symm]
def TW.push(w:TW)(a:ae):TW:=⟨cJ .str w.low a ((w.low.length:Int)+1),cJ .str w.on a 1,w.ring,w.stack++ [a],io⟩
theorem TW.key{V:List ae}{w:TW}(h:w.Ok V){a:ae}(h0:w.st.low a=0):a∉w.low.map Ur:=fun g=>h.nz a g h0
theorem sa{m:NM}{a:ae}{v:Int}(h:a∉m.map Ur):(cJ .str m a v).length=m.length+1:=by
 have:=congrArg Vp (cV (v:=v) h);simpa using this
theorem TW.J9{V:List ae}{w:TW}(h:w.Ok V){a:ae}(h0:w.st.low a=0):(w.push a).st=Go.Tj.push w.st a:=
 St.eq (xQ _ _ _) (xQ _ _ _) I (sa (TW.key h h0)) I
theorem TW.Ka{V:List ae}{w:TW}(h:w.Ok V){a:ae}(h0:w.st.low a=0)(ha:a∈V):(w.push a).Ok V:=by
 have j:=TW.key h h0;refine⟨fun x d=>?_,?_,fun x d=>?_⟩
 .show cK .str (cJ .str w.low a _) x 0≠0;rw[eI];split
  .omega
  .rename_i y;have d:x∈(cJ .str w.low a ((w.low.length:Int)+1)).map Ur:=d;rw[cV j,TP,TF]at d;exact h.nz x (d.resolve_right fun e=>y e.symm)
 .show((cJ .str w.low a _).map Ur).Nodup;rw[cV j,Va];exact⟨h.nd,by simp,fun u hu v A e=>j (by rw[TF]at A;subst e;subst A;exact hu)⟩
 .have d:x∈(cJ .str w.low a ((w.low.length:Int)+1)).map Ur:=d;rw[cV j,TP,TF]at d;rcases d with d|rfl
  .exact h.sub x d
  .exact ha
theorem TW.len{V:List ae}{w:TW}(h:w.Ok V):w.low.length<=V.length:=by
 have:=U7 h.nd (l₂:=V) h.sub;simpa using this
theorem TW.wo{V:List ae}{w:TW}(h:w.Ok V){succ:ae->List ae}{path:List ae}(hI:Inv succ path w.st):w.stack.length<=V.length:=by
 refine U7 (l₂:=V) ?_ fun y B=>?_
 .refine W4 ?_ hI.Py;intro x y A e;subst e;omega
 .have d:=(hI.wo y).2 B;have j:w.st.low y≠0:=uu hI d;refine h.sub y (UU fun u=>j (BE u))
def TW.pop(w:TW)(u:List ae)(b:ae)(d:Int):TW:=⟨w.low,cJ .str w.on b 2,cJ .str w.ring b d,u,dl b⟩
theorem TW.F9{w:TW}{u:List ae}{b:ae}(h:w.stack=u++ [b])(d:Int):(w.pop u b d).st=yc d w.st:=by
 have j:w.st.stack.getLast? =dl b:=by show w.stack.getLast? =_;rw[h];simp
 have x:w.st.stack.dropLast=u:=by show w.stack.dropLast=_;rw[h];simp
 unfold yc;rw[j];exact St.eq I (xQ _ _ _) (xQ _ _ _) I x.symm
theorem TW.OK{V:List ae}{w:TW}(h:w.Ok V)(u:List ae)(b:ae)(d:Int):(w.pop u b d).Ok V:=⟨h.nz,h.nd,h.sub⟩
theorem QC(d:dE){p:Prog}(hf:s6 p)(j:(c4 p).length<=100000000)(a:ae):Pure prog 139 [.iv (wM (jx (c4 p) a))] (.iv (strs (bu p a))):=by
 rw[<-y7 hf];exact FD d _ (Uh (FU _ _) j)
abbrev PN(a:ae):List PV:=[pS a,.ptr 0 0,.ptr 1 0,.ptr 2 0,.ptr 3 0,.ptr 4 0,.ptr 5 0]
abbrev vF(a:ae):AF:=[(0,pS a),(1,.ptr 0 0),(2,.ptr 1 0),(3,.ptr 2 0),(4,.ptr 3 0),(5,.ptr 4 0),(6,.ptr 5 0)]
def Pr(p:Prog)(f:Nat):Prop:= ∀(path:List ae) (a:ae) (w:TW),w.Ok (ns p)->Inv (bu p) path w.st->w.st.low a=0->a∈ns p->(∀g∈path,mG (bu p) g a)->jL (ns p) w.st<=f->
 Go.Al.Fn prog 138 (PN a) (tO (w9 (cv p (c4 p))) w) fun r h n=> ∃d:TW,d.Ok (ns p)∧d.st=(eC (bu p) f a w.st).2∧r=pI (eC (bu p) f a w.st).1∧h=tH (w9 (cv p (c4 p))) d 10∧n=11
theorem GL(p:Prog)(hs:List (ae×ae×Nat)){a:ae}(h:a∈p.aw.map Decl.name):(Eg (cK .str (cv p hs) a io)).pv= .iv (wM (jx hs a)):=by rw[GN p hs h];rfl
theorem NV(G:IV)(w:TW){n:Nat}:[dl (AO.cells [PV.mp 6]),dl (.cells [.mp 7]),dl (.cells [oP w.sW 11 w.stack]),dl (.cells [.iv G]),dl (.cells [yY]),dl (.cells [.mp 8]),dl (cO w.low),dl (cO w.on),dl (cO w.ring),dl (oQ w.sW w.stack)]=
  (tO G w).map fun o=>dl (o.bZ (sig [0,1,2,3,4,5,6,7,8,11] n)):=by
 have d:=kZ (sig [0,1,2,3,4,5,6,7,8,11] n) w.sW 9 w.stack;have j:=k9 (sig [0,1,2,3,4,5,6,7,8,11] n) w.sW w.stack;show _=[dl (AO.cells [PV.mp 6]),dl (.cells [.mp 7]),dl (.cells [(oP w.sW 9 w.stack).bZ (sig [0,1,2,3,4,5,6,7,8,11] n)]),dl (.cells [.iv G]),dl (.cells [yY]),dl (.cells [.mp 8]),dl (cO w.low),dl (cO w.on),dl (cO w.ring),dl ((oQ w.sW w.stack).bZ (sig [0,1,2,3,4,5,6,7,8,11] n))]
 rw[d,j];rfl
theorem Fu(u:List ae)(b:ae):((u++ [b]).map fun x=>(cB x).map PV.iv)[0+((((u.length+1:Nat):Int)-1).toNat)]? =dl [pS b]:=by
 rw[TL,show(((u.length+1:Nat):Int)-1).toNat=u.length by omega];simp[cB]
theorem Fv(i:Nat)(u:List ae)(b:ae):(u.length=0∧oP (dl b) i u= .sl i 1 0 1)∨(0<u.length∧oP (dl b) i u= .sl i 0 u.length 1):=by
 cases u with
 |nil=>exact .inl ⟨rfl,rfl⟩
 |cons x r=>exact .inr ⟨by simp,rfl⟩
theorem ze(u:List ae)(b:ae):dK (aX 1 (u++ [b]) cB) (oQ (dl b) u):=by
 cases u with
 |nil=>exact .of_eq I
 |cons x r=>
  have e:oQ (dl b) (x::r)= .row 1 (((x::r++ [b]).map fun y=>(cB y).map PV.iv).take (x::r).length):=by
   rw[<-List.map_take,List.take_left];rfl
  rw[e];exact .take
theorem s7{p:Prog}: ∀a∈ns p,∀b∈bu p a,b∈ns p:=fun _ _ _ h=>(Ub.1 h).1
theorem Gi{p:Prog}(hf:s6 p):(ns p).length<=64:=by
 have:=hf.len;rw[ns,jI,T2];exact this
theorem E5(hS:dE){p:Prog}(hf:s6 p)(hl:(c4 p).length<=100000000)(f:Nat)(ih:Pr p f):Pr p (f+1):=by
 intro path a w j0 hI h0 Y hp hw;have i0:=Gi hf;have e1:=kn hI.mA Y h0;have l1:=TW.len j0;have o1:=TW.wo j0 hI;have q0:a∈p.aw.map Decl.name:=by rw[ns,lq]at Y;exact Y
 have C:=TW.J9 j0 h0;have t0:=TW.Ka j0 h0 Y;have n1:=UY (eg p a) (ns p);refine mc ab func138 I (by decide) ntmps138 I (by simp) ?_;refine go_cut 6 (fun _:Unit=>⟨(9,pI ((w.low.length:Int)+1))::(10,pI ((w.low.length:Int)+1))::vF a,tH (w9 (cv p (c4 p))) (w.push a) 10,11⟩) I ?_ ?_
 .have o0:cK .str (cJ .str w.low a ((w.low.length:Int)+1)) a 0=(w.low.length:Int)+1:=by rw[eI,am I]
  by_cases hu:w.sW=io∨w.stack≠ []
  .rw[show tO (w9 (cv p (c4 p))) w=[.cells [.mp 6],.cells [.mp 7],.cells [.sl 9 0 w.stack.length 1],.cells [.iv (w9 (cv p (c4 p)))],.cells [yY],.cells [.mp 8],cO w.low,cO w.on,cO w.ring,aX 1 w.stack cB] by
    unfold tO;rw[za hu,zc hu]]
   refine gA I (kR () [11] ?_);exact wk I I I ⟨.of_eq (congrArg pI o0),rfl,.of_eq (congrArg pI o0),rfl,bi (bi (bi (bi (bi (bi (bi ac))))))⟩
    (tD (w:=w.push a) I I (fun i Z=>fZ (by show i<10;omega)) I I I I I I I I I I (by show _=PV.sl 11 0 (w.stack++ [a]).length 1;rw[Tn];rfl) I I I (.of_eq (by show _=aX 1 (w.stack++ [a]) cB;rw[aX,TA];rfl))) I
  .obtain⟨y,hy,v0⟩: ∃y,w.sW=dl y∧w.stack=[]:=by
    cases hg:w.sW with
    |none=>exact absurd (.inl hg) hu
    |some y=>exact⟨y,rfl,UU fun h=>hu (.inr h)⟩
   rw[show tO (w9 (cv p (c4 p))) w=[.cells [.mp 6],.cells [.mp 7],.cells [.sl 9 1 0 1],.cells [.iv (w9 (cv p (c4 p)))],.cells [yY],.cells [.mp 8],cO w.low,cO w.on,cO w.ring,.row 1 [[pS y]]] by
    unfold tO;rw[hy,v0];rfl]
   refine gA I (tm ab I I I I I I I I I (by simp) (by simp) (fe I) I ?_);refine gA I (kR () [11] ?_);exact wk I I I ⟨.of_eq (congrArg pI o0),rfl,.of_eq (congrArg pI o0),rfl,bi (bi (bi (bi (bi (bi (bi ac))))))⟩
    (tD (w:=w.push a) I I (fun i Z=>fZ (by show i<10;omega)) I I I I I I I I I I (by show _=PV.sl 11 0 (w.stack++ [a]).length 1;rw[v0];rfl) I I I (.of_eq (by show _=aX 1 (w.stack++ [a]) cB;rw[v0];rfl))) I
 intro _;have Z:=zX hI h0 hp;rw[<-C]at e1 Z;have hm:((w.push a).low.length:Int)=(w.low.length:Int)+1:=by
  have:=sa (v:=(w.low.length:Int)+1) (TW.key j0 h0);show(((cJ .str w.low a _).length:Nat):Int)=_;rw[this];omega
 have la:(w.push a).st.low a=(w.st.n:Int)+1:=by rw[C];exact jN _ _ _
 have oa:(w.push a).st.on a=1:=by rw[C];exact jN _ _ _
 have g1:fC (bu p) path a w.st [] ((w.st.n:Int)+1,Go.Tj.push w.st a) []:=
  ⟨C▸Z,.refl _,rfl,fun y hy=>(nomatch hy),Vb _,fun y hy=>(nomatch hy),fun z hz=>(nomatch hz),fun z hz=>(nomatch hz),⟨a,C▸oa,C▸la,.refl _⟩⟩
 have l0:=fun pa b s=>oM (succ:=bu p) s7 f pa b s
 let G:Nat->Int×St ae:=fun i=>((bu p a).take i).foldl (Go.Tj.rY (eC (bu p) f)) ((w.st.n:Int)+1,Go.Tj.push w.st a)
 have g0: ∀i,∃t,fC (bu p) path a w.st ((bu p a).take i) (G i) t:=fun i=>by
  have:=ry s7 l0 hI h0 Y (by rw[<-C];omega) ((bu p a).take i) [] _ [] g1 fun b hb=>UP hb;rwa[T3]at this
 refine gM 5 I (Ky ab (.iv (wM (jx (c4 p) a))) I I I I (GL p _ q0) I ?_);refine gA I (zp (QC hS hf hl a) ?_);refine gA I ?_;refine jD 0 (bu p a).length (TB _) (fun i A=>⟨(9,pI ((w.low.length:Int)+1))::(10,pI (G i).1)::(32,.iv (strs (bu p a)))::(33,pI (bu p a).length)::(34,pI i)::vF a,tH (w9 (cv p (c4 p))) A 11,12⟩)
  (fun i A=>A.Ok (ns p)∧A.st=(G i).2) (w.push a) [10] ⟨t0,C⟩
  (wk I I I (bi (bi (bi (bi (bi (bi (bi (bi (bi (bi (bi (bi trivial))))))))))))
   (tD I I (fun i Z=>fZ (by show i<11;omega)) I I I I I I I I I I I I I I (.refl _)) I) fun i A r1 hJ=>?_
 obtain⟨B,x⟩:=hJ;obtain⟨t2,j⟩:=g0 i;have m1:(bu p a).length<=64:=Uh n1 i0;refine zJ I I (fun h1=>?_) fun h1=>?_
 .have h1:i<(bu p a).length:=by simpa using h1
  have d0:G (i+1)=Go.Tj.rY (eC (bu p) f) (G i) ((bu p a).getD i co):=iG h1;have hb:((bu p a).getD i co)∈bu p a:=lB h1;have d:Go.Tj.rY (eC (bu p) f) (G i) ((bu p a).getD i co)=if A.st.low ((bu p a).getD i co)=0 then(min (G i).1 (eC (bu p) f ((bu p a).getD i co) A.st).1,(eC (bu p) f ((bu p a).getD i co) A.st).2)
    else if A.st.on ((bu p a).getD i co)=1 then(min (G i).1 (A.st.low ((bu p a).getD i co)),A.st) else(G i):=by rw[x];rfl
  refine zJ I I (fun h2=>?_) fun h2=>?_
  .have h2:A.st.low ((bu p a).getD i co)=0:=zT h2;rw[am h2]at d;have b0: ∀g∈path++ [a],mG (bu p) g ((bu p a).getD i co):=by
    intro g hg;have D:(G i).2.on a=1:=(j.inv.wo a).2 (by rw[j.stack];simp);refine .step (j.inv.dn g hg a D ?_) hb;rcases TP.1 hg with e|e
    .have:=j.pa hI h0 g e;omega
    .rw[TF]at e;rw[e];exact Vb _
   have q1:jL (ns p) A.st<=f:=by
    have:=v8 (V:=ns p) j.le;rw[x];rw[C]at e1;omega
   refine gA I (oC [0,1,2,3,4,5,6,7,8,11] (ih (path++ [a]) ((bu p a).getD i co) A B (x▸j.inv) h2 (s7 a Y ((bu p a).getD i co) hb) b0 q1) I I I I I (NV _ _) I ?_);rintro r h' n' ⟨w3,hok3,hst3,rfl,rfl,rfl⟩;refine⟨_,rfl,?_⟩;refine gA I ⟨h1,w3,[12],⟨hok3,by rw[d0,d];exact hst3⟩,zM (bi ⟨.of_eq (by rw[d0,d];rfl),rfl,bi (bi (bi (bi (bi (bi (bi (bi (bi (bi ac)))))))))⟩) (tD I I (fun i Z=>fZ (by show i<11;omega)) I I I I I I I I I I (kZ _ _ _ _) I I I (.of_eq (k9 _ _ _)))⟩
  .have h2: ¬A.st.low ((bu p a).getD i co)=0:=zF h2;rw[be h2]at d;refine zJ I I (fun h3=>?_) fun h3=>?_
   .have h3:A.st.on ((bu p a).getD i co)=1:=zT h3;rw[am h3]at d;refine gA I ⟨h1,A,[11],⟨B,by rw[d0,d]⟩,zM (bi ⟨.of_eq (by rw[d0,d];rfl),rfl,bi (bi (bi (bi (bi (bi (bi (bi (bi (bi ac)))))))))⟩) (tD I I (fun i Z=>fZ (by show i<11;omega)) I I I I I I I I I I I I I I (.refl _))⟩
   .have h3: ¬A.st.on ((bu p a).getD i co)=1:=zF h3;rw[be h3]at d;refine gA I ⟨h1,A,[11],⟨B,by rw[d0,d];exact x⟩,zM (bi ⟨.of_eq (by rw[d0,d];rfl),rfl,bi (bi (bi (bi (bi (bi (bi (bi (bi (bi ac)))))))))⟩) (tD I I (fun i Z=>fZ (by show i<11;omega)) I I I I I I I I I I I I I I (.refl _))⟩
 .have h1:(bu p a).length<=i:=by simpa using h1
  have j1:i=(bu p a).length:=by omega
  subst j1;have n0:eC (bu p) (f+1) a w.st=s4 a ((w.st.n:Int)+1) (G (bu p a).length):=by
   show s4 a _ ((bu p a).foldl _ _)=s4 a _ (((bu p a).take (bu p a).length).foldl _ _);rw[Uj]
  have a0: ∀(w':TW) (k:Nat) (u:AS) (e:Exit),e= .normal∨e= .ret->10<=k->k<u.nx->jy mB u f138.results.toList=dl (pI (G (bu p a).length).1)->w'.Ok (ns p)->w'.st=(s4 a ((w.st.n:Int)+1) (G (bu p a).length)).2->
    mH 11 (sg 10 [k]) u.h (tH (w9 (cv p (c4 p))) w' 10)->Lh mB f138.results.toList 10 (fun r h n=> ∃w':TW,w'.Ok (ns p)∧w'.st=(eC (bu p) (f+1) a w.st).2∧r=pI (eC (bu p) (f+1) a w.st).1∧h=tH (w9 (cv p (c4 p))) w' 10∧n=11) e u:=by
   intro w' k u e he hk k1 hr s0 w0 hh;refine iO [k] he hr ⟨w',s0,by rw[n0];exact w0,rfl,rfl,rfl⟩ ⟨rfl,by show 10<=u.nx;omega,by simpa using k1,⟨.of_eq ?_,rfl,ac⟩,hh,?_⟩
   .show pI (G (bu p a).length).1=pI (eC (bu p) (f+1) a w.st).1;rw[n0];unfold s4;split<;>rfl
   .show[0,1,2,3,4,5,6,7,8,k].Nodup;simp;omega
  generalize G (bu p a).length=q at*
  refine zE I I (fun h4=>?_) fun h4=>?_
  .have h4: ¬q.1=(w.st.n:Int)+1:=zF h4;refine gA I (a0 A 11 _ _ (.inr I) (by omega) (by show 11<12;omega) I B (by rw[s4,be h4];exact x) ?_);exact tD I I (fun i Z=>fZ (by omega)) I I I I I I I I I I I I I I (.refl _)
  have h4:q.1=(w.st.n:Int)+1:=zT h4;have hE:(s4 a ((w.st.n:Int)+1) q).2=fL a ((w.st.n:Int)+1) q.2.stack.length q.2:=by rw[s4,am h4]
  have D:q.2.on a=1:=(j.inv.wo a).2 (by rw[j.stack];simp);have hF:fL a ((w.st.n:Int)+1) (t2.length+1) q.2=(s4 a ((w.st.n:Int)+1) q).2:=by
   rw[hE,rk (by omega) j.stack j.at_ D,rk (by rw[j.stack];simp;omega) j.stack j.at_ D]
  generalize(s4 a ((w.st.n:Int)+1) q).2=F at hF a0;refine gA I ?_;refine lA (σ:={v:TW//v.Ok (ns p)∧((∃t,v.stack=w.stack++a::t∧a∉t∧v.stack.length<=64∧v.st.on a=1∧fL a ((w.st.n:Int)+1) (t.length+1) v.st=F)∨(v.st.on a≠1∧v.st=F))})
   (fun v=>⟨(9,pI ((w.low.length:Int)+1))::(10,pI q.1)::vF a,tH (w9 (cv p (c4 p))) v.1 12,13⟩) (fun v=>v.1.stack.length) ⟨A,B,.inl ⟨t2,by rw[show A.stack=A.st.stack from rfl,x];exact j.stack,j.at_,Uh (TW.wo B (x▸j.inv)) i0,by rw[x];exact D,by rw[x];exact hF⟩⟩ [11]
   (zW (tD I I (fun i Z=>fZ (by show i<12;omega)) I I I I I I I I I I I I I I (.refl _))) fun v=>?_
  obtain⟨v,k0,hJ⟩:=v;rcases hJ with⟨t,hs,a1,m0,c0,J⟩|⟨c0,f1⟩
  rotate_left
  .refine zJ I I (fun h5=>?_) fun h5=>?_
   .exact absurd (zT h5) c0
   refine gA I (a0 v 12 _ _ (.inr I) (by omega) (by show 12<13;omega) I k0 f1 ?_);exact tD I I (fun i Z=>fZ (by omega)) I I I I I I I I I I I I I I (.refl _)
  have key: ∃u b,v.stack=u++ [b]∧((b=a∧yc ((w.st.n:Int)+1) v.st=F)∨ ∃t',u=w.stack++a::t'∧a∉t'∧b≠a∧fL a ((w.st.n:Int)+1) (t'.length+1) (yc ((w.st.n:Int)+1) v.st)=F):=by
   rcases t.eq_nil_or_concat with e|⟨t',b,e⟩
   .subst e;refine⟨w.stack,a,hs,.inl ⟨rfl,?_⟩⟩;rw[UJ,fL,am c0]at J;exact J
   .rw[Wb]at e;subst e;refine⟨w.stack++a::t',b,by rw[hs];simp,.inr ⟨t',rfl,fun h=>a1 (by simp[h]),fun h=>a1 (by simp[h]),?_⟩⟩;rw[fL,am c0,Tn]at J;exact J
  obtain⟨u,b,e0,f0⟩:=key;have s1:u.length+1<=64:=by rw[e0,Tn]at m0;exact m0
  have d1:v.stack≠ []:=by rw[e0];simp
  have x0:v.stack.length=u.length+1:=by rw[e0,Tn];rfl
  have p1:tH (w9 (cv p (c4 p))) v 12=[(0,dl (.cells [.mp 6])),(1,dl (.cells [.mp 7])),(2,dl (.cells [.sl 12 0 (u.length+1) 1])),(3,dl (.cells [.iv (w9 (cv p (c4 p)))])),(4,dl (.cells [yY])),(5,dl (.cells [.mp 8])),
    (6,dl (cO v.low)),(7,dl (cO v.on)),(8,dl (cO v.ring)),(12,dl (aX 1 (u++ [b]) cB))]:=by
   unfold tH;rw[za (.inr d1),zc (.inr d1),x0,e0]
  show GO prog _ _ _ ⟨_,tH (w9 (cv p (c4 p))) v 12,_⟩;rw[p1];refine zE I I (fun h5=>?_) fun h5=>?_
  .exact absurd c0 (zF h5)
  refine gM 9 I (ma ab I I I I I (Fu u b) I I ?_);have z0:(v.pop u b ((w.st.n:Int)+1)).Ok (ns p)∧((∃t,(v.pop u b ((w.st.n:Int)+1)).stack=w.stack++a::t∧a∉t∧(v.pop u b ((w.st.n:Int)+1)).stack.length<=64∧(v.pop u b ((w.st.n:Int)+1)).st.on a=1∧fL a ((w.st.n:Int)+1) (t.length+1) (v.pop u b ((w.st.n:Int)+1)).st=F)∨((v.pop u b ((w.st.n:Int)+1)).st.on a≠1∧(v.pop u b ((w.st.n:Int)+1)).st=F)):=by
   refine⟨TW.OK k0 u b _,?_⟩;rcases f0 with⟨rfl,p0⟩|⟨t',hu,r0,i1,p0⟩
   .refine .inr ⟨?_,by rw[TW.F9 e0];exact p0⟩;show cK .str (cJ .str v.on b 2) b 0≠1;rw[eI,am I];decide
   .refine .inl ⟨t',hu,r0,by show u.length<=64;omega,?_,by rw[TW.F9 e0];exact p0⟩;show cK .str (cJ .str v.on b 2) a 0=1;rw[eI,be i1];exact c0
  have b1:(v.pop u b ((w.st.n:Int)+1)).stack.length<v.stack.length:=by show u.length<v.stack.length;omega
  rcases Fv 12 u b with hc|hc
  .refine gA I (tk ab u.length I I I I I I I (by omega) (by omega) (by omega) (.inl ⟨hc.1,rfl⟩) I ?_);refine gA I ⟨⟨v.pop u b ((w.st.n:Int)+1),z0⟩,[12],b1,zW (tD I I (fun i Z=>fZ (by show i<12;omega)) I I I I I I I I I I hc.2.symm I I I (ze u b))⟩
  .refine gA I (tk ab u.length I I I I I I I (by omega) (by omega) (by omega) (.inr ⟨hc.1,rfl⟩) I ?_);refine gA I ⟨⟨v.pop u b ((w.st.n:Int)+1),z0⟩,[12],b1,zW (tD I I (fun i Z=>fZ (by show i<12;omega)) I I I I I I I I I I hc.2.symm I I I (ze u b))⟩
theorem PM(j:dE){p:Prog}(hf:s6 p)(u:(c4 p).length<=100000000): ∀f,Pr p f
 |0=>fun path a w y hI x d A B=>by
  have:=kn hI.mA d x;omega
 |f+1=>E5 j hf u f (PM j hf u f)
theorem DZ(d:dE){p:Prog}(hf:s6 p)(hs:List (ae×ae×Nat)):Pure prog 140 [.iv (w9 (cv p hs))] (.iv (strs (ns p))):=by
 have h:=FE d (cv p hs) (by have:=hf.len;simp[cv];omega);rw[show(cv p hs).map (·.1)=p.aw.map Decl.name from BQ p hs]at h;exact h
abbrev J6:PV:= .cN (.func 138) [] [.ptr 4 0,.ptr 5 0,.ptr 7 0,.ptr 0 0,.ptr 8 0,.ptr 6 0]
abbrev rH(G:IV)(w:TW)(k:Nat):AH:=[(0,dl (.cells [.iv G])),(1,dl (cO w.low)),(2,dl (cO w.on)),(3,dl (cO w.ring)),(4,dl (.cells [.mp 1])),(5,dl (.cells [.mp 2])),(6,dl (.cells [.mp 3])),(7,dl (.cells [oP w.sW k w.stack])),(8,dl (.cells [J6])),(k,dl (oQ w.sW w.stack))]
theorem Nc{n k:Nat}{σ:Nat->Nat}{h:AH}{G:IV}{w:TW}{B:PV}{x y A o:AO}(b:Vm 9 n=is)(bk:TU k n=is)(hs: ∀i,i<9->σ i=i)
  (g0:h.get 0=dl (.cells [.iv G])) (g1:h.get 1=dl x) (g2:h.get 2=dl y) (g3:h.get 3=dl A)
  (g4:h.get 4=dl (.cells [.mp 1])) (g5:h.get 5=dl (.cells [.mp 2])) (g6:h.get 6=dl (.cells [.mp 3])) (g7:h.get 7=dl (.cells [B])) (g8:h.get 8=dl (.cells [J6])) (g9:h.get (σ k)=dl o)
  (C:dK x (cO w.low)) (D:dK y (cO w.on)) (F:dK A (cO w.ring)) (J:B=oP w.sW (σ k) w.stack) (Y:dK o (oQ w.sW w.stack)):mH n σ h (rH G w k):=by
 have Z:=Tk b;have bk:=Tk bk;have hb: ∀i,i<9->TU i n=is:=fun i d=>Uu (by omega);subst J;have r: ∀i,i<9->PV.mp (σ i)=PV.mp i:=fun i d=>by rw[hs i d]
 have j: ∀i,i<9->PV.ptr (σ i) 0=PV.ptr i 0:=fun i d=>by rw[hs i d]
 have u: ∀i,i<9->bD n [PV.mp i]=is:=fun i d=>by simp only[bD,PV.low,hb i d]
 refine⟨⟨_,by rw[hs 0 (by omega)];exact g0,.of_eq I⟩,by omega,rfl,
  ⟨_,by rw[hs 1 (by omega)];exact g1,C⟩,by omega,ac,
  ⟨_,by rw[hs 2 (by omega)];exact g2,D⟩,by omega,ac,
  ⟨_,by rw[hs 3 (by omega)];exact g3,F⟩,by omega,ac,
  ⟨_,by rw[hs 4 (by omega)];exact g4,.of_eq (by simp only[AO.bZ,db,PV.bZ,r 1 (by omega)])⟩,by omega,u 1 (by omega),
  ⟨_,by rw[hs 5 (by omega)];exact g5,.of_eq (by simp only[AO.bZ,db,PV.bZ,r 2 (by omega)])⟩,by omega,u 2 (by omega),
  ⟨_,by rw[hs 6 (by omega)];exact g6,.of_eq (by simp only[AO.bZ,db,PV.bZ,r 3 (by omega)])⟩,by omega,u 3 (by omega),
  ⟨_,by rw[hs 7 (by omega)];exact g7,.of_eq (by simp only[AO.bZ,db,kZ])⟩,by omega,by simp only[AO.low,bD,zb (Uu bk)],
  ⟨_,by rw[hs 8 (by omega)];exact g8,.of_eq (by simp only[AO.bZ,db,PV.bZ,j 0 (by omega),j 4 (by omega),j 5 (by omega),j 6 (by omega),j 7 (by omega),j 8 (by omega)])⟩,by omega,by simp only[AO.low,bD,PV.low,hb 0 (by omega),hb 4 (by omega),hb 5 (by omega),hb 6 (by omega),hb 7 (by omega),hb 8 (by omega)],
  ⟨_,g9,by rw[k9];exact Y⟩,bk,zf _ _ _,ac⟩
theorem uD{V:Type}{kc:KC}{ev:V->IV}{z:V}{d:Value}{u:PV->V}(y: ∀M,IR M (ev z) d):dK .fx (.map kc ev z d u []):=
 ⟨id,fun M N U w j x=>⟨#[],0,x,⟨rfl,by simp,by simp,by simp,by simp⟩,y M⟩⟩
def TW.o:TW:=⟨[],[],[],[],io⟩
theorem OG(G:IV)(w:TW){n:Nat}:[dl (AO.cells [PV.mp 1]),dl (.cells [.mp 2]),dl (.cells [oP w.sW 10 w.stack]),dl (.cells [.iv G]),dl (.cells [J6]),dl (.cells [.mp 3]),dl (cO w.low),dl (cO w.on),dl (cO w.ring),dl (oQ w.sW w.stack)]=
  (tO G w).map fun o=>dl (o.bZ (sig [4,5,7,0,8,6,1,2,3,10] n)):=by
 have d:=kZ (sig [4,5,7,0,8,6,1,2,3,10] n) w.sW 9 w.stack;have j:=k9 (sig [4,5,7,0,8,6,1,2,3,10] n) w.sW w.stack;show _=[dl (AO.cells [PV.mp 1]),dl (.cells [.mp 2]),dl (.cells [(oP w.sW 9 w.stack).bZ (sig [4,5,7,0,8,6,1,2,3,10] n)]),dl (.cells [.iv G]),dl (.cells [J6]),dl (.cells [.mp 3]),dl (cO w.low),dl (cO w.on),dl (cO w.ring),dl ((oQ w.sW w.stack).bZ (sig [4,5,7,0,8,6,1,2,3,10] n))]
 rw[d,j];rfl
theorem Oi(D:dE){p:Prog}(hf:s6 p)(hl:(c4 p).length<=100000000):Go.Al.Fn prog 95 [.iv (w9 (cv p (c4 p)))] [] fun r h n=> ∃m:NM,Go.Rg.vz (ns p) (eg p) (fun a=>cK .str m a 0)∧r= .iv (wM m)∧h=[]∧n=0:=by
 have F:=Gi hf;refine mc ab func95 I (by decide) ntmps95 I (by simp) ?_;refine gA I (zp (DZ D hf (c4 p)) ?_);refine gA I ?_;refine fm 7 0 1 I I ?_
 let y:Nat->St ae:=fun i=>gH (bu p) (ns p).length ((ns p).take i) St.o
 have A: ∀i,Inv (bu p) [] (y i):=fun i=>(rf s7 (Tv _) ((ns p).take i) St.o (fun a h=>UP h) (MQ _)).1
 refine jD 0 (ns p).length (TB _) (fun i w=>⟨[(3,.ptr 4 0),(4,.ptr 5 0),(5,.ptr 6 0),(6,.ptr 7 0),(7,.ptr 8 0),(15,.iv (strs (ns p))),(16,pI (ns p).length),(17,pI i)],rH (w9 (cv p (c4 p))) w 10,11⟩)
  (fun i w=>w.Ok (ns p)∧w.st=y i) TW.o [9] ⟨⟨fun a h=>(nomatch h),Us,fun a h=>(nomatch h)⟩,rfl⟩
  (wk I I I (bi (bi (bi (bi (bi (bi (bi (bi trivial))))))))
   (Nc I I (fun i C=>fZ (by show i<10;omega)) I I I I I I I I I I (uD eJ) (uD eJ) (uD eJ) I (.of_eq I)) I) fun i w C Y=>?_
 obtain⟨B,x⟩:=Y;refine zJ I I (fun d=>?_) fun d=>?_
 .have d:i<(ns p).length:=by simpa using d
  have u:y (i+1)=if(y i).low ((ns p).getD i co)=0 then(eC (bu p) (ns p).length ((ns p).getD i co) (y i)).2 else y i:=iG d;refine zJ I I (fun j=>?_) fun j=>?_
  .have j:w.st.low ((ns p).getD i co)=0:=zT j;rw[<-x,am j]at u;refine gA I (oC [4,5,7,0,8,6,1,2,3,10] (PM D hf hl (ns p).length [] ((ns p).getD i co) w B (x▸A i) j (lB d) (fun g Z=>nomatch Z) (UY _ _)) I I I I I (OG _ _) I ?_);rintro r h' n' ⟨w3,hok3,hst3,rfl,rfl,rfl⟩;refine⟨_,rfl,?_⟩;refine gA I ?_
   exact⟨d,w3,[11],⟨hok3,by rw[u];exact hst3⟩,wk I I I (bi (bi (bi (bi (bi (bi (bi (bi ac))))))))
    (Nc I I (fun i C=>fZ (by show i<10;omega)) I I I I I I I I I I (.refl _) (.refl _) (.refl _) (kZ _ _ _ _) (.of_eq (k9 _ _ _))) I⟩
  .have j: ¬w.st.low ((ns p).getD i co)=0:=zF j;rw[<-x,be j]at u;refine gA I ?_
   exact⟨d,w,[10],⟨B,u.symm⟩,wk I I I (bi (bi (bi (bi (bi (bi (bi (bi ac))))))))
    (Nc I I (fun i C=>fZ (by show i<10;omega)) I I I I I I I I I I (.refl _) (.refl _) (.refl _) I (.refl _)) I⟩
 .have d:(ns p).length<=i:=by simpa using d
  have hr:Go.Rg.vz (ns p) (eg p) (fun a=>cK .str w.ring a 0):=by
   have j:=F0 hf.nodup (Tv (ns p).length);have G:y i=gH (bu p) (ns p).length (ns p) St.o:=by show gH _ _ ((ns p).take i) _=_;rw[TE d]
   have J:(fun a=>cK .str w.ring a 0)=(gH (bu p) (ns p).length (ns p) St.o).ring:=by rw[<-G,<-x];rfl
   rw[J];exact j
  refine gA I ⟨.inr I,_,rfl,fD.map 3 I (.done ⟨.iv (wM w.ring),[],0,[],⟨w.ring,hr,rfl,rfl,rfl⟩,?_⟩)⟩;exact⟨rfl,TB _,by simp,⟨.of_eq I,rfl,ac⟩,ac,Us⟩
end Go.Proofs.YtbhphmfbligliaaGreatDoor
namespace Go.Proofs.YtbhphmfbligliaaGreatDoor
open Go Go.Al Go.Proofs.Tryz
theorem Ou(l:List ae)(s:ae):Pure prog 178 [.iv (strs l),pS s] (pI (pn (fun x:ae=>kw (s=x)) l)):=by
 refine F8 (bQ func178 I (by decide)) ⟨_,_,TJ⟩ fun u=>?_;simp only[maxLen]at u;refine ai ab func178 I (by decide) ntmps178 I (by simp) I ?_;refine gA I ?_
 refine aG 0 l.length (TB _) (fun i=>⟨[(0,.iv (strs l)),(1,pS s),(7,pI l.length),(8,pI i)],[],0⟩) (fun i=>(l.take i).any (fun x:ae=>kw (s=x))=jp) [] (by simp)
  (wk0 I I (bi (bi (bi (bi trivial)))) I) fun i A y=>?_
 refine zJ I I (fun d=>?_) fun d=>?_
 .have d:i<l.length:=by simpa using d
  refine zJ I I (fun j=>?_) fun j=>?_
  .have j:(fun x:ae=>kw (s=x)) (l.getD i co)=is:=j;rw[ia y d j];exact zU I
  .have j:(fun x:ae=>kw (s=x)) (l.getD i co)=jp:=j;refine gA I ⟨d,(c7 y d).2 j,[],wk0 I I (bi (bi (bi (bi ac)))) I⟩
 .have d:l.length<=i:=by simpa using d
  rw[fW (any_none y d)];exact zU I
theorem La(l:List ae)(s:ae):(l.any fun x=>kw (s=x))=dU l s:=by
 rw[UN,bP,UO];constructor
 .rintro⟨x,hx,h⟩;exact(zT h)▸hx
 .exact fun h=>⟨s,h,decide_eq_true I⟩
theorem D2(l:List ae)(s:ae):Pure prog 142 [.iv (strs l),pS s] (pB (dU l s)):=by
 refine ai ab func142 I (by decide) ntmps142 I (by simp) I ?_;refine gA I (zp (Ou l s) ?_);refine gA I (zL (.of_eq ?_));exact mS (by rw[<-La];exact ib _ l)
def og(m:NM)(r:ar)(l:Lit):Bool:=kw (l.kind=1)&&kw (cK .str m l.atom.rel 0=cK .str m r.head.rel 0)
abbrev OD(m:NM)(r:ar):List AO:=[.cells [.iv (wM m)],az r.c]
abbrev JX(m:NM)(r:ar):AH:=[(0,dl (.cells [.iv (wM m)])),(1,dl (az r.c))]
theorem JK(m:NM)(r:ar)(l:Lit):bC prog 180 [ag l.c,.ptr 0 0,.ptr 1 0] (OD m r) (pB (og m r l)) (JX m r) 2:=by
 refine aq ab func180 I (by decide) ntmps180 I (by simp) ?_;refine zJ I I (fun d=>?_) fun d=>?_
 .have d:l.kind=1:=zT d;refine gA I (zD [] I (zM ⟨.of_eq (mS (by rw[og,decide_eq_true d,Vo])),rfl,ac⟩ ((zO (zK ac)))))
 .have d: ¬l.kind=1:=zF d;refine gA I (zD [] I (zM ⟨.of_eq (mS (by rw[og,decide_eq_false d,Vc])),rfl,ac⟩ ((zO (zK ac)))))
abbrev FX:PV:= .cN (.func 180) [] [.ptr 0 0,.ptr 1 0]
theorem JI(m:NM)(r:ar)(l:List Lit):bC prog 230 [.iv (bp 30 l Lit.c),FX] (OD m r) (pI (pn (og m r) l)) (JX m r) 2:=by
 refine pz (bQ func230 I (by decide)) ⟨_,_,TJ⟩ fun u=>?_;simp only[maxLen]at u;refine aq ab func230 I (by decide) ntmps230 I (by simp) ?_;refine gA I ?_
 refine aG 0 l.length (TB _) (fun i=>⟨[(0,.iv (bp 30 l Lit.c)),(1,FX),(7,pI l.length),(8,pI i)],JX m r,2⟩) (fun i=>(l.take i).any (og m r)=jp) [] (by simp)
  (zW ((zO (zK trivial)))) fun i y x=>?_
 refine zJ I I (fun d=>?_) fun d=>?_
 .have d:i<l.length:=by simpa using d
  refine gA I (zq [0,1] (JK m r (l.getD i co)) ?_);refine zJ I I (fun j=>?_) fun j=>?_
  .have j:og m r (l.getD i co)=is:=j;rw[ia x d j];refine gA I (zD [] I (zW ((zO (zK ac)))))
  .have j:og m r (l.getD i co)=jp:=j;refine gA I ⟨d,(c7 x d).2 j,[],zW ((zO (zK ac)))⟩
 .have d:l.length<=i:=by simpa using d
  rw[fW (any_none x d)];refine gA I (zD [] I (zW ((zO (zK ac)))))
theorem JJ(m:NM)(r:ar)(l:List Lit):bC prog 179 [.iv (bp 30 l Lit.c),FX] (OD m r) (pB (l.any (og m r))) (JX m r) 2:=by
 refine aq ab func179 I (by decide) ntmps179 I (by simp) ?_;refine gA I (zq [0,1] (JI m r l) ?_);refine gA I (zD [] I (zM ⟨.of_eq (mS (ib _ l)),rfl,ac⟩ ((zO (zK ac)))))
theorem Oh(m:NM)(r:ar):Pure prog 143 [ag r.c,.iv (wM m)] (pB (r.body.any (og m r))):=by
 refine ai ab func143 I (by decide) ntmps143 I (by simp) I ?_;refine gA I (zq [1,0] (JJ m r r.body) ?_);exact zU I
def vK(m:NM)(r:ar)(l:Lit):Bool:=kw (l.kind≠1)&&(named l).any fun t=>kw (cK .str m t 0=cK .str m r.head.rel 0)
def vV(m:NM)(r:ar)(t:Term):Bool:=kw (t.kind=1)&&!dU (kM r) t.var&&r.body.any (og m r)
def ji(m:NM)(r:ar):fY:=match r.body.find? (vK m r) with
 |some l=>(70,l.at)
 |none=>if r.head.ak.any (vV m r)=is then(71,r.at_) else fY.z
theorem N9(m:NM)(r:ar)(hb:r.size<=10000000):Pure prog 96 [ag r.c,.iv (wM m)] (ag (ji m r).c):=by
 have D:r.body.length<=10000000:=by have:=Lit.aA r.body;unfold ar.size at hb;omega
 have Y:r.head.ak.length<=10000000:=by unfold ar.size at hb;omega
 refine ai ab func96 I (by decide) ntmps96 I (by simp) I ?_;refine gA I ?_;refine aG 0 r.body.length (TB _) (fun i=>⟨[(1,.iv (wM m)),(2,.ptr 0 0),(4,.ptr 1 0),(13,.iv (lits r.body)),(14,pI r.body.length),(15,pI i)],[(0,dl (az r.c)),(1,dl (az fY.z.c))],2⟩) (fun i=>(r.body.take i).any (vK m r)=jp) [] (by simp)
  (zW (zK (zK trivial))) fun i Z A=>?_
 refine zJ I I (fun x=>?_) fun x=>?_
 .have x:i<r.body.length:=by simpa using x
  have J:(r.body.getD i co).size<=10000000:=by have:=Lit.cf r.body i x;unfold ar.size at hb;omega
  have G:=ll (r.body.getD i co);refine gA I (zp (CB (r.body.getD i co) (by omega)) ?_);refine gA I ?_;refine aG 0 (named (r.body.getD i co)).length (TB _) (fun k=>⟨[(1,.iv (wM m)),(2,.ptr 0 0),(4,.ptr 1 0),(6,.ptr 2 0),(13,.iv (lits r.body)),(14,pI r.body.length),(15,pI i),(20,.iv (strs (named (r.body.getD i co)))),(21,pI (named (r.body.getD i co)).length),(22,pI k)],[(0,dl (az r.c)),(1,dl (az fY.z.c)),(2,dl (az (r.body.getD i co).c))],3⟩)
   (fun k=>kw ((r.body.getD i co).kind≠1)=jp∨((named (r.body.getD i co)).take k).any (fun t=>kw (cK .str m t 0=cK .str m r.head.rel 0))=jp) [] (.inr (by simp))
   (zW (zK (zK (zK trivial)))) fun k F hK=>?_
  refine zJ I I (fun d=>?_) fun d=>?_
  .have d:k<(named (r.body.getD i co)).length:=by simpa using d
   refine zJ I I (fun j=>?_) fun j=>?_
   .have j: ¬(r.body.getD i co).kind=1:=by simpa using j
    have hK:=hK.resolve_left (by simpa using j);refine zJ I I (fun u=>?_) fun u=>?_
    .have u:cK .str m ((named (r.body.getD i co)).getD k co) 0=cK .str m r.head.rel 0:=zT u;have C:vK m r (r.body.getD i co)=is:=by
      rw[vK,decide_eq_true j,Vo];exact DA d (decide_eq_true u)
     rw[ji,nr A x C];exact zU I
    .have u: ¬cK .str m ((named (r.body.getD i co)).getD k co) 0=cK .str m r.head.rel 0:=zF u;refine gA I ⟨d,.inr ((c7 hK d).2 (decide_eq_false u)),[],zW (zK (zK (zK ac)))⟩
   .have j:(r.body.getD i co).kind=1:=by simpa using j
    refine gA I ⟨d,.inl (decide_eq_false fun h=>h j),[],zW (zK (zK (zK ac)))⟩
  .have d:(named (r.body.getD i co)).length<=k:=by simpa using d
   have C:vK m r (r.body.getD i co)=jp:=by
    rcases hK with hK|hK
    .rw[vK,hK,Vc]
    .rw[vK,any_none hK d,Vy]
   refine gA I ⟨x,(c7 A x).2 C,[],zW (zK (zK ac))⟩
 have x:r.body.length<=i:=by simpa using x
 have B:r.body.find? (vK m r)=io:=lD (any_none A x);rw[ji,B];refine gA I (zp (SR r hb) ?_);refine gA I ?_;refine aG 0 r.head.ak.length (TB _) (fun k=>⟨[(1,.iv (wM m)),(2,.ptr 0 0),(4,.ptr 1 0),(9,.iv (strs (kM r))),(49,.iv (bp 5 r.head.ak Term.c)),(50,pI r.head.ak.length),(51,pI k)],[(0,dl (az r.c)),(1,dl (az fY.z.c))],2⟩) (fun k=>(r.head.ak.take k).any (vV m r)=jp) [] (by simp)
  (zW (zK (zK trivial))) fun k F hK=>?_
 refine zJ I I (fun d=>?_) fun d=>?_
 .have d:k<r.head.ak.length:=by simpa using d
  have no:vV m r (r.head.ak.getD k co)=jp->(r.head.ak.take (k+1)).any (vV m r)=jp:=(c7 hK d).2;refine zJ I I (fun j=>?_) fun j=>?_
  .have j:(r.head.ak.getD k co).kind=1:=zT j;refine gA I (zp (D2 (kM r) (r.head.ak.getD k co).var) ?_);refine zJ I I (fun u=>?_) fun u=>?_
   .have u:(!dU (kM r) (r.head.ak.getD k co).var)=is:=u;refine gA I (zp (Oh m r) ?_);refine zJ I I (fun y=>?_) fun y=>?_
    .have y:r.body.any (og m r)=is:=y;rw[am (DA d (by rw[vV,decide_eq_true j,u,y];rfl))];exact zU I
    .have y:r.body.any (og m r)=jp:=y;refine gA I ⟨d,no (by rw[vV,y,Vy]),[],zW (zK (zK ac))⟩
   .have u:(!dU (kM r) (r.head.ak.getD k co).var)=jp:=u;refine gA I ⟨d,no (by rw[vV,u,Vy,Vc]),[],zW (zK (zK ac))⟩
  .have j: ¬(r.head.ak.getD k co).kind=1:=zF j;refine gA I ⟨d,no (by rw[vV,decide_eq_false j,Vc,Vc]),[],zW (zK (zK ac))⟩
 .have d:r.head.ak.length<=k:=by simpa using d
  rw[be (by rw[any_none hK d];decide)];exact zU I
theorem find_congr{α:Type}{f g:α->Bool}: ∀{l:List α},(∀x∈l,f x=g x)->l.find? f=l.find? g
 | [],_=>rfl
 |x::l,h=>by
  rw[Xg,Xg,h x TJ,find_congr fun y d=>h y (TH _ d)]
theorem vo{α:Type}{f g:α->Bool}{l:List α}(h: ∀x∈l,f x=g x):l.any f=l.any g:=by
 rw[UN,UO,UO];exact⟨fun⟨x,hx,h1⟩=>⟨x,hx,by rw[<-h x hx];exact h1⟩,fun⟨x,hx,h1⟩=>⟨x,hx,by rw[h x hx];exact h1⟩⟩
theorem ym{p:Prog}{a:ae}(h:a∈p.aw.map Decl.name):a∈ns p:=by rw[ns,lq];exact h
theorem OC{p:Prog}(hf:s6 p){m:NM}(hR:Go.Rg.vz (ns p) (eg p) (fun a=>cK .str m a 0)){r:ar}(hr:r∈p.rules):r.body.any (og m r)=Bo p r:=by
 refine vo fun l j=>?_;rw[og];by_cases d:l.kind=1
 .have u:l.atom.rel∈named l:=by rw[qq,am (.inl d)];exact Vq _
  rw[r7 hR (ym (hf.lits r hr l j _ u)) (ym (hf.Db r hr))]
 .rw[decide_eq_false d];rfl
theorem E3{p:Prog}(hf:s6 p){m:NM}(hR:Go.Rg.vz (ns p) (eg p) (fun a=>cK .str m a 0)){r:ar}(hr:r∈p.rules):ji m r=xE p r:=by
 have d:r.body.find? (vK m r)=xP p r:=find_congr fun l u=>by
  rw[vK];congr 1;exact vo fun t x=>(r7 hR (ym (hf.lits r hr l u t x)) (ym (hf.Db r hr))).symm
 have j:r.head.ak.any (vV m r)=(rP r&&Bo p r):=by
  rw[<-OC hf hR hr,rP];have:vV m r=fun t=>(kw (t.kind=1)&&!dU (kM r) t.var)&&r.body.any (og m r):=rfl;rw[this];generalize r.body.any (og m r)=c;cases c<;>simp
 rw[ji,xE,d];cases xP p r with
 |some l=>rfl
 |none=>
  simp only[j,TZ]
theorem Ol(d:dE){p:Prog}(hb:p.fit)(h: ¬(ef p).1=0):Pure prog 93 [ag p.c] (.aZ [.iv (.v (.map io)),pB jp]):=by
 have:=MJ d p hb;rwa[uS,be h,decide_eq_false h]at this
theorem Oj(d:dE){p:Prog}(hb:p.fit)(h:(ef p).1=0):Pure prog 93 [ag p.c] (.aZ [.iv (w9 (cv p (c4 p))),pB is]):=by
 have:=MJ d p hb;rwa[uS,am h,decide_eq_true h]at this
theorem tU{α β:Type}(f:α->List β)(g:α->Nat)(h: ∀a,(f a).length<=g a): ∀l:List α,(l.flatMap f).length<=(l.map g).sum
 | []=>Tv _
 |a::l=>by
  have d:=tU f g h l;have j:=h a;rw[T9,Tn,TD,Vj];omega
theorem dM: ∀l:List Lit,Lit.an l=(l.map Lit.size).sum
 | []=>rfl
 |x::l=>by rw[Lit.an,dM l,TD,Vj]
theorem Ew{p:Prog}(hs:p.size<=10000000):(c4 p).length<=100000000:=by
 have d:=tU (fun r:ar=>r.body.flatMap fun l=>(named l).map fun t=>(r.head.rel,t,l9 l)) ar.size (fun r=>by
  have:=tU (fun l=>(named l).map fun t=>(r.head.rel,t,l9 l)) Lit.size (fun l=>by rw[T2];exact ll l) r.body;rw[<-dM]at this
  unfold ar.size;omega) p.rules
 unfold Prog.size at hs;show(p.rules.flatMap _).length<=_;omega
theorem Ow(F:dE)(p:Prog)(hb:p.fit)(hs:p.size<=10000000):Pure prog 44 [ag p.c] (ag (b7 p).c):=by
 by_cases B:(ef p).1=0;rotate_left
 .rw[b7,am B];refine ai ab func44 I (by decide) ntmps44 I (by simp) I ?_;refine gA I (zp (Ol F hb B) ?_);refine zE I I (fun C=>?_) fun C=>?_
  .cases C
  refine gA I (zp (c24 p hb) ?_);exact zU I
 have Y:=yF B;have a0:p.rules.length<=1000000000:=hb.2.1;rw[b7,be (by simpa using B)];refine ai ab func44 I (by decide) ntmps44 I (by simp) I ?_;refine gA I (zp (Oj F hb B) ?_);refine zJ I I (fun C=>?_) fun C=>?_
 .cases C
 refine gA I (oC [] (Oi F Y (Ew hs)) I I I I I I I ?_);rintro r h' n' ⟨m,hR,rfl,rfl,rfl⟩;refine⟨_,rfl,?_⟩;have Z:p.rules.map (ji m)=p.rules.map (xE p):=UX fun r hr=>E3 Y hR hr;rw[<-Z]
 have A: ∀i,i<p.rules.length->(p.rules.map (ji m)).getD i co=ji m (p.rules.getD i co):=fun i J=>by
  rw[Tr,Tu,Ts J,Tr,Ts J];rfl
 have u:(p.rules.map (ji m)).length=p.rules.length:=T2 _;refine gA I ?_;refine aG 0 p.rules.length (TB _) (fun i=>⟨[(1,.ptr 0 0),(2,.ptr 1 0),(5,.iv (wM m)),(21,.iv (bp 5 p.rules ar.c)),(22,pI p.rules.length),(23,pI i)],[(0,dl (az p.c)),(1,dl (az fY.z.c))],2⟩) (fun i=>((p.rules.map (ji m)).take i).any (fun d=>kw (d.1≠0))=jp) [] (by simp)
  (zW (zK (zK trivial))) fun i J D=>?_
 refine zJ I I (fun j=>?_) fun j=>?_
 .have j:i<p.rules.length:=by simpa using j
  have y:=hb.2.2 _ (lB j);have G:=A i j;refine gA I (zp (N9 m (p.rules.getD i co) y.1) ?_);refine zJ I I (fun x=>?_) fun x=>?_
  .have x: ¬(ji m (p.rules.getD i co)).1=0:=by simpa using x
   rw[nr D (by rw[u];exact j) (by rw[G];exact decide_eq_true x),G];exact zU I
  .have x:(ji m (p.rules.getD i co)).1=0:=by simpa using x
   refine gA I ⟨j,(c7 D (by rw[u];exact j)).2 (by rw[G];simpa using x),[],zW (zK (zK ac))⟩
 .have j:p.rules.length<=i:=by simpa using j
  rw[lD (any_none D (by rw[u];exact j))];exact zU I
end Go.Proofs.YtbhphmfbligliaaGreatDoor
namespace Go.Proofs.YtbhphmfbligliaaGreatDoor
open Go Go.Al Go.Proofs.Tryz Go.En
abbrev pV(n:Int):PV:= .iv (.v (.int .u32 n))
def Pp(s:Int):Int:=IntKind.u32.wrap ((BitVec.ofInt IntKind.u32.bits s&&&BitVec.ofInt IntKind.u32.bits 1).toNat:Int)
def Qt(s:Int):Int:=s.fdiv (2 ^ min (1:Int).toNat IntKind.u32.bits)
def DE(a b:Int):Int:=IntKind.u32.wrap ((BitVec.ofInt IntKind.u32.bits a ^^^ BitVec.ofInt IntKind.u32.bits b).toNat:Int)
def K3(s:Int):Int:=if Pp s=1 then DE (Qt s) 2197175160 else Qt s
def xx(s:Int):Nat->Int
 |0=>s
 |k+1=>K3 (xx s k)
def Dx(s:Int)(c:UInt8):Int:=xx (DE s (IntKind.u32.wrap (c.toNat:Int))) 8
def Qp(l:By):Int:=IntKind.u32.wrap ((BitVec.ofInt IntKind.u32.bits (if IntKind.u32.signed then-1 else IntKind.u32.max) ^^^ BitVec.ofInt IntKind.u32.bits (l.foldl Dx 4294967295)).toNat:Int)
theorem Sk(l:By)(hb:l.length<=1000000000):Pure prog 47 [.iv (bp 1 l bb)] (pV (Qp l)):=by
 refine ai ab func47 I (by decide) ntmps47 I (by simp) I ?_;refine gA I ?_;refine aG 0 l.length (TB _) (fun i=>⟨[(3,pV ((l.take i).foldl Dx 4294967295)),(7,.iv (bp 1 l bb)),(8,pI l.length),(9,pI i)],[],0⟩) (fun _=>True) [] ac
  (wk I I I (bi (bi (bi (bi trivial)))) trivial I) fun i A _=>?_
 refine gA I ?_;refine Tq (fun j=>?_) (fun j=>?_)
 .have j:i<l.length:=by simpa using j
  have y:=iG (g:=Dx) (b:=4294967295) j;generalize(l.take i).foldl Dx 4294967295=s at*
  refine gA I ?_;refine aG 0 8 (TB _) (fun k=>⟨[(3,pV (xx (DE s (IntKind.u32.wrap ((l.getD i co).toNat:Int))) k)),(7,.iv (bp 1 l bb)),(8,pI l.length),(9,pI i),(17,pI k)],[],0⟩) (fun _=>True) [] ac
   (wk I I I (bi (bi (bi (bi (bi trivial))))) trivial I) fun k B _=>?_
  have d:xx (DE s (IntKind.u32.wrap ((l.getD i co).toNat:Int))) (k+1)=K3 (xx (DE s (IntKind.u32.wrap ((l.getD i co).toNat:Int))) k):=rfl;refine gA I ?_;refine Tq (fun u=>?_) (fun u=>?_)
  .have u:k<8:=by have:(k:Int)<8:=of_decide_eq_true u;omega
   generalize xx (DE s (IntKind.u32.wrap ((l.getD i co).toNat:Int))) k=z at*
   refine gA I ?_;refine Tq (fun x=>?_) (fun x=>?_)
   .have x:Pp z=1:=of_decide_eq_true x;rw[K3,am x]at d;refine gA I ⟨u,ac,[],wk I I I ⟨.of_eq (by rw[d];rfl),rfl,bi (bi (bi (bi ac)))⟩ ac I⟩
   .have x: ¬Pp z=1:=of_decide_eq_false x;rw[K3,be x]at d;refine gA I ⟨u,ac,[],wk I I I ⟨.of_eq (by rw[d];rfl),rfl,bi (bi (bi (bi ac)))⟩ ac I⟩
  .have u:k=8:=by have: ¬(k:Int)<8:=of_decide_eq_false u;omega
   subst u;refine gA I ⟨j,ac,[],wk I I I ⟨.of_eq (by rw[y];rfl),rfl,bi (bi (bi ac))⟩ ac I⟩
 .have j:l.length<=i:=by simpa using j
  rw[TE j];refine gA I (bF I (eR (KR I I) I) ?_);rintro t rfl;refine gA I (aN (by first|exact .inr I|exact .inl I) I (.of_eq ?_));rfl
def uC(p:Prog):ae:=if(qi p.bare).bad=is then⟨#[]⟩ else⟨(qi p.bare).l.toArray⟩
def bn(p:Prog):Int:=Qp (uC p).data.toList
def oy(p:Prog):Int×Int:=if(b7 p).1=0 then(bn p,0) else(0,4)
theorem Eb(p:Prog):(qi p).l.length<=p.ts:=by
 have d:=pA p.aw WS.o p.aw.length (Tv _);have j:=oU p.rules (fP p.aw WS.o p.aw.length) p.rules.length (Tv _);have u:WS.o.l.length=0:=rfl;rw[Uj]at d j;rw[qi,Prog.ts];omega
mutual
theorem Lit.tt: ∀l:Lit,l.bare.ts=l.ts
 | .mk k a op l r f v o b x=>by rw[Lit.bare,Lit.ts,Lit.ts,Lit.vl b]
theorem Lit.vl: ∀l:List Lit,Lit.kj (Lit.il l)=Lit.kj l
 | []=>rfl
 |x::r=>by rw[Lit.il,Lit.kj,Lit.kj,Lit.tt x,Lit.vl r]
end
mutual
theorem Lit.rT: ∀l:Lit,l.bare.size=l.size
 | .mk k a op l r f v o b x=>by rw[Lit.bare,Lit.size,Lit.size,Lit.pF b]
theorem Lit.pF: ∀l:List Lit,Lit.an (Lit.il l)=Lit.an l
 | []=>rfl
 |x::r=>by rw[Lit.il,Lit.an,Lit.an,Lit.rT x,Lit.pF r]
end
theorem Prog.tt(p:Prog):p.bare.ts=p.ts:=by
 unfold Prog.ts;show((p.aw.map Decl.bare).map Decl.ts).sum+((p.rules.map ar.bare).map ar.ts).sum=_;rw[Ve,Ve];congr 2
 .refine UX fun r _=>?_
  show r.head.ts+Lit.kj (Lit.il r.body)+30=_;rw[Lit.vl];rfl
theorem Prog.rT(p:Prog):p.bare.size=p.size:=by
 unfold Prog.size;show(p.aw.map Decl.bare).length+((p.aw.map Decl.bare).map fun d=>d.types.length).sum+(p.rules.map ar.bare).length+((p.rules.map ar.bare).map ar.size).sum=_;rw[Ve,Ve,T2,T2];congr 2;refine UX fun r _=>?_;show r.head.ak.length+Lit.an (Lit.il r.body)=_;rw[Lit.pF];rfl
theorem FI(d:dE)(p:Prog)(hf:p.fit)(hs:p.size<=10000000)(u:p.ts<=800000000):Pure prog 24 [ag p.c] (.aZ [pV (oy p).1,pI (oy p).2]):=by
 have j:=Eb p.bare;rw[p.tt]at j;refine ai ab func24 I (by decide) ntmps24 I (by simp) I ?_;refine gA I (aP (Ow d p hf hs) I I I I I I ?_);refine gA I ?_;refine Tq (fun g=>?_) (fun g=>?_)
 .have g: ¬(b7 p).1=0:=by
   intro h;have g:(!kw ((b7 p).1=0))=is:=g;rw[h]at g;simp at g
  rw[oy,be g];refine gA I (aN (by first|exact .inr I|exact .inl I) I (.of_eq ?_));rfl
 .have g:(b7 p).1=0:=by
   have g:(!kw ((b7 p).1=0))=jp:=g;simpa using g
  rw[oy,am g];refine gA I (aP (Q9 p (by omega)) I I I I I I ?_);refine gA I (aP (Om p.bare (by rw[p.rT];omega) (by rw[p.tt];exact u)) I I I I I I ?_)
  refine gA I (w7 (b:=uC p) ab I I I I I I I I I I I (by
   show(uC p).size<=_;unfold uC;split
   .decide
   .show(qi p.bare).l.toArray.size<=_
    rw[VC];omega) ?_)
  have hT:(uC p).data.toList.length<=1000000000:=by
   unfold uC;split
   .decide
   .simp;omega
  refine gA I (aP (Sk (uC p).data.toList hT) I I I I I I ?_);refine gA I (aN (by first|exact .inr I|exact .inl I) I (.of_eq ?_));rfl
end Go.Proofs.YtbhphmfbligliaaGreatDoor
