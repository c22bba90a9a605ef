/-
  What the proofs of the claims need: part 4 of 5.
-/
import Derived.Test.YtbhphmfbligliaaGreatDoorPart3
import Derived.KernelRfl
import Derived.Test.YtbhphmfbligliaaGreatDoorRows
import Derived.WalkKit
import Derived.ProofKit
import Derived.OpenShut
import Derived.Deep.DeepHandedRow
import Derived.Lib.LaidTab
import Derived.LaidSub
import Derived.MakeChecks
import Derived.Test.YtbhphmfbligliaaGreatDoorCards
import Derived.Test.YtbhphmfbligliaaGreatDoorTie
open And renaming intro→S3
open Bool renaming and_eq_true→Tz,and_false→U9,eq_iff_iff→Uo,false_and→US,false_eq_true→Vp,not_eq_false'→Va,not_eq_true'→Ul,or_eq_false_iff→Vi,or_eq_true→U0,true_and→U5
open ByteArray renaming empty→Ta
open Classical renaming byContradiction→Uv
open Int renaming fdiv_eq_ediv_of_nonneg→Uu,le_refl→UL,ofNat_lt→Wj,toNat_natCast→S7
open List.Nodup renaming length_le_of_subset→UH
open List.Pairwise renaming imp→WJ
open List renaming all_append→WY,all_cons→VD,all_eq_true→TI,any_eq_false→Ud,any_eq_true→Uq,append_assoc→Tb,append_eq_nil_iff→Vr,append_nil→TC,concat_eq_append→VP,cons_append→Tu,drop_eq_getElem_cons→Vc,drop_zero→V4,eq_nil_of_length_eq_zero→TN,ext_getElem?→Vj,filter_cons→U6,find?_cons→WX,find?_eq_none→Vq,flatMap_append→UI,flatMap_cons→TJ,foldl_cons→TM,getD→V0,getD_cons_succ→Um,getD_eq_getElem?_getD→S4,getElem?_append_left→Th,getElem?_append_right→Ti,getElem?_cons_succ→Vn,getElem?_drop→Uc,getElem?_eq_getElem→S5,getElem?_eq_some_iff→S2,getElem?_map→S6,getElem?_reverse→Wr,getElem?_set→UJ,getElem?_take→TE,getElem?_zipWith→Ws,getElem_map→VT,getElem_mem→T8,length→Vg,length_append→S1,length_cons→Tr,length_drop→UP,length_eq_zero_iff→Uh,length_filter_le→Uz,length_map→TB,length_nil→Ur,length_pos_iff→Ui,length_reverse→U3,length_singleton→TU,length_take→TA,map_append→Tc,map_congr_left→Ux,map_cons→Tg,map_map→UN,map_nil→Tx,map_take→WC,mem_append→Ts,mem_append_left→TR,mem_append_right→Uy,mem_cons→Tt,mem_cons_of_mem→Tl,mem_cons_self→Tm,mem_filter→T5,mem_flatMap→VS,mem_iff_getElem→UQ,mem_map→Uf,mem_map_of_mem→VY,mem_of_getElem?→T7,mem_of_mem_take→Us,mem_range→U8,mem_singleton→Tk,mem_singleton_self→UZ,nil_append→TD,nodup_append→UK,nodup_cons→Ug,nodup_nil→T3,pairwise_append→Vx,pairwise_cons→Uw,range→TX,replicate→Vv,reverse_append→VX,reverse_cons→Vt,singleton_append→Wt,size_toArray→Vh,sum_cons→UY,take_append_drop→T9,take_append_of_le_length→Vo,take_length→TV,take_of_length_le→Tf,take_succ_cons→Un,take_zero→Vw,zipWith→Wl,zipWith_cons_cons→Wm
open Nat renaming add_assoc→Ua,add_mul→TP,beq→Tw,beq_refl→Wi,ble→UW,ble_eq_true_of_le→T6,blt→Tv,div_lt_iff_lt_mul→Wq,eq_of_beq_eq_true→Tn,eq_zero_or_pos→VH,le_of_ble_eq_true→SY,le_of_eq→WK,le_of_not_lt→UG,le_refl→S9,le_succ→UT,le_trans→TQ,lt_of_lt_of_le→UO,lt_or_ge→TZ,lt_succ_iff_lt_or_eq→VE,max_eq_right→WT,mod_eq_of_lt→Vy,mul_assoc→WB,mul_le_mul_right→Tq,not_lt_zero→Ve,pow_succ→VO,zero_add→Tp,zero_le→Te
open Option renaming bind_some→Wd,map_eq_none_iff→VK,map_eq_some_iff→S8
open Option.some renaming inj→Ub,injEq→S0
open Prod renaming fst→T2
set_option maxRecDepth 100000
open Bool renaming false→jp,true→is
open Decidable renaming decide→kw
open Inhabited renaming default→co
open Option renaming none→io,some→dl
open Array renaming getD_eq_getD_getElem?→SZ
open Array renaming range→V8
open Array renaming getElem?_map→U7
open Option renaming map_some→T4
open Option renaming getD_some→Uk
open Array renaming getElem?_eq_getElem→T1
open Array renaming append_assoc→VG
open Array renaming getElem?_append_left→TG
open Nat renaming sub_mul→Wu
open Array renaming getElem?_append_right→U4
open Array renaming getElem?_toList→TF
open Nat renaming add_comm→VL
open Array renaming toList_append→Vm
namespace Go.Proofs.YtbhphmfbligliaaGreatDoor
open Go Go.Al Go.Proofs.Tryz
theorem fa{P:Program}{nt:NT}{Q:AQ}{k:List KI}{s t:AS}{c:Code}(L:List Nat)(h0:Wk s.nx L s t)(h:GO P nt (.code c::k) Q t):GO P nt (.code c::k) Q s:=by
 intro M N a w x;exact AW.then h (h0.fits x) fun e B C j u s' A d y=>⟨j,u,s',(h0.ext (.refl _ _ _ _ _)).trans A,d,y⟩
theorem J6:dG .fj (oi []):=⟨id,fun M N U w j d=>⟨#[],0,d,⟨rfl,by simp,by simp,by simp,by simp⟩,.agg _ _ I fun j p d=>by
 match j,d with
 |0,d=>cases d;exact .v _
 |1,d=>cases d;exact .v _
 |j+2,d=>simp[cz.c]at d⟩⟩
theorem J7:dG .fj (ow []):=⟨id,fun M N U w j d=>⟨#[],0,d,⟨rfl,by simp,by simp,by simp,by simp⟩,eE M⟩⟩
def n6(s:ae):Expr:= .mk 1 s ⟨0,0,Ta⟩ 0 []
abbrev HQ(s:ae):PV:= .agg [pI 1,pS s,pI 0,pI 0,pS Ta,pI 0,.iv (.v (.slice io 0 0))]
theorem xC(s:ae):ak (HQ s) (ag (n6 s).c):= .agg ⟨.refl _,.refl _,.refl _,.refl _,.refl _,.refl _,.nil _ _,ac⟩
theorem kS(s:ae):(n6 s).size=1:=rfl
def vI(r:aq)(i:Int)(t:TS)(f:Int)(v:ae)(o:Expr):TS:=
 if f=2 then(t.add (gh r i i o)).add (gh r i i (n6 v)) else if f=1 then t.add (gh r i i (n6 v)) else iF r i i t (n6 v) o
def pe(p:Prog)(r:aq)(i:Int)(t:TS)(d:List Lit):Nat->TS
 |0=>t
 |k+1=>ob p r i i (pe p r i t d k) (d.getD k co)
def stepT(p:Prog)(r:aq)(i:Int)(t:TS)(l:Lit):TS:=
 if l.kind=4 then pe p r i (vI r i t l.dP l.bH l.j7) l.ay l.ay.length else ob p r i (-1) t l
def TS.o:TS:=⟨[],[],[]⟩
def eL(p:Prog)(r:aq):Nat->TS
 |0=>TS.o.add (gj p r r.head (-1) (-1) r.head.aj.length)
 |k+1=>stepT p r k (eL p r k) (r.body.getD k co)
def cR(d:UM)(m:KM)(w:Want):KM:=if w.has=0∧cI (.si .i64) m (bV d w.at_) 0=0 then cH (.si .i64) m (bV d w.at_) w.kind else m
def mG(p:Prog)(r:aq):TS:=⟨(eL p r r.body.length).up,(eL p r r.body.length).ws,(eL p r r.body.length).ws.foldl (cR (eL p r r.body.length).up) []⟩
theorem EV(r:aq)(i:Int){t:TS}(ok:il t.up)(f:Int)(v:ae)(o:Expr):il (vI r i t f v o).up:=by
 unfold vI
 repeat' split
 .exact ok
 .exact ok
 .exact AY r i i ok _ _
theorem An(p:Prog)(r:aq)(i:Int){t:TS}(ok:il t.up)(d:List Lit): ∀k,il (pe p r i t d k).up
 |0=>ok
 |k+1=>Gk p r i i (An p r i ok d k) _
theorem Ji(p:Prog)(r:aq)(i:Int){t:TS}(ok:il t.up)(l:Lit):il (stepT p r i t l).up:=by
 unfold stepT;split
 .exact An p r i (EV r i ok _ _ _) _ _
 .exact Gk p r i (-1) ok l
theorem yH(p:Prog)(r:aq): ∀k,il (eL p r k).up
 |0=>trivial
 |k+1=>Ji p r k (yH p r k) _
theorem vq(r:aq)(lit w:Int)(t:TS)(a b:Expr):(iF r lit w t a b).kind=t.kind:=by
 have d: ∀(t:TS) u v,(vJ t u v).kind=t.kind:=fun t u v=>by unfold vJ;split<;>rfl
 have j: ∀(t:TS) x y,(gk r lit w t x y).kind=t.kind:=fun t x y=>by
  unfold gk;split
  .exact d _ _ _
  .rfl
 unfold iF;split<;>exact j _ _ _
theorem Ag(p:Prog)(r:aq)(lit w:Int)(t:TS)(l:Lit):(ob p r lit w t l).kind=t.kind:=by
 unfold ob
 repeat' split
 .rfl
 .exact vq r lit w t _ _
 .rfl
 .rfl
theorem CZ(p:Prog)(r:aq)(i:Int)(t:TS)(d:List Lit): ∀k,(pe p r i t d k).kind=t.kind
 |0=>rfl
 |k+1=>by rw[pe,Ag,CZ p r i t d k]
theorem DE(p:Prog)(r:aq)(i:Int)(t:TS)(l:Lit):(stepT p r i t l).kind=t.kind:=by
 unfold stepT;split
 .rw[CZ];unfold vI
  repeat' split
  .rfl
  .rfl
  .exact vq r i i t _ _
 .exact Ag p r i (-1) t l
theorem xr(p:Prog)(r:aq): ∀k,(eL p r k).kind=[]
 |0=>rfl
 |k+1=>by rw[eL,DE,xr p r k]
theorem B8(r:aq)(i:Int)(t:TS)(f:Int)(v:ae)(o:Expr):(vI r i t f v o).ws.length<=t.ws.length+o.size+2:=by
 have u:=gZ r i i o;have d:=gZ r i i (n6 v);have j:=xy r i i t (n6 v) o;rw[kS]at d j;unfold vI
 repeat' split
 .show((t.ws++_)++_).length<=_;rw[S1,S1];omega
 .show(t.ws++_).length<=_;rw[S1];omega
 .omega
theorem iM: ∀(l:List Lit) (i:Nat),i<l.length->Lit.au (l.take i)+(l.getD i co).size<=Lit.au l
 | [],i,h=>by simp at h
 |s::r,0,_=>by simp[Lit.au]
 |s::r,i+1,h=>by
  have:=iM r i (by simpa using h);simp only[Un,Um,Lit.au];omega
theorem Lit.tX(l:List Lit)(i:Nat)(h:i<l.length):Lit.au (l.take (i+1))=Lit.au (l.take i)+(l.getD i co).size:=by
 rw[bb h];have: ∀(a:List Lit) (b:Lit),Lit.au (a++ [b])=Lit.au a+b.size:=by
  intro a b
  induction a with
  |nil=>simp[Lit.au]
  |cons x r ih=>simp only[Tu,Lit.au,ih];omega
 exact this _ _
theorem uM(p:Prog)(r:aq)(i:Int)(t:TS)(d:List Lit): ∀k,k<=d.length->(pe p r i t d k).ws.length<=t.ws.length+Lit.au (d.take k)
 |0,_=>by simp[pe,Lit.au]
 |k+1,h=>by
  have j:=uM p r i t d k (by omega);have u:=CN p r i i (pe p r i t d k) (d.getD k co);rw[pe,Lit.tX d k (by omega)];omega
theorem Fi(p:Prog)(r:aq)(i:Int)(t:TS)(l:Lit):(stepT p r i t l).ws.length<=t.ws.length+l.size:=by
 have j:=l.size_eq;unfold stepT;split
 .have d:=uM p r i (vI r i t l.dP l.bH l.j7) l.ay l.ay.length (S9 _);have u:=B8 r i t l.dP l.bH l.j7;rw[TV]at d;omega
 .exact CN p r i (-1) t l
theorem vi(p:Prog)(r:aq): ∀k,k<=r.body.length->(eL p r k).ws.length<=r.head.aj.length+Lit.au (r.body.take k)
 |0,_=>by
  have:=mn p r r.head (-1) (-1) r.head.aj.length;show([]++_).length<=_;simp only[TD];omega
 |k+1,h=>by
  have d:=vi p r k (by omega);have j:=Fi p r k (eL p r k) (r.body.getD k co);rw[eL,Lit.tX r.body k (by omega)];omega
theorem Sq(r:aq)(d:UM)(kd:KM)(W:IV)(v0:cz)(ok:il d):bB prog 268 [.ptr 0 0,ag v0.c] [.cells [.iv (cF r),.mp 1,.iv W,.mp 2],oi d,ow kd] (ag (bV d v0).c) [(0,dl (.cells [.iv (cF r),.mp 1,.iv W,.mp 2])),(1,dl (oi d)),(2,dl (ow kd))] 3:=by
 refine an ab func268 I (by decide) ntmps268 I (by simp) ?_;refine gA I ?_
 refine ly (σ:={v:cz//bV d v=bV d v0}) (fun v=>⟨[(0,.ptr 0 0),(3,.ptr 3 0),(4,.ptr 4 0)],
  [(0,dl (.cells [.iv (cF r),.mp 1,.iv W,.mp 2])),(1,dl (oi d)),(2,dl (ow kd)),(3,dl (.cells [pS v.1.1,pI v.1.2])),(4,dl (.cells [pS ⟨#[]⟩,pI 0]))],5⟩) (fun v=>Dw d v.1) ⟨v0,rfl⟩ []
  (zW (zO (zC (zC ⟨⟨_,rfl,.of_eq I⟩,SY I,rfl,⟨_,rfl,.of_eq I⟩,SY I,rfl,ac⟩)))) fun v=>?_
 obtain⟨v,j⟩:=v;refine zJ I I (fun g=>?_) fun g=>?_
 .have h:cY (.si .i64) d v=jp:=by simpa using g
  have e:bV d v0=v:=by rw[<-j];exact pZ d v h
  refine gA I (zD [] I (zM ⟨.of_eq (congrArg (fun x:cz=>ag x.c) e.symm),rfl,ac⟩ (zO (zC (zC ac)))))
 .have h:cY (.si .i64) d v=is:=by simpa using g
  obtain⟨u,y⟩:=mK d v ok h;refine gA I ⟨⟨cI (.si .i64) d v cz.z,u.trans j⟩,[],y,zW (zO (zC (zC ⟨⟨_,rfl,.of_eq I⟩,SY I,rfl,⟨_,rfl,.of_eq I⟩,SY I,rfl,ac⟩)))⟩
set_option maxHeartbeats 2000000 in
theorem c49(p:Prog)(r:aq)(hb:r.size<=100000000):Pure prog 222 [.iv (cT p),.iv (cF r)] (.iv (Nr r (mG p r))):=by
 unfold aq.size at hb;have c0:=Lit.aA r.body;have j0:r.body.length<=Lit.au r.body:=c0;refine ai ab func222 I (by decide) ntmps222 I (by simp) I ?_;refine gM 14 I (fb 2 2 5 I I ?_);refine fa [] (t:=⟨[(0,.iv (cT p)),(1,.iv (cF r)),(5,.ptr 2 0)],[(2,dl (TS.cell r 0 3 TS.o.ws.length 1)),(0,dl (oi TS.o.up)),(3,dl (aY 5 TS.o.ws Want.c)),(1,dl (ow TS.o.kind))],4⟩)
  (zW ⟨⟨_,rfl,.of_eq I⟩,SY I,rfl,⟨_,rfl,J6⟩,SY I,ac,⟨_,rfl,.of_eq I⟩,SY I,cP _,⟨_,rfl,J7⟩,SY I,ac,ac⟩) ?_
 refine gA I (Ap (d90 p r TS.o r.head (-1) (-1) (by show 0+_<=_;omega)) I I I I I I I (by first|rfl|(rw[S1];rfl)|simp) (by first|rfl|(rw[Tc];rfl)|(simp only[Tc,Tb];rfl)) I I I I I I ?_);refine gA I ?_
 refine aJ 0 r.body.length (Te _) (fun i=>⟨[(0,.iv (cT p)),(1,.iv (cF r)),(5,.ptr 2 0),(31,.iv (lits r.body)),(32,pI r.body.length),(33,pI i)],
  [(2,dl (TS.cell r 0 5 (eL p r i).ws.length 1)),(0,dl (oi (eL p r i).up)),(5,dl (aY 5 (eL p r i).ws Want.c)),(1,dl (ow (eL p r i).kind))],6⟩) (fun _=>True) _ ac
  (K0 (t:=eL p r 0) I I I I I I I I I I I (bi (bi (bi (bi (bi (bi trivial))))))) fun i hi _=>?_
 have g0:=vi p r i hi;have B:=yH p r i;refine zJ I I (fun y=>?_) fun y=>?_
 .have y:i<r.body.length:=by simpa using y
  have l0:=iM r.body i y;have F:eL p r (i+1)=stepT p r i (eL p r i) (r.body.getD i co):=rfl;generalize eL p r i=t1 at*
  have m0:=(r.body.getD i co).size_eq;refine zJ I I (fun D=>?_) fun D=>?_
  .have D: ¬(r.body.getD i co).kind=4:=by have g:(!kw ((r.body.getD i co).kind=4))=is:=D;simpa only[Ul,decide_eq_false_iff_not]using g
   have hS:stepT p r i t1 (r.body.getD i co)=ob p r i (-1) t1 (r.body.getD i co):=be D;rw[hS]at F;refine gA I (C6 (d91 p r t1 (r.body.getD i co) i (-1) B (by omega)) ?_);refine gA I ⟨y,ac,_,oH (F.symm)⟩
  have D:(r.body.getD i co).kind=4:=by have g:(!kw ((r.body.getD i co).kind=4))=jp:=D;simpa only[Va,decide_eq_true_eq]using g
  have hS:stepT p r i t1 (r.body.getD i co)=pe p r i (vI r i t1 (r.body.getD i co).dP (r.body.getD i co).bH (r.body.getD i co).j7) (r.body.getD i co).ay (r.body.getD i co).ay.length:=am D;rw[hS]at F;have hV:vI r i t1 (r.body.getD i co).dP (r.body.getD i co).bH (r.body.getD i co).j7=if(r.body.getD i co).dP=2 then(t1.add (gh r i i (r.body.getD i co).j7)).add (gh r i i (n6 (r.body.getD i co).bH)) else if(r.body.getD i co).dP=1 then t1.add (gh r i i (n6 (r.body.getD i co).bH)) else iF r i i t1 (n6 (r.body.getD i co).bH) (r.body.getD i co).j7:=rfl;have C:=EV r i B (r.body.getD i co).dP (r.body.getD i co).bH (r.body.getD i co).j7;have i0:=B8 r i t1 (r.body.getD i co).dP (r.body.getD i co).bH (r.body.getD i co).j7;have b0:=Lit.aA (r.body.getD i co).ay;have n0:=kS (r.body.getD i co).bH;have k0:=gZ r i i (r.body.getD i co).j7;generalize vI r i t1 (r.body.getD i co).dP (r.body.getD i co).bH (r.body.getD i co).j7=V at*
  refine zJ I I (fun f2=>?_) fun f2=>?_
  .have f2:(r.body.getD i co).dP=2:=zT f2;have Z:V=(t1.add (gh r i i (r.body.getD i co).j7)).add (gh r i i (n6 (r.body.getD i co).bH)):=by rw[hV,am f2]
   refine gA I (C6 (G8 r t1 (r.body.getD i co).j7 i i (by omega)) ?_);refine gA I (Ap (bB.le (aa:=[.ptr 0 0,HQ (r.body.getD i co).bH,pI i,pI i]) (G8 r (t1.add (gh r i i (r.body.getD i co).j7)) (n6 (r.body.getD i co).bH) i i (by show(t1.ws++_).length+_<=_;rw[S1,kS];omega)) ⟨.refl _,xC _,.refl _,.refl _,ac⟩) I I I I I I I (by first|rfl|(rw[S1];rfl)|simp) (by first|rfl|(rw[Tc];rfl)|(simp only[Tc,Tb];rfl)) I I I I I I ?_);refine gA I ?_;refine aJ 0 (r.body.getD i co).ay.length (Te _) (fun k=>⟨[(0,.iv (cT p)),(1,.iv (cF r)),(5,.ptr 2 0),(6,pI i),(31,.iv (lits r.body)),(32,pI r.body.length),(33,pI i),(79,.iv (lits (r.body.getD i co).ay)),(80,pI (r.body.getD i co).ay.length),(81,pI k)],[(2,dl (TS.cell r 0 10 (pe p r i V (r.body.getD i co).ay k).ws.length 1)),(0,dl (oi (pe p r i V (r.body.getD i co).ay k).up)),(10,dl (aY 5 (pe p r i V (r.body.getD i co).ay k).ws Want.c)),(1,dl (ow (pe p r i V (r.body.getD i co).ay k).kind))],11⟩) (fun _=>True) _ ac
    (K0 Z.symm I I I I I I I I I I (bi (bi (bi (bi (bi (bi (bi ⟨.iv (mW _),rfl,bi (bi trivial)⟩)))))))) fun k u _=>?_
   have G:=uM p r i V (r.body.getD i co).ay k u;have j:=An p r i C (r.body.getD i co).ay k;have J:pe p r i V (r.body.getD i co).ay (k+1)=ob p r i i (pe p r i V (r.body.getD i co).ay k) ((r.body.getD i co).ay.getD k co):=rfl;refine zJ I I (fun d=>?_) fun d=>?_
   .have d:k<(r.body.getD i co).ay.length:=zN d;have Y:=iM (r.body.getD i co).ay k d;refine gA I (C6 (d91 p r (pe p r i V (r.body.getD i co).ay k) ((r.body.getD i co).ay.getD k co) i i j (by omega)) ?_);refine gA I ⟨d,ac,_,oH (rfl)⟩
   .have d:(r.body.getD i co).ay.length<=k:=zG d;have x:k=(r.body.getD i co).ay.length:=by omega
    subst x;refine gA I ⟨y,ac,_,oH (F.symm)⟩
  have f2: ¬(r.body.getD i co).dP=2:=zF f2;rw[be f2]at hV;refine zJ I I (fun f1=>?_) fun f1=>?_
  .have f1:(r.body.getD i co).dP=1:=zT f1;have Z:V=t1.add (gh r i i (n6 (r.body.getD i co).bH)):=by rw[hV,am f1]
   refine gA I (C6 (bB.le (aa:=[.ptr 0 0,HQ (r.body.getD i co).bH,pI i,pI i]) (G8 r t1 (n6 (r.body.getD i co).bH) i i (by rw[kS];omega)) ⟨.refl _,xC _,.refl _,.refl _,ac⟩) ?_);refine gA I ?_;refine aJ 0 (r.body.getD i co).ay.length (Te _) (fun k=>⟨[(0,.iv (cT p)),(1,.iv (cF r)),(5,.ptr 2 0),(6,pI i),(31,.iv (lits r.body)),(32,pI r.body.length),(33,pI i),(79,.iv (lits (r.body.getD i co).ay)),(80,pI (r.body.getD i co).ay.length),(81,pI k)],[(2,dl (TS.cell r 0 9 (pe p r i V (r.body.getD i co).ay k).ws.length 1)),(0,dl (oi (pe p r i V (r.body.getD i co).ay k).up)),(9,dl (aY 5 (pe p r i V (r.body.getD i co).ay k).ws Want.c)),(1,dl (ow (pe p r i V (r.body.getD i co).ay k).kind))],10⟩) (fun _=>True) _ ac
    (K0 Z.symm I I I I I I I I I I (bi (bi (bi (bi (bi (bi (bi ⟨.iv (mW _),rfl,bi (bi trivial)⟩)))))))) fun k u _=>?_
   have G:=uM p r i V (r.body.getD i co).ay k u;have j:=An p r i C (r.body.getD i co).ay k;have J:pe p r i V (r.body.getD i co).ay (k+1)=ob p r i i (pe p r i V (r.body.getD i co).ay k) ((r.body.getD i co).ay.getD k co):=rfl;refine zJ I I (fun d=>?_) fun d=>?_
   .have d:k<(r.body.getD i co).ay.length:=zN d;have Y:=iM (r.body.getD i co).ay k d;refine gA I (C6 (d91 p r (pe p r i V (r.body.getD i co).ay k) ((r.body.getD i co).ay.getD k co) i i j (by omega)) ?_);refine gA I ⟨d,ac,_,oH (rfl)⟩
   .have d:(r.body.getD i co).ay.length<=k:=zG d;have x:k=(r.body.getD i co).ay.length:=by omega
    subst x;refine gA I ⟨y,ac,_,oH (F.symm)⟩
  .have f1: ¬(r.body.getD i co).dP=1:=zF f1;have Z:V=iF r i i t1 (n6 (r.body.getD i co).bH) (r.body.getD i co).j7:=by rw[hV,be f1]
   refine gA I (C6 (bB.le (aa:=[.ptr 0 0,HQ (r.body.getD i co).bH,ag (r.body.getD i co).j7.c,pI i,pI i]) (d93 r t1 (n6 (r.body.getD i co).bH) (r.body.getD i co).j7 i i B (by rw[kS];omega)) ⟨.refl _,xC _,.refl _,.refl _,.refl _,ac⟩) ?_);refine gA I ?_;refine aJ 0 (r.body.getD i co).ay.length (Te _) (fun k=>⟨[(0,.iv (cT p)),(1,.iv (cF r)),(5,.ptr 2 0),(6,pI i),(31,.iv (lits r.body)),(32,pI r.body.length),(33,pI i),(79,.iv (lits (r.body.getD i co).ay)),(80,pI (r.body.getD i co).ay.length),(81,pI k)],[(2,dl (TS.cell r 0 9 (pe p r i V (r.body.getD i co).ay k).ws.length 1)),(0,dl (oi (pe p r i V (r.body.getD i co).ay k).up)),(9,dl (aY 5 (pe p r i V (r.body.getD i co).ay k).ws Want.c)),(1,dl (ow (pe p r i V (r.body.getD i co).ay k).kind))],10⟩) (fun _=>True) _ ac
    (K0 Z.symm I I I I I I I I I I (bi (bi (bi (bi (bi (bi (bi ⟨.iv (mW _),rfl,bi (bi trivial)⟩)))))))) fun k u _=>?_
   have G:=uM p r i V (r.body.getD i co).ay k u;have j:=An p r i C (r.body.getD i co).ay k;have J:pe p r i V (r.body.getD i co).ay (k+1)=ob p r i i (pe p r i V (r.body.getD i co).ay k) ((r.body.getD i co).ay.getD k co):=rfl;refine zJ I I (fun d=>?_) fun d=>?_
   .have d:k<(r.body.getD i co).ay.length:=zN d;have Y:=iM (r.body.getD i co).ay k d;refine gA I (C6 (d91 p r (pe p r i V (r.body.getD i co).ay k) ((r.body.getD i co).ay.getD k co) i i j (by omega)) ?_);refine gA I ⟨d,ac,_,oH (rfl)⟩
   .have d:(r.body.getD i co).ay.length<=k:=zG d;have x:k=(r.body.getD i co).ay.length:=by omega
    subst x;refine gA I ⟨y,ac,_,oH (F.symm)⟩
 .have y:r.body.length<=i:=by simpa using y
  have d0:i=r.body.length:=by omega
  subst d0;have hT:mG p r=⟨(eL p r r.body.length).up,(eL p r r.body.length).ws,(eL p r r.body.length).ws.foldl (cR (eL p r r.body.length).up) []⟩:=rfl;rw[hT];rw[TV]at g0;have f0:(eL p r r.body.length).kind=[]:=xr p r _;generalize eL p r r.body.length=t1 at*
  have a0:t1.kind=(t1.ws.take 0).foldl (cR t1.up) []:=f0;refine gA I ?_;refine ft 5 (fun k=>Want.c (t1.ws.getD k co)) I (dB I) (by simp[AF.iR,PV.bg,kP]) ⟨(by simp[AO.iR,bf,PV.bg]),ac,db _ _ _ _ _ _,ac,ac⟩ ?_
  refine aJ 0 t1.ws.length (Te _) (fun i=>⟨[(5,.ptr 2 0),(96,.iv (bz 5 t1.ws Want.c)),(97,pI t1.ws.length),(98,pI i)],
   [(2,dl (.cells [.iv (cF r),.mp 0,.iv (bz 5 t1.ws Want.c),.mp 1])),(0,dl (oi t1.up)),(1,dl (ow ((t1.ws.take i).foldl (cR t1.up) [])))],6⟩) (fun _=>True) [] ac
   (zM (bi ⟨.bW I (fun k _=>by rw[Tp]),rfl,bi (bi trivial)⟩) ⟨⟨_,rfl,.cells ⟨.refl _,.refl _,.bW I (fun k _=>by rw[Tp]),.refl _,ac⟩⟩,SY I,rfl,zC (hM I a0 I trivial)⟩) fun i hi _=>?_
  refine zJ I I (fun d=>?_) fun d=>?_
  .have d:i<t1.ws.length:=zN d;have A:=iB (g:=cR t1.up) (b:=[]) d;refine gA I (zq [2,0,1] (Sq r t1.up ((t1.ws.take i).foldl (cR t1.up) []) (bz 5 t1.ws Want.c) (t1.ws.getD i co).at_ B) ?_);refine zJ I I (fun g1=>?_) fun g1=>?_
   .have g1:(t1.ws.getD i co).has=0:=zT g1;refine zJ I I (fun g2=>?_) fun g2=>?_
    .have g2:cI (.si .i64) ((t1.ws.take i).foldl (cR t1.up) []) (bV t1.up (t1.ws.getD i co).at_) 0=0:=zT g2;have u:cR t1.up ((t1.ws.take i).foldl (cR t1.up) []) (t1.ws.getD i co)=cH (.si .i64) ((t1.ws.take i).foldl (cR t1.up) []) (bV t1.up (t1.ws.getD i co).at_) (t1.ws.getD i co).kind:=am ⟨g1,g2⟩;rw[u]at A;refine gA I ⟨d,ac,[],zW (zO (zC (hM I (by first|exact A.symm|(rw[A];rfl)) I ac)))⟩
    .have g2: ¬cI (.si .i64) ((t1.ws.take i).foldl (cR t1.up) []) (bV t1.up (t1.ws.getD i co).at_) 0=0:=zF g2;have u:cR t1.up ((t1.ws.take i).foldl (cR t1.up) []) (t1.ws.getD i co)=(t1.ws.take i).foldl (cR t1.up) []:=be fun h=>g2 h.2;rw[u]at A;refine gA I ⟨d,ac,[],zW (zO (zC (hM I (by first|exact A.symm|(rw[A];rfl)) I ac)))⟩
   .have g1: ¬(t1.ws.getD i co).has=0:=zF g1;have u:cR t1.up ((t1.ws.take i).foldl (cR t1.up) []) (t1.ws.getD i co)=(t1.ws.take i).foldl (cR t1.up) []:=be fun h=>g1 h.1;rw[u]at A;refine gA I ⟨d,ac,[],zW (zO (zC (hM I (by first|exact A.symm|(rw[A];rfl)) I ac)))⟩
  .have d:t1.ws.length<=i:=zG d;have e0:t1.ws.take i=t1.ws:=Tf d;refine ik I ac (iJ (.inr I) I (.map 0 I (.map 1 I (.cells 2 _ I (show _=List.map PV.iv [cF r,upI t1.up,bz 5 t1.ws Want.c,kdI (t1.ws.foldl (cR t1.up) [])] by rw[e0];rfl) (.done (.of_eq I))))))
def tt(a:Atom):Bool:=(gT WS.o a).bad
def rz(l:Lit):Bool:=(dF l.size l WS.o).bad
def tD(l:Lit):Bool:=kw (l.kind=4)&&kw ((l.ay.length:Int)>12)
def iq(n:Nat):List Int:=(TX (n+1)).map fun k:Nat=>(k:Int)-1
theorem ry(n:Nat):(iq n).length=n+1:=by simp[iq]
theorem wT(n k:Nat)(h:k<n+1):(iq n).getD k co=(k:Int)-1:=by simp[iq,h]
def BO(f:Int->Bool)(n:Nat):Option Int:=(iq n).find? f
abbrev fV:=Int×Pos
def fV.c(d:fV):List IV:=[iI d.1,iI d.2.line,iI d.2.HM]
def mU(r:aq)(e:Int)(f:Int->Bool)(k:fV):fV:=match BO f r.body.length with
 |some lit=>(e,rk r lit)
 |none=>k
def ym(p:Prog)(r:aq):fV:=
 mU r 61 (fun lit=>(fo r lit).any fun x=>vw p x)<|mU r 62 (fun lit=>(fo r lit).any fun x=>yJ p x)<|mU r 65 (lM r)<|mU r 63 (qQ (mG p r))<|mU r 64 (kL r) (0,⟨0,0⟩)
def rZ(p:Prog)(r:aq)(n:Int):fV:=
 if tt r.head=is then(1,r.at_) else match r.body.find? rz with
 |some l=>(1,l.at)
 |none=>if n>256∨(r.body.length:Int)>12 then(66,r.at_) else if(Fm r:Int)>24 then(66,r.at_) else match r.body.find? tD with
  |some l=>(66,l.at)
  |none=>ym p r
def aq.fit(r:aq):Prop:=r.size<=10000000∧r.head.ts<=900000000∧ ∀l∈r.body,l.ts<=900000000
theorem lB{α:Type}{p:α->Bool}{l:List α}(h:l.any p=jp):l.find? p=io:=by
 rw[Vq];intro x d;have:=Ud.1 h x d;simpa using this
theorem nk{α:Type}[Inhabited α]{p:α->Bool}{l:List α}{i:Nat}(h:(l.take i).any p=jp)(hi:i<l.length)(hp:p (l.getD i co)=is):l.find? p=dl (l.getD i co):=by
 have d:l.getD i co=l[i]:=by simp[hi]
 rw[d]at hp ⊢;rw[List.find?_eq_some_iff_getElem];refine⟨hp,i,hi,rfl,fun j u=>?_⟩;have:=Ud.1 h l[j] (List.mem_iff_getElem?.2 ⟨j,by rw[TE,am u,S5 (by omega)]⟩);simpa using this
def iU(p:Prog)(r:aq):List (List PV):=[[pI 61,.cJ (.func 214) [] [.ptr 1 0,.ptr 0 0]],[pI 62,.cJ (.func 218) [] [.ptr 1 0,.ptr 0 0]],[pI 65,.cJ (.func 220) [] [.ptr 1 0]],[pI 63,.cJ (.func 223) [.iv (Nr r (mG p r))] []],[pI 64,.cJ (.func 224) [.iv (cF r)] []]]
theorem cC(p:Prog)(r:aq)(n:Nat)(h:Tv 1 n=is):(AO.row 2 (iU p r)).low n:=by
 have j:Tv 0 n=is:=T6 (by have:=SY h;omega);intro k e d
 match k,d with
 |0,d=>cases d;simp[bA,PV.low,h,j]
 |1,d=>cases d;simp[bA,PV.low,h,j]
 |2,d=>cases d;simp[bA,PV.low,h,j]
 |3,d=>cases d;simp[bA,PV.low,h,j]
 |4,d=>cases d;simp[bA,PV.low,h,j]
 |k+5,d=>simp[iU]at d
theorem mT{r:aq}{e:Int}{f:Int->Bool}{k:fV}{i:Nat}(j:((iq r.body.length).take i).any f=jp)(hi:i<r.body.length+1)(h:f ((i:Int)-1)=is):mU r e f k=(e,rk r ((i:Int)-1)):=by
 have d:=wT r.body.length i hi;have:=nk j (by rw[ry];exact hi) (by rw[d];exact h);rw[d]at this;rw[mU,BO,this]
theorem ll{r:aq}{e:Int}{f:Int->Bool}{k:fV}{i:Nat}(d:((iq r.body.length).take i).any f=jp)(hi:r.body.length+1<=i):mU r e f k=k:=by
 rw[Tf (by rw[ry];exact hi)]at d;rw[mU,BO,lB d]
theorem lk{r:aq}{f:Int->Bool}{i:Nat}(d:((iq r.body.length).take i).any f=jp)(hi:i<r.body.length+1)(h:f ((i:Int)-1)=jp):((iq r.body.length).take (i+1)).any f=jp:=by
 refine(c5 d (by rw[ry];exact hi)).2 ?_;rw[wT _ _ hi];exact h
set_option maxHeartbeats 4000000 in
theorem c65(p:Prog)(r:aq)(n:Int)(hb:r.fit):Pure prog 172 [.iv (cT p),ag r.c,pI n] (ag (rZ p r n).c):=by
 obtain⟨hb,J,Y⟩:=hb;have c0:r.size=r.head.aj.length+Lit.au r.body:=rfl;have a0:=Lit.aA r.body;refine ai ab func172 I (by decide) ntmps172 I (by simp) I ?_;refine gA I (zp (c61 r.head J) ?_);refine zJ I I (fun g1=>?_) fun g1=>?_
 .have g1:tt r.head=is:=by
   cases h:tt r.head with
   |true=>rfl
   |false=>
    have h:(gT WS.o r.head).bad=jp:=h;rw[h]at g1;simp at g1
  rw[rZ,am g1];exact zU I
 have g1: ¬tt r.head=is:=by
  intro h;have h:(gT WS.o r.head).bad=is:=h;rw[h]at g1;simp at g1
 rw[rZ,be g1];refine gA I ?_;refine aJ 0 r.body.length (Te _) (fun i=>⟨[(2,pI n),(3,.ptr 0 0),(4,.ptr 1 0),(6,.ptr 2 0),(32,.iv (lits r.body)),(33,pI r.body.length),(34,pI i)],[(0,dl (.cells [.iv (cT p)])),(1,dl (aD r.c)),(2,dl (.cells [pI 0,pI 0,pI 0]))],3⟩) (fun i=>(r.body.take i).any rz=jp) [] (by simp)
  (zW ⟨⟨_,rfl,.of_eq I⟩,SY I,rfl,⟨_,rfl,.of_eq I⟩,SY I,rfl,⟨_,rfl,.of_eq I⟩,SY I,rfl,ac⟩) fun i hi u=>?_
 refine zJ I I (fun B=>?_) fun B=>?_
 .have B:i<r.body.length:=zN B;have G:=c5 u B;have hm:r.body.getD i co∈r.body:=by rw[S4,S5 B];exact T8 B
  have b0:=Lit.b6 r.body i B;refine gA I (aG (SM (r.body.getD i co) (Y _ hm) (by omega)) I I I I I I ?_);refine zJ I I (fun A=>?_) fun A=>?_
  .have A:rz (r.body.getD i co)=is:=by
    cases h:rz (r.body.getD i co) with
    |true=>rfl
    |false=>
     have h:(dF (r.body.getD i co).size (r.body.getD i co) WS.o).bad=jp:=h;have g:(!kw ((if(dF (r.body.getD i co).size (r.body.getD i co) WS.o).bad=is then(50:Int) else 0)=0))=is:=A;rw[h]at g;simp at g
   rw[nk u B A];exact zU I
  .have A:rz (r.body.getD i co)=jp:=by
    cases h:rz (r.body.getD i co) with
    |false=>rfl
    |true=>
     have h:(dF (r.body.getD i co).size (r.body.getD i co) WS.o).bad=is:=h;have g:(!kw ((if(dF (r.body.getD i co).size (r.body.getD i co) WS.o).bad=is then(50:Int) else 0)=0))=jp:=A;rw[h]at g;simp at g
   refine gA I ⟨B,G.2 A,[],zW ⟨⟨_,rfl,.of_eq I⟩,SY I,rfl,⟨_,rfl,.of_eq I⟩,SY I,rfl,⟨_,rfl,.of_eq I⟩,SY I,rfl,ac⟩⟩
 have B:r.body.length<=i:=zG B;rw[Tf B]at u;rw[lB u];refine zE I I (fun g2=>?_) fun g2=>?_
 .have g2:n>256:=by simpa using g2
  rw[am (.inl g2)];exact zU I
 have g2: ¬n>256:=zF g2;refine zJ I I (fun g3=>?_) fun g3=>?_
 .rw[am (.inr (zT g3))];exact zU I
 have g3: ¬(r.body.length:Int)>12:=zF g3;rw[be (by rintro(h|h);exact g2 h;exact g3 h)];refine gA I (zp (c48 r (by omega)) ?_);refine gA I (zp (SK r (by omega)) ?_);refine zJ I I (fun g4=>?_) fun g4=>?_
 .rw[am (zT g4)];exact zU I
 have g4: ¬(Fm r:Int)>24:=zF g4;rw[be g4];refine gA I ?_;refine aJ 0 r.body.length (Te _) (fun i=>⟨[(3,.ptr 0 0),(4,.ptr 1 0),(6,.ptr 2 0),(13,.iv (cF r)),(69,.iv (lits r.body)),(70,pI r.body.length),(71,pI i)],[(0,dl (.cells [.iv (cT p)])),(1,dl (aD r.c)),(2,dl (.cells [pI 0,pI 0,pI 0]))],3⟩) (fun i=>(r.body.take i).any tD=jp) [] (by simp)
  (zW ⟨⟨_,rfl,.of_eq I⟩,SY I,rfl,⟨_,rfl,.of_eq I⟩,SY I,rfl,⟨_,rfl,.of_eq I⟩,SY I,rfl,ac⟩) fun i hi u=>?_
 refine zJ I I (fun A=>?_) fun A=>?_
 .have A:i<r.body.length:=zN A;have G:=c5 u A;refine zJ I I (fun D=>?_) fun D=>?_
  .have D:(r.body.getD i co).kind=4:=zT D;refine zJ I I (fun F=>?_) fun F=>?_
   .have F:tD (r.body.getD i co)=is:=by rw[tD,decide_eq_true D];exact F
    rw[nk u A F];exact zU I
   .have F:tD (r.body.getD i co)=jp:=by rw[tD,decide_eq_true D];exact F
    refine gA I ⟨A,G.2 F,[],zW ⟨⟨_,rfl,.of_eq I⟩,SY I,rfl,⟨_,rfl,.of_eq I⟩,SY I,rfl,⟨_,rfl,.of_eq I⟩,SY I,rfl,ac⟩⟩
  .have D: ¬(r.body.getD i co).kind=4:=zF (by have g:kw ((r.body.getD i co).kind=4)=jp:=D;exact g);refine gA I ⟨A,G.2 (by rw[tD,decide_eq_false D];rfl),[],zW ⟨⟨_,rfl,.of_eq I⟩,SY I,rfl,⟨_,rfl,.of_eq I⟩,SY I,rfl,⟨_,rfl,.of_eq I⟩,SY I,rfl,ac⟩⟩
 have A:r.body.length<=i:=zG A;rw[Tf A]at u;rw[lB u];refine gA I (zp (c49 p r (by omega)) ?_);refine gA I ?_;refine fa [] (t:=⟨[(3,.ptr 0 0),(4,.ptr 1 0),(6,.ptr 2 0),(104,.sl 3 0 5 2),(105,pI 5),(106,pI 0)],[(0,dl (.cells [.iv (cT p)])),(1,dl (aD r.c)),(2,dl (.cells [pI 0,pI 0,pI 0])),(3,dl (.row 2 (iU p r)))],4⟩)
  (zW (zO (zO (zO ⟨⟨_,rfl,.of_eq I⟩,SY I,cC p r _ I,ac⟩)))) ?_
 have Z:(mG p r).ws.length<=1000000000000:=by have:=vi p r r.body.length (S9 _);rw[TV]at this;show(eL p r r.body.length).ws.length<=_;omega
 rw[ym];refine yw (n:=6) ?_;refine zE I I (fun q=>?_) fun q=>?_
 .exact absurd (show is=jp from q) (by decide)
 refine gA I ?_;refine aJ 0 (r.body.length+1) (Te _) (fun k=>⟨[(3,.ptr 0 0),(4,.ptr 1 0),(6,.ptr 2 0),(18,.ptr 4 0),(19,pI ((k:Int)-1)),(104,.sl 3 0 5 2),(105,pI 5),(106,pI 0)],[(0,dl (.cells [.iv (cT p)])),(1,dl (aD r.c)),(2,dl (.cells [pI 0,pI 0,pI 0])),(3,dl (.row 2 (iU p r))),(4,dl (.cells [pI 61,.cJ (.func 214) [] [.ptr 1 0,.ptr 0 0]]))],5⟩) (fun k=>((iq r.body.length).take k).any (fun lit=>(fo r lit).any fun x=>vw p x)=jp) [] I
  (zW (zO (zO (zO ⟨⟨_,rfl,.of_eq I⟩,SY I,cC p r _ I,(zO trivial)⟩)))) fun k C u=>?_
 refine zJ I I (fun j=>?_) fun j=>?_
 .have j:(k:Int)-1<r.body.length:=zT j;have d:k<r.body.length+1:=by omega
  refine gA I (zq [1,0] (d110 p r ((k:Int)-1) (by omega) (by omega)) ?_);refine zJ I I (fun y=>?_) fun y=>?_
  .rw[mT u d y];refine gA I (B1 (Hk r ((k:Int)-1) j) ?_);exact zU I
  .refine gA I ?_;exact⟨d,lk u d y,[],zM (bi (bi (bi (bi ⟨.of_eq (EN (by omega)),rfl,bi (bi (bi ac))⟩)))) (zO (zO (zO ⟨⟨_,rfl,.of_eq I⟩,SY I,cC p r _ I,(zO ac)⟩)))⟩
 have j: ¬(k:Int)-1<r.body.length:=zF j;rw[ll u (by omega)];clear u C j;refine zE I I (fun q=>?_) fun q=>?_
 .exact absurd (show is=jp from q) (by decide)
 refine gA I ?_;refine aJ 0 (r.body.length+1) (Te _) (fun k=>⟨[(3,.ptr 0 0),(4,.ptr 1 0),(6,.ptr 2 0),(18,.ptr 5 0),(19,pI ((k:Int)-1)),(104,.sl 3 0 5 2),(105,pI 5),(106,pI 1)],[(0,dl (.cells [.iv (cT p)])),(1,dl (aD r.c)),(2,dl (.cells [pI 0,pI 0,pI 0])),(3,dl (.row 2 (iU p r))),(5,dl (.cells [pI 62,.cJ (.func 218) [] [.ptr 1 0,.ptr 0 0]]))],6⟩) (fun k=>((iq r.body.length).take k).any (fun lit=>(fo r lit).any fun x=>yJ p x)=jp) [] I
  (zW (zO (zO (zO ⟨⟨_,rfl,.of_eq I⟩,SY I,cC p r _ I,(zO trivial)⟩)))) fun k C u=>?_
 refine zJ I I (fun j=>?_) fun j=>?_
 .have j:(k:Int)-1<r.body.length:=zT j;have d:k<r.body.length+1:=by omega
  refine gA I (zq [1,0] (d114 p r ((k:Int)-1) (by omega) (by omega)) ?_);refine zJ I I (fun y=>?_) fun y=>?_
  .rw[mT u d y];refine gA I (B1 (Hk r ((k:Int)-1) j) ?_);exact zU I
  .refine gA I ?_;exact⟨d,lk u d y,[],zM (bi (bi (bi (bi ⟨.of_eq (EN (by omega)),rfl,bi (bi (bi ac))⟩)))) (zO (zO (zO ⟨⟨_,rfl,.of_eq I⟩,SY I,cC p r _ I,(zO ac)⟩)))⟩
 have j: ¬(k:Int)-1<r.body.length:=zF j;rw[ll u (by omega)];clear u C j;refine zE I I (fun q=>?_) fun q=>?_
 .exact absurd (show is=jp from q) (by decide)
 refine gA I ?_;refine aJ 0 (r.body.length+1) (Te _) (fun k=>⟨[(3,.ptr 0 0),(4,.ptr 1 0),(6,.ptr 2 0),(18,.ptr 6 0),(19,pI ((k:Int)-1)),(104,.sl 3 0 5 2),(105,pI 5),(106,pI 2)],[(0,dl (.cells [.iv (cT p)])),(1,dl (aD r.c)),(2,dl (.cells [pI 0,pI 0,pI 0])),(3,dl (.row 2 (iU p r))),(6,dl (.cells [pI 65,.cJ (.func 220) [] [.ptr 1 0]]))],7⟩) (fun k=>((iq r.body.length).take k).any (lM r)=jp) [] I
  (zW (zO (zO (zO ⟨⟨_,rfl,.of_eq I⟩,SY I,cC p r _ I,(zO trivial)⟩)))) fun k C u=>?_
 refine zJ I I (fun j=>?_) fun j=>?_
 .have j:(k:Int)-1<r.body.length:=zT j;have d:k<r.body.length+1:=by omega
  refine gA I (zq [1] (d116 r ((k:Int)-1) (by omega) (by omega)) ?_);refine zJ I I (fun y=>?_) fun y=>?_
  .rw[mT u d y];refine gA I (B1 (Hk r ((k:Int)-1) j) ?_);exact zU I
  .refine gA I ?_;exact⟨d,lk u d y,[],zM (bi (bi (bi (bi ⟨.of_eq (EN (by omega)),rfl,bi (bi (bi ac))⟩)))) (zO (zO (zO ⟨⟨_,rfl,.of_eq I⟩,SY I,cC p r _ I,(zO ac)⟩)))⟩
 have j: ¬(k:Int)-1<r.body.length:=zF j;rw[ll u (by omega)];clear u C j;refine zE I I (fun q=>?_) fun q=>?_
 .exact absurd (show is=jp from q) (by decide)
 refine gA I ?_;refine aJ 0 (r.body.length+1) (Te _) (fun k=>⟨[(3,.ptr 0 0),(4,.ptr 1 0),(6,.ptr 2 0),(18,.ptr 7 0),(19,pI ((k:Int)-1)),(104,.sl 3 0 5 2),(105,pI 5),(106,pI 3)],[(0,dl (.cells [.iv (cT p)])),(1,dl (aD r.c)),(2,dl (.cells [pI 0,pI 0,pI 0])),(3,dl (.row 2 (iU p r))),(7,dl (.cells [pI 63,.cJ (.func 223) [.iv (Nr r (mG p r))] []]))],8⟩) (fun k=>((iq r.body.length).take k).any (qQ (mG p r))=jp) [] I
  (zW (zO (zO (zO ⟨⟨_,rfl,.of_eq I⟩,SY I,cC p r _ I,(zO trivial)⟩)))) fun k C u=>?_
 refine zJ I I (fun j=>?_) fun j=>?_
 .have j:(k:Int)-1<r.body.length:=zT j;have d:k<r.body.length+1:=by omega
  refine gA I (aG (SI r (mG p r) ((k:Int)-1) (yH p r _) Z) I I I I I I ?_);refine zJ I I (fun y=>?_) fun y=>?_
  .rw[mT u d y];refine gA I (B1 (Hk r ((k:Int)-1) j) ?_);exact zU I
  .refine gA I ?_;exact⟨d,lk u d y,[],zM (bi (bi (bi (bi ⟨.of_eq (EN (by omega)),rfl,bi (bi (bi ac))⟩)))) (zO (zO (zO ⟨⟨_,rfl,.of_eq I⟩,SY I,cC p r _ I,(zO ac)⟩)))⟩
 have j: ¬(k:Int)-1<r.body.length:=zF j;rw[ll u (by omega)];clear u C j;refine zE I I (fun q=>?_) fun q=>?_
 .exact absurd (show is=jp from q) (by decide)
 refine gA I ?_;refine aJ 0 (r.body.length+1) (Te _) (fun k=>⟨[(3,.ptr 0 0),(4,.ptr 1 0),(6,.ptr 2 0),(18,.ptr 8 0),(19,pI ((k:Int)-1)),(104,.sl 3 0 5 2),(105,pI 5),(106,pI 4)],[(0,dl (.cells [.iv (cT p)])),(1,dl (aD r.c)),(2,dl (.cells [pI 0,pI 0,pI 0])),(3,dl (.row 2 (iU p r))),(8,dl (.cells [pI 64,.cJ (.func 224) [.iv (cF r)] []]))],9⟩) (fun k=>((iq r.body.length).take k).any (kL r)=jp) [] I
  (zW (zO (zO (zO ⟨⟨_,rfl,.of_eq I⟩,SY I,cC p r _ I,(zO trivial)⟩)))) fun k C u=>?_
 refine zJ I I (fun j=>?_) fun j=>?_
 .have j:(k:Int)-1<r.body.length:=zT j;have d:k<r.body.length+1:=by omega
  refine gA I (zp (SH r ((k:Int)-1) (by omega) (by omega)) ?_);refine zJ I I (fun y=>?_) fun y=>?_
  .rw[mT u d y];refine gA I (B1 (Hk r ((k:Int)-1) j) ?_);exact zU I
  .refine gA I ?_;exact⟨d,lk u d y,[],zM (bi (bi (bi (bi ⟨.of_eq (EN (by omega)),rfl,bi (bi (bi ac))⟩)))) (zO (zO (zO ⟨⟨_,rfl,.of_eq I⟩,SY I,cC p r _ I,(zO ac)⟩)))⟩
 have j: ¬(k:Int)-1<r.body.length:=zF j;rw[ll u (by omega)];clear u C j;refine zJ I I (fun q=>?_) fun q=>?_
 .exact absurd (show jp=is from q) (by decide)
 exact zU I
section
theorem j5:prog.cellsOf 3=1:=by kernel_rfl
theorem rP:prog.cellsOf 9=1:=by kernel_rfl
theorem yG:prog.cellsOf 62=3:=by kernel_rfl
theorem AP:prog.cellsOf 196=5:=by kernel_rfl
theorem Hh:prog.cellsOf 100=1:=by kernel_rfl
theorem vf:prog.cellsOf 102=2:=by kernel_rfl
theorem Hf:prog.cellsOf 199=1:=by kernel_rfl
theorem nA:prog.cellsOf 201=7:=by kernel_rfl
theorem AN:prog.cellsOf 203=10:=by kernel_rfl
theorem AT:prog.cellsOf 103=1:=by kernel_rfl
theorem ve:prog.cellsOf 205=30:=by kernel_rfl
theorem tq:prog.cellsOf 91=2:=by kernel_rfl
theorem AR:prog.cellsOf 105=5:=by kernel_rfl
theorem KA:prog.cellsOf 58=1:=by kernel_rfl
theorem Dl:prog.cellsOf 99=4:=by kernel_rfl
theorem KE:prog.cellsOf 22=1:=by kernel_rfl
theorem KD:prog.cellsOf 23=1:=by kernel_rfl
theorem KB:prog.cellsOf 25=2:=by kernel_rfl
section
variable {H:Type}
abbrev bk(d:DataW H):Nat:=Rows.uptoBulk d
theorem BW(d:DataW H):1<=bk d:=by
 cases d with
 |lit l=>cases l<;>simp[bk,Rows.uptoBulk]
 |nil=>simp[bk,Rows.uptoBulk]
 |ptr d=>simp[bk,Rows.uptoBulk]
 |slice elems spare=>simp[bk,Rows.uptoBulk]
 |agg parts=>simp[bk,Rows.uptoBulk]
 |iface t d=>simp[bk,Rows.uptoBulk]
 |map entries=>simp[bk,Rows.uptoBulk]
 |held h=>simp[bk,Rows.uptoBulk]
theorem rR(s:ByteArray):bk (DataW.lit (H:=H) (.string s.data.toList))=s.size+1:=by
 simp[bk,Rows.uptoBulk]
theorem _root_.Go.Al.QL.sum{α:Type}{Q:α->DataW H->Prop}{l:List α}{d:DataW H}(h:QL Q l d){f:α->Nat}{c:Nat}(hf: ∀x e,Q x e->f x<=c*bk e):(l.map f).sum<=c*bk d:=by
 obtain⟨j,hd,u,A⟩:=h;have key: ∀(l:List α) (j:List (DataW H)),l.length=j.length->(∀(i:Nat) (x:α) (e:DataW H),l[i]? =dl x->j[i]? =dl e->Q x e)->(l.map f).sum<=c*Rows.uptoBulkAll j:=by
  intro l
  induction l with
  |nil=>intro j _ _;simp
  |cons x r ih=>
   intro j B A;cases j with
   |nil=>simp at B
   |cons e j=>
    have y:=hf x e (A 0 x e I I);have F:=ih j (by simpa using B) fun i x e D C=>A (i+1) x e (by simpa using D) (by simpa using C);simp only[Tg,UY,Rows.uptoBulkAll,Nat.mul_add];simp only[bk]at y;omega
 have y:=key l j u A;rcases hd with⟨rfl,rfl⟩|⟨sp,rfl⟩
 .simp[Rows.uptoBulkAll]at y;omega
 .refine TQ y (Nat.mul_le_mul_left c ?_);simp only[bk,Rows.uptoBulk];omega
theorem y3{α:Type}: ∀l:List α,(l.map fun _=>1).sum=l.length
 | []=>rfl
 |x::r=>by simp only[Tg,UY,Tr,y3 r];omega
theorem _root_.Go.Al.QL.len{α:Type}{Q:α->DataW H->Prop}{l:List α}{d:DataW H}(h:QL Q l d):l.length<=bk d:=by
 have:=h.sum (f:=fun _=>1) (c:=1) fun x e _=>by have:=BW e;omega
 have e:=y3 l;omega
theorem _root_.Go.Al.QL.all{α:Type}{Q:α->DataW H->Prop}{l:List α}{d:DataW H}(h:QL Q l d): ∀x∈l,∃e,Q x e∧bk e<=bk d:=by
 intro x F;obtain⟨j,hd,A,D⟩:=h;obtain⟨i,C,rfl⟩:=UQ.1 F;have u:i<j.length:=by omega
 refine⟨j[i],D i _ _ (S5 C) (S5 u),?_⟩;have key: ∀(j:List (DataW H)),∀e∈j,bk e<=Rows.uptoBulkAll j:=by
  intro j
  induction j with
  |nil=>intro e he;cases he
  |cons y r ih=>
   intro e he;simp only[Rows.uptoBulkAll];rcases Tt.1 he with rfl|he
   .simp only[bk];omega
   .have:=ih e he;omega
 have B:=key j j[i] (T8 u);rcases hd with⟨rfl,rfl⟩|⟨sp,rfl⟩
 .simp at u
 .refine TQ B ?_;simp only[bk,Rows.uptoBulk];omega
end
theorem Expr.fQ: ∀l:List Expr,Expr.au l=(l.map Expr.size).sum
 | []=>rfl
 |e::r=>by simp only[Expr.au,Tg,UY,Expr.fQ r]
theorem Expr.nG: ∀l:List Expr,Expr.ki l=(l.map Expr.ts).sum
 | []=>rfl
 |e::r=>by simp only[Expr.ki,Tg,UY,Expr.nG r]
theorem Lit.fQ: ∀l:List Lit,Lit.au l=(l.map Lit.size).sum
 | []=>rfl
 |e::r=>by simp only[Lit.au,Tg,UY,Lit.fQ r]
theorem Lit.nG: ∀l:List Lit,Lit.ki l=(l.map Lit.ts).sum
 | []=>rfl
 |e::r=>by simp only[Lit.ki,Tg,UY,Lit.nG r]
section
variable {H:Type} {enc:TypeId×Value->H} {W:World} {hT:my W} {sp:Nat->Bool} {held:Bool}
def QV(v:eK)(d:DataW H):Prop:=v.sym.size<=bk d
def QT(t:Term)(d:DataW H):Prop:=t.ts<=400*bk d
def QA(a:Atom)(d:DataW H):Prop:=a.ts<=400*bk d∧a.aj.length<=bk d
def QE(e:Expr)(d:DataW H):Prop:=e.ts<=400*bk d∧e.size<=bk d
def QP(_:Pos)(_:DataW H):Prop:=True
def Pos.c(p:Pos):List IV:=[iI p.line,iI p.HM]
def QG(g:gl)(d:DataW H):Prop:=g.var.size+g.jo.ts+Lit.ki g.body<=400*bk d∧g.jo.size+Lit.au g.body<=bk d
def QB(l:Lit)(d:DataW H):Prop:=l.ts<=400*bk d∧l.size<=bk d
theorem rd_val(n:Nat):Rd enc prog W hT sp held 62 eK.c QV n:=by
 intro m _ F y h;obtain⟨D,k,rfl,rfl,A,B,d⟩:=DataW.trod_struct underlying62 h
 match D,B with
 | [x0,x1,x2],_=>
  obtain⟨a,j,G,_⟩:=jg (hT:=hT) underlying3 k k (S9 _) _ _ (nS d 0 I I I j5 I);obtain⟨b,u,J,_⟩:=jg (hT:=hT) underlying3 k k (S9 _) _ _ (nS d 1 I I I j5 I);obtain⟨c,x,C,_⟩:=jF (hT:=hT) underlying9 k k (S9 _) _ _ (nS d 2 I I I rP I);refine⟨⟨a,b,c⟩,j.fP (o':=1) I (u.fP (o':=2) I (x.fP (o':=3) I (.end_ (A.trans yG)))),?_⟩;simp only[QV,bk,Tg,Tx,Rows.uptoBulk,Rows.uptoBulkAll];have:=rR (H:=H) c;rw[<-C]at this;simp only[bk]at this;omega
theorem Bk(n:Nat):Rd enc prog W hT sp held 91 Pos.c QP n:=by
 intro m _ C y h;obtain⟨B,k,rfl,rfl,x,A,d⟩:=DataW.trod_struct underlying91 h
 match B,A with
 | [x0,x1],_=>
  obtain⟨a,j,D,_⟩:=jg (hT:=hT) underlying3 k k (S9 _) _ _ (nS d 0 I I I j5 I);obtain⟨b,u,F,_⟩:=jg (hT:=hT) underlying3 k k (S9 _) _ _ (nS d 1 I I I j5 I);exact⟨⟨a,b⟩,j.fP (o':=1) I (u.fP (o':=2) I (.end_ (x.trans tq))),ac⟩
theorem JL(n:Nat):Rd enc prog W hT sp held 196 Term.c QT n:=by
 intro m _ F y h;obtain⟨D,k,rfl,rfl,A,B,d⟩:=DataW.trod_struct underlying196 h
 match D,B with
 | [x0,x1,x2],_=>
  obtain⟨a,j,G,_⟩:=jg (hT:=hT) underlying3 k k (S9 _) _ _ (nS d 0 I I I j5 I);obtain⟨b,u,C,_⟩:=jF (hT:=hT) underlying9 k k (S9 _) _ _ (nS d 1 I I I rP I);obtain⟨c,x,J⟩:=rd_val (hT:=hT) k k (S9 _) _ _ (nS d 2 I I I yG I);refine⟨⟨a,b,c⟩,j.fP (o':=1) I (u.fP (o':=2) I (x.fP (o':=5) I (.end_ (A.trans AP)))),?_⟩;simp only[QT,Term.ts,bk,Tg,Tx,Rows.uptoBulk,Rows.uptoBulkAll];have:=rR (H:=H) b;rw[<-C]at this;simp only[bk]at this;omega
theorem Cy(n:Nat):Rd enc prog W hT sp held 102 Atom.c QA n:=by
 intro m _ Y y h;obtain⟨J,k,rfl,rfl,D,F,j⟩:=DataW.trod_struct underlying102 h
 match J,F with
 | [x0,x1],_=>
  obtain⟨a,x,G,_⟩:=jF (hT:=hT) underlying9 k k (S9 _) _ _ (nS j 0 I I I rP I);obtain⟨b,A,u⟩:=(iO (hT:=hT) underlying100 AP (by decide) (fun _=>rfl) (JL k)).mono (UT k) k (S9 _) _ _ (nS j 1 I I I Hh I);refine⟨⟨a,b⟩,x.fP (o':=1) I (A.fP (o':=2) I (.end_ (D.trans vf))),?_⟩;have d:=rR (H:=H) a;rw[<-G]at d;have B:=u.sum (f:=Term.ts) (c:=400) fun _ _ h=>h;have C:=u.len;simp only[bk]at d B C;simp only[QA,Atom.ts,bk,Tg,Tx,Rows.uptoBulk,Rows.uptoBulkAll];omega
theorem s7: ∀n:Nat,Rd enc prog W hT sp held 201 Expr.c QE n
 |0=>fun m hm Y y h=>by
  obtain rfl:m=0:=by omega
  simp[DataW.trod]at h
 |n+1=>fun m hm Y y h=>by
  obtain⟨xs,k,rfl,rfl,Z,hx,j⟩:=DataW.trod_struct underlying201 h;have hs:=iO (hT:=hT) underlying199 nA (by decide) (fun _=>rfl) (s7 n)
  match xs,hx with
  | [x0,x1,x2,x3,x4],_=>
   obtain⟨a,C,qa,_⟩:=jg (hT:=hT) underlying3 k k (S9 _) _ _ (nS j 0 I I I j5 I);obtain⟨b,D,qb,_⟩:=jF (hT:=hT) underlying9 k k (S9 _) _ _ (nS j 1 I I I rP I);obtain⟨c,F,qc⟩:=rd_val (hT:=hT) k k (S9 _) _ _ (nS j 2 I I I yG I);obtain⟨d,G,qd,_⟩:=jg (hT:=hT) underlying3 k k (S9 _) _ _ (nS j 3 I I I j5 I);obtain⟨e,J,B⟩:=hs k (by omega) _ _ (nS j 4 I I I Hf I);refine⟨.mk a b c d e,C.fP (o':=1) I (D.fP (o':=2) I (F.fP (o':=5) I (G.fP (o':=6) I ((J.CO (Df (.mk a b c d e))).fP (o':=7) I (.end_ (Z.trans nA)))))),?_⟩;have u:=rR (H:=H) b;rw[<-qb]at u;have x:=B.sum (f:=Expr.ts) (c:=400) fun _ _ h=>h.1;have A:=B.sum (f:=Expr.size) (c:=1) fun _ _ h=>by have:=h.2;omega
   rw[<-Expr.nG]at x;rw[<-Expr.fQ]at A;simp only[bk]at u x A;simp only[QE,Expr.ts,Expr.size,bk,Tg,Tx,Rows.uptoBulk,Rows.uptoBulkAll];omega
theorem Oh{n:Nat}(hb:Rd enc prog W hT sp held 103 (fun l:List Lit=> [bz 30 l Lit.c]) (QL QB) n):Rd enc prog W hT sp held 203 gl.c QG (n+1):=by
 intro m hm cs y h;obtain⟨xs,k,rfl,rfl,Z,hx,j⟩:=DataW.trod_struct underlying203 h
 match xs,hx with
 | [x0,x1,x2,x3],_=>
  obtain⟨a,C,qa,_⟩:=jg (hT:=hT) underlying3 k k (S9 _) _ _ (nS j 0 I I I j5 I);obtain⟨b,D,qb,_⟩:=jF (hT:=hT) underlying9 k k (S9 _) _ _ (nS j 1 I I I rP I);obtain⟨c,F,qc⟩:=s7 (hT:=hT) k k (S9 _) _ _ (nS j 2 I I I nA I);obtain⟨d,G,B⟩:=hb k (by omega) _ _ (nS j 3 I I I AT I);refine⟨⟨a,b,c,d⟩,C.fP (o':=1) I (D.fP (o':=2) I (F.fP (o':=9) I ((G.CO (Bv d)).fP (o':=10) I (.end_ (Z.trans AN))))),?_⟩;have u:=rR (H:=H) b;rw[<-qb]at u;have x:=B.sum (f:=Lit.ts) (c:=400) fun _ _ h=>h.1;have A:=B.sum (f:=Lit.size) (c:=1) fun _ _ h=>by have:=h.2;omega
  rw[<-Lit.nG]at x;rw[<-Lit.fQ]at A;obtain⟨J,Y⟩:=qc;simp only[bk]at u x A J Y;simp only[QG,bk,Tg,Tx,Rows.uptoBulk,Rows.uptoBulkAll];omega
theorem FT: ∀n:Nat,Rd enc prog W hT sp held 205 Lit.c QB n
 |0=>fun m hm J y h=>by
  obtain rfl:m=0:=by omega
  simp[DataW.trod]at h
 |n+1=>fun m hm J y h=>by
  obtain⟨xs,k,rfl,rfl,hl,hx,j⟩:=DataW.trod_struct underlying205 h;have hs:=Oh (iO (hT:=hT) underlying103 ve (by decide) (fun _=>rfl) (FT n))
  match xs,hx with
  | [x0,x1,x2,x3,x4,x5,x6],_=>
   obtain⟨a,x,qa,_⟩:=jg (hT:=hT) underlying3 k k (S9 _) _ _ (nS j 0 I I I j5 I);obtain⟨b,A,qb⟩:=Cy (hT:=hT) k k (S9 _) _ _ (nS j 1 I I I vf I);obtain⟨c,B,qc,_⟩:=jg (hT:=hT) underlying3 k k (S9 _) _ _ (nS j 2 I I I j5 I);obtain⟨d,C,qd⟩:=s7 (hT:=hT) k k (S9 _) _ _ (nS j 3 I I I nA I);obtain⟨e,D,qe⟩:=s7 (hT:=hT) k k (S9 _) _ _ (nS j 4 I I I nA I);obtain⟨g,F,qg⟩:=hs k (by omega) _ _ (nS j 5 I I I AN I);obtain⟨p,G,_⟩:=Bk (hT:=hT) k k (S9 _) _ _ (nS j 6 I I I tq I);refine⟨.mk a b c d e g.func g.var g.jo g.body p,x.fP (o':=1) I (A.fP (o':=3) I (B.fP (o':=4) I (C.fP (o':=11) I (D.fP (o':=18) I (F.fP (o':=28) I (G.fP (o':=30) I (.end_ (hl.trans ve)))))))),?_⟩;obtain⟨Y,Z⟩:=qb;obtain⟨h3,h4⟩:=qd;obtain⟨h5,h6⟩:=qe;obtain⟨h7,h8⟩:=qg;have h9:=BW x0.1;have u:=BW x2.1;simp only[bk]at Y Z h3 h4 h5 h6 h7 h8 h9 u;simp only[QB,Lit.ts,Lit.size,bk,Tg,Tx,Rows.uptoBulk,Rows.uptoBulkAll];omega
theorem JN(n:Nat):Rd enc prog W hT sp held 103 (fun l:List Lit=> [lits l]) (QL QB) n:=
 (iO (hT:=hT) underlying103 ve (by decide) (fun _=>rfl) (FT n)).mono (UT n)
end
end
end Go.Proofs.YtbhphmfbligliaaGreatDoor
namespace Go.Proofs.YtbhphmfbligliaaGreatDoor
open Go Go.Al Go.Proofs.Tryz Go.ChangeShapes Go.WideShapes Go.RowKit
theorem own:ownKnob prog.godebug=io:=by kernel_rfl
theorem Rb:prog.globalNamed "internal/strconv.uint64pow10" =dl 0:=by kernel_rfl
theorem GN:(prog.globals[0]?).map (·.type)=dl 420:=by kernel_rfl
theorem He:prog.cellsOf 420=20:=by kernel_rfl
theorem Hg:prog.cellsOf 116=1:=by kernel_rfl
theorem EZ:prog.underlying 420=dl (.array 20 116):=by kernel_rfl
theorem E0:prog.underlying 116=dl (.int .u64):=by kernel_rfl
abbrev Gp:List (String×DataW Unit):=[("math/bits.deBruijn32tab",Rows.laid_math_bits_deBruijn32tab),("math/bits.deBruijn64tab",Rows.laid_math_bits_deBruijn64tab),("internal/strconv.uint64pow10",Rows.laid_internal_strconv_uint64pow10)]
theorem E9{W:World}(h:laidMetH prog Gp W):my W:=by
 have j:=laidMetH.filter (fun x=>x.1== "internal/strconv.uint64pow10") h;have y:laidMet prog [("internal/strconv.uint64pow10",Lib.tabData .u64 o5)] W:=by
  rw[show Gp.filter (fun x=>x.1== "internal/strconv.uint64pow10")=[("internal/strconv.uint64pow10",Lib.tabData .u64 o5)] by kernel_rfl]at j;rwa[MakeChecks.laidMetH_plain _ _ _ (by kernel_rfl)]at j
 have d:Lib.TabIs prog W "internal/strconv.uint64pow10" .u64 o5:=Lib.tabIs_of_head (rest:=[]) Rb GN EZ E0 Hg He y;intro b c hb;unfold Lib.TabIs World.var? at d;rw[Rb]at d
 match b with
 |0=>
  have A:(o5.map fun z=>Value.int .u64 z).toArray=c:=Ub hb;rw[A]at d;simp only[Wd]at d;split at d
  .rename_i B T u e;exact⟨T,u,by rw[e,Ub d]⟩
  .cases d
 |b+1=>exact nomatch hb
theorem kids:Kids prog (· <prog.types.size):=kids_rows (by kernel_rfl) (by kernel_rfl)
theorem full: ∀{t e},t<prog.types.size->prog.underlying t=dl (.slice e)->0<prog.cellsOf e:=fun{t e}=>slices_full_of prog (by kernel_rfl) t e
theorem xY{H:Type}{enc:TypeId×Value->H}{W:World}(hT:my W){k:FuncId}{f:Func}{s:ChangeSpec}{args:List PV}{vs:List Value}{B gs:List (DataW H)}{d:List MemPlace}
  (hp:Al.Pure prog k args (pB is)) (D:args.length=vs.length) (hv: ∀(j:Nat) (p:PV),args[j]? =dl p->VR (Mem.pD W hT) QR (· <0) p (vs.getD j undef))
  (F: ∀t∈f.params.toList,t<prog.types.size) (y:s.vars=[]) (u:f.resultTypes= #[4])
  (hW:DataW.Whole enc prog f.params.toList s.vars jp W vs.toArray.toList B gs d)
  (G:(s.fn H (B++gs)).results=[.lit (.bool is)]) (J:(s.fn H (B++gs)).args=B) (Y:(s.fn H (B++gs)).vars=[]):
  Calls prog k vs.toArray W fun e W'=> ∃v,e= .returned v∧s.post enc prog f jp is jp jp W vs.toArray v W':=by
 refine(hp.2 (Mem.pD W hT) QR W vs (JK W hT) D hv).mono ?_;rintro e W' ⟨x,M',N',r,h',n',rfl,⟨rfl,rfl,rfl⟩,hx,hr,hvr⟩;have Z:x= .bool is:=by
  cases hvr with
  |iv _ _ h=>cases h;rfl
 subst Z;refine⟨_,rfl,xZ kids full F y hW hx.os hx.output.out (fun b hb=>hx.eN b hb fun i o hi=>(nomatch hi)) (fun b sp hd=>?_) J Y ?_⟩
 .rw[G,u];exact trodAll_cons_mk (shut_bool underlying4 _) trodAll_mk0
 .intro j t r A C;rw[u]at A C
  match j,A,C with
  |0,A,C=>
   cases A;cases C;exact okWide_bool_mk underlying4 _
  |j+1,A,C=>simp at A
theorem bound{H:Type}{l:List (DataW H)}(d:Rows.uptoSmall H l=is):Rows.uptoBulkAll l<=1048576:=of_decide_eq_true d
def Gn(b:Nat)(cs:Array Value)(h:Array Obj):Array Obj:=h.modify b fun
 | .cells _ t frozen=> .cells cs t frozen
 |o=>o
noncomputable def rA(os:Os):World:=
 {World.holding prog os ⟨#[], #[],[]⟩ with
  heap:=Gn 2 #[.int .u8 0,.int .u8 1,.int .u8 56,.int .u8 2,.int .u8 57,.int .u8 49,.int .u8 28,.int .u8 3,.int .u8 61,.int .u8 58,.int .u8 42,.int .u8 50,.int .u8 38,.int .u8 29,.int .u8 17,.int .u8 4,.int .u8 62,.int .u8 47,.int .u8 59,.int .u8 36,.int .u8 45,.int .u8 43,.int .u8 51,.int .u8 22,.int .u8 53,.int .u8 39,.int .u8 33,.int .u8 30,.int .u8 24,.int .u8 18,.int .u8 12,.int .u8 5,.int .u8 63,.int .u8 55,.int .u8 48,.int .u8 27,.int .u8 60,.int .u8 41,.int .u8 37,.int .u8 16,.int .u8 46,.int .u8 35,.int .u8 44,.int .u8 21,.int .u8 52,.int .u8 32,.int .u8 23,.int .u8 11,.int .u8 54,.int .u8 26,.int .u8 40,.int .u8 15,.int .u8 34,.int .u8 20,.int .u8 31,.int .u8 10,.int .u8 25,.int .u8 14,.int .u8 19,.int .u8 9,.int .u8 13,.int .u8 8,.int .u8 7,.int .u8 6] (Gn 1 #[.int .u8 0,.int .u8 1,.int .u8 28,.int .u8 2,.int .u8 29,.int .u8 14,.int .u8 24,.int .u8 3,.int .u8 30,.int .u8 22,.int .u8 20,.int .u8 15,.int .u8 25,.int .u8 17,.int .u8 4,.int .u8 8,.int .u8 31,.int .u8 27,.int .u8 13,.int .u8 23,.int .u8 21,.int .u8 19,.int .u8 16,.int .u8 7,.int .u8 26,.int .u8 12,.int .u8 18,.int .u8 6,.int .u8 11,.int .u8 5,.int .u8 10,.int .u8 9] (Gn 0 (o5.map fun z=>Value.int .u64 z).toArray (World.holding prog os ⟨#[], #[],[]⟩).heap))}
end Go.Proofs.YtbhphmfbligliaaGreatDoor
namespace Go.Proofs.YtbhphmfbligliaaGreatDoor
open Go Go.Al Go.Proofs.Tryz
def fV.z:fV:=(0,⟨0,0⟩)
theorem d64(d e:fV):bB prog 137 [ag d.c,.ptr 0 0] [aD e.c] (pB jp) [(0,dl (aD d.c))] 1:=by
 refine an ab func137 I (by decide) ntmps137 I (by simp) ?_;refine gA I (zD [] I (zW (zO ac)))
def fS(p:Prog)(i:Nat):List ae:=(p.aw.take i).map Decl.name
def gm(p:Prog)(i:Nat):Int:=oU (p.aw.getD i co) i (cI .str (aI (fS p i)) (p.aw.getD i co).name 0)
def oT(p:Prog):Nat->List fV
 |0=> []
 |i+1=>oT p i++(if gm p i=0 then[] else[(gm p i,(p.aw.getD i co).at_)])
def ue(p:Prog)(i:Nat):fV:=rZ p (p.rules.getD i co) ((i:Int)+1)
def pT(p:Prog):Nat->List fV
 |0=> []
 |i+1=>pT p i++(if(ue p i).1=0 then[] else[ue p i])
def jA(p:Prog):List fV:=oT p p.aw.length++pT p p.rules.length
def dX(p:Prog):fV:=(jA p).headD fV.z
theorem zr(p:Prog)(i:Nat): ∀k,∃t,oT p (i+k)=oT p i++t
 |0=>⟨[],by simp⟩
 |k+1=>by
  obtain⟨t,h⟩:=zr p i k;exact⟨_,by rw[<-Ua,oT,h,Tb]⟩
theorem zl(p:Prog)(i:Nat): ∀k,∃t,pT p (i+k)=pT p i++t
 |0=>⟨[],by simp⟩
 |k+1=>by
  obtain⟨t,h⟩:=zl p i k;exact⟨_,by rw[<-Ua,pT,h,Tb]⟩
theorem Ez{p:Prog}{i:Nat}(j:oT p i=[])(hi:i<p.aw.length)(h: ¬gm p i=0):dX p=(gm p i,(p.aw.getD i co).at_):=by
 obtain⟨t,d⟩:=zr p (i+1) (p.aw.length-(i+1));have e:i+1+(p.aw.length-(i+1))=p.aw.length:=by omega
 rw[e,oT,j,be h]at d;rw[dX,jA,d];rfl
theorem Ey{p:Prog}{i:Nat}(h0:oT p p.aw.length=[])(j:pT p i=[])(hi:i<p.rules.length)(h: ¬(ue p i).1=0):dX p=ue p i:=by
 obtain⟨t,d⟩:=zl p (i+1) (p.rules.length-(i+1));have e:i+1+(p.rules.length-(i+1))=p.rules.length:=by omega
 rw[e,pT,j,be h]at d;rw[dX,jA,d,h0];rfl
theorem Hb{p:Prog}(h0:oT p p.aw.length=[])(h1:pT p p.rules.length=[]):dX p=fV.z:=by
 rw[dX,jA,h0,h1];rfl
theorem xV{p:Prog}{i:Nat}(h:i<p.aw.length):aI (fS p (i+1))=vh (aI (fS p i)) (p.aw.getD i co).name:=by
 rw[fS,bb h,Tc];exact du _ _
theorem Bj(p:Prog)(i:Nat)(s:ae):0<=cI .str (aI (fS p i)) s 0∧cI .str (aI (fS p i)) s 0<=i:=by
 have h:=gu (fS p i) s;have d:(fS p i).length<=i:=by simp[fS];omega
 rw[bN];omega
def Prog.fit(p:Prog):Prop:=p.aw.length<=1000000000∧p.rules.length<=1000000000∧ ∀r∈p.rules,r.fit
theorem Sp(p:Prog)(hb:p.fit):bB prog 136 [ag p.c,.cJ (.func 137) [] [.ptr 0 0]] [aD fV.z.c] (.aZ []) [(0,dl (aD (dX p).c))] 1:=by
 obtain⟨B,C,A⟩:=hb;refine an ab func136 I (by decide) ntmps136 I (by simp) ?_;refine gA I ?_;refine aJ 0 p.aw.length (Te _) (fun i=>⟨[(1,.cJ (.func 137) [] [.ptr 0 0]),(2,.ptr 1 0),(4,.mp 2),(13,.iv (bz 4 p.aw Decl.c)),(14,pI p.aw.length),(15,pI i)],[(0,dl (aD fV.z.c)),(1,dl (aD p.c)),(2,dl (cN (aI (fS p i))))],3⟩) (fun i=>oT p i=[]) [] I
  (zW ⟨⟨_,rfl,.of_eq I⟩,SY I,rfl,⟨_,rfl,.of_eq I⟩,SY I,rfl,OJ I eE I trivial⟩) fun i D x=>?_
 refine zJ I I (fun j=>?_) fun j=>?_
 .have j:i<p.aw.length:=zN j;have J:=Bj p i (p.aw.getD i co).name;have G:=xV j;refine gA I (zp (SN (p.aw.getD i co) i (cI .str (aI (fS p i)) (p.aw.getD i co).name 0)) ?_);refine zJ I I (fun g=>?_) fun g=>?_
  .have g: ¬gm p i=0:=by
    have g:(!kw (gm p i=0))=is:=g;simpa only[Ul,decide_eq_false_iff_not]using g
   rw[Ez x j g];refine gA I (zq [0] (d64 (gm p i,(p.aw.getD i co).at_) fV.z) ?_);refine zE I I (fun q=>?_) fun q=>?_
   .exact absurd (show is=jp from q) (by decide)
   refine gA I (zD [] I (zW (zO ac)))
  .have g:gm p i=0:=by
    have g:(!kw (gm p i=0))=jp:=g;simpa only[Va,decide_eq_true_eq]using g
   refine gA I ⟨j,by rw[oT,x,am g];rfl,[],zW (zO (zO (hM I (by rw[G];rfl) I trivial)))⟩
 have j:p.aw.length<=i:=zG j;have u:i=p.aw.length:=by omega
 subst u;refine gA I (zq [] (d50 p (by omega)) ?_);refine gA I ?_;refine C8 3 I ?_;refine aJ 0 p.rules.length (Te _) (fun i=>⟨[(1,.cJ (.func 137) [] [.ptr 0 0]),(2,.ptr 1 0),(8,.iv (cT p)),(47,.iv (bz 5 p.rules aq.c)),(48,pI p.rules.length),(49,pI i)],[(0,dl (aD fV.z.c)),(1,dl (aD p.c))],4⟩) (fun i=>pT p i=[]) [] I
  (zW (zO (zO trivial))) fun i D y=>?_
 refine zJ I I (fun d=>?_) fun d=>?_
 .have d:i<p.rules.length:=zN d;have F:p.rules.getD i co∈p.rules:=by rw[S4,S5 d];exact T8 d
  refine gA I (aG (c65 p (p.rules.getD i co) ((i:Int)+1) (A _ F)) I I I I I I ?_);refine zJ I I (fun g=>?_) fun g=>?_
  .have g: ¬(ue p i).1=0:=by
    have g:(!kw ((ue p i).1=0))=is:=g;simpa only[Ul,decide_eq_false_iff_not]using g
   rw[Ey x y d g];refine gA I (zq [0] (d64 (ue p i) fV.z) ?_);refine zE I I (fun q=>?_) fun q=>?_
   .exact absurd (show is=jp from q) (by decide)
   refine gA I (zD [] I (zW (zO ac)))
  .have g:(ue p i).1=0:=by
    have g:(!kw ((ue p i).1=0))=jp:=g;simpa only[Va,decide_eq_true_eq]using g
   refine gA I ⟨d,by rw[pT,y,am g];rfl,[],zW (zO (zO trivial))⟩
 have d:p.rules.length<=i:=zG d;have u:i=p.rules.length:=by omega
 subst u;rw[Hb x y];refine gA I (zD [] I (zW (zO ac)))
theorem c24(p:Prog)(hb:p.fit):Pure prog 94 [ag p.c] (ag (dX p).c):=by
 refine ai ab func94 I (by decide) ntmps94 I (by simp) I ?_;refine gA I (zq [2] (Sp p hb) ?_);exact zU I
def Jx:ae:=⟨#[114,101,108,97,116,105,111,110,32]⟩
def Qp:ae:=⟨#[110,117,109]⟩
def Qd:ae:=⟨#[115,121,109]⟩
def Pe:ae:=⟨#[32,58,45,32]⟩
def JA:ae:=⟨#[46,10]⟩
def EJ(w:WS)(t:Int):WS:=if t=1 then aS w [Qp] else if t=2 then aS w [Qd] else mB w
def n7(l:List Int)(w:WS):Nat->WS
 |0=>w
 |i+1=>EJ (eQ i (n7 l w i)) (l.getD i co)
def qH(w:WS)(d:Decl):WS:=aS (n7 d.types (aS (aU w (fY d.name)) [Jx,d.name,sO]) d.types.length) [sC]
def Decl.ts(d:Decl):Nat:=d.name.size+30+10*d.types.length
theorem HT(w:WS)(t:Int):(EJ w t).l.length<=w.l.length+3:=by
 have d:Qp.size=3:=rfl;have j:Qd.size=3:=rfl;unfold EJ
 repeat' split
 .rw[aH,d];omega
 .rw[aH,j];omega
 .rw[fc];omega
theorem MX(w:WS)(t:Int):(EJ w t).br=w.br:=by
 unfold EJ
 repeat' split
 .exact bQ _ _
 .exact bQ _ _
 .rfl
theorem tM(l:List Int)(w:WS): ∀i,(n7 l w i).l.length<=w.l.length+5*i
 |0=>by simp[n7]
 |i+1=>by
  have d:=tM l w i;have j:=iC i (n7 l w i);have u:=HT (eQ i (n7 l w i)) (l.getD i co);rw[n7];omega
theorem Cb(l:List Int)(w:WS): ∀i,(n7 l w i).br=w.br
 |0=>rfl
 |i+1=>by rw[n7,MX,nV,Cb l w i]
theorem xn(w:WS)(d:Decl):(qH w d).l.length+10<=w.l.length+d.ts:=by
 have j:Jx.size=9:=rfl;have u:sO.size=1:=rfl;have y:sC.size=1:=rfl;have x:eA [Jx,d.name,sO]=d.name.size+10:=by simp[eA,j,u];omega
 have h:=tM d.types (aS (aU w (fY d.name)) [Jx,d.name,sO]) d.types.length;rw[gn,x,aO]at h;rw[qH,aH,y,Decl.ts];omega
theorem G5(w:WS)(d:Decl):(qH w d).br=w.br:=by rw[qH,bQ,Cb,bQ];rfl
theorem DP(w:WS)(d:Decl)(hb:w.l.length+d.ts<=900000000):bB prog 97 [.ptr 0 0,ag d.c] w.O (.aZ []) (qH w d).H 3:=by
 have Z:Jx.size=9:=rfl;have e2:sO.size=1:=rfl;have e4:sC.size=1:=rfl;have e5:vM.size=2:=rfl;have J:Qp.size=3:=rfl;have Y:Qd.size=3:=rfl;have G:eA [Jx,d.name,sO]=d.name.size+10:=by simp[eA,Z,e2];omega
 have c0:d.ts=d.name.size+30+10*d.types.length:=rfl;have a0:(aS (aU w (fY d.name)) [Jx,d.name,sO]).l.length=w.l.length+(d.name.size+10):=by rw[gn,G,aO]
 refine an ab func97 I (by decide) ntmps97 I (by simp) ?_;refine gA I (aG (Rs d.name) I I I I I I ?_);refine gA I (BI (d146 w (fY d.name)) I I I I I I I I I I I I ?_);refine gA I (go_wp (d147 (aU w (fY d.name)) [Jx,d.name,sO] (by simp) (by rw[G,aO];omega)) I I I I I I I I I I I I ?_);generalize hW:aS (aU w (fY d.name)) [Jx,d.name,sO]=w1 at*
 refine gA I ?_;refine aJ 0 d.types.length (Te _) (fun i=>⟨[(0,.ptr 0 0),(17,.iv (bz 1 d.types eI)),(18,pI d.types.length),(19,pI i)],[(0,dl ((n7 d.types w1 i).px 0 6)),(6,dl (.bt (n7 d.types w1 i).l 5))],7⟩) (fun _=>True) _ ac
  (HH (w:=w1) I I I I I (.refl _) (.refl _) I I I I I (bi (bi (bi (bi trivial))))) fun i hi _=>?_
 have b0:=tM d.types w1 i;refine gA I ?_;refine S3 (fun y=>?_) (fun y=>?_);rotate_left
 .have y:d.types.length<=i:=UG fun hh=>absurd (Wj.2 hh) (of_decide_eq_false y)
  have F:i=d.types.length:=by omega
  subst F;refine gA I (go_wp (d147 (n7 d.types w1 d.types.length) [sC] (by simp) (by rw[bp,e4];omega)) I I I I I I I I I I I I ?_);rw[qH,hW];refine gA I (xh (by first|exact .inr I|exact .inl I) I I I I I (by first|exact .refl _|exact .kb _) (by first|exact .refl _|exact .kb _) I I I I (.refl _) I I)
 have y:i<d.types.length:=Wj.1 (of_decide_eq_true y);have x:n7 d.types w1 (i+1)=EJ (eQ i (n7 d.types w1 i)) (d.types.getD i co):=rfl;have D:=iC i (n7 d.types w1 i);generalize n7 d.types w1 i=w2 at*
 refine gA I ?_;refine S3 (fun A=>?_) (fun A=>?_)
 .have A: ¬i=0:=by have:=of_decide_eq_true A;omega
  rw[eQ,be A]at x D;refine gA I (go_wp (d147 w2 [vM] (by simp) (by rw[bp,e5];omega)) I I I I I I I I I I I I ?_);refine gA I ?_;refine S3 (fun B=>?_) (fun B=>?_)
  .have j:d.types.getD i co=1:=of_decide_eq_true B;rw[EJ,am j]at x;refine gA I (go_wp (d147 (aS w2 [vM]) [Qp] (by simp) (by rw[bp,J];omega)) I I I I I I I I I I I I ?_);refine gA I ⟨y,ac,_,HH (x.symm) I I I I (by first|exact .refl _|exact .kb _) (by first|exact .refl _|exact .kb _) I I I I I (bi (bi (bi (bi ac))))⟩
  .have j: ¬d.types.getD i co=1:=of_decide_eq_false B;refine gA I ?_;refine S3 (fun C=>?_) (fun C=>?_)
   .have u:d.types.getD i co=2:=of_decide_eq_true C;rw[EJ,be j,am u]at x;refine gA I (go_wp (d147 (aS w2 [vM]) [Qd] (by simp) (by rw[bp,Y];omega)) I I I I I I I I I I I I ?_);refine gA I ⟨y,ac,_,HH (x.symm) I I I I (by first|exact .refl _|exact .kb _) (by first|exact .refl _|exact .kb _) I I I I I (bi (bi (bi (bi ac))))⟩
   .have u: ¬d.types.getD i co=2:=of_decide_eq_false C;rw[EJ,be j,be u]at x;refine gA I ⟨y,ac,_,HH (x.symm) I I I I (by first|exact .refl _|exact .kb _) (by first|exact .refl _|exact .kb _) I I I I I (bi (bi (bi (bi ac))))⟩
 .have A:i=0:=by have:=of_decide_eq_false A;omega
  rw[eQ,am A]at x D;refine gA I ?_;refine S3 (fun B=>?_) (fun B=>?_)
  .have j:d.types.getD i co=1:=of_decide_eq_true B;rw[EJ,am j]at x;refine gA I (go_wp (d147 w2 [Qp] (by simp) (by rw[bp,J];omega)) I I I I I I I I I I I I ?_);refine gA I ⟨y,ac,_,HH (x.symm) I I I I (by first|exact .refl _|exact .kb _) (by first|exact .refl _|exact .kb _) I I I I I (bi (bi (bi (bi ac))))⟩
  .have j: ¬d.types.getD i co=1:=of_decide_eq_false B;refine gA I ?_;refine S3 (fun C=>?_) (fun C=>?_)
   .have u:d.types.getD i co=2:=of_decide_eq_true C;rw[EJ,be j,am u]at x;refine gA I (go_wp (d147 w2 [Qd] (by simp) (by rw[bp,Y];omega)) I I I I I I I I I I I I ?_);refine gA I ⟨y,ac,_,HH (x.symm) I I I I (by first|exact .refl _|exact .kb _) (by first|exact .refl _|exact .kb _) I I I I I (bi (bi (bi (bi ac))))⟩
   .have u: ¬d.types.getD i co=2:=of_decide_eq_false C;rw[EJ,be j,be u]at x;refine gA I ⟨y,ac,_,HH (x.symm) I I I I (by first|exact .refl _|exact .kb _) (by first|exact .refl _|exact .kb _) I I I I I (bi (bi (bi (bi ac))))⟩
def om(w:WS)(r:aq):WS:=if r.body=[] then gT w r.head else de (dF (Lit.au r.body)) r.body (aS (gT w r.head) [Pe]) r.body.length
def aq.ts(r:aq):Nat:=r.head.ts+Lit.ki r.body+30
theorem wv(w:WS)(r:aq):(om w r).l.length+10<=w.l.length+r.ts:=by
 have e:Pe.size=4:=rfl;have j:=n4 w r.head;unfold om aq.ts;split
 .omega
 .have d:=lD (dF (Lit.au r.body)) (qq _) r.body (aS (gT w r.head) [Pe]) r.body.length (S9 _);rw[aH,e,TV]at d;omega
theorem FC(w:WS)(r:aq):(om w r).br=w.br:=by
 unfold om;split
 .exact lF _ _
 .rw[lE _ (ta _),bQ,lF]
theorem NS(w:WS)(r:aq)(hs:Lit.au r.body<=100000000)(d:0<=w.br)(j:w.br<=16)(hb:w.l.length+r.ts<=900000000):bB prog 99 [.ptr 0 0,ag r.c] w.O (.aZ []) (om w r).H 3:=by
 have e:Pe.size=4:=rfl;have x:r.ts=r.head.ts+Lit.ki r.body+30:=rfl;have y:=n4 w r.head;refine an ab func99 I (by decide) ntmps99 I (by simp) ?_;refine gA I (BI (d104 w r.head (by omega)) I I I I I I I I I I I I ?_);refine gA I ?_;refine S3 (fun k=>?_) (fun k=>?_)
 .have u: ¬r.body=[]:=fun h=>by
   have g:=of_decide_eq_true k;rw[h]at g;simp at g
  rw[om,be u];refine gA I (go_wp (d147 (gT w r.head) [Pe] (by simp) (by rw[bp,e];omega)) I I I I I I I I I I I I ?_);refine gA I (BI (d214 (Lit.au r.body) (OD _ (by omega)) (aS (gT w r.head) [Pe]) r.body (S9 _) (by rw[bQ,lF];exact d) (by rw[bQ,lF];exact j) (by rw[aH,e];omega) hs) I I I I I I I I I I I I ?_);refine gA I (xh (by first|exact .inr I|exact .inl I) I I I I I (by first|exact .refl _|exact .kb _) (by first|exact .refl _|exact .kb _) I I I I (.refl _) I I)
 .have u:r.body=[]:=TN (by
   have g:=of_decide_eq_false k
   omega)
  rw[om,am u];refine gA I (xh (by first|exact .inr I|exact .inl I) I I I I I (by first|exact .refl _|exact .kb _) (by first|exact .refl _|exact .kb _) I I I I (.refl _) I I)
def fL(l:List Decl)(w:WS):Nat->WS
 |0=>w
 |i+1=>aS (qH (fL l w i) (l.getD i co)) [JA]
def gB(l:List aq)(w:WS):Nat->WS
 |0=>w
 |i+1=>aS (om (gB l w i) (l.getD i co)) [JA]
def p8(p:Prog):WS:=gB p.rules (fL p.aw WS.o p.aw.length) p.rules.length
def Prog.ts(p:Prog):Nat:=(p.aw.map Decl.ts).sum+(p.rules.map aq.ts).sum
theorem nH{α:Type}[Inhabited α](f:α->Nat)(l:List α)(i:Nat)(h:i<l.length):((l.take (i+1)).map f).sum=((l.take i).map f).sum+f (l.getD i co):=by
 rw[bb h,Tc,List.sum_append];simp
theorem pL{α:Type}(f:α->Nat): ∀(l:List α) (i:Nat),((l.take i).map f).sum<=(l.map f).sum
 | [],i=>by simp
 |s::r,0=>by simp
 |s::r,i+1=>by have:=pL f r i;simp at this ⊢;omega
theorem pr(l:List Decl)(w:WS): ∀i,i<=l.length->(fL l w i).l.length<=w.l.length+((l.take i).map Decl.ts).sum
 |0,_=>by simp[fL]
 |i+1,h=>by
  have e:JA.size=2:=rfl;have d:=pr l w i (by omega);have j:=xn (fL l w i) (l.getD i co);rw[fL,aH,e,nH _ _ _ (by omega)];omega
theorem xm(l:List Decl)(w:WS): ∀i,(fL l w i).br=w.br
 |0=>rfl
 |i+1=>by rw[fL,bQ,G5,xm l w i]
theorem oQ(l:List aq)(w:WS): ∀i,i<=l.length->(gB l w i).l.length<=w.l.length+((l.take i).map aq.ts).sum
 |0,_=>by simp[gB]
 |i+1,h=>by
  have e:JA.size=2:=rfl;have d:=oQ l w i (by omega);have j:=wv (gB l w i) (l.getD i co);rw[gB,aH,e,nH _ _ _ (by omega)];omega
theorem wu(l:List aq)(w:WS): ∀i,(gB l w i).br=w.br
 |0=>rfl
 |i+1=>by rw[gB,bQ,FC,wu l w i]
theorem NY(p:Prog)(hs:p.size<=100000000)(hb:p.ts<=800000000):Pure prog 45 [ag p.c] (p8 p).told:=by
 have e:JA.size=2:=rfl;have e0:WS.o.l.length=0:=rfl;unfold Prog.ts at hb;unfold Prog.size at hs;refine ai ab func45 I (by decide) ntmps45 I (by simp) I ?_;refine gM 12 I (yv 1 I I ?_);refine gA I ?_;refine aJ 0 p.aw.length (Te _) (fun i=>⟨[(1,.ptr 0 0),(4,.ptr 1 0),(12,.iv (bz 4 p.aw Decl.c)),(13,pI p.aw.length),(14,pI i)],[(0,dl (aD p.c)),(1,dl ((fL p.aw WS.o i).px 1 3)),(3,dl (.bt (fL p.aw WS.o i).l 5))],4⟩) (fun _=>True) [2] ac
  (wk I I I (bi (bi (bi (bi (bi trivial))))) (hC I I I ⟨⟨_,rfl,.of_eq I⟩,SY I,rfl,⟨_,rfl,.of_eq I⟩,SY I,ac,ac⟩) I) fun i C _=>?_
 have D:=pr p.aw WS.o i C;have b0:=pL Decl.ts p.aw i;refine gA I ?_;refine S3 (fun u=>?_) (fun u=>?_)
 .have u:i<p.aw.length:=by simpa using u
  have d:fL p.aw WS.o (i+1)=aS (qH (fL p.aw WS.o i) (p.aw.getD i co)) [JA]:=rfl;have B:=xn (fL p.aw WS.o i) (p.aw.getD i co);have F:=nH Decl.ts p.aw i u;have A:=pL Decl.ts p.aw (i+1);generalize fL p.aw WS.o i=w2 at*
  refine gA I (BI (DP w2 (p.aw.getD i co) (by omega)) I I I I I I I I I I I I ?_);refine gA I (go_wp (d147 (qH w2 (p.aw.getD i co)) [JA] (by simp) (by rw[bp,e];omega)) I I I I I I I I I I I I ?_);refine gA I ⟨u,ac,[7],wk I I I (bi (bi (bi (bi (bi ac))))) (hC I I I ⟨⟨_,rfl,.of_eq (by rw[d];rfl)⟩,SY I,rfl,⟨_,rfl,.of_eq (by rw[d];rfl)⟩,SY I,ac,ac⟩) I⟩
 .have u:p.aw.length<=i:=by simpa using u
  have x:i=p.aw.length:=by omega
  subst x;have y:(fL p.aw WS.o p.aw.length).br=0:=xm _ _ _;rw[TV]at D;generalize Y:fL p.aw WS.o p.aw.length=w1 at*
  refine gA I ?_;refine aJ 0 p.rules.length (Te _) (fun i=>⟨[(4,.ptr 1 0),(26,.iv (bz 5 p.rules aq.c)),(27,pI p.rules.length),(28,pI i)],[(1,dl ((gB p.rules w1 i).px 1 4)),(4,dl (.bt (gB p.rules w1 i).l 5))],5⟩) (fun _=>True) [3] ac
   (wk I I I (bi (bi (bi (bi trivial)))) ⟨⟨_,rfl,.of_eq I⟩,SY I,rfl,⟨_,rfl,.of_eq I⟩,SY I,ac,ac⟩ I) fun i C _=>?_
  have G:=oQ p.rules w1 i C;have A:=pL aq.ts p.rules i;have Z:=(wu p.rules w1 i).trans y;refine gA I ?_;refine S3 (fun j=>?_) (fun j=>?_)
  .have j:i<p.rules.length:=by simpa using j
   have d:gB p.rules w1 (i+1)=aS (om (gB p.rules w1 i) (p.rules.getD i co)) [JA]:=rfl;have B:=wv (gB p.rules w1 i) (p.rules.getD i co);have F:=nH aq.ts p.rules i j;have J:=pL aq.ts p.rules (i+1);have c0:=kq aq.size p.rules i j;have a0:(p.rules.getD i co).size=(p.rules.getD i co).head.aj.length+Lit.au (p.rules.getD i co).body:=rfl;generalize gB p.rules w1 i=w2 at*
   refine gA I (BI (NS w2 (p.rules.getD i co) (by omega) (by omega) (by omega) (by omega)) I I I I I I I I I I I I ?_);refine gA I (go_wp (d147 (om w2 (p.rules.getD i co)) [JA] (by simp) (by rw[bp,e];omega)) I I I I I I I I I I I I ?_);refine gA I ⟨j,ac,[8],wk I I I (bi (bi (bi (bi ac)))) ⟨⟨_,rfl,.of_eq (by rw[d];rfl)⟩,SY I,rfl,⟨_,rfl,.of_eq (by rw[d];rfl)⟩,SY I,ac,ac⟩ I⟩
  .have j:p.rules.length<=i:=by simpa using j
   have x:i=p.rules.length:=by omega
   subst x;have hp:gB p.rules w1 p.rules.length=p8 p:=by rw[p8,Y]
   rw[hp];refine gA I (aE [1,4] (d105 (p8 p)) I I I I I I I I ?_);refine gA I (aR (by first|exact .inr I|exact .inl I) I (.of_eq ?_));rfl
end Go.Proofs.YtbhphmfbligliaaGreatDoor
namespace Go.Proofs.YtbhphmfbligliaaGreatDoor
open Go Go.Al Go.Proofs.Tryz Go.ChangeShapes Go.WideShapes Go.RowKit
section
theorem y2{α:Type}(f:α->Nat): ∀l:List α,(l.map fun x=>f x+1).sum=(l.map f).sum+l.length
 | []=>rfl
 |x::r=>by simp only[Tg,UY,Tr,y2 f r];omega
section
variable {H:Type} {enc:TypeId×Value->H} {W:World} {hT:my W} {sp:Nat->Bool} {held:Bool}
def QD(x:Decl)(d:DataW H):Prop:=x.types.length+1<=bk d∧x.ts<=400*bk d
def QR1(r:aq)(d:DataW H):Prop:=(r.size+1<=bk d∧r.ts<=400*bk d)∧r.head.ts<=400*bk d∧ ∀l∈r.body,l.ts<=400*bk d
def RH(p:Prog)(d:DataW H):Prop:=(p.size<=bk d∧p.ts<=400*bk d)∧p.aw.length<=bk d∧p.rules.length<=bk d∧ ∀r∈p.rules,r.size<=bk d∧r.head.ts<=400*bk d∧ ∀l∈r.body,l.ts<=400*bk d
theorem FP(n:Nat):Rd enc prog W hT sp held 105 aq.c QR1 n:=by
 intro m _ cs y h;obtain⟨xs,k,rfl,rfl,j,Z,d⟩:=DataW.trod_struct underlying105 h
 match xs,Z with
 | [x0,x1,x2],_=>
  obtain⟨a,B,qa⟩:=Cy (hT:=hT) k k (S9 _) _ _ (nS d 0 I I I vf I);obtain⟨b,C,u⟩:=JN (hT:=hT) k k (S9 _) _ _ (nS d 1 I I I AT I);obtain⟨c,D,qc⟩:=Bk (hT:=hT) k k (S9 _) _ _ (nS d 2 I I I tq I);refine⟨⟨a,b,c⟩,B.fP (o':=2) I (C.fP (o':=3) I (D.fP (o':=5) I (.end_ (j.trans AR)))),?_⟩;have x:=u.sum (f:=Lit.size) (c:=1) fun _ _ h=>by have:=h.2;omega
  rw[<-Lit.fQ]at x;have A:=u.sum (f:=Lit.ts) (c:=400) fun _ _ h=>h.1;rw[<-Lit.nG]at A;obtain⟨F,G⟩:=qa;simp only[bk]at x F G A;refine⟨⟨?_,?_⟩,?_,fun l j=>?_⟩
  .simp only[aq.size,bk,Tg,Tx,Rows.uptoBulk,Rows.uptoBulkAll];omega
  .simp only[aq.ts,bk,Tg,Tx,Rows.uptoBulk,Rows.uptoBulkAll];omega
  .simp only[bk,Tg,Tx,Rows.uptoBulk,Rows.uptoBulkAll];omega
  .obtain⟨e,⟨J,_⟩,Y⟩:=u.all l j;simp only[bk]at J Y;simp only[bk,Tg,Tx,Rows.uptoBulk,Rows.uptoBulkAll];omega
theorem JO(n:Nat):Rd enc prog W hT sp held 3 eI (fun _ _=>True) n:=by
 intro m j d y h;obtain⟨z,u,_⟩:=jg (hT:=hT) underlying3 n m j d y h;exact⟨z,u,ac⟩
theorem JP(n:Nat):Rd enc prog W hT sp held 99 Decl.c QD n:=by
 intro m _ Y y h;obtain⟨J,k,rfl,rfl,C,D,d⟩:=DataW.trod_struct underlying99 h
 match J,D with
 | [x0,x1,x2],_=>
  obtain⟨a,u,F,_⟩:=jF (hT:=hT) underlying9 k k (S9 _) _ _ (nS d 0 I I I rP I);obtain⟨b,x,G⟩:=(iO (hT:=hT) underlying58 j5 (by decide) (fun _=>rfl) (JO k)).mono (UT k) k (S9 _) _ _ (nS d 1 I I I KA I);obtain⟨c,A,Z⟩:=Bk (hT:=hT) k k (S9 _) _ _ (nS d 2 I I I tq I);refine⟨⟨a,b,c⟩,u.fP (o':=1) I (x.fP (o':=2) I (A.fP (o':=4) I (.end_ (C.trans Dl)))),?_⟩;have B:=G.len;have j:=rR (H:=H) a;rw[<-F]at j;simp only[bk]at B j;refine⟨?_,?_⟩
  .simp only[bk,Tg,Tx,Rows.uptoBulk,Rows.uptoBulkAll];omega
  .simp only[Decl.ts,bk,Tg,Tx,Rows.uptoBulk,Rows.uptoBulkAll];omega
theorem JM(n:Nat):Rd enc prog W hT sp held 25 Prog.c RH n:=by
 intro m _ cs y h;obtain⟨xs,k,rfl,rfl,j,hx,C⟩:=DataW.trod_struct underlying25 h
 match xs,hx with
 | [x0,x1],_=>
  obtain⟨a,F,D⟩:=(iO (hT:=hT) underlying22 Dl (by decide) (fun _=>rfl) (JP k)).mono (UT k) k (S9 _) _ _ (nS C 0 I I I KE I);obtain⟨b,G,u⟩:=(iO (hT:=hT) underlying23 AR (by decide) (fun _=>rfl) (FP k)).mono (UT k) k (S9 _) _ _ (nS C 1 I I I KD I);refine⟨⟨a,b⟩,F.fP (o':=1) I (G.fP (o':=2) I (.end_ (j.trans KB))),?_⟩;have x:=D.sum (f:=fun d=>d.types.length+1) (c:=1) fun _ _ h=>by
   simp only[QD]at h;omega
  have A:=u.sum (f:=fun r=>r.size+1) (c:=1) fun _ _ h=>by have:=h.1.1;omega
  rw[y2]at x A;have h8:=D.sum (f:=Decl.ts) (c:=400) fun _ _ h=>h.2;have h9:=u.sum (f:=aq.ts) (c:=400) fun _ _ h=>h.1.2;simp only[bk]at x A h8 h9;refine⟨⟨?_,?_⟩,?_,?_,fun r hr=>?_⟩
  .simp only[Prog.size,bk,Tg,Tx,Rows.uptoBulk,Rows.uptoBulkAll];omega
  .simp only[Prog.ts,bk,Tg,Tx,Rows.uptoBulk,Rows.uptoBulkAll];omega
  .simp only[bk,Tg,Tx,Rows.uptoBulk,Rows.uptoBulkAll];omega
  .simp only[bk,Tg,Tx,Rows.uptoBulk,Rows.uptoBulkAll];omega
  .obtain⟨e,⟨⟨J,_⟩,Y,B⟩,Z⟩:=u.all r hr;simp only[bk]at J Y B Z;refine⟨?_,?_,fun l j=>?_⟩
   .simp only[bk,Tg,Tx,Rows.uptoBulk,Rows.uptoBulkAll];omega
   .simp only[bk,Tg,Tx,Rows.uptoBulk,Rows.uptoBulkAll];omega
   .have:=B l j;simp only[bk,Tg,Tx,Rows.uptoBulk,Rows.uptoBulkAll];omega
end
theorem OQ{H:Type}{p:Prog}{d:DataW H}(h:RH p d)(hb:bk d<=1048576):p.fit:=by
 obtain⟨⟨A,_⟩,B,C,j⟩:=h;refine⟨by omega,by omega,fun r y=>?_⟩;obtain⟨D,F,u⟩:=j r y;exact⟨by omega,by omega,fun l x=>by have:=u l x;omega⟩
theorem Hn{H:Type}{enc:TypeId×Value->H}{W:World}(hT:my W){v:Value}{d:DataW H}{p:List MemPlace}(j: ∃base,Value.okWide prog W .any base 25 v)(h:DataW.Trod enc prog W 0 (fun _=>is) is 25 v d p):
  ∃x:Prog,RH x d∧VR (Mem.pD W hT) QR (· <0) (ag x.c) v:=by
 obtain⟨base,j⟩:=j;obtain⟨B,rfl,_⟩:=okWide_struct underlying25 j;obtain⟨n,A⟩:=h;obtain⟨r,u,y⟩:=JM (hT:=hT) n n (S9 _) _ _ A;exact⟨r,y,u.agg⟩
theorem MS{M:Mem}{N:Nm}{U:Nat->Prop}{p:IV}{a:Option Addr}{l c:Nat}(h:CR M [p] (Value.slice a l c).cells.toList):VR M N U (.iv p) (.slice a l c):= .iv _ _ (h.2 0 p I)
end
end Go.Proofs.YtbhphmfbligliaaGreatDoor
namespace Go.Proofs.YtbhphmfbligliaaGreatDoor
open Go Go.Al
inductive Tree where
 |mk (fact:Fact) (cW:Int) (kids:List Tree)
instance:Inhabited Tree:=⟨.mk co 0 []⟩
def Tree.fact:Tree->Fact| .mk f _ _=>f
def Tree.cW:Tree->Int| .mk _ r _=>r
def Tree.kids:Tree->List Tree| .mk _ _ k=>k
structure da where
 fact:Fact
 cW:Int
 kids:List Int
 deriving Inhabited
structure cK where
 fact:Fact
 cW:Int
 kids:Int
 up:List Int
 deriving Inhabited
mutual
def Tree.cr:Tree->List IV
 | .mk f r ks=> [iS f.rel,bz 3 f.args eK.c,iI r,.bW 4 ks.length (fun j=>(Tree.qP ks).getD j [])]
def Tree.qP:List Tree->List (List IV)
 | []=> []
 |e::r=>e.cr::Tree.qP r
end
def Tree.c(t:Tree):List IV:=[iS t.fact.rel,bz 3 t.fact.args eK.c,iI t.cW,.bW 4 t.kids.length (fun j=>(Tree.qP t.kids).getD j [])]
def Tree.c1(t:Tree):List IV:=[iS t.fact.rel,bz 3 t.fact.args eK.c,iI t.cW,bz 4 t.kids Tree.c]
theorem Tree.AK(e:Tree):e.cr=e.c:=by cases e;rfl
theorem Tree.j4: ∀(l:List Tree) (k:Nat),k<l.length->(Tree.qP l).getD k []=(l.getD k co).c
 |e::r,0,_=>by simp[Tree.qP,Tree.AK]
 |e::r,k+1,h=>by simpa[Tree.qP]using Tree.j4 r k (by simpa using h)
 | [],k,h=>by simp at h
theorem Nt(l:List Tree):jC (.bW 4 l.length (fun j=>(Tree.qP l).getD j [])) (bz 4 l Tree.c):= .bW I (Tree.j4 l)
theorem Jc(l:List Tree):jC (bz 4 l Tree.c) (.bW 4 l.length (fun j=>(Tree.qP l).getD j [])):= .bW I (fun k d=>(Tree.j4 l k d).symm)
theorem Tree.BA(e:Tree):ak (ag e.c1) (ag e.c):= .agg ⟨.refl _,.refl _,.refl _,.iv (Jc _),ac⟩
def da.c(l:da):List IV:=[iS l.fact.rel,bz 3 l.fact.args eK.c,iI l.cW,bz 1 l.kids eI]
def cK.c(n:cK):List IV:=[iS n.fact.rel,bz 3 n.fact.args eK.c,iI n.cW,iI n.kids,bz 1 n.up eI]
mutual
def Tree.size:Tree->Nat
 | .mk _ _ ks=>1+Tree.au ks
def Tree.au:List Tree->Nat
 | []=>0
 |e::r=>e.size+Tree.au r
end
theorem Tree.size_eq(e:Tree):e.size=1+Tree.au e.kids:=by cases e;rw[Tree.size];rfl
theorem Tree.gL: ∀a b:List Tree,Tree.au (a++b)=Tree.au a+Tree.au b
 | [],b=>by simp[Tree.au]
 |x::a,b=>by rw[Tu,Tree.au,Tree.au,Tree.gL a b];omega
theorem Tree.size_pos(e:Tree):1<=e.size:=by rw[e.size_eq];omega
theorem Tree.aA: ∀l:List Tree,l.length<=Tree.au l
 | []=>S9 _
 |e::r=>by have:=e.size_pos;have:=Tree.aA r;simp only[Tr,Tree.au];omega
def Tree.vQ(t:Tree):cK:=⟨t.fact,t.cW,t.kids.length,[]⟩
mutual
def Tree.pre:Tree->List cK
 | .mk f r ks=>⟨f,r,ks.length,[]⟩::Tree.fE ks
def Tree.fE:List Tree->List cK
 | []=> []
 |e::r=>e.pre++Tree.fE r
end
theorem Tree.On(t:Tree):t.pre=t.vQ::Tree.fE t.kids:=by cases t;rw[Tree.pre];rfl
mutual
theorem Tree.jy: ∀t:Tree,t.pre.length=t.size
 | .mk f r ks=>by rw[Tree.pre,Tree.size,Tr,Tree.p9 ks];omega
theorem Tree.p9: ∀l:List Tree,(Tree.fE l).length=Tree.au l
 | []=>rfl
 |e::r=>by rw[Tree.fE,Tree.au,S1,Tree.jy e,Tree.p9 r]
end
theorem Tree.mL: ∀a b:List Tree,Tree.fE (a++b)=Tree.fE a++Tree.fE b
 | [],b=>by simp[Tree.fE]
 |x::a,b=>by rw[Tu,Tree.fE,Tree.fE,Tree.mL a b,Tb]
def qS(i:Nat)(k:Int):Int:=if 0<=k∧k<i then i-k else 0
def da.vQ(i:Nat)(l:da):cK:=⟨l.fact,l.cW,l.kids.length,l.kids.map (qS i)⟩
def cD(l:List da):List cK:=l.zipIdx.map fun x=>x.1.vQ x.2
end Go.Proofs.YtbhphmfbligliaaGreatDoor
namespace Go.Proofs.YtbhphmfbligliaaGreatDoor
open Go Go.Al Go.Proofs.Tryz Go.ChangeShapes Go.WideShapes Go.RowKit
section
section
variable {H:Type} {enc:TypeId×Value->H} {W:World} {hT:my W} {sp:Nat->Bool} {held:Bool}
theorem Pr{z:Int}(h:(Go.Lit.int .u8 z).wf=is):0<=z∧z<256:=by
 have h:(kw ((0:Int)<=z)&&kw (z<=255))=is:=h;rw[Tz,decide_eq_true_eq,decide_eq_true_eq]at h;omega
theorem JQ(n:Nat):Rd enc prog W hT sp held 5 bD (fun _ _=>True) n:=by
 intro m j d y h;obtain⟨z,x,_,u⟩:=jg (hT:=hT) underlying5 n m j d y h;obtain⟨A,B⟩:=Pr u;refine⟨UInt8.ofNat z.toNat,?_,ac⟩;have e:((UInt8.ofNat z.toNat).toNat:Int)=z:=by simp;omega
 show CR _ [.v (.int .u8 ((UInt8.ofNat z.toNat).toNat:Int))] d;rw[e];exact x
end
theorem EG{H:Type}{enc:TypeId×Value->H}{W:World}(hT:my W){v:Value}{d:DataW H}{p:List MemPlace}(j: ∃base,Value.okWide prog W .any base 33 v)(h:DataW.Trod enc prog W 0 (fun _=>is) is 33 v d p):
  ∃x:List UInt8,x.length<=bk d∧VR (Mem.pD W hT) QR (· <0) (.iv (bz 1 x bD)) v:=by
 obtain⟨base,j⟩:=j;obtain⟨a,len,a0,rfl⟩:=okWide_slice underlying33 j;obtain⟨n,A⟩:=h;obtain⟨r,u,y⟩:=(iO (hT:=hT) underlying33 Hd (by decide) (fun _=>rfl) (JQ n)).mono (UT n) n (S9 _) _ _ A;exact⟨r,y.len,MS u⟩
theorem PX{H:Type}{p:Prog}{d:DataW H}(h:RH p d)(hb:bk d<=1048576):p.ts<=800000000:=by
 have:=h.1.2;omega
end
theorem ix:prog.closure 7=[7,9,26,27,11,30,57,24,44,93,94,137,136,171,208,256,209,145,181,231,282,313,232,157,172,210,147,144,98,146,182,233,183,184,234,242,283,250,298,330,337,338,281,343,344,339,340,345,346,348,349,314,100,149,211,185,235,284,236,285,286,316,315,317,237,148,212,228,257,300,213,258,263,214,216,217,215,259,218,219,220,221,260,301,261,179,230,262,222,264,302,265,267,303,266,268,223,224,269,304,305,174,229,270,306,225,135,95,138,139,173,227,280,226,271,277,312,272,307,273,308,309,274,310,311,331,275,276,278,279,140,96,141,175,176,177,142,178,143,180,46,101,102,103,150,151,186,45,97,99,47,58,59,110,158,190,240,287,241,60,61,62,111,64,63,66,65,112,67,113,68,69,70,71,72,114,15,13,31,73,74,115,116,117,75,118,76,77,78,119,79,32,33,80,17,18,12]:=by kernel_rfl
theorem qL:joinedFacts prog 7 f7 (Rows.OpenSpec.upto Rows.certOneFormSpec).bare Rows.certOneFormUptoRow=is:=by
 have j:prog.inPlace 7=Rows.certOneFormUptoRow.inPlace:=by unfold Program.inPlace;rw[ix];kernel_rfl
 have d:prog.unfollowed 7=is:=by unfold Program.unfollowed;rw[ix];kernel_rfl
 have u:prog.varsNamed 7=Rows.certOneFormUptoRow.named:=by unfold Program.varsNamed;rw[ix];kernel_rfl
 have x:prog.recurses 7=is:=by unfold Program.recurses;rw[d];rfl
 unfold joinedFacts;rw[j,d,u,x];show(_:Bool)=is
 kernel_rfl
end Go.Proofs.YtbhphmfbligliaaGreatDoor
namespace Go.En
def gr:Nat->Nat->List UInt8
 |0,n=> [UInt8.ofNat n]
 |f+1,n=>if n<128 then[UInt8.ofNat n] else UInt8.ofNat (n % 128+128)::gr f (n/128)
def enc(n:Nat):List UInt8:=gr 10 n
inductive Res where
 |ok (n k:Nat)
 |short
 |form
def dec:Nat->Nat->List UInt8->Res
 |_,_,[]=> .short
 |i,a,c::r=>if(i=9∧1<c.toNat)∨(0<i∧c.toNat=0) then .form else if c.toNat<128 then .ok (a+c.toNat % 128*128 ^ i) (i+1) else dec (i+1) (a+c.toNat % 128*128 ^ i) r
theorem tN{n:Nat}(h:n<256):(UInt8.ofNat n).toNat=n:=by simp;omega
theorem np: ∀f n,1<=(gr f n).length∧(gr f n).length<=f+1
 |0,_=>by simp[gr]
 |f+1,n=>by
  unfold gr;split
  .simp
  .have:=np f (n/128);simp;omega
theorem AJ: ∀(f i n a:Nat) (r:List UInt8),i+f=9->(0<i->0<n)->n<2*128 ^ f->dec i a (gr f n++r)= .ok (a+n*128 ^ i) (i+(gr f n).length)
 |0,i,n,a,r,hi,h0,hn=>by
  have y:n<2:=by simpa using hn
  have u:=tN (n:=n) (by omega);have d: ¬((i=9∧1<n)∨(0<i∧n=0)):=by
   rintro(⟨_,h⟩|⟨h,x⟩)
   .omega
   .have:=h0 h;omega
  simp only[gr,Tu,TD,dec,u,be d,am (show n<128 by omega),Vy (show n<128 by omega),Tr,Ur]
 |f+1,i,n,a,r,hi,h0,hn=>by
  unfold gr;split
  .rename_i h;have u:=tN (n:=n) (by omega);have d: ¬((i=9∧1<n)∨(0<i∧n=0)):=by
    rintro(⟨h3,_⟩|⟨h,x⟩)
    .omega
    .have:=h0 h;omega
   simp only[Tu,TD,dec,u,be d,am h,Vy h,Tr,Ur]
  .rename_i h;have A:=Nat.mod_lt n (show 0<128 by decide);have u:=tN (n:=n % 128+128) (by omega);have d: ¬((i=9∧1<n % 128+128)∨(0<i∧n % 128+128=0)):=by rintro(⟨h3,_⟩|⟨_,x⟩)<;>omega
   have j:n/128<2*128 ^ f:=by
    rw[Wq (by decide)]
    calc n<2*128 ^ (f+1):=hn
     _=2*128 ^ f*128:=by rw[VO,WB]
   simp only[Tu,dec,u,be d,be (show¬n % 128+128<128 by omega),Tr];rw[AJ f (i+1) (n/128) _ r (by omega) (fun _=>by omega) j];have e:(n % 128+128) % 128=n % 128:=by omega
   rw[e];congr 1
   .have x:n=n % 128+n/128*128:=by omega
    rw[VO]
    calc a+n % 128*128 ^ i+n/128*(128 ^ i*128)=a+(n % 128+n/128*128)*128 ^ i:=by rw[TP,WB (n/128) 128,Nat.mul_comm (128 ^ i) 128,Ua]
     _=a+n*128 ^ i:=by rw[<-x]
   .omega
theorem yE{n:Nat}(h:n<2 ^ 64)(r:List UInt8):dec 0 0 (gr 9 n++r)= .ok n (gr 9 n).length:=by
 have:=AJ 9 0 n 0 r I (fun h=>absurd h (by decide)) (by rw[show 2*128 ^ 9=2 ^ 64 by decide];exact h);simpa using this
theorem xj: ∀(f n:Nat),n<128 ^ (f+1)->gr (f+1) n=gr f n
 |0,n,h=>by
  have:n<128:=by simpa using h
  simp[gr,this]
 |f+1,n,h=>by
  rw[gr]
  conv=>rhs;rw[gr]
  split
  .rfl
  .rw[xj f];rw[Wq (by decide)];rwa[VO]at h
theorem u6{n:Nat}(h:n<2 ^ 64):enc n=gr 9 n:=xj 9 n (UO h (by decide))
theorem AG: ∀(l:List UInt8) {i a n k:Nat},i<=9->dec i a l= .ok n k-> ∃m,n=a+m*128 ^ i∧l.take (k-i)=gr (9-i) m∧k-i<=l.length∧i<k∧m<2*128 ^ (9-i)∧(0<i->0<m)
 | [],_,_,_,_,_,h=>by cases h
 |c::l,i,a,n,k,hi,h=>by
  unfold dec at h;split at h
  .cases h
  .rename_i j;have F:=c.toNat_lt;split at h
   .rename_i d;cases h;rw[Vy d];refine⟨c.toNat,rfl,?_,by simp,by omega,?_,fun u=>?_⟩
    .rw[show i+1-i=1 by omega,Un,Vw];cases hf:9-i with
     |zero=>simp[gr]
     |succ f=>rw[gr,am d];simp
    .rcases TZ i 9 with g|g
     .calc c.toNat<128:=d
       _<=2*128 ^ (9-i):=by
        have:128 ^ 1<=128 ^ (9-i):=Nat.pow_le_pow_right (by decide) (by omega);omega
     .have:i=9:=by omega
      subst this;have: ¬1<c.toNat:=fun h=>j (.inl ⟨rfl,h⟩);simp;omega
    .rcases VH c.toNat with e|e
     .exact absurd (.inr ⟨u,e⟩) j
     .exact e
   .rename_i d;have y:i<9:=by
     rcases TZ i 9 with g|g
     .exact g
     .exact absurd (Or.inl ⟨by omega,by omega⟩) j
    obtain⟨m,B,C,G,J,Y,D⟩:=AG l (by omega) h;have A:=D (by omega);have x:c.toNat % 128=c.toNat-128:=by omega
    refine⟨c.toNat % 128+m*128,?_,?_,by simp;omega,by omega,?_,fun _=>by omega⟩
    .rw[B,VO,TP,WB m 128,Nat.mul_comm 128 (128 ^ i),Ua]
    .rw[show k-i=(k-(i+1))+1 by omega,Un,C,show 9-i=(9-(i+1))+1 by omega,gr,be (by omega)];congr 1
     .rw[show(c.toNat % 128+m*128) % 128+128=c.toNat by omega];simp
     .rw[show(c.toNat % 128+m*128)/128=m by omega]
    .rw[show 9-i=(9-(i+1))+1 by omega,VO];omega
theorem AI{l:List UInt8}{n k:Nat}(h:dec 0 0 l= .ok n k):n<2 ^ 64∧l.take k=gr 9 n∧k<=l.length∧0<k:=by
 obtain⟨m,d,j,u,x,y,_⟩:=AG l (Te _) h;have e:n=m:=by simpa using d
 subst e;refine⟨by rw[<-show 2*128 ^ 9=2 ^ 64 by decide];exact y,by simpa using j,by simpa using u,x⟩
abbrev By:=List UInt8
structure RS where
 p:Nat
 f:Int
def zz(n:Int):Nat:=if n<0 then(-2*n-1).toNat else(2*n).toNat
def yO(u:Nat):Int:=if u % 2=0 then((u/2:Nat):Int) else-((u/2:Nat):Int)-1
theorem MU(n:Int):yO (zz n)=n:=by
 unfold zz yO;split<;>split<;>omega
def bm(b:By)(most:Nat)(s:RS):Nat×RS:=
 if s.f=0 then match dec 0 0 (b.drop s.p) with
  | .ok n k=>if n<=most then(n,⟨s.p+k,0⟩) else(0,⟨s.p,12⟩)
  | .short=>(0,⟨s.p,10⟩)
  | .form=>(0,⟨s.p,11⟩)
 else(0,s)
def kN(b:By)(lo hi:Int)(s:RS):Int×RS:=
 if s.f=0 then match dec 0 0 (b.drop s.p) with
  | .ok n k=>if lo<=yO n∧yO n<=hi then(yO n,⟨s.p+k,0⟩) else(0,⟨s.p,12⟩)
  | .short=>(0,⟨s.p,10⟩)
  | .form=>(0,⟨s.p,11⟩)
 else(0,s)
def fz(b:By)(most:Nat)(s:RS):By×RS:=
 if s.f=0 then match dec 0 0 (b.drop s.p) with
  | .ok n k=>if n<=most then(if n<=b.length-(s.p+k) then((b.drop (s.p+k)).take n,⟨s.p+k+n,0⟩) else([],⟨s.p,10⟩)) else([],⟨s.p,12⟩)
  | .short=>([],⟨s.p,10⟩)
  | .form=>([],⟨s.p,11⟩)
 else([],s)
structure At (b:By) (s:RS) (r:By):Prop where
 f:s.f=0
 le:s.p<=b.length
 r:b.drop s.p=r
theorem At.go{b:By}{s:RS}{x r:By}(h:At b s (x++r)):At b ⟨s.p+x.length,0⟩ r:=by
 have d:=congrArg Vg h.r;have j:=h.le;rw[UP,S1]at d;refine⟨rfl,by show s.p+x.length<=_;omega,?_⟩;show b.drop (s.p+x.length)=r;rw[<-List.drop_drop,h.r];simp
theorem jD{b:By}{s:RS}{r:By}{n most:Nat}(h:At b s (enc n++r))(hm:n<=most)(hn:n<2 ^ 64):bm b most s=(n,⟨s.p+(enc n).length,0⟩):=by
 have d:=yE hn r;rw[<-u6 hn]at d;simp[bm,h.f,h.r,d,hm]
theorem Gr{b:By}{s:RS}{r:By}{n lo hi:Int}(h:At b s (enc (zz n)++r))(j:lo<=n)(hh:n<=hi)(hn:zz n<2 ^ 64):kN b lo hi s=(n,⟨s.p+(enc (zz n)).length,0⟩):=by
 have d:=yE hn r;rw[<-u6 hn]at d;simp[kN,h.f,h.r,d,MU,j,hh]
def me(t:By):By:=enc t.length++t
theorem Dy{b:By}{s:RS}{t r:By}{most:Nat}(h:At b s (me t++r))(hm:t.length<=most)(hn:t.length<2 ^ 64):fz b most s=(t,⟨s.p+(me t).length,0⟩):=by
 unfold me at h;rw[Tb]at h;have d:=yE hn (t++r);rw[<-u6 hn]at d;have j:=h.go;have u:=congrArg Vg j.r;rw[UP,S1]at u;have x:t.length<=b.length-(s.p+(enc t.length).length):=by
  have:b.length-(s.p+(enc t.length).length)=t.length+r.length:=u;omega
 have y:b.drop (s.p+(enc t.length).length)=t++r:=j.r;simp[fz,h.f,h.r,d,hm,x,y,me,Ua]
def dD(b:By)(most:Nat):Nat->RS->List By×RS
 |0,s=>([],s)
 |n+1,s=>if s.f=0 then((fz b most s).1::(dD b most n (fz b most s).2).1,(dD b most n (fz b most s).2).2) else([],s)
theorem tP{b:By}{most:Nat}(d:most<2 ^ 64): ∀(l:List By) {s:RS} {r:By},At b s (l.flatMap me++r)->(∀t∈l,t.length<=most)->dD b most l.length s=(l,⟨s.p+(l.flatMap me).length,0⟩)
 | [],s,r,h,_=>by
  have:=h.f;cases s
  simp_all [dD]
 |t::l,s,r,h,hm=>by
  rw[TJ,Tb]at h;have j:=hm t (Tm ..);have u:=Dy h j (by omega);have x:=tP d l h.go fun t y=>hm t (Tl _ y);rw[Tr,dD,am h.f,u];simp only[x,TJ,S1,Ua]
end Go.En
namespace Go.Proofs.YtbhphmfbligliaaGreatDoor
open Go Go.Al
def Er(p:Prog)(f:Fact)(j:Nat):Bool:=kw ((f.args.getD j co).kind=(eF p f.rel).types.getD j co)
def oB(p:Prog)(f:Fact):Int:=
 if cY .str (p4 p) f.rel=jp∨mb f=jp∨ ¬(f.args.length:Int)=((eF p f.rel).types.length:Int) then 5
 else if(TX f.args.length).all (Er p f)=is then 0 else 5
theorem DX{q:Nat->Bool}{n:Nat}(h: ∀j,j<n->q j=is):(TX n).all q=is:=TI.2 fun j d=>h j (U8.1 d)
theorem DW{q:Nat->Bool}{n j:Nat}(h:j<n)(d:q j=jp): ¬(TX n).all q=is:=fun e=>by
 have:=TI.1 e j (U8.2 h);rw[d]at this;cases this
theorem c16(p:Prog)(f:Fact)(hb:p.aw.length<=1000000000)(hf:f.args.length<=1000000000):Pure Tryz.prog 110 [ag p.c,ag f.c] (pI (oB p f)):=by
 refine ai ab Tryz.func110 I (by decide) Tryz.ntmps110 I (by simp) I ?_;refine gA I (zd [] (d50 p (by omega)) ?_);refine zE I I (fun g1=>?_) fun g1=>?_
 .have g1:cY .str (p4 p) f.rel=jp:=by simpa using g1
  rw[oB,am (.inl g1)];exact zU I
 have g1: ¬cY .str (p4 p) f.rel=jp:=by
  have g:(!cY .str (p4 p) f.rel)=jp:=g1;intro h;rw[h]at g;cases g
 refine gA I (zp (c55 f) ?_);refine zE I I (fun g2=>?_) fun g2=>?_
 .have g2:mb f=jp:=by
   cases h:mb f with
   |false=>rfl
   |true=>
    have g:(!kw ((if mb f then(0:Int) else 20)=0))=is:=g2;rw[h]at g;simp at g
  rw[oB,am (.inr (.inl g2))];exact zU I
 have g2: ¬mb f=jp:=by
  intro h;have g:(!kw ((if mb f then(0:Int) else 20)=0))=jp:=g2;rw[h]at g;simp at g
 refine zJ I I (fun g3=>?_) fun g3=>?_
 .have g3: ¬(f.args.length:Int)=((eF p f.rel).types.length:Int):=by
   have g:(!kw ((f.args.length:Int)=((eF p f.rel).types.length:Int)))=is:=g3;simpa only[Ul,decide_eq_false_iff_not]using g
  rw[oB,am (.inr (.inr g3))];exact zU I
 have g3:(f.args.length:Int)=((eF p f.rel).types.length:Int):=by
  have g:(!kw ((f.args.length:Int)=((eF p f.rel).types.length:Int)))=jp:=g3;simpa only[Va,decide_eq_true_eq]using g
 rw[oB,be (by rintro(h|h|h);exact g1 h;exact g2 h;exact h g3)];refine gA I ?_;refine aJ 0 f.args.length (Te _) (fun i=>⟨[(5,.ptr 3 0),(34,.iv (bz 3 f.args eK.c)),(35,pI f.args.length),(36,pI i)],[(3,dl (aD (eF p f.rel).c))],4⟩) (fun i=> ∀j,j<i->Er p f j=is) [] (fun j x=>absurd x (Ve j))
  (zW (zO trivial)) fun i A y=>?_
 refine zJ I I (fun d=>?_) fun d=>?_
 .have d:i<f.args.length:=zN d;refine zJ I I (fun u=>?_) fun u=>?_
  .have u:Er p f i=jp:=by
    have g:(!Er p f i)=is:=u;simpa using g
   rw[be (DW d u)];exact zU I
  .have u:Er p f i=is:=by
    have g:(!Er p f i)=jp:=u;simpa using g
   refine gA I ⟨d,fun j x=>by rcases VE.1 x with h|h;exact y j h;exact h▸u,[],zW (zO ac)⟩
 .have d:f.args.length<=i:=zG d;rw[am (DX fun j x=>y j (by omega))];exact zU I
end Go.Proofs.YtbhphmfbligliaaGreatDoor
namespace Go.Tj
section
section
variable {α:Type}
inductive mC (succ:α->List α):α->α->Prop
 |refl (a:α):mC succ a a
 |step {a b c:α}:mC succ a b->c∈succ b->mC succ a c
theorem mC.trans{succ:α->List α}{a b c:α}(h:mC succ a b)(g:mC succ b c):mC succ a c:=by
 induction g with
 |refl=>exact h
 |step _ he ih=>exact .step ih he
theorem mC.one{succ:α->List α}{a b:α}(h:b∈succ a):mC succ a b:= .step (.refl a) h
structure St (α:Type) where
 low:α->Int
 on:α->Int
 ring:α->Int
 n:Nat
 stack:List α
section
variable [DecidableEq α]
def xD(f:α->Int)(a:α)(v:Int):α->Int:=fun x=>if x=a then v else f x
theorem jK(f:α->Int)(a:α)(v:Int):xD f a v a=v:=am I
theorem kI{f:α->Int}{a x:α}{v:Int}(h: ¬x=a):xD f a v x=f x:=be h
def push(s:St α)(a:α):St α:=⟨xD s.low a ((s.n:Int)+1),xD s.on a 1,s.ring,s.n+1,s.stack++ [a]⟩
def x8(d:Int)(s:St α):St α:=match s.stack.getLast? with
 |some b=>⟨s.low,xD s.on b 2,xD s.ring b d,s.n,s.stack.dropLast⟩
 |none=>s
def fG(a:α)(d:Int):Nat->St α->St α
 |0,s=>s
 |k+1,s=>if s.on a=1 then fG a d k (x8 d s) else s
def rX(d:α->St α->Int×St α)(q:Int×St α)(b:α):Int×St α:=
 if q.2.low b=0 then(min q.1 (d b q.2).1,(d b q.2).2) else if q.2.on b=1 then(min q.1 (q.2.low b),q.2) else q
def s4(a:α)(d:Int)(q:Int×St α):Int×St α:=if q.1=d then(q.1,fG a d q.2.stack.length q.2) else q
def ew(succ:α->List α):Nat->α->St α->Int×St α
 |0,_,s=>(0,s)
 |f+1,a,s=>s4 a ((s.n:Int)+1) ((succ a).foldl (rX (ew succ f)) ((s.n:Int)+1,push s a))
def gE(succ:α->List α)(f:Nat)(V:List α)(s:St α):St α:=V.foldl (fun s a=>if s.low a=0 then(ew succ f a s).2 else s) s
end
def St.o:St α:=⟨fun _=>0,fun _=>0,fun _=>0,0,[]⟩
structure Inv (succ:α->List α) (path:List α) (s:St α):Prop where
 mw: ∀a,0<=s.low a∧s.low a<=s.n
 inj: ∀a b,s.low a=s.low b->s.low a≠0->a=b
 HJ: ∀a,s.on a=0↔s.low a=0
 D7: ∀a,s.on a=0∨s.on a=1∨s.on a=2
 wo: ∀a,s.on a=1↔a∈s.stack
 Pd:s.stack.Pairwise fun x y=>s.low x<s.low y
 Kv: ∀a,s.on a=2-> ∀b∈succ a,s.on b=2
 Om: ∀g∈path,s.on g=1
 up: ∀y,s.on y=1-> ∃g∈path,s.low g<=s.low y∧mC succ y g
 dn: ∀g∈path,∀y,s.on y=1->s.low g<=s.low y->mC succ g y
 az: ∀y,s.low y≠0->y∉path-> ∀z∈succ y,s.low z≠0
 QI: ∀a,s.on a=2-> ∃r,s.on r=2∧s.low r=s.ring a∧mC succ a r∧mC succ r a
 cmp: ∀a b,s.on a=2->s.on b=2->mC succ a b->mC succ b a->s.ring a=s.ring b
structure Le (s s':St α):Prop where
 low: ∀x,s.low x≠0->s'.low x=s.low x
 Kv: ∀x,s.on x=2->s'.on x=2
 n:s.n<=s'.n
theorem Le.refl(s:St α):Le s s:=⟨fun _ _=>rfl,fun _ h=>h,S9 _⟩
theorem Le.trans{s t u:St α}(h:Le s t)(g:Le t u):Le s u:=
 ⟨fun x d=>by rw[g.low x (by rw[h.low x d];exact d),h.low x d],fun x d=>g.Kv x (h.Kv x d),TQ h.n g.n⟩
structure O7 (succ:α->List α) (path:List α) (a:α) (s:St α) (least:Int) (s':St α) (t:List α):Prop where
 inv:Inv succ path s'
 le:Le s s'
 stack:s'.stack=s.stack++t
 new: ∀y∈t,s.low y=0
 at_:(s.n:Int)<s'.low a
 OB:least<=s'.low a
 l1: ∀y∈t,∀z∈succ y,s'.on z=1->least<=s'.low z
 l2:(s'.on a=2∧least=s'.low a)∨ ∃z∈s.stack,s'.low z=least∧mC succ a z
theorem uv{succ:α->List α}{path:List α}{s:St α}(h:Inv succ path s){x:α}(d:s.on x=1):s.low x≠0:=fun g=>by
 have:=(h.HJ x).2 g;omega
theorem F4{succ:α->List α}{p:List α}{s s':St α}(h:Inv succ p s)(d:Le s s'){x:α}(j:s.low x≠0)(ho:s'.on x=1):s.on x=1:=by
 rcases h.D7 x with g|g|g
 .exact absurd ((h.HJ x).1 g) j
 .exact g
 .have:=d.Kv x g;omega
section
variable [DecidableEq α]
theorem zH{succ:α->List α}{path:List α}{s:St α}{a:α}(h:Inv succ path s)(ha:s.low a=0)(hp: ∀g∈path,mC succ g a):Inv succ (path++ [a]) (push s a):=by
 have a0:s.on a=0:=(h.HJ a).2 ha;have G:a∉s.stack:=fun g=>by have:=(h.wo a).2 g;omega
 have u: ∀x,¬x=a->(push s a).low x=s.low x:=fun x d=>kI d;have la:(push s a).low a=(s.n:Int)+1:=jK _ _ _;have C: ∀x,¬x=a->(push s a).on x=s.on x:=fun x d=>kI d;have D:(push s a).on a=1:=jK _ _ _;have hn:((push s a).n:Int)=(s.n:Int)+1:=by show((s.n+1:Nat):Int)=_;omega
 refine⟨fun x=>?_,fun x y B d=>?_,fun x=>?_,fun x=>?_,fun x=>?_,?_,fun x d b hb=>?_,fun g Z=>?_,fun y A=>?_,fun g Z y A F=>?_,fun y A J z hz=>?_,fun x d=>?_,fun x y d A h1 h2=>?_⟩
 .have:=h.mw x;by_cases e:x=a
  .subst e;rw[la,hn];omega
  .rw[u x e,hn];omega
 .have h1:=h.mw x;have h2:=h.mw y;by_cases e:x=a
  .by_cases j:y=a
   .rw[e,j]
   .rw[e,la,u y j]at B;omega
  .by_cases j:y=a
   .rw[j,la,u x e]at B;omega
   .rw[u x e,u y j]at B;rw[u x e]at d;exact h.inj x y B d
 .by_cases e:x=a
  .subst e;rw[D,la];constructor<;>intro g<;>omega
  .rw[C x e,u x e];exact h.HJ x
 .by_cases e:x=a
  .subst e;exact .inr (.inl D)
  .rw[C x e];exact h.D7 x
 .show _↔x∈s.stack++ [a];rw[Ts,Tk];by_cases e:x=a
  .subst e;simp[D]
  .rw[C x e,h.wo x];simp[e]
 .show(s.stack++ [a]).Pairwise _;rw[Vx];refine⟨h.Pd.imp_of_mem ?_,List.pairwise_singleton _ _,fun x d y A=>?_⟩
  .intro x y d A B;rw[u x (fun e=>G (e▸d)),u y (fun e=>G (e▸A))];exact B
  .rw[Tk]at A;subst A;rw[la,u x (fun e=>G (e▸d))];have:=h.mw x;omega
 .have e: ¬x=a:=fun e=>by subst e;rw[D]at d;omega
  rw[C x e]at d;have Y:=h.Kv x d b hb;have j: ¬b=a:=fun e=>by subst e;omega
  rw[C b j];exact Y
 .rcases Ts.1 Z with g1|g1
  .have:=h.Om g g1;rw[C g (fun e=>by subst e;omega)];exact this
  .rw[Tk]at g1;subst g1;exact D
 .by_cases e:y=a
  .subst e;exact⟨y,Uy _ Tm,UL _,.refl _⟩
  .rw[C y e]at A;obtain⟨g,g1,g2,g3⟩:=h.up y A;have j: ¬g=a:=fun e=>by have:=h.Om g g1;subst e;omega
   exact⟨g,TR _ g1,by rw[u g j,u y e];exact g2,g3⟩
 .rcases Ts.1 Z with g1|g1
  .have j: ¬g=a:=fun e=>by have:=h.Om g g1;subst e;omega
   by_cases e:y=a
   .subst e;exact hp g g1
   .rw[u g j,u y e]at F;rw[C y e]at A;exact h.dn g g1 y A F
  .rw[Tk]at g1;subst g1;by_cases e:y=g
   .subst e;exact .refl _
   .rw[la,u y e]at F;have:=h.mw y;omega
 .have e: ¬y=a:=fun e=>J (Uy _ (by rw[e];exact Tm))
  rw[u y e]at A;have:=h.az y A (fun g=>J (TR _ g)) z hz;by_cases j:z=a
  .rw[j,la];omega
  .rw[u z j];exact this
 .have e: ¬x=a:=fun e=>by subst e;rw[D]at d;omega
  rw[C x e]at d;obtain⟨r,r1,r2,r3⟩:=h.QI x d;have j: ¬r=a:=fun e=>by subst e;omega
  exact⟨r,by rw[C r j];exact r1,by rw[u r j];exact r2,r3⟩
 .have e: ¬x=a:=fun e=>by subst e;rw[D]at d;omega
  have j: ¬y=a:=fun e=>by subst e;rw[D]at A;omega
  rw[C x e]at d;rw[C y j]at A;exact h.cmp x y d A h1 h2
theorem JW{succ:α->List α}{path:List α}{s:St α}{a:α}(h:Inv succ path s)(ha:s.low a=0):Le s (push s a):=by
 have j:s.on a=0:=(h.HJ a).2 ha;refine⟨fun x d=>kI fun e=>d (e▸ha),fun x d=>?_,by show s.n<=s.n+1;omega⟩;have: ¬x=a:=fun e=>by subst e;omega
 show xD s.on a 1 x=2;rw[kI this];exact d
def x7(s:St α)(u c:List α)(d:Int):St α:=⟨s.low,fun x=>if x∈c then 2 else s.on x,fun x=>if x∈c then d else s.ring x,s.n,u⟩
theorem zP{a:α}{d:Int}{s:St α}(h: ¬s.on a=1): ∀k,fG a d k s=s
 |0=>rfl
 |k+1=>be h
theorem wC(a:α)(d:Int)(u:List α): ∀(k:Nat) (t:List α) (s:St α),t.length<k->s.stack=u++a::t->a∉t->s.on a=1->(fG a d k s).low=s.low∧(fG a d k s).n=s.n∧(fG a d k s).stack=u∧(∀x,(fG a d k s).on x=if x∈a::t then 2 else s.on x)∧ ∀x,(fG a d k s).ring x=if x∈a::t then d else s.ring x
 |0,t,s,h,_,_,_=>absurd h (Ve _)
 |k+1,t,s,hk,hs,hn,ho=>by
  rw[fG,am ho];rcases t.eq_nil_or_concat with e|⟨t0,b,e⟩
  .subst e;have D:s.stack.getLast? =dl a:=by rw[hs];simp
   have hd:s.stack.dropLast=u:=by rw[hs];simp
   have F:x8 d s=⟨s.low,xD s.on a 2,xD s.ring a d,s.n,u⟩:=by unfold x8;rw[D,hd]
   rw[F,zP (by show¬xD s.on a 2 a=1;rw[jK];decide)];exact⟨rfl,rfl,rfl,fun x=>by simp[xD],fun x=>by simp[xD]⟩
  .rw[VP]at e;subst e;have A:s.stack=(u++a::t0)++ [b]:=by rw[hs];simp
   have D:s.stack.getLast? =dl b:=by rw[A];exact List.getLast?_concat
   have hd:s.stack.dropLast=u++a::t0:=by rw[A];exact List.dropLast_concat
   have F:x8 d s=⟨s.low,xD s.on b 2,xD s.ring b d,s.n,u++a::t0⟩:=by unfold x8;rw[D,hd]
   have C: ¬a=b:=fun e=>hn (by rw[e];simp);have B:=wC a d u k t0 ⟨s.low,xD s.on b 2,xD s.ring b d,s.n,u++a::t0⟩ (by simp at hk;omega) I (fun g=>hn (TR _ g)) (by show xD s.on b 2 a=1;rw[kI C];exact ho);rw[F];refine⟨B.1,B.2.1,B.2.2.1,fun x=>?_,fun x=>?_⟩
   .rw[B.2.2.2.1 x];by_cases j:x∈a::t0
    .rw[am j,am (by rw[<-Tu];exact TR _ j)]
    .rw[be j];by_cases y:x=b
     .subst y;rw[am (by simp)];exact jK _ _ _
     .rw[be (by rw[<-Tu,Ts,Tk];exact fun g=>g.elim j y)];exact kI y
   .rw[B.2.2.2.2 x];by_cases j:x∈a::t0
    .rw[am j,am (by rw[<-Tu];exact TR _ j)]
    .rw[be j];by_cases y:x=b
     .subst y;rw[am (by simp)];exact jK _ _ _
     .rw[be (by rw[<-Tu,Ts,Tk];exact fun g=>g.elim j y)];exact kI y
theorem St.eq{β:Type}{s t:St β}(h1:s.low=t.low)(d:s.on=t.on)(j:s.ring=t.ring)(u:s.n=t.n)(x:s.stack=t.stack):s=t:=by
 cases s;cases t;simp_all
theorem rj{a:α}{d:Int}{u t:List α}{k:Nat}{s:St α}(C:t.length<k)(hs:s.stack=u++a::t)(hn:a∉t)(ho:s.on a=1):fG a d k s=x7 s u (a::t) d:=by
 obtain⟨j,x,y,A,B⟩:=wC a d u k t s C hs hn ho;exact St.eq j (funext A) (funext B) x y
theorem xk{β:Type}{succ:β->List β}{path:List β}{s:St β}(h:Inv succ path s){a b:β}(ha:s.on a=2)(hr:mC succ a b):s.on b=2:=by
 induction hr with
 |refl=>exact ha
 |step _ he ih=>exact h.Kv _ ih _ he
theorem JX{succ:α->List α}{path:List α}{s:St α}{a:α}{u t:List α}(h:Inv succ (path++ [a]) s)(hs:s.stack=u++a::t)(Y: ∀g∈path,s.low g<s.low a)(i0: ∀z∈succ a,s.low z≠0)
  (d0: ∀y∈a::t,∀z∈succ y,s.on z=1->s.low a<=s.low z):Inv succ path (x7 s u (a::t) (s.low a)):=by
 have G:=h.Pd;rw[hs,Vx]at G;obtain⟨hu,hc,b0⟩:=G;have e0:=(Uw.1 hc).1;have g0:s.on a=1:=(h.wo a).2 (by rw[hs];simp);have hC: ∀x,x∈a::t↔(s.on x=1∧s.low a<=s.low x):=by
  intro x;constructor
  .intro d;refine⟨(h.wo x).2 (by rw[hs];exact Uy _ d),?_⟩;rcases Tt.1 d with e|e
   .rw[e];exact UL _
   .have:=e0 x e;omega
  .rintro⟨C,D⟩;have:=(h.wo x).1 C;rw[hs]at this;rcases Ts.1 this with g|g
   .have:=b0 x g a Tm;omega
   .exact g
 have Z:a∈a::t:=Tm;have j: ∀x,x∈a::t->(x7 s u (a::t) (s.low a)).on x=2:=fun x d=>am d;have no: ∀x,x∉a::t->(x7 s u (a::t) (s.low a)).on x=s.on x:=fun x d=>be d
 have J: ∀x,x∈a::t->mC succ x a:=by
  intro x d;obtain⟨C,D⟩:=(hC x).1 d;obtain⟨g,g1,g2,g3⟩:=h.up x C;refine g3.trans (h.dn g g1 a g0 ?_);rcases Ts.1 g1 with e|e
  .have:=Y g e;omega
  .rw[Tk]at e;rw[e];exact UL _
 have F: ∀x,x∈a::t->mC succ a x:=by
  intro x d;obtain⟨C,D⟩:=(hC x).1 d;exact h.dn a (by simp) x C D
 have a0: ∀y,s.low y≠0->y∉path-> ∀z∈succ y,s.low z≠0:=by
  intro y A j0 z hz;by_cases e:y=a
  .rw[e]at hz;exact i0 z hz
  .exact h.az y A (by rw[Ts,Tk];exact fun g=>g.elim j0 e) z hz
 refine⟨h.mw,h.inj,fun x=>?_,fun x=>?_,fun x=>?_,hu,fun x d b hb=>?_,fun g hg=>?_,fun y A=>?_,fun g hg y A f0=>?_,a0,fun x d=>?_,fun x y d A C D=>?_⟩
 .by_cases e:x∈a::t
  .rw[j x e];have:=uv h ((hC x).1 e).1;exact⟨fun g=>by omega,fun g=>absurd g this⟩
  .rw[no x e];exact h.HJ x
 .by_cases e:x∈a::t
  .exact .inr (.inr (j x e))
  .rw[no x e];exact h.D7 x
 .show _↔x∈u;by_cases e:x∈a::t
  .rw[j x e];refine⟨fun g=>by omega,fun g=>?_⟩;have C:=b0 x g a Z;have D:=((hC x).1 e).2;omega
  .rw[no x e,h.wo x,hs,Ts];exact⟨fun g=>g.elim id fun q=>absurd q e,.inl⟩
 .by_cases e:x∈a::t
  .obtain⟨C,D⟩:=(hC x).1 e;have c0:s.low b≠0:=a0 x (uv h C) (fun g=>by have:=Y x g;omega) b hb;rcases h.D7 b with g|g|g
   .exact absurd ((h.HJ b).1 g) c0
   .exact j b ((hC b).2 ⟨g,d0 x e b hb g⟩)
   .by_cases B:b∈a::t
    .exact j b B
    .rw[no b B];exact g
  .rw[no x e]at d;have g:=h.Kv x d b hb;by_cases B:b∈a::t
   .exact j b B
   .rw[no b B];exact g
 .have C:=h.Om g (TR _ hg);have D:=Y g hg;rw[no g (fun e=>by have:=((hC g).1 e).2;omega)];exact C
 .by_cases e:y∈a::t
  .rw[j y e]at A;omega
  .rw[no y e]at A;obtain⟨g,g1,g2,g3⟩:=h.up y A;rcases Ts.1 g1 with q|q
   .exact⟨g,q,g2,g3⟩
   .rw[Tk]at q;rw[q]at g2;exact absurd ((hC y).2 ⟨A,g2⟩) e
 .by_cases e:y∈a::t
  .rw[j y e]at A;omega
  .rw[no y e]at A;exact h.dn g (TR _ hg) y A f0
 .by_cases e:x∈a::t
  .exact⟨a,j a Z,(am e).symm,J x e,F x e⟩
  .rw[no x e]at d;obtain⟨r,r1,r2,r3⟩:=h.QI x d;have B:r∉a::t:=fun g=>by have:=((hC r).1 g).1;omega
   refine⟨r,by rw[no r B];exact r1,?_,r3⟩;show s.low r=if x∈a::t then s.low a else s.ring x;rw[be e];exact r2
 .show(if x∈a::t then s.low a else s.ring x)=if y∈a::t then s.low a else s.ring y;by_cases e:x∈a::t
  .by_cases B:y∈a::t
   .rw[am e,am B]
   .rw[no y B]at A;have:=xk h A D;have:=((hC x).1 e).1;omega
  .rw[no x e]at d;by_cases B:y∈a::t
   .have:=xk h d C;have:=((hC y).1 B).1;omega
   .rw[no y B]at A;rw[be e,be B];exact h.cmp x y d A C D
theorem Ei{succ:α->List α}{path:List α}{s:St α}{a z:α}(h:Inv succ (path++ [a]) s)(j: ∀z∈succ a,s.low z≠0)(C:s.on z=1)(B:s.low z<s.low a)(hr:mC succ a z):Inv succ path s:=by
 refine⟨h.mw,h.inj,h.HJ,h.D7,h.wo,h.Pd,h.Kv,fun g d=>h.Om g (TR _ d),fun y x=>?_,fun g d=>h.dn g (TR _ d),fun y x A w u=>?_,h.QI,h.cmp⟩
 .obtain⟨g,g1,g2,g3⟩:=h.up y x;rcases Ts.1 g1 with q|q
  .exact⟨g,q,g2,g3⟩
  .rw[Tk]at q;subst q;obtain⟨k,D,G,F⟩:=h.up z C;rcases Ts.1 D with q|q
   .exact⟨k,q,by omega,(g3.trans hr).trans F⟩
   .rw[Tk]at q;subst q;omega
 .by_cases e:y=a
  .rw[e]at u;exact j w u
  .exact h.az y x (by rw[Ts,Tk];exact fun g=>g.elim A e) w u
def jI(V:List α)(s:St α):Nat:=(V.filter fun x=>kw (s.low x=0)).length
theorem filter_le{β:Type}{p q:β->Bool}: ∀(l:List β),(∀x∈l,p x=is->q x=is)->(l.filter p).length<=(l.filter q).length
 | [],_=>S9 _
 |x::r,h=>by
  have u:=filter_le r fun y j=>h y (Tl _ j);have d:=h x Tm;rw[U6,U6];split
  .rename_i g;rw[am (d g)];simp only[Tr];omega
  .split
   .simp only[Tr];omega
   .exact u
theorem filter_lt{β:Type}{p q:β->Bool}{a:β}: ∀(l:List β),(∀x∈l,p x=is->q x=is)->a∈l->p a=jp->q a=is->(l.filter p).length<(l.filter q).length
 | [],_,h,_,_=>nomatch h
 |x::r,h,ha,h1,h2=>by
  have j:=filter_le r fun y d=>h y (Tl _ d);have u:=h x Tm;rw[U6,U6];rcases Tt.1 ha with e|e
  .subst e;rw[h1,h2];simp only[Vp,if_false,if_true,Tr];omega
  .have A:=filter_lt r (fun y d=>h y (Tl _ d)) e h1 h2;split
   .rename_i g;rw[am (u g)];simp only[Tr];omega
   .split
    .simp only[Tr];omega
    .exact A
theorem v8{β:Type}{V:List β}{s s':St β}(h:Le s s'):jI V s'<=jI V s:=
 filter_le V fun x _ d=>by
  refine decide_eq_true (Uv fun g=>?_);have:=of_decide_eq_true d;rw[h.low x g]at this;exact g this
theorem km{V:List α}{s:St α}{a:α}(hn: ∀x,0<=s.low x∧s.low x<=s.n)(ha:a∈V)(h0:s.low a=0):jI V (push s a)<jI V s:=by
 have la:(push s a).low a=(s.n:Int)+1:=jK _ _ _;refine filter_lt V (fun x _ d=>?_) ha (decide_eq_false (by rw[la];omega)) (decide_eq_true h0);have:=of_decide_eq_true d;by_cases e:x=a
 .rw[e];exact decide_eq_true h0
 .refine decide_eq_true ?_;rwa[show(push s a).low x=s.low x from kI e]at this
structure fu (succ:α->List α) (path:List α) (a:α) (s0:St α) (done:List α) (q:Int×St α) (t:List α):Prop where
 inv:Inv succ (path++ [a]) q.2
 le:Le (push s0 a) q.2
 stack:q.2.stack=s0.stack++a::t
 new: ∀y∈t,s0.low y=0
 OB:q.1<=(s0.n:Int)+1
 l1: ∀y∈t,∀z∈succ y,q.2.on z=1->q.1<=q.2.low z
 QY: ∀z∈done,q.2.on z=1->q.1<=q.2.low z
 proc: ∀z∈done,q.2.low z≠0
 l2: ∃z,q.2.on z=1∧q.2.low z=q.1∧mC succ a z
section
variable {succ:α->List α} {path:List α} {a:α} {s0:St α} {done:List α} {q:Int×St α} {t:List α}
theorem fu.la(h:fu succ path a s0 done q t):q.2.low a=(s0.n:Int)+1:=by
 have e:(push s0 a).low a=(s0.n:Int)+1:=jK _ _ _;rw[h.le.low a (by rw[e];omega),e]
theorem fu.pa(h:fu succ path a s0 done q t)(h0:Inv succ path s0)(ha:s0.low a=0): ∀g∈path,q.2.low g<q.2.low a:=by
 intro g u;have j:=h0.Om g u;have d:=uv h0 j;have e:(push s0 a).low g=s0.low g:=kI fun e=>d (by rw[e];exact ha);rw[h.la,h.le.low g (by rw[e];exact d),e];have:=h0.mw g;omega
theorem fu.at_(h:fu succ path a s0 done q t):a∉t:=fun g=>by
 have:=h.inv.Pd;rw[h.stack,Vx]at this;have:=(Uw.1 this.2.1).1 a g;omega
theorem fu.step{V:List α}{j:α->St α->Int×St α}{f:Nat}(hV: ∀a∈V,∀b∈succ a,b∈V)
  (ih: ∀(path:List α) (b:α) (s:St α),Inv succ path s->s.low b=0->b∈V->(∀g∈path,mC succ g b)->jI V s<=f-> ∃t,O7 succ path b s (j b s).1 (j b s).2 t)
  (h:fu succ path a s0 done q t) (h0:Inv succ path s0) (ha:s0.low a=0) (Z:a∈V) {b:α} (hb:b∈succ a) (hw:jI V q.2<=f): ∃t',fu succ path a s0 (done++ [b]) (rX j q b) t':=by
 have g0:=h.la;have d0:=h.pa h0 ha;have a0:=h.at_;have c0:q.2.on a=1:=(h.inv.wo a).2 (by rw[h.stack];simp);unfold rX;by_cases D:q.2.low b=0
 .rw[am D];have G: ∀g∈path++ [a],mC succ g b:=by
   intro g hg;refine .step (h.inv.dn g hg a c0 ?_) hb;rcases Ts.1 hg with e|e
   .have:=d0 g e;omega
   .rw[Tk]at e;rw[e];exact UL _
  obtain⟨tb,u⟩:=ih (path++ [a]) b q.2 h.inv D (hV a Z b hb) G hw;generalize j b q.2=w at u ⊢;obtain⟨F,s'⟩:=w;have B: ∀z,q.2.on z=1->s'.on z=1:=fun z d=>(u.inv.wo z).2 (by rw[u.stack];exact TR _ ((h.inv.wo z).1 d));have j0:=h.le.n;have i0:(push s0 a).n=s0.n+1:=rfl;refine⟨t++tb,u.inv,h.le.trans u.le,?_,fun y J=>?_,?_,fun y J z d C=>?_,fun z d C=>?_,fun z d=>?_,?_⟩
  .show s'.stack=_;rw[u.stack,h.stack];simp
  .rcases Ts.1 J with g|g
   .exact h.new y g
   .refine Uv fun hc=>?_
    have e:(push s0 a).low y=s0.low y:=kI fun e=>hc (by rw[e];exact ha);have:=h.le.low y (by rw[e];exact hc);rw[u.new y g,e]at this;exact hc this.symm
  .have:=h.OB;show min q.1 F<=_;omega
  .show min q.1 F<=s'.low z;rcases Ts.1 J with g|g
   .have f0:q.2.on y=1:=(h.inv.wo y).2 (by rw[h.stack];simp[g]);have e0:y∉path++ [a]:=by
     rw[Ts,Tk];rintro(e|e)
     .have h1:=uv h0 (h0.Om y e);exact h1 (h.new y g)
     .rw[e]at g;exact a0 g
    have x:=h.inv.az y (uv h.inv f0) e0 z d;have A:=F4 h.inv u.le x C;have:=h.l1 y g z d A;rw[u.le.low z x];omega
   .have:F<=s'.low z:=u.l1 y g z d C;omega
  .show min q.1 F<=s'.low z;rcases Ts.1 d with g|g
   .have x:=h.proc z g;have:=h.QY z g (F4 h.inv u.le x C);rw[u.le.low z x];omega
   .rw[Tk]at g;subst g;have:F<=s'.low z:=u.OB;omega
  .show s'.low z≠0;rcases Ts.1 d with g|g
   .have x:=h.proc z g;rw[u.le.low z x];exact x
   .rw[Tk]at g;subst g;have:(q.2.n:Int)<s'.low z:=u.at_;omega
  .obtain⟨z,Y,z2,z3⟩:=h.l2;by_cases b0:q.1<=F
   .exact⟨z,B z Y,by show s'.low z=min q.1 F;rw[u.le.low z (uv h.inv Y)];omega,z3⟩
   .rcases u.l2 with⟨_,g⟩|⟨w,w1,w2,w3⟩
    .have h1:F=s'.low b:=g;have h2:(q.2.n:Int)<s'.low b:=u.at_;have h3:=h.OB;omega
    .have w2:s'.low w=F:=w2;exact⟨w,B w ((h.inv.wo w).2 w1),by show s'.low w=min q.1 F;omega,(mC.one hb).trans w3⟩
 .rw[be D];by_cases A:q.2.on b=1
  .rw[am A];refine⟨t,h.inv,h.le,h.stack,h.new,?_,fun y J z d C=>?_,fun z d C=>?_,fun z d=>?_,?_⟩
   .have:=h.OB;show min q.1 (q.2.low b)<=_;omega
   .have:=h.l1 y J z d C;show min q.1 (q.2.low b)<=q.2.low z;omega
   .show min q.1 (q.2.low b)<=q.2.low z;rcases Ts.1 d with g|g
    .have:=h.QY z g C;omega
    .rw[Tk]at g;subst g;omega
   .rcases Ts.1 d with g|g
    .exact h.proc z g
    .rw[Tk]at g;subst g;exact D
   .obtain⟨z,Y,z2,z3⟩:=h.l2;by_cases b0:q.1<=q.2.low b
    .exact⟨z,Y,by show q.2.low z=min q.1 (q.2.low b);omega,z3⟩
    .exact⟨b,A,by show q.2.low b=min q.1 (q.2.low b);omega,.one hb⟩
  .rw[be A];refine⟨t,h.inv,h.le,h.stack,h.new,h.OB,h.l1,fun z d C=>?_,fun z d=>?_,h.l2⟩
   .rcases Ts.1 d with g|g
    .exact h.QY z g C
    .rw[Tk]at g;subst g;exact absurd C A
   .rcases Ts.1 d with g|g
    .exact h.proc z g
    .rw[Tk]at g;subst g;exact D
end
theorem rv{succ:α->List α}{path:List α}{a:α}{s0:St α}{V:List α}{d:α->St α->Int×St α}{f:Nat}(A: ∀a∈V,∀b∈succ a,b∈V)
  (B: ∀(path:List α) (b:α) (s:St α),Inv succ path s->s.low b=0->b∈V->(∀g∈path,mC succ g b)->jI V s<=f-> ∃t,O7 succ path b s (d b s).1 (d b s).2 t)
  (h0:Inv succ path s0) (ha:s0.low a=0) (j:a∈V) (u:jI V (push s0 a)<=f):
  ∀(l done:List α) (q:Int×St α) (t:List α),fu succ path a s0 done q t->(∀b∈l,b∈succ a)-> ∃F,fu succ path a s0 (done++l) (l.foldl (rX d) q) F
 | [],done,q,t,h,_=>⟨t,by rw[TC];exact h⟩
 |b::l,done,q,t,h,hl=>by
  obtain⟨t1,C⟩:=h.step A B h0 ha j (hl b Tm) (TQ (v8 h.le) u);obtain⟨t2,y⟩:=rv A B h0 ha j u l (done++ [b]) _ t1 C fun x D=>hl x (Tl _ D);exact⟨t2,by rw[Tb]at y;exact y⟩
theorem oI{succ:α->List α}{V:List α}(hV: ∀a∈V,∀b∈succ a,b∈V): ∀(f:Nat) (path:List α) (a:α) (s:St α),Inv succ path s->s.low a=0->a∈V->(∀g∈path,mC succ g a)->jI V s<=f-> ∃t,O7 succ path a s (ew succ f a s).1 (ew succ f a s).2 t
 |0,path,a,s,h,ha,haV,_,hw=>by
  have:=km h.mw haV ha;omega
 |f+1,path,a,s,h,ha,haV,hp,hw=>by
  have c0:=km h.mw haV ha;have hi:=zH h ha hp;have la:(push s a).low a=(s.n:Int)+1:=jK _ _ _;have oa:(push s a).on a=1:=jK _ _ _;have G:fu succ path a s [] ((s.n:Int)+1,push s a) []:=
   ⟨hi,.refl _,rfl,fun y j=>(nomatch j),UL _,fun y j=>(nomatch j),fun z B=>(nomatch B),fun z B=>(nomatch B),⟨a,oa,la,.refl _⟩⟩
  obtain⟨t,d⟩:=rv hV (fun p b s'=>oI hV f p b s') h ha haV (by omega) (succ a) [] _ [] G fun b hb=>hb;rw[TD]at d;rw[ew];generalize(succ a).foldl (rX (ew succ f)) ((s.n:Int)+1,push s a)=q at d ⊢;have C:=d.la;have a0:=d.pa h ha;have J:=d.at_;have Z:q.2.on a=1:=(d.inv.wo a).2 (by rw[d.stack];simp);have u:Le s q.2:=(JW h ha).trans d.le;unfold s4;by_cases Y:q.1=(s.n:Int)+1
  .rw[am Y,rj (by rw[d.stack];simp;omega) d.stack J Z,<-C];refine⟨[],JX d.inv d.stack a0 d.proc fun y j z B D=>?_,⟨u.low,fun x hx=>?_,u.n⟩,by rw[TC];rfl,fun y j=>(nomatch j),?_,?_,fun y j=>(nomatch j),.inl ⟨am Tm,?_⟩⟩
   .rw[C,<-Y];rcases Tt.1 j with e|e
    .rw[e]at B;exact d.QY z B D
    .exact d.l1 y e z B D
   .show(if x∈a::t then(2:Int) else q.2.on x)=2;split
    .rfl
    .exact u.Kv x hx
   .show(s.n:Int)<q.2.low a;omega
   .show q.1<=q.2.low a;omega
   .show q.1=q.2.low a;omega
  .rw[be Y];have b0:q.1<q.2.low a:=by have:=d.OB;omega
   obtain⟨z,z1,z2,z3⟩:=d.l2;have F:=d.inv.Pd;rw[d.stack,Vx]at F;refine⟨a::t,Ei d.inv d.proc z1 (by omega) z3,u,d.stack,fun y j=>?_,by omega,by omega,fun y j w A D=>?_,.inr ⟨z,?_,z2,z3⟩⟩
   .rcases Tt.1 j with e|e
    .rw[e];exact ha
    .exact d.new y e
   .rcases Tt.1 j with e|e
    .rw[e]at A;exact d.QY w A D
    .exact d.l1 y e w A D
   .have:=(d.inv.wo z).1 z1;rw[d.stack]at this;rcases Ts.1 this with g|g
    .exact g
    .rcases Tt.1 g with e|e
     .rw[e]at z2;omega
     .have:=(Uw.1 F.2.1).1 z e;omega
theorem Mw{β:Type}(succ:β->List β):Inv succ [] (St.o:St β):=
 ⟨fun _=>⟨UL _,UL _⟩,fun _ _ _ h=>absurd I h,fun _=>Iff.rfl,fun _=> .inl I,fun _=>⟨fun h=>(nomatch h),fun h=>(nomatch h)⟩,.nil,fun _ h=>(nomatch h),fun _ h=>(nomatch h),fun _ h=>(nomatch h),fun _ h=>(nomatch h),fun _ h=>absurd I h,fun _ h=>(nomatch h),fun _ _ h=>(nomatch h)⟩
theorem ra{succ:α->List α}{V:List α}(y: ∀a∈V,∀b∈succ a,b∈V){f:Nat}(hf:V.length<=f): ∀(l:List α) (s:St α),(∀a∈l,a∈V)->Inv succ [] s->Inv succ [] (gE succ f l s)∧(∀x,s.low x≠0->(gE succ f l s).low x≠0)∧ ∀a∈l,(gE succ f l s).low a≠0
 | [],s,_,h=>⟨h,fun _ d=>d,fun _ j=>(nomatch j)⟩
 |b::l,s,hl,h=>by
  have key: ∃s',(if s.low b=0 then(ew succ f b s).2 else s)=s'∧Inv succ [] s'∧(∀x,s.low x≠0->s'.low x≠0)∧s'.low b≠0:=by
   by_cases e:s.low b=0
   .obtain⟨t,u⟩:=oI y f [] b s h e (hl b Tm) (fun g B=>nomatch B) (TQ (Uz _ _) hf);refine⟨_,am e,u.inv,fun x d=>by rw[u.le.low x d];exact d,?_⟩;have:=u.at_;omega
   .exact⟨s,be e,h,fun _ d=>d,e⟩
  obtain⟨s',e,D,F,G⟩:=key;obtain⟨C,i2,i3⟩:=ra y hf l s' (fun a j=>hl a (Tl _ j)) D;have A:gE succ f (b::l) s=gE succ f l s':=by
   show gE succ f l (if s.low b=0 then(ew succ f b s).2 else s)=_;rw[e]
  rw[A];refine⟨C,fun x d=>i2 x (F x d),fun a j=>?_⟩;rcases Tt.1 j with q|q
  .rw[q];exact i2 b G
  .exact i3 a q
theorem DT{succ:α->List α}{V:List α}(y: ∀a∈V,∀b∈succ a,b∈V){f:Nat}(hf:V.length<=f){a b:α}(ha:a∈V)(hb:b∈V):
  (gE succ f V St.o).ring a=(gE succ f V St.o).ring b↔mC succ a b∧mC succ b a:=by
 obtain⟨h,_,u⟩:=ra y hf V St.o (fun _ h=>h) (Mw succ);generalize gE succ f V St.o=s at h u ⊢;have d: ∀x∈V,s.on x=2:=by
  intro x A;rcases h.D7 x with g|g|g
  .exact absurd ((h.HJ x).1 g) (u x A)
  .obtain⟨k,B,_⟩:=h.up x g;exact nomatch B
  .exact g
 constructor
 .intro e;obtain⟨r,Z,r2,F,G⟩:=h.QI a (d a ha);obtain⟨q,J,Y,C,D⟩:=h.QI b (d b hb);have j:s.low r≠0:=fun g=>by have:=(h.HJ r).2 g;omega
  have:r=q:=h.inj r q (by omega) j;subst this;exact⟨F.trans D,C.trans G⟩
 .rintro⟨h1,h2⟩;exact h.cmp a b (d a ha) (d b hb) h1 h2
end
end
end
end Go.Tj
namespace Go.Wa
section
inductive vz (R:Nat->Nat->Prop):Nat->Nat->Prop
 |refl (a:Nat):vz R a a
 |step {a b c:Nat} (h:R a b) (t:vz R b c):vz R a c
theorem vz.trans{R:Nat->Nat->Prop}{a b c:Nat}(h:vz R a b)(k:vz R b c):vz R a c:=by
 induction h with
 |refl=>exact k
 |step h _ ih=>exact .step h (ih k)
def W(E:Nat->Nat->Bool):Nat->Nat->Nat->Bool
 |0,a,b=>E a b||a==b
 |m+1,a,b=>W E m a b||(W E m a m&&W E m m b)
variable {E:Nat->Nat->Bool}
theorem W.mono(m a b:Nat)(h:W E m a b=is):W E (m+1) a b=is:=by simp[W,h]
theorem W.Mx{m k a b:Nat}(d:m<=k)(h:W E m a b=is):W E k a b=is:=by
 induction d with
 |refl=>exact h
 |step _ ih=>exact W.mono _ _ _ ih
theorem W.self(m a:Nat):W E m a a=is:=W.Mx (Te m) (by simp[W])
theorem W.trans: ∀(m a k b:Nat),k<m->W E m a k=is->W E m k b=is->W E m a b=is
 |m+1,a,k,b,hk,d,j=>by
  simp only[W,U0,Tz]at d j ⊢;by_cases A:k=m
  .subst A;have B:W E k a k=is:=by rcases d with h|h;exact h;exact h.1
   have C:W E k k b=is:=by rcases j with h|h;exact h;exact h.2
   exact .inr ⟨B,C⟩
  .have u:k<m:=by omega
   rcases d with d|⟨d,y⟩<;>rcases j with j|⟨j,x⟩
   .exact .inl (W.trans m a k b u d j)
   .exact .inr ⟨W.trans m a k m u d j,x⟩
   .exact .inr ⟨d,W.trans m m k b u y j⟩
   .exact .inr ⟨d,x⟩
theorem W.sound: ∀(m a b:Nat),W E m a b=is->vz (fun a b=>E a b=is) a b
 |0,a,b,h=>by
  simp only[W,U0,beq_iff_eq]at h;rcases h with h|h
  .exact .step h (.refl _)
  .subst h;exact .refl _
 |m+1,a,b,h=>by
  simp only[W,U0,Tz]at h;rcases h with h|⟨d,j⟩
  .exact W.sound m a b h
  .exact(W.sound m a m d).trans (W.sound m m b j)
theorem W.iff{n:Nat}(hE: ∀a b,a<n->E a b=is->b<n){a b:Nat}(ha:a<n):W E n a b=is↔vz (fun a b=>E a b=is) a b:=by
 refine⟨W.sound n a b,fun h=>?_⟩
 induction h with
 |refl a=>exact W.self n a
 |step h _ ih=>
  have hb:=hE _ _ ha h;exact W.trans n _ _ _ hb (W.Mx (Te n) (by simp[W,h])) (ih hb)
def V(E:Nat->Nat->Bool)(m a b x y:Nat):Bool:=if x<a∨x=a∧y<b then W E (m+1) x y else W E m x y
theorem V.row(m a b y:Nat):V E m a b m y=W E m m y:=by
 unfold V;split
 .simp only[W];cases W E m m y<;>simp
 .rfl
end
end Go.Wa
namespace Go.Co
section
section
variable {n:Nat} {vD:Nat->Nat->Bool} {e:Nat->Nat->Bool}
structure Far (n:Nat) (e vD:Nat->Nat->Bool):Prop where
 refl: ∀a,a<n->vD a a=is
 trans: ∀a b c,vD a b=is->vD b c=is->vD a c=is
 edge: ∀a b,a<n->e a b=is->vD a b=is
 lt: ∀a b,a<n->vD a b=is->b<n
 elt: ∀a b,a<n->e a b=is->b<n
 split: ∀a b (p:Nat->Prop),a<n->vD a b=is->p a-> ¬p b-> ∃x y,x<n∧vD a x=is∧p x∧e x y=is∧ ¬p y∧vD y b=is
def cls(vD:Nat->Nat->Bool)(a b:Nat):Bool:=vD a b&&vD b a
end
end
end Go.Co
namespace Go.Rg
open Go.Wa Go.Co Go.Tj
section
section
variable {α:Type} [Inhabited α]
def ed(V:List α)(g:α->α->Bool)(i j:Nat):Bool:=kw (i<V.length)&&kw (j<V.length)&&g (V.getD i co) (V.getD j co)
def vD(V:List α)(g:α->α->Bool):Nat->Nat->Bool:=W (ed V g) V.length
theorem BR{V:List α}{g:α->α->Bool}{i j:Nat}:ed V g i j=is↔i<V.length∧j<V.length∧g (V.getD i co) (V.getD j co)=is:=by
 simp[ed,and_assoc]
theorem yk{V:List α}{a:α}(h:a∈V): ∃i,i<V.length∧V.getD i co=a:=by
 obtain⟨i,d,rfl⟩:=UQ.1 h;exact⟨i,d,by simp[S4,d]⟩
theorem get_mem{V:List α}{i:Nat}(h:i<V.length):V.getD i co∈V:=by
 rw[S4,S5 h];exact T8 h
theorem B7{V:List α}(hn:V.Nodup){g:α->α->Bool}{succ:α->List α}(hs: ∀a∈V,∀b,b∈succ a↔b∈V∧g a b=is){i j:Nat}(hi:i<V.length)(hj:j<V.length):
  vD V g i j=is↔mC succ (V.getD i co) (V.getD j co):=by
 have B: ∀{x y:Nat},x<V.length->y<V.length->V.getD x co=V.getD y co->x=y:=by
  intro x y C d h;rw[S4,S4,S5 C,S5 d]at h;exact(List.getElem_inj hn).1 h
 rw[vD,W.iff (n:=V.length) (fun a b _ h=>(BR.1 h).2.1) hi];constructor
 .intro h;clear hj;have: ∀{a b:Nat},vz (fun a b=>ed V g a b=is) a b->mC succ (V.getD a co) (V.getD b co):=by
   intro a b h
   induction h with
   |refl a=>exact .refl _
   |step h _ ih=>
    obtain⟨u,A,D⟩:=BR.1 h;exact(mC.step (.refl _) ((hs _ (get_mem u) _).2 ⟨get_mem A,D⟩)).trans ih
  exact this h
 .intro h;have key: ∀{a b:α},mC succ a b-> ∀x,x<V.length->V.getD x co=a-> ∃y,y<V.length∧V.getD y co=b∧vz (fun a b=>ed V g a b=is) x y:=by
   intro a b h
   induction h with
   |refl=>exact fun x C F=>⟨x,C,F,.refl _⟩
   |step _ hc ih=>
    intro x C F;obtain⟨y,d,u,A⟩:=ih x C F;subst u;obtain⟨D,J⟩:=(hs _ (get_mem d) _).1 hc;obtain⟨z,G,rfl⟩:=yk D;exact⟨z,G,rfl,A.trans (.step (BR.2 ⟨d,G,J⟩) (.refl _))⟩
  obtain⟨y,d,u,A⟩:=key h i hi I;have:=B d hj u;subst this;exact A
def vA(V:List α)(g:α->α->Bool)(d:α->Int):Prop:= ∀i j,i<V.length->j<V.length->(d (V.getD i co)=d (V.getD j co)↔vD V g i j=is∧vD V g j i=is)
theorem FM[DecidableEq α]{V:List α}(hn:V.Nodup){g:α->α->Bool}{succ:α->List α}(hs: ∀a∈V,∀b,b∈succ a↔b∈V∧g a b=is){f:Nat}(hf:V.length<=f):vA V g (gE succ f V St.o).ring:=by
 intro i j d u;rw[DT (fun a x b hb=>((hs a x b).1 hb).1) hf (get_mem d) (get_mem u),B7 hn hs d u,B7 hn hs u d]
end
end
end Go.Rg
namespace Go.Proofs.YtbhphmfbligliaaGreatDoor
open Go Go.Al
mutual
def named:Lit->List ae
 | .mk k a _ _ _ _ _ _ b _=>if k=1∨k=2 then[a.rel] else if k=4 then gG b else[]
def gG:List Lit->List ae
 | []=> []
 |l::r=>named l++gG r
end
def Gc(l:Lit):List ae:=if l.kind=1∨l.kind=2 then[l.atom.rel] else if l.kind=4 then(l.ay.filter fun x=>kw (x.kind=1∨x.kind=2)).map fun x=>x.atom.rel else[]
theorem mQ: ∀l:List Lit,gG l=l.flatMap named
 | []=>rfl
 |x::r=>by simp only[gG,TJ,mQ r]
theorem wM: ∀(b:List Lit),(∀x∈b,x.kind≠4)->gG b=(b.filter fun x=>kw (x.kind=1∨x.kind=2)).map fun x=>x.atom.rel
 | [],_=>rfl
 | .mk k' a' op' le' ri' af' av' ao' b' at'::b,h=>by
  have j:k'≠4:=h (.mk k' a' op' le' ri' af' av' ao' b' at') (Tm ..);rw[gG,wM b fun y u=>h y (Tl _ u),U6];by_cases d:k'=1∨k'=2
  .have:kw ((Lit.mk k' a' op' le' ri' af' av' ao' b' at').kind=1∨(Lit.mk k' a' op' le' ri' af' av' ao' b' at').kind=2)=is:=decide_eq_true d;rw[this,named,am d];rfl
  .have:kw ((Lit.mk k' a' op' le' ri' af' av' ao' b' at').kind=1∨(Lit.mk k' a' op' le' ri' af' av' ao' b' at').kind=2)=jp:=decide_eq_false d;rw[this,named,be d,be j];rfl
theorem Gb(l:Lit)(h:l.kind=4-> ∀x∈l.ay,x.kind≠4):named l=Gc l:=by
 obtain⟨k,a,op,le,A,j,y,u,b,at_⟩:=l;show(if k=1∨k=2 then[a.rel] else if k=4 then gG b else[])=if k=1∨k=2 then[a.rel] else if k=4 then(b.filter fun x=>kw (x.kind=1∨x.kind=2)).map fun x=>x.atom.rel else[];by_cases d:k=4
 .rw[wM b (h d)]
 .rw[be d,be d]
def l3(l:Lit):Nat:=if l.kind=1 then 1 else 2
def cZ(p:Prog):List (ae×ae×Nat):=p.rules.flatMap fun r=>r.body.flatMap fun l=>(named l).map fun t=>(r.head.rel,t,l3 l)
def gD(hs:List (ae×ae×Nat))(a b:ae):Nat:=hs.foldl (fun m x=>if x.1=a∧x.2.1=b then max m x.2.2 else m) 0
theorem yz(a b:ae): ∀(hs:List (ae×ae×Nat)) (m:Nat),m<=hs.foldl (fun m x=>if x.1=a∧x.2.1=b then max m x.2.2 else m) m∧(∀k,(a,b,k)∈hs->k<=hs.foldl (fun m x=>if x.1=a∧x.2.1=b then max m x.2.2 else m) m)∧
  (hs.foldl (fun m x=>if x.1=a∧x.2.1=b then max m x.2.2 else m) m=m∨(a,b,hs.foldl (fun m x=>if x.1=a∧x.2.1=b then max m x.2.2 else m) m)∈hs)
 | [],m=>⟨S9 _,fun _ h=>(nomatch h),.inl I⟩
 |(x,y,k)::hs,m=>by
  obtain⟨j,u,h3⟩:=yz a b hs (if x=a∧y=b then max m k else m);rw[TM];refine⟨TQ ?_ j,fun B A=>?_,?_⟩
  .split<;>omega
  .rcases Tt.1 A with h|h
   .cases h;refine TQ ?_ j;rw[am ⟨rfl,rfl⟩];exact Nat.le_max_right _ _
   .exact u B h
  .rcases h3 with h3|h3
   .by_cases d:x=a∧y=b
    .rw[am d]at h3;rcases Nat.le_total m k with h4|h4
     .right;rw[WT h4]at h3;obtain⟨rfl,rfl⟩:=d;simp only[and_self,if_true,WT h4]at h3 ⊢;rw[h3];simp
     .left;rw[Nat.max_eq_left h4]at h3;simp only[d,and_self,if_true,Nat.max_eq_left h4]at h3 ⊢;exact h3
    .rw[be d]at h3;left;simp only[be d];exact h3
   .exact .inr (Tl _ h3)
theorem Rf{hs:List (ae×ae×Nat)}{a b:ae}{k:Nat}(h:(a,b,k)∈hs):k<=gD hs a b:=(yz a b hs 0).2.1 k h
theorem Rc(hs:List (ae×ae×Nat))(a b:ae):gD hs a b=0∨(a,b,gD hs a b)∈hs:=(yz a b hs 0).2.2
def ns(p:Prog):List ae:=dL (p.aw.map Decl.name)
theorem xA.Ow{l:List ae}(h:xA l):l.Nodup:=by
 refine WJ ?_ h;intro a b d e;subst e;exact lS _ d
def eg(p:Prog)(a b:ae):Bool:=kw (gD (cZ p) a b≠0)
def OS(p:Prog):Nat->Nat->Bool:=Go.Rg.vD (ns p) (eg p)
theorem FN{p:Prog}(hn:(p.aw.map Decl.name).Nodup){f:Nat}(hf:(ns p).length<=f):Go.Rg.vA (ns p) (eg p) (Go.Tj.gE (fun a=>(ns p).filter (eg p a)) f (ns p) Go.Tj.St.o).ring:=
 Go.Rg.FM (V:=ns p) (xA.Ow (js hn)) (fun a _ b=>by rw[T5]) hf
def ringEq(p:Prog)(a b:ae):Bool:=(TX (ns p).length).any fun i=>(TX (ns p).length).any fun j=>kw ((ns p).getD i co=a)&&kw ((ns p).getD j co=b)&&Go.Co.cls (OS p) i j
theorem Bg{p:Prog}{a b:ae}:ringEq p a b=is↔ ∃i j,i<(ns p).length∧j<(ns p).length∧(ns p).getD i co=a∧(ns p).getD j co=b∧OS p i j=is∧OS p j i=is:=by
 simp only[ringEq,Uq,U8,Tz,decide_eq_true_eq,Go.Co.cls];constructor
 .rintro⟨i,hi,j,hj,⟨h1,h2⟩,h3,h4⟩;exact⟨i,j,hi,hj,h1,h2,h3,h4⟩
 .rintro⟨i,j,hi,hj,h1,h2,h3,h4⟩;exact⟨i,hi,j,hj,⟨h1,h2⟩,h3,h4⟩
theorem r6{p:Prog}{d:ae->Int}(hr:Go.Rg.vA (ns p) (eg p) d){a b:ae}(ha:a∈ns p)(hb:b∈ns p):ringEq p a b=kw (d a=d b):=by
 rw[Uo,Bg,decide_eq_true_eq];constructor
 .rintro⟨i,j,u,x,rfl,rfl,y,A⟩;exact(hr i j u x).2 ⟨y,A⟩
 .intro h;obtain⟨i,u,rfl⟩:=Go.Rg.yk ha;obtain⟨j,x,rfl⟩:=Go.Rg.yk hb;obtain⟨y,A⟩:=(hr i j u x).1 h;exact⟨i,j,u,x,rfl,rfl,y,A⟩
def Bf(p:Prog)(r:aq):Bool:=r.body.any fun l=>kw (l.kind=1)&&ringEq p l.atom.rel r.head.rel
def xK(p:Prog)(r:aq):Option Lit:=r.body.find? fun l=>kw (l.kind≠1)&&(named l).any fun t=>ringEq p t r.head.rel
def rN(r:aq):Bool:=r.head.aj.any fun t=>kw (t.kind=1)&&!dQ (kK r) t.var
def xB(p:Prog)(r:aq):fV:=match xK p r with
 |some l=>(70,l.at)
 |none=>if rN r=is∧Bf p r=is then(71,r.at_) else fV.z
def ch(p:Prog):fV:=if(dX p).1≠0 then dX p else((p.rules.map (xB p)).find? fun d=>kw (d.1≠0)).getD fV.z
end Go.Proofs.YtbhphmfbligliaaGreatDoor
namespace Go.Re
open Go.Tj
section
variable {α:Type}
structure Mid (succ:α->List α) (S T:α->Prop) (a:α) (l:List α):Prop where
 QO: ∀x,S x->T x
 here:T a
 new: ∀x,T x->S x∨mC succ a x
 next: ∀x,T x->S x∨x=a∨ ∀y∈succ x,T y
 done: ∀y∈l,T y
structure Top (succ:α->List α) (V:α->Prop) (T:α->Prop) (l:List α):Prop where
 new: ∀x,T x-> ∃r∈l,V r∧mC succ r x
 next: ∀x,T x-> ∀y∈succ x,T y
 done: ∀r∈l,V r->T r
end
end Go.Re
namespace Go.Proofs.YtbhphmfbligliaaGreatDoor
open Go Go.Al
section
section
variable {r t:aq} (hh:t.head=r.head) (hb: ∀x,x∈t.body↔x∈r.body)
include hh hb
end
section
variable {r t:aq} (hh:t.head=r.head) (hb: ∀x,x∈t.body↔x∈r.body)
include hh hb
end
structure SQ (r t u:aq) (i k:Int):Prop where
 R8: ∀x∈fp (aI (bX r)),x∈fp (aI (aF r))
 QN: ∀x∈fp (aI (oq r)),x∈fp (aI (bX r))
 outer:fp (aI (aF t))=fp (aI (aF r))
 lim:fp (aI (bX t))=fp (aI (bX r))
 plain:fp (aI (oq t))=fp (aI (oq r))
 loc:yn t i=yn r k
 yn: ∀x∈yn r k,x∉fp (aI (aF r))
 more: ∀x∈fp (aI (bX r)),x∈fp (aI (bX u))
 hasX:Ot [88]∈fp (aI (bX u))
end
theorem JF{n sz:Nat}{es:List (List PV)}(h:es.all (bA n)=is):(AO.row sz es).low n:=fun _ e d=>TI.1 h e (T7 d)
def vC:List IV->List IV->Prop
 | [],[]=>True
 |p::r,q::s=>jC p q∧vC r s
 |_,_=>False
theorem vC.length: ∀{a b:List IV},vC a b->a.length=b.length
 | [],[],_=>rfl
 |_::_,_::_,h=>congrArg (· +1) (vC.length h.2)
 | [],_::_,h=>h.elim
 |_::_,[],h=>h.elim
theorem vC.get: ∀{a b:List IV},vC a b-> ∀(j:Nat) (q:IV),b[j]? =dl q-> ∃p,a[j]? =dl p∧jC p q
 | [],[],_,j,q,h=>by simp at h
 |p::r,q0::s,hh,j,q,h=>by
  cases j with
  |zero=>simp at h;subst h;exact⟨p,rfl,hh.1⟩
  |succ j=>simpa using vC.get hh.2 j q (by simpa using h)
 | [],_::_,hh,_,_,_=>hh.elim
 |_::_,[],hh,_,_,_=>hh.elim
def vg(i sz n:Nat):PV->Bool
 | .iv _=>is
 | .sl j off len s=>bif Tw j i then Tw s sz&&UW (off+len) n else is
 |_=>jp
theorem EB{i sz n:Nat}{p:PV}(h:vg i sz n p=is):p.bg i sz n:=by
 cases p with
 |iv=>trivial
 |sl j off len s=>
  simp only[vg]at h;show if j=i then s=sz∧off+len<=n else True;split
  .rename_i e;subst e;simp only[Wi,cond_true,Tz]at h;exact⟨Tn h.1,SY h.2⟩
  .trivial
 |_=>cases h
theorem ug{i sz n:Nat}: ∀{l:List PV},l.all (vg i sz n)=is->bf i sz n l
 | [],_=>trivial
 |p::r,h=>by
  rw[VD,Tz]at h;exact⟨EB h.1,ug h.2⟩
def uw(i sz n:Nat):AH->Bool
 | []=>is
 |(_,io)::r=>uw i sz n r
 |(_,dl (.cells cs _))::r=>cs.all (vg i sz n)&&uw i sz n r
 |(_,dl (.row _ es))::r=>(es.all fun e=>e.all (vg i sz n))&&uw i sz n r
 |_::_=>jp
theorem ql{i sz n:Nat}: ∀{h:AH},uw i sz n h=is->h.yg i sz n
 | [],_=>trivial
 |(_,io)::r,h=>ql (h:=r) h
 |(_,dl (.cells cs _))::r,h=>by
  simp only[uw,Tz]at h;exact⟨ug h.1,ql h.2⟩
 |(_,dl (.row _ es))::r,h=>by
  simp only[uw,Tz]at h;exact⟨fun e d=>ug (TI.1 h.1 e d),ql h.2⟩
 |(_,dl (.bt _ _))::r,h=>by simp[uw]at h
 |(_,dl .fj)::r,h=>by simp[uw]at h
 |(_,dl (.map ..))::r,h=>by simp[uw]at h
 |(_,dl (.bZ ..))::r,h=>by simp[uw]at h
 |(_,dl (.dM ..))::r,h=>by simp[uw]at h
theorem Cx(p:Prog): ∀i,∀d∈oT p i,¬d.1=0
 |0,d,h=>by cases h
 |i+1,d,h=>by
  rw[oT]at h;rcases Ts.1 h with h|h
  .exact Cx p i d h
  .split at h
   .cases h
   .rename_i g;rw[Tk]at h;subst h;exact g
theorem Cu(p:Prog): ∀i,∀d∈pT p i,¬d.1=0
 |0,d,h=>by cases h
 |i+1,d,h=>by
  rw[pT]at h;rcases Ts.1 h with h|h
  .exact Cu p i d h
  .split at h
   .cases h
   .rename_i g;rw[Tk]at h;subst h;exact g
theorem Es(p:Prog): ∀d∈jA p,¬d.1=0:=fun d h=>by
 rcases Ts.1 h with h|h
 .exact Cx p _ d h
 .exact Cu p _ d h
theorem vc(p:Prog):(dX p).1=0↔jA p=[]:=by
 unfold dX;cases h:jA p with
 |nil=>exact⟨fun _=>rfl,fun _=>rfl⟩
 |cons d l=>exact⟨fun e=>absurd e (Es p d (by rw[h];exact Tm)),fun e=>nomatch e⟩
theorem ud(p:Prog): ∀n,pT p n=[]↔ ∀i,i<n->(ue p i).1=0
 |0=>⟨fun _ i h=>absurd h (Ve i),fun _=>rfl⟩
 |n+1=>by
  rw[pT,Vr,ud p n];constructor
  .rintro⟨h1,h2⟩ i d;rcases VE.1 d with h|h
   .exact h1 i h
   .subst h;by_cases g:(ue p i).1=0
    .exact g
    .rw[be g]at h2;cases h2
  .intro h;exact⟨fun i d=>h i (by omega),am (h n (by omega))⟩
theorem lz{α:Type}[Inhabited α]{l:List α}{i:Nat}(hi:i<l.length):l.getD i co∈l:=by rw[S4,S5 hi];exact T8 hi
structure s5 (p:Prog):Prop where
 nodup:(p.aw.map Decl.name).Nodup
 len:p.aw.length<=64
 C3: ∀r∈p.rules,r.head.rel∈p.aw.map Decl.name
 lits: ∀r∈p.rules,∀l∈r.body,∀t∈named l,t∈p.aw.map Decl.name
 flat: ∀r∈p.rules,∀l∈r.body,l.kind=4-> ∀x∈l.ay,x.kind≠4
theorem zs(p:Prog): ∀n,oT p n=[]-> ∀i,i<n->gm p i=0
 |0,_,i,h=>absurd h (Ve _)
 |n+1,h,i,hi=>by
  rw[oT]at h;obtain⟨j,d⟩:=Vr.1 h;rcases VE.1 hi with h3|h3
  .exact zs p n j i h3
  .subst h3;exact Decidable.byContradiction fun u=>by rw[be u]at d;cases d
theorem r7{d:Decl}{i k:Int}(h:oU d i k=0): ¬i>=64∧ ¬k>0:=by
 unfold oU at h;split at h
 .cases h
 .split at h
  .cases h
  .rename_i j;split at h
   .cases h
   .rename_i u;exact⟨fun g=>j (.inl g),u⟩
theorem uy{α:Type}[Inhabited α]: ∀(n:Nat) (l:List α),l.length=n->(∀i,i<l.length->l.getD i co∉l.take i)->l.Nodup
 |0,l,hn,_=>by rw[Uh.1 hn];exact T3
 |n+1,l,hn,h=>by
  have hd:l=l.take n++ [l.getD n co]:=by rw[<-bb (by omega),Tf (by omega)]
  have d:=uy n (l.take n) (by rw[TA];omega) fun i u=>by
   rw[TA]at u;have:=h i (by omega);rw[List.take_take,Nat.min_eq_left (by omega),S4,TE,am (by omega),<-S4];exact this
  rw[hd,UK];refine⟨d,by simp,fun a j b hb e=>?_⟩;rw[Tk]at hb;subst e;subst hb;exact h n (by omega) j
theorem zo{s:ae}: ∀(l:List Decl) (m:DM),cY .str (l.foldl c6 m) s=is->s∈m.map T2∨s∈l.map Decl.name
 | [],m,h=> .inl (mY.1 h)
 |d::l,m,h=>by
  rw[TM]at h;rcases zo l _ h with h1|h1
  .unfold c6 at h1;split at h1
   .exact .inl h1
   .rename_i j;rw[cU (fun g=>j (mY.2 g))]at h1;rcases Ts.1 h1 with h3|h3
    .exact .inl h3
    .rw[Tk]at h3;subst h3;exact .inr Tm
  .exact .inr (Tl _ h1)
theorem KU{p:Prog}{a:Atom}(h:vw p a=jp):a.rel∈p.aw.map Decl.name:=by
 unfold vw at h;rw[Va]at h;rcases zo p.aw [] h with h1|h1
 .cases h1
 .exact h1
theorem lT{r:aq}{e:Int}(he:e≠0){f:Int->Bool}{k:fV}(h:(mU r e f k).1=0):(∀lit∈iq r.body.length,f lit=jp)∧k.1=0:=by
 unfold mU at h;split at h
 .exact absurd h he
 .rename_i d;refine⟨fun lit j=>?_,h⟩;have:=Vq.1 d lit j;simpa using this
theorem Be{p:Prog}{r:aq}{n:Int}(h:(rZ p r n).1=0):(ym p r).1=0:=by
 unfold rZ at h;split at h
 .cases h
 .split at h
  .cases h
  .split at h
   .cases h
   .split at h
    .cases h
    .split at h
     .cases h
     .exact h
theorem Kb(n:Nat):(-1:Int)∈iq n:=Uf.2 ⟨0,by simp,by simp⟩
theorem CM{n i:Nat}(h:i<n):(i:Int)∈iq n:=Uf.2 ⟨i+1,by simp;omega,by simp⟩
theorem Ed{l:Lit}{t:ae}(hf:l.kind=4-> ∀x∈l.ay,x.kind≠4)(h:t∈named l): ∃a∈(if l.kind=4 then l.ay else[l]).flatMap cS,a.rel=t:=by
 rw[Gb l hf]at h;unfold Gc at h;split at h
 .rename_i y;rw[Tk]at h;have d: ¬l.kind=4:=by omega
  refine⟨l.atom,?_,h.symm⟩;rw[be d,VS];exact⟨l,UZ _,by rw[cS,am y];exact UZ _⟩
 .split at h
  .rename_i d;obtain⟨x,A,rfl⟩:=Uf.1 h;obtain⟨j,u⟩:=T5.1 A;refine⟨x.atom,?_,rfl⟩;rw[am d,VS];exact⟨x,j,by rw[cS,am (zT u)];exact UZ _⟩
  .cases h
theorem yB{p:Prog}(h:(dX p).1=0):s5 p:=by
 have J:=(vc p).1 h;unfold jA at J;obtain⟨C,D⟩:=Vr.1 J;have C:=zs p _ C;have D:=(ud p _).1 D;have u: ∀r∈p.rules,(ym p r).1=0:=by
  intro r y;obtain⟨i,d,rfl⟩:=UQ.1 y;have:=Be (D i d);rwa[S4,S5 d]at this
 have A: ∀r∈p.rules,∀lit∈iq r.body.length,∀a∈fo r lit,a.rel∈p.aw.map Decl.name:=by
  intro r y lit B a F;have:=(lT (by decide) (u r y)).1 lit B;exact KU (by simpa using Ud.1 this a F)
 have j: ∀r∈p.rules,∀l∈r.body,l.kind=4-> ∀x∈l.ay,x.kind≠4:=by
  intro r y l B Z x hx;obtain⟨i,d,rfl⟩:=UQ.1 B;have:=(lT (by decide) (lT (by decide) (lT (by decide) (u r y)).2).2).1 _ (CM d);have e:ar r (i:Int)=r.body[i]:=by unfold ar;simp[S4,d]
  unfold lM at this;rw[be (by omega),e,am Z,Vi]at this;simpa using Ud.1 this.1 x hx
 refine⟨uy _ _ I fun i d Y=>?_,?_,fun r y=>?_,fun r y l B t ht=>?_,j⟩
 .rw[TB]at d;have:=(r7 (C i d)).2;rw[bN]at this;have G:pt (fS p i) (p.aw.getD i co).name=0:=by omega
  rw[rO]at G;apply G;unfold fS;rw[S4,S6,S5 d,<-WC]at Y;rw[S4,S5 d];exact Y
 .refine UG fun hc=>?_
  have:=(r7 (C 64 hc)).1;omega
 .exact A r y (-1) (Kb _) r.head (by unfold fo;simp)
 .obtain⟨i,d,rfl⟩:=UQ.1 B;obtain⟨a,F,rfl⟩:=Ed (j r y _ B) ht;refine A r y _ (CM d) a ?_;have e:ar r (i:Int)=r.body[i]:=by unfold ar;simp[S4,d]
  unfold fo yo;rw[be (by omega),e];exact F
theorem s5.cZ{p:Prog}(h:s5 p){x:ae×ae×Nat}(j:x∈cZ p):x.1∈p.aw.map Decl.name∧x.2.1∈p.aw.map Decl.name∧0<x.2.2:=by
 simp only[_root_.Go.Proofs.YtbhphmfbligliaaGreatDoor.cZ,VS,Uf]at j;obtain⟨r,d,l,u,t,y,rfl⟩:=j;refine⟨h.C3 r d,h.lits r d l u t y,?_⟩;show 0<l3 l;unfold l3;split<;>omega
abbrev GM:=List ((KC.str).K×Option NM)
def D5:Option NM->IV
 |none=> .v (.map io)
 |some r=>wL r
abbrev w6(m:GM):IV:= .eJ .str D5 io (.map io) m
def EH(row:NM)(t:ae)(d:Int):NM:=cH .str row t (max (cI .str row t 0) d)
def ju(hs:List (ae×ae×Nat))(a:ae):NM:=hs.foldl (fun row x=>if x.1=a then EH row x.2.1 x.2.2 else row) []
def cv(p:Prog)(hs:List (ae×ae×Nat)):GM:=p.aw.map fun r=>(r.name,dl (ju hs r.name))
def uS(p:Prog):IV:=if(dX p).1=0 then w6 (cv p (cZ p)) else .v (.map io)
theorem nL(hs:List (ae×ae×Nat))(x:ae×ae×Nat)(a:ae):ju (hs++ [x]) a=if x.1=a then EH (ju hs a) x.2.1 x.2.2 else ju hs a:=by
 simp[ju,List.foldl_append]
theorem wx(hs:List (ae×ae×Nat))(a:ae):((ju hs a).map T2).Nodup∧ ∀b:ae,b∈(ju hs a).map T2↔ ∃k,(a,b,k)∈hs:=by
 induction hs using pN with
 |h0=>exact⟨T3,fun b=>by simp[ju]⟩
 |h1 hs x ih=>
  obtain⟨A,d⟩:=ih;obtain⟨y,z,k⟩:=x;rw[nL];by_cases h:y=a
  .rw[am h,EH];by_cases B:z∈(ju hs a).map T2
   .rw[lZ B];refine⟨A,fun b=>?_⟩;rw[d];constructor
    .rintro⟨j,hj⟩;exact⟨j,TR _ hj⟩
    .rintro⟨j,hj⟩;rcases Ts.1 hj with hj|hj
     .exact⟨j,hj⟩
     .rw[Tk]at hj;cases hj;exact(d z).1 B
   .rw[cU B];refine⟨UK.2 ⟨A,by simp,fun u hu v C e=>?_⟩,fun b=>?_⟩
    .rw[Tk]at C;subst e;subst C;exact B hu
    .rw[Ts,d,Tk];constructor
     .rintro(⟨j,hj⟩|rfl)
      .exact⟨j,TR _ hj⟩
      .exact⟨k,Uy _ (by rw[h];exact UZ _)⟩
     .rintro⟨j,hj⟩;rcases Ts.1 hj with hj|hj
      .exact .inl ⟨j,hj⟩
      .rw[Tk]at hj;cases hj;exact .inr I
  .rw[be h];refine⟨A,fun b=>?_⟩;rw[d];constructor
   .rintro⟨j,hj⟩;exact⟨j,TR _ hj⟩
   .rintro⟨j,hj⟩;rcases Ts.1 hj with hj|hj
    .exact⟨j,hj⟩
    .rw[Tk]at hj;cases hj;exact absurd I h
theorem FG(hs:List (ae×ae×Nat))(a:ae):(ju hs a).length<=hs.length:=by
 induction hs using pN with
 |h0=>exact S9 _
 |h1 hs x ih=>
  rw[nL,S1,TU];split
  .have:=p7 (ju hs a) x.2.1 (max (cI .str (ju hs a) x.2.1 0) x.2.2);unfold EH;omega
  .omega
def bn(p:Prog)(a:ae):List ae:=(ns p).filter (eg p a)
theorem y4{p:Prog}(h:s5 p)(a:ae):dL ((ju (cZ p) a).map T2)=bn p a:=by
 refine oN (js (wx _ _).1) (List.Pairwise.filter _ (js h.nodup)) fun b=>?_;rw[lj,(wx _ _).2,bn,T5,ns,lj,eg,decide_eq_true_eq];constructor
 .rintro⟨k,hk⟩;have d:=h.cZ hk;refine⟨d.2.1,?_⟩;have:=Rf hk;have h2:0<k:=d.2.2;omega
 .rintro⟨_,d⟩;rcases Rc (cZ p) a b with h2|h2
  .exact absurd h2 d
  .exact⟨_,h2⟩
theorem Gz(p:Prog)(hs:List (ae×ae×Nat)){a:ae}(h:a∈p.aw.map Decl.name):cI .str (cv p hs) a io=dl (ju hs a):=by
 unfold cv
 revert h
 generalize p.aw=l
 induction l with
 |nil=>intro h;cases h
 |cons d l ih=>
  intro h;simp only[Tg,cI];by_cases e:d.name=a
  .rw[am e,e]
  .rw[be e];rw[Tg,Tt]at h;exact ih (h.resolve_left fun g=>e g.symm)
theorem BH(p:Prog)(hs:List (ae×ae×Nat)):(cv p hs).map T2=p.aw.map Decl.name:=by
 simp[cv]
end Go.Proofs.YtbhphmfbligliaaGreatDoor
namespace Go.Proofs.YtbhphmfbligliaaGreatDoor
open Go Go.Al Go.En
def x9(p:Prog):Nat->NM
 |0=> []
 |n+1=>cH .str (x9 p n) (p.aw.getD n co).name n
abbrev sT(p:Prog):NM:=x9 p p.aw.length
def tF(r:aq):Int:=(r.body.countP fun l=>kw (l.kind=1):Nat)
def bU(p:Prog):List Int:=0::p.rules.map tF
def kQ(d:Nat)(u:Int):Bool:=kw (1<=u)&&kw (u<=d)
def jX(p:Prog)(n:cK)(d:Nat):Bool:=kw (0<=n.cW)&&(kw (n.cW<(bU p).length)&&(kw (n.kids=(bU p).getD n.cW.toNat 0)&&(kw (oB p n.fact=0)&&n.up.all (kQ d))))
def bF(p:Prog):Nat->List cK->Bool
 |_,[]=>is
 |i,n::l=>jX p n i&&bF p (i+1) l
def pJ:List ae->NM
 | []=> []
 |s::r=>cH .str (pJ r) s r.length
abbrev jL(S:List ae):NM:=pJ S.reverse
def pA(S:List ae)(s:ae):List ae:=if cY .str (jL S) s=is then S else S++ [s]
def iK(S:List ae)(v:eK):List ae:=if v.kind=2 then pA S v.sym else S
def xJ(S:List ae)(n:cK):List ae:=n.fact.args.foldl iK S
abbrev bc(l:List cK):List ae:=l.foldl xJ []
def pM(s:ae):By:=s.data.toList
def j6(S:List ae)(v:eK):By:=if v.kind=1 then enc (zz v.num) else enc (cI .str (jL S) v.sym 0).toNat
def sP(u:Int):By:=enc u.toNat
def lQ(p:Prog)(S:List ae)(n:cK):By:=enc (cI .str (sT p) n.fact.rel 0).toNat++(n.fact.args.flatMap (j6 S)++(enc n.cW.toNat++n.up.flatMap sP))
def jq(kd:UInt8)(d:Nat):By:=[80,68,71,49]++([kd]++ [UInt8.ofNat (d/16777216),UInt8.ofNat (d/65536),UInt8.ofNat (d/256),UInt8.ofNat d])
def lJ(S:List ae):By:=enc S.length++S.flatMap fun s=>me (pM s)
def gp(p:Prog)(S:List ae)(l:List cK):By:=enc l.length++l.flatMap (lQ p S)
def bL(p:Prog)(d:Nat)(kd:UInt8)(l:List cK):By:=jq kd d++(lJ (bc l)++gp p (bc l) l)
def fe(b:By)(S:List ae):List Int->RS->Option (List eK)×RS
 | [],s=>(dl [],s)
 |k::ks,s=>
  if k=1 then
   match fe b S ks (kN b (-2147483647) 2147483647 s).2 with
   |(dl l,s2)=>(dl (⟨k,(kN b (-2147483647) 2147483647 s).1,Ta⟩::l),s2)
   |(io,s2)=>(io,s2)
  else if(bm b 4194304 s).1<S.length then
   match fe b S ks (bm b 4194304 s).2 with
   |(dl l,s2)=>(dl (⟨k,0,S.getD (bm b 4194304 s).1 co⟩::l),s2)
   |(io,s2)=>(io,s2)
  else(io,(bm b 4194304 s).2)
def jJ(b:By):Nat->RS->List Int×RS
 |0,s=>([],s)
 |n+1,s=>(((bm b 65536 s).1:Int)::(jJ b n (bm b 65536 s).2).1,(jJ b n (bm b 65536 s).2).2)
def qm(p:Prog)(b:By)(S:List ae)(lines:Bool)(s:RS):Option cK×RS:=
 let y:=(bm b 64 s).2
 let d:=p.aw.getD (bm b 64 s).1 co
 if y.f=0∧(bm b 64 s).1<p.aw.length then
  match fe b S d.types y with
  |(io,s2)=>(io,s2)
  |(dl l,s2)=>
   let u:=(bm b 256 s2).1
   let j:=(bm b 256 s2).2
   if j.f=0∧u<(bU p).length then
    let k:=(bU p).getD u 0
    let x:=if lines=is then jJ b k.toNat j else([],j)
    if x.2.f=0 then(dl ⟨⟨d.name,l⟩,u,k,x.1⟩,x.2) else(io,x.2)
   else(io,j)
 else(io,y)
def fX(p:Prog)(b:By)(S:List ae)(lines:Bool):Nat->RS->Option (List cK)×RS
 |0,s=>(dl [],s)
 | n+1,s=>if s.f=0 then
   match qm p b S lines s with
   |(io,s1)=>(io,s1)
   |(dl x,s1)=>match fX p b S lines n s1 with
    |(io,s2)=>(io,s2)
    |(dl l,s2)=>(dl (x::l),s2)
  else(dl [],s)
def vN(b:By)(n:Nat)(s:RS):RS:=if s.f=0 then(if n<=b.length-s.p then⟨s.p+n,0⟩ else⟨s.p,10⟩) else s
def y5(t:By):ae:=⟨t.toArray⟩
def ko(b:By):List ae×RS:=
 let x:=bm b 4194304 (vN b 9 ⟨0,0⟩)
 ((dD b 64 x.1 x.2).1.map y5,(dD b 64 x.1 x.2).2)
def BX(p:Prog)(b:By)(lines:Bool):Option (List cK)×RS:=
 let x:=bm b 65536 (ko b).2
 fX p b (ko b).1 lines x.1 x.2
def iX(b:By):Nat:=if 4<b.length∧b.take 4=[80,68,71,49]∧(b.getD 4 0=1∨b.getD 4 0=2) then(b.getD 4 0).toNat else 0
def jM(p:Prog)(b:By)(kd:Nat):Option (List cK):=
 if iX b=kd then match BX p b (kd==2) with
  |(dl l,s)=>if s.f=0∧b.length<=s.p then dl l else io
  |(io,_)=>io
 else io
theorem rq{α:Type}: ∀{l:List α},l.Nodup->l.reverse.Nodup
 | [],_=>by simp
 |x::l,h=>by
  obtain⟨j,u⟩:=Ug.1 h;rw[Vt];exact UK.2 ⟨rq u,by simp,fun a d b hb=>by simp at hb d;subst hb;exact fun e=>j (e▸d)⟩
theorem wj: ∀(r:List ae),r.Nodup->(pJ r).map T2=r.reverse∧ ∀t,t∈(pJ r).map T2↔t∈r
 | [],_=>⟨rfl,fun _=>Iff.rfl⟩
 |s::r,h=>by
  obtain⟨d,j⟩:=Ug.1 h;obtain⟨g1,g2⟩:=wj r j;have:s∉(pJ r).map T2:=fun u=>d ((g2 s).1 u)
  have e:(pJ (s::r)).map T2=(s::r).reverse:=by
   show(cH .str (pJ r) s _).map T2=_;rw[cU this,g1];simp
  exact⟨e,fun t=>by rw[e];simp[or_comm]⟩
theorem C4{S:List ae}(h:S.Nodup)(s:ae):cY .str (jL S) s=is↔s∈S:=by
 rw[mY,(wj S.reverse (rq h)).2 s];simp
theorem Cg: ∀(r:List ae),r.Nodup-> ∀(i:Nat) (s:ae),r[i]? =dl s->cI .str (pJ r) s 0=((r.length-1-i:Nat):Int)
 | [],_,i,s,hi=>by simp at hi
 |t::r,h,i,s,hi=>by
  obtain⟨u,x⟩:=Ug.1 h;show cI .str (cH .str (pJ r) t _) s 0=_;rw[eD];cases i with
  |zero=>simp at hi;subst hi;simp
  |succ i=>
   have d:r[i]? =dl s:=by simpa using hi
   have A:s∈r:=T7 d;have j: ¬t=s:=fun e=>u (e▸A);have y:=(S2.1 d).1;rw[be j,Cg r x i s d,Tr];congr 1;omega
theorem Nz{S:List ae}(h:S.Nodup){i:Nat}{s:ae}(hi:S[i]? =dl s):cI .str (jL S) s 0=(i:Int):=by
 have d:=(S2.1 hi).1;rw[Cg S.reverse (rq h) (S.length-1-i) s (by rw[Wr (by omega)];rw[<-hi];congr 1;omega),U3];congr 1;omega
theorem BY{S:List ae}(h:S.Nodup)(s:ae):(pA S s).Nodup:=by
 unfold pA;split
 .exact h
 .rename_i d;rw[C4 h]at d;exact UK.2 ⟨h,by simp,fun a j b hb=>by simp at hb;subst hb;exact fun e=>d (e▸j)⟩
theorem Hy{S:List ae}(h:S.Nodup)(s:ae):s∈pA S s:=by
 unfold pA;split
 .rename_i d;exact(C4 h s).1 d
 .simp
theorem Hx(S:List ae)(s:ae): ∀t∈S,t∈pA S s:=fun t d=>by
 unfold pA;split
 .exact d
 .simp[d]
theorem xI: ∀(l:List eK) {S:List ae},S.Nodup->(l.foldl iK S).Nodup∧(∀t∈S,t∈l.foldl iK S)∧ ∀v∈l,v.kind=2->v.sym∈l.foldl iK S
 | [],S,h=>⟨h,fun _ h=>h,fun _ h=>nomatch h⟩
 |v::l,S,h=>by
  rw[TM];have j:(iK S v).Nodup:=by unfold iK;split;exact BY h _;exact h
  have x: ∀t∈S,t∈iK S v:=by unfold iK;split;exact Hx S _;exact fun _ h=>h
  obtain⟨g1,g2,g3⟩:=xI l j;refine⟨g1,fun t y=>g2 t (x t y),fun u hu d=>?_⟩;rcases Tt.1 hu with rfl|hu
  .refine g2 _ ?_;unfold iK;rw[am d];exact Hy h _
  .exact g3 u hu d
theorem pK: ∀(l:List cK) {S:List ae},S.Nodup->(l.foldl xJ S).Nodup∧(∀t∈S,t∈l.foldl xJ S)∧ ∀n∈l,∀v∈n.fact.args,v.kind=2->v.sym∈l.foldl xJ S
 | [],S,h=>⟨h,fun _ h=>h,fun _ h=>nomatch h⟩
 |n::l,S,h=>by
  rw[TM];obtain⟨x,y,A⟩:=xI n.fact.args h;obtain⟨g1,g2,g3⟩:=pK l x;refine⟨g1,fun t B=>g2 t (y t B),fun u hu v j d=>?_⟩;rcases Tt.1 hu with rfl|hu
  .exact g2 _ (A v j d)
  .exact g3 u hu v j d
theorem Fb{G:ae->Prop}{S:List ae}(h: ∀t∈S,G t)(v:eK)(j:v.kind=2->G v.sym):(∀t∈iK S v,G t)∧(iK S v).length<=S.length+1:=by
 unfold iK pA;split
 .rename_i d;split
  .exact⟨h,by omega⟩
  .refine⟨fun t ht=>?_,by simp⟩;rcases Ts.1 ht with ht|ht
   .exact h t ht
   .simp at ht;subst ht;exact j d
 .exact⟨h,by omega⟩
theorem tT{G:ae->Prop}: ∀(l:List eK) {S:List ae},(∀t∈S,G t)->(∀v∈l,v.kind=2->G v.sym)->(∀t∈l.foldl iK S,G t)∧(l.foldl iK S).length<=S.length+l.length
 | [],S,h,_=>⟨h,S9 _⟩
 |v::l,S,h,hv=>by
  obtain⟨d,j⟩:=Fb h v (hv v (Tm ..));obtain⟨g1,g2⟩:=tT l d fun u hu=>hv u (Tl _ hu);rw[TM];exact⟨g1,by rw[Tr];omega⟩
theorem kV{G:ae->Prop}: ∀(l:List cK) {S:List ae},(∀t∈S,G t)->(∀n∈l,n.fact.args.length<=8∧ ∀v∈n.fact.args,v.kind=2->G v.sym)->(∀t∈l.foldl xJ S,G t)∧(l.foldl xJ S).length<=S.length+8*l.length
 | [],S,h,_=>⟨h,S9 _⟩
 |n::l,S,h,hv=>by
  obtain⟨y,d⟩:=hv n (Tm ..);obtain⟨j,x⟩:=tT n.fact.args h d;obtain⟨g1,g2⟩:=kV l (S:=xJ S n) j fun u hu=>hv u (Tl _ hu);rw[TM]
  exact⟨g1,by
   have:(xJ S n).length<=S.length+n.fact.args.length:=x
   rw[Tr];omega⟩
end Go.Proofs.YtbhphmfbligliaaGreatDoor
namespace Go.Proofs.YtbhphmfbligliaaGreatDoor
open Go Go.Al Go.Proofs.Tryz Go.En
abbrev nX(l:By):AO:=aY 1 l bD
abbrev iD(i:Nat)(l:By):AO:= .cells [.sl i 0 l.length 1]
abbrev wO(l:By):List AO:=[iD 1 l,nX l]
abbrev wH(l:By):AH:=[(0,dl (iD 2 l)),(2,dl (nX l))]
abbrev pU(n:Nat):PV:= .iv (.v (.int .u64 (n:Int)))
abbrev pY(n:Int):PV:= .iv (.v (.int .u8 n))
theorem bY(σ:Nat->Nat)(l:By):(nX l).b3 σ=nX l:=bK σ
theorem cO(σ:Nat->Nat)(l:By):(AO.row 1 (eG l)).b3 σ= .row 1 (eG l):=bK σ
theorem bR(σ:Nat->Nat)(l:By):(l.map fun x=>(bD x).map PV.iv).map (di σ)=l.map fun x=>(bD x).map PV.iv:=by
 rw[UN];exact Ux fun x _=>nN _ _
theorem Qm(l xs:By){es:List (List PV)}{n:Nat}(he:es=eG xs)(hn:n=xs.length)(hb:l.length+xs.length<=100000000000000):bB prog 111 [.ptr 0 0,.sl 2 0 n 1] (wO l++ [.row 1 es]) (.aZ []) [(0,dl (iD 3 (l++xs))),(3,dl (nX (l++xs)))] 4:=by
 subst he;subst hn;refine an ab func111 I (by decide) ntmps111 I (by simp) ?_;refine ik I ⟨ac,by simp,by simp,?_,by omega,by omega⟩ (aC [3] (by first|exact .inr I|exact .inl I) I (wk I I I (bi ac) ⟨⟨_,rfl,.of_eq ?_⟩,SY I,rfl,hR I ?_ I ac⟩ I))
 .rw[V4,Tf (by simp)];exact fM (fun _=>rfl) xs
 .simp[AO.b3,di,PV.b3,sg]
 .rw[V4,Tf (by simp),Tc]
theorem Cq(l:By)(x:UInt8){v:Int}(d:v=(x.toNat:Int))(hb:l.length<=90000000000000):bB prog 111 [.ptr 0 0,.sl 2 0 1 1] (wO l++ [.row 1 [[pY v]]]) (.aZ []) [(0,dl (iD 3 (l++ [x]))),(3,dl (nX (l++ [x])))] 4:=
 Qm l [x] (by rw[d];rfl) I (by simp;omega)
theorem Br(m:Nat):IntKind.u8.wrap (m:Int)=((UInt8.ofNat m).toNat:Int):=by
 have e:IntKind.u8.wrap (m:Int)=(m:Int) % 256:=rfl;rw[e];simp
theorem orB(m:Nat):IntKind.u8.wrap ((BitVec.ofInt IntKind.u8.bits (IntKind.u8.wrap (m:Int))|||BitVec.ofInt IntKind.u8.bits 128).toNat:Int)=((UInt8.ofNat (m % 128+128)).toNat:Int):=by
 have d:IntKind.u8.wrap (m:Int)=((m % 256:Nat):Int):=by
  have e:IntKind.u8.wrap (m:Int)=(m:Int) % 256:=rfl;rw[e];omega
 have j: ∀k:Fin 256,(BitVec.ofInt 8 ((k.val:Nat):Int)|||BitVec.ofInt 8 128).toNat=k.val % 128+128:=by decide+kernel
 have u:=j ⟨m % 256,by omega⟩;rw[d];have x:(BitVec.ofInt IntKind.u8.bits ((m % 256:Nat):Int)|||BitVec.ofInt IntKind.u8.bits 128).toNat=m % 256 % 128+128:=u;have y:m % 256 % 128+128=m % 128+128:=by omega
 rw[x,y];exact Br _
theorem RY(m:Nat):((m:Int)).fdiv (2 ^ min ((7:Int)).toNat IntKind.u64.bits)=((m/128:Nat):Int):=by
 have e:(2:Int) ^ min ((7:Int)).toNat IntKind.u64.bits=128:=by decide
 rw[e,Uu _ (by decide)];rfl
theorem GY{f m:Nat}(h: ¬m<128):gr (f+1) m=UInt8.ofNat (m % 128+128)::gr f (m/128):=by rw[gr,be h]
theorem Ba(l:By)(n:Nat)(hb:l.length<=80000000000000):bB prog 112 [.ptr 0 0,pU n] (wO l) (.aZ []) (wH (l++enc n)) 3:=by
 refine an ab func112 I (by decide) ntmps112 I (by simp) ?_;refine gA I ?_;refine l5 0 10 (Te _) (fun i (x:Nat×By)=>⟨[(0,.ptr 0 0),(1,pU x.1),(4,pI i)],[(0,dl (iD 2 x.2)),(2,dl (nX x.2))],3⟩) (fun i x=>x.2.length=l.length+i∧x.2++gr (10-i) x.1=l++enc n) (n,l) [1] ⟨rfl,rfl⟩
  (wk I I I (bi (bi (bi trivial))) ⟨⟨_,rfl,.of_eq I⟩,SY I,rfl,hR I I I trivial⟩ I) fun i x F D=>?_
 obtain⟨m,y⟩:=x;obtain⟨B,A⟩:=D;have d: ∀(g:m<128∨i=10),y++ [UInt8.ofNat m]=l++enc n:=fun g=>by
  rw[<-A];congr 1;cases hf:10-i with
  |zero=>rw[gr]
  |succ f=>
   rw[gr,am];rcases g with g|g
   .exact g
   .omega
 have C:y.length=l.length+i:=B;refine gA I ?_;refine S3 (fun u=>?_) (fun u=>?_)
 .have u:i<10:=by have:(i:Int)<10:=of_decide_eq_true u;omega
  refine gA I ?_;refine S3 (fun j=>?_) (fun j=>?_)
  .have j:m<128:=by have:(m:Int)<128:=of_decide_eq_true j;omega
   refine gA I (aE [0,2,3] (Cq y (UInt8.ofNat m) (Br m) (by omega)) I I I I I (by simp only[Tg,Tx,Tu,TD,bY,cO];rfl) I I ?_);rw[d (.inl j)];refine gA I (aC [4] (by first|exact .inr I|exact .inl I) I (wk I I I (bi ac) ⟨⟨_,rfl,.of_eq I⟩,SY I,rfl,hR I (by first|rfl|exact bR _ _) I ac⟩ I))
  .have j: ¬m<128:=by have: ¬(m:Int)<128:=of_decide_eq_false j;omega
   refine gA I (aE [0,2,3] (Cq y (UInt8.ofNat (m % 128+128)) (orB m) (by omega)) I I I I I (by simp only[Tg,Tx,Tu,TD,bY,cO];rfl) I I ?_);refine gA I ?_;refine⟨u,(m/128,y++ [UInt8.ofNat (m % 128+128)]),[4],⟨by simp;omega,?_⟩,wk I I I (bi ⟨.of_eq ?_,rfl,bi ac⟩) ⟨⟨_,rfl,.of_eq I⟩,SY I,rfl,hR I (by first|rfl|exact bR _ _) I ac⟩ I⟩
   .show(y++ [UInt8.ofNat (m % 128+128)])++gr (10-(i+1)) (m/128)=l++enc n;rw[<-A,Tb];have e:10-i=(10-(i+1))+1:=by omega
    show _=y++gr (10-i) m;rw[e,GY j];rfl
   .show PV.iv (.v (.int .u64 _))=_;rw[RY];rfl
 .have u:10<=i:=by have: ¬(i:Int)<10:=of_decide_eq_false u;omega
  refine gA I (aE [0,2,3] (Cq y (UInt8.ofNat m) (Br m) (by omega)) I I I I I (by simp only[Tg,Tx,Tu,TD,bY,cO];rfl) I I ?_);rw[d (.inr (by omega))];refine gA I (aC [4] (by first|exact .inr I|exact .inl I) I (wk I I I (bi ac) ⟨⟨_,rfl,.of_eq I⟩,SY I,rfl,hR I (by first|rfl|exact bR _ _) I ac⟩ I))
theorem R0(l xs:By){es:List (List PV)}{n:Nat}(he:es=eG xs)(hn:n=xs.length)(hb:l.length+xs.length<=80000000000000):bB prog 62 [.ptr 0 0,.sl 2 0 n 1] (wO l++ [.row 1 es]) (.aZ []) [(0,dl (iD 3 (l++xs))),(3,dl (nX (l++xs)))] 4:=by
 subst he;subst hn;refine an ab func62 I (by decide) ntmps62 I (by simp) ?_;refine gA I ?_;refine S3 (fun zz=>?_) (fun zz=>?_)<;>(try(exact absurd zz (by decide)))
 refine gA I (aE [0,1,2] (Qm l xs I I (by omega)) I I I I I (by simp only[Tg,Tx,Tu,TD,bY,cO];rfl) I I ?_);refine gA I (aC [3] (by first|exact .inr I|exact .inl I) I (wk I I I (bi ac) ⟨⟨_,rfl,.of_eq I⟩,SY I,rfl,hR I (by first|rfl|exact bR _ _) I ac⟩ I))
theorem Qz(l:By)(x:UInt8)(hb:l.length<=80000000000000):bB prog 63 [.ptr 0 0,pY (x.toNat:Int)] (wO l) (.aZ []) (wH (l++ [x])) 3:=by
 refine an ab func63 I (by decide) ntmps63 I (by simp) ?_;refine gA I ?_;refine S3 (fun zz=>?_) (fun zz=>?_)<;>(try(exact absurd zz (by decide)))
 refine gA I (aE [0,1,2] (Cq l x I (by omega)) I I I I I (by simp only[Tg,Tx,Tu,TD,bY,cO];rfl) I I ?_);refine gA I (aC [3] (by first|exact .inr I|exact .inl I) I (wk I I I (bi ac) ⟨⟨_,rfl,.of_eq I⟩,SY I,rfl,hR I (by first|rfl|exact bR _ _) I ac⟩ I))
theorem P9(l:By)(n:Nat)(hb:l.length<=70000000000000):bB prog 65 [.ptr 0 0,pU n] (wO l) (.aZ []) (wH (l++enc n)) 3:=by
 refine an ab func65 I (by decide) ntmps65 I (by simp) ?_;refine gA I ?_;refine S3 (fun zz=>?_) (fun zz=>?_)<;>(try(exact absurd zz (by decide)))
 refine gA I (aE [0,1] (Ba l n (by omega)) I I I I I (by simp only[Tg,Tx,Tu,TD,bY,cO];rfl) I I ?_);refine gA I (aC [2] (by first|exact .inr I|exact .inl I) I (wk I I I (bi ac) ⟨⟨_,rfl,.of_eq I⟩,SY I,rfl,hR I (by first|rfl|exact bR _ _) I ac⟩ I))
theorem Rw{a b:By}{i n:Nat}{σ:Nat->Nat}{j:Nat}(h:b=a)(hn:n=a.length)(hi:σ i=j):dG (.cells [.sl j 0 n 1]) ((iD i b).b3 σ):=by
 subst h;subst hn;subst hi;exact .of_eq I
theorem wrU(m:Nat)(h:m<9223372036854775808):IntKind.u64.wrap (m:Int)=(m:Int):=by
 have e:IntKind.u64.wrap (m:Int)=(m:Int) % 18446744073709551616:=rfl;rw[e];omega
theorem Qa(l:By)(s:ae)(hs:s.size<=10000000000)(hb:l.length<=60000000000000):bB prog 68 [.ptr 0 0,pS s] (wO l) (.aZ []) (wH (l++me s.data.toList)) 3:=by
 have d:s.data.toList.length=s.size:=by simp
 have u:=np 10 s.size;have j:l++me s.data.toList=l++enc s.size++s.data.toList:=by rw[me,d,Tb]
 refine an ab func68 I (by decide) ntmps68 I (by simp) ?_;refine gA I ?_;refine S3 (fun zz=>?_) (fun zz=>?_)<;>(try(exact absurd zz (by decide)))
 refine gA I (aE [0,1] (bB.le (aa:=[.ptr 0 0,.iv (.v (.int .u64 (IntKind.u64.wrap (s.size:Int))))]) (Ba l s.size (by omega)) ⟨.refl _,.of_eq (congrArg (fun z:Int=>PV.iv (.v (.int .u64 z))) (wrU s.size (by omega))),ac⟩) I I I I I (by simp only[Tg,Tx,Tu,TD,bY,cO];rfl) I I ?_);refine gM 9 I (bw I (Jr (l:=l++enc s.size) ab I I I I I I I (by exact congrArg dl (bY _ _)) I I I I I (by simp only[S1,enc];omega) I) ?_);rintro t rfl;refine gA I (aC [3] (by first|exact .inr I|exact .inl I) I (wk I I I (bi ac) ⟨⟨_,rfl,Rw j (by simp[Ua]) I⟩,SY I,rfl,hR I (by rw[j,Tc]) I ac⟩ I))
theorem B3(x:Nat)(h:x<18446744073709551616):(BitVec.ofInt 64 ((x:Nat):Int) ^^^ BitVec.ofInt 64 18446744073709551615).toNat=18446744073709551615-x:=by
 have d:BitVec.ofInt 64 18446744073709551615=BitVec.allOnes 64:=by decide
 have j:BitVec.ofInt 64 ((x:Nat):Int)=BitVec.ofNat 64 x:=by simp[BitVec.ofInt_natCast]
 rw[d,j,BitVec.xor_allOnes,BitVec.toNat_not,BitVec.toNat_ofNat];omega
theorem B2(x:Nat)(h:x<18446744073709551616):(BitVec.ofInt 64 ((x:Nat):Int) ^^^ BitVec.ofInt 64 0).toNat=x:=by
 have d:BitVec.ofInt 64 0=0#64:=by decide
 have j:BitVec.ofInt 64 ((x:Nat):Int)=BitVec.ofNat 64 x:=by simp[BitVec.ofInt_natCast]
 rw[d,j,BitVec.xor_zero,BitVec.toNat_ofNat];omega
theorem zzB{n:Int}(h1: -2147483647<=n)(y:n<=2147483647):IntKind.u64.wrap ((BitVec.ofInt IntKind.u64.bits (IntKind.u64.wrap (IntKind.u64.wrap n*2 ^ min (1:Int).toNat IntKind.u64.bits)) ^^^ BitVec.ofInt IntKind.u64.bits (IntKind.u64.wrap (n.fdiv (2 ^ min (63:Int).toNat IntKind.i64.bits)))).toNat:Int)=(zz n:Int):=by
 have w: ∀z:Int,IntKind.u64.wrap z=z % 18446744073709551616:=fun _=>rfl;have u:(2:Int) ^ min (1:Int).toNat IntKind.u64.bits=2:=by decide
 have x:(2:Int) ^ min (63:Int).toNat IntKind.i64.bits=9223372036854775808:=by decide
 rw[u,x,Uu _ (by decide),w,w n,w (n/9223372036854775808),w ((n % 18446744073709551616)*2)];show(((BitVec.ofInt 64 _ ^^^ BitVec.ofInt 64 _).toNat:Nat):Int) % _=_;unfold zz;by_cases h:n<0
 .rw[am h];have d:n/9223372036854775808 % 18446744073709551616=18446744073709551615:=by omega
  have j:n % 18446744073709551616*2 % 18446744073709551616=(((2*n+18446744073709551616).toNat:Nat):Int):=by omega
  rw[d,j,B3 _ (by omega)];omega
 .rw[be h];have d:n/9223372036854775808 % 18446744073709551616=0:=by omega
  have j:n % 18446744073709551616*2 % 18446744073709551616=(((2*n).toNat:Nat):Int):=by omega
  rw[d,j,B2 _ (by omega)];omega
theorem R2(l:By)(n:Int)(h1: -2147483647<=n)(d:n<=2147483647)(hb:l.length<=60000000000000):bB prog 69 [.ptr 0 0,pI n] (wO l) (.aZ []) (wH (l++enc (zz n))) 3:=by
 refine an ab func69 I (by decide) ntmps69 I (by simp) ?_;refine gA I (S3 (fun g=>?_) (fun g=>absurd g (by decide)));refine gA I (aE [0,1] (bB.le (aa:=[.ptr 0 0,.iv (.v (.int .u64 (IntKind.u64.wrap ((BitVec.ofInt IntKind.u64.bits (IntKind.u64.wrap (IntKind.u64.wrap n*2 ^ min (1:Int).toNat IntKind.u64.bits)) ^^^ BitVec.ofInt IntKind.u64.bits (IntKind.u64.wrap (n.fdiv (2 ^ min (63:Int).toNat IntKind.i64.bits)))).toNat:Int))))]) (Ba l (zz n) (by omega)) ⟨.refl _,.of_eq (congrArg (fun z:Int=>PV.iv (.v (.int .u64 z))) (zzB h1 d)),ac⟩) I I I I I (by simp only[Tg,Tx,Tu,TD,bY,cO];rfl) I I ?_);refine gA I (aC [2] (by first|exact .inr I|exact .inl I) I (wk I I I (bi ac) ⟨⟨_,rfl,.of_eq I⟩,SY I,rfl,hR I (by first|rfl|exact bR _ _) I ac⟩ I))
theorem P8(l:By):bB prog 71 [.ptr 0 0] (wO l) (pI l.length) [(0,dl (iD 1 l)),(1,dl (nX l))] 2:=by
 refine an ab func71 I (by decide) ntmps71 I (by simp) ?_;refine gA I ?_;refine S3 (fun zz=>?_) (fun zz=>?_)<;>(try(exact absurd zz (by decide)))
 refine gA I (aC [] (by first|exact .inr I|exact .inl I) I (wk I I I (bi ac) ⟨⟨_,rfl,.of_eq I⟩,SY I,rfl,hR I (by first|rfl|exact bR _ _) I ac⟩ I))
theorem Qr:bB prog 61 [] [] (.ptr 0 0) [(0,dl (.cells [.iv (.v (.slice io 0 0))]))] 1:=by
 refine an ab func61 I (by decide) ntmps61 I (by simp) ?_;refine gA I (aC [0] (by first|exact .inr I|exact .inl I) I (wk I I I (bi ac) ⟨⟨_,rfl,.of_eq I⟩,SY I,rfl,ac⟩ I))
theorem P6{h:AH}(l:By){j n:Nat}(hj:h.get j=dl (nX l))(hn:n=l.length):zc h 1 (.sl j 0 n 1)=dl (eG l):=by
 subst hn;have e:Tw 1 1=is:=rfl;unfold zc;simp only[e,hj,nX,aY,Tp,TB,Nat.ble_eq,S9,V4];rw[show UW l.length l.length=is from T6 (S9 _)];show dl _=_;rw[Tf (by simp)]
theorem QF(l:By)(hb:l.length<=60000000000000):bB prog 114 [.ptr 0 0] (wO l) (.sl 2 0 l.length 1) [(0,dl (iD 1 l)),(1,dl (nX l)),(2,dl (nX l))] 3:=by
 refine an ab func114 I (by decide) ntmps114 I (by simp) ?_;refine gA I (bw I (tv (news:=eG l) (eu:=Pc) (sz:=1) ab I I I I I I I (by decide) (by exact P6 l I I) (eT (fM (fun _=>rfl) l)) (by show(eG l).length*1<=_;simp;omega) (by simp;omega) I) ?_);rintro t rfl;refine gA I (aC [3] (by first|exact .inr I|exact .inl I) I (wk I I I ⟨.row (by simp),rfl,ac⟩ ⟨⟨_,rfl,.of_eq I⟩,SY I,rfl,hR I (by first|rfl|exact bR _ _) I (hR I (by first|rfl|exact bR _ _) I ac)⟩ I))
theorem R1(l:By)(hb:l.length<=60000000000000):bB prog 72 [.ptr 0 0] (wO l) (.sl 2 0 l.length 1) [(0,dl (iD 1 l)),(1,dl (nX l)),(2,dl (nX l))] 3:=by
 refine an ab func72 I (by decide) ntmps72 I (by simp) ?_;refine gA I (S3 (fun g=>absurd g (by decide)) (fun g=>?_));refine gA I (aE [0,1] (QF l hb) I I I I I (by simp only[Tg,Tx,Tu,TD,bY,cO];rfl) I I ?_);refine gA I (aC [2] (by first|exact .inr I|exact .inl I) I (wk I I I ⟨.row I,rfl,ac⟩ ⟨⟨_,rfl,.of_eq I⟩,SY I,rfl,hR I (by first|rfl|exact bR _ _) I (hR I (by first|rfl|exact bR _ _) I ac)⟩ I))
theorem y0(S:List ae)(s:ae):jL (S++ [s])=cH .str (jL S) s S.length:=by
 show pJ (S++ [s]).reverse=_;rw[VX];show cH .str (pJ S.reverse) s S.reverse.length=_;rw[U3]
abbrev Ny(j n:Nat):AO:= .cells [.mp 1,.sl j 0 n 1]
abbrev RT(S:List ae):List AO:=[Ny 2 S.length,cN (jL S),aY 1 S cA]
abbrev RU(S:List ae):AH:=[(0,dl (Ny 3 S.length)),(1,dl (cN (jL S))),(3,dl (aY 1 S cA))]
theorem Nx{a b:Nat}{i j:Nat}{σ:Nat->Nat}(h:a=b)(hi:σ 1=1)(hj:σ j=i):dG (.cells [.mp 1,.sl i 0 a 1]) ((Ny j b).b3 σ):=by
 subst h;subst hj;exact .of_eq (by show _=AO.cells [.mp (σ 1),_];rw[hi];rfl)
theorem Qs:bB prog 58 [] [] (.ptr 1 0) [(0,dl .fj),(1,dl (.cells [.mp 0,.iv (.v (.slice io 0 0))]))] 2:=by
 refine an ab func58 I (by decide) ntmps58 I (by simp) ?_;refine gA I (aC [0,1] (by first|exact .inr I|exact .inl I) I (wk I I I (bi ac) ⟨⟨_,rfl,.of_eq I⟩,SY I,ac,⟨_,rfl,.of_eq I⟩,SY I,rfl,ac⟩ I))
theorem Qb(S:List ae)(j:S.Nodup)(s:ae)(u:S.length<=1000000000):bB prog 60 [.ptr 0 0,pS s] (RT S) (pI (cI .str (jL (pA S s)) s 0)) (RU (pA S s)) 4:=by
 refine an ab func60 I (by decide) ntmps60 I (by simp) ?_;refine gA I (S3 (fun g=>absurd g (by decide)) (fun g=>?_));refine gA I ?_;refine S3 (fun h=>?_) (fun h=>?_)
 .have h:cY .str (jL S) s=is:=h;have e:pA S s=S:=by rw[pA,am h]
  rw[e];refine gA I (aC [2] (by first|exact .inr I|exact .inl I) I (wk I I I (bi ac) ⟨⟨_,rfl,.of_eq I⟩,SY I,rfl,hM I I I (hR I I I ac)⟩ I))
 .have h: ¬cY .str (jL S) s=is:=by
   have g:cY .str (jL S) s=jp:=h;rw[g];simp
  have e:pA S s=S++ [s]:=by rw[pA,be h]
  have d:cI .str (jL (S++ [s])) s 0=(S.length:Int):=by rw[y0,eD,am I]
  rw[e,d];refine gA I (aC [4] (by first|exact .inr I|exact .inl I) I (wk I I I (bi ac) ⟨⟨_,rfl,Nx (by simp) I I⟩,SY I,rfl,hM I (y0 S s).symm I (hR I (by rw[Tc];rfl) I ac)⟩ I))
abbrev kT(S:List ae):IV:= .iY [wL (jL S),strs S]
theorem Qc(S:List ae):Pure prog 66 [.iv (kT S)] (pI S.length):=by
 refine ai ab func66 I (by decide) ntmps66 I (by simp) I ?_;refine gA I (bw I (dS (p:= .iv (.v (.bool jp))) (yr ab I I I I) I) ?_);rintro t rfl;refine gA I (S3 (fun g=>absurd g (by decide)) (fun g=>?_));refine gA I (aR (by first|exact .inr I|exact .inl I) I (.of_eq ?_));rfl
theorem Qx(S:List ae)(s:ae):Pure prog 70 [.iv (kT S),pS s] (.aZ [pI (cI .str (jL S) s 0),pB (cY .str (jL S) s)]):=by
 refine ai ab func70 I (by decide) ntmps70 I (by simp) I ?_;refine gA I (bw I (dS (p:= .iv (.v (.bool jp))) (yr ab I I I I) I) ?_);rintro t rfl;refine gA I (S3 (fun g=>absurd g (by decide)) (fun g=>?_));refine gA I (aR (by first|exact .inr I|exact .inl I) I (.of_eq ?_));rfl
theorem R3(S:List ae):bB prog 67 [.iv (kT S)] [] (.cJ (.func 113) [] [.ptr 0 0]) [(0,dl (.cells [.iv (kT S)]))] 1:=by
 refine an ab func67 I (by decide) ntmps67 I (by simp) ?_;refine gA I (aC [0] (by first|exact .inr I|exact .inl I) I (wk I I I (bi ac) ⟨⟨_,rfl,.of_eq I⟩,SY I,rfl,ac⟩ I))
abbrev MM(l:Nat):PV:= .iv (.v (.func (.yield l) #[] #[]))
noncomputable abbrev wrC:Code:=f30.body.getD .skip
noncomputable abbrev HG:=ya wrC
noncomputable abbrev RF:LC:=⟨HG.2.2.2.2.1,HG.2.2.2.2.2.1,HG.2.2.2.2.2.2.1,187⟩
def xE(s:ae):By:=me s.data.toList
abbrev Ry:AF:=[(14,.ptr 2 0)]
noncomputable abbrev alO(d:Nat)(S:List ae)(l:By):List AO:=[.fm d RF Ry,.cells [.iv (kT S)],.cells [.ptr 3 0],iD 4 l,nX l]
noncomputable abbrev alH(d:Nat)(l:By):AH:=[(0,dl (.fm d RF Ry)),(2,dl (.cells [.ptr 3 0])),(3,dl (iD 5 l)),(5,dl (nX l))]
theorem Cc: ∀(S:List ae),(∀s∈S,s.size<=1000)->(S.flatMap xE).length<=S.length*1100
 | [],_=>by simp
 |s::S,h=>by
  have j:=Cc S fun t d=>h t (Tl _ d);have u:=h s (Tm ..);have x:=np 10 s.data.toList.length;have y:(xE s).length=(gr 10 s.data.toList.length).length+s.data.toList.length:=by rw[xE,me,S1];rfl
  have A:s.data.toList.length=s.size:=by simp
  rw[TJ,S1,Tr,TP];omega
theorem Hu{n:Nat}(h:UW 3 n=is): ∀d,(AF.get Ry d).low n=is:=fun d=>by
 rw[AF.ax];split
 .exact h
 .rfl
theorem QH(j:Nat)(S:List ae)(l:By)(D:S.length<=1000000)(hs: ∀s∈S,s.size<=1000)(hb:l.length<=1000000):bB prog 113 [MM j,.ptr 1 0] (alO j S l) (.aZ []) (alH j (l++S.flatMap xE)) 6:=by
 refine an ab func113 I (by decide) ntmps113 I (by simp) ?_;refine gA I (bw I (dS (p:= .iv (.v (.bool jp))) (yr ab I I I I) I) ?_);rintro t rfl;refine gA I (S3 (fun g=>absurd g (by decide)) (fun g=>?_));refine gA I (uV (p:= .iv (strs S)) 9 I I I I I I (u7 ab I I I I I I I (S9 _)) ?_);refine gA I ?_;refine aJ 0 S.length (Te _) (fun i=>⟨[(0,MM j),(16,.iv (strs S)),(17,pI S.length),(18,pI i)],[(0,dl (.fm j RF Ry)),(2,dl (.cells [.ptr 3 0])),(3,dl (iD 5 (l++(S.take i).flatMap xE))),(5,dl (nX (l++(S.take i).flatMap xE)))],6⟩) (fun _=>True) [4] ac
  (wk I I I (bi (bi (bi (bi trivial)))) ⟨⟨_,rfl,.of_eq I⟩,SY I,Hu I,⟨_,rfl,.of_eq I⟩,SY I,rfl,⟨_,rfl,.of_eq (by simp;rfl)⟩,SY I,rfl,hR I (by simp) I trivial⟩ I) fun i F _=>?_
 refine gA I ?_;refine S3 (fun d=>?_) (fun d=>?_)
 .have d:i<S.length:=by simpa using d
  refine gM 12 I (Eo 3 I I I I I ?_);refine gA I ⟨rfl,0,j,RF,Ry,_,rfl,rfl,rfl,rfl,rfl,?_⟩;have y:S.getD ((i:Int)).toNat co=S.getD i co:=by rw[S7]
  have u:S.getD i co∈S:=by
   rw[S4,S5 d];exact T8 d
  have x:l++(S.take (i+1)).flatMap xE=l++(S.take i).flatMap xE++xE (S.getD i co):=by
   rw[bb d,UI,Tb];simp
  have B:(l++(S.take i).flatMap xE).length<=1000000+1000000*1100:=by
   have:=Cc (S.take i) fun s A=>hs s (Us A);rw[S1];have C:(S.take i).length<=1000000:=by rw[TA];omega
   have:((S.take i).flatMap xE).length<=1000000*1100:=TQ this (Tq _ C);omega
  rw[y];refine show RN _ _ (.region _ _ jp) _ _ from wy I ?_
  refine gA I ⟨rfl,?_⟩;refine show RN _ _ (.block _ (.region _ _ jp)) _ _ from FH (wy I ?_)
  refine gA I (aE [3,5] (Qa (l++(S.take i).flatMap xE) (S.getD i co) (TQ (hs _ u) (by omega)) (by omega)) I I I I I (by simp only[Tg,Tx,Tu,TD,bY,cO];rfl) I I ?_);refine gA I ⟨rfl,_,rfl,?_⟩;refine gA I ⟨rfl,?_⟩;refine gA I ⟨d,ac,[6],wk I I I (bi (bi (bi (bi ac)))) ⟨⟨_,rfl,.of_eq I⟩,SY I,Hu I,⟨_,rfl,.of_eq I⟩,SY I,rfl,⟨_,rfl,.of_eq (by rw[x];rfl)⟩,SY I,rfl,hR I (by rw[x];exact bR _ _) I ac⟩ I⟩
 .have d:S.length<=i:=by simpa using d
  rw[Tf d];refine gA I (aC [5] (by first|exact .inr I|exact .inl I) I (wk I I I (bi ac) ⟨⟨_,rfl,.of_eq I⟩,SY I,Hu I,⟨_,rfl,.of_eq I⟩,SY I,rfl,⟨_,rfl,.of_eq I⟩,SY I,rfl,hR I (by first|rfl|exact bR _ _) I ac⟩ I))
end Go.Proofs.YtbhphmfbligliaaGreatDoor
namespace Go.Proofs.YtbhphmfbligliaaGreatDoor
open Go Go.Al Go.Proofs.Tryz
theorem iy{α:Type}[Inhabited α](l:List α)(f:α->List IV):((TX l.length).map fun k=>(f (l.getD k co)).map PV.iv)=l.map fun x=>(f x).map PV.iv:=by
 refine List.ext_getElem (by simp) fun i j d=>?_;simp only[TB]at d;simp[S5 d]
theorem JC(l:List Int)(hb:l.length<=10000000000):Pure prog 101 [.iv (bz 1 l eI)] (.iv (bz 1 l eI)):=by
 refine ai ab func101 I (by decide) ntmps101 I (by simp) I ?_;refine ik I ac (lx I I I I underlying58 I fun b j=>?_);refine gA I ?_;refine S3 (fun u=>?_) (fun u=>?_)
 .have d:l=[]:=TN (j u);subst d;refine gA I (aR (by first|exact .inr I|exact .inl I) I ?_);exact .nil _ _
 refine ik I ac (nP ab I I I I I I I fun y=>?_);by_cases d:l=[]
 .subst d;refine ik I ac (qy ab I I I I I I I I (el2:=fun k=>eI (([]:List Int).getD k co)) I ?_);refine gA I (aR (by first|exact .inr I|exact .inl I) I ?_);exact .refl _
 .have x:0<l.length:=Ui.2 d;refine ik I ac (nQ ab I I I I I I I I (by decide) I (kr I) (by simp;omega) (by show((TX l.length).map _).length*8<=_;simp;omega) (by simp;omega) I ?_);refine gA I (en (by first|exact .inr I|exact .inl I) I I ((iy l eI)) ((by simp)))
theorem Cs(l:List Term)(hb:l.length<=10000000000):Pure prog 102 [.iv (bz 5 l Term.c)] (.iv (bz 5 l Term.c)):=by
 refine ai ab func102 I (by decide) ntmps102 I (by simp) I ?_;refine ik I ac (lx I I I I underlying100 I fun b j=>?_);refine gA I ?_;refine S3 (fun u=>?_) (fun u=>?_)
 .have d:l=[]:=TN (j u);subst d;refine gA I (aR (by first|exact .inr I|exact .inl I) I ?_);exact .nil _ _
 refine ik I ac (nP ab I I I I I I I fun y=>?_);by_cases d:l=[]
 .subst d;refine ik I ac (qy ab I I I I I I I I (el2:=fun k=>Term.c (([]:List Term).getD k co)) I ?_);refine gA I (aR (by first|exact .inr I|exact .inl I) I ?_);exact .refl _
 .have x:0<l.length:=Ui.2 d;refine ik I ac (nQ ab I I I I I I I I (by decide) I (kr I) (by simp;omega) (by show((TX l.length).map _).length*56<=_;simp;omega) (by simp;omega) I ?_);refine gA I (en (by first|exact .inr I|exact .inl I) I I ((iy l Term.c)) ((by simp)))
theorem JB(l:List Lit)(hb:l.length<=10000000000):Pure prog 150 [.iv (bz 30 l Lit.c)] (.iv (bz 30 l Lit.c)):=by
 refine ai ab func150 I (by decide) ntmps150 I (by simp) I ?_;refine ik I ac (lx I I I I underlying103 I fun b j=>?_);refine gA I ?_;refine S3 (fun u=>?_) (fun u=>?_)
 .have d:l=[]:=TN (j u);subst d;refine gA I (aR (by first|exact .inr I|exact .inl I) I ?_);exact .nil _ _
 refine ik I ac (nP ab I I I I I I I fun y=>?_);by_cases d:l=[]
 .subst d;refine ik I ac (qy ab I I I I I I I I (el2:=fun k=>Lit.c (([]:List Lit).getD k co)) I ?_);refine gA I (aR (by first|exact .inr I|exact .inl I) I ?_);exact .refl _
 .have x:0<l.length:=Ui.2 d;refine ik I ac (nQ ab I I I I I I I I (by decide) I (kr I) (by simp;omega) (by show((TX l.length).map _).length*384<=_;simp;omega) (by simp;omega) I ?_);refine gA I (en (by first|exact .inr I|exact .inl I) I I ((iy l Lit.c)) ((by simp)))
theorem FA(l:List Lit)(hb:l.length<=10000000000)(h0:l≠ []):bB prog 150 [.iv (bz 30 l Lit.c)] [] (.sl 0 0 l.length 30) [(0,dl (aY 30 l Lit.c))] 1:=by
 have u:0<l.length:=Ui.2 h0;refine an ab func150 I (by decide) ntmps150 I (by simp) ?_;refine ik I ac (lx I I I I underlying103 I fun b d=>?_);refine gA I ?_;refine S3 (fun j=>?_) (fun j=>?_)
 .exact absurd (d j) (by omega)
 refine ik I ac (nP ab I I I I I I I fun x=>?_);refine ik I ac (nQ ab I I I I I I I I (by decide) I (kr I) (by simp;omega) (by show((TX l.length).map _).length*384<=_;simp;omega) (by simp;omega) I ?_);refine gA I (aC [1] (by first|exact .inr I|exact .inl I) I (wk I I I ⟨.row (by simp),rfl,ac⟩ (hR I (iy l Lit.c) I ac) I))
theorem JD(l:List Expr)(hb:l.length<=10000000000):Pure prog 186 [.iv (bz 7 l Expr.c)] (.iv (bz 7 l Expr.c)):=by
 refine ai ab func186 I (by decide) ntmps186 I (by simp) I ?_;refine ik I ac (lx I I I I underlying199 I fun b j=>?_);refine gA I ?_;refine S3 (fun u=>?_) (fun u=>?_)
 .have d:l=[]:=TN (j u);subst d;refine gA I (aR (by first|exact .inr I|exact .inl I) I ?_);exact .nil _ _
 refine ik I ac (nP ab I I I I I I I fun y=>?_);by_cases d:l=[]
 .subst d;refine ik I ac (qy ab I I I I I I I I (el2:=fun k=>Expr.c (([]:List Expr).getD k co)) I ?_);refine gA I (aR (by first|exact .inr I|exact .inl I) I ?_);exact .refl _
 .have x:0<l.length:=Ui.2 d;refine ik I ac (nQ ab I I I I I I I I (by decide) I (kr I) (by simp;omega) (by show((TX l.length).map _).length*88<=_;simp;omega) (by simp;omega) I ?_);refine gA I (en (by first|exact .inr I|exact .inl I) I I ((iy l Expr.c)) ((by simp)))
theorem FB(l:List Expr)(hb:l.length<=10000000000)(h0:l≠ []):bB prog 186 [.iv (bz 7 l Expr.c)] [] (.sl 0 0 l.length 7) [(0,dl (aY 7 l Expr.c))] 1:=by
 have u:0<l.length:=Ui.2 h0;refine an ab func186 I (by decide) ntmps186 I (by simp) ?_;refine ik I ac (lx I I I I underlying199 I fun b d=>?_);refine gA I ?_;refine S3 (fun j=>?_) (fun j=>?_)
 .exact absurd (d j) (by omega)
 refine ik I ac (nP ab I I I I I I I fun x=>?_);refine ik I ac (nQ ab I I I I I I I I (by decide) I (kr I) (by simp;omega) (by show((TX l.length).map _).length*88<=_;simp;omega) (by simp;omega) I ?_);refine gA I (aC [1] (by first|exact .inr I|exact .inl I) I (wk I I I ⟨.row (by simp),rfl,ac⟩ (hR I (iy l Expr.c) I ac) I))
theorem FE{α:Type}[Inhabited α]{l:List α}{g:α->List PV}{i:Nat}(hi:i<l.length):(l.map g).set (0+i) (g (l.getD i co))=l.map g:=by
 refine Vj fun j=>?_;rw[Tp,UJ];split
 .rename_i e;subst e;rw[am (by simpa using hi),S6,S4,S5 hi];rfl
 .rfl
theorem Oc{α:Type}[Inhabited α]{l:List α}{g:α->List PV}{i:Nat}(hi:i<l.length):(l.map g)[0+i]? =dl (g (l.getD i co)):=by
 rw[Tp,S6,S4,S5 hi];rfl
theorem Mt: ∀(n:Nat) (e:Expr),e.size<=n->e.size<=1000000000->Pure prog 151 [ag e.c] (ag e.c)
 |0,e,h,_=>absurd e.size_pos (by omega)
 |n+1,e,h,hb=>by
  have B:=e.size_eq;have A:=Expr.aA e.args;refine Al.Pure.le (aa:=[ag e.c]) (args:=[ag e.c1]) ?_ ⟨e.CO,ac⟩;by_cases u:e.args=[]
  .refine ai ab func151 I (by decide) ntmps151 I (by simp) I ?_;refine gA I (aG (JD e.args (by omega)) I I I I I I ?_);refine gA I (yw (n:=0) ?_);refine gA I ?_;refine S3 (fun y=>?_) (fun y=>?_)
   .exact absurd y (by simp[u])
   refine gA I (aR (by first|exact .inr I|exact .inl I) I ?_);exact e.BA
  refine ai ab func151 I (by decide) ntmps151 I (by simp) I ?_;refine gA I (aE [] (FB e.args (by omega) u) I I I I I I I I ?_);refine gA I ?_;refine aJ 0 e.args.length (Te _) (fun i=>⟨[(1,.ptr 0 0),(2,.ptr 1 0),(10,pI e.args.length),(11,pI i)],[(0,dl (.cells [.iv (iI e.kind),.iv (iS e.var),.iv (iI e.val.kind),.iv (iI e.val.num),.iv (iS e.val.sym),.iv (iI e.op),.sl 2 0 e.args.length 7])),(1,dl (.cells [pI 0,pS Ta,pI 0,pI 0,pS Ta,pI 0,.iv (.v (.slice io 0 0))])),(2,dl (aY 7 e.args Expr.c))],3⟩) (fun _=>True) [] ac
   (wk I I I (bi (bi (bi (bi trivial)))) ⟨⟨_,rfl,.of_eq I⟩,SY I,rfl,⟨⟨_,rfl,.of_eq I⟩,SY I,rfl,hR I (by rw[UN];exact Ux fun x _=>nN _ _) I trivial⟩⟩ I) fun i D _=>?_
  refine gA I ?_;refine S3 (fun d=>?_) (fun d=>?_)
  .have d:i<e.args.length:=by simpa using d
   have C:=Expr.b6 e.args i d;have j:=Oc (g:=fun x=>(Expr.c x).map PV.iv) d;refine gM 16 I (uV (p:=ag (e.args.getD i co).c) 7 I I I I I I (iV ab I I I I j I) ?_);refine gA I (ck ab [] (Pure.BS (Mt n (e.args.getD i co) (by omega) (by omega))) I I I I I I I I I I I I (by(repeat' (first|exact ac|exact rfl|exact ak.refl _|exact ak.bk (by assumption)|apply S3))<;>first|omega|(simp only[S7];omega)|(simp;done)|(simp;omega)) I (by(repeat' (first|exact ac|exact rfl|exact ak.refl _|exact ak.bk (by assumption)|apply S3))<;>first|omega|(simp only[S7];omega)|(simp;done)|(simp;omega)) ?_);refine gA I (l9 ab I I I I I (by first|trivial|(repeat' apply S3)<;>trivial) (A6 ab I I (i:=2) (sz:=7) (q:=0+i) I I I I (by simp;omega) I I I) I (by first|trivial|(repeat' apply S3)<;>trivial) ?_);refine gA I ⟨d,ac,[],wk I I I (bi (bi (bi (bi ac)))) ⟨⟨_,rfl,.of_eq I⟩,SY I,rfl,⟨⟨_,rfl,.of_eq I⟩,SY I,rfl,hR I (FE (g:=fun x=>(Expr.c x).map PV.iv) d) I ac⟩⟩ I⟩
  .have d:e.args.length<=i:=by simpa using d
   refine gA I (iJ (.inr I) I (fw.gC 2 e.args Expr.c I I (by simp[PV.bg,bf]) (.done ?_)));have:ak (ag e.c1) (ag e.c):=e.BA;simp only[PV.ej,qC,Tp];exact this
theorem Bc(e:Expr)(hb:e.size<=1000000000):Pure prog 151 [ag e.c] (ag e.c):=Mt e.size e (S9 _) hb
mutual
def Lit.bare:Lit->Lit
 | .mk k a op l r f v o b _=> .mk k a op l r f v o (Lit.ig b) ⟨0,0⟩
def Lit.ig:List Lit->List Lit
 | []=> []
 |x::r=>x.bare::Lit.ig r
end
def Lit.SO(l:Lit):Lit:= .mk l.kind l.atom l.op l.left l.right l.dP l.bH l.j7 l.ay ⟨0,0⟩
theorem Lit.KL(l:Lit):l.bare= .mk l.kind l.atom l.op l.left l.right l.dP l.bH l.j7 (Lit.ig l.ay) ⟨0,0⟩:=by cases l;rw[Lit.bare];rfl
theorem Lit.n3: ∀l:List Lit,Lit.ig l=l.map Lit.bare
 | []=>rfl
 |x::r=>by rw[Lit.ig,Lit.n3 r];rfl
def aq.bare(r:aq):aq:=⟨r.head,Lit.ig r.body,⟨0,0⟩⟩
def Decl.bare(d:Decl):Decl:=⟨d.name,d.types,⟨0,0⟩⟩
def Prog.bare(p:Prog):Prog:=⟨p.aw.map Decl.bare,p.rules.map aq.bare⟩
def gC(l:List Lit)(i:Nat):List Lit:=(l.take i).map Lit.bare++l.drop i
abbrev cL(x:Lit):List PV:=(Lit.c x).map PV.iv
theorem Od(l:List Lit):gC l 0=l:=by simp[gC]
theorem FF{l:List Lit}{i:Nat}(h:l.length<=i):gC l i=Lit.ig l:=by
 rw[gC,Tf h,List.drop_eq_nil_of_le h,TC,Lit.n3]
theorem JG{l:List Lit}{i:Nat}(h:i<l.length):((gC l i).map cL)[0+i]? =dl (cL (l.getD i co)):=by
 rw[Tp,S6,gC,Ti (by simp;omega)];simp only[TB,TA,Uc];rw[show i+(i-min i l.length)=i by omega,S5 h,S4,S5 h];rfl
theorem NJ{es:List (List PV)}{i:Nat}{r r2:List PV}(h:es[0+i]? =dl r):(es.set (0+i) r2)[0+i]? =dl r2:=by
 rw[UJ,am I,am (S2.1 h).1]
theorem DS{l:List Lit}{i:Nat}(h:i<l.length)(r:List PV):(((gC l i).map cL).set (0+i) r).set (0+i) (cL (l.getD i co).bare)=(gC l (i+1)).map cL:=by
 rw[List.set_set,Tp];have d:gC l i=(l.take i).map Lit.bare++(l.getD i co::l.drop (i+1)):=by
  rw[gC,S4,S5 h];show _++l.drop i=_++(l[i]::_)
  rw[Vc h]
 have j:gC l (i+1)=(l.take i).map Lit.bare++((l.getD i co).bare::l.drop (i+1)):=by
  rw[gC,bb h,Tc,Tb];rfl
 rw[d,j,Tc,Tc,List.set_append_right _ _ (by simp;omega)];simp only[TB,TA,Tg];rw[show i-min i l.length=0 by omega];rfl
theorem Fx{y:IV}(u:jC (lits []) y):Pure prog 103 [.iv (lits [])] (.iv y):=by
 refine ai ab func103 I (by decide) ntmps103 I (by simp) I ?_;refine gA I (aG (JB [] (by simp)) I I I I I I ?_);refine gA I (yw (n:=0) ?_);refine gA I ?_;refine S3 (fun d=>?_) (fun d=>?_)
 .exact absurd d (by simp)
 refine gA I (aR (by first|exact .inr I|exact .inl I) I ?_);exact .iv (fun M x j=>u M x j)
set_option maxHeartbeats 2000000 in
theorem Qt: ∀(n:Nat) (l:List Lit) (y:IV),Lit.au l<=n->Lit.au l<=1000000000->jC (lits (Lit.ig l)) y->Pure prog 103 [.iv (lits l)] (.iv y):=by
 intro n
 induction n with
 |zero=>
  intro l y h hb D;have G:=Lit.aA l;have C:l=[]:=Uh.1 (by omega);subst C;exact Fx D
 |succ n ih=>
  intro l y h hb D;have G:=Lit.aA l;by_cases F:l=[]
  .subst F;exact Fx D
  refine ai ab func103 I (by decide) ntmps103 I (by simp) I ?_;refine gA I (aE [] (FA l (by omega) F) I I I I I I I I ?_);refine gA I ?_;refine aJ 0 l.length (Te _) (fun i=>⟨[(0,.iv (lits l)),(3,.sl 0 0 l.length 30),(9,pI l.length),(10,pI i)],[(0,dl (.row 30 ((gC l i).map cL)))],1⟩) (fun _=>True) [] ac
   (wk I I I (bi (bi (bi (bi trivial)))) (hR (l:=gC l 0) I (by rw[Od,UN];exact Ux fun x _=>nN _ _) I trivial) I) fun i Z _=>?_
  refine gA I ?_;refine S3 (fun u=>?_) (fun u=>?_)
  .have u:i<l.length:=by simpa using u
   have Y:=Lit.b6 l i u;have J:=(l.getD i co).size_eq;have d:=JG u;have j:=DS u (cL (l.getD i co).SO);generalize(gC l i).map cL=es at d j ⊢;generalize B:(gC l (i+1)).map cL=es2 at j;generalize A:es.set (0+i) (cL (l.getD i co).SO)=es1 at j;refine gA I (uT ab es1 I I I I I I d I I (by decide) I A ?_);have d:=NJ (r2:=cL (l.getD i co).SO) d;rw[A]at d;refine gM 8 I (l4 ab I I I I I (d) I I ?_);refine gA I (aG (Cs (l.getD i co).atom.aj (by omega)) I I I I I I ?_);refine gA I (yx ab I I I I (i:=0) (q:=0+i) (off:=2) I I d I I (by decide) I I ?_);refine gM 9 I (uV (p:=ag (l.getD i co).left.c) 6 I I I I I I (iV ab I I I I d I) ?_);refine gM 3 I (uV (p:=ag (l.getD i co).right.c) 11 I I I I I I (iV ab I I I I d I) ?_);refine gM 4 I (uV (p:=ag (l.getD i co).j7.c) 17 I I I I I I (iV ab I I I I d I) ?_);refine gA I (Au ab [11,17] [] (Pure.BS (Bc (l.getD i co).left (by omega))) I I I I I I I I I I I I (by(repeat' (first|exact ac|exact rfl|exact ak.refl _|exact ak.bk (by assumption)|apply S3))<;>first|omega|(simp only[S7];omega)|(simp;done)|(simp;omega)) I (by(repeat' (first|exact ac|exact rfl|exact ak.refl _|exact ak.bk (by assumption)|apply S3))<;>first|omega|(simp only[S7];omega)|(simp;done)|(simp;omega)) ⟨vv ab I I I I I I I d I (.refl _),⟨vv ab I I I I I I I d I (.refl _),ac⟩⟩ ?_);refine gA I (Au ab [17] [] (Pure.BS (Bc (l.getD i co).right (by omega))) I I I I I I I I I I I I (by(repeat' (first|exact ac|exact rfl|exact ak.refl _|exact ak.bk (by assumption)|apply S3))<;>first|omega|(simp only[S7];omega)|(simp;done)|(simp;omega)) I (by(repeat' (first|exact ac|exact rfl|exact ak.refl _|exact ak.bk (by assumption)|apply S3))<;>first|omega|(simp only[S7];omega)|(simp;done)|(simp;omega)) ⟨vv ab I I I I I I I d I (.refl _),ac⟩ ?_);refine gA I (ck ab [] (Pure.BS (Bc (l.getD i co).j7 (by omega))) I I I I I I I I I I I I (by(repeat' (first|exact ac|exact rfl|exact ak.refl _|exact ak.bk (by assumption)|apply S3))<;>first|omega|(simp only[S7];omega)|(simp;done)|(simp;omega)) I (by(repeat' (first|exact ac|exact rfl|exact ak.refl _|exact ak.bk (by assumption)|apply S3))<;>first|omega|(simp only[S7];omega)|(simp;done)|(simp;omega)) ?_);refine gA I (l9 ab I I I I I (by(repeat' (first|exact ac|exact rfl|exact ak.refl _|exact ak.bk (by assumption)|apply S3))<;>first|omega|(simp only[S7];omega)|(simp;done)|(simp;omega)) (lK ab I I I (i:=0) (q:=0+i) (off:=4) I I d I I (by decide) I I) I (by(repeat' (first|exact ac|exact rfl|exact ak.refl _|exact ak.bk (by assumption)|apply S3))<;>first|omega|(simp only[S7];omega)|(simp;done)|(simp;omega)) ?_);refine gA I (l9 ab I I I I I (by(repeat' (first|exact ac|exact rfl|exact ak.refl _|exact ak.bk (by assumption)|apply S3))<;>first|omega|(simp only[S7];omega)|(simp;done)|(simp;omega)) (lK ab I I I (i:=0) (q:=0+i) (off:=11) I I d I I (by decide) I I) I (by(repeat' (first|exact ac|exact rfl|exact ak.refl _|exact ak.bk (by assumption)|apply S3))<;>first|omega|(simp only[S7];omega)|(simp;done)|(simp;omega)) ?_);refine gA I (l9 ab I I I I I (by(repeat' (first|exact ac|exact rfl|exact ak.refl _|exact ak.bk (by assumption)|apply S3))<;>first|omega|(simp only[S7];omega)|(simp;done)|(simp;omega)) (lK ab I I I (i:=0) (q:=0+i) (off:=20) I I d I I (by decide) I I) I (by(repeat' (first|exact ac|exact rfl|exact ak.refl _|exact ak.bk (by assumption)|apply S3))<;>first|omega|(simp only[S7];omega)|(simp;done)|(simp;omega)) ?_);refine gM 7 I (l4 ab I I I I I (d) I I ?_);refine gA I (aG (Al.Pure.le (aa:=[.iv (vj (l.getD i co).ay)]) (ih (l.getD i co).ay (vj (Lit.ig (l.getD i co).ay)) (by omega) (by omega) (Bv _)) ⟨.iv (mW _),ac⟩) I I I I I I ?_);refine gA I (uT ab es2 I I I I I I d I I (by decide) I (by rw[<-j,Lit.KL];rfl) ?_);refine gA I ?_;subst B;exact⟨u,ac,[],wk I I I (bi (bi (bi (bi ac)))) (hR (l:=gC l (i+1)) I I I ac) I⟩
  .have u:l.length<=i:=by simpa using u
   rw[FF u];refine gA I (iJ (r0:= .sl 0 0 l.length 30) (.inr I) I (fw.gC 0 (Lit.ig l) Lit.c I I (by simp[PV.bg,bf,Lit.n3]) (.done ?_)));have e:(Lit.ig l).length=l.length:=by rw[Lit.n3,TB]
   have:ak (.iv (.bW 30 l.length fun k=>Lit.c ((Lit.ig l).getD k co))) (.iv y):=by rw[<-e];exact .iv D
   simp only[PV.ej,qC,Tp];exact this
theorem NZ(l:List Lit)(hb:Lit.au l<=1000000000):Pure prog 103 [.iv (lits l)] (.iv (lits (Lit.ig l))):=Qt _ l _ (S9 _) hb (fun _ _ h=>h)
end Go.Proofs.YtbhphmfbligliaaGreatDoor
namespace Go.Proofs.YtbhphmfbligliaaGreatDoor
open Go Go.Al
theorem QC(p:Prog)(hb:p.size<=1000000000):Pure Tryz.prog 46 [ag p.c] (ag p.bare.c):=by
 unfold Prog.size at hb;refine ai ab Tryz.func46 I (by decide) Tryz.ntmps46 I (by simp) I ?_;refine gM 9 I ?_;refine fb 2 0 4 I I ?_;refine fb 2 1 5 I I ?_;refine gA I ?_;refine aJ 0 p.aw.length (Te _) (fun i=>⟨[(1,.ptr 0 0),(2,.ptr 1 0),(3,.ptr 2 0),(9,.iv (bz 4 p.aw Decl.c)),(10,pI p.aw.length),(11,pI i)],[(0,dl (aD p.c)),(1,dl (.cells [.iv (.v (.slice io 0 0)),.iv (.v (.slice io 0 0))])),(2,dl (.cells [.sl 5 0 i 4,.sl 4 0 0 5])),(4,dl (aY 5 ([]:List aq) aq.c)),(5,dl (aY 4 ((p.aw.take i).map Decl.bare) Decl.c))],6⟩) (fun _=>True) [3] ac
  (wk I I I (bi (bi (bi (bi (bi (bi trivial)))))) (hC I I I ⟨⟨_,rfl,.of_eq I⟩,SY I,rfl,⟨_,rfl,.of_eq I⟩,SY I,rfl,hR I I I (hR I I I trivial)⟩) I) fun i C _=>?_
 refine gA I ?_;refine S3 (fun j=>?_) (fun j=>?_)
 .have j:i<p.aw.length:=by simpa using j
  have A:((p.aw.take i).map Decl.bare).length=i:=by rw[TB,TA];omega
  have y:=bb (l:=p.aw) j;have B:=kq (fun d:Decl=>d.types.length) p.aw i j;refine gA I (ck ab [] (Pure.BS (JC (p.aw.getD i co).types (by omega))) I I I I I I I I I I I I (by(repeat' (first|exact ac|exact rfl|exact ak.refl _|exact ak.bk (by assumption)|apply S3))<;>first|omega|(simp only[S7];omega)|(simp;done)|(simp;omega)) I (by(repeat' (first|exact ac|exact rfl|exact ak.refl _|exact ak.bk (by assumption)|apply S3))<;>first|omega|(simp only[S7];omega)|(simp;done)|(simp;omega)) ?_);refine gA I ⟨j,ac,[8],wk I I I (bi (bi (bi (bi (bi (bi ac)))))) (hC I I I ⟨⟨_,rfl,.of_eq I⟩,SY I,rfl,⟨⟨_,rfl,.of_eq I⟩,SY I,rfl,hR I I I (hR I (by rw[y,Tc,Tc];rfl) I ac)⟩⟩) I⟩
 .have j:p.aw.length<=i:=by simpa using j
  have x:i=p.aw.length:=by omega
  subst x;rw[Tf (S9 _)];refine gA I ?_;refine aJ 0 p.rules.length (Te _) (fun i=>⟨[(1,.ptr 0 0),(2,.ptr 1 0),(3,.ptr 2 0),(28,.iv (bz 5 p.rules aq.c)),(29,pI p.rules.length),(30,pI i)],[(0,dl (aD p.c)),(1,dl (.cells [.iv (.v (.slice io 0 0)),.iv (.v (.slice io 0 0))])),(2,dl (.cells [.sl 5 0 p.aw.length 4,.sl 6 0 i 5])),(5,dl (aY 4 (p.aw.map Decl.bare) Decl.c)),(6,dl (aY 5 ((p.rules.take i).map aq.bare) aq.c))],7⟩) (fun _=>True) [4] ac
   (wk I I I (bi (bi (bi (bi (bi (bi trivial)))))) (hC I I I ⟨⟨_,rfl,.of_eq I⟩,SY I,rfl,⟨⟨_,rfl,.of_eq I⟩,SY I,rfl,hR I I I (hR I I I trivial)⟩⟩) I) fun i C _=>?_
  refine gA I ?_;refine S3 (fun u=>?_) (fun u=>?_)
  .have u:i<p.rules.length:=by simpa using u
   have A:((p.rules.take i).map aq.bare).length=i:=by rw[TB,TA];omega
   have y:=bb (l:=p.rules) u;have B:=kq aq.size p.rules i u;have D:(p.rules.getD i co).size=(p.rules.getD i co).head.aj.length+Lit.au (p.rules.getD i co).body:=rfl;refine gA I (ck ab [] (Pure.BS (Cs (p.rules.getD i co).head.aj (by omega))) I I I I I I I I I I I I (by(repeat' (first|exact ac|exact rfl|exact ak.refl _|exact ak.bk (by assumption)|apply S3))<;>first|omega|(simp only[S7];omega)|(simp;done)|(simp;omega)) I (by(repeat' (first|exact ac|exact rfl|exact ak.refl _|exact ak.bk (by assumption)|apply S3))<;>first|omega|(simp only[S7];omega)|(simp;done)|(simp;omega)) ?_);refine gA I (ck ab [] (Pure.BS (NZ (p.rules.getD i co).body (by omega))) I I I I I I I I I I I I (by(repeat' (first|exact ac|exact rfl|exact ak.refl _|exact ak.bk (by assumption)|apply S3))<;>first|omega|(simp only[S7];omega)|(simp;done)|(simp;omega)) I (by(repeat' (first|exact ac|exact rfl|exact ak.refl _|exact ak.bk (by assumption)|apply S3))<;>first|omega|(simp only[S7];omega)|(simp;done)|(simp;omega)) ?_);refine gA I ⟨u,ac,[9],wk I I I (bi (bi (bi (bi (bi (bi ac)))))) (hC I I I ⟨⟨_,rfl,.of_eq I⟩,SY I,rfl,⟨⟨_,rfl,.of_eq I⟩,SY I,rfl,hR I I I (hR I (by rw[y,Tc,Tc];rfl) I ac)⟩⟩) I⟩
  .have u:p.rules.length<=i:=by simpa using u
   have x:i=p.rules.length:=by omega
   subst x;rw[Tf (S9 _)];refine gA I (iJ (r0:= .agg [.sl 5 0 p.aw.length 4,.sl 6 0 p.rules.length 5]) (.inr I) I (fw.gC 5 (p.aw.map Decl.bare) Decl.c I I (by simp[PV.bg,bf]) (fw.gC 6 (p.rules.map aq.bare) aq.c I I (by simp[PV.bg,bf,PV.ej,qC,show Tw 6 5=jp from rfl]) (.done (.of_eq (by simp only[PV.ej,qC,Tp,show Tw 6 5=jp from rfl,show Tw 5 5=is from rfl,show Tw 6 6=is from rfl,cond_true,cond_false];show _=PV.agg [PV.iv (.bW 4 (p.aw.map Decl.bare).length fun k=>((List.map Decl.bare p.aw).getD k co).c),PV.iv (.bW 5 (p.rules.map aq.bare).length fun k=>((List.map aq.bare p.rules).getD k co).c)];rw[TB,TB]))))))
theorem sd{b:List Lit}{i:Nat}(h:i<b.length):gG (b.take (i+1))=gG (b.take i)++named (b.getD i co):=by
 rw[mQ,mQ,bb h,UI];simp
mutual
theorem lh: ∀l:Lit,(named l).length<=l.size
 | .mk k a op le ri af av ao b at_=>by
  have:=o7 b;unfold named Lit.size;split
  .simp;omega
  .split
   .omega
   .simp
theorem o7: ∀l:List Lit,(gG l).length<=Lit.au l
 | []=>S9 _
 |l::r=>by
  have d:=lh l;have j:=o7 r;simp only[gG,Lit.au,S1];omega
end
theorem Ec(b:List Lit)(i:Nat):(gG (b.take i)).length<=Lit.au b:=by
 have d:=o7 (b.take i);have j: ∀(b:List Lit) (i:Nat),Lit.au (b.take i)<=Lit.au b:=by
  intro b
  induction b with
  |nil=>intro i;simp[Lit.au]
  |cons x r ih=>
   intro i;cases i with
   |zero=>simp[Lit.au]
   |succ i=>have:=ih i;simp only[Un,Lit.au];omega
 exact TQ d (j b i)
def Pa(n:Nat):Prop:= ∀l:Lit,l.size<=n->Pure Tryz.prog 135 [ag l.c] (.iv (strs (named l)))
theorem qn(l:Lit):named l=if l.kind=1∨l.kind=2 then[l.atom.rel] else if l.kind=4 then gG l.ay else[]:=by cases l;rfl
theorem Fv: ∀n:Nat,n<=100000000000->Pa n
 |0,_=>fun l h=>absurd l.size_pos (by omega)
 |n+1,hn=>fun l h=>by
  have D:=l.size_eq;refine Al.Pure.le (aa:=[ag l.c]) (args:=[ag l.c1]) ?_ ⟨l.CO,ac⟩;refine ai ab Tryz.func135 I (by decide) Tryz.ntmps135 I (by simp) I ?_;refine zJ I I (fun j=>?_) fun j=>?_
  .have j:l.kind=1:=by simpa using j
   rw[qn,am (.inl j)];refine gA I (en (by first|exact .inr I|exact .inl I) I I (rfl) (rfl))
  have j: ¬l.kind=1:=by simpa using j
  refine zJ I I (fun u=>?_) fun u=>?_
  .have u:l.kind=2:=by simpa using u
   rw[qn,am (.inr u)];refine gA I (en (by first|exact .inr I|exact .inl I) I I (rfl) (rfl))
  have u: ¬l.kind=2:=by simpa using u
  rw[qn,be (by rintro(g|g);exact j g;exact u g)];refine zE I I (fun x=>?_) fun x=>?_
  .have x: ¬l.kind=4:=by simpa using x
   rw[be x];refine gA I (zL ?_);exact .nil _ _
  have x:l.kind=4:=by simpa using x
  rw[am x];refine gA I ?_;refine kE 3 1 I ?_;refine aJ 0 l.ay.length (Te _) (fun i=>⟨[(3,.sl 2 0 (gG (l.ay.take i)).length 1),(19,.iv (lits l.ay)),(20,pI l.ay.length),(21,pI i)],[(2,dl (aY 1 (gG (l.ay.take i)) cA))],3⟩) (fun _=>True) [1] ac
   (zW (zS trivial)) fun i F _=>?_
  have A:=Ec l.ay i;have y:=Lit.aA l.ay;refine zJ I I (fun d=>?_) fun d=>?_
  .have d:i<l.ay.length:=by simpa using d
   have B:=Lit.b6 l.ay i d;have C:=lh (l.ay.getD i co);refine gA I (zp (Fv n (by omega) (l.ay.getD i co) (by omega)) ?_);refine gA I ⟨d,ac,[4],zM ⟨.row (by rw[sd d,S1]),rfl,bi (bi (bi ac))⟩ (hR I (by rw[xM,sd d,Tc]) I ac)⟩
  .have d:l.ay.length<=i:=by simpa using d
   rw[Tf d];refine gA I (en (by first|exact .inr I|exact .inl I) I I (rfl) (rfl))
theorem Cr(l:Lit)(h:l.size<=100000000000):Pure Tryz.prog 135 [ag l.c] (.iv (strs (named l))):=Fv l.size h l (S9 _)
end Go.Proofs.YtbhphmfbligliaaGreatDoor
namespace Go.Proofs.YtbhphmfbligliaaGreatDoor
open Go Go.Al Go.Proofs.Tryz
section
theorem Mn(u:dA)(el:Nat->List IV):Pure prog 173 [.iv (.bW 1 0 el)] (.aZ []):=by
 refine⟨bP func173 I (by decide),fun M N w vs x d y=>?_⟩;obtain⟨v,rfl⟩: ∃v,vs=[v]:=by
  cases vs with
  |nil=>cases d
  |cons v r=>cases r with
   |nil=>exact⟨v,rfl⟩
   |cons a b=>simp at d
 have j:=y 0 _ I;simp only[List.getD_cons_zero]at j;obtain⟨a,a0,rfl⟩: ∃a a0,v= .slice a 0 a0:=by
  cases j with
  |iv _ _ h=>cases h with
   |fI _ _ a a0=>exact⟨a,a0,rfl⟩
   |bW _ _ _ b off a0=>exact⟨_,a0,rfl⟩
 refine(u.2 a a0 w).mono ?_;rintro e A ⟨rfl,rfl⟩;exact⟨_,M,N,.aZ [],_,_,rfl,⟨rfl,rfl,rfl⟩,.refl _ _ _ _ _,x,.aZ [] #[] I (by simp)⟩
section
variable {V:Type}
def CV(m:List ((KC.str).K×V))(vs:List Nat):List ae:=gH (m.map fun x=>(x.1,0)) vs
theorem Am(m:List ((KC.str).K×V))(vs:List Nat)(j:Nat)(x:(KC.str).K×V)(h:m[j]? =dl x):CV m (j::vs)=CV m vs++ [x.1]:=
 kD _ _ _ (x.1,0) (by rw[S6,h];rfl)
theorem CU(m:List ((KC.str).K×V))(vs:List Nat)(hn:vs.Nodup)(hb: ∀j∈vs,j<m.length)(d: ∀j,j<m.length->j∈vs):(CV m vs).Perm (m.map (·.1)):=by
 have:=jQ (m.map fun x=>(x.1,(0:Int))) vs hn (by simpa using hb) (by simpa using d);rw[UN]at this;exact this
theorem CS(m:List ((KC.str).K×V))(vs:List Nat):(CV m vs).length<=vs.length:=uK _ _
end
def D4(i:Nat):List ae->PV
 | []=> .sl i 1 0 1
 |x::r=> .sl i 0 (x::r).length 1
def vO(n:Nat):List ae->AO
 | []=> .row 1 (Vv n [pS Ta])
 |x::r=>aY 1 (x::r) cA
theorem wG(i:Nat)(l:List ae)(s:ae):D4 i (l++ [s])= .sl i 0 (l.length+1) 1:=by cases l<;>simp[D4]
theorem wI(n:Nat)(l:List ae)(s:ae):vO n (l++ [s])=aY 1 (l++ [s]) cA:=by cases l<;>rfl
theorem z7{i:Nat}{l:List ae}(h:l≠ []):D4 i l= .sl i 0 l.length 1:=by cases l with
 |nil=>exact absurd I h
 |cons=>rfl
theorem z8{n:Nat}{l:List ae}(h:l≠ []):vO n l=aY 1 l cA:=by cases l with
 |nil=>exact absurd I h
 |cons=>rfl
theorem F2(n:Nat)(l:List ae)(k:Nat):(vO n l).low k:=by
 cases l with
 |nil=>
  intro j e d;rw[List.getElem?_replicate]at d;split at d
  .cases d;rfl
  .cases d
 |cons x r=>exact cP k
theorem F1(n:Nat)(l:List ae)(σ:Nat->Nat):(vO n l).b3 σ=vO n l:=by
 cases l with
 |nil=>simp only[vO,AO.b3];rw[List.map_replicate];rfl
 |cons x r=>exact bK σ
theorem hO{h r:AH}{σ:Nat->Nat}{i n m:Nat}{o:AO}{l:List ae}(ho:h.get (σ i)=dl o)(he:o=vO m l)(hi:Tv i n=is)(hr:mD n σ h r):mD n σ h ((i,dl (vO m l))::r):=
 ⟨⟨_,ho,.of_eq (by rw[F1,he])⟩,SY hi,F2 m l n,hr⟩
theorem qj(i:Nat)(l:List ae){n:Nat}(h:Tv i n=is):(D4 i l).low n=is:=by cases l<;>exact h
theorem Fp(Z:dA)(m:NM)(hm:m.length<=100000000):Pure prog 139 [.iv (wL m)] (.iv (strs (dL (m.map (·.1))))):=by
 refine ai ab func139 I (by decide) ntmps139 I (by simp) I ?_;rcases VH m.length with h0|h0
 .have h0:=Uh.1 h0;subst h0;refine gA I (GC ab 1 (fun k=>cA (([]:List ae).getD k co)) I I I I I I I I I I ?_);refine gA I ?_;refine ib ([]:List ((KC.str).K×Int)) (fun _=>⟨[(3,.iv (.bW 1 0 (fun k=>cA (([]:List ae).getD k co)))),(9,.ptr 1 0)],[(1,dl (.bZ .str yQ ([]:List ((KC.str).K×Int)) [] io))],2⟩) (fun _=>True) [] ac
   (zW (hI I I (.inl I) I trivial)) fun vs _=>?_
  refine ik I ac (fq I I I I I (by decide) (fun _=>?_) fun j x B _=>?_)
  .refine gA I (aG (Mn Z _) I I I I I I ?_);refine gA I (zL ?_);exact .of_eq (show _=PV.iv (strs (dL [])) by rw[nI];rfl)
  .cases B
 refine gA I (MA ab m.length 0 I I I I I I I I I h0 (by omega) (by show 16*m.length<=_;omega) I (by decide) I (.inl ⟨rfl,rfl⟩) I ?_);refine gA I ?_;refine ib m (fun vs=>⟨[(3,D4 2 (CV m vs)),(9,.ptr 1 0)],[(1,dl (.bZ .str yQ m vs io)),(2,dl (vO m.length (CV m vs)))],3⟩) (fun vs=>vs.Nodup∧ ∀j∈vs,j<m.length) [0] ⟨T3,by simp⟩
  (zW (hI I I (.inl I) I (hO I I I trivial))) fun vs hJ=>?_
 obtain⟨u,y⟩:=hJ;have Y:=uz u y;have D:=CS m vs;refine ik I ac (fq I I I I I (by decide) (fun C=>?_) fun j x B G=>?_)
 .have J:=CU m vs u y C;have F:CV m vs≠ []:=fun e=>by
   have:=J.length_eq;rw[e,TB]at this;simp at this;omega
  rw[z7 F,z8 F];refine ik I ac (aE [2] (Hj Z (CV m vs) (by omega)) I I I I I (congrArg (fun o=> [dl o]) (bK _).symm) I I ?_);refine ik I ac (en (.inr I) I I ((pW _ _).trans (by rw[oO J])) ?_);rw[jE,<-J.length_eq]
 .have A:=Am m vs j x B;have a0: ∀d,d=j::vs->d.Nodup∧ ∀i∈d,i<m.length:=fun d e=>e▸⟨Ug.2 ⟨G,u⟩,fun i hi=>(Tt.1 hi).elim (fun h=>h▸(S2.1 B).1) (y i)⟩
  cases hl:CV m vs with
  |nil=>
   rw[hl,TD]at A;refine gA I (tm ab I I I I I I I I I (by simp;omega) (by simp) (eT I) I ?_);refine gA I ?_;exact⟨j,x,B,G,a0 _ I,[4],zM ⟨.of_eq (by rw[A];rfl),qj 2 _ I,.refl _,rfl,ac⟩ (hI I I (.inr I) I (hO I (by rw[A];rfl) I ac))⟩
  |cons a r=>
   rw[hl]at A D;have b0:(r.length+1)<=m.length:=by simpa using TQ D Y
   refine gA I ⟨j,x,B,G,a0 _ I,[4],zM ⟨.of_eq (by rw[A,wG];rfl),qj 2 _ I,.refl _,rfl,ac⟩ (hI I I (.inr I) I (hO I (by rw[A,wI,aY,Tc];rfl) I ac))⟩
theorem Fq(Z:dA)(m:GM)(hm:m.length<=100000000):Pure prog 140 [.iv (w6 m)] (.iv (strs (dL (m.map (·.1))))):=by
 refine ai ab func140 I (by decide) ntmps140 I (by simp) I ?_;rcases VH m.length with h0|h0
 .have h0:=Uh.1 h0;subst h0;refine gA I (GC ab 1 (fun k=>cA (([]:List ae).getD k co)) I I I I I I I I I I ?_);refine gA I ?_;refine ib ([]:List ((KC.str).K×Option NM)) (fun _=>⟨[(3,.iv (.bW 1 0 (fun k=>cA (([]:List ae).getD k co)))),(9,.ptr 1 0)],[(1,dl (.bZ .str D5 ([]:List ((KC.str).K×Option NM)) [] io))],2⟩) (fun _=>True) [] ac
   (zW (hI I I (.inl I) I trivial)) fun vs _=>?_
  refine ik I ac (fq I I I I I (by decide) (fun _=>?_) fun j x B _=>?_)
  .refine gA I (aG (Mn Z _) I I I I I I ?_);refine gA I (zL ?_);exact .of_eq (show _=PV.iv (strs (dL [])) by rw[nI];rfl)
  .cases B
 refine gA I (MA ab m.length 0 I I I I I I I I I h0 (by omega) (by show 16*m.length<=_;omega) I (by decide) I (.inl ⟨rfl,rfl⟩) I ?_);refine gA I ?_;refine ib m (fun vs=>⟨[(3,D4 2 (CV m vs)),(9,.ptr 1 0)],[(1,dl (.bZ .str D5 m vs io)),(2,dl (vO m.length (CV m vs)))],3⟩) (fun vs=>vs.Nodup∧ ∀j∈vs,j<m.length) [0] ⟨T3,by simp⟩
  (zW (hI I I (.inl I) I (hO I I I trivial))) fun vs hJ=>?_
 obtain⟨u,y⟩:=hJ;have Y:=uz u y;have D:=CS m vs;refine ik I ac (fq I I I I I (by decide) (fun C=>?_) fun j x B G=>?_)
 .have J:=CU m vs u y C;have F:CV m vs≠ []:=fun e=>by
   have:=J.length_eq;rw[e,TB]at this;simp at this;omega
  rw[z7 F,z8 F];refine ik I ac (aE [2] (Hj Z (CV m vs) (by omega)) I I I I I (congrArg (fun o=> [dl o]) (bK _).symm) I I ?_);refine ik I ac (en (.inr I) I I ((pW _ _).trans (by rw[oO J])) ?_);rw[jE,<-J.length_eq]
 .have A:=Am m vs j x B;have a0: ∀d,d=j::vs->d.Nodup∧ ∀i∈d,i<m.length:=fun d e=>e▸⟨Ug.2 ⟨G,u⟩,fun i hi=>(Tt.1 hi).elim (fun h=>h▸(S2.1 B).1) (y i)⟩
  cases hl:CV m vs with
  |nil=>
   rw[hl,TD]at A;refine gA I (tm ab I I I I I I I I I (by simp;omega) (by simp) (eT I) I ?_);refine gA I ?_;exact⟨j,x,B,G,a0 _ I,[4],zM ⟨.of_eq (by rw[A];rfl),qj 2 _ I,.refl _,rfl,ac⟩ (hI I I (.inr I) I (hO I (by rw[A];rfl) I ac))⟩
  |cons a r=>
   rw[hl]at A D;have b0:(r.length+1)<=m.length:=by simpa using TQ D Y
   refine gA I ⟨j,x,B,G,a0 _ I,[4],zM ⟨.of_eq (by rw[A,wG];rfl),qj 2 _ I,.refl _,rfl,ac⟩ (hI I I (.inr I) I (hO I (by rw[A,wI,aY,Tc];rfl) I ac))⟩
end
end Go.Proofs.YtbhphmfbligliaaGreatDoor
namespace Go.Proofs.YtbhphmfbligliaaGreatDoor
open Go Go.Al
def R4(b:Option Nat):IV:= .v (.map b)
def dvR(p:PV):Option Nat:=match p with
 | .iv (.v (.map b))=>b
 |_=>io
abbrev RM:=List ((KC.str).K×Option Nat)
abbrev gO(m:RM):AO:= .map .str R4 io (.map io) dvR m
abbrev yR:=Nat×Nat
def jN(l:List Decl)(B:List yR):RM:=Wl (fun d b=>(d.name,dl b.1)) l B
def dU(L:List (Nat×Nat×NM)):bC:=fun b=>(L.find? fun y=>y.1==b).map fun y=> .obj (cN y.2.2) y.2.1
theorem gW(L:List (Nat×Nat×NM)):(dU L).still:=by
 intro b i e h;unfold dU at h;cases hf:L.find? fun y=>y.1==b<;>rw[hf]at h<;>cases h
def rowsOf(l:List Decl)(B:List yR)(hs:List (ae×ae×Nat)):List (Nat×Nat×NM):=Wl (fun d b=>(b.1,b.2,ju hs d.name)) l B
theorem Ee{V:Type}{kc:KC}{ev:V->IV}{z:V}{d:Value}{u:PV->V}(y: ∀M,IR M (ev z) d):dG .fj (.map kc ev z d u []):=
 ⟨id,fun M N U w j x=>⟨#[],0,x,⟨rfl,by simp,by simp,by simp,by simp⟩,y M⟩⟩
structure BOK (l:List Decl) (i:Nat) (B:List yR):Prop where
 len:B.length=i
 nd:(B.map T2).Nodup
theorem zu(l:List Decl):jN l []=[]:=by cases l<;>rfl
theorem uf(l:List Decl)(hs:List (ae×ae×Nat)):rowsOf l [] hs=[]:=by cases l<;>rfl
theorem A9(l:List Decl)(hs:List (ae×ae×Nat)):dU (rowsOf l [] hs)=bC.nil:=by rw[uf];rfl
theorem tw{α β γ:Type}[Inhabited α](f:α->β->γ): ∀(l:List α) (B:List β) (x:β),B.length<l.length->Wl f l (B++ [x])=Wl f l B++ [f (l.getD B.length co) x]
 |a::l,[],x,_=>by simp
 |a::l,b::B,x,h=>by
  have:=tw f l B x (by simpa using h);simp[this]
 | [],B,x,h=>absurd h (Ve _)
theorem J3{B:List yR}{b e:Nat}(h:(B.map T2).Nodup)(hb:b∉B.map T2):((B++ [(b,e)]).map T2).Nodup:=by
 rw[Tc,UK];exact⟨h,by simp,fun u hu v d g=>hb (by simp at d;subst g;subst d;exact hu)⟩
theorem mJ(hs:List (ae×ae×Nat)): ∀(l:List Decl) (B:List yR),B.length<=l.length->(rowsOf l B hs).map T2=B.map T2
 |_,[],_=>by simp[uf]
 |d::l,b::B,h=>by
  have:=mJ hs l B (by simpa using h);simp only[rowsOf,Wm,Tg]at this ⊢;rw[this]
 | [],b::B,h=>absurd h (by simp)
theorem DK{l:List Decl}{B:List yR}{hs:List (ae×ae×Nat)}{b:Nat}(d:B.length<=l.length)(h:dU (rowsOf l B hs) b=io):b∉B.map T2:=by
 rw[<-mJ hs l B d];intro j;obtain⟨y,u,rfl⟩:=Uf.1 j;unfold dU at h;rw[VK,Vq]at h;exact h y u (by simp)
theorem zh(L:List (Nat×Nat×NM))(y:Nat×Nat×NM)(h:y.1∉L.map T2):dU (L++ [y])=(dU L).put y.1 (.obj (cN y.2.2) y.2.1):=by
 funext c
 unfold dU bC.put;rw[List.find?_append];by_cases d:c=y.1
 .subst d;rw[am I];have:L.find? (fun z=>z.1==y.1)=io:=Vq.2 fun z j=>by
   simp only[beq_iff_eq];exact fun e=>h (e▸VY j)
  rw[this];simp
 .rw[be d];have: ¬y.1=c:=fun e=>d e.symm;cases hf:L.find? (fun z=>z.1==c)<;>simp[this,hf]
theorem DJ{l:List Decl}{B:List yR}{b e:Nat}(d:B.length<l.length)(hb:b∉B.map T2):dU (rowsOf l (B++ [(b,e)]) [])=(dU (rowsOf l B [])).put b (.obj (cN []) e):=by
 have h:rowsOf l (B++ [(b,e)]) []=rowsOf l B []++ [(b,e,[])]:=tw _ l B (b,e) d;rw[h];exact zh _ _ (by rw[mJ _ _ _ (Nat.le_of_lt d)];exact hb)
theorem zt: ∀(l:List Decl) (B:List yR),B.length<=l.length->(jN l B).map T2=(l.take B.length).map Decl.name
 |_,[],_=>by simp[zu]
 |d::l,b::B,h=>by
  have:=zt l B (by simpa using h);simp only[jN,Wm,Tg,Tr,Un]at this ⊢;rw[this]
 | [],b::B,h=>absurd h (by simp)
theorem JT{V:Type}{m:List ((KC.str).K×V)}{s:ae}{v:V}(h:s∉m.map T2):cH .str m s v=m++ [(s,v)]:=by
 induction m with
 |nil=>rfl
 |cons x r ih=>
  obtain⟨a,c⟩:=x;simp only[Tg,Tt,not_or]at h;have: ¬a=s:=fun e=>h.1 e.symm;simp only[cH,be this,ih h.2];rfl
theorem FU{l:List Decl}{B:List yR}{i b e:Nat}(hn:(l.map Decl.name).Nodup)(hi:B.length=i)(d:i<l.length):cH .str (jN l B) (l.getD i co).name (dl b)=jN l (B++ [(b,e)]):=by
 subst hi;have h:jN l (B++ [(b,e)])=jN l B++ [((l.getD B.length co).name,dl b)]:=tw _ l B (b,e) d;rw[h];apply JT;rw[zt l B (Nat.le_of_lt d)];intro u;have j:l.map Decl.name=(l.take B.length).map Decl.name++(l.drop B.length).map Decl.name:=by rw[<-Tc,T9]
 rw[j,UK]at hn;refine hn.2.2 _ u _ (Uf.2 ⟨l.getD B.length co,?_,rfl⟩) I;rw[S4,S5 d];exact List.mem_drop_iff_getElem.2 ⟨0,by simpa using d,by simp⟩
def qw(r:aq)(l:Lit):List (ae×ae×Nat):=(named l).map fun t=>(r.head.rel,t,l3 l)
def C5(r:aq):List (ae×ae×Nat):=r.body.flatMap (qw r)
theorem Dc: ∀{L:List (Nat×Nat×NM)} {j:Nat} {y:Nat×Nat×NM},(L.map T2).Nodup->L[j]? =dl y->L.find? (fun z=>z.1==y.1)=dl y
 | [],_,_,_,h=>by simp at h
 |x::L,0,y,_,h=>by
  simp only[List.getElem?_cons_zero,S0]at h;subst h;simp
 |x::L,j+1,y,hn,h=>by
  rw[Vn]at h;rw[Tg,Ug]at hn;have d: ¬x.1=y.1:=fun e=>hn.1 (e▸VY (T7 h));rw[List.find?_cons_of_neg (by simpa using d)];exact Dc hn.2 h
theorem pP{l:List Decl}{B:List yR}{hs:List (ae×ae×Nat)}{j:Nat}{d:Decl}{b:yR}(x:B.length=l.length)(hn:(B.map T2).Nodup)(hd:l[j]? =dl d)(hb:B[j]? =dl b):dU (rowsOf l B hs) b.1=dl (.obj (cN (ju hs d.name)) b.2):=by
 have h:(rowsOf l B hs)[j]? =dl (b.1,b.2,ju hs d.name):=by
  unfold rowsOf;rw[Ws,hd,hb]
 have u:=Dc (by rw[mJ hs l B (WK x)];exact hn) h;unfold dU;rw[u];rfl
theorem zg{l:List Decl}{B:List yR}{hs:List (ae×ae×Nat)}{c:Nat}(d:B.length<=l.length)(h:c∉B.map T2):dU (rowsOf l B hs) c=io:=by
 rw[<-mJ hs l B d]at h;unfold dU;rw[VK,Vq];intro y j;simp only[beq_iff_eq];exact fun e=>h (e▸VY j)
theorem DI{l:List Decl}{B:List yR}{hs:List (ae×ae×Nat)}{j h:Nat}{d:Decl}{b:yR}{t:ae}(x:B.length=l.length)(hn:(B.map T2).Nodup)(Y:(l.map Decl.name).Nodup)(hd:l[j]? =dl d)(hb:B[j]? =dl b):
  (dU (rowsOf l B hs)).put b.1 (.obj (cN (EH (ju hs d.name) t h)) b.2)=dU (rowsOf l B (hs++ [(d.name,t,h)])):=by
 funext c
 unfold bC.put;by_cases A:c=b.1
 .subst A;rw[am I,pP x hn hd hb,nL,am I]
 .rw[be A];by_cases J:c∈B.map T2
  .obtain⟨b',y,rfl⟩:=Uf.1 J;obtain⟨i,C,rfl⟩:=UQ.1 y;have u:i<l.length:=by omega
   have D:i≠j:=fun e=>A (by subst e;rw[S5 C]at hb;cases hb;rfl);rw[pP x hn (S5 u) (S5 C),pP x hn (S5 u) (S5 C),nL,be];intro e;have Z:=(S2.1 hd)
   obtain⟨F,G⟩:=Z;apply D;refine(List.getElem_inj Y (h₀:=by simpa using u) (h₁:=by simpa using F)).1 ?_;rw[VT,VT,G];exact e.symm
  .rw[zg (WK x) J,zg (WK x) J]
theorem Oi{l:List Decl}{B:List yR}{a:ae}(x:B.length=l.length)(u:(l.map Decl.name).Nodup)(ha:a∈l.map Decl.name): ∃(j:Nat) (d:Decl) (b:yR),l[j]? =dl d∧B[j]? =dl b∧d.name=a∧cI .str (jN l B) a io=dl b.1:=by
 induction l generalizing B with
 |nil=>cases ha
 |cons d l ih=>
  cases B with
  |nil=>cases x
  |cons b B=>
   by_cases h:d.name=a
   .exact⟨0,d,b,rfl,rfl,h,by simp[jN,cI,h]⟩
   .rw[Tg,Ug]at u;rw[Tg,Tt]at ha;obtain⟨j,A,y,C,D,F,G⟩:=ih (by simpa using x) u.2 (ha.resolve_left fun e=>h e.symm);exact⟨j+1,A,y,C,D,F,by simpa[jN,cI,h]using G⟩
def dvG(_:PV):Option NM:=io
theorem EW{p:Prog}{B:List yR}(x:B.length=p.aw.length)(hn:(B.map T2).Nodup){hs:List (ae×ae×Nat)}:MK (dU (rowsOf p.aw B hs)) (gO (jN p.aw B)) (.map .str D5 io (.map io) dvG (cv p hs)):=by
 refine .map _ _ _ _ _ _ _ _ _ _ (by simp[cv,jN,x]) (fun j D y=>?_) fun M=> .v _
 obtain⟨d,hd,rfl⟩: ∃d,p.aw[j]? =dl d∧D=(d.name,dl (ju hs d.name)):=by
  unfold cv at y;rw[S6,S8]at y;obtain⟨d,A,C⟩:=y;exact⟨d,A,C.symm⟩
 have u:j<B.length:=by rw[x];exact(S2.1 hd).1
 refine⟨(d.name,dl B[j].1),.map (dl B[j].1),?_,rfl,rfl,?_⟩
 .unfold jN;rw[Ws,hd,S5 u]
 .refine .map B[j].1 B[j].2 .str yQ 0 (.int .i64 0) Sg (ju hs d.name) ?_;exact pP x hn hd (S5 u)
theorem Mq(hS:dA)(p:Prog)(hb:p.fit):Pure Tryz.prog 93 [ag p.c] (.aZ [.iv (uS p),pB (kw ((dX p).1=0))]):=by
 refine ai ab Tryz.func93 I (by decide) Tryz.ntmps93 I (by simp) I ?_;refine gA I (zp (c24 p hb) ?_);refine zJ I I (fun J=>?_) fun J=>?_
 .have J: ¬(dX p).1=0:=by simpa using J
  rw[uS,be J,decide_eq_false J];exact zU I
 have J:(dX p).1=0:=by simpa using J
 have hf:=yB J;have v0:=hf.len;rw[uS,am J,decide_eq_true J];refine gM 1 I ?_;refine Q9 ?_;refine c8 (jT ?_);refine gA I ?_;refine c8 (c8 (uP ⟨[(1,.ptr 0 0),(4,.mp 2),(20,.iv (bz 4 p.aw Decl.c)),(21,pI p.aw.length),(22,pI 0)],[(0,dl (aD p.c)),(2,dl (gO []))],3⟩ ?_ ?_))
 .refine gA I (wZ [1] ?_);exact zW (zK (OJ I (fun _=> .v _) I ac))
 refine iZ (yu 0 p.aw.length (Te _) (fun i (x:ULift.{1} (List yR))=>⟨[(1,.ptr 0 0),(4,.mp 2),(20,.iv (bz 4 p.aw Decl.c)),(21,pI p.aw.length),(22,pI i)],[(0,dl (aD p.c)),(2,dl (gO (jN p.aw x.down)))],3⟩)
  (fun i x Y=>BOK p.aw i x.down∧Y=dU (rowsOf p.aw x.down [])) ⟨[]⟩ [] ⟨⟨rfl,T3⟩,(A9 p.aw []).symm⟩
  (zW (zK (hM I (zu p.aw).symm I ac))) (fun _ _ _ h=>h.2▸gW _) fun i x Y hi hJ=>?_)
 obtain⟨hB,rfl⟩:=hJ;obtain⟨B⟩:=x;refine c8 (jT ?_);refine gA I ?_;refine c8 (th I (fun u=>td ?_) (fun u=>tg ?_))
 .have u:i<p.aw.length:=by simpa using u
  refine c8 (iZ (c8 (jT ?_)));refine gA I ?_;refine wY (te 4 ?_);refine gA I ?_;refine yt (NF (i:=4) (o':=cN []) I (Ee eE)) fun t Y D=>?_;obtain⟨rfl,rfl⟩:=D;refine yt (DC (i:=4) (d:=29) (gW _) I I ac I) fun t Y D=>?_;obtain⟨b,e,o0,rfl,rfl⟩:=D;refine te 1 ?_;refine gA I ?_;refine uO (Gw (jT ?_));refine gA I ?_;have a0:=DK (by rw[hB.len];exact hi) o0;exact⟨u,⟨B++ [(b,e)]⟩,[],⟨⟨by rw[S1,hB.len];rfl,J3 hB.nd a0⟩,(DJ (by rw[hB.len];exact u) a0).symm⟩,zW (zK (hM I (FU hf.nodup hB.len u) I ac))⟩
 have u:p.aw.length<=i:=by simpa using u
 have Z:B.length=p.aw.length:=by have:B.length=i:=hB.len;omega
 have d0:=hB.nd;clear hB;have x0:p.rules.length<=1000000000:=hb.2.1
 let G:Nat->List (ae×ae×Nat):=fun r=>(p.rules.take r).flatMap C5
 change GX _ _ [.code _] _ _ _;refine c8 (c8 (uP ⟨[(1,.ptr 0 0),(4,.mp 2),(32,.iv (bz 5 p.rules aq.c)),(33,pI p.rules.length),(34,pI 0)],[(0,dl (aD p.c)),(2,dl (gO (jN p.aw B)))],3⟩ ?_ ?_))
 .refine gA I (wZ [] ?_);exact zW (zK (zC ac))
 refine iZ (yu 0 p.rules.length (Te _) (fun i (_:PUnit.{2})=>⟨[(1,.ptr 0 0),(4,.mp 2),(32,.iv (bz 5 p.rules aq.c)),(33,pI p.rules.length),(34,pI i)],[(0,dl (aD p.c)),(2,dl (gO (jN p.aw B)))],3⟩)
  (fun i _ Y=>Y=dU (rowsOf p.aw B (G i))) ⟨⟩ [] I (zW (zK (zC ac))) (fun _ _ _ h=>h▸gW _) fun n _ Y hn hJ=>?_)
 subst hJ;refine c8 (jT ?_);refine gA I ?_;refine c8 (th I (fun u=>td ?_) (fun u=>tg ?_));rotate_left
 .have u:p.rules.length<=n:=by simpa using u
  have l0:G n=cZ p:=by show((p.rules.take n).flatMap C5)=_;rw[Tf u];rfl
  rw[l0];change GX _ _ [.code _] _ _ _;refine Mz (NG (i:=2) (o':= .map .str D5 io (.map io) dvG (cv p (cZ p))) I (EW Z d0)) fun t Y D=>?_;obtain⟨rfl,rfl⟩:=D;refine jT ?_;refine gA I (iJ (.inr I) I (fw.map 2 I (.done (.refl _))))
 have u:n<p.rules.length:=by simpa using u
 have hR:p.rules.getD n co∈p.rules:=lz u;have g0:G (n+1)=G n++C5 (p.rules.getD n co):=by show((p.rules.take (n+1)).flatMap C5)=_;rw[bb u,UI];simp;rfl
 have b0:=hb.2.2 _ hR;have C:=b0.1;have y:=hf.C3 _ hR;have A:=hf.lits _ hR;generalize m0:p.rules.getD n co=R at hR g0 b0 C y A;refine c8 (iZ (c8 (jT ?_)));refine gA I ?_;refine c8 (uP ⟨[(1,.ptr 0 0),(4,.mp 2),(8,.ptr 3 0),(32,.iv (bz 5 p.rules aq.c)),(33,pI p.rules.length),(34,pI n),(39,.iv (lits R.body)),(40,pI R.body.length),(41,pI 0)],[(0,dl (aD p.c)),(2,dl (gO (jN p.aw B))),(3,dl (aD R.c))],4⟩ ?_ ?_)
 .refine gA I (wZ [] ?_);subst m0;exact zW (zK (zC (zK ac)))
 have s0:R.body.length<=10000000:=by have:=Lit.aA R.body;unfold aq.size at C;omega
 refine iZ (yu 0 R.body.length (Te _) (fun i (_:PUnit.{2})=>⟨[(1,.ptr 0 0),(4,.mp 2),(8,.ptr 3 0),(32,.iv (bz 5 p.rules aq.c)),(33,pI p.rules.length),(34,pI n),(39,.iv (lits R.body)),(40,pI R.body.length),(41,pI i)],[(0,dl (aD p.c)),(2,dl (gO (jN p.aw B))),(3,dl (aD R.c))],4⟩)
  (fun i _ Y=>Y=dU (rowsOf p.aw B (G n++(R.body.take i).flatMap (qw R)))) ⟨⟩ [] (by simp) (zW (zK (zC (zK ac)))) (fun _ _ _ h=>h▸gW _) fun i _ Y t0 hJ=>?_)
 subst hJ;refine c8 (jT ?_);refine gA I ?_;refine c8 (th I (fun F=>td ?_) (fun F=>tg ?_));rotate_left
 .have F:R.body.length<=i:=by simpa using F
  rw[Tf F,show G n++R.body.flatMap (qw R)=G (n+1) from g0.symm];change GX _ _ (.code _::_) _ _ _;refine jT ?_;refine gA I ⟨u,⟨⟩,[],rfl,zW (zK (zC ac))⟩
 have F:i<R.body.length:=by simpa using F
 have hl:R.body.getD i co∈R.body:=lz F;have i0:(R.body.take (i+1)).flatMap (qw R)=(R.body.take i).flatMap (qw R)++qw R (R.body.getD i co):=by rw[bb F,UI];simp
 have f0:(R.body.getD i co).size<=10000000:=by have:=Lit.b6 R.body i F;unfold aq.size at C;omega
 have e0:=A _ hl;generalize q0:R.body.getD i co=l at hl i0 f0 e0;refine c8 (iZ (c8 (jT ?_)));refine gA I ?_;refine c8 (uP ⟨[(1,.ptr 0 0),(4,.mp 2),(8,.ptr 3 0),(10,.ptr 4 0),(32,.iv (bz 5 p.rules aq.c)),(33,pI p.rules.length),(34,pI n),(39,.iv (lits R.body)),(40,pI R.body.length),(41,pI i),(46,.iv (strs (named l))),(47,pI (named l).length),(48,pI 0)],[(0,dl (aD p.c)),(2,dl (gO (jN p.aw B))),(3,dl (aD R.c)),(4,dl (aD l.c))],5⟩ ?_ ?_)
 .subst q0;refine gA I (zp (Cr (R.body.getD i co) (by omega)) ?_);refine gA I (wZ [] ?_);exact zW (zK (zC (zK (zK ac))))
 have w0:=lh l
 refine iZ (yu 0 (named l).length (Te _) (fun k (_:PUnit.{2})=>⟨[(1,.ptr 0 0),(4,.mp 2),(8,.ptr 3 0),(10,.ptr 4 0),(32,.iv (bz 5 p.rules aq.c)),(33,pI p.rules.length),(34,pI n),(39,.iv (lits R.body)),(40,pI R.body.length),(41,pI i),(46,.iv (strs (named l))),(47,pI (named l).length),(48,pI k)],[(0,dl (aD p.c)),(2,dl (gO (jN p.aw B))),(3,dl (aD R.c)),(4,dl (aD l.c))],5⟩)
  (fun k _ Y=>Y=dU (rowsOf p.aw B ((G n++(R.body.take i).flatMap (qw R))++((named l).take k).map fun t=>(R.head.rel,t,l3 l)))) ⟨⟩ [] (by simp) (zW (zK (zC (zK (zK ac))))) (fun _ _ _ h=>h▸gW _) fun k _ Y hk hJ=>?_)
 subst hJ;refine c8 (jT ?_);refine gA I ?_;refine c8 (th I (fun h3=>td ?_) (fun h3=>tg ?_));rotate_left
 .have h3:(named l).length<=k:=by simpa using h3
  have eX:(G n++(R.body.take i).flatMap (qw R))++(named l).map (fun t=>(R.head.rel,t,l3 l))=G n++(R.body.take (i+1)).flatMap (qw R):=by rw[Tb,i0];rfl
  rw[Tf h3,eX];change GX _ _ (.code _::_) _ _ _;refine jT ?_;refine gA I ⟨F,⟨⟩,[],rfl,zW (zK (zC (zK ac)))⟩
 have h3:k<(named l).length:=by simpa using h3
 obtain⟨j,d,b,hd,j0,p0,k0⟩:=Oi Z hf.nodup y;have hX:=pP (hs:=(G n++(R.body.take i).flatMap (qw R))++((named l).take k).map fun t=>(R.head.rel,t,l3 l)) Z d0 hd j0;have c0:=DI (hs:=(G n++(R.body.take i).flatMap (qw R))++((named l).take k).map fun t=>(R.head.rel,t,l3 l)) (t:=(named l).getD k co) (h:=l3 l) Z d0 hf.nodup hd j0;rw[p0]at hX c0;have r0:((G n++(R.body.take i).flatMap (qw R))++((named l).take k).map fun t=>(R.head.rel,t,l3 l))++ [(R.head.rel,(named l).getD k co,l3 l)]=(G n++(R.body.take i).flatMap (qw R))++((named l).take (k+1)).map fun t=>(R.head.rel,t,l3 l):=by
  rw[bb h3,Tc,Tb];rfl
 rw[r0]at c0;generalize(G n++(R.body.take i).flatMap (qw R))++((named l).take k).map (fun t=>(R.head.rel,t,l3 l))=hs at hX c0;refine c8 (iZ (c8 (jT ?_)));refine gA I ?_;refine c8 (jT ?_);refine gA I ?_;refine c8 (uP ⟨[(1,.ptr 0 0),(4,.mp 2),(8,.ptr 3 0),(10,.ptr 4 0),(32,.iv (bz 5 p.rules aq.c)),(33,pI p.rules.length),(34,pI n),(39,.iv (lits R.body)),(40,pI R.body.length),(41,pI i),(46,.iv (strs (named l))),(47,pI (named l).length),(48,pI k),(12,pS ((named l).getD k co)),(13,pI (l3 l))],[(0,dl (aD p.c)),(2,dl (gO (jN p.aw B))),(3,dl (aD R.c)),(4,dl (aD l.c))],5⟩ ?_ ?_)
 .refine zJ I I (fun h4=>?_) fun h4=>?_
  .have h4:l.kind=1:=zT h4;refine gA I (wZ [] ?_);exact zM (bi (bi (bi (bi (bi (bi (bi (bi (bi (bi (bi (bi (bi (bi ⟨.of_eq (by rw[l3,am h4];rfl),rfl,ac⟩)))))))))))))) (zK (zC (zK (zK ac))))
  .have h4: ¬l.kind=1:=zF h4;refine gA I (wZ [] ?_);exact zM (bi (bi (bi (bi (bi (bi (bi (bi (bi (bi (bi (bi (bi (bi ⟨.of_eq (by rw[l3,be h4];rfl),rfl,ac⟩)))))))))))))) (zK (zC (zK (zK ac))))
 refine wY (te 12 ?_);refine gA I ?_;refine yt (DB (d:=65) hX (show PV.iv (.v (.map (cI .str (jN p.aw B) R.head.rel io)))=_ by rw[k0])) fun t Y D=>?_;obtain⟨rfl,rfl⟩:=D;refine yt (Fc (b:=b.1) (j:=5) (e:=b.2) (d:=59) (p:= .mp 5) (bC.fD _ _ _) fun M N U x hu n0 _ hv=>?_) fun t Y D=>?_
 .have hv:VR M N U (PV.iv (.v (.map (cI .str (jN p.aw B) R.head.rel io)))) x:=hv;rw[k0]at hv;cases hv with
  |iv _ _ hi=>cases hi with
   |v=>rw[<-n0];exact .mp 5 hu
 obtain⟨rfl,rfl⟩:=D;refine te 4 ?_;refine gA I ?_;refine uO (Gw (Mz (P2 (b:=b.1) (e:=b.2) (i:=5) (o:=cN (EH (ju hs R.head.rel) ((named l).getD k co) (l3 l))) (bC.fD _ _ _) I I ac) fun t Y D=>?_));obtain⟨rfl,rfl⟩:=D;rw[bC.JS];refine jT ?_;refine gA I ⟨h3,⟨⟩,[],c0,zW (zK (zC (zK (zK ac))))⟩
end Go.Proofs.YtbhphmfbligliaaGreatDoor
namespace Go.Proofs.YtbhphmfbligliaaGreatDoor
open Go Go.Al Go.Proofs.Tryz Go.Tj
def oL(e:Option ae)(i:Nat)(l:List ae):PV:=match e,l with
 |some _,[]=> .sl i 1 0 1
 |_,l=> .sl i 0 l.length 1
def oM(e:Option ae)(l:List ae):AO:=match e,l with
 |some y,[]=> .row 1 [[pS y]]
 |_,l=>aY 1 l cA
theorem kW(σ:Nat->Nat)(e:Option ae)(i:Nat)(l:List ae):(oL e i l).b3 σ=oL e (σ i) l:=by cases e<;>cases l<;>rfl
theorem kX(σ:Nat->Nat)(e:Option ae)(l:List ae):(oM e l).b3 σ=oM e l:=by
 cases e<;>cases l<;>first|rfl|exact bK σ
theorem y8{n i:Nat}(h:Tv i n=is)(e:Option ae)(l:List ae):(oL e i l).low n=is:=by cases e<;>cases l<;>exact h
theorem zb(n:Nat)(e:Option ae)(l:List ae):(oM e l).low n:=by
 cases e with
 |none=>exact cP n
 |some y=>
  cases l with
  |nil=>
   intro k e d;cases k with
   |zero=>cases d;rfl
   |succ k=>cases d
  |cons=>exact cP n
theorem y7{e:Option ae}{i:Nat}{l:List ae}(h:e=io∨l≠ []):oL e i l= .sl i 0 l.length 1:=by
 cases e with
 |none=>rfl
 |some y=>cases l with
  |nil=>exact absurd I (h.resolve_left (by simp))
  |cons=>rfl
theorem y9{e:Option ae}{l:List ae}(h:e=io∨l≠ []):oM e l=aY 1 l cA:=by
 cases e with
 |none=>rfl
 |some y=>cases l with
  |nil=>exact absurd I (h.resolve_left (by simp))
  |cons=>rfl
structure TW where
 low:NM
 on:NM
 ring:NM
 stack:List ae
 sW:Option ae
def TW.st(w:TW):St ae:=⟨fun a=>cI .str w.low a 0,fun a=>cI .str w.on a 0,fun a=>cI .str w.ring a 0,w.low.length,w.stack⟩
structure TW.Ok (V:List ae) (w:TW):Prop where
 nz: ∀a∈w.low.map T2,cI .str w.low a 0≠0
 nd:(w.low.map T2).Nodup
 sub: ∀a∈w.low.map T2,a∈V
abbrev yV:PV:= .cJ (.func 138) [] [.ptr 0 0,.ptr 1 0,.ptr 2 0,.ptr 3 0,.ptr 4 0,.ptr 5 0]
abbrev tO(G:IV)(w:TW):List AO:=[.cells [.mp 6],.cells [.mp 7],.cells [oL w.sW 9 w.stack],.cells [.iv G],.cells [yV],.cells [.mp 8],cN w.low,cN w.on,cN w.ring,oM w.sW w.stack]
abbrev tH(G:IV)(w:TW)(k:Nat):AH:=[(0,dl (.cells [.mp 6])),(1,dl (.cells [.mp 7])),(2,dl (.cells [oL w.sW k w.stack])),(3,dl (.cells [.iv G])),(4,dl (.cells [yV])),(5,dl (.cells [.mp 8])),
 (6,dl (cN w.low)),(7,dl (cN w.on)),(8,dl (cN w.ring)),(k,dl (oM w.sW w.stack))]
theorem tC{n k:Nat}{σ:Nat->Nat}{h:AH}{G:IV}{w:TW}{B:PV}{x y A:NM}{o:AO}(b:UW 9 n=is)(bk:Tv k n=is)(hs: ∀i,i<9->σ i=i)
  (g0:h.get 0=dl (.cells [.mp 6])) (g1:h.get 1=dl (.cells [.mp 7])) (g2:h.get 2=dl (.cells [B])) (g3:h.get 3=dl (.cells [.iv G])) (g4:h.get 4=dl (.cells [yV])) (g5:h.get 5=dl (.cells [.mp 8]))
  (g6:h.get 6=dl (cN x)) (g7:h.get 7=dl (cN y)) (g8:h.get 8=dl (cN A)) (g9:h.get (σ k)=dl o)
  (C:B=oL w.sW (σ k) w.stack) (D:x=w.low) (F:y=w.on) (J:A=w.ring) (Y:dG o (oM w.sW w.stack)):mD n σ h (tH G w k):=by
 have Z:=SY b;have bk:=SY bk;have hb: ∀i,i<9->Tv i n=is:=fun i d=>T6 (by omega);subst C D F J;have r: ∀i,i<9->PV.mp (σ i)=PV.mp i:=fun i d=>by rw[hs i d]
 have j: ∀i,i<9->PV.ptr (σ i) 0=PV.ptr i 0:=fun i d=>by rw[hs i d]
 have u: ∀i,i<9->bA n [PV.mp i]=is:=fun i d=>by simp only[bA,PV.low,hb i d]
 refine⟨⟨_,by rw[hs 0 (by omega)];exact g0,.of_eq (by simp only[AO.b3,di,PV.b3,r 6 (by omega)])⟩,by omega,u 6 (by omega),
  ⟨_,by rw[hs 1 (by omega)];exact g1,.of_eq (by simp only[AO.b3,di,PV.b3,r 7 (by omega)])⟩,by omega,u 7 (by omega),
  ⟨_,by rw[hs 2 (by omega)];exact g2,.of_eq (by simp only[AO.b3,di,kW])⟩,by omega,by simp only[AO.low,bA,y8 (T6 bk)],
  ⟨_,by rw[hs 3 (by omega)];exact g3,.of_eq I⟩,by omega,rfl,
  ⟨_,by rw[hs 4 (by omega)];exact g4,.of_eq (by simp only[AO.b3,di,PV.b3,j 0 (by omega),j 1 (by omega),j 2 (by omega),j 3 (by omega),j 4 (by omega),j 5 (by omega)])⟩,by omega,by simp only[AO.low,bA,PV.low,hb 0 (by omega),hb 1 (by omega),hb 2 (by omega),hb 3 (by omega),hb 4 (by omega),hb 5 (by omega)],
  ⟨_,by rw[hs 5 (by omega)];exact g5,.of_eq (by simp only[AO.b3,di,PV.b3,r 8 (by omega)])⟩,by omega,u 8 (by omega),
  ⟨_,by rw[hs 6 (by omega)];exact g6,.of_eq I⟩,by omega,ac,
  ⟨_,by rw[hs 7 (by omega)];exact g7,.of_eq I⟩,by omega,ac,
  ⟨_,by rw[hs 8 (by omega)];exact g8,.of_eq I⟩,by omega,ac,
  ⟨_,g9,by rw[kX];exact Y⟩,bk,zb _ _ _,ac⟩
theorem xL(m:NM)(b:ae)(v:Int):(fun x=>cI .str (cH .str m b v) x 0)=xD (fun x=>cI .str m x 0) b v:=by
 funext x
 rw[eD,xD];by_cases h:b=x
 .rw[am h,am h.symm]
 .rw[be h,be fun e=>h e.symm]
def TW.push(w:TW)(a:ae):TW:=⟨cH .str w.low a ((w.low.length:Int)+1),cH .str w.on a 1,w.ring,w.stack++ [a],io⟩
theorem TW.key{V:List ae}{w:TW}(h:w.Ok V){a:ae}(h0:w.st.low a=0):a∉w.low.map T2:=fun g=>h.nz a g h0
theorem r9{m:NM}{a:ae}{v:Int}(h:a∉m.map T2):(cH .str m a v).length=m.length+1:=by
 have:=congrArg Vg (cU (v:=v) h);simpa using this
theorem TW.JU{V:List ae}{w:TW}(h:w.Ok V){a:ae}(h0:w.st.low a=0):(w.push a).st=Go.Tj.push w.st a:=
 St.eq (xL _ _ _) (xL _ _ _) I (r9 (TW.key h h0)) I
theorem TW.JV{V:List ae}{w:TW}(h:w.Ok V){a:ae}(h0:w.st.low a=0)(ha:a∈V):(w.push a).Ok V:=by
 have j:=TW.key h h0;refine⟨fun x d=>?_,?_,fun x d=>?_⟩
 .show cI .str (cH .str w.low a _) x 0≠0;rw[eD];split
  .omega
  .rename_i y;have d:x∈(cH .str w.low a ((w.low.length:Int)+1)).map T2:=d;rw[cU j,Ts,Tk]at d;exact h.nz x (d.resolve_right fun e=>y e.symm)
 .show((cH .str w.low a _).map T2).Nodup;rw[cU j,UK];exact⟨h.nd,by simp,fun u hu v A e=>j (by rw[Tk]at A;subst e;subst A;exact hu)⟩
 .have d:x∈(cH .str w.low a ((w.low.length:Int)+1)).map T2:=d;rw[cU j,Ts,Tk]at d;rcases d with d|rfl
  .exact h.sub x d
  .exact ha
theorem TW.len{V:List ae}{w:TW}(h:w.Ok V):w.low.length<=V.length:=by
 have:=UH h.nd (l₂:=V) h.sub;simpa using this
theorem TW.wo{V:List ae}{w:TW}(h:w.Ok V){succ:ae->List ae}{path:List ae}(hI:Inv succ path w.st):w.stack.length<=V.length:=by
 refine UH (l₂:=V) ?_ fun y B=>?_
 .refine WJ ?_ hI.Pd;intro x y A e;subst e;omega
 .have d:=(hI.wo y).2 B;have j:w.st.low y≠0:=uv hI d;refine h.sub y (Uv fun u=>j (Bu u))
def TW.pop(w:TW)(u:List ae)(b:ae)(d:Int):TW:=⟨w.low,cH .str w.on b 2,cH .str w.ring b d,u,dl b⟩
theorem TW.FZ{w:TW}{u:List ae}{b:ae}(h:w.stack=u++ [b])(d:Int):(w.pop u b d).st=x8 d w.st:=by
 have j:w.st.stack.getLast? =dl b:=by show w.stack.getLast? =_;rw[h];simp
 have x:w.st.stack.dropLast=u:=by show w.stack.dropLast=_;rw[h];simp
 unfold x8;rw[j];exact St.eq I (xL _ _ _) (xL _ _ _) I x.symm
theorem TW.Oo{V:List ae}{w:TW}(h:w.Ok V)(u:List ae)(b:ae)(d:Int):(w.pop u b d).Ok V:=⟨h.nz,h.nd,h.sub⟩
theorem Qe(d:dA){p:Prog}(hf:s5 p)(j:(cZ p).length<=100000000)(a:ae):Pure prog 139 [.iv (wL (ju (cZ p) a))] (.iv (strs (bn p a))):=by
 rw[<-y4 hf];exact Fp d _ (TQ (FG _ _) j)
abbrev Pq(a:ae):List PV:=[pS a,.ptr 0 0,.ptr 1 0,.ptr 2 0,.ptr 3 0,.ptr 4 0,.ptr 5 0]
abbrev vF(a:ae):AF:=[(0,pS a),(1,.ptr 0 0),(2,.ptr 1 0),(3,.ptr 2 0),(4,.ptr 3 0),(5,.ptr 4 0),(6,.ptr 5 0)]
def O6(p:Prog)(f:Nat):Prop:= ∀(path:List ae) (a:ae) (w:TW),w.Ok (ns p)->Inv (bn p) path w.st->w.st.low a=0->a∈ns p->(∀g∈path,mC (bn p) g a)->jI (ns p) w.st<=f->
 Go.Al.Fn prog 138 (Pq a) (tO (w6 (cv p (cZ p))) w) fun r h n=> ∃d:TW,d.Ok (ns p)∧d.st=(ew (bn p) f a w.st).2∧r=pI (ew (bn p) f a w.st).1∧h=tH (w6 (cv p (cZ p))) d 10∧n=11
theorem Gy(p:Prog)(hs:List (ae×ae×Nat)){a:ae}(h:a∈p.aw.map Decl.name):(D5 (cI .str (cv p hs) a io)).pv= .iv (wL (ju hs a)):=by rw[Gz p hs h];rfl
theorem NA(G:IV)(w:TW){n:Nat}:[dl (AO.cells [PV.mp 6]),dl (.cells [.mp 7]),dl (.cells [oL w.sW 11 w.stack]),dl (.cells [.iv G]),dl (.cells [yV]),dl (.cells [.mp 8]),dl (cN w.low),dl (cN w.on),dl (cN w.ring),dl (oM w.sW w.stack)]=
  (tO G w).map fun o=>dl (o.b3 (sig [0,1,2,3,4,5,6,7,8,11] n)):=by
 have d:=kW (sig [0,1,2,3,4,5,6,7,8,11] n) w.sW 9 w.stack;have j:=kX (sig [0,1,2,3,4,5,6,7,8,11] n) w.sW w.stack;show _=[dl (AO.cells [PV.mp 6]),dl (.cells [.mp 7]),dl (.cells [(oL w.sW 9 w.stack).b3 (sig [0,1,2,3,4,5,6,7,8,11] n)]),dl (.cells [.iv G]),dl (.cells [yV]),dl (.cells [.mp 8]),dl (cN w.low),dl (cN w.on),dl (cN w.ring),dl ((oM w.sW w.stack).b3 (sig [0,1,2,3,4,5,6,7,8,11] n))]
 rw[d,j];rfl
theorem Ff(u:List ae)(b:ae):((u++ [b]).map fun x=>(cA x).map PV.iv)[0+((((u.length+1:Nat):Int)-1).toNat)]? =dl [pS b]:=by
 rw[Tp,show(((u.length+1:Nat):Int)-1).toNat=u.length by omega];simp[cA]
theorem Fg(i:Nat)(u:List ae)(b:ae):(u.length=0∧oL (dl b) i u= .sl i 1 0 1)∨(0<u.length∧oL (dl b) i u= .sl i 0 u.length 1):=by
 cases u with
 |nil=>exact .inl ⟨rfl,rfl⟩
 |cons x r=>exact .inr ⟨by simp,rfl⟩
theorem za(u:List ae)(b:ae):dG (aY 1 (u++ [b]) cA) (oM (dl b) u):=by
 cases u with
 |nil=>exact .of_eq I
 |cons x r=>
  have e:oM (dl b) (x::r)= .row 1 (((x::r++ [b]).map fun y=>(cA y).map PV.iv).take (x::r).length):=by
   rw[<-WC,List.take_left];rfl
  rw[e];exact .take
theorem s6{p:Prog}: ∀a∈ns p,∀b∈bn p a,b∈ns p:=fun _ _ _ h=>(T5.1 h).1
theorem F8{p:Prog}(hf:s5 p):(ns p).length<=64:=by
 have:=hf.len;rw[ns,jE,TB];exact this
theorem EU(hS:dA){p:Prog}(hf:s5 p)(hl:(cZ p).length<=100000000)(f:Nat)(ih:O6 p f):O6 p (f+1):=by
 intro path a w j0 hI h0 Y hp hw;have i0:=F8 hf;have e1:=km hI.mw Y h0;have l1:=TW.len j0;have o1:=TW.wo j0 hI;have q0:a∈p.aw.map Decl.name:=by rw[ns,lj]at Y;exact Y
 have C:=TW.JU j0 h0;have t0:=TW.JV j0 h0 Y;have n1:=Uz (eg p a) (ns p);refine nh ab func138 I (by decide) ntmps138 I (by simp) ?_;refine go_cut 6 (fun _:Unit=>⟨(9,pI ((w.low.length:Int)+1))::(10,pI ((w.low.length:Int)+1))::vF a,tH (w6 (cv p (cZ p))) (w.push a) 10,11⟩) I ?_ ?_
 .have o0:cI .str (cH .str w.low a ((w.low.length:Int)+1)) a 0=(w.low.length:Int)+1:=by rw[eD,am I]
  by_cases hu:w.sW=io∨w.stack≠ []
  .rw[show tO (w6 (cv p (cZ p))) w=[.cells [.mp 6],.cells [.mp 7],.cells [.sl 9 0 w.stack.length 1],.cells [.iv (w6 (cv p (cZ p)))],.cells [yV],.cells [.mp 8],cN w.low,cN w.on,cN w.ring,aY 1 w.stack cA] by
    unfold tO;rw[y7 hu,y9 hu]]
   refine gA I (nr () [11] ?_);exact wk I I I ⟨.of_eq (congrArg pI o0),rfl,.of_eq (congrArg pI o0),rfl,bi (bi (bi (bi (bi (bi (bi ac))))))⟩
    (tC (w:=w.push a) I I (fun i Z=>fW (by show i<10;omega)) I I I I I I I I I I (by show _=PV.sl 11 0 (w.stack++ [a]).length 1;rw[S1];rfl) I I I (.of_eq (by show _=aY 1 (w.stack++ [a]) cA;rw[aY,Tc];rfl))) I
  .obtain⟨y,hy,v0⟩: ∃y,w.sW=dl y∧w.stack=[]:=by
    cases hg:w.sW with
    |none=>exact absurd (.inl hg) hu
    |some y=>exact⟨y,rfl,Uv fun h=>hu (.inr h)⟩
   rw[show tO (w6 (cv p (cZ p))) w=[.cells [.mp 6],.cells [.mp 7],.cells [.sl 9 1 0 1],.cells [.iv (w6 (cv p (cZ p)))],.cells [yV],.cells [.mp 8],cN w.low,cN w.on,cN w.ring,.row 1 [[pS y]]] by
    unfold tO;rw[hy,v0];rfl]
   refine gA I (tm ab I I I I I I I I I (by simp) (by simp) (eT I) I ?_);refine gA I (nr () [11] ?_);exact wk I I I ⟨.of_eq (congrArg pI o0),rfl,.of_eq (congrArg pI o0),rfl,bi (bi (bi (bi (bi (bi (bi ac))))))⟩
    (tC (w:=w.push a) I I (fun i Z=>fW (by show i<10;omega)) I I I I I I I I I I (by show _=PV.sl 11 0 (w.stack++ [a]).length 1;rw[v0];rfl) I I I (.of_eq (by show _=aY 1 (w.stack++ [a]) cA;rw[v0];rfl))) I
 intro _;have Z:=zH hI h0 hp;rw[<-C]at e1 Z;have hm:((w.push a).low.length:Int)=(w.low.length:Int)+1:=by
  have:=r9 (v:=(w.low.length:Int)+1) (TW.key j0 h0);show(((cH .str w.low a _).length:Nat):Int)=_;rw[this];omega
 have la:(w.push a).st.low a=(w.st.n:Int)+1:=by rw[C];exact jK _ _ _
 have oa:(w.push a).st.on a=1:=by rw[C];exact jK _ _ _
 have g1:fu (bn p) path a w.st [] ((w.st.n:Int)+1,Go.Tj.push w.st a) []:=
  ⟨C▸Z,.refl _,rfl,fun y hy=>(nomatch hy),UL _,fun y hy=>(nomatch hy),fun z hz=>(nomatch hz),fun z hz=>(nomatch hz),⟨a,C▸oa,C▸la,.refl _⟩⟩
 have l0:=fun pa b s=>oI (succ:=bn p) s6 f pa b s
 let G:Nat->Int×St ae:=fun i=>((bn p a).take i).foldl (Go.Tj.rX (ew (bn p) f)) ((w.st.n:Int)+1,Go.Tj.push w.st a)
 have g0: ∀i,∃t,fu (bn p) path a w.st ((bn p a).take i) (G i) t:=fun i=>by
  have:=rv s6 l0 hI h0 Y (by rw[<-C];omega) ((bn p a).take i) [] _ [] g1 fun b hb=>Us hb;rwa[TD]at this
 refine gM 5 I (Kj ab (.iv (wL (ju (cZ p) a))) I I I I (Gy p _ q0) I ?_);refine gA I (zp (Qe hS hf hl a) ?_);refine gA I ?_;refine l5 0 (bn p a).length (Te _) (fun i A=>⟨(9,pI ((w.low.length:Int)+1))::(10,pI (G i).1)::(32,.iv (strs (bn p a)))::(33,pI (bn p a).length)::(34,pI i)::vF a,tH (w6 (cv p (cZ p))) A 11,12⟩)
  (fun i A=>A.Ok (ns p)∧A.st=(G i).2) (w.push a) [10] ⟨t0,C⟩
  (wk I I I (bi (bi (bi (bi (bi (bi (bi (bi (bi (bi (bi (bi trivial))))))))))))
   (tC I I (fun i Z=>fW (by show i<11;omega)) I I I I I I I I I I I I I I (.refl _)) I) fun i A r1 hJ=>?_
 obtain⟨B,x⟩:=hJ;obtain⟨t2,j⟩:=g0 i;have m1:(bn p a).length<=64:=TQ n1 i0;refine zJ I I (fun h1=>?_) fun h1=>?_
 .have h1:i<(bn p a).length:=by simpa using h1
  have d0:G (i+1)=Go.Tj.rX (ew (bn p) f) (G i) ((bn p a).getD i co):=iB h1;have hb:((bn p a).getD i co)∈bn p a:=lz h1;have d:Go.Tj.rX (ew (bn p) f) (G i) ((bn p a).getD i co)=if A.st.low ((bn p a).getD i co)=0 then(min (G i).1 (ew (bn p) f ((bn p a).getD i co) A.st).1,(ew (bn p) f ((bn p a).getD i co) A.st).2)
    else if A.st.on ((bn p a).getD i co)=1 then(min (G i).1 (A.st.low ((bn p a).getD i co)),A.st) else(G i):=by rw[x];rfl
  refine zJ I I (fun h2=>?_) fun h2=>?_
  .have h2:A.st.low ((bn p a).getD i co)=0:=zT h2;rw[am h2]at d;have b0: ∀g∈path++ [a],mC (bn p) g ((bn p a).getD i co):=by
    intro g hg;have D:(G i).2.on a=1:=(j.inv.wo a).2 (by rw[j.stack];simp);refine .step (j.inv.dn g hg a D ?_) hb;rcases Ts.1 hg with e|e
    .have:=j.pa hI h0 g e;omega
    .rw[Tk]at e;rw[e];exact UL _
   have q1:jI (ns p) A.st<=f:=by
    have:=v8 (V:=ns p) j.le;rw[x];rw[C]at e1;omega
   refine gA I (qx [0,1,2,3,4,5,6,7,8,11] (ih (path++ [a]) ((bn p a).getD i co) A B (x▸j.inv) h2 (s6 a Y ((bn p a).getD i co) hb) b0 q1) I I I I I (NA _ _) I ?_);rintro r h' n' ⟨w3,hok3,hst3,rfl,rfl,rfl⟩;refine⟨_,rfl,?_⟩;refine gA I ⟨h1,w3,[12],⟨hok3,by rw[d0,d];exact hst3⟩,zM (bi ⟨.of_eq (by rw[d0,d];rfl),rfl,bi (bi (bi (bi (bi (bi (bi (bi (bi (bi ac)))))))))⟩) (tC I I (fun i Z=>fW (by show i<11;omega)) I I I I I I I I I I (kW _ _ _ _) I I I (.of_eq (kX _ _ _)))⟩
  .have h2: ¬A.st.low ((bn p a).getD i co)=0:=zF h2;rw[be h2]at d;refine zJ I I (fun h3=>?_) fun h3=>?_
   .have h3:A.st.on ((bn p a).getD i co)=1:=zT h3;rw[am h3]at d;refine gA I ⟨h1,A,[11],⟨B,by rw[d0,d]⟩,zM (bi ⟨.of_eq (by rw[d0,d];rfl),rfl,bi (bi (bi (bi (bi (bi (bi (bi (bi (bi ac)))))))))⟩) (tC I I (fun i Z=>fW (by show i<11;omega)) I I I I I I I I I I I I I I (.refl _))⟩
   .have h3: ¬A.st.on ((bn p a).getD i co)=1:=zF h3;rw[be h3]at d;refine gA I ⟨h1,A,[11],⟨B,by rw[d0,d];exact x⟩,zM (bi ⟨.of_eq (by rw[d0,d];rfl),rfl,bi (bi (bi (bi (bi (bi (bi (bi (bi (bi ac)))))))))⟩) (tC I I (fun i Z=>fW (by show i<11;omega)) I I I I I I I I I I I I I I (.refl _))⟩
 .have h1:(bn p a).length<=i:=by simpa using h1
  have j1:i=(bn p a).length:=by omega
  subst j1;have n0:ew (bn p) (f+1) a w.st=s4 a ((w.st.n:Int)+1) (G (bn p a).length):=by
   show s4 a _ ((bn p a).foldl _ _)=s4 a _ (((bn p a).take (bn p a).length).foldl _ _);rw[TV]
  have a0: ∀(w':TW) (k:Nat) (u:AS) (e:Exit),e= .normal∨e= .ret->10<=k->k<u.nx->jv mz u f138.results.toList=dl (pI (G (bn p a).length).1)->w'.Ok (ns p)->w'.st=(s4 a ((w.st.n:Int)+1) (G (bn p a).length)).2->
    mD 11 (sg 10 [k]) u.h (tH (w6 (cv p (cZ p))) w' 10)->KY mz f138.results.toList 10 (fun r h n=> ∃w':TW,w'.Ok (ns p)∧w'.st=(ew (bn p) (f+1) a w.st).2∧r=pI (ew (bn p) (f+1) a w.st).1∧h=tH (w6 (cv p (cZ p))) w' 10∧n=11) e u:=by
   intro w' k u e he hk k1 hr s0 w0 hh;refine kF [k] he hr ⟨w',s0,by rw[n0];exact w0,rfl,rfl,rfl⟩ ⟨rfl,by show 10<=u.nx;omega,by simpa using k1,⟨.of_eq ?_,rfl,ac⟩,hh,?_⟩
   .show pI (G (bn p a).length).1=pI (ew (bn p) (f+1) a w.st).1;rw[n0];unfold s4;split<;>rfl
   .show[0,1,2,3,4,5,6,7,8,k].Nodup;simp;omega
  generalize G (bn p a).length=q at*
  refine zE I I (fun h4=>?_) fun h4=>?_
  .have h4: ¬q.1=(w.st.n:Int)+1:=zF h4;refine gA I (a0 A 11 _ _ (.inr I) (by omega) (by show 11<12;omega) I B (by rw[s4,be h4];exact x) ?_);exact tC I I (fun i Z=>fW (by omega)) I I I I I I I I I I I I I I (.refl _)
  have h4:q.1=(w.st.n:Int)+1:=zT h4;have hE:(s4 a ((w.st.n:Int)+1) q).2=fG a ((w.st.n:Int)+1) q.2.stack.length q.2:=by rw[s4,am h4]
  have D:q.2.on a=1:=(j.inv.wo a).2 (by rw[j.stack];simp);have hF:fG a ((w.st.n:Int)+1) (t2.length+1) q.2=(s4 a ((w.st.n:Int)+1) q).2:=by
   rw[hE,rj (by omega) j.stack j.at_ D,rj (by rw[j.stack];simp;omega) j.stack j.at_ D]
  generalize(s4 a ((w.st.n:Int)+1) q).2=F at hF a0;refine gA I ?_;refine ly (σ:={v:TW//v.Ok (ns p)∧((∃t,v.stack=w.stack++a::t∧a∉t∧v.stack.length<=64∧v.st.on a=1∧fG a ((w.st.n:Int)+1) (t.length+1) v.st=F)∨(v.st.on a≠1∧v.st=F))})
   (fun v=>⟨(9,pI ((w.low.length:Int)+1))::(10,pI q.1)::vF a,tH (w6 (cv p (cZ p))) v.1 12,13⟩) (fun v=>v.1.stack.length) ⟨A,B,.inl ⟨t2,by rw[show A.stack=A.st.stack from rfl,x];exact j.stack,j.at_,TQ (TW.wo B (x▸j.inv)) i0,by rw[x];exact D,by rw[x];exact hF⟩⟩ [11]
   (zW (tC I I (fun i Z=>fW (by show i<12;omega)) I I I I I I I I I I I I I I (.refl _))) fun v=>?_
  obtain⟨v,k0,hJ⟩:=v;rcases hJ with⟨t,hs,a1,m0,c0,J⟩|⟨c0,f1⟩
  rotate_left
  .refine zJ I I (fun h5=>?_) fun h5=>?_
   .exact absurd (zT h5) c0
   refine gA I (a0 v 12 _ _ (.inr I) (by omega) (by show 12<13;omega) I k0 f1 ?_);exact tC I I (fun i Z=>fW (by omega)) I I I I I I I I I I I I I I (.refl _)
  have key: ∃u b,v.stack=u++ [b]∧((b=a∧x8 ((w.st.n:Int)+1) v.st=F)∨ ∃t',u=w.stack++a::t'∧a∉t'∧b≠a∧fG a ((w.st.n:Int)+1) (t'.length+1) (x8 ((w.st.n:Int)+1) v.st)=F):=by
   rcases t.eq_nil_or_concat with e|⟨t',b,e⟩
   .subst e;refine⟨w.stack,a,hs,.inl ⟨rfl,?_⟩⟩;rw[Ur,fG,am c0]at J;exact J
   .rw[VP]at e;subst e;refine⟨w.stack++a::t',b,by rw[hs];simp,.inr ⟨t',rfl,fun h=>a1 (by simp[h]),fun h=>a1 (by simp[h]),?_⟩⟩;rw[fG,am c0,S1]at J;exact J
  obtain⟨u,b,e0,f0⟩:=key;have s1:u.length+1<=64:=by rw[e0,S1]at m0;exact m0
  have d1:v.stack≠ []:=by rw[e0];simp
  have x0:v.stack.length=u.length+1:=by rw[e0,S1];rfl
  have p1:tH (w6 (cv p (cZ p))) v 12=[(0,dl (.cells [.mp 6])),(1,dl (.cells [.mp 7])),(2,dl (.cells [.sl 12 0 (u.length+1) 1])),(3,dl (.cells [.iv (w6 (cv p (cZ p)))])),(4,dl (.cells [yV])),(5,dl (.cells [.mp 8])),
    (6,dl (cN v.low)),(7,dl (cN v.on)),(8,dl (cN v.ring)),(12,dl (aY 1 (u++ [b]) cA))]:=by
   unfold tH;rw[y7 (.inr d1),y9 (.inr d1),x0,e0]
  show GO prog _ _ _ ⟨_,tH (w6 (cv p (cZ p))) v 12,_⟩;rw[p1];refine zE I I (fun h5=>?_) fun h5=>?_
  .exact absurd c0 (zF h5)
  refine gM 9 I (l4 ab I I I I I (Ff u b) I I ?_);have z0:(v.pop u b ((w.st.n:Int)+1)).Ok (ns p)∧((∃t,(v.pop u b ((w.st.n:Int)+1)).stack=w.stack++a::t∧a∉t∧(v.pop u b ((w.st.n:Int)+1)).stack.length<=64∧(v.pop u b ((w.st.n:Int)+1)).st.on a=1∧fG a ((w.st.n:Int)+1) (t.length+1) (v.pop u b ((w.st.n:Int)+1)).st=F)∨((v.pop u b ((w.st.n:Int)+1)).st.on a≠1∧(v.pop u b ((w.st.n:Int)+1)).st=F)):=by
   refine⟨TW.Oo k0 u b _,?_⟩;rcases f0 with⟨rfl,p0⟩|⟨t',hu,r0,i1,p0⟩
   .refine .inr ⟨?_,by rw[TW.FZ e0];exact p0⟩;show cI .str (cH .str v.on b 2) b 0≠1;rw[eD,am I];decide
   .refine .inl ⟨t',hu,r0,by show u.length<=64;omega,?_,by rw[TW.FZ e0];exact p0⟩;show cI .str (cH .str v.on b 2) a 0=1;rw[eD,be i1];exact c0
  have b1:(v.pop u b ((w.st.n:Int)+1)).stack.length<v.stack.length:=by show u.length<v.stack.length;omega
  rcases Fg 12 u b with hc|hc
  .refine gA I (tk ab u.length I I I I I I I (by omega) (by omega) (by omega) (.inl ⟨hc.1,rfl⟩) I ?_);refine gA I ⟨⟨v.pop u b ((w.st.n:Int)+1),z0⟩,[12],b1,zW (tC I I (fun i Z=>fW (by show i<12;omega)) I I I I I I I I I I hc.2.symm I I I (za u b))⟩
  .refine gA I (tk ab u.length I I I I I I I (by omega) (by omega) (by omega) (.inr ⟨hc.1,rfl⟩) I ?_);refine gA I ⟨⟨v.pop u b ((w.st.n:Int)+1),z0⟩,[12],b1,zW (tC I I (fun i Z=>fW (by show i<12;omega)) I I I I I I I I I I hc.2.symm I I I (za u b))⟩
theorem Pp(j:dA){p:Prog}(hf:s5 p)(u:(cZ p).length<=100000000): ∀f,O6 p f
 |0=>fun path a w y hI x d A B=>by
  have:=km hI.mw d x;omega
 |f+1=>EU j hf u f (Pp j hf u f)
theorem DO(d:dA){p:Prog}(hf:s5 p)(hs:List (ae×ae×Nat)):Pure prog 140 [.iv (w6 (cv p hs))] (.iv (strs (ns p))):=by
 have h:=Fq d (cv p hs) (by have:=hf.len;simp[cv];omega);rw[show(cv p hs).map (·.1)=p.aw.map Decl.name from BH p hs]at h;exact h
abbrev JR:PV:= .cJ (.func 138) [] [.ptr 4 0,.ptr 5 0,.ptr 7 0,.ptr 0 0,.ptr 8 0,.ptr 6 0]
abbrev rH(G:IV)(w:TW)(k:Nat):AH:=[(0,dl (.cells [.iv G])),(1,dl (cN w.low)),(2,dl (cN w.on)),(3,dl (cN w.ring)),(4,dl (.cells [.mp 1])),(5,dl (.cells [.mp 2])),(6,dl (.cells [.mp 3])),(7,dl (.cells [oL w.sW k w.stack])),(8,dl (.cells [JR])),(k,dl (oM w.sW w.stack))]
theorem MP{n k:Nat}{σ:Nat->Nat}{h:AH}{G:IV}{w:TW}{B:PV}{x y A o:AO}(b:UW 9 n=is)(bk:Tv k n=is)(hs: ∀i,i<9->σ i=i)
  (g0:h.get 0=dl (.cells [.iv G])) (g1:h.get 1=dl x) (g2:h.get 2=dl y) (g3:h.get 3=dl A)
  (g4:h.get 4=dl (.cells [.mp 1])) (g5:h.get 5=dl (.cells [.mp 2])) (g6:h.get 6=dl (.cells [.mp 3])) (g7:h.get 7=dl (.cells [B])) (g8:h.get 8=dl (.cells [JR])) (g9:h.get (σ k)=dl o)
  (C:dG x (cN w.low)) (D:dG y (cN w.on)) (F:dG A (cN w.ring)) (J:B=oL w.sW (σ k) w.stack) (Y:dG o (oM w.sW w.stack)):mD n σ h (rH G w k):=by
 have Z:=SY b;have bk:=SY bk;have hb: ∀i,i<9->Tv i n=is:=fun i d=>T6 (by omega);subst J;have r: ∀i,i<9->PV.mp (σ i)=PV.mp i:=fun i d=>by rw[hs i d]
 have j: ∀i,i<9->PV.ptr (σ i) 0=PV.ptr i 0:=fun i d=>by rw[hs i d]
 have u: ∀i,i<9->bA n [PV.mp i]=is:=fun i d=>by simp only[bA,PV.low,hb i d]
 refine⟨⟨_,by rw[hs 0 (by omega)];exact g0,.of_eq I⟩,by omega,rfl,
  ⟨_,by rw[hs 1 (by omega)];exact g1,C⟩,by omega,ac,
  ⟨_,by rw[hs 2 (by omega)];exact g2,D⟩,by omega,ac,
  ⟨_,by rw[hs 3 (by omega)];exact g3,F⟩,by omega,ac,
  ⟨_,by rw[hs 4 (by omega)];exact g4,.of_eq (by simp only[AO.b3,di,PV.b3,r 1 (by omega)])⟩,by omega,u 1 (by omega),
  ⟨_,by rw[hs 5 (by omega)];exact g5,.of_eq (by simp only[AO.b3,di,PV.b3,r 2 (by omega)])⟩,by omega,u 2 (by omega),
  ⟨_,by rw[hs 6 (by omega)];exact g6,.of_eq (by simp only[AO.b3,di,PV.b3,r 3 (by omega)])⟩,by omega,u 3 (by omega),
  ⟨_,by rw[hs 7 (by omega)];exact g7,.of_eq (by simp only[AO.b3,di,kW])⟩,by omega,by simp only[AO.low,bA,y8 (T6 bk)],
  ⟨_,by rw[hs 8 (by omega)];exact g8,.of_eq (by simp only[AO.b3,di,PV.b3,j 0 (by omega),j 4 (by omega),j 5 (by omega),j 6 (by omega),j 7 (by omega),j 8 (by omega)])⟩,by omega,by simp only[AO.low,bA,PV.low,hb 0 (by omega),hb 4 (by omega),hb 5 (by omega),hb 6 (by omega),hb 7 (by omega),hb 8 (by omega)],
  ⟨_,g9,by rw[kX];exact Y⟩,bk,zb _ _ _,ac⟩
theorem uE{V:Type}{kc:KC}{ev:V->IV}{z:V}{d:Value}{u:PV->V}(y: ∀M,IR M (ev z) d):dG .fj (.map kc ev z d u []):=
 ⟨id,fun M N U w j x=>⟨#[],0,x,⟨rfl,by simp,by simp,by simp,by simp⟩,y M⟩⟩
def TW.o:TW:=⟨[],[],[],[],io⟩
theorem Oj(G:IV)(w:TW){n:Nat}:[dl (AO.cells [PV.mp 1]),dl (.cells [.mp 2]),dl (.cells [oL w.sW 10 w.stack]),dl (.cells [.iv G]),dl (.cells [JR]),dl (.cells [.mp 3]),dl (cN w.low),dl (cN w.on),dl (cN w.ring),dl (oM w.sW w.stack)]=
  (tO G w).map fun o=>dl (o.b3 (sig [4,5,7,0,8,6,1,2,3,10] n)):=by
 have d:=kW (sig [4,5,7,0,8,6,1,2,3,10] n) w.sW 9 w.stack;have j:=kX (sig [4,5,7,0,8,6,1,2,3,10] n) w.sW w.stack;show _=[dl (AO.cells [PV.mp 1]),dl (.cells [.mp 2]),dl (.cells [(oL w.sW 9 w.stack).b3 (sig [4,5,7,0,8,6,1,2,3,10] n)]),dl (.cells [.iv G]),dl (.cells [JR]),dl (.cells [.mp 3]),dl (cN w.low),dl (cN w.on),dl (cN w.ring),dl ((oM w.sW w.stack).b3 (sig [4,5,7,0,8,6,1,2,3,10] n))]
 rw[d,j];rfl
theorem NV(D:dA){p:Prog}(hf:s5 p)(hl:(cZ p).length<=100000000):Go.Al.Fn prog 95 [.iv (w6 (cv p (cZ p)))] [] fun r h n=> ∃m:NM,Go.Rg.vA (ns p) (eg p) (fun a=>cI .str m a 0)∧r= .iv (wL m)∧h=[]∧n=0:=by
 have F:=F8 hf;refine nh ab func95 I (by decide) ntmps95 I (by simp) ?_;refine gA I (zp (DO D hf (cZ p)) ?_);refine gA I ?_;refine fb 7 0 1 I I ?_
 let y:Nat->St ae:=fun i=>gE (bn p) (ns p).length ((ns p).take i) St.o
 have A: ∀i,Inv (bn p) [] (y i):=fun i=>(ra s6 (S9 _) ((ns p).take i) St.o (fun a h=>Us h) (Mw _)).1
 refine l5 0 (ns p).length (Te _) (fun i w=>⟨[(3,.ptr 4 0),(4,.ptr 5 0),(5,.ptr 6 0),(6,.ptr 7 0),(7,.ptr 8 0),(15,.iv (strs (ns p))),(16,pI (ns p).length),(17,pI i)],rH (w6 (cv p (cZ p))) w 10,11⟩)
  (fun i w=>w.Ok (ns p)∧w.st=y i) TW.o [9] ⟨⟨fun a h=>(nomatch h),T3,fun a h=>(nomatch h)⟩,rfl⟩
  (wk I I I (bi (bi (bi (bi (bi (bi (bi (bi trivial))))))))
   (MP I I (fun i C=>fW (by show i<10;omega)) I I I I I I I I I I (uE eE) (uE eE) (uE eE) I (.of_eq I)) I) fun i w C Y=>?_
 obtain⟨B,x⟩:=Y;refine zJ I I (fun d=>?_) fun d=>?_
 .have d:i<(ns p).length:=by simpa using d
  have u:y (i+1)=if(y i).low ((ns p).getD i co)=0 then(ew (bn p) (ns p).length ((ns p).getD i co) (y i)).2 else y i:=iB d;refine zJ I I (fun j=>?_) fun j=>?_
  .have j:w.st.low ((ns p).getD i co)=0:=zT j;rw[<-x,am j]at u;refine gA I (qx [4,5,7,0,8,6,1,2,3,10] (Pp D hf hl (ns p).length [] ((ns p).getD i co) w B (x▸A i) j (lz d) (fun g Z=>nomatch Z) (Uz _ _)) I I I I I (Oj _ _) I ?_);rintro r h' n' ⟨w3,hok3,hst3,rfl,rfl,rfl⟩;refine⟨_,rfl,?_⟩;refine gA I ?_
   exact⟨d,w3,[11],⟨hok3,by rw[u];exact hst3⟩,wk I I I (bi (bi (bi (bi (bi (bi (bi (bi ac))))))))
    (MP I I (fun i C=>fW (by show i<10;omega)) I I I I I I I I I I (.refl _) (.refl _) (.refl _) (kW _ _ _ _) (.of_eq (kX _ _ _))) I⟩
  .have j: ¬w.st.low ((ns p).getD i co)=0:=zF j;rw[<-x,be j]at u;refine gA I ?_
   exact⟨d,w,[10],⟨B,u.symm⟩,wk I I I (bi (bi (bi (bi (bi (bi (bi (bi ac))))))))
    (MP I I (fun i C=>fW (by show i<10;omega)) I I I I I I I I I I (.refl _) (.refl _) (.refl _) I (.refl _)) I⟩
 .have d:(ns p).length<=i:=by simpa using d
  have hr:Go.Rg.vA (ns p) (eg p) (fun a=>cI .str w.ring a 0):=by
   have j:=FN hf.nodup (S9 (ns p).length);have G:y i=gE (bn p) (ns p).length (ns p) St.o:=by show gE _ _ ((ns p).take i) _=_;rw[Tf d]
   have J:(fun a=>cI .str w.ring a 0)=(gE (bn p) (ns p).length (ns p) St.o).ring:=by rw[<-G,<-x];rfl
   rw[J];exact j
  refine gA I ⟨.inr I,_,rfl,fw.map 3 I (.done ⟨.iv (wL w.ring),[],0,[],⟨w.ring,hr,rfl,rfl,rfl⟩,?_⟩)⟩;exact⟨rfl,Te _,by simp,⟨.of_eq I,rfl,ac⟩,ac,T3⟩
end Go.Proofs.YtbhphmfbligliaaGreatDoor
namespace Go.Proofs.YtbhphmfbligliaaGreatDoor
open Go Go.Al Go.Proofs.Tryz
theorem N6(l:List ae)(s:ae):Pure prog 178 [.iv (strs l),pS s] (pI (pf (fun x:ae=>kw (s=x)) l)):=by
 refine FY (bP func178 I (by decide)) ⟨_,_,Tm⟩ fun u=>?_;simp only[maxLen]at u;refine ai ab func178 I (by decide) ntmps178 I (by simp) I ?_;refine gA I ?_
 refine aJ 0 l.length (Te _) (fun i=>⟨[(0,.iv (strs l)),(1,pS s),(7,pI l.length),(8,pI i)],[],0⟩) (fun i=>(l.take i).any (fun x:ae=>kw (s=x))=jp) [] (by simp)
  (wk0 I I (bi (bi (bi (bi trivial)))) I) fun i A y=>?_
 refine zJ I I (fun d=>?_) fun d=>?_
 .have d:i<l.length:=by simpa using d
  refine zJ I I (fun j=>?_) fun j=>?_
  .have j:(fun x:ae=>kw (s=x)) (l.getD i co)=is:=j;rw[hP y d j];exact zU I
  .have j:(fun x:ae=>kw (s=x)) (l.getD i co)=jp:=j;refine gA I ⟨d,(c5 y d).2 j,[],wk0 I I (bi (bi (bi (bi ac)))) I⟩
 .have d:l.length<=i:=by simpa using d
  rw[fT (any_none y d)];exact zU I
theorem KS(l:List ae)(s:ae):(l.any fun x=>kw (s=x))=dQ l s:=by
 rw[Uo,bO,Uq];constructor
 .rintro⟨x,hx,h⟩;exact(zT h)▸hx
 .exact fun h=>⟨s,h,decide_eq_true I⟩
theorem DQ(l:List ae)(s:ae):Pure prog 142 [.iv (strs l),pS s] (pB (dQ l s)):=by
 refine ai ab func142 I (by decide) ntmps142 I (by simp) I ?_;refine gA I (zp (N6 l s) ?_);refine gA I (zL (.of_eq ?_));exact mN (by rw[<-KS];exact hQ _ l)
def n8(m:NM)(r:aq)(l:Lit):Bool:=kw (l.kind=1)&&kw (cI .str m l.atom.rel 0=cI .str m r.head.rel 0)
abbrev Og(m:NM)(r:aq):List AO:=[.cells [.iv (wL m)],aD r.c]
abbrev JJ(m:NM)(r:aq):AH:=[(0,dl (.cells [.iv (wL m)])),(1,dl (aD r.c))]
theorem Jw(m:NM)(r:aq)(l:Lit):bB prog 180 [ag l.c,.ptr 0 0,.ptr 1 0] (Og m r) (pB (n8 m r l)) (JJ m r) 2:=by
 refine an ab func180 I (by decide) ntmps180 I (by simp) ?_;refine zJ I I (fun d=>?_) fun d=>?_
 .have d:l.kind=1:=zT d;refine gA I (zD [] I (zM ⟨.of_eq (mN (by rw[n8,decide_eq_true d,U5])),rfl,ac⟩ ((zO (zK ac)))))
 .have d: ¬l.kind=1:=zF d;refine gA I (zD [] I (zM ⟨.of_eq (mN (by rw[n8,decide_eq_false d,US])),rfl,ac⟩ ((zO (zK ac)))))
abbrev FI:PV:= .cJ (.func 180) [] [.ptr 0 0,.ptr 1 0]
theorem Ju(m:NM)(r:aq)(l:List Lit):bB prog 230 [.iv (bz 30 l Lit.c),FI] (Og m r) (pI (pf (n8 m r) l)) (JJ m r) 2:=by
 refine pq (bP func230 I (by decide)) ⟨_,_,Tm⟩ fun u=>?_;simp only[maxLen]at u;refine an ab func230 I (by decide) ntmps230 I (by simp) ?_;refine gA I ?_
 refine aJ 0 l.length (Te _) (fun i=>⟨[(0,.iv (bz 30 l Lit.c)),(1,FI),(7,pI l.length),(8,pI i)],JJ m r,2⟩) (fun i=>(l.take i).any (n8 m r)=jp) [] (by simp)
  (zW ((zO (zK trivial)))) fun i y x=>?_
 refine zJ I I (fun d=>?_) fun d=>?_
 .have d:i<l.length:=by simpa using d
  refine gA I (zq [0,1] (Jw m r (l.getD i co)) ?_);refine zJ I I (fun j=>?_) fun j=>?_
  .have j:n8 m r (l.getD i co)=is:=j;rw[hP x d j];refine gA I (zD [] I (zW ((zO (zK ac)))))
  .have j:n8 m r (l.getD i co)=jp:=j;refine gA I ⟨d,(c5 x d).2 j,[],zW ((zO (zK ac)))⟩
 .have d:l.length<=i:=by simpa using d
  rw[fT (any_none x d)];refine gA I (zD [] I (zW ((zO (zK ac)))))
theorem Jv(m:NM)(r:aq)(l:List Lit):bB prog 179 [.iv (bz 30 l Lit.c),FI] (Og m r) (pB (l.any (n8 m r))) (JJ m r) 2:=by
 refine an ab func179 I (by decide) ntmps179 I (by simp) ?_;refine gA I (zq [0,1] (Ju m r l) ?_);refine gA I (zD [] I (zM ⟨.of_eq (mN (hQ _ l)),rfl,ac⟩ ((zO (zK ac)))))
theorem NU(m:NM)(r:aq):Pure prog 143 [ag r.c,.iv (wL m)] (pB (r.body.any (n8 m r))):=by
 refine ai ab func143 I (by decide) ntmps143 I (by simp) I ?_;refine gA I (zq [1,0] (Jv m r r.body) ?_);exact zU I
def vL(m:NM)(r:aq)(l:Lit):Bool:=kw (l.kind≠1)&&(named l).any fun t=>kw (cI .str m t 0=cI .str m r.head.rel 0)
def vV(m:NM)(r:aq)(t:Term):Bool:=kw (t.kind=1)&&!dQ (kK r) t.var&&r.body.any (n8 m r)
def je(m:NM)(r:aq):fV:=match r.body.find? (vL m r) with
 |some l=>(70,l.at)
 |none=>if r.head.aj.any (vV m r)=is then(71,r.at_) else fV.z
theorem NL(m:NM)(r:aq)(hb:r.size<=10000000):Pure prog 96 [ag r.c,.iv (wL m)] (ag (je m r).c):=by
 have D:r.body.length<=10000000:=by have:=Lit.aA r.body;unfold aq.size at hb;omega
 have Y:r.head.aj.length<=10000000:=by unfold aq.size at hb;omega
 refine ai ab func96 I (by decide) ntmps96 I (by simp) I ?_;refine gA I ?_;refine aJ 0 r.body.length (Te _) (fun i=>⟨[(1,.iv (wL m)),(2,.ptr 0 0),(4,.ptr 1 0),(13,.iv (lits r.body)),(14,pI r.body.length),(15,pI i)],[(0,dl (aD r.c)),(1,dl (aD fV.z.c))],2⟩) (fun i=>(r.body.take i).any (vL m r)=jp) [] (by simp)
  (zW (zK (zK trivial))) fun i Z A=>?_
 refine zJ I I (fun x=>?_) fun x=>?_
 .have x:i<r.body.length:=by simpa using x
  have J:(r.body.getD i co).size<=10000000:=by have:=Lit.b6 r.body i x;unfold aq.size at hb;omega
  have G:=lh (r.body.getD i co);refine gA I (zp (Cr (r.body.getD i co) (by omega)) ?_);refine gA I ?_;refine aJ 0 (named (r.body.getD i co)).length (Te _) (fun k=>⟨[(1,.iv (wL m)),(2,.ptr 0 0),(4,.ptr 1 0),(6,.ptr 2 0),(13,.iv (lits r.body)),(14,pI r.body.length),(15,pI i),(20,.iv (strs (named (r.body.getD i co)))),(21,pI (named (r.body.getD i co)).length),(22,pI k)],[(0,dl (aD r.c)),(1,dl (aD fV.z.c)),(2,dl (aD (r.body.getD i co).c))],3⟩)
   (fun k=>kw ((r.body.getD i co).kind≠1)=jp∨((named (r.body.getD i co)).take k).any (fun t=>kw (cI .str m t 0=cI .str m r.head.rel 0))=jp) [] (.inr (by simp))
   (zW (zK (zK (zK trivial)))) fun k F hK=>?_
  refine zJ I I (fun d=>?_) fun d=>?_
  .have d:k<(named (r.body.getD i co)).length:=by simpa using d
   refine zJ I I (fun j=>?_) fun j=>?_
   .have j: ¬(r.body.getD i co).kind=1:=by simpa using j
    have hK:=hK.resolve_left (by simpa using j);refine zJ I I (fun u=>?_) fun u=>?_
    .have u:cI .str m ((named (r.body.getD i co)).getD k co) 0=cI .str m r.head.rel 0:=zT u;have C:vL m r (r.body.getD i co)=is:=by
      rw[vL,decide_eq_true j,U5];exact Dq d (decide_eq_true u)
     rw[je,nk A x C];exact zU I
    .have u: ¬cI .str m ((named (r.body.getD i co)).getD k co) 0=cI .str m r.head.rel 0:=zF u;refine gA I ⟨d,.inr ((c5 hK d).2 (decide_eq_false u)),[],zW (zK (zK (zK ac)))⟩
   .have j:(r.body.getD i co).kind=1:=by simpa using j
    refine gA I ⟨d,.inl (decide_eq_false fun h=>h j),[],zW (zK (zK (zK ac)))⟩
  .have d:(named (r.body.getD i co)).length<=k:=by simpa using d
   have C:vL m r (r.body.getD i co)=jp:=by
    rcases hK with hK|hK
    .rw[vL,hK,US]
    .rw[vL,any_none hK d,U9]
   refine gA I ⟨x,(c5 A x).2 C,[],zW (zK (zK ac))⟩
 have x:r.body.length<=i:=by simpa using x
 have B:r.body.find? (vL m r)=io:=lB (any_none A x);rw[je,B];refine gA I (zp (Ss r hb) ?_);refine gA I ?_;refine aJ 0 r.head.aj.length (Te _) (fun k=>⟨[(1,.iv (wL m)),(2,.ptr 0 0),(4,.ptr 1 0),(9,.iv (strs (kK r))),(49,.iv (bz 5 r.head.aj Term.c)),(50,pI r.head.aj.length),(51,pI k)],[(0,dl (aD r.c)),(1,dl (aD fV.z.c))],2⟩) (fun k=>(r.head.aj.take k).any (vV m r)=jp) [] (by simp)
  (zW (zK (zK trivial))) fun k F hK=>?_
 refine zJ I I (fun d=>?_) fun d=>?_
 .have d:k<r.head.aj.length:=by simpa using d
  have no:vV m r (r.head.aj.getD k co)=jp->(r.head.aj.take (k+1)).any (vV m r)=jp:=(c5 hK d).2;refine zJ I I (fun j=>?_) fun j=>?_
  .have j:(r.head.aj.getD k co).kind=1:=zT j;refine gA I (zp (DQ (kK r) (r.head.aj.getD k co).var) ?_);refine zJ I I (fun u=>?_) fun u=>?_
   .have u:(!dQ (kK r) (r.head.aj.getD k co).var)=is:=u;refine gA I (zp (NU m r) ?_);refine zJ I I (fun y=>?_) fun y=>?_
    .have y:r.body.any (n8 m r)=is:=y;rw[am (Dq d (by rw[vV,decide_eq_true j,u,y];rfl))];exact zU I
    .have y:r.body.any (n8 m r)=jp:=y;refine gA I ⟨d,no (by rw[vV,y,U9]),[],zW (zK (zK ac))⟩
   .have u:(!dQ (kK r) (r.head.aj.getD k co).var)=jp:=u;refine gA I ⟨d,no (by rw[vV,u,U9,US]),[],zW (zK (zK ac))⟩
  .have j: ¬(r.head.aj.getD k co).kind=1:=zF j;refine gA I ⟨d,no (by rw[vV,decide_eq_false j,US,US]),[],zW (zK (zK ac))⟩
 .have d:r.head.aj.length<=k:=by simpa using d
  rw[be (by rw[any_none hK d];decide)];exact zU I
theorem find_congr{α:Type}{f g:α->Bool}: ∀{l:List α},(∀x∈l,f x=g x)->l.find? f=l.find? g
 | [],_=>rfl
 |x::l,h=>by
  rw[WX,WX,h x Tm,find_congr fun y d=>h y (Tl _ d)]
theorem vp{α:Type}{f g:α->Bool}{l:List α}(h: ∀x∈l,f x=g x):l.any f=l.any g:=by
 rw[Uo,Uq,Uq];exact⟨fun⟨x,hx,h1⟩=>⟨x,hx,by rw[<-h x hx];exact h1⟩,fun⟨x,hx,h1⟩=>⟨x,hx,by rw[h x hx];exact h1⟩⟩
theorem yi{p:Prog}{a:ae}(h:a∈p.aw.map Decl.name):a∈ns p:=by rw[ns,lj];exact h
theorem Of{p:Prog}(hf:s5 p){m:NM}(hR:Go.Rg.vA (ns p) (eg p) (fun a=>cI .str m a 0)){r:aq}(hr:r∈p.rules):r.body.any (n8 m r)=Bf p r:=by
 refine vp fun l j=>?_;rw[n8];by_cases d:l.kind=1
 .have u:l.atom.rel∈named l:=by rw[qn,am (.inl d)];exact UZ _
  rw[r6 hR (yi (hf.lits r hr l j _ u)) (yi (hf.C3 r hr))]
 .rw[decide_eq_false d];rfl
theorem ES{p:Prog}(hf:s5 p){m:NM}(hR:Go.Rg.vA (ns p) (eg p) (fun a=>cI .str m a 0)){r:aq}(hr:r∈p.rules):je m r=xB p r:=by
 have d:r.body.find? (vL m r)=xK p r:=find_congr fun l u=>by
  rw[vL];congr 1;exact vp fun t x=>(r6 hR (yi (hf.lits r hr l u t x)) (yi (hf.C3 r hr))).symm
 have j:r.head.aj.any (vV m r)=(rN r&&Bf p r):=by
  rw[<-Of hf hR hr,rN];have:vV m r=fun t=>(kw (t.kind=1)&&!dQ (kK r) t.var)&&r.body.any (n8 m r):=rfl;rw[this];generalize r.body.any (n8 m r)=c;cases c<;>simp
 rw[je,xB,d];cases xK p r with
 |some l=>rfl
 |none=>
  simp only[j,Tz]
theorem NX(d:dA){p:Prog}(hb:p.fit)(h: ¬(dX p).1=0):Pure prog 93 [ag p.c] (.aZ [.iv (.v (.map io)),pB jp]):=by
 have:=Mq d p hb;rwa[uS,be h,decide_eq_false h]at this
theorem NW(d:dA){p:Prog}(hb:p.fit)(h:(dX p).1=0):Pure prog 93 [ag p.c] (.aZ [.iv (w6 (cv p (cZ p))),pB is]):=by
 have:=Mq d p hb;rwa[uS,am h,decide_eq_true h]at this
theorem tU{α β:Type}(f:α->List β)(g:α->Nat)(h: ∀a,(f a).length<=g a): ∀l:List α,(l.flatMap f).length<=(l.map g).sum
 | []=>S9 _
 |a::l=>by
  have d:=tU f g h l;have j:=h a;rw[TJ,S1,Tg,UY];omega
theorem fQ: ∀l:List Lit,Lit.au l=(l.map Lit.size).sum
 | []=>rfl
 |x::l=>by rw[Lit.au,fQ l,Tg,UY]
theorem Ej{p:Prog}(hs:p.size<=10000000):(cZ p).length<=100000000:=by
 have d:=tU (fun r:aq=>r.body.flatMap fun l=>(named l).map fun t=>(r.head.rel,t,l3 l)) aq.size (fun r=>by
  have:=tU (fun l=>(named l).map fun t=>(r.head.rel,t,l3 l)) Lit.size (fun l=>by rw[TB];exact lh l) r.body;rw[<-fQ]at this
  unfold aq.size;omega) p.rules
 unfold Prog.size at hs;show(p.rules.flatMap _).length<=_;omega
theorem N8(F:dA)(p:Prog)(hb:p.fit)(hs:p.size<=10000000):Pure prog 44 [ag p.c] (ag (ch p).c):=by
 by_cases B:(dX p).1=0;rotate_left
 .rw[ch,am B];refine ai ab func44 I (by decide) ntmps44 I (by simp) I ?_;refine gA I (zp (NX F hb B) ?_);refine zE I I (fun C=>?_) fun C=>?_
  .cases C
  refine gA I (zp (c24 p hb) ?_);exact zU I
 have Y:=yB B;have a0:p.rules.length<=1000000000:=hb.2.1;rw[ch,be (by simpa using B)];refine ai ab func44 I (by decide) ntmps44 I (by simp) I ?_;refine gA I (zp (NW F hb B) ?_);refine zJ I I (fun C=>?_) fun C=>?_
 .cases C
 refine gA I (qx [] (NV F Y (Ej hs)) I I I I I I I ?_);rintro r h' n' ⟨m,hR,rfl,rfl,rfl⟩;refine⟨_,rfl,?_⟩;have Z:p.rules.map (je m)=p.rules.map (xB p):=Ux fun r hr=>ES Y hR hr;rw[<-Z]
 have A: ∀i,i<p.rules.length->(p.rules.map (je m)).getD i co=je m (p.rules.getD i co):=fun i J=>by
  rw[S4,S6,S5 J,S4,S5 J];rfl
 have u:(p.rules.map (je m)).length=p.rules.length:=TB _;refine gA I ?_;refine aJ 0 p.rules.length (Te _) (fun i=>⟨[(1,.ptr 0 0),(2,.ptr 1 0),(5,.iv (wL m)),(21,.iv (bz 5 p.rules aq.c)),(22,pI p.rules.length),(23,pI i)],[(0,dl (aD p.c)),(1,dl (aD fV.z.c))],2⟩) (fun i=>((p.rules.map (je m)).take i).any (fun d=>kw (d.1≠0))=jp) [] (by simp)
  (zW (zK (zK trivial))) fun i J D=>?_
 refine zJ I I (fun j=>?_) fun j=>?_
 .have j:i<p.rules.length:=by simpa using j
  have y:=hb.2.2 _ (lz j);have G:=A i j;refine gA I (zp (NL m (p.rules.getD i co) y.1) ?_);refine zJ I I (fun x=>?_) fun x=>?_
  .have x: ¬(je m (p.rules.getD i co)).1=0:=by simpa using x
   rw[nk D (by rw[u];exact j) (by rw[G];exact decide_eq_true x),G];exact zU I
  .have x:(je m (p.rules.getD i co)).1=0:=by simpa using x
   refine gA I ⟨j,(c5 D (by rw[u];exact j)).2 (by rw[G];simpa using x),[],zW (zK (zK ac))⟩
 .have j:p.rules.length<=i:=by simpa using j
  rw[lB (any_none D (by rw[u];exact j))];exact zU I
end Go.Proofs.YtbhphmfbligliaaGreatDoor
namespace Go.Proofs.YtbhphmfbligliaaGreatDoor
open Go Go.Al Go.Proofs.Tryz Go.En
abbrev pV(n:Int):PV:= .iv (.v (.int .u32 n))
def O4(s:Int):Int:=IntKind.u32.wrap ((BitVec.ofInt IntKind.u32.bits s&&&BitVec.ofInt IntKind.u32.bits 1).toNat:Int)
def P7(s:Int):Int:=s.fdiv (2 ^ min (1:Int).toNat IntKind.u32.bits)
def Du(a b:Int):Int:=IntKind.u32.wrap ((BitVec.ofInt IntKind.u32.bits a ^^^ BitVec.ofInt IntKind.u32.bits b).toNat:Int)
def KK(s:Int):Int:=if O4 s=1 then Du (P7 s) 2197175160 else P7 s
def xu(s:Int):Nat->Int
 |0=>s
 |k+1=>KK (xu s k)
def Dm(s:Int)(c:UInt8):Int:=xu (Du s (IntKind.u32.wrap (c.toNat:Int))) 8
def P3(l:By):Int:=IntKind.u32.wrap ((BitVec.ofInt IntKind.u32.bits (if IntKind.u32.signed then-1 else IntKind.u32.max) ^^^ BitVec.ofInt IntKind.u32.bits (l.foldl Dm 4294967295)).toNat:Int)
theorem RZ(l:By)(hb:l.length<=1000000000):Pure prog 47 [.iv (bz 1 l bD)] (pV (P3 l)):=by
 refine ai ab func47 I (by decide) ntmps47 I (by simp) I ?_;refine gA I ?_;refine aJ 0 l.length (Te _) (fun i=>⟨[(3,pV ((l.take i).foldl Dm 4294967295)),(7,.iv (bz 1 l bD)),(8,pI l.length),(9,pI i)],[],0⟩) (fun _=>True) [] ac
  (wk I I I (bi (bi (bi (bi trivial)))) trivial I) fun i A _=>?_
 refine gA I ?_;refine S3 (fun j=>?_) (fun j=>?_)
 .have j:i<l.length:=by simpa using j
  have y:=iB (g:=Dm) (b:=4294967295) j;generalize(l.take i).foldl Dm 4294967295=s at*
  refine gA I ?_;refine aJ 0 8 (Te _) (fun k=>⟨[(3,pV (xu (Du s (IntKind.u32.wrap ((l.getD i co).toNat:Int))) k)),(7,.iv (bz 1 l bD)),(8,pI l.length),(9,pI i),(17,pI k)],[],0⟩) (fun _=>True) [] ac
   (wk I I I (bi (bi (bi (bi (bi trivial))))) trivial I) fun k B _=>?_
  have d:xu (Du s (IntKind.u32.wrap ((l.getD i co).toNat:Int))) (k+1)=KK (xu (Du s (IntKind.u32.wrap ((l.getD i co).toNat:Int))) k):=rfl;refine gA I ?_;refine S3 (fun u=>?_) (fun u=>?_)
  .have u:k<8:=by have:(k:Int)<8:=of_decide_eq_true u;omega
   generalize xu (Du s (IntKind.u32.wrap ((l.getD i co).toNat:Int))) k=z at*
   refine gA I ?_;refine S3 (fun x=>?_) (fun x=>?_)
   .have x:O4 z=1:=of_decide_eq_true x;rw[KK,am x]at d;refine gA I ⟨u,ac,[],wk I I I ⟨.of_eq (by rw[d];rfl),rfl,bi (bi (bi (bi ac)))⟩ ac I⟩
   .have x: ¬O4 z=1:=of_decide_eq_false x;rw[KK,be x]at d;refine gA I ⟨u,ac,[],wk I I I ⟨.of_eq (by rw[d];rfl),rfl,bi (bi (bi (bi ac)))⟩ ac I⟩
  .have u:k=8:=by have: ¬(k:Int)<8:=of_decide_eq_false u;omega
   subst u;refine gA I ⟨j,ac,[],wk I I I ⟨.of_eq (by rw[y];rfl),rfl,bi (bi (bi ac))⟩ ac I⟩
 .have j:l.length<=i:=by simpa using j
  rw[Tf j];refine gA I (bw I (dS (Ky I I) I) ?_);rintro t rfl;refine gA I (aR (by first|exact .inr I|exact .inl I) I (.of_eq ?_));rfl
def uD(p:Prog):ae:=if(p8 p.bare).bad=is then⟨#[]⟩ else⟨(p8 p.bare).l.toArray⟩
def bu(p:Prog):Int:=P3 (uD p).data.toList
def ov(p:Prog):Int×Int:=if(ch p).1=0 then(bu p,0) else(0,4)
theorem DZ(p:Prog):(p8 p).l.length<=p.ts:=by
 have d:=pr p.aw WS.o p.aw.length (S9 _);have j:=oQ p.rules (fL p.aw WS.o p.aw.length) p.rules.length (S9 _);have u:WS.o.l.length=0:=rfl;rw[TV]at d j;rw[p8,Prog.ts];omega
mutual
theorem Lit.tr: ∀l:Lit,l.bare.ts=l.ts
 | .mk k a op l r f v o b x=>by rw[Lit.bare,Lit.ts,Lit.ts,Lit.vm b]
theorem Lit.vm: ∀l:List Lit,Lit.ki (Lit.ig l)=Lit.ki l
 | []=>rfl
 |x::r=>by rw[Lit.ig,Lit.ki,Lit.ki,Lit.tr x,Lit.vm r]
end
mutual
theorem Lit.rS: ∀l:Lit,l.bare.size=l.size
 | .mk k a op l r f v o b x=>by rw[Lit.bare,Lit.size,Lit.size,Lit.pz b]
theorem Lit.pz: ∀l:List Lit,Lit.au (Lit.ig l)=Lit.au l
 | []=>rfl
 |x::r=>by rw[Lit.ig,Lit.au,Lit.au,Lit.rS x,Lit.pz r]
end
theorem Prog.tr(p:Prog):p.bare.ts=p.ts:=by
 unfold Prog.ts;show((p.aw.map Decl.bare).map Decl.ts).sum+((p.rules.map aq.bare).map aq.ts).sum=_;rw[UN,UN];congr 2
 .refine Ux fun r _=>?_
  show r.head.ts+Lit.ki (Lit.ig r.body)+30=_;rw[Lit.vm];rfl
theorem Prog.rS(p:Prog):p.bare.size=p.size:=by
 unfold Prog.size;show(p.aw.map Decl.bare).length+((p.aw.map Decl.bare).map fun d=>d.types.length).sum+(p.rules.map aq.bare).length+((p.rules.map aq.bare).map aq.size).sum=_;rw[UN,UN,TB,TB];congr 2;refine Ux fun r _=>?_;show r.head.aj.length+Lit.au (Lit.ig r.body)=_;rw[Lit.pz];rfl
theorem Fw(d:dA)(p:Prog)(hf:p.fit)(hs:p.size<=10000000)(u:p.ts<=800000000):Pure prog 24 [ag p.c] (.aZ [pV (ov p).1,pI (ov p).2]):=by
 have j:=DZ p.bare;rw[p.tr]at j;refine ai ab func24 I (by decide) ntmps24 I (by simp) I ?_;refine gA I (aG (N8 d p hf hs) I I I I I I ?_);refine gA I ?_;refine S3 (fun g=>?_) (fun g=>?_)
 .have g: ¬(ch p).1=0:=by
   intro h;have g:(!kw ((ch p).1=0))=is:=g;rw[h]at g;simp at g
  rw[ov,be g];refine gA I (aR (by first|exact .inr I|exact .inl I) I (.of_eq ?_));rfl
 .have g:(ch p).1=0:=by
   have g:(!kw ((ch p).1=0))=jp:=g;simpa using g
  rw[ov,am g];refine gA I (aG (QC p (by omega)) I I I I I I ?_);refine gA I (aG (NY p.bare (by rw[p.rS];omega) (by rw[p.tr];exact u)) I I I I I I ?_)
  refine gA I (w5 (b:=uD p) ab I I I I I I I I I I I (by
   show(uD p).size<=_;unfold uD;split
   .decide
   .show(p8 p.bare).l.toArray.size<=_
    rw[Vh];omega) ?_)
  have hT:(uD p).data.toList.length<=1000000000:=by
   unfold uD;split
   .decide
   .simp;omega
  refine gA I (aG (RZ (uD p).data.toList hT) I I I I I I ?_);refine gA I (aR (by first|exact .inr I|exact .inl I) I (.of_eq ?_));rfl
def Rr(p:Prog):List IV:=[bz 4 p.aw Decl.c,bz 5 p.rules aq.c,.v (.int .u32 (bu p)),wL (sT p),bz 1 (bU p) eI]
abbrev jl(p:Prog):IV:= .iY (Rr p)
theorem CE(p:Prog): ∀n,(x9 p n).length<=n
 |0=>S9 _
 |n+1=>TQ (p7 _ _ _) (Nat.succ_le_succ (CE p n))
def rM(l:List Lit):Nat:=l.countP fun x=>kw (x.kind=1)
theorem BT{l:List Lit}{i:Nat}(h:i<l.length):rM (l.take (i+1))=rM (l.take i)+if(l.getD i co).kind=1 then 1 else 0:=by
 unfold rM;rw[bb h,List.countP_append,List.countP_singleton];by_cases g:(l.getD i co).kind=1<;>simp[g]
theorem Ct(Z:dA)(p:Prog)(hf:p.fit)(hs:p.size<=10000000)(ht:p.ts<=800000000)(hc:(ch p).1=0):Al.Pure prog 57 [ag p.c] (.aZ [.iv (jl p),pI 0]):=by
 have hm:ov p=(bu p,0):=by rw[ov,am hc]
 have d0:p.aw.length+(p.aw.map fun d=>d.types.length).sum+p.rules.length+(p.rules.map aq.size).sum<=10000000:=hs;have D:=Fw Z p hf hs ht;rw[hm]at D;refine ai ab func57 I (by decide) ntmps57 I (by simp) I ?_;refine gA I (aG (D) I I I I I I ?_);refine gA I (S3 (fun g=>absurd (show(!kw ((0:Int)=0))=is from g) (by decide)) (fun g=>?_));refine gA I ?_;refine aJ 0 p.aw.length (Te _) (fun i=>⟨[(1,.ptr 0 0),(6,.ptr 3 0),(29,.iv (bz 4 p.aw Decl.c)),(30,pI p.aw.length),(31,pI i)],[(0,dl (aD p.c)),(1,dl (cN (x9 p i))),(2,dl (aY 1 [0] eI)),(3,dl (.cells [.iv (bz 4 p.aw Decl.c),.iv (bz 5 p.rules aq.c),pV (bu p),.mp 1,.sl 2 0 1 1]))],4⟩) (fun _=>True) [] ac
  (wk I I I (bi (bi (bi (bi (bi trivial))))) (hC I I I (OJ I eE I (hR I I I ⟨⟨_,rfl,.of_eq I⟩,SY I,rfl,ac⟩))) I) fun i hi _=>?_
 refine gA I ?_;refine S3 (fun C=>?_) (fun C=>?_)
 .have C:i<p.aw.length:=by simpa using C
  have Y:=CE p i;refine gA I ⟨C,ac,[],wk I I I (bi (bi (bi (bi (bi ac))))) (hC I I I (hM I I I (hR I I I ⟨⟨_,rfl,.of_eq I⟩,SY I,rfl,ac⟩))) I⟩
 .have C:p.aw.length<=i:=by simpa using C
  have B:i=p.aw.length:=by omega
  subst B;refine gA I ?_;refine aJ 0 p.rules.length (Te _) (fun i=>⟨[(6,.ptr 3 0),(45,.iv (bz 5 p.rules aq.c)),(46,pI p.rules.length),(47,pI i)],[(1,dl (cN (sT p))),(3,dl (.cells [.iv (bz 4 p.aw Decl.c),.iv (bz 5 p.rules aq.c),pV (bu p),.mp 1,.sl 4 0 (i+1) 1])),(4,dl (aY 1 (0::(p.rules.take i).map tF) eI))],5⟩) (fun _=>True) [2] ac
   (wk I I I (bi (bi (bi (bi trivial)))) (hM I I I ⟨⟨_,rfl,.of_eq I⟩,SY I,rfl,hR I I I trivial⟩) I) fun i hi _=>?_
  refine gA I ?_;refine S3 (fun y=>?_) (fun y=>?_)
  .have y:i<p.rules.length:=by simpa using y
   have c0:((p.rules.take i).map tF).length=i:=by rw[TB,TA];omega
   have G:=bb (l:=p.rules) y;have a0:(p.rules.getD i co).body.length<=1000000000:=by
    have u:=kq aq.size p.rules i y;have A:=Lit.aA (p.rules.getD i co).body;have h5:(p.rules.getD i co).size=(p.rules.getD i co).head.aj.length+Lit.au (p.rules.getD i co).body:=rfl;omega
   refine gA I ?_;refine aJ 0 (p.rules.getD i co).body.length (Te _) (fun j=>⟨[(6,.ptr 3 0),(11,pI (rM ((p.rules.getD i co).body.take j))),(45,.iv (bz 5 p.rules aq.c)),(46,pI p.rules.length),(47,pI i),(52,.iv (lits (p.rules.getD i co).body)),(53,pI (p.rules.getD i co).body.length),(54,pI j)],[(1,dl (cN (sT p))),(3,dl (.cells [.iv (bz 4 p.aw Decl.c),.iv (bz 5 p.rules aq.c),pV (bu p),.mp 1,.sl 4 0 (i+1) 1])),(4,dl (aY 1 (0::(p.rules.take i).map tF) eI))],6⟩) (fun _=>True) [] ac
    (wk I I I (bi (bi (bi (bi (bi (bi (bi (bi trivial)))))))) (hM I I I ⟨⟨_,rfl,.of_eq I⟩,SY I,rfl,hR I I I trivial⟩) I) fun j hj _=>?_
   have b0:rM ((p.rules.getD i co).body.take j)<=j:=TQ List.countP_le_length (by rw[TA];omega);refine gA I ?_;refine S3 (fun u=>?_) (fun u=>?_)
   .have u:j<(p.rules.getD i co).body.length:=by simpa using u
    have x:=BT u;refine gA I ?_;refine S3 (fun A=>?_) (fun A=>?_)
    .have A:((p.rules.getD i co).body.getD j co).kind=1:=of_decide_eq_true A;rw[am A]at x;refine gA I ⟨u,ac,[],wk I I I (bi ⟨.of_eq (by rw[x];rfl),rfl,bi (bi (bi (bi (bi (bi ac)))))⟩) (hM I I I ⟨⟨_,rfl,.of_eq I⟩,SY I,rfl,hR I I I ac⟩) I⟩
    .have A: ¬((p.rules.getD i co).body.getD j co).kind=1:=of_decide_eq_false A;rw[be A]at x;refine gA I ⟨u,ac,[],wk I I I (bi ⟨.of_eq (by rw[x];rfl),rfl,bi (bi (bi (bi (bi (bi ac)))))⟩) (hM I I I ⟨⟨_,rfl,.of_eq I⟩,SY I,rfl,hR I I I ac⟩) I⟩
   .have u:(p.rules.getD i co).body.length<=j:=by simpa using u
    have F:j=(p.rules.getD i co).body.length:=by omega
    subst F;have hw:(rM ((p.rules.getD i co).body.take (p.rules.getD i co).body.length):Int)=tF (p.rules.getD i co):=by rw[TV];rfl
    rw[hw];refine gA I ⟨y,ac,[7],wk I I I (bi (bi (bi (bi ac)))) (hM I I I ⟨⟨_,rfl,.of_eq I⟩,SY I,rfl,hR I (by rw[G,Tc,<-Tu,Tc];rfl) I ac⟩) I⟩
  .have y:p.rules.length<=i:=by simpa using y
   have B:i=p.rules.length:=by omega
   subst B;rw[TV];have J:p.rules.length+1=(0::p.rules.map tF).length:=by simp
   rw[J];refine ft 4 (fun k=>eI ((0::p.rules.map tF).getD k co)) I (dB I) (by repeat(first|exact ac|refine⟨ac,?_⟩)) ⟨ac,(by simp[AO.iR,bf,PV.bg]),db _ _ _ _ _ _,ac⟩ ?_;refine ik I ac (iJ (r:= .aZ [.iv (jl p),pI 0]) (.inr I) I (.map 1 I (.cells 3 (Rr p) I (by simp only[PV.ej,qC,Tp];rfl) (.done (.of_eq I)))))
theorem zk(j:dA)(p:Prog)(hf:p.fit)(hs:p.size<=10000000)(x:p.ts<=800000000)(hc:(ch p).1≠0):Al.Pure prog 57 [ag p.c] (.aZ [.iv (.v (.pointer io)),pI 4]):=by
 have u:ov p=(0,4):=by rw[ov,be hc]
 have d:=Fw j p hf hs x;rw[u]at d;refine ai ab func57 I (by decide) ntmps57 I (by simp) I ?_;refine gA I (aG (d) I I I I I I ?_);refine gA I ?_;refine S3 (fun zz=>?_) (fun zz=>?_)<;>(try(exact absurd zz (by decide)))
 refine gA I (aR (by first|exact .inr I|exact .inl I) I (.of_eq ?_));rfl
theorem EX{l:List Int}{i:Nat}{f:Int->Bool}(h1:i<l.length)(d:(l.take (i+1)).all f=f (l.getD i co))(j:f (l.getD i co)=jp):l.all f=jp:=by
 rw[<-T9 (i+1) l,WY,d,j];rfl
theorem Qw(p:Prog)(n:cK)(a:Nat)(ha:a<=1000000000)(hp:p.size<=10000000)(hf:n.fact.args.length<=1000000000)(hu:n.up.length<=1000000000):Al.Pure prog 59 [.iv (jl p),ag n.c,pI a] (pB (jX p n a)):=by
 have B:p.aw.length+(p.aw.map fun d=>d.types.length).sum+p.rules.length+(p.rules.map aq.size).sum<=10000000:=hp;have C:(bU p).length=p.rules.length+1:=by simp[bU]
 have A:=c16 p n.fact (by omega) hf;refine ai ab func59 I (by decide) ntmps59 I (by simp) I ?_;unfold jX;refine gA I ?_;refine S3 (fun g1=>?_) (fun g1=>?_)
 .have g1:n.cW<0:=of_decide_eq_true g1;refine gA I (aR (by first|exact .inr I|exact .inl I) I (.of_eq ?_));rw[decide_eq_false (show¬0<=n.cW by omega)];rfl
 have g1: ¬n.cW<0:=of_decide_eq_false g1;rw[decide_eq_true (show 0<=n.cW by omega),U5];refine gA I ?_;refine S3 (fun g2=>?_) (fun g2=>?_)
 .have g2:n.cW>=(bU p).length:=of_decide_eq_true g2;refine gA I (aR (by first|exact .inr I|exact .inl I) I (.of_eq ?_));rw[decide_eq_false (show¬n.cW<(bU p).length by omega)];rfl
 have g2: ¬n.cW>=(bU p).length:=of_decide_eq_false g2;rw[decide_eq_true (show n.cW<(bU p).length by omega),U5];refine gA I ?_;refine S3 (fun g3=>?_) (fun g3=>?_)
 .have g3: ¬n.kids=(bU p).getD n.cW.toNat 0:=by simpa using g3
  refine gA I (aR (by first|exact .inr I|exact .inl I) I (.of_eq ?_));rw[decide_eq_false g3];rfl
 have g3:n.kids=(bU p).getD n.cW.toNat 0:=by simpa using g3
 rw[decide_eq_true g3,U5];refine gA I (ck ab [] (Pure.BS (A)) I I I I I I I I I I I I (by(repeat' (first|exact ac|exact rfl|exact ak.refl _|exact ak.bk (by assumption)|apply S3))<;>first|omega|(simp only[S7];omega)|(simp;done)|(simp;omega)) I (by(repeat' (first|exact ac|exact rfl|exact ak.refl _|exact ak.bk (by assumption)|apply S3))<;>first|omega|(simp only[S7];omega)|(simp;done)|(simp;omega)) ?_);refine gA I ?_;refine S3 (fun g4=>?_) (fun g4=>?_)
 .have g4: ¬oB p n.fact=0:=by simpa using g4
  refine gA I (aR (by first|exact .inr I|exact .inl I) I (.of_eq ?_));rw[decide_eq_false g4];rfl
 have g4:oB p n.fact=0:=by simpa using g4
 rw[decide_eq_true g4,U5];refine gA I ?_;refine aJ 0 n.up.length (Te _) (fun i=>⟨[(2,pI a),(46,.iv (bz 1 n.up eI)),(47,pI n.up.length),(48,pI i)],[],1⟩) (fun i=>(n.up.take i).all (kQ a)=is) [] I
  (wk I I I (bi (bi (bi (bi trivial)))) trivial I) fun i D hI=>?_
 refine gA I ?_;refine S3 (fun j=>?_) (fun j=>?_)
 .have j:i<n.up.length:=by simpa using j
  have u:(n.up.take (i+1)).all (kQ a)=kQ a (n.up.getD i co):=by rw[bb j,WY,hI];simp
  refine gA I ?_;refine S3 (fun x=>?_) (fun x=>?_)
  .have x: ¬n.up.getD i co<1:=of_decide_eq_false x;refine gA I ?_;refine S3 (fun y=>?_) (fun y=>?_)
   .have y:n.up.getD i co>a:=of_decide_eq_true y;refine gA I (aR (by first|exact .inr I|exact .inl I) I (.of_eq ?_));rw[EX j u (by unfold kQ;rw[decide_eq_false (show¬n.up.getD i co<=a by omega),U9])]
   have y: ¬n.up.getD i co>a:=of_decide_eq_false y;refine gA I ⟨j,u.trans (by unfold kQ;rw[decide_eq_true (show 1<=n.up.getD i co by omega),decide_eq_true (show n.up.getD i co<=a by omega)];rfl),[],wk I I I (bi (bi (bi (bi ac)))) ac I⟩
  .have x:n.up.getD i co<1:=of_decide_eq_true (x.trans I);refine gA I (aR (by first|exact .inr I|exact .inl I) I (.of_eq ?_));rw[EX j u (by unfold kQ;rw[decide_eq_false (show¬1<=n.up.getD i co by omega)];rfl)]
 .have j:n.up.length<=i:=by simpa using j
  rw[Tf j]at hI;refine gA I (aR (by first|exact .inr I|exact .inl I) I (.of_eq ?_));rw[hI]
def pU8(n:Int):PV:= .iv (.v (.int .u8 n))
theorem N4(c:List IV):Al.Pure prog 64 [.iv (.oc 68 (.agg c))] (pU8 1):=by
 refine ai ab func64 I (by decide) ntmps64 I (by simp) I ?_;refine gA I (bw I (dS (xw I I (by intro d h;cases h) I) I) ?_);rintro t rfl;refine gA I (aR (by first|exact .inr I|exact .inl I) I (.of_eq ?_));rfl
theorem N5(c:List IV):Al.Pure prog 64 [.iv (.oc 79 (.agg c))] (pU8 2):=by
 refine ai ab func64 I (by decide) ntmps64 I (by simp) I ?_;refine gA I (bw I (dS (Ea I I (by intro d h;cases h) (by decide) (fun _=>rfl) I) I) ?_);rintro t rfl;refine gA I (bw I (dS (xw I I (by intro d h;cases h) I) I) ?_);rintro t rfl;refine gA I (aR (by first|exact .inr I|exact .inl I) I (.of_eq ?_));rfl
def dC(l:List cK):IV:=bz 5 l cK.c
theorem uY{α:Type}[Inhabited α]{l:List α}{i:Nat}(h:i<l.length):l.getD i co∈l:=by
 simp[V0,S5 h]
theorem lr(l:List da):(cD l).length=l.length:=by simp[cD]
theorem Bt{l:List da}{i:Nat}(h:i<l.length):cD (l.take (i+1))=cD (l.take i)++ [(l.getD i co).vQ i]:=by
 have d:(l.take i).length=i:=by rw[TA];omega
 rw[bb h,cD,List.zipIdx_append,Tc,d,Tp];rfl
theorem Jz(L:List da)(m:Nat)(hm:m<=1000000000)(hL:L.length<=1000000000)(G: ∀x∈L,x.kids.length<=1000000000):Al.Pure prog 367 [ag [bz 4 L da.c],pI m] (.iv (dC (cD (L.take (m+1))))):=by
 refine ai ab func367 I (by decide) ntmps367 I (by simp) I ?_;refine gA I (bw I (dS (u7 ab I I I I I I (m:=(L.take (m+1)).length) (by rw[TA];omega) (by rw[TA];omega)) I) ?_);rintro t rfl;have hK: ∀k,k<(L.take (m+1)).length->da.c (L.getD k co)=da.c ((L.take (m+1)).getD k co):=by
  intro k G;congr 1;rw[TA]at G;simp[V0,TE,show k<m+1 by omega]
 have J: ∀x∈L.take (m+1),x.kids.length<=1000000000:=fun x hx=>G x (Us hx);have c0:(L.take (m+1)).length<=1000000000:=by rw[TA];omega
 generalize b0:L.take (m+1)=K at*
 refine gA I ?_;refine kE 5 5 I ?_;refine aJ 0 K.length (Te _) (fun i=>⟨[(5,.sl 2 0 i 5),(20,.iv (bz 4 K da.c)),(21,pI K.length),(22,pI i)],[(2,dl (aY 5 (cD (K.take i)) cK.c))],3⟩) (fun _=>True) [1] ac
  (wk I I I (bi ⟨.bW I hK,rfl,bi (bi trivial)⟩) (hR I I I trivial) I) fun i hi _=>?_
 refine gA I ?_;refine S3 (fun y=>?_) (fun y=>?_)
 .have y:i<K.length:=by simpa using y
  have Y:(K.take i).length=i:=by rw[TA];omega
  have f0:(cD (K.take i)).length=i:=by rw[lr,Y]
  have Z:=Bt y;have e0:(K.getD i co).kids.length<=1000000000:=J _ (uY y);refine gA I ?_;refine fb 4 4 1 I I ?_;refine aJ 0 (K.getD i co).kids.length (Te _) (fun j=>⟨[(5,.sl 2 0 i 5),(6,pI i),(8,.ptr 4 0),(20,.iv (bz 4 K da.c)),(21,pI K.length),(22,pI i),(36,.iv (bz 1 (K.getD i co).kids eI)),(37,pI (K.getD i co).kids.length),(38,pI j)],[(2,dl (aY 5 (cD (K.take i)) cK.c)),(4,dl (.cells [pS (K.getD i co).fact.rel,.iv (bz 3 (K.getD i co).fact.args eK.c),pI (K.getD i co).cW,pI (K.getD i co).kids.length,.sl 6 0 j 1])),(6,dl (aY 1 (((K.getD i co).kids.take j).map (qS i)) eI))],7⟩) (fun _=>True) [5] ac
   (wk I I I (bi (bi (bi (bi (bi (bi (bi (bi (bi trivial))))))))) (hR I I I ⟨⟨_,rfl,.of_eq I⟩,SY I,rfl,hR I I I trivial⟩) I) fun j hj _=>?_
  refine gA I ?_;refine S3 (fun d=>?_) (fun d=>?_)
  .have d:j<(K.getD i co).kids.length:=by simpa using d
   have d0:(((K.getD i co).kids.take j).map (qS i)).length=j:=by rw[TB,TA];omega
   have a0:=bb (l:=(K.getD i co).kids) d;have C: ∀u,qS i ((K.getD i co).kids.getD j co)=u->(((K.getD i co).kids.take (j+1)).map (qS i))=((K.getD i co).kids.take j).map (qS i)++ [u]:=fun u hu=>by rw[a0,Tc,<-hu];rfl
   generalize((K.getD i co).kids.take j).map (qS i)=R at*
   refine gA I ?_;refine S3 (fun A=>?_) (fun A=>?_)
   .have A:(K.getD i co).kids.getD j co>=0:=of_decide_eq_true A;refine gA I ?_;refine S3 (fun B=>?_) (fun B=>?_)
    .have B:(K.getD i co).kids.getD j co<i:=of_decide_eq_true B;have e:=C (i-(K.getD i co).kids.getD j co) (am ⟨A,B⟩);refine gA I ⟨d,ac,[8],wk I I I (bi (bi (bi (bi (bi (bi (bi (bi (bi ac))))))))) (hR I I I ⟨⟨_,rfl,.of_eq I⟩,SY I,rfl,hR I (by rw[e,Tc];rfl) I ac⟩) I⟩
    .have B: ¬(K.getD i co).kids.getD j co<i:=of_decide_eq_false B;have e:=C 0 (be fun h=>B h.2);refine gA I ⟨d,ac,[8],wk I I I (bi (bi (bi (bi (bi (bi (bi (bi (bi ac))))))))) (hR I I I ⟨⟨_,rfl,.of_eq I⟩,SY I,rfl,hR I (by rw[e,Tc];rfl) I ac⟩) I⟩
   .have A: ¬(K.getD i co).kids.getD j co>=0:=of_decide_eq_false (A.trans I);have e:=C 0 (be fun h=>A h.1);refine gA I ⟨d,ac,[8],wk I I I (bi (bi (bi (bi (bi (bi (bi (bi (bi ac))))))))) (hR I I I ⟨⟨_,rfl,.of_eq I⟩,SY I,rfl,hR I (by rw[e,Tc];rfl) I ac⟩) I⟩
  .have d:(K.getD i co).kids.length<=j:=by simpa using d
   have F:j=(K.getD i co).kids.length:=by omega
   subst F;rw[TV];refine ft 6 (fun k=>eI (((K.getD i co).kids.map (qS i)).getD k co)) I (dB I) (by repeat(first|exact ac|refine⟨ac,?_⟩)) ⟨db _ _ _ _ _ _,(by simp[AO.iR,bf,PV.bg]),db _ _ _ _ _ _,ac⟩ ?_;refine gA I ⟨y,ac,[8],wk I I I (bi (bi (bi (bi ac)))) (hR I (by rw[Z,Tc];refine congrArg _ ?_;simp only[List.drop,List.take,Tp,Tg,Tx,cK.c,da.vQ,bz,TB]) I ac) I⟩
 .have y:K.length<=i:=by simpa using y
  have D:i=K.length:=by omega
  subst D;rw[TV];refine gA I (en (by first|exact .inr I|exact .inl I) I I (rfl) (by rw[lr]))
def HI(i:Nat)(S:List Tree):PV:=match S with
 | []=> .sl i 1 0 4
 |x::r=> .sl i 0 (r.length+1) 4
def EK(g:Tree)(S:List Tree):AO:=match S with
 | []=> .row 4 [g.c.map .iv]
 |x::r=>aY 4 (x::r) Tree.c
theorem pO(σ:Nat->Nat)(i:Nat)(S:List Tree):(HI i S).b3 σ=HI (σ i) S:=by cases S<;>rfl
theorem Jn(σ:Nat->Nat)(g:Tree)(S:List Tree):(EK g S).b3 σ=EK g S:=by
 cases S with
 |nil=>exact bK (l:=[g]) (f:=Tree.c) σ
 |cons x r=>exact bK σ
theorem nJ{n i:Nat}(h:Tv i n=is)(S:List Tree):(HI i S).low n=is:=by cases S<;>exact h
theorem Jo(n:Nat)(g:Tree)(S:List Tree):(EK g S).low n:=by
 cases S with
 |nil=>exact cP (l:=[g]) (f:=Tree.c) n
 |cons x r=>exact cP n
theorem xN{i:Nat}{S:List Tree}(h:S≠ []):HI i S= .sl i 0 S.length 4:=by
 cases S with
 |nil=>exact absurd I h
 |cons=>rfl
theorem xO{g:Tree}{S:List Tree}(h:S≠ []):EK g S=aY 4 S Tree.c:=by
 cases S with
 |nil=>exact absurd I h
 |cons=>rfl
theorem Fl(u:List Tree)(b:Tree):((u++ [b]).map fun x=>(Tree.c x).map PV.iv)[0+((((u.length+1:Nat):Int)-1).toNat)]? =dl (b.c.map .iv):=by
 rw[Tp,show(((u.length+1:Nat):Int)-1).toNat=u.length by omega];simp
theorem Jm(i:Nat)(u:List Tree):(u.length=0∧HI i u= .sl i 1 0 4)∨(0<u.length∧HI i u= .sl i 0 u.length 4):=by
 cases u with
 |nil=>exact .inl ⟨rfl,rfl⟩
 |cons x r=>exact .inr ⟨by simp,rfl⟩
theorem Ck(u:List Tree)(b:Tree):dG (aY 4 (u++ [b]) Tree.c) (EK b u):=by
 cases u with
 |nil=>exact .of_eq I
 |cons x r=>
  have e:EK b (x::r)= .row 4 (((x::r++ [b]).map fun y=>(Tree.c y).map PV.iv).take (x::r).length):=by
   rw[<-WC,List.take_left];rfl
  rw[e];exact .take
theorem OI{h r:AH}{σ:Nat->Nat}{i n:Nat}{o:AO}{g:Tree}{S:List Tree}(ho:h.get (σ i)=dl o)(he:dG o (EK g S))(hi:Tv i n=is)(hr:mD n σ h r):mD n σ h ((i,dl (EK g S))::r):=
 ⟨⟨_,ho,by rw[Jn];exact he⟩,SY hi,Jo n g S,hr⟩
theorem r5{sz:Nat}{es:List (List PV)}{e j:List PV}(h:fN e j):dG (.row sz (es++ [e])) (.row sz (es++ [j])):=by
 refine dG.Mv (by simp) fun k a b d hb=>?_;by_cases u:k<es.length
 .rw[Th u]at d hb;rw[d]at hb;cases hb;exact .refl _
 .rw[Ti (by omega)]at d hb;cases hj:k-es.length with
  |zero=>rw[hj]at d hb;cases d;cases hb;exact h
  |succ n=>rw[hj]at d;simp at d
theorem Q7{n i:Nat}{σ:Nat->Nat}{h r:AH}{cs:List PV}{d:Option TypeId}{c:List IV}(ho:h.get (σ i)=dl (.cells cs d))(he:fN cs (c.map .iv))(hi:Tv i n=is)(hr:mD n σ h r):mD n σ h ((i,dl (aD c))::r):=
 ⟨⟨_,ho,by rw[vd];exact .trans (.K4 cs d) (.cells he)⟩,SY hi,nZ n c,hr⟩
theorem FO{α:Type}[Inhabited α](l:List α)(k c:Nat)(hc:c<(l.take k).length):(l.take k).reverse.take (c+1)=(l.take k).reverse.take c++ [l.getD ((l.take k).length-1-c) co]:=by
 have d:c<(l.take k).reverse.length:=by simpa using hc
 rw[bb d];congr 2;have j:(l.take k).length<=k:=by rw[TA];omega
 simp only[V0];rw[Wr hc,TE,am (by omega)]
theorem Tree.QX(x:Tree):fN (x.c.map .iv) (x.c1.map .iv):=⟨.refl _,.refl _,.refl _,.iv (Nt _),ac⟩
structure HA (t:Tree) (m:Nat) (O:List cK) (S:List Tree):Prop where
 eq:(O++Tree.fE S.reverse).take (m+1)=t.pre.take (m+1)
 len:O.length<=m+1
 sz:O.length+Tree.au S<=t.size
theorem qV: ∀l:List Tree,Tree.au l.reverse=Tree.au l
 | []=>rfl
 |e::r=>by rw[Vt,Tree.gL,qV r,Tree.au,Tree.au,Tree.au];omega
theorem HA.start(t:Tree)(m:Nat):HA t m [] [t]:=⟨by simp[Tree.fE],by simp,by simp[Tree.au]⟩
theorem HA.Sf{t:Tree}{m:Nat}{O:List cK}(h:HA t m O []):O=t.pre.take (m+1):=by
 have d:=h.eq;rw[List.reverse_nil,Tree.fE,TC,Tf h.len]at d;exact d
theorem HA.Se{t:Tree}{m:Nat}{O:List cK}{S:List Tree}(h:HA t m O S)(hm: ¬O.length<=m):O=t.pre.take (m+1):=by
 have d:=h.eq;rw[Vo (by omega),Tf h.len]at d;exact d
theorem HA.step{t:Tree}{m:Nat}{O:List cK}{u:List Tree}{x:Tree}(h:HA t m O (u++ [x]))(hm:O.length<=m):HA t m (O++ [x.vQ]) (u++(x.kids.take (m+1)).reverse):=by
 refine⟨?_,by rw[S1,TU];omega,?_⟩
 .have j:=h.eq;rw[VX,List.reverse_singleton,Wt,Tree.fE,Tree.On,Tu]at j;rw[<-j,VX,List.reverse_reverse,Tree.mL,Tb,Wt];by_cases B:x.kids.length<=m+1
  .rw[Tf B]
  .have e:Tree.fE x.kids=Tree.fE (x.kids.take (m+1))++Tree.fE (x.kids.drop (m+1)):=by rw[<-Tree.mL,T9]
   have C:m+1<=(Tree.fE (x.kids.take (m+1))).length:=by
    have:=Tree.aA (x.kids.take (m+1));rw[Tree.p9];rw[TA]at this;omega
   have key: ∀a b c:List cK,m+1<=a.length->(O++x.vQ::(a++b)).take (m+1)=(O++x.vQ::(a++c)).take (m+1):=by
    intro a b c F;have d: ∀z,O++x.vQ::(a++z)=(O++x.vQ::a)++z:=fun z=>by simp
    have y:m+1<=(O++x.vQ::a).length:=by simp;omega
    rw[d,d,Vo y,Vo y]
   rw[e,Tb];exact key _ _ _ C
 .have A:=h.sz;rw[Tree.gL] at*
  have e:Tree.au x.kids=Tree.au (x.kids.take (m+1))+Tree.au (x.kids.drop (m+1)):=by rw[<-Tree.gL,T9]
  have D:=x.size_eq;rw[Tree.au,Tree.au]at A;rw[qV,S1,TU];omega
theorem Jt(t:Tree)(m:Nat)(hm:m<=1000000000)(ht:t.size<=1000000000):Al.Pure prog 366 [ag t.c,pI m] (.iv (dC (t.pre.take (m+1)))):=by
 refine ai ab func366 I (by decide) ntmps366 I (by simp) I ?_;refine gA I ?_;refine kE 5 5 I ?_;refine ly (σ:={v:List cK×List Tree×Tree//HA t m v.1 v.2.1})
  (fun v=>⟨[(1,pI m),(5,.sl 3 0 v.1.1.length 5),(6,HI 4 v.1.2.1)],[(3,dl (aY 5 v.1.1 cK.c)),(4,dl (EK v.1.2.2 v.1.2.1))],5⟩) (fun v=>Tree.au v.1.2.1) ⟨([],[t],t),HA.start t m⟩ [2,1]
  (wk I I I (bi (bi (bi trivial))) (hR I I I (OI I (.of_eq I) I trivial)) I) fun v=>?_
 obtain⟨⟨O,S,g⟩,F⟩:=v;have a0:=F.sz;have Z:=F.len;have b0:=Tree.aA S;dsimp only at F a0 Z b0 ⊢;rcases S.eq_nil_or_concat with rfl|⟨u,x,rfl⟩
 .have hf:=F.Sf;show GO prog _ _ _ ⟨[(1,pI m),(5,.sl 3 0 O.length 5),(6,.sl 4 1 0 4)],[(3,dl (aY 5 O cK.c)),(4,dl (.row 4 [g.c.map .iv]))],5⟩;rw[<-hf];refine gA I ?_;refine S3 (fun zz=>?_) (fun zz=>?_)<;>(try(exact absurd zz (by decide)))
  refine gA I (en (by first|exact .inr I|exact .inl I) I I (rfl) (rfl))
 rw[VP] at*
 have Y:u++ [x]≠ []:=by simp
 have i0:O.length<=1000000000:=by omega
 have D:=fun h=>F.step (u:=u) (x:=x) h;have d0:=fun h=>F.Se h;rw[xN Y,xO Y,S1,TU] at*
 refine gA I ?_;refine S3 (fun zz=>?_) (fun zz=>?_)<;>(try(have h9:=of_decide_eq_false (zz.trans I);omega))
 refine gA I ?_;refine S3 (fun g2=>?_) (fun g2=>?_);rotate_left
 .have g2: ¬O.length<=m:=by have:=of_decide_eq_false g2;omega
  rw[<-d0 g2];refine gA I (en (by first|exact .inr I|exact .inl I) I I (rfl) (rfl))
 have g2:O.length<=m:=by have:=of_decide_eq_true g2;omega
 have l0:x.kids.length<=1000000000:=by
  have h1:=x.size_eq;have h2:=Tree.aA x.kids;have h3:Tree.au (u++ [x])=Tree.au u+(x.size+0):=by rw[Tree.gL];rfl
  omega
 obtain⟨d,e0⟩: ∃d:Nat,d=min x.kids.length (m+1):=⟨_,rfl⟩
 have J:(min (x.kids.length:Int) ((m:Int)+1))=(d:Int):=by omega
 refine gM 2 I (go_cut 4 (fun(_:Unit)=>⟨[(1,pI m),(5,.sl 6 0 (O.length+1) 5),(6,HI 7 u),(7,.ptr 5 0),(8,pI ((d:Int)-1))],[(5,dl (aD x.c1)),(6,dl (aY 5 (O++ [x.vQ]) cK.c)),(7,dl (EK x u))],8⟩) I ?_ ?_)
 .refine gM 6 I (l4 ab I I I I I (Fl u x) I I ?_);rcases Jm 4 u with hc|hc
  .refine gA I (tk ab u.length I I I I I I I (by omega) (by omega) (by omega) (.inl ⟨hc.1,rfl⟩) I ?_);refine gA I (nr () [5,7,4] ?_);exact wk I I I ⟨.refl _,rfl,.refl _,rfl,.of_eq (by rw[pO];exact hc.2.symm),nJ I u,.refl _,rfl,.of_eq (by rw[J];rfl),rfl,ac⟩
    (Q7 I x.QX I ⟨⟨_,rfl,by rw[bK,aY,Tc];exact r5 ⟨.refl _,.refl _,.refl _,.refl _,.nil _ _,ac⟩⟩,SY I,cP _,OI I (Ck u x) I trivial⟩) I
  .refine gA I (tk ab u.length I I I I I I I (by omega) (by omega) (by omega) (.inr ⟨hc.1,rfl⟩) I ?_);refine gA I (nr () [5,7,4] ?_);exact wk I I I ⟨.refl _,rfl,.refl _,rfl,.of_eq (by rw[pO];exact hc.2.symm),nJ I u,.refl _,rfl,.of_eq (by rw[J];rfl),rfl,ac⟩
    (Q7 I x.QX I ⟨⟨_,rfl,by rw[bK,aY,Tc];exact r5 ⟨.refl _,.refl _,.refl _,.refl _,.nil _ _,ac⟩⟩,SY I,cP _,OI I (Ck u x) I trivial⟩) I
 intro _;have C:(x.kids.take (m+1)).length=d:=by rw[TA,e0,Nat.min_comm]
 have y:=FO x.kids (m+1);rw[C]at y;have D:=D g2;have f0:(x.kids.take (m+1)).reverse.take d=(x.kids.take (m+1)).reverse:=Tf (by rw[U3,C];exact S9 _);have g0: ∀c,((x.kids.take (m+1)).reverse.take c).length<=d:=fun c=>by rw[TA,U3,C];omega
 have k0:Tree.au (x.kids.take (m+1)).reverse<=Tree.au x.kids:=by
  rw[qV];have e:Tree.au x.kids=Tree.au (x.kids.take (m+1))+Tree.au (x.kids.drop (m+1)):=by rw[<-Tree.gL,T9]
  omega
 generalize(x.kids.take (m+1)).reverse=W at*
 refine gA I ?_;refine aJ 0 d (Te _) (fun c=>⟨[(1,pI m),(5,.sl 6 0 (O.length+1) 5),(6,HI 8 (u++W.take c)),(7,.ptr 5 0),(8,pI ((d:Int)-1-c))],[(5,dl (aD x.c1)),(6,dl (aY 5 (O++ [x.vQ]) cK.c)),(8,dl (EK x (u++W.take c)))],9⟩) (fun _=>True) [7] ac
  (wk I I I ⟨.refl _,rfl,.refl _,rfl,.of_eq (by rw[Vw,TC,pO];rfl),nJ I _,.refl _,rfl,.of_eq (congrArg pI (by omega)),rfl,ac⟩
   (Q7 I (.refl _) I (hR I I I (OI I (.of_eq (by rw[Vw,TC])) I trivial))) I) fun c hc _=>?_
 refine gA I ?_;refine S3 (fun g3=>?_) (fun g3=>?_)
 .have g3:c<d:=by have:=of_decide_eq_true g3;omega
  have y:=y c g3;have m0:=g0 c;have G:((d:Int)-1-(c:Int)).toNat=d-1-c:=by omega
  obtain⟨V,hV⟩: ∃V,V=u++W.take c:=⟨_,rfl⟩
  have j:u++W.take (c+1)=V++ [x.kids.getD (d-1-c) co]:=by rw[y,hV,Tb]
  have j0:V.length<=2000000000:=by rw[hV,S1];omega
  rw[<-hV];have A:V++ [x.kids.getD (d-1-c) co]≠ []:=by simp
  by_cases B:V=[]
  .subst B;simp only[HI,EK];refine gA I (tm ab I I I I I I I I I (by simp) (by simp) (eT I) I ?_);refine gA I ?_
   exact⟨g3,ac,[10],wk I I I ⟨.refl _,rfl,.refl _,rfl,.of_eq (by rw[j];rfl),nJ I _,.refl _,rfl,.of_eq (congrArg pI (by omega)),rfl,ac⟩
    (Q7 I (.refl _) I (hR I I I (OI I (.of_eq (by rw[j,G];rfl)) I ac))) I⟩
  .rw[xN B,xO B];refine gA I ?_
   exact⟨g3,ac,[10],wk I I I ⟨.refl _,rfl,.refl _,rfl,.of_eq (by rw[j,pO,xN A,S1];rfl),nJ I _,.refl _,rfl,.of_eq (congrArg pI (by omega)),rfl,ac⟩
    (Q7 I (.refl _) I (hR I I I (OI I (.of_eq (by rw[j,xO A,aY,Tc,G];rfl)) I ac))) I⟩
 .have g3: ¬c<d:=by have:=of_decide_eq_false g3;omega
  have c0:c=d:=by omega
  subst c0;rw[f0];refine gA I ?_;refine⟨⟨(O++ [x.vQ],u++W,x),D⟩,[6,8],?_,wk I I I ⟨.refl _,rfl,.of_eq (by rw[S1];rfl),rfl,.of_eq (by rw[pO];rfl),nJ I _,ac⟩ (hR I I I (OI I (.refl _) I ac)) I⟩;show Tree.au (u++W)<Tree.au (u++ [x]);have h3:=x.size_eq;rw[Tree.gL,Tree.gL,Tree.au,Tree.au];omega
end Go.Proofs.YtbhphmfbligliaaGreatDoor
