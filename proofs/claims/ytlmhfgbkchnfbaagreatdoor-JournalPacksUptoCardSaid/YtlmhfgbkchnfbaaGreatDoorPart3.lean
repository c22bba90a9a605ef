/-
  What the proofs of the claims need: part 3 of 5.
-/
import Derived.Test.YtlmhfgbkchnfbaaGreatDoorPart2
import Derived.Defers
import Derived.KernelRfl
import Derived.Test.YtlmhfgbkchnfbaaGreatDoorProg
import Derived.Sort.EncStr
import Derived.Sort.Grow
import Derived.Sort.Walk0
import Derived.Shelf.Sort.Plain
import Derived.Shelf.Slices.In.SortNone
import Derived.Shelf.Slices.In.SortNone2
import Derived.WalkKit
import Derived.Lib.Builder
import Derived.Lib.UnsafeStr
import Derived.Laws.Externs
import Derived.Shelf.RegionOpenPlain
import Derived.Laws.RangeString
import Derived.Shelf.LaysM
import Derived.Shelf.Strconv.Itoa3
import Derived.Lib.ItoaLen
open And renaming intro→WN
open Array renaming eq_empty_of_size_eq_zero→Yb,getD_eq_getD_getElem?→WM,getElem?_append_left→Xt,getElem?_eq_getElem→Xx,getElem?_eq_some_iff→X4,getElem?_modify→Xp,getElem?_setIfInBounds→Xr,toArray_toList→Yv
open Bool renaming and_eq_true→XE,and_false→Zi,eq_iff_iff→Yk,false_and→YK,false_eq_true→YE,false_or→YO,not_eq_true'→X0,not_false→ZM,not_true→Zd,or_eq_false_iff→YG,or_eq_true→YY,true_and→Zp,true_or→ZL
open ByteArray renaming empty→W0,size→Z8
open Classical renaming byContradiction→Ym
open Int renaming fdiv_eq_ediv_of_nonneg→Yd,ofNat_eq_zero→aaj,ofNat_lt→ZZ,toNat→Ze,toNat_natCast→WV
open List.Nodup renaming length_le_of_subset→Yc
open List.Pairwise renaming nil→Y0
open List renaming all_eq_true→XC,any_cons→aad,any_eq_false→XL,any_eq_true→Yf,append_assoc→W6,append_nil→XA,cons_append→Xe,ext_getElem?→Y2,filterMap_append→Z3,filterMap_cons→aac,filter_cons→YH,filter_eq_self→Zn,findIdx?_eq_none_iff→ZO,findIdx?_eq_some_iff_getElem→Zu,flatMap_append→Zo,flatMap_cons→XS,foldl_cons→XU,getD_cons_succ→Yj,getD_cons_zero→YL,getD_eq_getElem?_getD→WQ,getElem?_eq_getElem→WU,getElem?_eq_some_iff→WT,getElem?_map→WX,getElem?_of_mem→XH,getElem?_take→Xy,getElem_map→YB,getElem_mem→XF,le_antisymm→ZV,length_append→WO,length_cons→Xn,length_filter_le→Yi,length_map→Xk,length_nil→X8,length_pos_iff→X5,length_singleton→Xl,length_take→Xv,map_append→W4,map_cons→WW,map_map→XX,map_nil→W7,mem_append→Xf,mem_append_left→XJ,mem_append_right→Yo,mem_cons→Xa,mem_cons_of_mem→W5,mem_cons_self→W8,mem_filter→Xu,mem_flatMap→ZG,mem_map→Xw,mem_of_getElem?→Xs,mem_range→Yn,mem_singleton→W1,nodup_append→Yt,nodup_cons→XB,nodup_nil→XM,not_lt→aap,not_mem_nil→ZF,pairwise_cons→XZ,pairwise_singleton→Y8,perm_ext_iff_of_nodup→Yw,range→Xq,sum_cons→Ya,take_append_drop→Zf,take_length→X7,take_of_length_le→W9,take_succ_cons→Ye
open Nat renaming add_assoc→X3,add_zero→Yp,beq→Xj,ble→YR,ble_eq_true_of_le→XN,blt→Xm,le_add_left→Zq,le_add_right→Zl,le_of_ble_eq_true→WL,le_of_not_lt→Yz,le_refl→WY,le_succ→Yh,lt_irrefl→ZH,lt_of_lt_of_le→Yu,lt_or_ge→XO,lt_succ_of_lt→Ys,lt_succ_self→YA,min_le_right→aal,mul_one→Zg,sub_zero→Zw,zero_add→Xd,zero_le→W2
open Option renaming bind_some→Y7,getD_some→XV,map_eq_some_iff→WZ,map_some→XW
open Option.some renaming injEq→WR
open Prod renaming fst→XY
set_option maxRecDepth 100000
open Bool renaming false→kw,true→jp
open Decidable renaming decide→lc
open Inhabited renaming default→co
open Option renaming none→is,some→io
open Array renaming range→ZP
open Array renaming getElem?_map→Zr
open Nat renaming mul_le_mul_right→Xi
open Nat renaming add_mul→XG
open Array renaming append_assoc→Zs
open List renaming getElem?_append_right→Xc
open Nat renaming sub_mul→Z7
open Array renaming getElem?_append_right→YJ
open Array renaming getElem?_toList→Xo
open Nat renaming mod_eq_of_lt→Y6
open List renaming getElem?_toArray→XD
open List renaming getElem?_append_left→Xb
namespace Go.Al
theorem bi{a b:PV}{c:Bool}{X:Prop}(h:X)(h1:a=b:=by rfl)(h2:c=true:=by rfl):ae a b∧c=true∧X:=⟨by subst h1;exact fun _ _ _ _ h=>h,h2,h⟩
theorem bv{i n:Nat}(h:decide ((i:Int)<(n:Int))=true):i<n:=by simpa using h
theorem ci{i n:Nat}(h:decide ((i:Int)<(n:Int))=false):n≤i:=by simpa using h
end Go.Al
namespace Go.Al
section
def VH(P:Program)(k:FuncId)(args:List PV)(os:List AO)(R:PV->AH->Nat->Prop):Prop:=
 fz P k∧Td (fun vs w R=>CallsD P k vs .returning w fun e u j=>u= .returning∧R e j) args os R
def Vw(P:Program)(k:FuncId)(args:List PV)(os:List AO)(h:AH)(n:Nat):Prop:=VH P k args os fun _ j u=>j=h∧u=n
theorem Fn.ended{P:Program}{k:FuncId}{args:List PV}{os:List AO}{R:PV->AH->Nat->Prop}(key:Fn P k args os (fun r0 h0 n0=>fH h0 n0 r0 fun B D=> ∃r y A L,R r y A∧Wk os.length L ⟨[(0,D)],B,n0⟩ ⟨[(0,r)],y,A⟩)):Fn P k args os R:=by
 refine⟨key.1,fun M N w vs hr u Y=>(key.2 M N w vs hr u Y).mono ?_⟩;rintro e J ⟨x,M',N',r0,h0,n0,rfl,hF,hx,hr',hvr⟩;obtain⟨G,B,D,g1,g2,g3,r,y,A,L,hR,I⟩:=hF M' N' J hr'
 have C:Fits G N' ⟨[(0,D)],B,n0⟩ ⟨1,[]⟩ ⟨#[x],[]⟩ J:=⟨g2,fun d=>by
  rw[AF.ax];by_cases hd:d=0
  .subst hd;rw[am Z];exact g3 x hvr
  .rw[be hd];exact .any _,rfl,rfl⟩
 have j:=I.fits C;refine⟨x,G,_,r,y,A,rfl,hR,I.ext (hx.trans g1),j.1,?_⟩;have:=j.2.1 0;exact this
section
variable {P:Program}
theorem tW {ty:Ty} (y:bp P ty) {k:FuncId} {fn:Func} {c:Code} (hf:P.funcs[k]? =io fn) (hb:fn.body=io c) (hn:(fn.name== "runtime.NumGoroutine")=kw) {nt:Nat} (x:fn.ntmps=nt)
  {l:List ResultVar} (hl:fn.results.toList=l) {args:List PV} (u:args.length<=nt) {os:List AO} {R:PV->AH->Nat->Prop}
  (h:GO P nt [.code c] (fun e s=>(e= .normal∨e= .ret)∧ ∃r,je ty s l=io r∧R r s.h s.nx) ⟨mN 0 args,cK 0 os,os.length⟩):VH P k args os R:=
 ⟨bc hf hb hn,fun M N w vs hr j A=>callsD_of_wp hf hb (FB y x hl u h M N w vs hr j A)⟩
theorem JZ{nt:NT}{s:AS}{M:Mem}{N:Nm}{a:Act}{w:World}(hf:Fits M N s nt a w){o:Oper}{g:Operand}{ts:Array TypeId}(ho:o.op= .defer ⟨.value g, #[],ts⟩){k:FuncId}{caps:List PV}(u:ev s.f g= .cv (.func k) [] caps)(hc:fz P k):
  ∃(d:Deferred) (vs:List Value),(execOp a.eval o).run P w= .ok (.defer d) w∧(∃A a0,d.target= .fn A a0)∧(∀w,(invoke d.target d.args).run P w= .ok (.enter k vs.toArray) w)∧caps.length=vs.length∧
   ∀(j:Nat) (p:PV),caps[j]? =io p->VR M N (· <s.nx) p (vs.getD j undef):=by
 have y:=aN hf.2.1 g;rw[u]at y;generalize C:a.eval g=v at y;cases y with
 |cv _ _ _ f' c' h1 h2 hr1 hr2=>
  have x:f'= #[]:=by
   have:f'.size=0:=h1.symm;exact Array.size_eq_zero_iff.1 this
  subst x;refine⟨⟨.fn (.func k) c', #[]⟩,c'.toList,?_,⟨_,_,rfl⟩,fun w=>?_,by simpa using h2,fun j p B=>?_⟩
  .simp[execOp,ho,resolve,C,Deferred.ofValue]
  .have:=hc c' w;simpa[invoke]using this
  .have:=hr2 j p B;rw[WM]at this;rw[WQ];simpa using this
structure KE (P:Program) (ty:Ty) (l:List ResultVar) (kf:FuncId) (caps:List PV) (R:PV->AH->Nat->Prop) (e:Exit) (u:AS):Prop where
 he:e= .normal∨e= .ret
 ex: ∃args os R' L,VH P kf args os R'∧List.Nodup L∧(∀j∈L,j<u.nx)∧(L.map u.h.get=os.map fun o=>io (o.b3 (sig L u.nx)))∧caps=dc (sig L u.nx) args∧
  ∀r h' n',R' r h' n'-> ∃q,je ty (aB u L h' n') l=io q∧R q (aB u L h' n').h (aB u L h' n').nx
theorem uP{P:Program}{ty:Ty}{l:List ResultVar}{C:FuncId}{caps:List PV}{R:PV->AH->Nat->Prop}{e:Exit}{u:AS}{args:List PV}{os:List AO}{A:PV->AH->Nat->Prop}(L:List Nat)(he:e= .normal∨e= .ret)(D:VH P C args os A)(hn:cE L=jp)(hl:L.all (fun j=>Xm j u.nx)=jp)
  (B:L.map u.h.get=os.map fun o=>io (o.b3 (sig L u.nx))) (hc:caps=dc (sig L u.nx) args) (h: ∀r x y,A r x y-> ∃q,je ty (aB u L x y) l=io q∧R q (aB u L x y).h (aB u L x y).nx):KE P ty l C caps R e u:=
 ⟨he,args,os,A,L,D,eM hn,fun j G=>WL (XC.1 hl j G),B,hc,h⟩
theorem JG {ty:Ty} (i0:bp P ty) {k:FuncId} {fn:Func} {cs:List Code} {id:Nat} {ops:Array Oper} {T:Code} (hf:P.funcs[k]? =io fn) (hb:fn.body=io (NU cs (.seq (.region id ops kw) T))) (hn:(fn.name== "runtime.NumGoroutine")=kw) {nt:Nat} (r0:fn.ntmps=nt)
  {l:List ResultVar} (hl:fn.results.toList=l) {args:List PV} (p0:args.length<=nt) {os:List AO} {R:PV->AH->Nat->Prop} (s:AS) {pre:List Oper} {o:Oper} {g:Operand} {ts:Array TypeId} {kf:FuncId} {caps:List PV}
  (e0:ops.toList=pre++ [o]) (hg:o.guard=is) (hd:o.dst=is) (ho:o.op= .defer ⟨.value g, #[],ts⟩) (k0:ev s.f g= .cv (.func kf) [] caps) (hc:fz P kf)
  (I:GO P nt (cs.map .code) (fun e t=>(e= .normal∧GO P nt [.ops ops.toList pre] (fun e u=>e= .normal∧ ∃L0,Wk u.nx L0 u s) t)∨(e= .ret∧ ∃r,je ty t l=io r∧R r t.h t.nx)) ⟨mN 0 args,cK 0 os,os.length⟩)
  (b0: ∀d,GO P ⟨nt,[d]⟩ [.code T] (KE P ty l kf caps R) s):Fn P k args os R:=by
 refine⟨bc hf hb hn,fun M N w vs hr d0 hv=>?_⟩;refine calls_of_wp_defers hf hb ?_;refine Cf cs I (Fh r0 p0 hr d0 hv) (fun a0 w0 M0 N0 s0 x0 m0 J=>?_) (fun e a3 w3 M3 N3 s3 he z0 B v0=>?_)
 .rcases J with⟨_,J⟩|⟨h,_⟩
  .refine wp_seq (wp_region_list ?_);rw[e0];refine mP [o] (fun a1 w1 h1=>?_) (fun e a1 w1 he h1=>?_) pre a0 w0 (by have:=J M0 N0 a0 w0 m0;rw[Yv]at this;exact this)
   .obtain⟨M1,N1,s1,C,A,Y⟩:=h1;obtain⟨_,L0,hw⟩:=(show _∧_ from Y)
    replace C:=x0.trans (C.trans (hw.ext (.refl _ _ _ _ _)))
    replace A:=hw.fits A
    obtain⟨d,b1,h1,⟨fv,j0,h2⟩,h3,h4,h5⟩:=JZ A ho k0 hc;unfold wpList;rw[am (fN hg _)];left;unfold Oper.wp;rw[h1,Oper.upon_defer,hd];refine wpList_nil ?_;have n0:Fits M1 _ s ⟨nt,[d]⟩ {a1 with defers:=d::a1.defers} w1:=⟨A.1,A.2.1,by rw[A.2.2.1],A.2.2.2⟩
    refine AW.then (b0 d) n0 fun e a2 w2 M2 N2 u D B hq=>?_;simp only[kp]at hq;obtain⟨he,f0,d1,R',L,hD,q0,hL,t0,g0,hR⟩:=hq;have c0:s.nx<=u.nx:=Yz fun hh=>absurd (D.ule u.nx hh) (ZH _)
    have key:Leaves P fn a2.tmps (fun e w'=> ∃x M' N' r h' n',e= .returned x∧R r h' n'∧Ext M N (· <os.length) (cK 0 os) w M' N' (· <n') h' w'∧Rel M' N' (· <n') h' w'∧VR M' N' (· <n') r x) a2.defers .returning w2:=by
     rw[B.2.2.1];refine⟨by simp,fv,j0,kf,b1.toArray,h2,h3 w2,?_⟩
     have G:=Td.calls (s:=u) (fun vs w R R' h g=>h.mono fun e u' w' q=>⟨q.1,g _ _ q.2⟩) hD.2 q0 hL t0 B.1 (by rw[<-h4,g0,bI,Xk]) (fun j p hp=>by
      refine(h5 j (p.b3 (sig L u.nx)) (by rw[g0,bI,WX,hp];rfl)).mono D.oC D.nm fun i hi=>Yu hi c0)
     refine CallsD.mono G ?_;rintro e u' w' ⟨rfl,x,M',N',r,h',n',rfl,hr1,hx,hr2,hvr⟩;obtain⟨q,g1,g2⟩:=hR r h' n' hr1;have o0:Fits M' N' (aB u L h' n') ⟨nt,[d]⟩ a2 w':=⟨hr2,B.2.1.ext hx,B.2.2⟩
     obtain⟨y,g3,g4⟩:=uB i0 o0 hl g1;exact⟨y,g3,y,M',N',q,_,_,rfl,g2,(C.trans D).trans hx,hr2,g4⟩
    rcases he with rfl|rfl<;>exact key
   .obtain⟨M1,N1,s1,C,A,Y⟩:=h1;exact absurd (show e= .normal from by cases e<;>first|rfl|exact Y.1) he
  .cases h
 .rcases v0 with⟨h,_⟩|⟨rfl,r,g1,g2⟩
  .exact absurd h he
  .obtain⟨y,g3,g4⟩:=uB i0 B hl g1;show Leaves P fn a3.tmps _ a3.defers .returning w3;rw[B.2.2.1];exact⟨y,g3,y,M3,N3,r,_,_,rfl,g2,z0,B.1,g4⟩
def jt:Code->List Code×Nat×Array Oper×Code
 | .seq (.region i ops b) t=>if ops.toList.any (fun o=>!Nb o) then([],i,ops,t) else(.region i ops b::(jt t).1,(jt t).2)
 | .seq x y=>(x::(jt y).1,(jt y).2)
 |_=>([],0, #[],.skip)
def Sm(p:List Code×Nat×Array Oper×Code):Code:=NU p.1 (.seq (.region p.2.1 p.2.2.1 kw) p.2.2.2)
end
section
variable {P:Program} {ty:Ty} {nt:NT} {Q:AQ} {k:List KI} {s:AS}
theorem Su(B:bp P ty){all:List Oper}{todo pend:List (Nat×Oper)}{G I:Nat}{u A:Oper}{CA C1 C2:Prop}{s1 s2:AS}(hrd:dw todo=[(G,u),(I,A)])(hE:nI todo [G,I]=jp)(hag:lX ty nt all s todo pend=io CA)(hCA:CA)
  (g1:bQ nt all s.f u=io jp) (p1:gX all pend u=jp) (t1:OT P nt u s (fun t=>t=s1)) (a1:c6 ty nt all s1 (a7 pend u)=io C1) (c1:C1)
  (g2:bQ nt all s.f A=io jp) (p2:gX all pend A=jp) (t2:OT P nt A s (fun t=>t=s2)) (a2:c6 ty nt all s2 (a7 pend A)=io C2) (c2:C2)
  (k1:GO P nt (.bR all (todo.filter fun x=>!Xj x.1 G) (a7 pend u)::k) Q s1) (k2:GO P nt (.bR all (todo.filter fun x=>!Xj x.1 I) (a7 pend A)::k) Q s2):GO P nt (.bR all todo pend::k) Q s:=by
 have Y:(G,u)∈dw todo:=by rw[hrd];simp
 have a0:(I,A)∈dw todo:=by rw[hrd];simp
 obtain⟨h1,J⟩:=Xu.1 Y;obtain⟨h2,r2⟩:=Xu.1 a0;simp only[X0,YG,XL]at J r2;have C: ∀y∈todo,aS y.2=jp-> ∀y∈pend,fb P nt all s y.2:=by
  intro y D b0;unfold lX at hag;split at hag
  .exact cy B hag hCA
  .rename_i h;have:=XL.1 h y D;rw[b0]at this;exact absurd Z this
 refine pr hE ⟨_,h1,J.1⟩ C fun j o hj _ hu=>?_;rcases Xa.1 hj with rfl|hj
 .have:=hu u h1;subst this;exact⟨J.1,fun y D _=>by simpa using J.2 y D,p1,g1,_,t1,fun t ht=>by subst ht;exact⟨cy B a1 c1,k1⟩⟩
 .rw[W1]at hj;subst hj;have:=hu A h2;subst this;exact⟨r2.1,fun y D _=>by simpa using r2.2 y D,p2,g2,_,t2,fun t ht=>by subst ht;exact⟨cy B a2 c2,k2⟩⟩
end
end
end Go.Al
namespace Go.Proofs.YtlmhfgbkchnfbaaGreatDoor
open Go Go.Al Go.Proofs.Tryz
def ty1:bD:=⟨.aP (.func #[] #[] kw),1,8,.nilFunc,kw⟩
theorem Tt:aj prog 1 ty1:=⟨ad (by kernel_rfl),⟨underlying1,rfl⟩,fun h=>nomatch h⟩
def ty2:bD:=⟨.aP (.int .i64),1,8,.int .i64 (0),kw⟩
theorem Ts:aj prog 2 ty2:=⟨ad (by kernel_rfl),⟨underlying2,rfl⟩,fun h=>nomatch h⟩
def ty3:bD:=⟨.aP (.int .i64),1,8,.int .i64 (0),kw⟩
theorem Tr:aj prog 3 ty3:=⟨ad (by kernel_rfl),⟨underlying3,rfl⟩,fun h=>nomatch h⟩
def ty4:bD:=⟨.aP (.bool),1,1,.bool kw,kw⟩
theorem Tq:aj prog 4 ty4:=⟨ad (by kernel_rfl),⟨underlying4,rfl⟩,fun h=>nomatch h⟩
def Rk:bD:=⟨.aP (.int .u8),1,1,.int .u8 (0),kw⟩
theorem Tp:aj prog 5 Rk:=⟨ad (by kernel_rfl),⟨underlying5,rfl⟩,fun h=>nomatch h⟩
def ty9:bD:=⟨.aP (.string),1,16,.string W0,kw⟩
theorem Tn:aj prog 9 ty9:=⟨ad (by kernel_rfl),⟨underlying9,rfl⟩,fun h=>nomatch h⟩
def T1:bD:=⟨.aP (.int .i32),1,4,.int .i32 (0),kw⟩
theorem Ri:aj prog 21 T1:=⟨ad (by kernel_rfl),⟨underlying21,rfl⟩,fun h=>nomatch h⟩
def TZ:bD:=⟨.aP (.slice 57),1,24,.slice is 0 0,kw⟩
theorem Rh:aj prog 22 TZ:=⟨ad (by kernel_rfl),⟨underlying22,rfl⟩,fun h=>nomatch h⟩
def TY:bD:=⟨.aP (.slice 152),1,24,.slice is 0 0,kw⟩
theorem Rf:aj prog 23 TY:=⟨ad (by kernel_rfl),⟨underlying23,rfl⟩,fun h=>nomatch h⟩
def TX:bD:=⟨.cx [(0,22),(1,23)],2,48,.agg #[.slice is 0 0,.slice is 0 0],jp⟩
theorem Rb:aj prog 25 TX:=⟨ad (by kernel_rfl),⟨_,underlying25,rfl⟩,fun _=>bM underlying25 Tryz.stoodInHeld25 Tryz.eqGuardType25 (by decide)⟩
def TV:bD:=⟨.aP (.slice 43),1,24,.slice is 0 0,kw⟩
theorem Ra:aj prog 26 TV:=⟨ad (by kernel_rfl),⟨underlying26,rfl⟩,fun h=>nomatch h⟩
def TU:bD:=⟨.aP (.pointer 72),1,8,.pointer is,kw⟩
theorem Q9:aj prog 30 TU:=⟨ad (by kernel_rfl),⟨underlying30,rfl⟩,fun h=>nomatch h⟩
def TR:bD:=⟨.aP (.int .i64),1,8,.int .i64 (0),kw⟩
theorem Q8:aj prog 31 TR:=⟨ad (by kernel_rfl),⟨underlying31,rfl⟩,fun h=>nomatch h⟩
def TQ:bD:=⟨.aP (.slice 3),1,24,.slice is 0 0,kw⟩
theorem Q7:aj prog 35 TQ:=⟨ad (by kernel_rfl),⟨underlying35,rfl⟩,fun h=>nomatch h⟩
def TP:bD:=⟨.aP (.slice 62),1,24,.slice is 0 0,kw⟩
theorem Q6:aj prog 36 TP:=⟨ad (by kernel_rfl),⟨underlying36,rfl⟩,fun h=>nomatch h⟩
def TN:bD:=⟨.aP (.slice 5),1,24,.slice is 0 0,kw⟩
theorem Q5:aj prog 38 TN:=⟨ad (by kernel_rfl),⟨underlying38,rfl⟩,fun h=>nomatch h⟩
def TM:bD:=⟨.aP (.slice 64),1,24,.slice is 0 0,kw⟩
theorem Q4:aj prog 43 TM:=⟨ad (by kernel_rfl),⟨underlying43,rfl⟩,fun h=>nomatch h⟩
def TL:bD:=⟨.aP (.slice 4),1,24,.slice is 0 0,kw⟩
theorem Q3:aj prog 50 TL:=⟨ad (by kernel_rfl),⟨underlying50,rfl⟩,fun h=>nomatch h⟩
def TJ:bD:=⟨.cx [(0,3),(1,3)],2,16,.agg #[.int .i64 (0),.int .i64 (0)],jp⟩
theorem QZ:aj prog 55 TJ:=⟨ad (by kernel_rfl),⟨_,underlying55,rfl⟩,fun _=>bM underlying55 Tryz.stoodInHeld55 Tryz.eqGuardType55 (by decide)⟩
def TI:bD:=⟨.cx [(0,9),(1,35),(2,55)],4,56,.agg #[.string W0,.slice is 0 0,.int .i64 (0),.int .i64 (0)],jp⟩
theorem QY:aj prog 57 TI:=⟨ad (by kernel_rfl),⟨_,underlying57,rfl⟩,fun _=>bM underlying57 Tryz.stoodInHeld57 Tryz.eqGuardType57 (by decide)⟩
def TH:bD:=⟨.cx [(0,3),(1,3),(2,9)],3,32,.agg #[.int .i64 (0),.int .i64 (0),.string W0],jp⟩
theorem QX:aj prog 59 TH:=⟨ad (by kernel_rfl),⟨_,underlying59,rfl⟩,fun _=>bM underlying59 Tryz.stoodInHeld59 Tryz.eqGuardType59 (by decide)⟩
def TG:bD:=⟨.aP (.slice 59),1,24,.slice is 0 0,kw⟩
theorem QW:aj prog 60 TG:=⟨ad (by kernel_rfl),⟨underlying60,rfl⟩,fun h=>nomatch h⟩
def TF:bD:=⟨.cx [(0,9),(1,60)],2,40,.agg #[.string W0,.slice is 0 0],jp⟩
theorem QU:aj prog 62 TF:=⟨ad (by kernel_rfl),⟨_,underlying62,rfl⟩,fun _=>bM underlying62 Tryz.stoodInHeld62 Tryz.eqGuardType62 (by decide)⟩
def TE:bD:=⟨.cx [(0,4),(1,62)],3,48,.agg #[.bool kw,.string W0,.slice is 0 0],jp⟩
theorem QS:aj prog 64 TE:=⟨ad (by kernel_rfl),⟨_,underlying64,rfl⟩,fun _=>bM underlying64 Tryz.stoodInHeld64 Tryz.eqGuardType64 (by decide)⟩
def TD:bD:=⟨.aP (.pointer 100),1,8,.pointer is,kw⟩
theorem QR:aj prog 66 TD:=⟨ad (by kernel_rfl),⟨underlying66,rfl⟩,fun h=>nomatch h⟩
def TC:bD:=⟨.cx [(0,66)],1,8,.agg #[.pointer is],jp⟩
theorem QQ:aj prog 70 TC:=⟨ad (by kernel_rfl),⟨_,underlying70,rfl⟩,fun _=>bM underlying70 Tryz.stoodInHeld70 Tryz.eqGuardType70 (by decide)⟩
def TB:bD:=⟨.cx [(0,70),(1,38),(2,3)],3,40,.agg #[.pointer is,.slice is 0 0,.int .i64 (0)],jp⟩
theorem QO:aj prog 72 TB:=⟨ad (by kernel_rfl),⟨_,underlying72,rfl⟩,fun _=>bM underlying72 Tryz.stoodInHeld72 Tryz.eqGuardType72 (by decide)⟩
def TA:bD:=⟨.aP (.func #[62,62] #[4] kw),1,8,.nilFunc,kw⟩
theorem QN:aj prog 82 TA:=⟨ad (by kernel_rfl),⟨underlying82,rfl⟩,fun h=>nomatch h⟩
def Tz:bD:=⟨.aP (.int .u32),1,4,.int .u32 (0),kw⟩
theorem QM:aj prog 83 Tz:=⟨ad (by kernel_rfl),⟨underlying83,rfl⟩,fun h=>nomatch h⟩
def Tx:bD:=⟨.aP (.pointer 138),1,8,.pointer is,kw⟩
theorem QK:aj prog 86 Tx:=⟨ad (by kernel_rfl),⟨underlying86,rfl⟩,fun h=>nomatch h⟩
def Tw:bD:=⟨.cx [(0,31),(1,55)],3,24,.agg #[.int .i64 (0),.int .i64 (0),.int .i64 (0)],jp⟩
theorem QJ:aj prog 93 Tw:=⟨ad (by kernel_rfl),⟨_,underlying93,rfl⟩,fun _=>bM underlying93 Tryz.stoodInHeld93 Tryz.eqGuardType93 (by decide)⟩
def Tv:bD:=⟨.aP (.map 110 62),1,8,.map is,kw⟩
theorem QI:aj prog 95 Tv:=⟨ad (by kernel_rfl),⟨underlying95,rfl⟩,fun h=>nomatch h⟩
def Tu:bD:=⟨.cx [(0,95)],1,8,.agg #[.map is],jp⟩
theorem QH:aj prog 97 Tu:=⟨ad (by kernel_rfl),⟨_,underlying97,rfl⟩,fun _=>bM underlying97 Tryz.stoodInHeld97 Tryz.eqGuardType97 (by decide)⟩
def PZ:bD:=⟨.cx [(0,97),(1,25),(3,3)],4,64,.agg #[.map is,.slice is 0 0,.slice is 0 0,.int .i64 (0)],jp⟩
theorem Mc:aj prog 100 PZ:=⟨ad (by kernel_rfl),⟨_,underlying100,rfl⟩,fun _=>bM underlying100 Tryz.stoodInHeld100 Tryz.eqGuardType100 (by decide)⟩
def PY:bD:=⟨.aP (.pointer 97),1,8,.pointer is,kw⟩
theorem Mb:aj prog 101 PY:=⟨ad (by kernel_rfl),⟨underlying101,rfl⟩,fun h=>nomatch h⟩
def PX:bD:=⟨.aP (.int .u64),1,8,.int .u64 (0),kw⟩
theorem Ma:aj prog 104 PX:=⟨ad (by kernel_rfl),⟨underlying104,rfl⟩,fun h=>nomatch h⟩
def PW:bD:=⟨.arr 8 59,24,256,.agg #[.int .i64 (0),.int .i64 (0),.string W0,.int .i64 (0),.int .i64 (0),.string W0,.int .i64 (0),.int .i64 (0),.string W0,.int .i64 (0),.int .i64 (0),.string W0,.int .i64 (0),.int .i64 (0),.string W0,.int .i64 (0),.int .i64 (0),.string W0,.int .i64 (0),.int .i64 (0),.string W0,.int .i64 (0),.int .i64 (0),.string W0],kw⟩
theorem L9:aj prog 108 PW:=⟨ad (by kernel_rfl),underlying108,fun h=>nomatch h⟩
def AP:bD:=⟨.cx [(0,9),(1,3),(2,108)],26,280,.agg #[.string W0,.int .i64 (0),.int .i64 (0),.int .i64 (0),.string W0,.int .i64 (0),.int .i64 (0),.string W0,.int .i64 (0),.int .i64 (0),.string W0,.int .i64 (0),.int .i64 (0),.string W0,.int .i64 (0),.int .i64 (0),.string W0,.int .i64 (0),.int .i64 (0),.string W0,.int .i64 (0),.int .i64 (0),.string W0,.int .i64 (0),.int .i64 (0),.string W0],jp⟩
theorem L8:aj prog 110 AP:=⟨ad (by kernel_rfl),⟨_,underlying110,rfl⟩,fun _=>bM underlying110 Tryz.stoodInHeld110 Tryz.eqGuardType110 (by decide)⟩
def PU:bD:=⟨.aP (.map 110 64),1,8,.map is,kw⟩
theorem L7:aj prog 111 PU:=⟨ad (by kernel_rfl),⟨underlying111,rfl⟩,fun h=>nomatch h⟩
def PT:bD:=⟨.aP (.pointer 175),1,8,.pointer is,kw⟩
theorem L6:aj prog 116 PT:=⟨ad (by kernel_rfl),⟨underlying116,rfl⟩,fun h=>nomatch h⟩
def PS:bD:=⟨.aP (.pointer 126),1,8,.pointer is,kw⟩
theorem L5:aj prog 123 PS:=⟨ad (by kernel_rfl),⟨underlying123,rfl⟩,fun h=>nomatch h⟩
def PR:bD:=⟨.cx [(0,116),(1,25)],3,56,.agg #[.pointer is,.slice is 0 0,.slice is 0 0],jp⟩
theorem L4:aj prog 126 PR:=⟨ad (by kernel_rfl),⟨_,underlying126,rfl⟩,fun _=>bM underlying126 Tryz.stoodInHeld126 Tryz.eqGuardType126 (by decide)⟩
def PQ:bD:=⟨.cx [(0,38)],1,24,.agg #[.slice is 0 0],jp⟩
theorem L3:aj prog 136 PQ:=⟨ad (by kernel_rfl),⟨_,underlying136,rfl⟩,fun _=>bM underlying136 Tryz.stoodInHeld136 Tryz.eqGuardType136 (by decide)⟩
def PO:bD:=⟨.cx [(0,136)],1,24,.agg #[.slice is 0 0],jp⟩
theorem L2:aj prog 138 PO:=⟨ad (by kernel_rfl),⟨_,underlying138,rfl⟩,fun _=>bM underlying138 Tryz.stoodInHeld138 Tryz.eqGuardType138 (by decide)⟩
def PN:bD:=⟨.aP (.int .u64),1,8,.int .u64 (0),kw⟩
theorem L1:aj prog 140 PN:=⟨ad (by kernel_rfl),⟨underlying140,rfl⟩,fun h=>nomatch h⟩
def PM:bD:=⟨.aP (.map 9 145),1,8,.map is,kw⟩
theorem LZ:aj prog 141 PM:=⟨ad (by kernel_rfl),⟨underlying141,rfl⟩,fun h=>nomatch h⟩
def PL:bD:=⟨.aP (.map 9 145),1,8,.map is,kw⟩
theorem LY:aj prog 142 PL:=⟨ad (by kernel_rfl),⟨underlying142,rfl⟩,fun h=>nomatch h⟩
def PK:bD:=⟨.aP (.map 9 3),1,8,.map is,kw⟩
theorem LX:aj prog 145 PK:=⟨ad (by kernel_rfl),⟨underlying145,rfl⟩,fun h=>nomatch h⟩
def PJ:bD:=⟨.aP (.slice 157),1,24,.slice is 0 0,kw⟩
theorem LW:aj prog 147 PJ:=⟨ad (by kernel_rfl),⟨underlying147,rfl⟩,fun h=>nomatch h⟩
def PI:bD:=⟨.cx [(0,9),(1,147)],2,40,.agg #[.string W0,.slice is 0 0],jp⟩
theorem LV:aj prog 149 PI:=⟨ad (by kernel_rfl),⟨_,underlying149,rfl⟩,fun _=>bM underlying149 Tryz.stoodInHeld149 Tryz.eqGuardType149 (by decide)⟩
def PH:bD:=⟨.aP (.slice 198),1,24,.slice is 0 0,kw⟩
theorem LU:aj prog 150 PH:=⟨ad (by kernel_rfl),⟨underlying150,rfl⟩,fun h=>nomatch h⟩
def PG:bD:=⟨.cx [(0,149),(2,150),(3,55)],5,80,.agg #[.string W0,.slice is 0 0,.slice is 0 0,.int .i64 (0),.int .i64 (0)],jp⟩
theorem LS:aj prog 152 PG:=⟨ad (by kernel_rfl),⟨_,underlying152,rfl⟩,fun _=>bM underlying152 Tryz.stoodInHeld152 Tryz.eqGuardType152 (by decide)⟩
def PF:bD:=⟨.cx [(0,3),(1,9),(2,59)],5,56,.agg #[.int .i64 (0),.string W0,.int .i64 (0),.int .i64 (0),.string W0],jp⟩
theorem LR:aj prog 157 PF:=⟨ad (by kernel_rfl),⟨_,underlying157,rfl⟩,fun _=>bM underlying157 Tryz.stoodInHeld157 Tryz.eqGuardType157 (by decide)⟩
def PD:bD:=⟨.aP (.func #[62,62] #[3] kw),1,8,.nilFunc,kw⟩
theorem LQ:aj prog 160 PD:=⟨ad (by kernel_rfl),⟨underlying160,rfl⟩,fun h=>nomatch h⟩
def PC:bD:=⟨.aP (.func #[110,64] #[4] kw),1,8,.nilFunc,kw⟩
theorem LP:aj prog 168 PC:=⟨ad (by kernel_rfl),⟨underlying168,rfl⟩,fun h=>nomatch h⟩
def PB:bD:=⟨.aP (.func #[64,64] #[3] kw),1,8,.nilFunc,kw⟩
theorem LO:aj prog 171 PB:=⟨ad (by kernel_rfl),⟨underlying171,rfl⟩,fun h=>nomatch h⟩
def PA:bD:=⟨.cx [(0,38),(1,3),(2,31)],3,40,.agg #[.slice is 0 0,.int .i64 (0),.int .i64 (0)],jp⟩
theorem LN:aj prog 173 PA:=⟨ad (by kernel_rfl),⟨_,underlying173,rfl⟩,fun _=>bM underlying173 Tryz.stoodInHeld173 Tryz.eqGuardType173 (by decide)⟩
def Pz:bD:=⟨.cx [(0,173)],3,40,.agg #[.slice is 0 0,.int .i64 (0),.int .i64 (0)],jp⟩
theorem LM:aj prog 175 Pz:=⟨ad (by kernel_rfl),⟨_,underlying175,rfl⟩,fun _=>bM underlying175 Tryz.stoodInHeld175 Tryz.eqGuardType175 (by decide)⟩
def Py:bD:=⟨.aP (.pointer 186),1,8,.pointer is,kw⟩
theorem LL:aj prog 181 Py:=⟨ad (by kernel_rfl),⟨underlying181,rfl⟩,fun h=>nomatch h⟩
def Px:bD:=⟨.aP (.pointer 184),1,8,.pointer is,kw⟩
theorem LK:aj prog 182 Px:=⟨ad (by kernel_rfl),⟨underlying182,rfl⟩,fun h=>nomatch h⟩
def Pw:bD:=⟨.cx [(0,182),(1,38)],2,32,.agg #[.pointer is,.slice is 0 0],jp⟩
theorem LJ:aj prog 184 Pw:=⟨ad (by kernel_rfl),⟨_,underlying184,rfl⟩,fun _=>bM underlying184 Tryz.stoodInHeld184 Tryz.eqGuardType184 (by decide)⟩
def Pv:bD:=⟨.cx [(0,184),(2,4),(3,3)],4,48,.agg #[.pointer is,.slice is 0 0,.bool kw,.int .i64 (0)],jp⟩
theorem LI:aj prog 186 Pv:=⟨ad (by kernel_rfl),⟨_,underlying186,rfl⟩,fun _=>bM underlying186 Tryz.stoodInHeld186 Tryz.eqGuardType186 (by decide)⟩
def Pu:bD:=⟨.aP (.pointer 136),1,8,.pointer is,kw⟩
theorem LH:aj prog 191 Pu:=⟨ad (by kernel_rfl),⟨underlying191,rfl⟩,fun h=>nomatch h⟩
def Pt:bD:=⟨.aP (.slice 194),1,24,.slice is 0 0,kw⟩
theorem LG:aj prog 192 Pt:=⟨ad (by kernel_rfl),⟨underlying192,rfl⟩,fun h=>nomatch h⟩
def Ps:bD:=⟨.cx [(0,3),(1,9),(2,59),(5,3),(6,192)],7,88,.agg #[.int .i64 (0),.string W0,.int .i64 (0),.int .i64 (0),.string W0,.int .i64 (0),.slice is 0 0],jp⟩
theorem LF:aj prog 194 Ps:=⟨ad (by kernel_rfl),⟨_,underlying194,rfl⟩,fun _=>bM underlying194 Tryz.stoodInHeld194 Tryz.eqGuardType194 (by decide)⟩
def Pr:bD:=⟨.cx [(0,3),(1,9),(2,194),(9,150)],10,136,.agg #[.int .i64 (0),.string W0,.int .i64 (0),.string W0,.int .i64 (0),.int .i64 (0),.string W0,.int .i64 (0),.slice is 0 0,.slice is 0 0],jp⟩
theorem LD:aj prog 196 Pr:=⟨ad (by kernel_rfl),⟨_,underlying196,rfl⟩,fun _=>bM underlying196 Tryz.stoodInHeld196 Tryz.eqGuardType196 (by decide)⟩
def Pq:bD:=⟨.cx [(0,3),(1,149),(3,3),(4,194),(11,194),(18,196),(28,55)],30,384,.agg #[.int .i64 (0),.string W0,.slice is 0 0,.int .i64 (0),.int .i64 (0),.string W0,.int .i64 (0),.int .i64 (0),.string W0,.int .i64 (0),.slice is 0 0,.int .i64 (0),.string W0,.int .i64 (0),.int .i64 (0),.string W0,.int .i64 (0),.slice is 0 0,.int .i64 (0),.string W0,.int .i64 (0),.string W0,.int .i64 (0),.int .i64 (0),.string W0,.int .i64 (0),.slice is 0 0,.slice is 0 0,.int .i64 (0),.int .i64 (0)],jp⟩
theorem LB:aj prog 198 Pq:=⟨ad (by kernel_rfl),⟨_,underlying198,rfl⟩,fun _=>bM underlying198 Tryz.stoodInHeld198 Tryz.eqGuardType198 (by decide)⟩
def Pp:bD:=⟨.aP (.slice 9),1,24,.slice is 0 0,kw⟩
theorem LA:aj prog 199 Pp:=⟨ad (by kernel_rfl),⟨underlying199,rfl⟩,fun h=>nomatch h⟩
def Po:bD:=⟨.aP (.func #[93] #[4] kw),1,8,.nilFunc,kw⟩
theorem Lz:aj prog 202 Po:=⟨ad (by kernel_rfl),⟨underlying202,rfl⟩,fun h=>nomatch h⟩
def Pn:bD:=⟨.aP (.func #[9] #[3] kw),1,8,.nilFunc,kw⟩
theorem Ly:aj prog 203 Pn:=⟨ad (by kernel_rfl),⟨underlying203,rfl⟩,fun h=>nomatch h⟩
def Pm:bD:=⟨.aP (.pointer 198),1,8,.pointer is,kw⟩
theorem Lx:aj prog 209 Pm:=⟨ad (by kernel_rfl),⟨underlying209,rfl⟩,fun h=>nomatch h⟩
def Pl:bD:=⟨.aP (.map 9 57),1,8,.map is,kw⟩
theorem Lw:aj prog 219 Pl:=⟨ad (by kernel_rfl),⟨underlying219,rfl⟩,fun h=>nomatch h⟩
def Pk:bD:=⟨.aP (.pointer 173),1,8,.pointer is,kw⟩
theorem Lv:aj prog 223 Pk:=⟨ad (by kernel_rfl),⟨underlying223,rfl⟩,fun h=>nomatch h⟩
def Pj:bD:=⟨.aP (.map 9 3),1,8,.map is,kw⟩
theorem Lu:aj prog 240 Pj:=⟨ad (by kernel_rfl),⟨underlying240,rfl⟩,fun h=>nomatch h⟩
def Ph:bD:=⟨.aP (.func #[194] #[4] kw),1,8,.nilFunc,kw⟩
theorem Lt:aj prog 242 Ph:=⟨ad (by kernel_rfl),⟨underlying242,rfl⟩,fun h=>nomatch h⟩
def Pg:bD:=⟨.aP (.func #[196] #[4] kw),1,8,.nilFunc,kw⟩
theorem Ls:aj prog 243 Pg:=⟨ad (by kernel_rfl),⟨underlying243,rfl⟩,fun h=>nomatch h⟩
def Pf:bD:=⟨.aP (.func #[198] #[4] kw),1,8,.nilFunc,kw⟩
theorem Lr:aj prog 247 Pf:=⟨ad (by kernel_rfl),⟨underlying247,rfl⟩,fun h=>nomatch h⟩
def Pe:bD:=⟨.aP (.int .i64),1,8,.int .i64 (0),kw⟩
theorem Lq:aj prog 250 Pe:=⟨ad (by kernel_rfl),⟨underlying250,rfl⟩,fun h=>nomatch h⟩
def Pd:bD:=⟨.aP (.func #[59,59] #[3] kw),1,8,.nilFunc,kw⟩
theorem Lp:aj prog 260 Pd:=⟨ad (by kernel_rfl),⟨underlying260,rfl⟩,fun h=>nomatch h⟩
def Pc:bD:=⟨.aP (.func #[59] #[4] kw),1,8,.nilFunc,kw⟩
theorem Lo:aj prog 263 Pc:=⟨ad (by kernel_rfl),⟨underlying263,rfl⟩,fun h=>nomatch h⟩
def Pb:bD:=⟨.aP (.pointer 5),1,8,.pointer is,kw⟩
theorem Ln:aj prog 275 Pb:=⟨ad (by kernel_rfl),⟨underlying275,rfl⟩,fun h=>nomatch h⟩
def Pa:bD:=⟨.aP (.func #[3] #[4] kw),1,8,.nilFunc,kw⟩
theorem Lm:aj prog 277 Pa:=⟨ad (by kernel_rfl),⟨underlying277,rfl⟩,fun h=>nomatch h⟩
def O9:bD:=⟨.aP (.pointer 317),1,8,.pointer is,kw⟩
theorem Ll:aj prog 280 O9:=⟨ad (by kernel_rfl),⟨underlying280,rfl⟩,fun h=>nomatch h⟩
def O8:bD:=⟨.aP (.slice 149),1,24,.slice is 0 0,kw⟩
theorem Lk:aj prog 283 O8:=⟨ad (by kernel_rfl),⟨underlying283,rfl⟩,fun h=>nomatch h⟩
def O7:bD:=⟨.aP (.func #[149] #[4] kw),1,8,.nilFunc,kw⟩
theorem Lj:aj prog 285 O7:=⟨ad (by kernel_rfl),⟨underlying285,rfl⟩,fun h=>nomatch h⟩
def O6:bD:=⟨.cx [(0,31),(1,277)],2,16,.agg #[.int .i64 (0),.nilFunc],jp⟩
theorem Li:aj prog 286 O6:=⟨ad (by kernel_rfl),⟨_,underlying286,rfl⟩,fun _=>bM underlying286 Tryz.stoodInHeld286 Tryz.eqGuardType286 (by decide)⟩
def O5:bD:=⟨.aP (.pointer 326),1,8,.pointer is,kw⟩
theorem Lh:aj prog 288 O5:=⟨ad (by kernel_rfl),⟨underlying288,rfl⟩,fun h=>nomatch h⟩
def O4:bD:=⟨.aP (.slice 286),1,24,.slice is 0 0,kw⟩
theorem Lg:aj prog 290 O4:=⟨ad (by kernel_rfl),⟨underlying290,rfl⟩,fun h=>nomatch h⟩
def O3:bD:=⟨.aP (.int .u64),1,8,.int .u64 (0),kw⟩
theorem Lf:aj prog 296 O3:=⟨ad (by kernel_rfl),⟨underlying296,rfl⟩,fun h=>nomatch h⟩
def O2:bD:=⟨.aP (.pointer 3),1,8,.pointer is,kw⟩
theorem Ld:aj prog 300 O2:=⟨ad (by kernel_rfl),⟨underlying300,rfl⟩,fun h=>nomatch h⟩
def O1:bD:=⟨.aP (.func #[21] #[4] kw),1,8,.nilFunc,kw⟩
theorem Lc:aj prog 308 O1:=⟨ad (by kernel_rfl),⟨underlying308,rfl⟩,fun h=>nomatch h⟩
def O0:bD:=⟨.aP (.unsafePointer),1,8,.pointer is,kw⟩
theorem Lb:aj prog 309 O0:=⟨ad (by kernel_rfl),⟨underlying309,rfl⟩,fun h=>nomatch h⟩
def OZ:bD:=⟨.arr 7 9,7,112,.agg #[.string W0,.string W0,.string W0,.string W0,.string W0,.string W0,.string W0],kw⟩
theorem La:aj prog 312 OZ:=⟨ad (by kernel_rfl),underlying312,fun h=>nomatch h⟩
def OY:bD:=⟨.cx [(0,152),(5,240)],6,88,.agg #[.string W0,.slice is 0 0,.slice is 0 0,.int .i64 (0),.int .i64 (0),.map is],jp⟩
theorem K9:aj prog 317 OY:=⟨ad (by kernel_rfl),⟨_,underlying317,rfl⟩,fun _=>bM underlying317 Tryz.stoodInHeld317 Tryz.eqGuardType317 (by decide)⟩
def OX:bD:=⟨.aP (.func #[157] #[4] kw),1,8,.nilFunc,kw⟩
theorem K8:aj prog 321 OX:=⟨ad (by kernel_rfl),⟨underlying321,rfl⟩,fun h=>nomatch h⟩
def OW:bD:=⟨.aP (.map 332 332),1,8,.map is,kw⟩
theorem K7:aj prog 322 OW:=⟨ad (by kernel_rfl),⟨underlying322,rfl⟩,fun h=>nomatch h⟩
def OV:bD:=⟨.aP (.map 332 3),1,8,.map is,kw⟩
theorem K6:aj prog 323 OV:=⟨ad (by kernel_rfl),⟨underlying323,rfl⟩,fun h=>nomatch h⟩
def OU:bD:=⟨.aP (.slice 334),1,24,.slice is 0 0,kw⟩
theorem K5:aj prog 324 OU:=⟨ad (by kernel_rfl),⟨underlying324,rfl⟩,fun h=>nomatch h⟩
def OS:bD:=⟨.cx [(0,280),(1,322),(2,324),(3,323)],4,48,.agg #[.pointer is,.map is,.slice is 0 0,.map is],jp⟩
theorem K4:aj prog 326 OS:=⟨ad (by kernel_rfl),⟨_,underlying326,rfl⟩,fun _=>bM underlying326 Tryz.stoodInHeld326 Tryz.eqGuardType326 (by decide)⟩
def OQ:bD:=⟨.cx [(0,9),(1,3)],2,24,.agg #[.string W0,.int .i64 (0)],jp⟩
theorem K3:aj prog 332 OQ:=⟨ad (by kernel_rfl),⟨_,underlying332,rfl⟩,fun _=>bM underlying332 Tryz.stoodInHeld332 Tryz.eqGuardType332 (by decide)⟩
def OP:bD:=⟨.cx [(0,3),(1,332),(3,3),(4,3)],5,48,.agg #[.int .i64 (0),.string W0,.int .i64 (0),.int .i64 (0),.int .i64 (0)],jp⟩
theorem K2:aj prog 334 OP:=⟨ad (by kernel_rfl),⟨_,underlying334,rfl⟩,fun _=>bM underlying334 Tryz.stoodInHeld334 Tryz.eqGuardType334 (by decide)⟩
def OO:bD:=⟨.aP (.pointer 296),1,8,.pointer is,kw⟩
theorem K1:aj prog 343 OO:=⟨ad (by kernel_rfl),⟨underlying343,rfl⟩,fun h=>nomatch h⟩
def ON:bD:=⟨.arr 5 9,5,80,.agg #[.string W0,.string W0,.string W0,.string W0,.string W0],kw⟩
theorem K0:aj prog 350 ON:=⟨ad (by kernel_rfl),underlying350,fun h=>nomatch h⟩
def OM:bD:=⟨.arr 24 5,24,24,.agg (.replicate 24 (.int .u8 (0))),kw⟩
theorem KZ:aj prog 363 OM:=⟨ad (by kernel_rfl),underlying363,fun h=>nomatch h⟩
def OL:bD:=⟨.arr 20 104,20,160,.agg (.replicate 20 (.int .u64 (0))),kw⟩
theorem KY:aj prog 368 OL:=⟨ad (by kernel_rfl),underlying368,fun h=>nomatch h⟩
def OK:bD:=⟨.arr 65 5,65,65,.agg (.replicate 65 (.int .u8 (0))),kw⟩
theorem KX:aj prog 369 OK:=⟨ad (by kernel_rfl),underlying369,fun h=>nomatch h⟩
def OJ:bD:=⟨.arr 32 5,32,32,.agg (.replicate 32 (.int .u8 (0))),kw⟩
theorem KW:aj prog 370 OJ:=⟨ad (by kernel_rfl),underlying370,fun h=>nomatch h⟩
def OI:bD:=⟨.arr 64 5,64,64,.agg (.replicate 64 (.int .u8 (0))),kw⟩
theorem KV:aj prog 371 OI:=⟨ad (by kernel_rfl),underlying371,fun h=>nomatch h⟩
def HA:TT:=(.node (.node (.node (.node (.node (.node (.node .leaf 1 ty1 .leaf) 2 ty2 (.node .leaf 3 ty3 .leaf)) 4 ty4 (.node (.node .leaf 5 Rk .leaf) 9 ty9 .leaf)) 21 T1 (.node (.node (.node .leaf 22 TZ .leaf) 23 TY (.node .leaf 25 TX .leaf)) 26 TV (.node (.node .leaf 30 TU .leaf) 31 TR .leaf))) 35 TQ (.node (.node (.node (.node .leaf 36 TP .leaf) 38 TN (.node .leaf 43 TM .leaf)) 50 TL (.node (.node .leaf 55 TJ .leaf) 57 TI .leaf)) 59 TH (.node (.node (.node .leaf 60 TG .leaf) 62 TF (.node .leaf 64 TE .leaf)) 66 TD (.node (.node .leaf 70 TC .leaf) 72 TB .leaf)))) 82 TA (.node (.node (.node (.node (.node .leaf 83 Tz .leaf) 86 Tx (.node .leaf 93 Tw .leaf)) 95 Tv (.node (.node .leaf 97 Tu .leaf) 100 PZ .leaf)) 101 PY (.node (.node (.node .leaf 104 PX .leaf) 108 PW (.node .leaf 110 AP .leaf)) 111 PU (.node (.node .leaf 116 PT .leaf) 123 PS .leaf))) 126 PR (.node (.node (.node (.node .leaf 136 PQ .leaf) 138 PO (.node .leaf 140 PN .leaf)) 141 PM (.node (.node .leaf 142 PL .leaf) 145 PK .leaf)) 147 PJ (.node (.node (.node .leaf 149 PI .leaf) 150 PH .leaf) 152 PG (.node (.node .leaf 157 PF .leaf) 160 PD .leaf))))) 168 PC (.node (.node (.node (.node (.node (.node .leaf 171 PB .leaf) 173 PA (.node .leaf 175 Pz .leaf)) 181 Py (.node (.node .leaf 182 Px .leaf) 184 Pw .leaf)) 186 Pv (.node (.node (.node .leaf 191 Pu .leaf) 192 Pt (.node .leaf 194 Ps .leaf)) 196 Pr (.node (.node .leaf 198 Pq .leaf) 199 Pp .leaf))) 202 Po (.node (.node (.node (.node .leaf 203 Pn .leaf) 209 Pm (.node .leaf 219 Pl .leaf)) 223 Pk (.node (.node .leaf 240 Pj .leaf) 242 Ph .leaf)) 243 Pg (.node (.node (.node .leaf 247 Pf .leaf) 250 Pe .leaf) 260 Pd (.node (.node .leaf 263 Pc .leaf) 275 Pb .leaf)))) 277 Pa (.node (.node (.node (.node (.node .leaf 280 O9 .leaf) 283 O8 (.node .leaf 285 O7 .leaf)) 286 O6 (.node (.node .leaf 288 O5 .leaf) 290 O4 .leaf)) 296 O3 (.node (.node (.node .leaf 300 O2 .leaf) 308 O1 (.node .leaf 309 O0 .leaf)) 312 OZ (.node (.node .leaf 317 OY .leaf) 321 OX .leaf))) 322 OW (.node (.node (.node (.node .leaf 323 OV .leaf) 324 OU (.node .leaf 326 OS .leaf)) 332 OQ (.node (.node .leaf 334 OP .leaf) 343 OO .leaf)) 350 ON (.node (.node (.node .leaf 363 OM .leaf) 368 OL .leaf) 369 OK (.node (.node .leaf 370 OJ .leaf) 371 OI .leaf))))))
theorem CV:HA.VI (aj prog):=⟨LP,⟨QN,⟨Q7,⟨Ri,⟨Tq,⟨Ts,⟨Tt,ac,ac⟩,⟨Tr,ac,ac⟩⟩,⟨Tn,⟨Tp,ac,ac⟩,ac⟩⟩,⟨Ra,⟨Rf,⟨Rh,ac,ac⟩,⟨Rb,ac,ac⟩⟩,⟨Q8,⟨Q9,ac,ac⟩,ac⟩⟩⟩,⟨QX,⟨Q3,⟨Q5,⟨Q6,ac,ac⟩,⟨Q4,ac,ac⟩⟩,⟨QY,⟨QZ,ac,ac⟩,ac⟩⟩,⟨QR,⟨QU,⟨QW,ac,ac⟩,⟨QS,ac,ac⟩⟩,⟨QO,⟨QQ,ac,ac⟩,ac⟩⟩⟩⟩,⟨L4,⟨Mb,⟨QI,⟨QK,⟨QM,ac,ac⟩,⟨QJ,ac,ac⟩⟩,⟨Mc,⟨QH,ac,ac⟩,ac⟩⟩,⟨L7,⟨L9,⟨Ma,ac,ac⟩,⟨L8,ac,ac⟩⟩,⟨L5,⟨L6,ac,ac⟩,ac⟩⟩⟩,⟨LW,⟨LZ,⟨L2,⟨L3,ac,ac⟩,⟨L1,ac,ac⟩⟩,⟨LX,⟨LY,ac,ac⟩,ac⟩⟩,⟨LS,⟨LU,⟨LV,ac,ac⟩,ac⟩,⟨LQ,⟨LR,ac,ac⟩,ac⟩⟩⟩⟩⟩,⟨Lm,⟨Lz,⟨LI,⟨LL,⟨LN,⟨LO,ac,ac⟩,⟨LM,ac,ac⟩⟩,⟨LJ,⟨LK,ac,ac⟩,ac⟩⟩,⟨LD,⟨LG,⟨LH,ac,ac⟩,⟨LF,ac,ac⟩⟩,⟨LA,⟨LB,ac,ac⟩,ac⟩⟩⟩,⟨Ls,⟨Lv,⟨Lx,⟨Ly,ac,ac⟩,⟨Lw,ac,ac⟩⟩,⟨Lt,⟨Lu,ac,ac⟩,ac⟩⟩,⟨Lp,⟨Lq,⟨Lr,ac,ac⟩,ac⟩,⟨Ln,⟨Lo,ac,ac⟩,ac⟩⟩⟩⟩,⟨K7,⟨Lf,⟨Li,⟨Lk,⟨Ll,ac,ac⟩,⟨Lj,ac,ac⟩⟩,⟨Lg,⟨Lh,ac,ac⟩,ac⟩⟩,⟨La,⟨Lc,⟨Ld,ac,ac⟩,⟨Lb,ac,ac⟩⟩,⟨K8,⟨K9,ac,ac⟩,ac⟩⟩⟩,⟨K0,⟨K3,⟨K5,⟨K6,ac,ac⟩,⟨K4,ac,ac⟩⟩,⟨K1,⟨K2,ac,ac⟩,ac⟩⟩,⟨KX,⟨KY,⟨KZ,ac,ac⟩,ac⟩,⟨KV,⟨KW,ac,ac⟩,ac⟩⟩⟩⟩⟩⟩
def qq:Ty:=HA.find
theorem ab:bp prog qq:=TT.wm CV
theorem Sh:prog.follows .mixedOrders=jp:=rfl
theorem gf{Q:AQ}{nt:NT}{k:List KI}{s:AS}{C:Prop}{j:NT}{st:Stop}(h:bG qq ⟨fun _=>is,0,kw⟩ 400 nt k s True=io (C,j,st))(hC:C)(hg:fx prog j Q st):GO prog nt k Q s:=DP Sh ab 400 h hC hg
theorem gA{Q:AQ}{nt:NT}{k:List KI}{s:AS}{C:Prop}{j:NT}{st:Stop}(h:bG qq ⟨fun _=>is,0,kw⟩ 400 nt k s True=io (C,j,st))(hg:fx prog j Q st)
  (hC:C:=by(repeat' (first|exact ac|exact rfl|exact ae.refl _|exact ae.bk (by assumption)|apply WN))<;>first|omega|exact iJ (fun _=>rfl) _|(simp only[WV];omega)|(simp;done)|(simp;omega)):GO prog nt k Q s:=DP Sh ab 400 h hC hg
theorem gM(N:Nat){Q:AQ}{nt:NT}{k:List KI}{s:AS}{C:Prop}{j:NT}{st:Stop}(h:bG qq ⟨fun _=>is,0,kw⟩ N nt k s True=io (C,j,st))(hg:fx prog j Q st)
  (hC:C:=by(repeat' (first|exact ac|exact rfl|exact ae.refl _|exact ae.bk (by assumption)|apply WN))<;>first|omega|exact iJ (fun _=>rfl) _|(simp only[WV];omega)|(simp;done)|(simp;omega)):GO prog nt k Q s:=DP Sh ab N h hC hg
theorem zp{nt:NT}{Q:AQ}{k:List KI}{s:AS}{all rest:List Oper}{o:Oper}{c:Call}{g:FuncId}{args:List PV}{r:PV}{s':AS}(hc:Al.Pure prog g args r)(h:GO prog nt (.ops all rest::k) Q s')(ho:o.op= .call c:=by exact rfl)(hg:o.guard=is:=by exact rfl)(ha:bN s.f c=io (g,args):=by exact rfl)(hl:bq 0 args=jp:=by exact rfl)(hr:r.low 0=jp:=by exact rfl)(hp:putDst nt o r s=io s':=by exact rfl):GO prog nt (.ops all (o::rest)::k) Q s:=aE hc ho hg ha hl hr hp h
theorem zL{ty:Ty}{u:List ResultVar}{e:Exit}{s:AS}{r r0:PV}(j:ae r0 r)(he:e= .normal∨e= .ret:=by first|exact .inr Z|exact .inl Z)(h:je ty s u=io r0:=by exact rfl):Hh ty u r e s:=aH he h j
theorem zq{nt:NT}{Q:AQ}{k:List KI}{s:AS}{all rest:List Oper}{o:Oper}{c:Call}{g:FuncId}{asv args:List PV}{os:List AO}{r:PV}{y:AH}{A:Nat}{s':AS}(L:List Nat)(hc:bf prog g args os r y A)(h:GO prog nt (.ops all rest::k) Q s')(ho:o.op= .call c:=by exact rfl)(hg:o.guard=is:=by exact rfl)(ha:bN s.f c=io (g,asv):=by exact rfl)(hn:cE L=jp:=by exact rfl)(hl:L.all (fun j=>Xm j s.nx)=jp:=by exact rfl)(x:L.map s.h.get=os.map fun o=>io (o.b3 (sig L s.nx)):=by exact rfl)(u:asv=dc (sig L s.nx) args:=by exact rfl)(hp:putDst nt o (r.b3 (sig L s.nx)) (aB s L y A)=io s':=by exact rfl):GO prog nt (.ops all (o::rest)::k) Q s:=ai L hc ho hg ha hn hl x u hp h
theorem zd{nt:NT}{Q:AQ}{k:List KI}{s:AS}{all:List Oper}{todo pend:List (Nat×Oper)}{j:Nat}{o:Oper}{c:Call}{g:FuncId}{asv args:List PV}{os:List AO}{r:PV}{C:AH}{D:Nat}{s':AS}{B A:Prop}(L:List Nat)(hc:bf prog g args os r C D)(h:GO prog nt (.bR all (todo.filter fun x=>!Xj x.1 j) (a7 pend o)::k) Q s')(hrd:dw todo=[(j,o)]:=by exact rfl)(ho:o.op= .call c:=by exact rfl)(ha:bN s.f c=io (g,asv):=by exact rfl)(hn:cE L=jp:=by exact rfl)(hl:L.all (fun j=>Xm j s.nx)=jp:=by exact rfl)(y:L.map s.h.get=os.map fun o=>io (o.b3 (sig L s.nx)):=by exact rfl)(u:asv=dc (sig L s.nx) args:=by exact rfl)(hp:putDst nt o (r.b3 (sig L s.nx)) (aB s L C D)=io s':=by exact rfl)(hg:bQ nt all s.f o=io jp:=by exact rfl)(hpb:gX all pend o=jp:=by exact rfl)(hE:nI todo [j]=jp:=by exact rfl)(hag:lX qq nt all s todo pend=io B:=by exact rfl)(hCA:B:=by(repeat' (first|exact ac|exact rfl|exact ae.refl _|exact ae.bk (by assumption)|apply WN))<;>first|omega|(simp only[WV];omega)|(simp;done)|(simp;omega))(hag2:c6 qq nt all s' (a7 pend o)=io A:=by exact rfl)(hC2:A:=by(repeat' (first|exact ac|exact rfl|exact ae.refl _|exact ae.bk (by assumption)|apply WN))<;>first|omega|(simp only[WV];omega)|(simp;done)|(simp;omega)):GO prog nt (.bR all todo pend::k) Q s:=bg ab L hc hrd ho ha hn hl y u hp hg hpb hE hag hCA hag2 hC2 h
theorem D8{nt:NT}{Q:AQ}{k:List KI}{s:AS}{all:List Oper}{todo pend:List (Nat×Oper)}{j:Nat}{o:Oper}{c:Call}{g:FuncId}{asv args:List PV}{r:PV}{s':AS}{A y:Prop}(hc:Al.Pure prog g args r)(h:GO prog nt (.bR all (todo.filter fun x=>!Xj x.1 j) (a7 pend o)::k) Q s')(hrd:dw todo=[(j,o)]:=by exact rfl)(ho:o.op= .call c:=by exact rfl)(ha:bN s.f c=io (g,asv):=by exact rfl)(u:asv=dc (sig [] s.nx) args:=by exact rfl)(hp:putDst nt o (r.b3 (sig [] s.nx)) (aB s [] [] 0)=io s':=by exact rfl)(hg:bQ nt all s.f o=io jp:=by exact rfl)(hpb:gX all pend o=jp:=by exact rfl)(hE:nI todo [j]=jp:=by exact rfl)(hag:lX qq nt all s todo pend=io A:=by exact rfl)(hCA:A:=by(repeat' (first|exact ac|exact rfl|exact ae.refl _|exact ae.bk (by assumption)|apply WN))<;>first|omega|(simp only[WV];omega)|(simp;done)|(simp;omega))(hag2:c6 qq nt all s' (a7 pend o)=io y:=by exact rfl)(hC2:y:=by(repeat' (first|exact ac|exact rfl|exact ae.refl _|exact ae.bk (by assumption)|apply WN))<;>first|omega|(simp only[WV];omega)|(simp;done)|(simp;omega)):GO prog nt (.bR all todo pend::k) Q s:=bg ab [] hc.nX hrd ho ha Z Z Z u hp hg hpb hE hag hCA hag2 hC2 h
theorem zW{n0:Nat}{L:List Nat}{s t:AS}(hh:o6 t.nx (sg n0 L) s.h t.h)(h1:Xj t.nx (n0+L.length)=jp:=by exact rfl)(u:YR n0 s.nx=jp:=by exact rfl)(x:L.all (fun j=>Xm j s.nx)=jp:=by exact rfl)(hf:Hq t.nx (sg n0 L) s.f t.f:=by repeat' (first|exact ac|exact ae.refl _|exact rfl|apply WN))(y:cE (fq (sg n0 L) t.h)=jp:=by exact rfl):Wk n0 L s t:=wk h1 u x hf hh y
theorem zM{n0:Nat}{L:List Nat}{s t:AS}(hf:Hq t.nx (sg n0 L) s.f t.f)(hh:o6 t.nx (sg n0 L) s.h t.h)(h1:Xj t.nx (n0+L.length)=jp:=by exact rfl)(u:YR n0 s.nx=jp:=by exact rfl)(x:L.all (fun j=>Xm j s.nx)=jp:=by exact rfl)(y:cE (fq (sg n0 L) t.h)=jp:=by exact rfl):Wk n0 L s t:=wk h1 u x hf hh y
theorem zK{n i:Nat}{σ:Nat->Nat}{h r:AH}{cs:List PV}{j:Option TypeId}{c:List IV}(hr:o6 n σ h r)(ho:h.get (σ i)=io (.cells cs j):=by exact rfl)(he:cs=c.map .iv:=by exact rfl)(hi:Xm i n=jp:=by exact rfl):o6 n σ h ((i,io (aG c))::r):=hC ho he hi hr
theorem zS{n i:Nat}{σ:Nat->Nat}{h r:AH}{α:Type}{sz:Nat}{es:List (List PV)}{l:List α}{f:α->List IV}(hr:o6 n σ h r)(ho:h.get (σ i)=io (.row sz es):=by exact rfl)(he:es=l.map fun x=>(f x).map .iv:=by exact rfl)(hi:Xm i n=jp:=by exact rfl):o6 n σ h ((i,io (aX sz l f))::r):=hR ho he hi hr
theorem zI{a b:Prop}(l:a)(r:b):a∧b:=⟨l,r⟩
theorem zO{n i:Nat}{σ:Nat->Nat}{h r:AH}{o:AO}(hr:o6 n σ h r)(he: ∃p,h.get (σ i)=io p∧eR p (o.b3 σ):=by exact⟨_,rfl,.of_eq Z⟩)(hi:i<n:=by exact WL Z)(hl:o.low n:=by exact rfl):o6 n σ h ((i,io o)::r):=⟨he,hi,hl,hr⟩
theorem zD{ty:Ty}{s:AS}{l:List ResultVar}{m:Nat}{r r0:PV}{h:AH}{n:Nat}{e:Exit}(L:List Nat)(hr:je ty s l=io r0)(hw:Wk m L ⟨[(0,r0)],s.h,s.nx⟩ ⟨[(0,r)],h,n⟩)(he:e= .normal∨e= .ret:=by first|exact .inr Z|exact .inl Z):D7 ty l m r h n e s:=ar L he hr hw
theorem zU{ty:Ty}{u:List ResultVar}{nt:NT}{k:List KI}{s s':AS}{e:Exit}{C:Prop}{j:NT}{r r0:PV}(h:bG qq ⟨fun _=>is,0,kw⟩ 400 nt k s True=io (C,j,.fin e s'))(hr:r0=r:=by exact rfl)(he:e= .normal∨e= .ret:=by first|exact .inr Z|exact .inl Z)(h1:je ty s' u=io r0:=by exact rfl)(hC:C:=by(repeat' (first|exact ac|exact rfl|exact ae.refl _|exact ae.bk (by assumption)|apply WN))<;>first|omega|exact iJ (fun _=>rfl) _|(simp only[WV];omega)|(simp;done)|(simp;omega)):GO prog nt k (Hh ty u r) s:=gA h (aH he h1 (.of_eq hr)) hC
theorem zC{n i:Nat}{σ:Nat->Nat}{h r:AH}{V:Type}{kc:KC}{ev:V->IV}{z:V}{x:Value}{j:PV->V}{m u:List (kc.K×V)}(hr:o6 n σ h r)(ho:h.get (σ i)=io (.map kc ev z x j m):=by exact rfl)(he:m=u:=by exact rfl)(hi:Xm i n=jp:=by exact rfl):o6 n σ h ((i,io (.map kc ev z x j u))::r):=hM ho he hi hr
theorem zJ{Q:AQ}{nt:NT}{k:List KI}{s:AS}{C:Prop}{j:NT}{st:Stop}{a b:Prop}(h:bG qq ⟨fun _=>is,0,kw⟩ 400 nt k s True=io (C,j,st))(e:fx prog j Q st=(a∧b))(l:a)(r:b)(hC:C:=by(repeat' (first|exact ac|exact rfl|exact ae.refl _|exact ae.bk (by assumption)|apply WN))<;>first|omega|exact iJ (fun _=>rfl) _|(simp only[WV];omega)|(simp;done)|(simp;omega)):GO prog nt k Q s:=gA h (e.mpr ⟨l,r⟩) hC
theorem zE{Q:AQ}{nt:NT}{k:List KI}{s:AS}{C:Prop}{j:NT}{st:Stop}{a b:Prop}(h:bG qq ⟨fun _=>is,0,kw⟩ 400 nt k s True=io (C,j,st))(e:fx prog j Q st=(a∧b))(r:b)(l:a)(hC:C:=by(repeat' (first|exact ac|exact rfl|exact ae.refl _|exact ae.bk (by assumption)|apply WN))<;>first|omega|exact iJ (fun _=>rfl) _|(simp only[WV];omega)|(simp;done)|(simp;omega)):GO prog nt k Q s:=gA h (e.mpr ⟨l,r⟩) hC
theorem zT{p:Prop}[Decidable p](h:decide p=jp):p:=of_decide_eq_true h
theorem zF{p:Prop}[Decidable p](h:decide p=kw): ¬p:=of_decide_eq_false h
theorem zN{a b:Nat}(h:lc ((a:Int)<(b:Int))=jp):a<b:=ZZ.1 (of_decide_eq_true h)
theorem zG{a b:Nat}(h:lc ((a:Int)<(b:Int))=kw):b<=a:=Yz fun hh=>absurd (ZZ.2 hh) (of_decide_eq_false h)
end Go.Proofs.YtlmhfgbkchnfbaaGreatDoor
namespace Go.Proofs.YtlmhfgbkchnfbaaGreatDoor
open Go Go.Al
abbrev aq:=ByteArray
structure cS where
 kind:Int
 num:Int
 sym:aq
 deriving Inhabited,DecidableEq
structure Term where
 kind:Int
 var:aq
 val:cS
 deriving Inhabited,DecidableEq
inductive Expr where
 |mk (kind:Int) (var:aq) (val:cS) (op:Int) (args:List Expr)
instance:Inhabited Expr:=⟨.mk 0 W0 ⟨0,0,W0⟩ 0 []⟩
def Expr.kind:Expr->Int| .mk k _ _ _ _=>k
def Expr.var:Expr->aq| .mk _ v _ _ _=>v
def Expr.val:Expr->cS| .mk _ _ v _ _=>v
def Expr.op:Expr->Int| .mk _ _ _ o _=>o
def Expr.args:Expr->List Expr| .mk _ _ _ _ a=>a
structure Atom where
 rel:aq
 an:List Term
 deriving Inhabited,DecidableEq
structure Pos where
 line:Int
 KO:Int
 deriving Inhabited,DecidableEq
inductive Lit where
 |mk (kind:Int) (atom:Atom) (op:Int) (left right:Expr) (dU:Int) (bF:aq) (kn:Expr) (ay:List Lit) (at_:Pos)
instance:Inhabited Lit:=⟨.mk 0 co 0 co co 0 W0 co [] ⟨0,0⟩⟩
def Lit.kind:Lit->Int| .mk k _ _ _ _ _ _ _ _ _=>k
def Lit.atom:Lit->Atom| .mk _ a _ _ _ _ _ _ _ _=>a
def Lit.op:Lit->Int| .mk _ _ o _ _ _ _ _ _ _=>o
def Lit.left:Lit->Expr| .mk _ _ _ l _ _ _ _ _ _=>l
def Lit.right:Lit->Expr| .mk _ _ _ _ r _ _ _ _ _=>r
def Lit.dU:Lit->Int| .mk _ _ _ _ _ f _ _ _ _=>f
def Lit.bF:Lit->aq| .mk _ _ _ _ _ _ v _ _ _=>v
def Lit.kn:Lit->Expr| .mk _ _ _ _ _ _ _ o _ _=>o
def Lit.ay:Lit->List Lit| .mk _ _ _ _ _ _ _ _ b _=>b
def Lit.at:Lit->Pos| .mk _ _ _ _ _ _ _ _ _ p=>p
structure gU where
 func:Int
 var:aq
 j4:Expr
 body:List Lit
 deriving Inhabited
def Lit.agg(l:Lit):gU:=⟨l.dU,l.bF,l.kn,l.ay⟩
structure aw where
 head:Atom
 body:List Lit
 at_:Pos
 deriving Inhabited
structure Decl where
 name:aq
 types:List Int
 at_:Pos
 deriving Inhabited
structure Prog where
 aF:List Decl
 rules:List aw
 deriving Inhabited
structure Fact where
 rel:aq
 args:List cS
 deriving Inhabited
def cS.c(v:cS):List IV:=[iI v.kind,iI v.num,iS v.sym]
def Term.c(t:Term):List IV:=[iI t.kind,iS t.var,iI t.val.kind,iI t.val.num,iS t.val.sym]
def de(s:aq):List IV:=[iS s]
def kj(n:Int):List IV:=[iI n]
abbrev strs(l:List aq):IV:=aW 1 l de
def Atom.c(a:Atom):List IV:=[iS a.rel,aW 5 a.an Term.c]
mutual
def Expr.cr:Expr->List IV
 | .mk k v val op args=> [iI k,iS v,iI val.kind,iI val.num,iS val.sym,iI op,.bL 7 args.length (fun j=>(Expr.wA args).getD j [])]
def Expr.wA:List Expr->List (List IV)
 | []=> []
 |e::r=>e.cr::Expr.wA r
end
def Expr.c(e:Expr):List IV:=[iI e.kind,iS e.var,iI e.val.kind,iI e.val.num,iS e.val.sym,iI e.op,.bL 7 e.args.length (fun j=>(Expr.wA e.args).getD j [])]
def Expr.c1(e:Expr):List IV:=[iI e.kind,iS e.var,iI e.val.kind,iI e.val.num,iS e.val.sym,iI e.op,aW 7 e.args Expr.c]
theorem Expr.J8(e:Expr):e.cr=e.c:=by cases e;rfl
theorem Expr.q9: ∀(l:List Expr) (k:Nat),k<l.length->(Expr.wA l).getD k []=(l.getD k co).c
 |e::r,0,_=>by simp[Expr.wA,Expr.J8]
 |e::r,k+1,h=>by simpa[Expr.wA]using Expr.q9 r k (by simpa using h)
 | [],k,h=>by simp at h
theorem SF(e:Expr):jR (.bL 7 e.args.length (fun j=>(Expr.wA e.args).getD j [])) (aW 7 e.args Expr.c):= .bL Z (Expr.q9 e.args)
theorem Fp(e:Expr):jR (aW 7 e.args Expr.c) (.bL 7 e.args.length (fun j=>(Expr.wA e.args).getD j [])):= .bL Z (fun k hk=>(Expr.q9 e.args k hk).symm)
mutual
def Lit.cr:Lit->List IV
 | .mk kind atom op left right dU bF kn ay at_=>
  iI kind::(atom.c++(iI op::(left.c++(right.c++(iI dU::iS bF::(kn.c++ [.bL 30 ay.length (fun j=>(Lit.wA ay).getD j []),iI at_.line,iI at_.KO]))))))
def Lit.wA:List Lit->List (List IV)
 | []=> []
 |e::r=>e.cr::Lit.wA r
end
def Lit.cw(l:Lit)(b:IV):List IV:=
 [iI l.kind,iS l.atom.rel,aW 5 l.atom.an Term.c,iI l.op,
  iI l.left.kind,iS l.left.var,iI l.left.val.kind,iI l.left.val.num,iS l.left.val.sym,iI l.left.op,.bL 7 l.left.args.length (fun j=>(Expr.wA l.left.args).getD j []),
  iI l.right.kind,iS l.right.var,iI l.right.val.kind,iI l.right.val.num,iS l.right.val.sym,iI l.right.op,.bL 7 l.right.args.length (fun j=>(Expr.wA l.right.args).getD j []),
  iI l.dU,iS l.bF,
  iI l.kn.kind,iS l.kn.var,iI l.kn.val.kind,iI l.kn.val.num,iS l.kn.val.sym,iI l.kn.op,.bL 7 l.kn.args.length (fun j=>(Expr.wA l.kn.args).getD j []),
  b,iI l.at.line,iI l.at.KO]
def sw(l:List Lit):IV:= .bL 30 l.length (fun j=>(Lit.wA l).getD j [])
def Lit.c(l:Lit):List IV:=l.cw (sw l.ay)
abbrev lits(l:List Lit):IV:=aW 30 l Lit.c
def Lit.c1(l:Lit):List IV:=l.cw (lits l.ay)
theorem Lit.J8(e:Lit):e.cr=e.c:=by cases e;rfl
theorem Lit.q9: ∀(l:List Lit) (k:Nat),k<l.length->(Lit.wA l).getD k []=(l.getD k co).c
 |e::r,0,_=>by simp[Lit.wA,Lit.J8]
 |e::r,k+1,h=>by simpa[Lit.wA]using Lit.q9 r k (by simpa using h)
 | [],k,h=>by simp at h
theorem nn(l:List Lit):jR (sw l) (lits l):= .bL Z (Lit.q9 l)
theorem zX(l:List Lit):jR (lits l) (sw l):= .bL Z (fun k hk=>(Lit.q9 l k hk).symm)
def gU.cw(a:gU)(b:IV):List IV:=[iI a.func,iS a.var,iI a.j4.kind,iS a.j4.var,iI a.j4.val.kind,iI a.j4.val.num,iS a.j4.val.sym,iI a.j4.op,.bL 7 a.j4.args.length (fun j=>(Expr.wA a.j4.args).getD j []),b]
def gU.c(a:gU):List IV:=a.cw (sw a.body)
def gU.c1(a:gU):List IV:=a.cw (lits a.body)
def aw.c(r:aw):List IV:=[iS r.head.rel,aW 5 r.head.an Term.c,lits r.body,iI r.at_.line,iI r.at_.KO]
def Decl.c(r:Decl):List IV:=[iS r.name,aW 1 r.types kj,iI r.at_.line,iI r.at_.KO]
def Prog.c(p:Prog):List IV:=[aW 4 p.aF Decl.c,aW 5 p.rules aw.c]
def Fact.c(f:Fact):List IV:=[iS f.rel,aW 3 f.args cS.c]
theorem Expr.DD(e:Expr):ae (ag e.c) (ag e.c1):= .agg ⟨.refl _,.refl _,.refl _,.refl _,.refl _,.refl _,.iv (SF e),ac⟩
theorem Expr.GL(e:Expr):ae (ag e.c1) (ag e.c):= .agg ⟨.refl _,.refl _,.refl _,.refl _,.refl _,.refl _,.iv (Fp e),ac⟩
theorem Lit.Fu(l:Lit){b j:IV}(h:jR b j):ae (ag (l.cw b)) (ag (l.cw j)):=
 .agg ⟨.refl _,.refl _,.refl _,.refl _,.refl _,.refl _,.refl _,.refl _,.refl _,.refl _,.refl _,.refl _,.refl _,.refl _,.refl _,.refl _,.refl _,.refl _,.refl _,.refl _,.refl _,.refl _,.refl _,.refl _,.refl _,.refl _,.refl _,.iv h,.refl _,.refl _,ac⟩
theorem Lit.DD(l:Lit):ae (ag l.c) (ag l.c1):=l.Fu (nn _)
theorem gU.Fu(l:gU){b j:IV}(h:jR b j):ae (ag (l.cw b)) (ag (l.cw j)):=
 .agg ⟨.refl _,.refl _,.refl _,.refl _,.refl _,.refl _,.refl _,.refl _,.refl _,.iv h,ac⟩
theorem gU.DD(l:gU):ae (ag l.c) (ag l.c1):=l.Fu (nn _)
theorem gU.GL(l:gU):ae (ag l.c1) (ag l.c):=l.Fu (zX _)
mutual
def Expr.size:Expr->Nat
 | .mk _ _ _ _ args=>1+Expr.aD args
def Expr.aD:List Expr->Nat
 | []=>0
 |e::r=>e.size+Expr.aD r
end
mutual
def Lit.size:Lit->Nat
 | .mk _ a _ l r _ _ o b _=>2+a.an.length+l.size+r.size+o.size+Lit.aD b
def Lit.aD:List Lit->Nat
 | []=>0
 |e::r=>e.size+Lit.aD r
end
theorem Expr.size_eq(e:Expr):e.size=1+Expr.aD e.args:=by cases e;rfl
theorem Lit.size_eq(l:Lit):l.size=2+l.atom.an.length+l.left.size+l.right.size+l.kn.size+Lit.aD l.ay:=by cases l;rfl
theorem Expr.bT: ∀(l:List Expr) (k:Nat),k<l.length->(l.getD k co).size<=Expr.aD l
 |e::r,0,_=>by simp[Expr.aD]
 |e::r,k+1,h=>by
  have:=Expr.bT r k (by simpa using h);simp only[Yj,Expr.aD];omega
 | [],k,h=>by simp at h
theorem Lit.bT: ∀(l:List Lit) (k:Nat),k<l.length->(l.getD k co).size<=Lit.aD l
 |e::r,0,_=>by simp[Lit.aD]
 |e::r,k+1,h=>by
  have:=Lit.bT r k (by simpa using h);simp only[Yj,Lit.aD];omega
 | [],k,h=>by simp at h
theorem Expr.size_pos(e:Expr):1<=e.size:=by rw[e.size_eq];omega
theorem Lit.size_pos(e:Lit):2<=e.size:=by rw[e.size_eq];omega
theorem Expr.aJ: ∀(l:List Expr),l.length<=Expr.aD l
 | []=>WY _
 |e::r=>by have:=e.size_pos;have:=Expr.aJ r;simp only[Xn,Expr.aD];omega
theorem Lit.aJ: ∀(l:List Lit),l.length<=Lit.aD l
 | []=>WY _
 |e::r=>by have:=e.size_pos;have:=Lit.aJ r;simp only[Xn,Lit.aD];omega
def aw.size(r:aw):Nat:=r.head.an.length+Lit.aD r.body
def dX(l:List aq)(s:aq):Bool:=l.any fun x=>lc (x=s)
def eE(s:aq)(a:List aq×Bool)(x:aq):List aq×Bool:=
 if(a.2||decide (x=s))=kw∧(!(Op.bytesLess x.toList s.toList||decide (x=s)))=jp then(a.1++ [s]++ [x],jp) else(a.1++ [x],a.2||decide (x=s))
def iy(l:List aq)(s:aq):List aq:=
 let r:=l.foldl (eE s) ([],kw)
 if r.2 then r.1 else r.1++ [s]
def o7(l m:List aq):List aq:=m.foldl iy l
def CW(a:List aq)(t:Term):List aq:=if t.kind=1 then iy a t.var else a
def sA(a:Atom):List aq:=a.an.foldl CW []
theorem Lit.ve: ∀(l:List Lit) (i:Nat),Lit.aD (l.take i)<=Lit.aD l
 | [],i=>by simp
 |e::r,0=>by simp[Lit.aD]
 |e::r,i+1=>by have:=Lit.ve r i;simp only[Ye,Lit.aD];omega
theorem Expr.dY: ∀(l:List Expr) (i:Nat),i<l.length->Expr.aD (l.take i)+(l.getD i co).size<=Expr.aD l
 |e::r,0,_=>by simp[Expr.aD]
 |e::r,i+1,h=>by have:=Expr.dY r i (by simpa using h);simp only[Ye,Yj,Expr.aD];omega
 | [],i,h=>by simp at h
theorem Lit.dY: ∀(l:List Lit) (i:Nat),i<l.length->Lit.aD (l.take i)+(l.getD i co).size<=Lit.aD l
 |e::r,0,_=>by simp[Lit.aD]
 |e::r,i+1,h=>by have:=Lit.dY r i (by simpa using h);simp only[Ye,Yj,Lit.aD];omega
 | [],i,h=>by simp at h
def gU.size(a:gU):Nat:=a.j4.size+Lit.aD a.body
section
def AD(n:Int):IV:= .v (.int .i64 n)
def V8(p:PV):Int:=match p with
 | .iv (.v (.int _ n))=>n
 |_=>0
abbrev NM:=List ((KC.str).K×Int)
abbrev cX(m:NM):AO:= .map .str AD 0 (.int .i64 0) V8 m
abbrev BO(m:NM):IV:= .eO .str AD 0 (.int .i64 0) m
theorem gj: ∀M,IR M (AD 0) (.int .i64 0):=fun _=> .v _
def bump(m:NM)(s:aq):NM:=cP .str m s (dW .str m s 0+1)
def aL(l:List aq):NM:=l.foldl bump []
theorem dq(l:List aq)(s:aq):aL (l++ [s])=bump (aL l) s:=by simp[aL]
section
variable {V:Type}
theorem mw{m:List ((KC.str).K×V)}{s t:aq}{v z:V}:dW .str (cP .str m s v) t z=if s=t then v else dW .str m t z:=by
 induction m with
 |nil=>simp only[cP,dW]
 |cons x r ih=>
  obtain⟨a,b⟩:=x;simp only[cP];by_cases h:a=s
  .rw[am h];simp only[dW];by_cases j:s=t
   .simp[j]
   .have: ¬a=t:=fun e=>j (h▸e)
    rw[be j,be j,be this]
  .rw[be h];simp only[dW,ih];by_cases j:a=t
   .have: ¬s=t:=fun e=>h (j.trans e.symm)
    simp[j,this]
   .simp[j]
theorem B9{m:List ((KC.str).K×V)}{t:aq}:dx .str m t=jp↔t∈m.map XY:=by
 induction m with
 |nil=>simp[dx]
 |cons x r ih=>
  obtain⟨a,b⟩:=x;simp only[dx,WW,Xa];by_cases h:a=t
  .simp[h]
  .have: ¬t=a:=fun e=>h e.symm
   simp[h,this,ih]
theorem rW{m:List ((KC.str).K×V)}{s:aq}{v:V}(h:s∈m.map XY):(cP .str m s v).map XY=m.map XY:=by
 induction m with
 |nil=>simp at h
 |cons x r ih=>
  obtain⟨a,b⟩:=x;simp only[cP];by_cases j:a=s
  .rw[am j];simp[j]
  .have: ¬s=a:=fun e=>j e.symm
   rw[be j,WW,ih (by simpa[this]using h)];rfl
theorem eh{m:List ((KC.str).K×V)}{s:aq}{v:V}(h:s∉m.map XY):(cP .str m s v).map XY=m.map XY++ [s]:=by
 induction m with
 |nil=>simp[cP]
 |cons x r ih=>
  obtain⟨a,b⟩:=x;simp only[WW,Xa,not_or]at h;have: ¬a=s:=fun e=>h.1 e.symm;simp only[cP,be this,WW,ih h.2];rfl
theorem Dz{m:List ((KC.str).K×V)}{t:aq}{z:V}(h:t∉m.map XY):dW .str m t z=z:=by
 induction m with
 |nil=>rfl
 |cons x r ih=>
  obtain⟨a,b⟩:=x;simp only[WW,Xa,not_or]at h;have: ¬a=t:=fun e=>h.1 e.symm;simp only[dW,be this];exact ih h.2
end
theorem rz{α:Type}{p:List α->Prop}(h0:p [])(h1: ∀l a,p l->p (l++ [a]))(l:List α):p l:=by
 have key: ∀r:List α,p r.reverse:=by
  intro r
  induction r with
  |nil=>exact h0
  |cons a r ih=>rw[List.reverse_cons];exact h1 _ _ ih
 simpa using key l.reverse
def ra(l:List aq)(t:aq):Nat:=(l.filter fun x=>lc (x=t)).length
theorem Cw(l m:List aq)(t:aq):ra (l++m) t=ra l t+ra m t:=by simp[ra]
theorem ia(l:List aq)(t:aq):ra l t<=l.length:=Yi _ _
theorem wB{l:List aq}{t:aq}:0<ra l t↔t∈l:=by
 rw[ra,List.length_pos_iff_exists_mem];constructor
 .rintro⟨x,hx⟩;obtain⟨h1,j⟩:=Xu.1 hx;exact(zT j)▸h1
 .exact fun h=>⟨t,Xu.2 ⟨h,by simp⟩⟩
theorem tp{l:List aq}{t:aq}:ra l t=0↔t∉l:=by
 rw[<-wB];omega
theorem bJ(l:List aq)(t:aq):dW .str (aL l) t 0=(ra l t:Int):=by
 induction l using rz with
 |h0=>rfl
 |h1 l s ih=>
  rw[dq,bump,mw,Cw];by_cases h:s=t
  .subst h;rw[ih];simp[ra]
  .rw[be h,ih];simp[h,ra]
theorem eL(l:List aq):((aL l).map XY).Nodup∧ ∀t:aq,t∈(aL l).map XY↔t∈l:=by
 induction l using rz with
 |h0=>simp[aL]
 |h1 l s ih=>
  rw[dq,bump];obtain⟨h1,j⟩:=ih;by_cases h:s∈(aL l).map XY
  .rw[rW h];refine⟨h1,fun t=>?_⟩;rw[j,Xf,W1];exact⟨.inl,fun u=>u.elim id fun e=>e▸(j s).1 h⟩
  .rw[eh h];refine⟨?_,fun t=>by rw[Xf,j,Xf]⟩;rw[Yt];refine⟨h1,XB.2 ⟨ZF,XM⟩,fun a x b hb e=>?_⟩;rw[W1]at hb;exact h ((e.trans hb)▸x)
def cW(a:Atom):List aq:=a.an.flatMap fun t=>if t.kind=1 then[t.var] else[]
theorem bC{α β:Type}[Inhabited α]{l:List α}{f:α->List β}{i:Nat}(h:i<l.length):(l.take (i+1)).flatMap f=(l.take i).flatMap f++f (l.getD i co):=by
 rw[bS h,Zo];simp
theorem u7: ∀l:List Term,(l.flatMap fun t=>if t.kind=1 then[t.var] else[]).length<=l.length
 | []=>by simp
 |t::r=>by
  have:=u7 r;have j:(if t.kind=1 then[t.var] else[]).length<=1:=by split<;>simp
  rw[XS,WO,Xn];omega
theorem jQ(a:Atom):(cW a).length<=a.an.length:=u7 a.an
theorem d88(occ:List aq)(a:Atom)(hb:occ.length+a.an.length<=1000000000000):bf Tryz.prog 192 [.mp 0,ag a.c] [cX (aL occ)] (.aY []) [(0,io (cX (aL (occ++cW a))))] 1:=by
 refine ak ab Tryz.func192 Z (by decide) Tryz.ntmps192 Z (by simp) ?_;refine gA Z ?_;refine aM 0 a.an.length (W2 _) (fun i=>⟨[(0,.mp 0),(3,.ptr 1 0),(7,.iv (aW 5 a.an Term.c)),(8,pI a.an.length),(9,pI i)],[(0,io (cX (aL (occ++(a.an.take i).flatMap fun t=>if t.kind=1 then[t.var] else[]))))],2⟩) (fun _=>True) [] ac
  (zW (hM Z (by simp) Z trivial)) fun i hi _=>?_
 have hl:=u7 (a.an.take i);simp only[Xv]at hl;refine zJ Z Z (fun h1=>?_) fun h1=>?_
 .have h1:i<a.an.length:=by simpa using h1
  have hs:=bC (f:=fun t:Term=>if t.kind=1 then[t.var] else[]) h1;have y:=bJ (occ++(a.an.take i).flatMap fun t=>if t.kind=1 then[t.var] else[]) (a.an.getD i co).var;have u:=ia (occ++(a.an.take i).flatMap fun t=>if t.kind=1 then[t.var] else[]) (a.an.getD i co).var;rw[WO]at u;refine zJ Z Z (fun j=>?_) fun j=>?_
  .have j:(a.an.getD i co).kind=1:=by simpa using j
   rw[am j]at hs;refine gA Z ⟨h1,ac,[],zW (hM Z (by rw[hs,<-W6,dq];rfl) Z ac)⟩
  .have j: ¬(a.an.getD i co).kind=1:=by simpa using j
   rw[be j,XA]at hs;refine gA Z ⟨h1,ac,[],zW (hM Z (by rw[hs]) Z ac)⟩
 .have h1:a.an.length<=i:=by simpa using h1
  have x:a.an.take i=a.an:=W9 h1;refine gA Z (zD [] Z (zW (hM Z (by rw[x];rfl) Z ac)))
end
end Go.Proofs.YtlmhfgbkchnfbaaGreatDoor
namespace Go.Proofs.YtlmhfgbkchnfbaaGreatDoor
open Go Go.Al Go.Proofs.Tryz
mutual
def cH:Expr->List aq
 | .mk k v _ _ args=>if k=1 then[v] else if k=4 then kT args else[]
def kT:List Expr->List aq
 | []=> []
 |e::r=>cH e++kT r
end
theorem oO: ∀l:List Expr,kT l=l.flatMap cH
 | []=>rfl
 |e::r=>by simp only[kT,XS,oO r]
theorem DV(e:Expr):cH e=if e.kind=1 then[e.var] else if e.kind=4 then e.args.flatMap cH else[]:=by
 cases e with
 |mk k v val op args=>simp only[cH,Expr.kind,Expr.var,Expr.args,oO];rfl
mutual
theorem iF: ∀e:Expr,(cH e).length<=e.size
 | .mk k v _ _ args=>by
  have:=nG args;simp only[cH,Expr.size];split
  .simp
  .split
   .omega
   .simp
theorem nG: ∀l:List Expr,(kT l).length<=Expr.aD l
 | []=>by simp[kT]
 |e::r=>by
  have h1:=iF e;have j:=nG r;simp only[kT,Expr.aD,WO];omega
end
theorem d135: ∀(n:Nat) (e:Expr) (occ:List aq),e.size<=n->occ.length+e.size<=1000000000000->bf prog 247 [.mp 0,ag e.c] [cX (aL occ)] (.aY []) [(0,io (cX (aL (occ++cH e))))] 1
 |0,e,_,h,_=>by have:=e.size_pos;omega
 |n+1,e,occ,h,hb=>by
  refine bf.le (args:=[.mp 0,ag e.c1]) ?_ ⟨.refl _,e.DD,ac⟩;have x:=DV e;have D:=e.size_eq;have C:=bJ occ e.var;have B:=ia occ e.var;refine ak ab func247 Z (by decide) ntmps247 Z (by simp) ?_;refine zJ Z Z (fun h1=>?_) fun h1=>?_
  .have h1:e.kind=1:=by simpa using h1
   rw[am h1]at x;refine gA Z (zD [] Z (zW (hM Z (by rw[x,dq];rfl) Z ac)))
  have h1: ¬e.kind=1:=by simpa using h1
  rw[be h1]at x;refine zJ Z Z (fun u=>?_) fun u=>?_
  .have u:e.kind=4:=by simpa using u
   rw[am u]at x;refine gA Z ?_;refine aM 0 e.args.length (W2 _) (fun i=>⟨[(0,.mp 0),(3,.ptr 1 0),(18,.iv (aW 7 e.args Expr.c)),(19,pI e.args.length),(20,pI i)],[(0,io (cX (aL (occ++(e.args.take i).flatMap cH))))],2⟩) (fun _=>True) [] ac
    (zW (hM Z (by simp) Z trivial)) fun i hi _=>?_
   have A:=Expr.aJ e.args;refine zJ Z Z (fun j=>?_) fun j=>?_
   .have j:i<e.args.length:=by simpa using j
    have hs:=bC (f:=cH) j;have I:=Expr.dY e.args i j;have G:=nG (e.args.take i);rw[oO]at G;refine gA Z (ai [0] (d135 n (e.args.getD i co) _ (by omega) (by rw[WO];omega)) Z Z Z Z Z Z Z Z ?_);refine gA Z ⟨j,ac,[],zW (hM Z (by rw[hs,W6]) Z ac)⟩
   .have j:e.args.length<=i:=by simpa using j
    have y:e.args.take i=e.args:=W9 j;refine gA Z (zD [] Z (zW (hM Z (by rw[x,y]) Z ac)))
  .have u: ¬e.kind=4:=by simpa using u
   rw[be u]at x;refine gA Z (zD [] Z (zW (hM Z (by rw[x,XA]) Z ac)))
theorem J6(e:Expr)(occ:List aq)(hb:occ.length+e.size<=1000000000000):bf prog 247 [.mp 0,ag e.c] [cX (aL occ)] (.aY []) [(0,io (cX (aL (occ++cH e))))] 1:=d135 e.size e occ (WY _) hb
def cY(l:Lit):List aq:=if l.kind=1∨l.kind=2 then cW l.atom else if l.kind=3 then cH l.left++cH l.right else[]
theorem np(l:Lit):(cY l).length+2<=l.size:=by
 have h1:=jQ l.atom;have j:=iF l.left;have u:=iF l.right;rw[l.size_eq];unfold cY;split
 .omega
 .split
  .rw[WO];omega
  .simp;omega
theorem d89(l:Lit)(occ:List aq)(hb:occ.length+l.size<=1000000000000):bf prog 215 [.mp 0,ag l.c] [cX (aL occ)] (.aY []) [(0,io (cX (aL (occ++cY l))))] 1:=by
 have B:=l.size_eq;have C:=iF l.left;refine ak ab func215 Z (by decide) ntmps215 Z (by simp) ?_;refine zJ Z Z (fun u=>?_) fun u=>?_
 .have u:l.kind=1:=zT u;have A:cY l=cW l.atom:=am (.inl u);refine gA Z (zq [0] (d88 occ l.atom (by omega)) ?_);refine gA Z (zD [] Z (zW (hM Z (by rw[A]) Z ac)))
 have u: ¬l.kind=1:=zF u;refine zJ Z Z (fun x=>?_) fun x=>?_
 .have x:l.kind=2:=zT x;have A:cY l=cW l.atom:=am (.inr x);refine gA Z (zq [0] (d88 occ l.atom (by omega)) ?_);refine gA Z (zD [] Z (zW (hM Z (by rw[A]) Z ac)))
 have x: ¬l.kind=2:=zF x;have j:cY l=if l.kind=3 then cH l.left++cH l.right else[]:=be (by simp[u,x]);refine zJ Z Z (fun y=>?_) fun y=>?_
 .have y:l.kind=3:=zT y;rw[am y]at j;refine gA Z (zq [0] (J6 l.left occ (by omega)) ?_);refine gA Z (ai [0] (J6 l.right _ (by rw[WO];omega)) Z Z Z Z Z Z Z Z ?_);refine gA Z (zD [] Z (zW (hM Z (by rw[j,W6]) Z ac)))
 .have y: ¬l.kind=3:=zF y;rw[be y]at j;refine gA Z (zD [] Z (zW (hM Z (by rw[j,XA]) Z ac)))
def bn(a:gU):List aq:=(if a.func=1 then[] else cH a.j4)++a.body.flatMap cY
theorem ly: ∀l:List Lit,(l.flatMap cY).length<=Lit.aD l
 | []=>by simp
 |e::r=>by
  have h1:=np e;have j:=ly r;rw[XS,WO];simp only[Lit.aD];omega
theorem Qm(e:Expr)(hb:e.size<=1000000000000):bf prog 247 [.mp 0,ag e.c] [.ft] (.aY []) [(0,io (cX (aL (cH e))))] 1:=
 (J6 e [] (by simpa using hb)).Qb ⟨⟨id,fun M N U w j u=>⟨#[],0,u,⟨rfl,by simp[aL],by simp[aL],by simp,by simp⟩,gj M⟩⟩,ac⟩
theorem Wd(a:Atom)(hb:a.an.length<=1000000000000):bf prog 192 [.mp 0,ag a.c] [.ft] (.aY []) [(0,io (cX (aL (cW a))))] 1:=
 (d88 [] a (by simpa using hb)).Qb ⟨⟨id,fun M N U w j u=>⟨#[],0,u,⟨rfl,by simp[aL],by simp[aL],by simp,by simp⟩,gj M⟩⟩,ac⟩
theorem d127(a:gU)(hb:a.size<=1000000000000):bf prog 221 [ag a.c] [] (.mp 0) [(0,io (cX (aL (bn a))))] 1:=by
 refine bf.le (args:=[ag a.c1]) ?_ ⟨a.DD,ac⟩;unfold gU.size at hb;have A:=iF a.j4;have y:=Lit.aJ a.body;refine ak ab func221 Z (by decide) ntmps221 Z (by simp) ?_;refine zJ Z Z (fun h1=>?_) fun h1=>?_
 .have h1: ¬a.func=1:=by simpa using h1
  have u:bn a=cH a.j4++a.body.flatMap cY:=by unfold bn;rw[be h1]
  refine gA Z (zq [1] (Qm a.j4 (by omega)) ?_);refine gA Z ?_;refine aM 0 a.body.length (W2 _) (fun i=>⟨[(3,.mp 1),(15,.iv (lits a.body)),(16,pI a.body.length),(17,pI i)],[(1,io (cX (aL (cH a.j4++(a.body.take i).flatMap cY))))],2⟩) (fun _=>True) [] ac
   (zW (hM Z (by simp) Z trivial)) fun i hi _=>?_
  refine zJ Z Z (fun j=>?_) fun j=>?_
  .have j:i<a.body.length:=by simpa using j
   have hs:=bC (f:=cY) j;have B:=Lit.dY a.body i j;have C:=ly (a.body.take i);refine gA Z (ai [1] (d89 (a.body.getD i co) _ (by rw[WO];omega)) Z Z Z Z Z Z Z Z ?_);refine gA Z ⟨j,ac,[],zW (hM Z (by rw[hs,W6]) Z ac)⟩
  .have j:a.body.length<=i:=by simpa using j
   have x:a.body.take i=a.body:=W9 j;refine gA Z (zD [1] Z (zW (hM Z (by rw[x,u]) Z ac)))
 .have h1:a.func=1:=by simpa using h1
  have u:bn a=a.body.flatMap cY:=by unfold bn;rw[am h1];rfl
  refine gA Z ?_;refine aM 0 a.body.length (W2 _) (fun i=>⟨[(3,.mp 1),(15,.iv (lits a.body)),(16,pI a.body.length),(17,pI i)],[(1,io (cX (aL ((a.body.take i).flatMap cY))))],2⟩) (fun _=>True) [] ac
   (zW (Sr Z gj Z trivial)) fun i hi _=>?_
  refine zJ Z Z (fun j=>?_) fun j=>?_
  .have j:i<a.body.length:=by simpa using j
   have hs:=bC (f:=cY) j;have B:=Lit.dY a.body i j;have C:=ly (a.body.take i);refine gA Z (ai [1] (d89 (a.body.getD i co) _ (by omega)) Z Z Z Z Z Z Z Z ?_);refine gA Z ⟨j,ac,[],zW (hM Z (by rw[hs]) Z ac)⟩
  .have j:a.body.length<=i:=by simpa using j
   have x:a.body.take i=a.body:=W9 j;refine gA Z (zD [1] Z (zW (hM Z (by rw[x,u]) Z ac)))
def ins:List aq->aq->List aq
 | [],s=> [s]
 |x::r,s=>if x=s then x::r else if Op.bytesLess x.toList s.toList=jp then x::ins r s else s::x::r
theorem kQ(s:aq): ∀(l a:List aq),l.foldl (eE s) (a,jp)=(a++l,jp)
 | [],a=>by simp
 |x::r,a=>by
  have:eE s (a,jp) x=(a++ [x],jp):=by simp[eE]
  rw[XU,this,kQ s r];simp
theorem yz(s:aq): ∀(l a:List aq),(if(l.foldl (eE s) (a,kw)).2 then(l.foldl (eE s) (a,kw)).1 else(l.foldl (eE s) (a,kw)).1++ [s])=a++ins l s
 | [],a=>by simp[ins]
 |x::r,a=>by
  by_cases h1:x=s
  .have:eE s (a,kw) x=(a++ [x],jp):=by simp[eE,h1]
   rw[XU,this,kQ];simp[ins,h1]
  .cases h2:Op.bytesLess x.toList s.toList with
   |true=>
    have:eE s (a,kw) x=(a++ [x],kw):=by simp[eE,h1,h2]
    rw[XU,this,yz s r];simp[ins,h1,h2]
   |false=>
    have:eE s (a,kw) x=(a++ [s]++ [x],jp):=by simp[eE,h1,h2]
    rw[XU,this,kQ];simp[ins,h1,h2]
theorem xz(l:List aq)(s:aq):iy l s=ins l s:=by
 have:=yz s l [];simpa[iy]using this
theorem mZ{x:aq}: ∀{l:List aq} {s:aq},x∈ins l s↔x∈l∨x=s
 | [],s=>by simp[ins]
 |y::r,s=>by
  simp only[ins];split
  .rename_i h;subst h;simp;exact fun h=> .inl h
  .split
   .simp[mZ (l:=r),or_assoc]
   .simp;constructor
    .rintro(h|h|h)
     .exact .inr h
     .exact .inl (.inl h)
     .exact .inl (.inr h)
    .rintro((h|h)|h)
     .exact .inr (.inl h)
     .exact .inr (.inr h)
     .exact .inl h
theorem dE{x s:aq}{l:List aq}:x∈iy l s↔x∈l∨x=s:=by rw[xz];exact mZ
theorem tN{x:aq}: ∀{m l:List aq},x∈o7 l m↔x∈l∨x∈m
 | [],l=>by simp[o7]
 |y::r,l=>by
  have h:=tN (x:=x) (m:=r) (l:=iy l y);simp only[o7,XU]at h ⊢;rw[h,dE,Xa,or_assoc]
theorem bK{l:List aq}{s:aq}:dX l s=jp↔s∈l:=by
 simp[dX]
theorem fD{l:List aq}{s:aq}:dX l s=kw↔s∉l:=by
 rw[<-Bool.not_eq_true,bK]
def jW(l:Lit):List aq:=cY l++if l.kind=4 then[l.bF] else[]
def aI(r:aw):List aq:=cW r.head++r.body.flatMap jW
theorem DA(l:Lit):(jW l).length+1<=l.size:=by
 have:=np l;unfold jW;rw[WO];split<;>simp<;>omega
theorem oH: ∀l:List Lit,(l.flatMap jW).length<=Lit.aD l
 | []=>by simp
 |e::r=>by
  have h1:=DA e;have j:=oH r;rw[XS,WO];simp only[Lit.aD];omega
theorem zw(r:aw):(aI r).length<=r.size:=by
 have h1:=oH r.body;have j:=jQ r.head;unfold aI aw.size;rw[WO];omega
def Qp(r:aw):List IV:=[iS r.head.rel,aW 5 r.head.an Term.c,lits r.body,iI r.at_.line,iI r.at_.KO,BO (aL (aI r))]
abbrev cI(r:aw):IV:= .lh (Qp r)
theorem c48(r:aw)(hb:r.size<=1000000000000):Pure prog 177 [ag r.c] (.iv (cI r)):=by
 unfold aw.size at hb;have C:=jQ r.head;have B:=Lit.aJ r.body;refine ah ab func177 Z (by decide) ntmps177 Z (by simp) Z ?_;refine gA Z (zd [1] (Wd r.head (by omega)) ?_);refine gA Z ?_
 refine aM 0 r.body.length (W2 _) (fun i=>⟨[(3,.ptr 2 0),(18,.iv (lits r.body)),(19,pI r.body.length),(20,pI i)],
   [(1,io (cX (aL (cW r.head++(r.body.take i).flatMap jW)))),(2,io (.cells [pS r.head.rel,.iv (aW 5 r.head.an Term.c),.iv (lits r.body),pI r.at_.line,pI r.at_.KO,.mp 1]))],3⟩) (fun _=>True) [] ac
  (zW (hM Z (by simp) Z (zO trivial))) fun i hi _=>?_
 refine zJ Z Z (fun u=>?_) fun u=>?_
 .have u:i<r.body.length:=by simpa using u
  have hs:=bC (f:=jW) u;have I:=Lit.dY r.body i u;have J:=oH (r.body.take i);have G:=np (r.body.getD i co);refine gA Z (bg ab [1] (d89 (r.body.getD i co) _ (by rw[WO];omega)) Z Z Z Z Z Z Z Z Z Z Z Z (by(repeat' (first|exact ac|exact rfl|exact ae.refl _|exact ae.bk (by assumption)|apply WN))<;>first|omega|(simp only[WV];omega)|(simp;done)|(simp;omega)) Z (by(repeat' (first|exact ac|exact rfl|exact ae.refl _|exact ae.bk (by assumption)|apply WN))<;>first|omega|(simp only[WV];omega)|(simp;done)|(simp;omega)) ?_);refine zJ Z Z (fun x=>?_) fun x=>?_
  .have x:(r.body.getD i co).kind=4:=zT x;have j:jW (r.body.getD i co)=cY (r.body.getD i co)++ [(r.body.getD i co).bF]:=by unfold jW;rw[am x]
   rw[j]at hs;have D:=bJ (cW r.head++(r.body.take i).flatMap jW++cY (r.body.getD i co)) (r.body.getD i co).bF;have y:=ia (cW r.head++(r.body.take i).flatMap jW++cY (r.body.getD i co)) (r.body.getD i co).bF;rw[WO,WO]at y;refine gA Z ⟨u,ac,[],zW (hM Z (by rw[hs,<-W6,<-W6,dq];rfl) Z (zO ac))⟩
  .have x: ¬(r.body.getD i co).kind=4:=zF x;have j:jW (r.body.getD i co)=cY (r.body.getD i co):=by unfold jW;rw[be x,XA]
   rw[j]at hs;refine gA Z ⟨u,ac,[],zW (hM Z (by rw[hs,<-W6]) Z (zO ac))⟩
 .have u:r.body.length<=i:=by simpa using u
  have A:r.body.take i=r.body:=W9 u;refine gf Z ac (gz (.inr Z) Z (.map 1 Z (.cells 2 _ Z (show _=List.map PV.iv (Qp r) by rw[A];rfl) (.done (.of_eq Z)))))
def bh(occ:List aq)(e:Expr):Bool:=(cH e).all fun x=>dX occ x
theorem uI{l:List aq}{j:Nat}{x:(KC.str).K×Int}(h:(aL l)[j]? =io x):x.1∈l:=
 ((eL l).2 x.1).1 (Xw.2 ⟨x,Xs h,rfl⟩)
theorem all_keys{l:List aq}{vs:List Nat}(h: ∀j,j<(aL l).length->j∈vs){p:aq->Prop}(hp: ∀j∈vs,∀x,(aL l)[j]? =io x->p x.1): ∀t∈l,p t:=by
 intro t ht;obtain⟨x,y,rfl⟩:=Xw.1 (((eL l).2 t).2 ht);obtain⟨j,u⟩:=XH y;exact hp j (h j (WT.1 u).1) x u
theorem d125(occ:List aq)(e:Expr)(hb:e.size<=1000000000000):bf prog 251 [.mp 0,ag e.c] [cX (aL occ)] (pB (bh occ e)) [(0,io (cX (aL occ)))] 1:=by
 refine ak ab func251 Z (by decide) ntmps251 Z (by simp) ?_;refine gA Z (zq [2] (Qm e hb) ?_);refine gA Z ?_;refine gd (aL (cH e)) (fun vs=>⟨[(0,.mp 0),(12,.ptr 3 0)],[(0,io (cX (aL occ))),(3,io (.bX .str AD (aL (cH e)) vs is))],4⟩) (fun vs=> ∀j∈vs,∀x,(aL (cH e))[j]? =io x->x.1∈occ) [] (by simp)
  (zW (zC (hI Z Z (.inl Z) Z trivial))) fun vs G=>?_
 refine gf Z ac (dS Z Z Z Z Z (by decide) (fun u=>?_) fun j x C I=>?_)
 .refine gA Z (zD [] Z (zM ⟨.of_eq (by rw[show bh occ e=jp from XC.2 fun t ht=>bK.2 (all_keys u G t ht)];rfl),rfl,ac⟩ (zC ac)))
 .have A:=bJ occ x.1;refine zJ Z Z (fun h1=>?_) fun h1=>?_
  .have h1:dW .str (aL occ) x.1 0=0:=zT h1;have B:x.1∉occ:=tp.1 (by rw[A]at h1;omega);refine gA Z (zD [] Z (zM ⟨.of_eq (by rw[show bh occ e=kw from List.all_eq_false.2 ⟨x.1,uI C,by rw[fD.2 B];simp⟩];rfl),rfl,ac⟩ (zC ac)))
  .have h1: ¬dW .str (aL occ) x.1 0=0:=zF h1;have B:x.1∈occ:=wB.1 (by rw[A]at h1;omega);refine gA Z ?_
   exact⟨j,x,C,I,fun i hi y D=>by
    rcases Xa.1 hi with rfl|hi
    .rw[C]at D;cases D;exact B
    .exact G i hi y D,[],zW (zC (hI Z Z (.inr Z) Z ac))⟩
def au(r:aw)(lit:Int):Lit:=r.body.getD lit.toNat co
theorem Lit.kY(l:Lit):l.agg.size+2<=l.size:=by
 rw[l.size_eq];unfold gU.size Lit.agg;dsimp only;omega
theorem qs{a b:aq×Bool}(h:a=b):PV.aY [pS a.1,pB a.2]= .aY [pS b.1,pB b.2]:=by rw[h]
def lI(l:Lit)(j:List aq):aq×Bool:=
 if¬l.kind=3∨ ¬l.op=1 then(W0,kw)
 else if l.left.kind=1∧dX j l.left.var=kw∧(l.right.kind=2∨l.right.kind=1∧dX j l.right.var=jp) then(l.left.var,jp)
 else if l.right.kind=1∧(if l.left.kind=1 then dX j l.left.var else lc (l.left.kind=2))=jp then(l.right.var,!dX j l.right.var)
 else(W0,kw)
def bU(body:List Lit):List aq:=body.flatMap fun l=> [l.left.var,l.right.var,l.bF]
def cN(c k:List aq):Nat:=(c.filter fun x=>!dX k x).length
theorem ky: ∀body:List Lit,(bU body).length=3*body.length
 | []=>rfl
 |l::r=>by have:=ky r;simp only[bU,XS,WO,Xn,X8]at this ⊢;omega
theorem rS(c k:List aq):cN c k<=c.length:=Yi _ _
theorem rR{v:aq}{k:List aq}: ∀{c:List aq},v∈c->v∉k->cN c (iy k v)<cN c k:=by
 have mono: ∀c:List aq,cN c (iy k v)<=cN c k:=by
  intro c
  induction c with
  |nil=>exact WY _
  |cons x r j=>
   simp only[cN]at j ⊢;simp only[YH];by_cases h1:x∈k
   .have:dX (iy k v) x=jp:=bK.2 (dE.2 (.inl h1));rw[this,bK.2 h1];exact j
   .simp only[fD.2 h1,ZM,if_true,Xn];split<;>(try simp only[Xn])<;>omega
 intro c y hk
 induction c with
 |nil=>cases y
 |cons x r j=>
  have A:=mono r;simp only[cN]at j A ⊢;simp only[YH];by_cases u:x=v
  .subst u;have:dX (iy k x) x=jp:=bK.2 (dE.2 (.inr Z));simp[this,fD.2 hk];omega
  .have hr:v∈r:=by
    rcases Xa.1 y with h|h
    .exact absurd h.symm u
    .exact h
   have j:=j hr;by_cases h1:x∈k
   .have:dX (iy k v) x=jp:=bK.2 (dE.2 (.inl h1));simp[this,bK.2 h1];exact j
   .have:dX (iy k v) x=kw:=fD.2 fun h=>by rcases dE.1 h with h|h;exact h1 h;exact u h
    simp[this,fD.2 h1];omega
def Gm(k:List aq)(l:Lit):List aq:=if l.kind=1 then o7 k (sA l.atom) else k
theorem yM{body:List Lit}{l:Lit}(h:l∈body){v:aq}(j:v∈ [l.left.var,l.right.var,l.bF]):v∈bU body:=ZG.2 ⟨l,h,j⟩
def gL(may:Expr->Bool)(occ:List aq)(l:Lit):aq×Bool:=
 if¬l.kind=3∨ ¬l.op=1 then(W0,kw)
 else if l.left.kind=1∧dX occ l.left.var=kw∧may l.right=jp then(l.left.var,jp)
 else if l.right.kind=1∧dX occ l.right.var=kw∧may l.left=jp then(l.right.var,jp)
 else(W0,kw)
theorem cz{occ:List aq}{s:aq}:dX occ s=!lc (dW .str (aL occ) s 0=0):=by
 rw[bJ];by_cases h:s∈occ
 .have:=wB.2 h;rw[bK.2 h];simp;omega
 .rw[fD.2 h,tp.2 h];rfl
def cD(occ:List aq)(e:Expr):Bool:=lc (e.kind=2)||(lc (e.kind=1)&&dX occ e.var)
theorem oy{a b:Bool}(h:a=b):pB a=pB b:=by rw[h]
theorem d76(occ:List aq)(e:Expr)(hb:e.size<=1000000000000):bf prog 131 [ag e.c,.ptr 1 0] [cX (aL occ),.cells [.mp 0]] (pB (cD occ e)) [(0,io (cX (aL occ))),(1,io (.cells [.mp 0]))] 2:=by
 have j:=bJ occ e.var;have hi:=cz (occ:=occ) (s:=e.var);refine ak ab func131 Z (by decide) ntmps131 Z (by simp) ?_
 repeat' (first
  |(refine gA Z (zI (fun _=>?_) (fun _=>?_)))
  |fail)
 all_goals first
  |(refine gA Z (ar [] (.inr Z) Z (zM ⟨.of_eq (oy (a:=jp) ?_),rfl,ac⟩ (zC (zO ac))));simp_all [cD];done)
  |(refine gA Z (ar [] (.inr Z) Z (zM ⟨.of_eq (oy (a:=kw) ?_),rfl,ac⟩ (zC (zO ac))));simp_all [cD];done)
  |(refine gA Z (ar [] (.inr Z) Z (zM ⟨.of_eq (oy (a:=lc (dW .str (aL occ) e.var 0>0)) ?_),rfl,ac⟩ (zC (zO ac))));rw[cD,hi,j];simp_all;by_cases u:ra occ e.var=0<;>simp[u]<;>omega)
theorem c77(a:gU):Pure prog 132 [ag a.c] (pB kw):=by
 refine ah ab func132 Z (by decide) ntmps132 Z (by simp) Z ?_;exact zU Z
theorem Wq(a:gU):Pure prog 253 [ag a.c] (pB kw):=by
 refine ah ab func253 Z (by decide) ntmps253 Z (by simp) Z ?_;exact zU Z
def oB(out occ:List aq)(a:gU):Bool:=(bn a).all fun x=>lc (x=a.var)||(!dX out x||dX occ x)
theorem d126(r:aw)(occ:List aq)(a:gU)(hb:a.size<=1000000000000):bf prog 252 [ag a.c,.ptr 1 0,.ptr 2 0] [cX (aL occ),.cells [.iv (cI r)],.cells [.mp 0]] (pB (oB (aI r) occ a)) [(0,io (cX (aL occ))),(1,io (.cells [.iv (cI r)])),(2,io (.cells [.mp 0]))] 3:=by
 refine ak ab func252 Z (by decide) ntmps252 Z (by simp) ?_;refine gA Z (zq [] (d127 a hb) ?_);refine gA Z ?_;refine gd (aL (bn a)) (fun vs=>⟨[(1,.ptr 1 0),(2,.ptr 2 0),(3,.ptr 3 0),(8,.ptr 5 0)],[(0,io (cX (aL occ))),(1,io (.cells [.iv (cI r)])),(2,io (.cells [.mp 0])),(3,io (aG a.c)),(5,io (.bX .str AD (aL (bn a)) vs is))],6⟩) (fun vs=> ∀j∈vs,∀x,(aL (bn a))[j]? =io x->(lc (x.1=a.var)||(!dX (aI r) x.1||dX occ x.1))=jp) [] (by simp)
  (zW (zC ⟨⟨_,rfl,.of_eq Z⟩,WL Z,rfl,⟨_,rfl,.of_eq Z⟩,WL Z,rfl,zK (hI Z Z (.inl Z) Z trivial)⟩)) fun vs I=>?_
 refine gf Z ac (dS Z Z Z Z Z (by decide) (fun u=>?_) fun j x A B=>?_)
 .refine gA Z (zD [] Z (zM ⟨.of_eq (oy (a:=jp) (XC.2 fun t ht=>all_keys (p:=fun t=>(lc (t=a.var)||(!dX (aI r) t||dX occ t))=jp) u I t ht).symm),rfl,ac⟩ (zC ⟨⟨_,rfl,.of_eq Z⟩,WL Z,rfl,⟨_,rfl,.of_eq Z⟩,WL Z,rfl,ac⟩)))
 .have more:(lc (x.1=a.var)||(!dX (aI r) x.1||dX occ x.1))=jp-> ∀i∈j::vs,∀x,(aL (bn a))[i]? =io x->(lc (x.1=a.var)||(!dX (aI r) x.1||dX occ x.1))=jp:=fun h i hi y C=>by
   rcases Xa.1 hi with rfl|hi
   .rw[A]at C;cases C;exact h
   .exact I i hi y C
  have D:=cz (occ:=aI r) (s:=x.1);have G:=cz (occ:=occ) (s:=x.1);have J:=bJ (aI r) x.1;have Y:=bJ occ x.1;refine zJ Z Z (fun g1=>?_) fun g1=>?_
  .have g1:lc (x.1=a.var)=kw:=by simpa using g1
   refine zJ Z Z (fun g2=>?_) fun g2=>?_
   .have g2:dX (aI r) x.1=jp:=by
     have:=zT g2;rw[D];simp;omega
    refine zJ Z Z (fun g3=>?_) fun g3=>?_
    .have g3:dX occ x.1=kw:=by rw[G,g3];rfl
     refine gA Z (zD [] Z (zM ⟨.of_eq (oy (a:=kw) (List.all_eq_false.2 ⟨x.1,uI A,by rw[g1,g2,g3];simp⟩).symm),rfl,ac⟩ (zC ⟨⟨_,rfl,.of_eq Z⟩,WL Z,rfl,⟨_,rfl,.of_eq Z⟩,WL Z,rfl,ac⟩)))
    .have g3:dX occ x.1=jp:=by rw[G,g3];rfl
     refine gA Z ⟨j,x,A,B,more (by rw[g3];simp),[],zW (zC ⟨⟨_,rfl,.of_eq Z⟩,WL Z,rfl,⟨_,rfl,.of_eq Z⟩,WL Z,rfl,zK (hI Z Z (.inr Z) Z ac)⟩)⟩
   .have g2:dX (aI r) x.1=kw:=by
     have:=zF g2;rw[D];simp;omega
    refine gA Z ⟨j,x,A,B,more (by rw[g2];simp),[],zW (zC ⟨⟨_,rfl,.of_eq Z⟩,WL Z,rfl,⟨_,rfl,.of_eq Z⟩,WL Z,rfl,zK (hI Z Z (.inr Z) Z ac)⟩)⟩
  .have g1:lc (x.1=a.var)=jp:=by simpa using g1
   refine gA Z ⟨j,x,A,B,more (by rw[g1];simp),[],zW (zC ⟨⟨_,rfl,.of_eq Z⟩,WL Z,rfl,⟨_,rfl,.of_eq Z⟩,WL Z,rfl,zK (hI Z Z (.inr Z) Z ac)⟩)⟩
def mX(may:Expr->Bool)(more:gU->Bool)(occ:List aq)(l:Lit):Option aq:=
 if(gL may occ l).2=jp then io (gL may occ l).1 else if l.kind=4∧dX occ l.bF=kw∧more l.agg=jp then io l.bF else is
def b7(may:Expr->Bool)(more:gU->Bool)(occ:List aq):List Lit->Option aq
 | []=>is
 |l::r=>match mX may more occ l with
  |some v=>io v
  |none=>b7 may more occ r
def di(may:List aq->Expr->Bool)(more:List aq->gU->Bool)(body:List Lit):Nat->List aq->List aq
 |0,occ=>occ
 |n+1,occ=>match b7 (may occ) (more occ) occ body with
  |some v=>di may more body n (occ++ [v])
  |none=>occ
def bx(l:Lit):List aq:=if l.kind=1 then cW l.atom else[]
def b8(may:List aq->Expr->Bool)(more:List aq->gU->Bool)(body:List Lit)(occ:List aq):List aq:=di may more body (3*body.length+1) (occ++body.flatMap bx)
theorem fg{may:List aq->Expr->Bool}{more:List aq->gU->Bool}{body:List Lit}{n:Nat}{occ:List aq}{v:aq}(h:b7 (may occ) (more occ) occ body=io v):di may more body (n+1) occ=di may more body n (occ++ [v]):=by
 simp only[di,h]
theorem fh{may:List aq->Expr->Bool}{more:List aq->gU->Bool}{body:List Lit}{n:Nat}{occ:List aq}(h:b7 (may occ) (more occ) occ body=is):di may more body (n+1) occ=occ:=by
 simp only[di,h]
theorem lV{may:Expr->Bool}{more:gU->Bool}{occ:List aq}: ∀{l m:List Lit},b7 may more occ l=is->b7 may more occ (l++m)=b7 may more occ m
 | [],_,_=>rfl
 |x::r,m,h=>by
  simp only[b7]at h;split at h
  .cases h
  .rename_i h1;simp only[Xe,b7,h1];exact lV h
theorem dT{may:Expr->Bool}{more:gU->Bool}{occ:List aq}{l:List Lit}{i:Nat}(h:b7 may more occ (l.take i)=is)(hi:i<l.length)(j:mX may more occ (l.getD i co)=is):b7 may more occ (l.take (i+1))=is:=by
 rw[bS hi,lV h];simp only[b7,j]
theorem qY{may:Expr->Bool}{more:gU->Bool}{occ:List aq}{l:List Lit}{i:Nat}{v:aq}(h:b7 may more occ (l.take i)=is)(hi:i<l.length)(j:mX may more occ (l.getD i co)=io v):b7 may more occ l=io v:=by
 have e:l=l.take i++(l.getD i co::l.drop (i+1)):=by
  rw[WQ,WU hi,XV,List.getElem_cons_drop,Zf]
 rw[e,lV h];simp only[b7,j]
theorem vO{may:Expr->Bool}{more:gU->Bool}{occ:List aq}{l:Lit}{v:aq}(h:mX may more occ l=io v):v∈ [l.left.var,l.right.var,l.bF]∧v∉occ:=by
 unfold mX at h;split at h
 .rename_i h1;simp only[WR]at h;subst h;unfold gL at h1 ⊢;split at h1
  .cases h1
  .rename_i x;rw[be x];split at h1
   .rename_i j;rw[am j];exact⟨by simp,fD.1 j.2.1⟩
   .rename_i j;rw[be j];split at h1
    .rename_i u;rw[am u];exact⟨by simp,fD.1 u.2.1⟩
    .cases h1
 .split at h
  .rename_i j;simp only[WR]at h;subst h;exact⟨by simp,fD.1 j.2.1⟩
  .cases h
theorem kR{may:Expr->Bool}{more:gU->Bool}{occ:List aq}{v:aq}: ∀{l:List Lit},b7 may more occ l=io v->v∈bU l∧v∉occ
 | [],h=>by cases h
 |x::r,h=>by
  simp only[b7]at h;split at h
  .rename_i w u;simp only[WR]at h;subst h;obtain⟨h1,j⟩:=vO u;exact⟨yM W8 h1,j⟩
  .obtain⟨h1,j⟩:=kR h;refine⟨?_,j⟩;simp only[bU,XS,Xf]at h1 ⊢;exact .inr h1
theorem fV: ∀l:List Lit,(l.flatMap bx).length<=Lit.aD l
 | []=>by simp
 |e::r=>by
  have j:=fV r;have u:(bx e).length<=e.size:=by
   have:=jQ e.atom;have:=e.size_eq;unfold bx;split
   .omega
   .simp
  rw[XS,WO];simp only[Lit.aD];omega
theorem Vh(occ:List aq)(l:Lit)(hb:l.size<=100000000000):bf prog 193 [ag l.c,.cv (.func 251) [.mp 0] [],.mp 0] [cX (aL occ)] (.aY [pS (gL (bh occ) occ l).1,pB (gL (bh occ) occ l).2]) [(0,io (cX (aL occ)))] 1:=by
 have A:=l.size_eq;have x:=bJ occ l.left.var;have y:=bJ occ l.right.var;refine ak ab func193 Z (by decide) ntmps193 Z (by simp) ?_;refine zE Z Z (fun h1=>?_) fun h1=>?_
 .have h1: ¬l.kind=3:=by simpa using h1
  refine gA Z (zD [] Z (zM ⟨.of_eq (qs (a:=(W0,kw)) (by rw[gL,am (.inl h1)])),rfl,ac⟩ (zC ac)))
 have h1:l.kind=3:=by simpa using h1
 refine zJ Z Z (fun j=>?_) fun j=>?_
 .have j: ¬l.op=1:=by simpa using j
  refine gA Z (zD [] Z (zM ⟨.of_eq (qs (a:=(W0,kw)) (by rw[gL,am (.inr j)])),rfl,ac⟩ (zC ac)))
 have j:l.op=1:=by simpa using j
 have u:gL (bh occ) occ l=if l.left.kind=1∧dX occ l.left.var=kw∧(bh occ) l.right=jp then(l.left.var,jp) else if l.right.kind=1∧dX occ l.right.var=kw∧(bh occ) l.left=jp then(l.right.var,jp) else(W0,kw):=by
  rw[gL,be (by simp[h1,j])]
 repeat' (first
  |(refine gA Z (zI (fun _=>?_) (fun _=>?_)))
  |(refine gA Z (ai [0] (d125 occ l.left (by omega)) Z Z Z Z Z Z Z Z ?_))
  |(refine gA Z (ai [0] (d125 occ l.right (by omega)) Z Z Z Z Z Z Z Z ?_))
  |fail)
 all_goals first
  |(refine gA Z (ar [] (.inr Z) Z (zM ⟨.of_eq (qs (a:=(W0,kw)) ?_),rfl,ac⟩ (zC ac)));rw[u];simp only[cz] at*;simp_all;done)
  |(refine gA Z (ar [] (.inr Z) Z (zM ⟨.of_eq (qs (a:=(l.left.var,jp)) ?_),rfl,ac⟩ (zC ac)));rw[u];simp only[cz] at*;simp_all;done)
  |(refine gA Z (ar [] (.inr Z) Z (zM ⟨.of_eq (qs (a:=(l.right.var,jp)) ?_),rfl,ac⟩ (zC ac)));rw[u];simp only[cz] at*;simp_all;done)
  |(exfalso;simp_all;done)
theorem Wg(occ:List aq)(body:List Lit)(hb:occ.length+8*Lit.aD body<=100000000000):bf prog 130 [.iv (lits body),.mp 0,.cv (.func 251) [.mp 0] [],.cv (.func 253) [] []] [cX (aL occ)] (.aY []) [(0,io (cX (aL (b8 (fun occ=>bh occ) (fun occ=>fun _=>kw) body occ))))] 1:=by
 have g0:=Lit.aJ body;have m0:=fV body;have i0:=ky body;have k0:=rS (bU body) (occ++body.flatMap bx);refine ak ab func130 Z (by decide) ntmps130 Z (by simp) ?_;refine gA Z ?_;refine aM 0 body.length (W2 _) (fun i=>⟨[(0,.iv (lits body)),(1,.mp 0),(2,.cv (.func 251) [.mp 0] []),(3,.cv (.func 253) [] []),(14,.iv (lits body)),(15,pI body.length),(16,pI i)],[(0,io (cX (aL (occ++(body.take i).flatMap bx))))],1⟩) (fun _=>True) [] ac
  (zW (hM Z (by simp) Z trivial)) fun i hi _=>?_
 refine zJ Z Z (fun h1=>?_) fun h1=>?_
 .have h1:i<body.length:=by simpa using h1
  have hs:=bC (f:=bx) h1;have hn:=Lit.dY body i h1;have hv:=fV (body.take i);have o0:=(body.getD i co).size_eq;refine zJ Z Z (fun y=>?_) fun y=>?_
  .have y:(body.getD i co).kind=1:=by simpa using y
   rw[show bx (body.getD i co)=_ from am y]at hs;refine gA Z (zq [0] (d88 (occ++(body.take i).flatMap bx) (body.getD i co).atom (by rw[WO];omega)) ?_);refine gA Z ⟨h1,ac,[],zW (hM Z (by rw[hs,W6]) Z ac)⟩
  .have y: ¬(body.getD i co).kind=1:=by simpa using y
   rw[show bx (body.getD i co)=_ from be y,XA]at hs;refine gA Z ⟨h1,ac,[],zW (hM Z (by rw[hs]) Z ac)⟩
 have h1:body.length<=i:=by simpa using h1
 have e0:body.take i=body:=W9 h1;rw[e0];refine gA Z ?_;refine iC (σ:={x:List aq×Nat//b8 (fun occ=>bh occ) (fun occ=>fun _=>kw) body occ=di (fun occ=>bh occ) (fun occ=>fun _=>kw) body (x.2+1) x.1∧cN (bU body) x.1<=x.2∧x.1.length+cN (bU body) x.1<=(occ++body.flatMap bx).length+cN (bU body) (occ++body.flatMap bx)})
  (fun x=>⟨[(0,.iv (lits body)),(1,.mp 0),(2,.cv (.func 251) [.mp 0] []),(3,.cv (.func 253) [] [])],[(0,io (cX (aL x.1.1)))],1⟩) (fun x=>cN (bU body) x.1.1)
  ⟨(occ++body.flatMap bx,3*body.length),rfl,by dsimp only;omega,WY _⟩ [] (zW (zC trivial)) ?_
 rintro⟨⟨ok,f⟩,hx1,hx2,hx3⟩;dsimp only at hx1 hx2 hx3 ⊢;rw[WO]at hx3;refine gA Z ?_;refine aM 0 body.length (W2 _) (fun i=>⟨[(0,.iv (lits body)),(1,.mp 0),(2,.cv (.func 251) [.mp 0] []),(3,.cv (.func 253) [] []),(28,.iv (lits body)),(29,pI body.length),(30,pI i)],[(0,io (cX (aL ok)))],1⟩) (fun i=>b7 ((fun occ=>bh occ) ok) ((fun occ=>fun _=>kw) ok) ok (body.take i)=is) [] Z
  (zW (zC trivial)) fun i hi D=>?_
 refine zJ Z Z (fun j=>?_) fun j=>?_
 .have j:i<body.length:=by simpa using j
  have n0:=Lit.bT body i j;have f0:=(body.getD i co).kY;have u: ∀v,mX ((fun occ=>bh occ) ok) ((fun occ=>fun _=>kw) ok) ok (body.getD i co)=io v->b8 (fun occ=>bh occ) (fun occ=>fun _=>kw) body occ=di (fun occ=>bh occ) (fun occ=>fun _=>kw) body (f-1+1) (ok++ [v])∧cN (bU body) (ok++ [v])<=f-1∧
    (ok++ [v]).length+cN (bU body) (ok++ [v])<=(occ++body.flatMap bx).length+cN (bU body) (occ++body.flatMap bx)∧cN (bU body) (ok++ [v])<cN (bU body) ok:=by
   intro v hv;have hf:=qY D j hv;obtain⟨g1,g2⟩:=kR hf;have j0:=rR g1 g2;have d0:cN (bU body) (ok++ [v])=cN (bU body) (iy ok v):=by
    unfold cN;congr 2
    funext x
    congr 1;rw[Yk,bK,bK,dE,Xf,W1]
   have J:f-1+1=f:=by omega
   refine⟨?_,by omega,?_,by omega⟩
   .rw[hx1,fg hf,J]
   .rw[WO,WO,Xl];omega
  have b0:=bJ ok (gL (bh ok) ok (body.getD i co)).1;have Y:=ia ok (gL (bh ok) ok (body.getD i co)).1;have c0:=bJ ok (body.getD i co).bF;have a0:=ia ok (body.getD i co).bF;refine gA Z (zq [0] (Vh ok (body.getD i co) (by omega)) ?_);refine zJ Z Z (fun C=>?_) fun C=>?_
  .obtain⟨g1,g2,g3,g4⟩:=u _ (am C);refine gA Z ⟨⟨(_,f-1),g1,g2,g3⟩,[],g4,zW (hM Z (by dsimp only;rw[dq];rfl) Z ac)⟩
  .refine zJ Z Z (fun A=>?_) fun A=>?_
   .have A:(body.getD i co).kind=4:=by simpa using A
    refine zJ Z Z (fun B=>?_) fun B=>?_
    .have B:dX ok (body.getD i co).bF=kw:=by rw[cz];simpa using B
     refine gA Z (zp (Wq (body.getD i co).agg) ?_);refine zJ Z Z (fun I=>?_) fun I=>?_
     .obtain⟨g1,g2,g3,g4⟩:=u _ ((be (by rw[C];simp)).trans (am ⟨A,B,I⟩));refine gA Z ⟨⟨(_,f-1),g1,g2,g3⟩,[],g4,zW (hM Z (by dsimp only;rw[dq];rfl) Z ac)⟩
     .refine gA Z ?_;exact⟨j,dT D j ((be (by rw[C];simp)).trans (be (fun h=>nomatch (h.2.2.symm.trans I)))),[],zW (zC ac)⟩
    .have B:dX ok (body.getD i co).bF=jp:=by rw[cz];simpa using B
     refine gA Z ⟨j,dT D j ((be (by rw[C];simp)).trans (be (by rw[B];simp))),[],zW (zC ac)⟩
   .have A: ¬(body.getD i co).kind=4:=by simpa using A
    refine gA Z ⟨j,dT D j ((be (by rw[C];simp)).trans (be (fun h=>A h.1))),[],zW (zC ac)⟩
 .have j:body.length<=i:=by simpa using j
  rw[W9 j]at D;have G:b8 (fun occ=>bh occ) (fun occ=>fun _=>kw) body occ=ok:=by rw[hx1,fh D]
  refine gA Z (zD [] Z (zW (hM Z (by rw[G]) Z ac)))
theorem Vg(occ:List aq)(l:Lit)(hb:l.size<=100000000000):bf prog 193 [ag l.c,.cv (.func 131) [] [.ptr 1 0],.mp 0] [cX (aL occ),.cells [.mp 0]] (.aY [pS (gL (cD occ) occ l).1,pB (gL (cD occ) occ l).2]) [(0,io (cX (aL occ))),(1,io (.cells [.mp 0]))] 2:=by
 have A:=l.size_eq;have x:=bJ occ l.left.var;have y:=bJ occ l.right.var;refine ak ab func193 Z (by decide) ntmps193 Z (by simp) ?_;refine zE Z Z (fun h1=>?_) fun h1=>?_
 .have h1: ¬l.kind=3:=by simpa using h1
  refine gA Z (zD [] Z (zM ⟨.of_eq (qs (a:=(W0,kw)) (by rw[gL,am (.inl h1)])),rfl,ac⟩ (zC (zO ac))))
 have h1:l.kind=3:=by simpa using h1
 refine zJ Z Z (fun j=>?_) fun j=>?_
 .have j: ¬l.op=1:=by simpa using j
  refine gA Z (zD [] Z (zM ⟨.of_eq (qs (a:=(W0,kw)) (by rw[gL,am (.inr j)])),rfl,ac⟩ (zC (zO ac))))
 have j:l.op=1:=by simpa using j
 have u:gL (cD occ) occ l=if l.left.kind=1∧dX occ l.left.var=kw∧(cD occ) l.right=jp then(l.left.var,jp) else if l.right.kind=1∧dX occ l.right.var=kw∧(cD occ) l.left=jp then(l.right.var,jp) else(W0,kw):=by
  rw[gL,be (by simp[h1,j])]
 repeat' (first
  |(refine gA Z (zI (fun _=>?_) (fun _=>?_)))
  |(refine gA Z (ai [0,1] (d76 occ l.left (by omega)) Z Z Z Z Z Z Z Z ?_))
  |(refine gA Z (ai [0,1] (d76 occ l.right (by omega)) Z Z Z Z Z Z Z Z ?_))
  |fail)
 all_goals first
  |(refine gA Z (ar [] (.inr Z) Z (zM ⟨.of_eq (qs (a:=(W0,kw)) ?_),rfl,ac⟩ (zC (zO ac))));rw[u];simp only[cz] at*;simp_all;done)
  |(refine gA Z (ar [] (.inr Z) Z (zM ⟨.of_eq (qs (a:=(l.left.var,jp)) ?_),rfl,ac⟩ (zC (zO ac))));rw[u];simp only[cz] at*;simp_all;done)
  |(refine gA Z (ar [] (.inr Z) Z (zM ⟨.of_eq (qs (a:=(l.right.var,jp)) ?_),rfl,ac⟩ (zC (zO ac))));rw[u];simp only[cz] at*;simp_all;done)
  |(exfalso;simp_all;done)
theorem Wf(occ:List aq)(body:List Lit)(hb:occ.length+8*Lit.aD body<=100000000000):bf prog 130 [.iv (lits body),.mp 0,.cv (.func 131) [] [.ptr 1 0],.cv (.func 132) [] []] [cX (aL occ),.cells [.mp 0]] (.aY []) [(0,io (cX (aL (b8 (fun occ=>cD occ) (fun occ=>fun _=>kw) body occ)))),(1,io (.cells [.mp 0]))] 2:=by
 have g0:=Lit.aJ body;have m0:=fV body;have i0:=ky body;have k0:=rS (bU body) (occ++body.flatMap bx);refine ak ab func130 Z (by decide) ntmps130 Z (by simp) ?_;refine gA Z ?_;refine aM 0 body.length (W2 _) (fun i=>⟨[(0,.iv (lits body)),(1,.mp 0),(2,.cv (.func 131) [] [.ptr 1 0]),(3,.cv (.func 132) [] []),(14,.iv (lits body)),(15,pI body.length),(16,pI i)],[(0,io (cX (aL (occ++(body.take i).flatMap bx)))),(1,io (.cells [.mp 0]))],2⟩) (fun _=>True) [] ac
  (zW (hM Z (by simp) Z (zO trivial))) fun i hi _=>?_
 refine zJ Z Z (fun h1=>?_) fun h1=>?_
 .have h1:i<body.length:=by simpa using h1
  have hs:=bC (f:=bx) h1;have hn:=Lit.dY body i h1;have hv:=fV (body.take i);have o0:=(body.getD i co).size_eq;refine zJ Z Z (fun y=>?_) fun y=>?_
  .have y:(body.getD i co).kind=1:=by simpa using y
   rw[show bx (body.getD i co)=_ from am y]at hs;refine gA Z (zq [0] (d88 (occ++(body.take i).flatMap bx) (body.getD i co).atom (by rw[WO];omega)) ?_);refine gA Z ⟨h1,ac,[],zW (hM Z (by rw[hs,W6]) Z (zO ac))⟩
  .have y: ¬(body.getD i co).kind=1:=by simpa using y
   rw[show bx (body.getD i co)=_ from be y,XA]at hs;refine gA Z ⟨h1,ac,[],zW (hM Z (by rw[hs]) Z (zO ac))⟩
 have h1:body.length<=i:=by simpa using h1
 have e0:body.take i=body:=W9 h1;rw[e0];refine gA Z ?_;refine iC (σ:={x:List aq×Nat//b8 (fun occ=>cD occ) (fun occ=>fun _=>kw) body occ=di (fun occ=>cD occ) (fun occ=>fun _=>kw) body (x.2+1) x.1∧cN (bU body) x.1<=x.2∧x.1.length+cN (bU body) x.1<=(occ++body.flatMap bx).length+cN (bU body) (occ++body.flatMap bx)})
  (fun x=>⟨[(0,.iv (lits body)),(1,.mp 0),(2,.cv (.func 131) [] [.ptr 1 0]),(3,.cv (.func 132) [] [])],[(0,io (cX (aL x.1.1))),(1,io (.cells [.mp 0]))],2⟩) (fun x=>cN (bU body) x.1.1)
  ⟨(occ++body.flatMap bx,3*body.length),rfl,by dsimp only;omega,WY _⟩ [] (zW (zC (zO trivial))) ?_
 rintro⟨⟨ok,f⟩,hx1,hx2,hx3⟩;dsimp only at hx1 hx2 hx3 ⊢;rw[WO]at hx3;refine gA Z ?_;refine aM 0 body.length (W2 _) (fun i=>⟨[(0,.iv (lits body)),(1,.mp 0),(2,.cv (.func 131) [] [.ptr 1 0]),(3,.cv (.func 132) [] []),(28,.iv (lits body)),(29,pI body.length),(30,pI i)],[(0,io (cX (aL ok))),(1,io (.cells [.mp 0]))],2⟩) (fun i=>b7 ((fun occ=>cD occ) ok) ((fun occ=>fun _=>kw) ok) ok (body.take i)=is) [] Z
  (zW (zC (zO trivial))) fun i hi D=>?_
 refine zJ Z Z (fun j=>?_) fun j=>?_
 .have j:i<body.length:=by simpa using j
  have n0:=Lit.bT body i j;have f0:=(body.getD i co).kY;have u: ∀v,mX ((fun occ=>cD occ) ok) ((fun occ=>fun _=>kw) ok) ok (body.getD i co)=io v->b8 (fun occ=>cD occ) (fun occ=>fun _=>kw) body occ=di (fun occ=>cD occ) (fun occ=>fun _=>kw) body (f-1+1) (ok++ [v])∧cN (bU body) (ok++ [v])<=f-1∧
    (ok++ [v]).length+cN (bU body) (ok++ [v])<=(occ++body.flatMap bx).length+cN (bU body) (occ++body.flatMap bx)∧cN (bU body) (ok++ [v])<cN (bU body) ok:=by
   intro v hv;have hf:=qY D j hv;obtain⟨g1,g2⟩:=kR hf;have j0:=rR g1 g2;have d0:cN (bU body) (ok++ [v])=cN (bU body) (iy ok v):=by
    unfold cN;congr 2
    funext x
    congr 1;rw[Yk,bK,bK,dE,Xf,W1]
   have J:f-1+1=f:=by omega
   refine⟨?_,by omega,?_,by omega⟩
   .rw[hx1,fg hf,J]
   .rw[WO,WO,Xl];omega
  have b0:=bJ ok (gL (cD ok) ok (body.getD i co)).1;have Y:=ia ok (gL (cD ok) ok (body.getD i co)).1;have c0:=bJ ok (body.getD i co).bF;have a0:=ia ok (body.getD i co).bF;refine gA Z (zq [0,1] (Vg ok (body.getD i co) (by omega)) ?_);refine zJ Z Z (fun C=>?_) fun C=>?_
  .obtain⟨g1,g2,g3,g4⟩:=u _ (am C);refine gA Z ⟨⟨(_,f-1),g1,g2,g3⟩,[],g4,zW (hM Z (by dsimp only;rw[dq];rfl) Z (zO ac))⟩
  .refine zJ Z Z (fun A=>?_) fun A=>?_
   .have A:(body.getD i co).kind=4:=by simpa using A
    refine zJ Z Z (fun B=>?_) fun B=>?_
    .have B:dX ok (body.getD i co).bF=kw:=by rw[cz];simpa using B
     refine gA Z (zp (c77 (body.getD i co).agg) ?_);refine zJ Z Z (fun I=>?_) fun I=>?_
     .obtain⟨g1,g2,g3,g4⟩:=u _ ((be (by rw[C];simp)).trans (am ⟨A,B,I⟩));refine gA Z ⟨⟨(_,f-1),g1,g2,g3⟩,[],g4,zW (hM Z (by dsimp only;rw[dq];rfl) Z (zO ac))⟩
     .refine gA Z ?_;exact⟨j,dT D j ((be (by rw[C];simp)).trans (be (fun h=>nomatch (h.2.2.symm.trans I)))),[],zW (zC (zO ac))⟩
    .have B:dX ok (body.getD i co).bF=jp:=by rw[cz];simpa using B
     refine gA Z ⟨j,dT D j ((be (by rw[C];simp)).trans (be (by rw[B];simp))),[],zW (zC (zO ac))⟩
   .have A: ¬(body.getD i co).kind=4:=by simpa using A
    refine gA Z ⟨j,dT D j ((be (by rw[C];simp)).trans (be (fun h=>A h.1))),[],zW (zC (zO ac))⟩
 .have j:body.length<=i:=by simpa using j
  rw[W9 j]at D;have G:b8 (fun occ=>cD occ) (fun occ=>fun _=>kw) body occ=ok:=by rw[hx1,fh D]
  refine gA Z (zD [] Z (zW (hM Z (by rw[G]) Z (zO ac))))
theorem Vf(r:aw)(occ:List aq)(l:Lit)(hb:l.size<=100000000000):bf prog 193 [ag l.c,.cv (.func 251) [.mp 0] [],.mp 0] [cX (aL occ),.cells [.iv (cI r)],.cells [.mp 0]] (.aY [pS (gL (bh occ) occ l).1,pB (gL (bh occ) occ l).2]) [(0,io (cX (aL occ))),(1,io (.cells [.iv (cI r)])),(2,io (.cells [.mp 0]))] 3:=by
 have A:=l.size_eq;have x:=bJ occ l.left.var;have y:=bJ occ l.right.var;refine ak ab func193 Z (by decide) ntmps193 Z (by simp) ?_;refine zE Z Z (fun h1=>?_) fun h1=>?_
 .have h1: ¬l.kind=3:=by simpa using h1
  refine gA Z (zD [] Z (zM ⟨.of_eq (qs (a:=(W0,kw)) (by rw[gL,am (.inl h1)])),rfl,ac⟩ (zC ⟨⟨_,rfl,.of_eq Z⟩,WL Z,rfl,⟨_,rfl,.of_eq Z⟩,WL Z,rfl,ac⟩)))
 have h1:l.kind=3:=by simpa using h1
 refine zJ Z Z (fun j=>?_) fun j=>?_
 .have j: ¬l.op=1:=by simpa using j
  refine gA Z (zD [] Z (zM ⟨.of_eq (qs (a:=(W0,kw)) (by rw[gL,am (.inr j)])),rfl,ac⟩ (zC ⟨⟨_,rfl,.of_eq Z⟩,WL Z,rfl,⟨_,rfl,.of_eq Z⟩,WL Z,rfl,ac⟩)))
 have j:l.op=1:=by simpa using j
 have u:gL (bh occ) occ l=if l.left.kind=1∧dX occ l.left.var=kw∧(bh occ) l.right=jp then(l.left.var,jp) else if l.right.kind=1∧dX occ l.right.var=kw∧(bh occ) l.left=jp then(l.right.var,jp) else(W0,kw):=by
  rw[gL,be (by simp[h1,j])]
 repeat' (first
  |(refine gA Z (zI (fun _=>?_) (fun _=>?_)))
  |(refine gA Z (ai [0] (d125 occ l.left (by omega)) Z Z Z Z Z Z Z Z ?_))
  |(refine gA Z (ai [0] (d125 occ l.right (by omega)) Z Z Z Z Z Z Z Z ?_))
  |fail)
 all_goals first
  |(refine gA Z (ar [] (.inr Z) Z (zM ⟨.of_eq (qs (a:=(W0,kw)) ?_),rfl,ac⟩ (zC ⟨⟨_,rfl,.of_eq Z⟩,WL Z,rfl,⟨_,rfl,.of_eq Z⟩,WL Z,rfl,ac⟩)));rw[u];simp only[cz] at*;simp_all;done)
  |(refine gA Z (ar [] (.inr Z) Z (zM ⟨.of_eq (qs (a:=(l.left.var,jp)) ?_),rfl,ac⟩ (zC ⟨⟨_,rfl,.of_eq Z⟩,WL Z,rfl,⟨_,rfl,.of_eq Z⟩,WL Z,rfl,ac⟩)));rw[u];simp only[cz] at*;simp_all;done)
  |(refine gA Z (ar [] (.inr Z) Z (zM ⟨.of_eq (qs (a:=(l.right.var,jp)) ?_),rfl,ac⟩ (zC ⟨⟨_,rfl,.of_eq Z⟩,WL Z,rfl,⟨_,rfl,.of_eq Z⟩,WL Z,rfl,ac⟩)));rw[u];simp only[cz] at*;simp_all;done)
  |(exfalso;simp_all;done)
theorem We(r:aw)(occ:List aq)(body:List Lit)(hb:occ.length+8*Lit.aD body<=100000000000):bf prog 130 [.iv (lits body),.mp 0,.cv (.func 251) [.mp 0] [],.cv (.func 252) [] [.ptr 1 0,.ptr 2 0]] [cX (aL occ),.cells [.iv (cI r)],.cells [.mp 0]] (.aY []) [(0,io (cX (aL (b8 (fun occ=>bh occ) (fun occ=>oB (aI r) occ) body occ)))),(1,io (.cells [.iv (cI r)])),(2,io (.cells [.mp 0]))] 3:=by
 have g0:=Lit.aJ body;have m0:=fV body;have i0:=ky body;have k0:=rS (bU body) (occ++body.flatMap bx);refine ak ab func130 Z (by decide) ntmps130 Z (by simp) ?_;refine gA Z ?_;refine aM 0 body.length (W2 _) (fun i=>⟨[(0,.iv (lits body)),(1,.mp 0),(2,.cv (.func 251) [.mp 0] []),(3,.cv (.func 252) [] [.ptr 1 0,.ptr 2 0]),(14,.iv (lits body)),(15,pI body.length),(16,pI i)],[(0,io (cX (aL (occ++(body.take i).flatMap bx)))),(1,io (.cells [.iv (cI r)])),(2,io (.cells [.mp 0]))],3⟩) (fun _=>True) [] ac
  (zW (hM Z (by simp) Z ⟨⟨_,rfl,.of_eq Z⟩,WL Z,rfl,⟨_,rfl,.of_eq Z⟩,WL Z,rfl,ac⟩)) fun i hi _=>?_
 refine zJ Z Z (fun h1=>?_) fun h1=>?_
 .have h1:i<body.length:=by simpa using h1
  have hs:=bC (f:=bx) h1;have hn:=Lit.dY body i h1;have hv:=fV (body.take i);have o0:=(body.getD i co).size_eq;refine zJ Z Z (fun y=>?_) fun y=>?_
  .have y:(body.getD i co).kind=1:=by simpa using y
   rw[show bx (body.getD i co)=_ from am y]at hs;refine gA Z (zq [0] (d88 (occ++(body.take i).flatMap bx) (body.getD i co).atom (by rw[WO];omega)) ?_);refine gA Z ⟨h1,ac,[],zW (hM Z (by rw[hs,W6]) Z ⟨⟨_,rfl,.of_eq Z⟩,WL Z,rfl,⟨_,rfl,.of_eq Z⟩,WL Z,rfl,ac⟩)⟩
  .have y: ¬(body.getD i co).kind=1:=by simpa using y
   rw[show bx (body.getD i co)=_ from be y,XA]at hs;refine gA Z ⟨h1,ac,[],zW (hM Z (by rw[hs]) Z ⟨⟨_,rfl,.of_eq Z⟩,WL Z,rfl,⟨_,rfl,.of_eq Z⟩,WL Z,rfl,ac⟩)⟩
 have h1:body.length<=i:=by simpa using h1
 have e0:body.take i=body:=W9 h1;rw[e0];refine gA Z ?_;refine iC (σ:={x:List aq×Nat//b8 (fun occ=>bh occ) (fun occ=>oB (aI r) occ) body occ=di (fun occ=>bh occ) (fun occ=>oB (aI r) occ) body (x.2+1) x.1∧cN (bU body) x.1<=x.2∧x.1.length+cN (bU body) x.1<=(occ++body.flatMap bx).length+cN (bU body) (occ++body.flatMap bx)})
  (fun x=>⟨[(0,.iv (lits body)),(1,.mp 0),(2,.cv (.func 251) [.mp 0] []),(3,.cv (.func 252) [] [.ptr 1 0,.ptr 2 0])],[(0,io (cX (aL x.1.1))),(1,io (.cells [.iv (cI r)])),(2,io (.cells [.mp 0]))],3⟩) (fun x=>cN (bU body) x.1.1)
  ⟨(occ++body.flatMap bx,3*body.length),rfl,by dsimp only;omega,WY _⟩ [] (zW (zC ⟨⟨_,rfl,.of_eq Z⟩,WL Z,rfl,⟨_,rfl,.of_eq Z⟩,WL Z,rfl,ac⟩)) ?_
 rintro⟨⟨ok,f⟩,hx1,hx2,hx3⟩;dsimp only at hx1 hx2 hx3 ⊢;rw[WO]at hx3;refine gA Z ?_;refine aM 0 body.length (W2 _) (fun i=>⟨[(0,.iv (lits body)),(1,.mp 0),(2,.cv (.func 251) [.mp 0] []),(3,.cv (.func 252) [] [.ptr 1 0,.ptr 2 0]),(28,.iv (lits body)),(29,pI body.length),(30,pI i)],[(0,io (cX (aL ok))),(1,io (.cells [.iv (cI r)])),(2,io (.cells [.mp 0]))],3⟩) (fun i=>b7 ((fun occ=>bh occ) ok) ((fun occ=>oB (aI r) occ) ok) ok (body.take i)=is) [] Z
  (zW (zC ⟨⟨_,rfl,.of_eq Z⟩,WL Z,rfl,⟨_,rfl,.of_eq Z⟩,WL Z,rfl,ac⟩)) fun i hi D=>?_
 refine zJ Z Z (fun j=>?_) fun j=>?_
 .have j:i<body.length:=by simpa using j
  have n0:=Lit.bT body i j;have f0:=(body.getD i co).kY;have u: ∀v,mX ((fun occ=>bh occ) ok) ((fun occ=>oB (aI r) occ) ok) ok (body.getD i co)=io v->b8 (fun occ=>bh occ) (fun occ=>oB (aI r) occ) body occ=di (fun occ=>bh occ) (fun occ=>oB (aI r) occ) body (f-1+1) (ok++ [v])∧cN (bU body) (ok++ [v])<=f-1∧
    (ok++ [v]).length+cN (bU body) (ok++ [v])<=(occ++body.flatMap bx).length+cN (bU body) (occ++body.flatMap bx)∧cN (bU body) (ok++ [v])<cN (bU body) ok:=by
   intro v hv;have hf:=qY D j hv;obtain⟨g1,g2⟩:=kR hf;have j0:=rR g1 g2;have d0:cN (bU body) (ok++ [v])=cN (bU body) (iy ok v):=by
    unfold cN;congr 2
    funext x
    congr 1;rw[Yk,bK,bK,dE,Xf,W1]
   have J:f-1+1=f:=by omega
   refine⟨?_,by omega,?_,by omega⟩
   .rw[hx1,fg hf,J]
   .rw[WO,WO,Xl];omega
  have b0:=bJ ok (gL (bh ok) ok (body.getD i co)).1;have Y:=ia ok (gL (bh ok) ok (body.getD i co)).1;have c0:=bJ ok (body.getD i co).bF;have a0:=ia ok (body.getD i co).bF;refine gA Z (zq [0,1,2] (Vf r ok (body.getD i co) (by omega)) ?_);refine zJ Z Z (fun C=>?_) fun C=>?_
  .obtain⟨g1,g2,g3,g4⟩:=u _ (am C);refine gA Z ⟨⟨(_,f-1),g1,g2,g3⟩,[],g4,zW (hM Z (by dsimp only;rw[dq];rfl) Z ⟨⟨_,rfl,.of_eq Z⟩,WL Z,rfl,⟨_,rfl,.of_eq Z⟩,WL Z,rfl,ac⟩)⟩
  .refine zJ Z Z (fun A=>?_) fun A=>?_
   .have A:(body.getD i co).kind=4:=by simpa using A
    refine zJ Z Z (fun B=>?_) fun B=>?_
    .have B:dX ok (body.getD i co).bF=kw:=by rw[cz];simpa using B
     refine gA Z (zq [0,1,2] (d126 r ok (body.getD i co).agg (by omega)) ?_);refine zJ Z Z (fun I=>?_) fun I=>?_
     .obtain⟨g1,g2,g3,g4⟩:=u _ ((be (by rw[C];simp)).trans (am ⟨A,B,I⟩));refine gA Z ⟨⟨(_,f-1),g1,g2,g3⟩,[],g4,zW (hM Z (by dsimp only;rw[dq];rfl) Z ⟨⟨_,rfl,.of_eq Z⟩,WL Z,rfl,⟨_,rfl,.of_eq Z⟩,WL Z,rfl,ac⟩)⟩
     .refine gA Z ?_;exact⟨j,dT D j ((be (by rw[C];simp)).trans (be (fun h=>nomatch (h.2.2.symm.trans I)))),[],zW (zC ⟨⟨_,rfl,.of_eq Z⟩,WL Z,rfl,⟨_,rfl,.of_eq Z⟩,WL Z,rfl,ac⟩)⟩
    .have B:dX ok (body.getD i co).bF=jp:=by rw[cz];simpa using B
     refine gA Z ⟨j,dT D j ((be (by rw[C];simp)).trans (be (by rw[B];simp))),[],zW (zC ⟨⟨_,rfl,.of_eq Z⟩,WL Z,rfl,⟨_,rfl,.of_eq Z⟩,WL Z,rfl,ac⟩)⟩
   .have A: ¬(body.getD i co).kind=4:=by simpa using A
    refine gA Z ⟨j,dT D j ((be (by rw[C];simp)).trans (be (fun h=>A h.1))),[],zW (zC ⟨⟨_,rfl,.of_eq Z⟩,WL Z,rfl,⟨_,rfl,.of_eq Z⟩,WL Z,rfl,ac⟩)⟩
 .have j:body.length<=i:=by simpa using j
  rw[W9 j]at D;have G:b8 (fun occ=>bh occ) (fun occ=>oB (aI r) occ) body occ=ok:=by rw[hx1,fh D]
  refine gA Z (zD [] Z (zW (hM Z (by rw[G]) Z ⟨⟨_,rfl,.of_eq Z⟩,WL Z,rfl,⟨_,rfl,.of_eq Z⟩,WL Z,rfl,ac⟩)))
theorem uG:eR .ft (cX (aL [])):=⟨id,fun M N U w j u=>⟨#[],0,u,⟨rfl,by simp[aL],by simp[aL],by simp,by simp⟩,gj M⟩⟩
def b4(r:aw):List aq:=b8 (fun j=>bh j) (fun j=>oB (aI r) j) r.body []
theorem Vc(r:aw)(hb:8*Lit.aD r.body<=100000000000):bf prog 130 [.iv (lits r.body),.mp 0,.cv (.func 251) [.mp 0] [],.cv (.func 252) [] [.ptr 1 0,.ptr 2 0]] [.ft,.cells [.iv (cI r)],.cells [.mp 0]] (.aY []) [(0,io (cX (aL (b4 r)))),(1,io (.cells [.iv (cI r)])),(2,io (.cells [.mp 0]))] 3:=
 bf.Qb (We r [] r.body (by simp;omega)) ⟨uG,.refl _,.refl _,ac⟩
theorem d73(r:aw)(hb:8*r.size<=100000000000):bf prog 227 [.iv (cI r)] [] (.mp 0) [(0,io (cX (aL (b4 r))))] 1:=by
 unfold aw.size at hb;refine ak ab func227 Z (by decide) ntmps227 Z (by simp) ?_;refine gA Z (zd [1,0,2] (Vc r (by omega)) ?_);refine gA Z (zD [1] Z (zW (zC ac)))
def SZ(p:List aq->Prop)(q:PV)(h:AH)(n:Nat):Prop:= ∃ok,p ok∧q= .mp 0∧h=[(0,io (cX (aL ok)))]∧n=1
def Jj(r:aw)(a:gU)(occ:List aq):Prop:=occ.Nodup∧ ∀x,x∈occ↔x∈bn a∧x∈aI r
theorem yd{l m:List aq}(h:l.Nodup)(hs: ∀x∈l,x∈m):l.length<=m.length:=Yc h hs
theorem kZ(a:gU):(bn a).length<=a.size:=by
 have h1:=ly a.body;have j:=iF a.j4;unfold bn gU.size;rw[WO];split
 .rw[X8];omega
 .omega
theorem Qn(a:gU)(hb:a.size<=100000000000):bf prog 221 [ag a.c1] [] (.mp 0) [(0,io (cX (aL (bn a))))] 1:=bf.le (d127 a (by omega)) ⟨a.GL,ac⟩
theorem d161(r:aw)(a:gU)(hb:16*a.size<=100000000000):Al.Fn prog 228 [.iv (cI r),ag a.c] [] (SZ fun ok=> ∃occ,Jj r a occ∧ok=b8 (fun occ=>bh occ) (fun _=>fun _=>kw) a.body occ):=by
 have f0:=kZ a;have g0:Lit.aD a.body<=a.size:=by unfold gU.size;omega
 refine Al.Fn.le (args:=[.iv (cI r),ag a.c1]) ?_ ⟨.refl _,a.DD,ac⟩;refine lU ab func228 Z (by decide) ntmps228 Z (by simp) ?_;refine gA Z (zq [] (Qn a (by omega)) ?_);refine gA Z ?_
 let u:List Nat->List aq:=fun vs=>(vs.reverse.filterMap fun j=>((aL (bn a))[j]?).bind fun x=>if dX (aI r) x.1 then io x.1 else is)
 refine gd (aL (bn a)) (fun vs=>⟨[(0,.iv (cI r)),(3,.ptr 0 0),(5,.mp 1),(10,.ptr 3 0)],[(0,io (aG a.c1)),(1,io (cX (aL (u vs)))),(3,io (.bX .str AD (aL (bn a)) vs is))],4⟩)
  (fun vs=>(u vs).Nodup∧ ∀x,x∈u vs↔x∈aI r∧ ∃j∈vs,∃y,(aL (bn a))[j]? =io y∧y.1=x) [] ⟨XM,by simp[u]⟩
  (zW (zK (Sr Z gj Z (hI Z Z (.inl Z) Z trivial)))) fun vs hJ=>?_
 obtain⟨C,D⟩:=hJ;have i0:(u vs).length<=(bn a).length:=yd C fun x G=>by
  obtain⟨_,j,_,y,h2,rfl⟩:=(D x).1 G;exact uI h2
 refine gf Z ac (dS Z Z Z Z Z (by decide) (fun a0=>?_) fun j x G hj=>?_)
 .have c0:Jj r a (u vs):=⟨C,fun x=>by
   rw[D];constructor
   .rintro⟨h1,j,h2,y,B,rfl⟩;exact⟨uI B,h1⟩
   .rintro⟨h1,h2⟩;refine⟨h2,?_⟩;obtain⟨y,hy,rfl⟩:=Xw.1 (((eL (bn a)).2 x).2 h1);obtain⟨j,hj⟩:=XH hy
    exact⟨j,a0 j (WT.1 hj).1,y,hj,rfl⟩⟩
  refine gA Z (zq [1] (Wg (u vs) a.body (by omega)) ?_);refine gf Z ac (dz [1] (.inr Z) Z ⟨_,⟨u vs,c0,rfl⟩,rfl,rfl,rfl⟩ (zW (zC ac)))
 .have h5:=cz (occ:=aI r) (s:=x.1);have h7:=bJ (aI r) x.1;have h8:=bJ (u vs) x.1;have h9:=ia (u vs) x.1;have I:x.1∉u vs:=fun h=>by
   obtain⟨_,i,hi,y,h2,B⟩:=(D x.1).1 h;have e0:=(eL (bn a)).1;have:i=j:=by
    have J:=(WT.1 h2)
    have Y:=(WT.1 G)
    obtain⟨J,b0⟩:=J;obtain⟨Y,d0⟩:=Y;refine(List.getElem_inj (i:=i) (j:=j) (h₀:=by rw[Xk];exact J) (h₁:=by rw[Xk];exact Y) e0).1 ?_;rw[YB,YB,b0,d0,B]
   exact hj (this▸hi)
  have A:u (j::vs)=u vs++if dX (aI r) x.1 then[x.1] else[]:=by
   simp only[u,List.reverse_cons,Z3,aac,List.filterMap_nil,G,Y7];congr 1;cases dX (aI r) x.1<;>rfl
  have step:(u (j::vs)).Nodup∧ ∀z,z∈u (j::vs)↔z∈aI r∧ ∃i∈j::vs,∃y,(aL (bn a))[i]? =io y∧y.1=z:=by
   rw[A];constructor
   .split
    .rw[Yt];refine⟨C,XB.2 ⟨ZF,XM⟩,fun p hp q hq e=>?_⟩;rw[W1]at hq;exact I ((e.trans hq)▸hp)
    .rw[XA];exact C
   .intro z;rw[Xf,D];constructor
    .rintro(⟨h1,i,h2,B⟩|h1)
     .exact⟨h1,i,W5 _ h2,B⟩
     .split at h1
      .rename_i h2;rw[W1]at h1;exact⟨h1▸bK.1 h2,j,W8,x,G,h1.symm⟩
      .cases h1
    .rintro⟨h1,i,h2,y,B,h4⟩;rcases Xa.1 h2 with rfl|h2
     .rw[G]at B;cases B;exact .inr (by rw[am (bK.2 (h4▸h1))];simp[h4])
     .exact .inl ⟨h1,i,h2,y,B,h4⟩
  refine zJ Z Z (fun g1=>?_) fun g1=>?_
  .have g1:dX (aI r) x.1=jp:=by
    have:=zT g1;rw[h5];simp;omega
   rw[g1,am Z]at A;refine gA Z ⟨j,x,G,hj,step,[],zW (zK (hM Z (by rw[A,dq];rfl) Z (hI Z Z (.inr Z) Z ac)))⟩
  .have g1:dX (aI r) x.1=kw:=by
    have:=zF g1;rw[h5];simp;omega
   rw[g1,be (by simp),XA]at A;refine gA Z ⟨j,x,G,hj,step,[],zW (zK (hM Z (by rw[A]) Z (hI Z Z (.inr Z) Z ac)))⟩
end Go.Proofs.YtlmhfgbkchnfbaaGreatDoor
namespace Go.Proofs.YtlmhfgbkchnfbaaGreatDoor
open Go Go.Al
def om(s:aq):List UInt8:=s.data.toList
def Sc(l:List UInt8):aq:=⟨l.toArray⟩
theorem uE(s:aq):Sc (om s)=s:=by simp[om,Sc]
theorem Mg(l:List UInt8):om (Sc l)=l:=by simp[om,Sc]
def dD(l:List (List UInt8)):List (List UInt8):=l.mergeSort fun x y=>lc (x<=y)
def dJ(l:List aq):List aq:=(dD (l.map om)).map Sc
def fy:Prop:=
 (∀(j b0 a0:Nat) (u:List (List UInt8)) (w:World),Go.Sort.Holds encStr w j b0 u.toArray->j<w.heap.size->u.length<4611686018427387904->
  Calls Tryz.prog 129 #[.slice (io ⟨j,b0,is⟩) u.length a0] w fun e A=>
   e= .returned (.tuple #[])∧ ∃n os,A=Go.Sort.grow (Go.Sort.putRow encStr (Go.Sort.ahead w n) j b0 (u.mergeSort fun x y=>lc (x<=y)).toArray) os)∧
 (∀(p:Option Addr) (a0:Nat) (w:World),Calls Tryz.prog 129 #[.slice p 0 a0] w fun e A=>e= .returned (.tuple #[])∧A=w)
theorem kr(l:List aq):(dJ l).length=l.length:=by simp[dJ,dD]
theorem pg:dJ []=[]:=by simp[dJ,dD]
theorem sH(l:List aq):(dJ l).map om=dD (l.map om):=by
 unfold dJ;rw[XX];have:om ∘ Sc=id:=by funext x;exact Mg x
 rw[this,List.map_id]
theorem Bj{l:List aq}{k:Nat}{e:List PV}(h:(l.map fun x=>(de x).map PV.iv)[k]? =io e): ∃s,l[k]? =io s∧e=[pS s]:=by
 rw[WX,WZ]at h;obtain⟨s,h1,rfl⟩:=h;exact⟨s,h1,rfl⟩
theorem Kn(hS:fy)(l:List aq)(hl:l.length<=1000000000000):bf Tryz.prog 129 [.sl 0 0 l.length 1] [aX 1 l de] (.aY []) [(0,io (aX 1 (dJ l) de))] 1:=by
 refine⟨bc Tryz.func129 Z (by decide),fun M N w vs hr I hv=>?_⟩;obtain⟨v,rfl⟩: ∃v,vs=[v]:=by
  cases vs with
  |nil=>cases I
  |cons v r=>cases r with
   |nil=>exact⟨v,rfl⟩
   |cons a b=>simp at I
 have B:=hv 0 _ Z;simp only[YL]at B;have n0:=hr.obj 0 _ Z;cases l with
 |nil=>
  have e0:v= .slice is 0 0:=by
   generalize hq:PV.sl 0 0 ([]:List aq).length 1=q at B;cases B with
   |sl i off len sz a0 h h0 h1 hc he=>cases hq;simp at h0
   |lq i sz h=>rfl
   |_=>cases hq
  subst e0;refine(hS.2 is 0 w).mono ?_;rintro e w' ⟨rfl,rfl⟩;refine⟨_,M,N,.aY [],_,1,rfl,⟨rfl,rfl,rfl⟩,?_,?_,.aY [] #[] Z (by simp)⟩
  .rw[pg];exact .refl _ _ _ _ _
  .rw[pg];exact hr
 |cons s0 r=>
  generalize hL:s0::r=L at*
  have c0:0<L.length:=by rw[<-hL];simp
  obtain⟨a0,e0⟩: ∃a0,v= .slice (io ⟨N.aA 0,0,is⟩) L.length a0:=by
   generalize hn:L.length=n at B c0;generalize hq:PV.sl 0 0 n 1=q at B;cases B with
   |sl i off len sz a0 h h0 h1 hc he=>cases hq;exact⟨a0,by simp⟩
   |lq i sz h=>cases hq;omega
   |_=>cases hq
  subst e0;rcases n0 with h0|⟨_,c,T,h1,h2,h3,h4,h5⟩
  .rw[<-hL]at h0;cases h0
  rw[Xk]at h3;have g0:(aX 1 L de).real=jp:=by rw[<-hL];rfl
  have d0: ∀j s,L[j]? =io s->c.getD j undef= .string s:=fun j s G=>by
   have:=h5 j [pS s] 0 (pS s) (by rw[WX,G];rfl) Z;rw[Zg,Yp]at this;generalize c.getD j undef=y at this ⊢;cases this with
   |iv _ _ h=>cases h;rfl
  have m0:=hr.lt (i:=0) Z g0;have k0:(L.map om).length=L.length:=by simp
  have hH:Go.Sort.Holds encStr w (N.aA 0) 0 (L.map om).toArray:=by
   intro j G;have i0:j<L.length:=by simpa using G
   have f0:j<c.size:=by omega
   have:=d0 j L[j] (WU i0);rw[WM,Xx f0,XV]at this;constructor
   .simp only[World.cell?,h1,Xd,Option.isSome_none,YE,if_false];rw[Xx f0,this,getElem!_pos _ j G];simp[encStr,om]
   .simp[World.frozen?,h1]
  have C:=hS.1 (N.aA 0) 0 a0 (L.map om) w hH m0 (by omega);rw[k0]at C;refine C.mono ?_;rintro e w' ⟨rfl,n,os,rfl⟩
  let J:=Go.Sort.putRow encStr (Go.Sort.ahead w n) (N.aA 0) 0 ((L.map om).mergeSort fun x y=>lc (x<=y)).toArray
  have Y:(dD (L.map om)).length=L.length:=by simp[dD]
  have A:Ext M N (· <1) (cK 0 [aX 1 L de]) w M N (· <1) ((0,io (aX 1 (dJ L) de))::cK 0 [aX 1 L de]) J∧Rel M N (· <1) ((0,io (aX 1 (dJ L) de))::cK 0 [aX 1 L de]) J:=by
   refine hr.write (i:=0) (o0:=aX 1 L de) Z g0 J (aX 1 (dJ L) de) Z Z Z ?_ ?_ ?_ (Zl _ _)
   .show(Go.Sort.putRow _ _ _ _ _).heap.size=_;rw[Go.Sort.size_putRow];rfl
   .intro b hb;show((w.heap.modify (N.aA 0) _))[b]? =_;rw[Xp,be (fun e=>hb e.symm)]
   .refine .inr ⟨Nat.one_pos,Go.Sort.putCells encStr 0 (dD (L.map om)).toArray c,T,?_,?_,?_,?_,?_⟩
    .show((w.heap.modify (N.aA 0) _))[N.aA 0]? =_;rw[Xp,am Z,h1];rfl
    .simp[Go.Sort.putCells,h2]
    .rw[Xk,kr];simp[Go.Sort.putCells];omega
    .intro k e he;obtain⟨s,_,rfl⟩:=Bj he;rfl
    .intro k e j p he hp;obtain⟨s,hs,rfl⟩:=Bj he;have G:j=0:=by
      rcases j with _|j
      .rfl
      .simp at hp
     subst G;cases hp;have hk:k<L.length:=by
      have:=(WT.1 hs).1;rwa[kr]at this
     have p0:(dD (L.map om))[k]? =io (om s):=by
      rw[<-sH,WX,hs];rfl
     have j0:k<c.size:=by omega
     have b0:(Go.Sort.putCells encStr 0 (dD (L.map om)).toArray c).getD (k*1+0) undef= .string s:=by
      rw[Zg,Yp,WM];simp only[Go.Sort.putCells,Array.getElem?_mapIdx];rw[Xx j0,XW,XV,am ⟨W2 _,by simp[Y];omega⟩,Zw];rw[getElem!_pos _ k (by simp[Y];omega)];have h9:(dD (L.map om)).toArray[k]'(by simp[Y];omega)=om s:=by
       rw[List.getElem_toArray];exact(WT.1 p0).2
      rw[h9];simp[encStr,om]
     rw[b0];exact .iv _ _ (.v _)
  have D:Rel M N (· <1) ((0,io (aX 1 (dJ L) de))::cK 0 [aX 1 L de]) (Go.Sort.grow J os):=A.2.more fun b hb=>by
   show(J.heap++os)[b]? =_;rw[Xt hb]
  have q0:J.heap.size=w.heap.size:=by
   show(Go.Sort.putRow _ _ _ _ _).heap.size=_;rw[Go.Sort.size_putRow];rfl
  have u: ∀i o,AH.get [(0,io (aX 1 (dJ L) de))] i=io o->AH.get ((0,io (aX 1 (dJ L) de))::cK 0 [aX 1 L de]) i=io o:=by
   intro i o h;rw[AH.ax]at h ⊢;split at h
   .rename_i h6;rw[am h6];exact h
   .simp[AH.get]at h
  refine⟨_,M,N,.aY [],_,1,rfl,⟨rfl,rfl,rfl⟩,⟨A.1.os,A.1.tape,⟨A.1.output.out,A.1.output.drawn⟩,?_,?_,.refl _,fun b c h1 h2=>(nomatch (h1.symm.trans h2)),.refl _ _,fun _ h=>h,fun i o hi=>A.1.gx i o (u i o hi)⟩,?_,.aY [] #[] Z (by simp)⟩
  .show w.heap.size<=(Go.Sort.grow J os).heap.size;rw[Go.Sort.size_grow,q0];omega
  .intro b hb hn;have h7:=A.1.gK b hb hn;show(J.heap++os)[b]? =_;rw[Xt (by omega)];exact h7
  .exact⟨D.dF,fun i o hi=>D.used i o (u i o hi),fun i o hi=>D.dM i o (u i o hi),fun i o hi=>D.obj i o (u i o hi),fun i j o p hi G=>D.inj i j o p (u i o hi) (u j p G)⟩
end Go.Proofs.YtlmhfgbkchnfbaaGreatDoor
namespace Go.Proofs.YtlmhfgbkchnfbaaGreatDoor
open Go Go.Al Go.Proofs.Tryz
theorem fO(l:List (List UInt8)):(dD l).Perm l:=List.mergeSort_perm _ _
theorem jh(l:List (List UInt8)):(dD l).Pairwise (fun x y=>lc (x<=y)=jp):=
 List.pairwise_mergeSort (le:=fun x y=>lc (x<=y)) (fun a b c h1 j=>by simp only[decide_eq_true_eq] at*;exact List.le_trans h1 j)
  (fun a b=>by
   rcases List.le_total a b with h|h
   .simp[h]
   .simp[h]) l
theorem FX{a b:List (List UInt8)}(h:a.Perm b)(ha:a.Pairwise (fun x y=>lc (x<=y)=jp))(hb:b.Pairwise (fun x y=>lc (x<=y)=jp)):a=b:=
 List.Perm.eq_of_pairwise (fun x y _ _ h1 j=>ZV (zT h1) (zT j)) ha hb h
theorem qA{a b:List aq}(h:a.Perm b):dJ a=dJ b:=by
 unfold dJ;rw[FX (((fO _).trans (h.map om)).trans (fO _).symm) (jh _) (jh _)]
theorem mn{x:aq}{l:List aq}:x∈dJ l↔x∈l:=by
 unfold dJ;rw[Xw];constructor
 .rintro⟨b,hb,rfl⟩;obtain⟨s,hs,rfl⟩:=Xw.1 ((fO _).mem_iff.1 hb);rwa[uE]
 .intro h;exact⟨om x,(fO _).mem_iff.2 (Xw.2 ⟨x,h,rfl⟩),uE x⟩
def iq(m:NM)(vs:List Nat):List aq:=vs.reverse.filterMap fun j=>(m[j]?).map (·.1)
theorem lz(m:NM)(vs:List Nat)(j:Nat)(x:(KC.str).K×Int)(h:m[j]? =io x):iq m (j::vs)=iq m vs++ [x.1]:=by
 simp[iq,Z3,h]
theorem vW(m:NM)(vs:List Nat):(iq m vs).length<=vs.length:=by
 unfold iq;have:=List.length_filterMap_le (fun j=>(m[j]?).map (·.1)) vs.reverse;rwa[List.length_reverse]at this
theorem z7(m:NM):(Xq m.length).filterMap (fun j=>(m[j]?).map (·.1))=m.map (·.1):=by
 apply Y2;intro k;have h:(Xq m.length).filterMap (fun j=>(m[j]?).map (·.1))=(Xq m.length).map (fun j=>(m.getD j (W0,0)).1):=by
  rw[show(fun j=>(m.getD j (W0,0)).1)=fun j=>(m.getD j (W0,0)).1 from rfl];have key: ∀l:List Nat,(∀j∈l,j<m.length)->l.filterMap (fun j=>(m[j]?).map (·.1))=l.map (fun j=>(m.getD j (W0,0)).1):=by
   intro l
   induction l with
   |nil=>simp
   |cons j r ih=>
    intro h;have u:=h j W8;rw[aac,WU u,ih fun k hk=>h k (W5 _ hk)];simp[u]
  exact key _ fun j u=>Yn.1 u
 rw[h];by_cases hk:k<m.length
 .simp[hk]
 .simp[hk]
theorem kI(m:NM)(vs:List Nat)(hn:vs.Nodup)(hb: ∀j∈vs,j<m.length)(u: ∀j,j<m.length->j∈vs):(iq m vs).Perm (m.map (·.1)):=by
 rw[<-z7];unfold iq;apply List.Perm.filterMap;refine(List.reverse_perm _).trans ?_;rw[Yw hn List.nodup_range];intro j;rw[Yn];exact⟨hb j,u j⟩
def fI(m:NM):List aq:=dJ (m.map (·.1))
theorem vL{vs:List Nat}{n:Nat}(h:vs.Nodup)(hb: ∀j∈vs,j<n):vs.length<=n:=by
 have:=Yc h (l₂:=Xq n) fun j u=>Yn.2 (hb j u);rwa[List.length_range]at this
theorem vp(σ:Nat->Nat)(l:List aq):(l.map fun x=>(de x).map PV.iv).map (dc σ)=l.map fun x=>(de x).map PV.iv:=by
 simp only[XX,de,WW,W7];rfl
theorem c51(hS:fy)(m:NM)(hm:m.length<=100000000):Pure prog 133 [.iv (BO m)] (.iv (strs (fI m))):=by
 refine ah ab func133 Z (by decide) ntmps133 Z (by simp) Z ?_;refine gA Z ?_;refine ju 3 1 Z ?_;refine gd m (fun vs=>⟨[(3,.sl 2 0 (iq m vs).length 1),(6,.ptr 0 0)],[(0,io (.bX .str AD m vs is)),(2,io (aX 1 (iq m vs) de))],3⟩) (fun vs=>vs.Nodup∧ ∀j∈vs,j<m.length) [1] ⟨XM,by simp⟩
  (zW (hI Z Z (.inl Z) Z (zS trivial))) fun vs D=>?_
 obtain⟨u,y⟩:=D;have I:=vL u y;have G:=vW m vs;refine gf Z ac (dS Z Z Z Z Z (by decide) (fun A=>?_) fun j x B C=>?_)
 .refine gf Z ac (ai [2] (Kn hS (iq m vs) (by omega)) Z Z Z Z Z (congrArg (fun o=> [io o]) (b5 _).symm) Z Z ?_);refine gf Z ac (dA (.inr Z) Z Z ((vp _ _).trans (by rw[fI,qA (kI m vs u y A)])) ?_);rw[fI,kr,<-(kI m vs u y A).length_eq]
 .have hk:=lz m vs j x B;refine gA Z ⟨j,x,B,C,⟨XB.2 ⟨C,u⟩,fun i hi=>(Xa.1 hi).elim (fun h=>h▸(WT.1 B).1) (y i)⟩,[4],zM ⟨.row (by rw[hk,WO];rfl),rfl,bi ac⟩ (hI Z Z (.inr Z) Z (hR Z (by rw[hk,W4];rfl) Z ac))⟩
theorem M8{P:Program}{k:FuncId}{kc:KC}{V:Type}{e:V->IV}{z:V}{C:Value}{D:PV->V}{m:List (kc.K×V)}{y:IV}(h:Al.Pure P k [.iv (.eO kc e z C m)] (.iv y)):bf P k [.mp 0] [.map kc e z C D m] (.iv y) [] 1:=by
 refine⟨h.1,fun M N w vs hr hl J=>?_⟩;obtain⟨u,h1,G,Y,I⟩:=sa (n:=1) hr (i:=0) Z;have A:Rel u N (· <0) (cK 0 []) w:=⟨G.dF,fun i o hi=>(nomatch hi),fun i o hi=>(nomatch hi),fun i o hi=>(nomatch hi),fun i j o p hi=>(nomatch hi)⟩
 refine(h.2 u N w vs A hl fun j p B=>?_).mono ?_
 .cases j with
  |zero=>
   cases B;have:=I _ _ (J 0 _ Z);generalize vs.getD 0 undef=x at this ⊢;cases this with
   |iv _ _ h=>exact .iv _ _ h
  |succ j=>cases B
 .rintro _ w' ⟨x,M',N',r,h',n',rfl,⟨rfl,rfl,rfl⟩,hx,hrr,hvr⟩;refine⟨x,M',N,.iv y,[],1,rfl,⟨rfl,rfl,rfl⟩,?_,⟨hrr.dF,fun i o hi=>(nomatch hi),fun i o hi=>(nomatch hi),fun i o hi=>(nomatch hi),fun i j o p hi=>(nomatch hi)⟩,?_⟩
  .refine⟨hx.os,hx.tape,hx.output,hx.size,fun b hb hn=>hx.gK b hb fun i o hi=>(nomatch hi),h1.oC.trans hx.oC,fun b c g1 g2=>?_,.refl _ _,fun _ h=>h,fun i o hi=>(nomatch hi)⟩;cases g3:u b with
   |some c'=>exact h1.iK b c' g1 g3
   |none=>
    rcases hx.iK b c g3 g2 with g4|⟨i,o,g4,_⟩
    .exact .inl g4
    .exact nomatch g4
  .cases hvr with
   |iv _ _ h=>exact .iv _ _ h
theorem Wj(hS:fy)(m:NM)(hm:m.length<=100000000):bf prog 133 [.mp 0] [cX m] (.iv (strs (fI m))) [] 1:=M8 (c51 hS m hm)
theorem ua: ∀{m:NM} (_:(m.map (·.1)).Nodup) (k:aq),lj .str m k=m.filter fun x=>!lc (x.1=k)
 | [],_,k=>rfl
 |(a,b)::r,h,k=>by
  rw[WW,XB]at h;by_cases hk:a=k
  .subst hk;have:r.filter (fun x=>!lc (x.1=a))=r:=Zn.2 fun x j=>by
    have:x.1≠a:=fun e=>h.1 (e▸Xw.2 ⟨x,j,rfl⟩);simp[this]
   simp[lj,this]
  .have u:=ua h.2 k;simp[lj,hk,u]
theorem xl{m:NM}{p:(KC.str).K×Int->Bool}(h:(m.map (·.1)).Nodup):((m.filter p).map (·.1)).Nodup:=h.sublist ((List.filter_sublist).map _)
theorem oP: ∀(j:List aq) {m:NM} (_:(m.map (·.1)).Nodup),j.foldl (fun m k=>lj .str m k) m=m.filter fun x=>!dX j x.1
 | [],m,h=>(Zn.2 fun _ _=>rfl).symm
 |k::r,m,h=>by
  rw[XU,ua h,oP r (xl h),List.filter_filter];congr 1
  funext x
  by_cases hk:x.1=k
  .simp[dX,hk]
  .have: ¬k=x.1:=fun e=>hk e.symm
   simp[dX,hk,this]
def mv(r:aw)(a:gU):NM:=(aL (bn a)).filter fun x=>!dX (aI r) x.1
theorem mh(l:List aq):(aL l).length<=l.length:=by
 have h:=eL l;have:=yd h.1 fun x j=>(h.2 x).1 j;rwa[Xk]at this
theorem d79(r:aw)(a:gU)(hb:a.size<=100000000000):bf prog 216 [.iv (cI r),ag a.c] [] (.mp 0) [(0,io (cX (mv r a)))] 1:=by
 refine bf.le (args:=[.iv (cI r),ag a.c1]) ?_ ⟨.refl _,a.DD,ac⟩;have J:=kZ a;have B:=(eL (bn a)).1;refine ak ab func216 Z (by decide) ntmps216 Z (by simp) ?_;refine gA Z (zq [] (Qn a (by omega)) ?_);refine gA Z ?_;refine gd (aL (aI r)) (fun vs=>⟨[(5,.mp 1),(13,.ptr 2 0)],[(1,io (cX ((iq (aL (aI r)) vs).foldl (fun m k=>lj .str m k) (aL (bn a))))),(2,io (.bX .str AD (aL (aI r)) vs is))],3⟩)
  (fun vs=>vs.Nodup∧ ∀j∈vs,j<(aL (aI r)).length) [] ⟨XM,by simp⟩
  (zW (zC (hI Z Z (.inl Z) Z trivial))) fun vs I=>?_
 obtain⟨u,y⟩:=I;refine gf Z ac (dS Z Z Z Z Z (by decide) (fun A=>?_) fun j x D G=>?_)
 .have C:(iq (aL (aI r)) vs).foldl (fun m k=>lj .str m k) (aL (bn a))=mv r a:=by
   rw[oP _ B];unfold mv;congr 1
   funext x
   congr 1;rw[Yk,bK,bK,(kI _ vs u y A).mem_iff];exact(eL (aI r)).2 x.1
  rw[C];refine gA Z (zD [1] Z (zW (zC ac)))
 .have hk:=lz (aL (aI r)) vs j x D;refine gA Z ⟨j,x,D,G,⟨XB.2 ⟨G,u⟩,fun i hi=>(Xa.1 hi).elim (fun h=>h▸(WT.1 D).1) (y i)⟩,[],zW (hM Z (by rw[hk,List.foldl_append];rfl) Z (hI Z Z (.inr Z) Z ac))⟩
theorem ub{may:List aq->Expr->Bool}{more:List aq->gU->Bool}{body:List Lit}: ∀(n:Nat) (occ:List aq),(di may more body n occ).length<=occ.length+n
 |0,occ=>WY _
 |n+1,occ=>by
  cases h:b7 (may occ) (more occ) occ body with
  |none=>rw[fh h];omega
  |some v=>
   rw[fg h];have:=ub (may:=may) (more:=more) (body:=body) n (occ++ [v]);rw[WO,Xl]at this;omega
theorem ue{may:List aq->Expr->Bool}{more:List aq->gU->Bool}{body:List Lit}(occ:List aq):(b8 may more body occ).length<=occ.length+4*Lit.aD body+1:=by
 have h1:=ub (may:=may) (more:=more) (body:=body) (3*body.length+1) (occ++body.flatMap bx);have j:=fV body;have u:=Lit.aJ body;rw[WO]at h1;unfold b8;omega
theorem DC(r:aw):(b4 r).length<=4*Lit.aD r.body+1:=by
 have:=ue (may:=fun j=>bh j) (more:=fun j=>oB (aI r) j) (body:=r.body) [];rw[X8]at this;unfold b4;omega
def p4(r:aw):List aq:=b8 (fun j=>cD j) (fun _=>fun _=>kw) r.body []
theorem Gn(r:aw):(p4 r).length<=4*Lit.aD r.body+1:=by
 have:=ue (may:=fun j=>cD j) (more:=fun _=>fun _=>kw) (body:=r.body) [];rw[X8]at this;unfold p4;omega
theorem Vd(r:aw)(hb:8*Lit.aD r.body<=100000000000):bf prog 130 [.iv (lits r.body),.mp 0,.cv (.func 131) [] [.ptr 1 0],.cv (.func 132) [] []] [.ft,.cells [.mp 0]] (.aY []) [(0,io (cX (aL (p4 r)))),(1,io (.cells [.mp 0]))] 2:=
 bf.Qb (Wf [] r.body (by simp;omega)) ⟨uG,.refl _,ac⟩
theorem c33(hS:fy)(r:aw)(hb:r.size<=10000000):Pure prog 102 [ag r.c] (.iv (strs (fI (aL (p4 r))))):=by
 have h1:=mh (p4 r);have j:=Gn r;have u:Lit.aD r.body<=r.size:=Zq _ _;refine ah ab func102 Z (by decide) ntmps102 Z (by simp) Z ?_;refine gA Z ?_;refine gA Z (zq [1,2] (Vd r (by omega)) ?_);refine gA Z (zq [1] (Wj hS (aL (p4 r)) (by omega)) ?_);exact zU Z
def zV(r:aw)(lit:Int):List aq:=if lit<0∨(r.body.length:Int)<=lit∨ ¬(au r lit).kind=4 then[] else fI (mv r (au r lit).agg)
theorem qZ{P:Program}{k:FuncId}{args:List PV}{os:List AO}{r:PV}{h:AH}{n0:Nat}(hc:fz P k){n:Nat}(hn: ∃sz j,PV.iv (.bL sz n j)∈args)(hh:n<=maxLen->bf P k args os r h n0):bf P k args os r h n0:=JH hc hn hh
def qV{α:Type}(p:α->Bool)(l:List α):Int:=match l.findIdx? p with
 |some i=>i
 |none=> -1
theorem gy{α:Type}{p:α->Bool}{l:List α}(h:l.any p=kw):qV p l= -1:=by
 have:l.findIdx? p=is:=by
  rw[ZO];intro x j;have:=XL.1 h x j;simpa using this
 rw[qV,this]
theorem iV{α:Type}[Inhabited α]{p:α->Bool}{l:List α}{i:Nat}(h:(l.take i).any p=kw)(hi:i<l.length)(hp:p (l.getD i co)=jp):qV p l=i:=by
 have:l.findIdx? p=io i:=by
  rw[Zu];have u:l.getD i co=l[i]:=by simp[hi]
  refine⟨hi,u▸hp,fun j x=>?_⟩;have:=XL.1 h l[j] (List.mem_iff_getElem?.2 ⟨j,by rw[Xy,am x,WU (by omega)]⟩);simpa using this
 rw[qV,this]
theorem iW{α:Type}(p:α->Bool)(l:List α):lc (qV p l>=0)=l.any p:=by
 unfold qV;cases h:l.findIdx? p with
 |none=>
  have:=ZO.1 h;have:l.any p=kw:=XL.2 fun x u=>by simp[this x u]
  rw[this];rfl
 |some i=>
  obtain⟨h1,j,_⟩:=Zu.1 h;rw[Yf.2 ⟨_,XF h1,j⟩];simp
theorem Hl{a b:Int}(h:a=b):pI a=pI b:=by rw[h]
theorem Ww(x:Int):Pure prog 174 [pI x] (pB (!lc (x=1)&&!lc (x=2))):=by
 refine ah ab func174 Z (by decide) ntmps174 Z (by simp) Z ?_
 repeat' (first|(refine gA Z (zI (fun _=>?_) (fun _=>?_)))|(refine gA Z (zL (.of_eq ?_))))
 all_goals(refine(oy ?_:pB _=pB _);simp_all)
theorem Wv(t:Term):Pure prog 219 [ag t.c] (pB (lc (t.kind=3))):=by
 refine ah ab func219 Z (by decide) ntmps219 Z (by simp) Z ?_;exact zU Z
theorem Wu(t:Lit):Pure prog 220 [ag t.c] (pB (lc (t.kind=4))):=by
 refine ah ab func220 Z (by decide) ntmps220 Z (by simp) Z ?_;exact zU Z
def bV(v:cS):Int:=if v.kind=1 then(if v.sym=W0∧ -2147483647<=v.num∧v.num<=2147483647 then 0 else 20) else if v.kind=2 then(if v.num=0∧v.sym.size<=64 then 0 else 20) else 20
theorem Vl(v:cS):Pure prog 153 [ag v.c] (pI (bV v)):=by
 refine ah ab func153 Z (by decide) ntmps153 Z (by simp) Z ?_
 repeat' (first|(refine gA Z (zI (fun _=>?_) (fun _=>?_)))|(refine gA Z (zL (.of_eq ?_))))
 all_goals(refine(Hl ?_:pI _=pI _);have hE:(⟨#[]⟩:ByteArray)=W0:=rfl;simp_all [bV];try omega)
def Decl.z:Decl:=⟨W0,[],⟨0,0⟩⟩
def Ft(d:Decl):IV:= .agg d.c
def J1:Value:= .agg #[.string W0,.slice is 0 0,.int .i64 0,.int .i64 0]
def intOf:List IV->Int
 | [.v (.int .i64 n)]=>n
 |_=>0
def V9:PV->Decl
 | .agg [.iv (.v (.string s)),.iv (.bL _ n el),.iv (.v (.int _ a)),.iv (.v (.int _ b))]=>⟨s,(Xq n).map fun k=>intOf (el k),⟨a,b⟩⟩
 |_=>Decl.z
abbrev DM:=List ((KC.str).K×Decl)
abbrev Qk(m:DM):AO:= .map .str Ft Decl.z J1 V9 m
abbrev Vb(m:DM):IV:= .eO .str Ft Decl.z J1 m
theorem Qi(d:Decl):V9 (ag d.c)=d:=by
 show(⟨d.name,(Xq d.types.length).map fun k=>intOf (kj (d.types.getD k co)),⟨d.at_.line,d.at_.KO⟩⟩:Decl)=d;have:(Xq d.types.length).map (fun k=>intOf (kj (d.types.getD k co)))=d.types:=by
  apply Y2;intro k;by_cases hk:k<d.types.length
  .simp[hk,intOf,kj]
  .simp[hk]
 rw[this]
theorem J0: ∀M,IR M (Ft Decl.z) J1:=fun M=>by
 refine .agg _ _ Z fun j p u=>?_
 match j,u with
 |0,u=>cases u;exact .v _
 |1,u=>cases u;exact .fL _ _ _ _
 |2,u=>cases u;exact .v _
 |3,u=>cases u;exact .v _
 |j+4,u=>simp[Decl.c]at u
theorem VE(l:List IV):ae (ag l) (.iv (.agg l)):=by
 intro M N U x h;generalize u:ag l=q at h;cases h with
 |agg cs ys hl hr=>
  cases u;refine .iv _ _ (.agg _ _ (by simpa using hl) fun j p A=>?_);have:=hr j (.iv p) (by rw[WX,A];rfl);generalize ys.getD j undef=y at this ⊢;cases this with
  |iv _ _ h=>exact h
 |_=>cases u
theorem J3(d:Decl):ae (ag d.c) (.iv (Ft (V9 (ag d.c)))):=by rw[Qi];exact VE _
def kg(m:DM)(d:Decl):DM:=if dx .str m d.name=jp then m else cP .str m d.name d
def tE(p:Prog):DM:=p.aF.foldl kg []
abbrev cT(p:Prog):IV:=Vb (tE p)
theorem vz{V:Type}: ∀(m:List ((KC.str).K×V)) (k:aq) (v:V),(cP .str m k v).length<=m.length+1
 | [],_,_=>by simp[cP]
 |(a,b)::r,k,v=>by
  have:=vz r k v;simp only[cP];split
  .simp
  .simp only[Xn];omega
theorem d50(p:Prog)(hb:p.aF.length<=1000000000000):bf prog 114 [ag p.c] [] (.mp 0) [(0,io (Qk (tE p)))] 1:=by
 refine ak ab func114 Z (by decide) ntmps114 Z (by simp) ?_;refine gA Z ?_;refine aM 0 p.aF.length (W2 _) (fun i=>⟨[(3,.mp 1),(13,.iv (aW 4 p.aF Decl.c)),(14,pI p.aF.length),(15,pI i)],[(1,io (Qk ((p.aF.take i).foldl kg [])))],2⟩) (fun _=>True) [] ac
  (zW (Sr Z J0 Z trivial)) fun i hi _=>?_
 refine zJ Z Z (fun h1=>?_) fun h1=>?_
 .have h1:i<p.aF.length:=by simpa using h1
  have hs:=iD (g:=kg) (b:=[]) h1;refine zJ Z Z (fun j=>?_) fun j=>?_
  .have j:dx .str ((p.aF.take i).foldl kg []) (p.aF.getD i co).name=kw:=by simpa using j
   rw[kg,be (by rw[j];simp)]at hs;refine gf Z ?_ ?_
   .repeat' (first|exact ac|exact rfl|exact J3 _|exact ae.refl _|apply WN)
    all_goals omega
   exact⟨h1,ac,[],zW (hM Z (by rw[hs,<-Qi (p.aF.getD i co)];rfl) Z ac)⟩
  .have j:dx .str ((p.aF.take i).foldl kg []) (p.aF.getD i co).name=jp:=by simpa using j
   rw[kg,am j]at hs;refine gA Z ⟨h1,ac,[],zW (hM Z (by rw[hs]) Z ac)⟩
 .have h1:p.aF.length<=i:=by simpa using h1
  rw[W9 h1];refine gA Z (zD [1] Z (zW (zC ac)))
def wZ(p:Prog)(a:Atom):Bool:=!dx .str (tE p) a.rel
def iw(p:Prog)(s:aq):Decl:=dW .str (tE p) s Decl.z
def Ar(p:Prog)(a:Atom):Bool:=!lc ((a.an.length:Int)=((iw p a.rel).types.length:Int))
theorem d113(p:Prog)(a:Atom):bf prog 182 [ag a.c,.ptr 0 0] [.cells [.iv (cT p)]] (pB (wZ p a)) [(0,io (.cells [.iv (cT p)]))] 1:=by
 refine ak ab func182 Z (by decide) ntmps182 Z (by simp) ?_;refine gA Z (zD [] Z (zM ⟨.of_eq Z,rfl,ac⟩ (zO ac)))
theorem d115(p:Prog)(a:Atom):bf prog 184 [ag a.c,.ptr 0 0] [.cells [.iv (cT p)]] (pB (Ar p a)) [(0,io (.cells [.iv (cT p)]))] 1:=by
 refine ak ab func184 Z (by decide) ntmps184 Z (by simp) ?_;refine gA Z (zD [] Z (zM ⟨.of_eq Z,rfl,ac⟩ (zO ac)))
theorem i187(l:List Int):bf prog 214 [.iv (aW 1 l kj),.cv (.func 174) [] []] [] (pI (qV (fun x=>!lc (x=1)&&!lc (x=2)) l)) [] 0:=by
 refine qZ (bc func214 Z (by decide)) ⟨_,_,W8⟩ fun u=>?_;simp only[maxLen]at u;refine ak ab func214 Z (by decide) ntmps214 Z (by simp) ?_;refine gA Z ?_
 refine aM 0 l.length (W2 _) (fun i=>⟨[(0,.iv (aW 1 l kj)),(1,.cv (.func 174) [] []),(7,pI l.length),(8,pI i)],[],0⟩) (fun i=>(l.take i).any (fun x=>!lc (x=1)&&!lc (x=2))=kw) [] (by simp)
  (zW trivial) fun i hi y=>?_
 refine zJ Z Z (fun h1=>?_) fun h1=>?_
 .have h1:i<l.length:=by simpa using h1
  refine gA Z (zp (Ww (l.getD i co)) ?_);refine zJ Z Z (fun j=>?_) fun j=>?_
  .have j:(fun x=>!lc (x=1)&&!lc (x=2)) (l.getD i co)=jp:=j;rw[iV y h1 j];refine gA Z (zD [] Z (zW ac))
  .have j:(fun x=>!lc (x=1)&&!lc (x=2)) (l.getD i co)=kw:=j;refine gA Z ⟨h1,(c5 y h1).2 j,[],zW ac⟩
 .have h1:l.length<=i:=by simpa using h1
  rw[gy (any_none y h1)];refine gA Z (zD [] Z (zW ac))
theorem d153(l:List Int):bf prog 173 [.iv (aW 1 l kj),.cv (.func 174) [] []] [] (pB (l.any (fun x=>!lc (x=1)&&!lc (x=2)))) [] 0:=by
 refine ak ab func173 Z (by decide) ntmps173 Z (by simp) ?_;refine gA Z (zq [] (i187 l) ?_);refine gA Z (zD [] Z (zM ⟨.of_eq (oy (iW _ l)),rfl,ac⟩ ac))
theorem i191(l:List Term):bf prog 248 [.iv (aW 5 l Term.c),.cv (.func 219) [] []] [] (pI (qV (fun x:Term=>lc (x.kind=3)) l)) [] 0:=by
 refine qZ (bc func248 Z (by decide)) ⟨_,_,W8⟩ fun u=>?_;simp only[maxLen]at u;refine ak ab func248 Z (by decide) ntmps248 Z (by simp) ?_;refine gA Z ?_
 refine aM 0 l.length (W2 _) (fun i=>⟨[(0,.iv (aW 5 l Term.c)),(1,.cv (.func 219) [] []),(7,pI l.length),(8,pI i)],[],0⟩) (fun i=>(l.take i).any (fun x:Term=>lc (x.kind=3))=kw) [] (by simp)
  (zW trivial) fun i hi y=>?_
 refine zJ Z Z (fun h1=>?_) fun h1=>?_
 .have h1:i<l.length:=by simpa using h1
  refine gA Z (zp (Wv (l.getD i co)) ?_);refine zJ Z Z (fun j=>?_) fun j=>?_
  .have j:(fun x:Term=>lc (x.kind=3)) (l.getD i co)=jp:=j;rw[iV y h1 j];refine gA Z (zD [] Z (zW ac))
  .have j:(fun x:Term=>lc (x.kind=3)) (l.getD i co)=kw:=j;refine gA Z ⟨h1,(c5 y h1).2 j,[],zW ac⟩
 .have h1:l.length<=i:=by simpa using h1
  rw[gy (any_none y h1)];refine gA Z (zD [] Z (zW ac))
theorem d157(l:List Term):bf prog 218 [.iv (aW 5 l Term.c),.cv (.func 219) [] []] [] (pB (l.any (fun x:Term=>lc (x.kind=3)))) [] 0:=by
 refine ak ab func218 Z (by decide) ntmps218 Z (by simp) ?_;refine gA Z (zq [] (i191 l) ?_);refine gA Z (zD [] Z (zM ⟨.of_eq (oy (iW _ l)),rfl,ac⟩ ac))
theorem i192(l:List Lit):bf prog 194 [.iv (aW 30 l Lit.c),.cv (.func 220) [] []] [] (pI (qV (fun x:Lit=>lc (x.kind=4)) l)) [] 0:=by
 refine qZ (bc func194 Z (by decide)) ⟨_,_,W8⟩ fun u=>?_;simp only[maxLen]at u;refine ak ab func194 Z (by decide) ntmps194 Z (by simp) ?_;refine gA Z ?_
 refine aM 0 l.length (W2 _) (fun i=>⟨[(0,.iv (aW 30 l Lit.c)),(1,.cv (.func 220) [] []),(7,pI l.length),(8,pI i)],[],0⟩) (fun i=>(l.take i).any (fun x:Lit=>lc (x.kind=4))=kw) [] (by simp)
  (zW trivial) fun i hi y=>?_
 refine zJ Z Z (fun h1=>?_) fun h1=>?_
 .have h1:i<l.length:=by simpa using h1
  refine gA Z (zp (Wu (l.getD i co)) ?_);refine zJ Z Z (fun j=>?_) fun j=>?_
  .have j:(fun x:Lit=>lc (x.kind=4)) (l.getD i co)=jp:=j;rw[iV y h1 j];refine gA Z (zD [] Z (zW ac))
  .have j:(fun x:Lit=>lc (x.kind=4)) (l.getD i co)=kw:=j;refine gA Z ⟨h1,(c5 y h1).2 j,[],zW ac⟩
 .have h1:l.length<=i:=by simpa using h1
  rw[gy (any_none y h1)];refine gA Z (zD [] Z (zW ac))
theorem d159(l:List Lit):bf prog 135 [.iv (aW 30 l Lit.c),.cv (.func 220) [] []] [] (pB (l.any (fun x:Lit=>lc (x.kind=4)))) [] 0:=by
 refine ak ab func135 Z (by decide) ntmps135 Z (by simp) ?_;refine gA Z (zq [] (i192 l) ?_);refine gA Z (zD [] Z (zM ⟨.of_eq (oy (iW _ l)),rfl,ac⟩ ac))
theorem UX(p:Prog)(l:List Atom):bf prog 217 [.iv (aW 2 l Atom.c),.cv (.func 182) [] [.ptr 0 0]] [.cells [.iv (cT p)]] (pI (qV (fun x:Atom=>wZ p x) l)) [(0,io (.cells [.iv (cT p)]))] 1:=by
 refine qZ (bc func217 Z (by decide)) ⟨_,_,W8⟩ fun u=>?_;simp only[maxLen]at u;refine ak ab func217 Z (by decide) ntmps217 Z (by simp) ?_;refine gA Z ?_
 refine aM 0 l.length (W2 _) (fun i=>⟨[(0,.iv (aW 2 l Atom.c)),(1,.cv (.func 182) [] [.ptr 0 0]),(7,pI l.length),(8,pI i)],[(0,io (.cells [.iv (cT p)]))],1⟩) (fun i=>(l.take i).any (fun x:Atom=>wZ p x)=kw) [] (by simp)
  (zW (zO trivial)) fun i hi y=>?_
 refine zJ Z Z (fun h1=>?_) fun h1=>?_
 .have h1:i<l.length:=by simpa using h1
  refine gA Z (zq [0] (d113 p (l.getD i co)) ?_);refine zJ Z Z (fun j=>?_) fun j=>?_
  .have j:(fun x:Atom=>wZ p x) (l.getD i co)=jp:=j;rw[iV y h1 j];refine gA Z (zD [] Z (zW (zO ac)))
  .have j:(fun x:Atom=>wZ p x) (l.getD i co)=kw:=j;refine gA Z ⟨h1,(c5 y h1).2 j,[],zW (zO ac)⟩
 .have h1:l.length<=i:=by simpa using h1
  rw[gy (any_none y h1)];refine gA Z (zD [] Z (zW (zO ac)))
theorem Vj(p:Prog)(l:List Atom):bf prog 180 [.iv (aW 2 l Atom.c),.cv (.func 182) [] [.ptr 0 0]] [.cells [.iv (cT p)]] (pB (l.any (fun x:Atom=>wZ p x))) [(0,io (.cells [.iv (cT p)]))] 1:=by
 refine ak ab func180 Z (by decide) ntmps180 Z (by simp) ?_;refine gA Z (zq [0] (UX p l) ?_);refine gA Z (zD [] Z (zM ⟨.of_eq (oy (iW _ l)),rfl,ac⟩ (zO ac)))
theorem UW(p:Prog)(l:List Atom):bf prog 217 [.iv (aW 2 l Atom.c),.cv (.func 184) [] [.ptr 0 0]] [.cells [.iv (cT p)]] (pI (qV (fun x:Atom=>Ar p x) l)) [(0,io (.cells [.iv (cT p)]))] 1:=by
 refine qZ (bc func217 Z (by decide)) ⟨_,_,W8⟩ fun u=>?_;simp only[maxLen]at u;refine ak ab func217 Z (by decide) ntmps217 Z (by simp) ?_;refine gA Z ?_
 refine aM 0 l.length (W2 _) (fun i=>⟨[(0,.iv (aW 2 l Atom.c)),(1,.cv (.func 184) [] [.ptr 0 0]),(7,pI l.length),(8,pI i)],[(0,io (.cells [.iv (cT p)]))],1⟩) (fun i=>(l.take i).any (fun x:Atom=>Ar p x)=kw) [] (by simp)
  (zW (zO trivial)) fun i hi y=>?_
 refine zJ Z Z (fun h1=>?_) fun h1=>?_
 .have h1:i<l.length:=by simpa using h1
  refine gA Z (zq [0] (d115 p (l.getD i co)) ?_);refine zJ Z Z (fun j=>?_) fun j=>?_
  .have j:(fun x:Atom=>Ar p x) (l.getD i co)=jp:=j;rw[iV y h1 j];refine gA Z (zD [] Z (zW (zO ac)))
  .have j:(fun x:Atom=>Ar p x) (l.getD i co)=kw:=j;refine gA Z ⟨h1,(c5 y h1).2 j,[],zW (zO ac)⟩
 .have h1:l.length<=i:=by simpa using h1
  rw[gy (any_none y h1)];refine gA Z (zD [] Z (zW (zO ac)))
theorem Vi(p:Prog)(l:List Atom):bf prog 180 [.iv (aW 2 l Atom.c),.cv (.func 184) [] [.ptr 0 0]] [.cells [.iv (cT p)]] (pB (l.any (fun x:Atom=>Ar p x))) [(0,io (.cells [.iv (cT p)]))] 1:=by
 refine ak ab func180 Z (by decide) ntmps180 Z (by simp) ?_;refine gA Z (zq [0] (UW p l) ?_);refine gA Z (zD [] Z (zM ⟨.of_eq (oy (iW _ l)),rfl,ac⟩ (zO ac)))
def cQ(l:Lit):List Atom:=if l.kind=1∨l.kind=2 then[l.atom] else[]
theorem qL: ∀l:List Lit,(l.flatMap cQ).length<=l.length
 | []=>by simp
 |x::r=>by
  have h1:=qL r;have j:(cQ x).length<=1:=by unfold cQ;split<;>simp
  simp only[XS,WO,Xn];omega
def zY(r:aw)(lit:Int):List Lit:=if(au r lit).kind=4 then(au r lit).ay else[au r lit]
def fG(r:aw)(lit:Int):List Atom:=if lit<0 then[r.head] else(zY r lit).flatMap cQ
theorem Np(r:aw)(lit:Int)(h:0<=lit):jR (.bL 30 ((lit+1).toNat-lit.toNat) (fun j=>(r.body.getD (lit.toNat+j) co).c)) (lits [au r lit]):=by
 have e:(lit+1).toNat-lit.toNat=1:=by omega
 rw[e]
 exact .bL Z (fun j u=>by
  have:j=0:=by omega
  subst this;rfl)
theorem Vn(r:aw)(lit:Int)(h1:lit<r.body.length)(hb:r.size<=1000000000000):Pure prog 181 [ag r.c,pI lit] (.iv (aW 2 (fG r lit) Atom.c)):=by
 have a0:=Lit.aJ r.body;have h0:Lit.aD r.body<=r.size:=Zq _ _;refine ah ab func181 Z (by decide) ntmps181 Z (by simp) Z ?_;refine zJ Z Z (fun B=>?_) fun B=>?_
 .have B:lit<0:=by simpa using B
  refine gA Z (dA (by first|exact .inr Z|exact .inl Z) Z Z (by rw[fG,am B];rfl) (by rw[fG,am B];rfl))
 have B: ¬lit<0:=by simpa using B
 have hk:lit.toNat<r.body.length:=by omega
 have J:=Lit.bT r.body lit.toNat hk;have c0:=(au r lit).size_eq;have d0:=Lit.aJ (au r lit).ay;have b0:(au r lit).size<=Lit.aD r.body:=J;refine zJ Z Z (fun C=>?_) fun C=>?_
 .have C:(au r lit).kind=4:=by simpa[au]using C
  have A:fG r lit=(au r lit).ay.flatMap cQ:=by rw[fG,be B,zY,am C]
  refine gA Z ?_;refine ju 6 2 Z ?_;refine aM 0 ((au r lit).ay).length (W2 _) (fun i=>⟨[(6,.sl 2 0 ((((au r lit).ay).take i).flatMap cQ).length 2),(30,.iv (lits ((au r lit).ay))),(31,pI ((au r lit).ay).length),(32,pI i)],[(2,io (aX 2 ((((au r lit).ay).take i).flatMap cQ) Atom.c))],3⟩) (fun _=>True) [1] ac
   (zM (bi ⟨.iv (nn _),rfl,bi (bi trivial)⟩) (zS trivial)) fun i hi _=>?_
  have I:=qL (((au r lit).ay).take i);have Y:(((au r lit).ay).take i).length<=((au r lit).ay).length:=by rw[Xv];exact aal _ _
  have G:((au r lit).ay).length<=1000000000000:=by first|omega|(rw[Xl];omega)
  refine zJ Z Z (fun j=>?_) fun j=>?_
  .have j:i<((au r lit).ay).length:=zN j;have hs:=bC (f:=cQ) j;have u:((((au r lit).ay).getD i co).kind=1∨(((au r lit).ay).getD i co).kind=2)->(((au r lit).ay).take (i+1)).flatMap cQ=(((au r lit).ay).take i).flatMap cQ++ [(((au r lit).ay).getD i co).atom]:=fun h=>by rw[hs,cQ,am h]
   have D: ¬((((au r lit).ay).getD i co).kind=1∨(((au r lit).ay).getD i co).kind=2)->(((au r lit).ay).take (i+1)).flatMap cQ=(((au r lit).ay).take i).flatMap cQ:=fun h=>by rw[hs,cQ,be h,XA]
   refine zJ Z Z (fun x=>?_) fun x=>?_
   .have x: ¬(((au r lit).ay).getD i co).kind=1:=by simpa using x
    refine zJ Z Z (fun y=>?_) fun y=>?_
    .have y:(((au r lit).ay).getD i co).kind=2:=by simpa using y
     have hs:=u (.inr y);refine gA Z ⟨j,ac,[5],zM ⟨.row (by rw[hs,WO];rfl),rfl,bi (bi (bi ac))⟩ (hR Z (by rw[hs,W4];rfl) Z ac)⟩
    .have y: ¬(((au r lit).ay).getD i co).kind=2:=by simpa using y
     have hs:=D (fun h=>h.elim x y);refine gA Z ⟨j,ac,[2],zM ⟨.row (by rw[hs]),rfl,bi (bi (bi ac))⟩ (hR Z (by rw[hs]) Z ac)⟩
   .have x:(((au r lit).ay).getD i co).kind=1:=by simpa using x
    have hs:=u (.inl x);refine gA Z ⟨j,ac,[5],zM ⟨.row (by rw[hs,WO];rfl),rfl,bi (bi (bi ac))⟩ (hR Z (by rw[hs,W4];rfl) Z ac)⟩
  .have j:((au r lit).ay).length<=i:=zG j;rw[W9 j] at*
   refine gA Z (dA (by first|exact .inr Z|exact .inl Z) Z Z (by rw[A]) (by rw[A]))
 .have C: ¬(au r lit).kind=4:=by simpa[au]using C
  have A:fG r lit=[au r lit].flatMap cQ:=by rw[fG,be B,zY,be C]
  refine gA Z ?_;refine ju 6 2 Z ?_;refine aM 0 ([au r lit]).length (W2 _) (fun i=>⟨[(6,.sl 2 0 ((([au r lit]).take i).flatMap cQ).length 2),(30,.iv (lits ([au r lit]))),(31,pI ([au r lit]).length),(32,pI i)],[(2,io (aX 2 ((([au r lit]).take i).flatMap cQ) Atom.c))],3⟩) (fun _=>True) [1] ac
   (zM (bi ⟨.iv (Np r lit (by omega)),rfl,.of_eq (Hl (by simp only[Xl];omega)),rfl,bi trivial⟩) (zS trivial)) fun i hi _=>?_
  have I:=qL (([au r lit]).take i);have Y:(([au r lit]).take i).length<=([au r lit]).length:=by rw[Xv];exact aal _ _
  have G:([au r lit]).length<=1000000000000:=by first|omega|(rw[Xl];omega)
  refine zJ Z Z (fun j=>?_) fun j=>?_
  .have j:i<([au r lit]).length:=zN j;have hs:=bC (f:=cQ) j;have u:((([au r lit]).getD i co).kind=1∨(([au r lit]).getD i co).kind=2)->(([au r lit]).take (i+1)).flatMap cQ=(([au r lit]).take i).flatMap cQ++ [(([au r lit]).getD i co).atom]:=fun h=>by rw[hs,cQ,am h]
   have D: ¬((([au r lit]).getD i co).kind=1∨(([au r lit]).getD i co).kind=2)->(([au r lit]).take (i+1)).flatMap cQ=(([au r lit]).take i).flatMap cQ:=fun h=>by rw[hs,cQ,be h,XA]
   refine zJ Z Z (fun x=>?_) fun x=>?_
   .have x: ¬(([au r lit]).getD i co).kind=1:=by simpa using x
    refine zJ Z Z (fun y=>?_) fun y=>?_
    .have y:(([au r lit]).getD i co).kind=2:=by simpa using y
     have hs:=u (.inr y);refine gA Z ⟨j,ac,[5],zM ⟨.row (by rw[hs,WO];rfl),rfl,bi (bi (bi ac))⟩ (hR Z (by rw[hs,W4];rfl) Z ac)⟩
    .have y: ¬(([au r lit]).getD i co).kind=2:=by simpa using y
     have hs:=D (fun h=>h.elim x y);refine gA Z ⟨j,ac,[2],zM ⟨.row (by rw[hs]),rfl,bi (bi (bi ac))⟩ (hR Z (by rw[hs]) Z ac)⟩
   .have x:(([au r lit]).getD i co).kind=1:=by simpa using x
    have hs:=u (.inl x);refine gA Z ⟨j,ac,[5],zM ⟨.row (by rw[hs,WO];rfl),rfl,bi (bi (bi ac))⟩ (hR Z (by rw[hs,W4];rfl) Z ac)⟩
  .have j:([au r lit]).length<=i:=zG j;rw[W9 j] at*
   refine gA Z (dA (by first|exact .inr Z|exact .inl Z) Z Z (by rw[A]) (by rw[A]))
theorem d110(p:Prog)(r:aw)(lit:Int)(h1:lit<r.body.length)(hb:r.size<=1000000000000):bf prog 179 [pI lit,.ptr 0 0,.ptr 1 0] [aG r.c,.cells [.iv (cT p)]] (pB ((fG r lit).any fun x=>wZ p x)) [(0,io (aG r.c)),(1,io (.cells [.iv (cT p)]))] 2:=by
 refine ak ab func179 Z (by decide) ntmps179 Z (by simp) ?_;refine gA Z (zp (Vn r lit h1 hb) ?_);refine gA Z (zq [1] (Vj p (fG r lit)) ?_);refine gA Z (zD [] Z (zW (zK (zO ac))))
theorem d114(p:Prog)(r:aw)(lit:Int)(h1:lit<r.body.length)(hb:r.size<=1000000000000):bf prog 183 [pI lit,.ptr 0 0,.ptr 1 0] [aG r.c,.cells [.iv (cT p)]] (pB ((fG r lit).any fun x=>Ar p x)) [(0,io (aG r.c)),(1,io (.cells [.iv (cT p)]))] 2:=by
 refine ak ab func183 Z (by decide) ntmps183 Z (by simp) ?_;refine gA Z (zp (Vn r lit h1 hb) ?_);refine gA Z (zq [1] (Vi p (fG r lit)) ?_);refine gA Z (zD [] Z (zW (zK (zO ac))))
def mT(r:aw)(lit:Int):Bool:=if lit<0 then r.head.an.any fun x=>lc (x.kind=3) else if(au r lit).kind=4 then((au r lit).ay.any fun x=>lc (x.kind=4))||dX (bn (au r lit).agg) (au r lit).bF else kw
theorem WA(r:aw)(lit:Int)(h1:lit<r.body.length)(hb:r.size<=100000000):Pure prog 186 [ag r.c,pI lit] (pB (mT r lit)):=by
 have I:=Lit.aJ r.body;have h0:Lit.aD r.body<=r.size:=Zq _ _;refine ah ab func186 Z (by decide) ntmps186 Z (by simp) Z ?_;refine zJ Z Z (fun j=>?_) fun j=>?_
 .have j:lit<0:=by simpa using j
  refine gA Z (zq [] (d157 r.head.an) ?_);refine gA Z (zL (.of_eq ?_));rw[mT,am j];rfl
 have j: ¬lit<0:=by simpa using j
 have hk:lit.toNat<r.body.length:=by omega
 have C:=Lit.bT r.body lit.toNat hk;have D:=(au r lit).kY;have J:(au r lit).size<=Lit.aD r.body:=C;have G:=kZ (au r lit).agg;refine zJ Z Z (fun u=>?_) fun u=>?_
 .have u: ¬(au r lit).kind=4:=by simpa[au]using u
  refine gA Z (zL (.of_eq ?_));rw[mT,be j,be u]
 have u:(au r lit).kind=4:=by simpa[au]using u
 refine gA Z (ai [] (bf.le (aa:=[.iv (sw (au r lit).ay),.cv (.func 220) [] []]) (d159 (au r lit).ay) ⟨.iv (nn _),.refl _,ac⟩) Z Z Z Z Z Z Z Z ?_);refine zE Z Z (fun y=>?_) fun y=>?_
 .have y:((au r lit).ay.any fun x=>lc (x.kind=4))=kw:=y;have B:=bJ (bn (au r lit).agg) (au r lit).bF;have A:=cz (occ:=bn (au r lit).agg) (s:=(au r lit).bF);refine gA Z (zd [] (d127 (au r lit).agg (by omega)) ?_);refine gA Z (zL (.of_eq ?_));refine(oy ?_:pB (lc (dW .str (aL (bn (au r lit).agg)) (au r lit).bF 0>0))=_);rw[mT,be j,am u,y,A,B,YO];by_cases Y:ra (bn (au r lit).agg) (au r lit).bF=0<;>simp[Y];omega
 .have y:((au r lit).ay.any fun x=>lc (x.kind=4))=jp:=y;refine gA Z (zL (.of_eq ?_));rw[mT,be j,am u,y];rfl
theorem d116(r:aw)(lit:Int)(h1:lit<r.body.length)(hb:r.size<=100000000):bf prog 185 [pI lit,.ptr 0 0] [aG r.c] (pB (mT r lit)) [(0,io (aG r.c))] 1:=by
 refine ak ab func185 Z (by decide) ntmps185 Z (by simp) ?_;refine gA Z (zp (WA r lit h1 hb) ?_);refine gA Z (zD [] Z (zW (zK ac)))
def sW(r:aw)(lit:Int):Pos:=if lit<0 then r.at_ else(au r lit).at
theorem Ko(r:aw)(lit:Int)(h1:lit<r.body.length):Pure prog 190 [ag r.c,pI lit] (ag [iI (sW r lit).line,iI (sW r lit).KO]):=by
 refine ah ab func190 Z (by decide) ntmps190 Z (by simp) Z ?_;refine zJ Z Z (fun j=>?_) fun j=>?_
 .have j:lit<0:=by simpa using j
  refine gA Z (zL (.of_eq ?_));rw[sW,am j];rfl
 have j: ¬lit<0:=by simpa using j
 refine gA Z (zL (.of_eq ?_));rw[sW,be j];rfl
def ni(r:aw)(l:Lit):Nat:=if l.kind=4 then(mv r l.agg).length else 0
def HW(r:aw):Nat:=r.body.foldl (fun n l=>n+ni r l) (aL (aI r)).length
theorem yh(r:aw)(l:Lit):ni r l<=l.size:=by
 unfold ni;split
 .have h1:(mv r l.agg).length<=(aL (bn l.agg)).length:=Yi _ _;have j:=mh (bn l.agg);have u:=kZ l.agg;have x:=l.kY;omega
 .omega
theorem A7(r:aw): ∀(l:List Lit) (n:Nat),l.foldl (fun n l=>n+ni r l) n<=n+Lit.aD l
 | [],n=>by simp
 |x::t,n=>by
  have h1:=A7 r t (n+ni r x);have j:=yh r x;simp only[XU,Lit.aD];omega
theorem WB(r:aw)(hb:r.size<=100000000):Pure prog 178 [.iv (cI r)] (pI (HW r)):=by
 have y:=Lit.aJ r.body;have G:Lit.aD r.body<=r.size:=Zq _ _;have I:=zw r;have A:=mh (aI r);refine ah ab func178 Z (by decide) ntmps178 Z (by simp) Z ?_;refine gA Z ?_;refine aM 0 r.body.length (W2 _) (fun i=>⟨[(0,.iv (cI r)),(3,pI (((r.body.take i).foldl (fun n l=>n+ni r l) (aL (aI r)).length:Nat))),(15,.iv (lits r.body)),(16,pI r.body.length),(17,pI i)],[],0⟩) (fun _=>True) [] ac
  (zW trivial) fun i hi _=>?_
 have B:=A7 r (r.body.take i) (aL (aI r)).length;have C:=Lit.ve r.body i;refine zJ Z Z (fun h1=>?_) fun h1=>?_
 .have h1:i<r.body.length:=by simpa using h1
  have hs:=iD (g:=fun n l=>n+ni r l) (b:=(aL (aI r)).length) h1;have D:=Lit.bT r.body i h1;have x:=(r.body.getD i co).kY;have u:=yh r (r.body.getD i co);refine zJ Z Z (fun j=>?_) fun j=>?_
  .have j:(r.body.getD i co).kind=4:=by simpa using j
   rw[ni,am j]at hs u;refine gA Z (zq [] (d79 r (r.body.getD i co).agg (by omega)) ?_);refine gA Z ⟨h1,ac,[],zM (bi ⟨.of_eq (Hl (by rw[hs];rfl)),rfl,bi (bi (bi ac))⟩) ac⟩
  .have j: ¬(r.body.getD i co).kind=4:=by simpa using j
   rw[ni,be j]at hs;refine gA Z ⟨h1,ac,[],zM (bi ⟨.of_eq (Hl (by rw[hs];rfl)),rfl,bi (bi (bi ac))⟩) ac⟩
 .have h1:r.body.length<=i:=by simpa using h1
  refine gA Z (zL (.of_eq ?_));rw[W9 h1];rfl
section
section
variable {may:List aq->Expr->Bool} {more:List aq->gU->Bool} {body:List Lit}
theorem uc: ∀(n:Nat) (occ:List aq),cN (bU body) occ<n->b7 (may (di may more body n occ)) (more (di may more body n occ)) (di may more body n occ) body=is
 |0,occ,h=>by omega
 |n+1,occ,h=>by
  cases hv:b7 (may occ) (more occ) occ body with
  |none=>rw[fh hv];exact hv
  |some v=>
   rw[fg hv];refine uc n _ ?_;obtain⟨g1,g2⟩:=kR hv;have u:=rR g1 g2;have j:cN (bU body) (occ++ [v])=cN (bU body) (iy occ v):=by
    unfold cN;congr 2
    funext x
    congr 1;rw[Yk,bK,bK,dE,Xf,W1]
   omega
theorem uf(occ:List aq):b7 (may (b8 may more body occ)) (more (b8 may more body occ)) (b8 may more body occ) body=is:=by
 refine uc _ _ ?_;have h1:=rS (bU body) (occ++body.flatMap bx);have j:=ky body;omega
theorem oU: ∀(n:Nat) (occ:List aq),∀x∈occ,x∈di may more body n occ
 |0,occ,x,h=>h
 |n+1,occ,x,h=>by
  cases hv:b7 (may occ) (more occ) occ body with
  |none=>rw[fh hv];exact h
  |some v=>rw[fg hv];exact oU n _ x (XJ _ h)
theorem oM{m1:Expr->Bool}{m2:gU->Bool}{occ:List aq}: ∀{l:List Lit},b7 m1 m2 occ l=is-> ∀x∈l,mX m1 m2 occ x=is
 | [],_,x,hx=>by cases hx
 |y::r,h,x,hx=>by
  simp only[b7]at h;split at h
  .cases h
  .rename_i h1;rcases Xa.1 hx with rfl|hx
   .exact h1
   .exact oM h x hx
theorem tX{m1:Expr->Bool}{m2:gU->Bool}{occ:List aq}{v:aq}: ∀{l:List Lit},b7 m1 m2 occ l=io v-> ∃x∈l,mX m1 m2 occ x=io v
 | [],h=>by cases h
 |y::r,h=>by
  simp only[b7]at h;split at h
  .rename_i w u;exact⟨y,W8,u.trans h⟩
  .obtain⟨x,A,j⟩:=tX h;exact⟨x,W5 _ A,j⟩
variable (hmay: ∀a b:List aq,(∀x∈a,x∈b)-> ∀e,may a e=jp->may b e=jp) (hmore: ∀a b:List aq,(∀x∈a,x∈b)-> ∀e,more a e=jp->more b e=jp)
include hmay hmore
theorem ET{occ C:List aq}(j: ∀x∈occ,x∈C){l:Lit}{v:aq}(h:mX (may occ) (more occ) occ l=io v)(hC:mX (may C) (more C) C l=is):v∈C:=by
 have hl: ∀y,y∉C->dX C y=kw:=fun y J=>fD.2 J;have hnew:=(vO h).2;refine Ym fun G=>?_;unfold mX at h hC;by_cases u:(gL (may occ) occ l).2=jp
 .rw[am u]at h;simp only[WR]at h;have D:(gL (may C) C l).2=jp:=by
   unfold gL at u h ⊢;split at u
   .cases u
   .rename_i I;rw[be I]at h ⊢;split at u
    .rename_i h1;rw[am h1]at h;have B:l.left.var=v:=h;rw[am ⟨h1.1,by rw[B];exact hl v G,hmay occ C j _ h1.2.2⟩]
    .rename_i h1;rw[be h1]at h;split at u
     .rename_i A;rw[am A]at h;have B:l.right.var=v:=h;split
      .rfl
      .rw[am ⟨A.1,by rw[B];exact hl v G,hmay occ C j _ A.2.2⟩]
     .cases u
  rw[am D]at hC;cases hC
 .rw[be u]at h;split at h
  .rename_i A;simp only[WR]at h;split at hC
   .cases hC
   .rw[am ⟨A.1,by rw[h];exact hl v G,hmore occ C j _ A.2.2⟩]at hC;cases hC
  .cases h
theorem oT{C:List aq}(hC:b7 (may C) (more C) C body=is): ∀(n:Nat) (occ:List aq),(∀x∈occ,x∈C)-> ∀x∈di may more body n occ,x∈C
 |0,occ,h,x,hx=>h x hx
 |n+1,occ,h,x,hx=>by
  cases hv:b7 (may occ) (more occ) occ body with
  |none=>rw[fh hv]at hx;exact h x hx
  |some v=>
   rw[fg hv]at hx;refine oT hC n _ (fun y hy=>?_) x hx;rcases Xf.1 hy with hy|hy
   .exact h y hy
   .rw[W1]at hy;subst hy;obtain⟨l,hl,j⟩:=tX hv;exact ET hmay hmore h j (oM hC l hl)
theorem ud{u j:List aq}(h: ∀x∈u,x∈j): ∀x∈b8 may more body u,x∈b8 may more body j:=by
 refine oT hmay hmore (uf j) _ _ fun x hx=>?_;refine oU _ _ x ?_;rcases Xf.1 hx with hx|hx
 .exact XJ _ (h x hx)
 .exact Yo _ hx
end
theorem su(a b:List aq)(h: ∀x∈a,x∈b)(e:Expr)(hc:bh a e=jp):bh b e=jp:=by
 unfold bh at*
 rw[XC] at*
 exact fun x j=>bK.2 (h x (bK.1 (hc x j)))
theorem BB(a b:List aq)(h: ∀x∈a,x∈b)(e:Expr)(hc:cD a e=jp):cD b e=jp:=by
 unfold cD at*
 cases hk:lc (e.kind=2) with
 |true=>simp
 |false=>
  rw[hk,YO,XE]at hc;rw[YO,XE];exact⟨hc.1,bK.2 (h _ (bK.1 hc.2))⟩
def DK(r:aw)(a:gU):List aq:=((aL (bn a)).map (·.1)).filter fun x=>dX (aI r) x
def Ds(r:aw)(a:gU):List aq:=b8 (fun j=>bh j) (fun _=>fun _=>kw) a.body (DK r a)
theorem Na{r:aw}{a:gU}{occ:List aq}(h:Jj r a occ)(s:aq):dX (b8 (fun occ=>bh occ) (fun _=>fun _=>kw) a.body occ) s=dX (Ds r a) s:=by
 have u: ∀x,x∈DK r a↔x∈occ:=fun x=>by
  unfold DK;rw[Xu,(eL (bn a)).2 x,bK,h.2 x]
 rw[Yk,bK,bK];exact⟨ud (more:=fun _=>fun _=>kw) su (fun _ _ _ _ h=>h) (fun x j=>(u x).2 j) s,ud (more:=fun _=>fun _=>kw) su (fun _ _ _ _ h=>h) (fun x j=>(u x).1 j) s⟩
def vT(r:aw)(m:NM):Bool:=m.any fun x=>!dX (b4 r) x.1
theorem oE{r:aw}{m:NM}(h: ∀j,j<m.length-> ∀x,m[j]? =io x->dX (b4 r) x.1=jp):vT r m=kw:=by
 refine XL.2 fun x y=>?_;obtain⟨j,u⟩:=XH y;rw[h j (WT.1 u).1 x u];simp
theorem qP{r:aw}{m:NM}{j:Nat}{x:(KC.str).K×Int}(h:m[j]? =io x)(u:dX (b4 r) x.1=kw):vT r m=jp:=
 Yf.2 ⟨x,Xs h,by rw[u];rfl⟩
def my(r:aw)(a:gU):NM:=(aL (bn a)).filter fun x=>!dX ((mv r a).map (·.1)) x.1
def lR(r:aw)(lit:Int):Bool:=
 if lit<0 then vT r (aL (cW r.head))
 else if(au r lit).kind=4 then(mv r (au r lit).agg).any (fun x=>!dX (Ds r (au r lit).agg) x.1)||vT r (bump (my r (au r lit).agg) (au r lit).bF)
 else vT r (aL (cY (au r lit)))
theorem Wc(a:Atom)(hb:a.an.length<=100000000000):bf prog 192 [.mp 0,ag a.c] [.ft] (.aY []) [(0,io (cX (aL (cW a))))] 1:=
 bf.Qb (d88 [] a (by simp;omega)) ⟨uG,ac⟩
theorem Wb(l:Lit)(hb:l.size<=100000000000):bf prog 215 [.mp 0,ag l.c] [.ft] (.aY []) [(0,io (cX (aL (cY l))))] 1:=
 bf.Qb (d89 l [] (by simp;omega)) ⟨uG,ac⟩
theorem yi(f:aq->Bool)(s:aq): ∀(m:NM),dW .str (m.filter fun x=>f x.1) s 0=if f s=jp then dW .str m s 0 else 0
 | []=>by simp[dW]
 |(a,b)::r=>by
  have j:=yi f s r;cases hf:f a with
  |true=>
   rw[List.filter_cons_of_pos (by exact hf)];simp only[dW];split
   .rename_i h;subst h;rw[am hf]
   .exact j
  |false=>
   rw[List.filter_cons_of_neg (by simp[hf]),j];simp only[dW];split
   .rename_i h;split
    .rename_i u;subst u;rw[hf]at h;cases h
    .rfl
   .rfl
theorem Nn(r:aw)(a:gU)(s:aq):0<=dW .str (my r a) s 0∧dW .str (my r a) s 0<=ra (bn a) s:=by
 have h1:=bJ (bn a) s;have j:=yi (fun x=>!dX ((mv r a).map (·.1)) x) s (aL (bn a));unfold my;rw[j,h1];split<;>omega
set_option maxHeartbeats 2000000 in
theorem Wy(r:aw)(lit:Int)(hl:lit<r.body.length)(hb:r.size<=10000000):Pure prog 189 [.iv (cI r),pI lit] (pB (lR r lit)):=by
 have v0:=Lit.aJ r.body;have h0:Lit.aD r.body<=r.size:=Zq _ _;have r0:r.head.an.length<=r.size:=Zl _ _;have a1:=DC r;refine ah ab func189 Z (by decide) ntmps189 Z (by simp) Z ?_;refine gA Z (zq [] (d73 r (by omega)) ?_);refine zJ Z Z (fun G=>?_) fun G=>?_
 .have G:lit<0:=by simpa using G
  refine gA Z (zq [1] (Wc r.head (by omega)) ?_);refine gA Z ?_;have g0:(aL (cW r.head)).length<=1000000000000:=by have:=mh (cW r.head);have:=jQ r.head;omega
  refine gd (aL (cW r.head)) (fun vs=>⟨[(5,.mp 0),(76,.ptr 2 0)],[(0,io (cX (aL (b4 r)))),(2,io (.bX .str AD (aL (cW r.head)) vs is))],3⟩) (fun vs=> ∀j∈vs,∀x,(aL (cW r.head))[j]? =io x->dX (b4 r) x.1=jp) [] (by simp)
   (zW (zC (hI Z Z (.inl Z) Z trivial))) fun vs I=>?_
  refine gf Z ac (dS Z Z Z Z Z (by decide) (fun A=>?_) fun j x u C=>?_)
  .refine gA Z (zL (.of_eq ?_));refine(oy ?_:pB kw=_);rw[lR,am G,oE fun j C x u=>I j (A j C) x u]
  .have b0:=bJ (b4 r) x.1;have B:=cz (occ:=b4 r) (s:=x.1);refine zJ Z Z (fun g1=>?_) fun g1=>?_
   .have g1:dX (b4 r) x.1=kw:=by
     have:=zT g1;rw[B];simp;omega
    refine gA Z (zL (.of_eq ?_));refine(oy ?_:pB jp=_);rw[lR,am G,qP u g1]
   .have g1:dX (b4 r) x.1=jp:=by
     have:=zF g1;rw[B];simp;omega
    refine gA Z ?_
    exact⟨j,x,u,C,fun i hi y D=>by
     rcases Xa.1 hi with rfl|hi
     .rw[u]at D;cases D;exact g1
     .exact I i hi y D,[],zW (zC (hI Z Z (.inr Z) Z ac))⟩
 have G: ¬lit<0:=by simpa using G
 have hk:lit.toNat<r.body.length:=by omega
 have q0:=Lit.bT r.body lit.toNat hk;have s0:=(au r lit).kY;have x0:(au r lit).size<=Lit.aD r.body:=q0;have t0:=kZ (au r lit).agg;have p0:=np (au r lit);refine zE Z Z (fun J=>?_) fun J=>?_
 .have J: ¬(au r lit).kind=4:=by simpa[au]using J
  refine gA Z (zq [1] (Wb (au r lit) (by omega)) ?_);refine gA Z ?_;have g0:(aL (cY (au r lit))).length<=1000000000000:=by have:=mh (cY (au r lit));omega
  refine gd (aL (cY (au r lit))) (fun vs=>⟨[(5,.mp 0),(76,.ptr 3 0)],[(0,io (cX (aL (b4 r)))),(3,io (.bX .str AD (aL (cY (au r lit))) vs is))],4⟩) (fun vs=> ∀j∈vs,∀x,(aL (cY (au r lit)))[j]? =io x->dX (b4 r) x.1=jp) [] (by simp)
   (zW (zC (hI Z Z (.inl Z) Z trivial))) fun vs I=>?_
  refine gf Z ac (dS Z Z Z Z Z (by decide) (fun A=>?_) fun j x u C=>?_)
  .refine gA Z (zL (.of_eq ?_));refine(oy ?_:pB kw=_);rw[lR,be G,be J,oE fun j C x u=>I j (A j C) x u]
  .have b0:=bJ (b4 r) x.1;have B:=cz (occ:=b4 r) (s:=x.1);refine zJ Z Z (fun g1=>?_) fun g1=>?_
   .have g1:dX (b4 r) x.1=kw:=by
     have:=zT g1;rw[B];simp;omega
    refine gA Z (zL (.of_eq ?_));refine(oy ?_:pB jp=_);rw[lR,be G,be J,qP u g1]
   .have g1:dX (b4 r) x.1=jp:=by
     have:=zF g1;rw[B];simp;omega
    refine gA Z ?_
    exact⟨j,x,u,C,fun i hi y D=>by
     rcases Xa.1 hi with rfl|hi
     .rw[u]at D;cases D;exact g1
     .exact I i hi y D,[],zW (zC (hI Z Z (.inr Z) Z ac))⟩
 have J:(au r lit).kind=4:=by simpa[au]using J
 refine gA Z (lD [] (d161 r (au r lit).agg (by omega)) Z Z Z Z Z Z Z fun q h' n' hR=>?_);obtain⟨ok,⟨occ,k0,hok⟩,rfl,rfl,rfl⟩:=hR;have c0: ∀s,dX ok s=dX (Ds r (au r lit).agg) s:=fun s=>by rw[hok];exact Na k0 s
 refine⟨_,rfl,?_⟩;have b1:=mh (bn (au r lit).agg);have z0:(mv r (au r lit).agg).length<=(aL (bn (au r lit).agg)).length:=Yi _ _;have w0:(my r (au r lit).agg).length<=(aL (bn (au r lit).agg)).length:=Yi _ _;have m0:=(eL (bn (au r lit).agg)).1;refine gA Z (zq [] (d79 r (au r lit).agg (by omega)) ?_);refine gA Z ?_;refine gd (mv r (au r lit).agg) (fun vs=>⟨[(0,.iv (cI r)),(5,.mp 0),(7,.ptr 2 0),(8,.mp 3),(43,.ptr 5 0)],[(0,io (cX (aL (b4 r)))),(2,io (aG (au r lit).c)),(3,io (cX (aL ok))),(5,io (.bX .str AD (mv r (au r lit).agg) vs is))],6⟩) (fun vs=> ∀j∈vs,∀x,(mv r (au r lit).agg)[j]? =io x->dX (Ds r (au r lit).agg) x.1=jp) [] (by simp)
  (zW (zC (zK (zC (hI Z Z (.inl Z) Z trivial))))) fun vs I=>?_
 refine gf Z ac (dS Z Z Z Z Z (by decide) (fun A=>?_) fun j x u C=>?_);rotate_left
 .have b0:=bJ ok x.1;have B:=cz (occ:=ok) (s:=x.1);have Y:=c0 x.1;refine zJ Z Z (fun g1=>?_) fun g1=>?_
  .have g1:dX (Ds r (au r lit).agg) x.1=kw:=by
    have:=zT g1;rw[<-Y,B];simp;omega
   refine gA Z (zL (.of_eq ?_));refine(oy ?_:pB jp=_);rw[lR,be G,am J,Yf.2 ⟨x,Xs u,by rw[g1];rfl⟩,ZL]
  .have g1:dX (Ds r (au r lit).agg) x.1=jp:=by
    have:=zF g1;rw[<-Y,B];simp;omega
   refine gA Z ?_
   exact⟨j,x,u,C,fun i hi y D=>by
    rcases Xa.1 hi with rfl|hi
    .rw[u]at D;cases D;exact g1
    .exact I i hi y D,[],zW (zC (zK (zC (hI Z Z (.inr Z) Z ac))))⟩
 have hA:(mv r (au r lit).agg).any (fun x=>!dX (Ds r (au r lit).agg) x.1)=kw:=XL.2 fun x u=>by
  obtain⟨j,C⟩:=XH u;rw[I j (A j (WT.1 C).1) x C];simp
 refine gA Z (zq [] (d127 (au r lit).agg (by omega)) ?_);refine gA Z (zq [] (d79 r (au r lit).agg (by omega)) ?_);refine gA Z ?_;refine gd (mv r (au r lit).agg) (fun vs=>⟨[(5,.mp 0),(6,.mp 6),(7,.ptr 2 0),(59,.ptr 8 0)],[(0,io (cX (aL (b4 r)))),(2,io (aG (au r lit).c)),(6,io (cX ((iq (mv r (au r lit).agg) vs).foldl (fun m k=>lj .str m k) (aL (bn (au r lit).agg))))),(8,io (.bX .str AD (mv r (au r lit).agg) vs is))],9⟩) (fun vs=>vs.Nodup∧ ∀j∈vs,j<(mv r (au r lit).agg).length) [] ⟨XM,by simp⟩
  (zW (zC (zK (zC (hI Z Z (.inl Z) Z trivial))))) fun d0 i0=>?_
 obtain⟨e0,f0⟩:=i0;refine gf Z ac (dS Z Z Z Z Z (by decide) (fun a0=>?_) fun j x u C=>?_);rotate_left
 .have hk:=lz (mv r (au r lit).agg) d0 j x u;refine gA Z ⟨j,x,u,C,⟨XB.2 ⟨C,e0⟩,fun i hi=>(Xa.1 hi).elim (fun h=>h▸(WT.1 u).1) (f0 i)⟩,[],zW (zC (zK (hM Z (by rw[hk,List.foldl_append];rfl) Z (hI Z Z (.inr Z) Z ac))))⟩
 have n0:(iq (mv r (au r lit).agg) d0).foldl (fun m k=>lj .str m k) (aL (bn (au r lit).agg))=my r (au r lit).agg:=by
  rw[oP _ m0];unfold my;congr 1
  funext x
  congr 1;rw[Yk,bK,bK,(kI _ d0 e0 f0 a0).mem_iff]
 rw[n0];have o0:=Nn r (au r lit).agg (au r lit).bF;have j0:=ia (bn (au r lit).agg) (au r lit).bF;refine gA Z ?_;have g0:(bump (my r (au r lit).agg) (au r lit).bF).length<=1000000000000:=by have:=vz (my r (au r lit).agg) (au r lit).bF (dW .str (my r (au r lit).agg) (au r lit).bF 0+1);unfold bump;omega
 refine gd (bump (my r (au r lit).agg) (au r lit).bF) (fun vs=>⟨[(5,.mp 0),(76,.ptr 9 0)],[(0,io (cX (aL (b4 r)))),(9,io (.bX .str AD (bump (my r (au r lit).agg) (au r lit).bF) vs is))],10⟩) (fun vs=> ∀j∈vs,∀x,(bump (my r (au r lit).agg) (au r lit).bF)[j]? =io x->dX (b4 r) x.1=jp) [] (by simp)
  (zW (zC (hI Z Z (.inl Z) Z trivial))) fun vs I=>?_
 refine gf Z ac (dS Z Z Z Z Z (by decide) (fun A=>?_) fun j x u C=>?_)
 .refine gA Z (zL (.of_eq ?_));refine(oy ?_:pB kw=_);rw[lR,be G,am J,hA,YO,oE fun j C x u=>I j (A j C) x u]
 .have b0:=bJ (b4 r) x.1;have B:=cz (occ:=b4 r) (s:=x.1);refine zJ Z Z (fun g1=>?_) fun g1=>?_
  .have g1:dX (b4 r) x.1=kw:=by
    have:=zT g1;rw[B];simp;omega
   refine gA Z (zL (.of_eq ?_));refine(oy ?_:pB jp=_);rw[lR,be G,am J,hA,YO,qP u g1]
  .have g1:dX (b4 r) x.1=jp:=by
    have:=zF g1;rw[B];simp;omega
   refine gA Z ?_
   exact⟨j,x,u,C,fun i hi y D=>by
    rcases Xa.1 hi with rfl|hi
    .rw[u]at D;cases D;exact g1
    .exact I i hi y D,[],zW (zC (hI Z Z (.inr Z) Z ac))⟩
end
end Go.Proofs.YtlmhfgbkchnfbaaGreatDoor
namespace Go.Proofs.YtlmhfgbkchnfbaaGreatDoor
open Go Go.Al
def Nl(a b:aq):Prop:=om a<om b
theorem Qq(a b:aq):Op.bytesLess a.toList b.toList=jp↔Nl a b:=by
 rw[ByteArray.toList_eq,ByteArray.toList_eq,bytesLess_eq,decide_eq_true_eq];rfl
theorem y5{a b:aq}(h:om a=om b):a=b:=by rw[<-uE a,<-uE b,h]
theorem yg{a b c:aq}(h:Nl a b)(k:Nl b c):Nl a c:=List.lt_trans h k
theorem nf(a:aq): ¬Nl a a:=List.lt_irrefl _
theorem Nk{a b:aq}(h: ¬a=b)(k: ¬Nl a b):Nl b a:=by
 refine Ym fun j=>h (y5 (ZV ?_ ?_))
 .exact aap.1 j
 .exact aap.1 k
abbrev yY(l:List aq):Prop:=l.Pairwise Nl
theorem vY: ∀{l:List aq} (_:yY l) (s:aq),yY (ins l s)
 | [],_,s=>Y8 _ _
 |x::r,h,s=>by
  obtain⟨h1,A⟩:=XZ.1 h;simp only[ins];split
  .exact h
  .rename_i u;split
   .rename_i j;have j:=(Qq x s).1 j;refine XZ.2 ⟨fun y hy=>?_,vY A s⟩;rcases mZ.1 hy with hy|rfl
    .exact h1 y hy
    .exact j
   .rename_i j;have j:Nl s x:=Nk u fun h=>j ((Qq x s).2 h);refine XZ.2 ⟨fun y hy=>?_,h⟩;rcases Xa.1 hy with rfl|hy
    .exact j
    .exact yg j (h1 y hy)
theorem rq{l:List aq}(h:yY l)(s:aq):yY (iy l s):=by rw[xz];exact vY h s
theorem oh: ∀{m l:List aq} (_:yY l),yY (o7 l m)
 | [],_,h=>h
 |x::r,_,h=>oh (m:=r) (rq h x)
theorem qz: ∀{a b:List aq},yY a->yY b->(∀x,x∈a↔x∈b)->a=b
 | [],[],_,_,_=>rfl
 | [],y::s,_,_,h=>by have:=(h y).2 W8;cases this
 |x::r,[],_,_,h=>by have:=(h x).1 W8;cases this
 |x::r,y::s,ha,hb,h=>by
  obtain⟨A,a2⟩:=XZ.1 ha;obtain⟨B,C⟩:=XZ.1 hb;have u:x=y:=by
   rcases Xa.1 ((h x).1 W8) with h1|h1
   .exact h1
   .rcases Xa.1 ((h y).2 W8) with h2|h2
    .exact h2.symm
    .exact absurd (yg (B x h1) (A y h2)) (nf _)
  subst u;rw[qz a2 C fun z=>?_];constructor
  .intro j;rcases Xa.1 ((h z).1 (W5 _ j)) with rfl|h3
   .exact absurd (A z j) (nf _)
   .exact h3
  .intro j;rcases Xa.1 ((h z).2 (W5 _ j)) with rfl|h3
   .exact absurd (B z j) (nf _)
   .exact h3
theorem j7{l:List aq}(h:l.Nodup):yY (dJ l):=by
 have h1:=jh (l.map om);rw[<-sH]at h1;have C:(dJ l).Nodup:=by
  have D:((dJ l).map om).Perm (l.map om):=by rw[sH];exact fO _
  have u:(l.map om).Nodup:=List.Pairwise.map om (fun a b j e=>j (y5 e)) h;have:=D.nodup_iff.2 u;exact List.Pairwise.of_map om (fun a b j e=>j (by rw[e])) this
 have x:(dJ l).Pairwise fun a b=>om a<=om b:=(List.pairwise_map.1 h1).imp fun{a b} j=>zT j;refine(List.Pairwise.and x C).imp fun{a b} j=>?_;obtain⟨y,A⟩:=j;exact Ym fun B=>A (y5 (ZV y (aap.1 B)))
theorem Md{m:NM}{l:List aq}(hm:(m.map (·.1)).Nodup)(hl:yY l)(h: ∀x,x∈m.map (·.1)↔x∈l):fI m=l:=by
 refine qz (j7 hm) hl fun x=>?_;rw[fI,mn];exact h x
theorem HD{occ l:List aq}(hl:yY l)(h: ∀x,x∈occ↔x∈l):fI (aL occ)=l:=
 Md (eL occ).1 hl fun x=>((eL occ).2 x).trans (h x)
theorem p6{x:aq}: ∀{l:List Term} {a:List aq},x∈l.foldl CW a↔x∈a∨x∈l.flatMap fun t=>if t.kind=1 then[t.var] else[]
 | [],a=>by simp
 |t::r,a=>by
  rw[XU,p6,XS,Xf];unfold CW;split
  .rw[dE,W1,or_assoc]
  .simp
theorem zQ{x:aq}{a:Atom}:x∈sA a↔x∈cW a:=by
 unfold sA cW;rw[p6];simp
def T8(a:List aq×Bool)(l:Lit):List aq×Bool:=if(lI l a.1).2=jp then(iy a.1 (lI l a.1).1,jp) else a
def sP(body:List Lit)(k:List aq):List aq×Bool:=body.foldl T8 (k,kw)
def vB(body:List Lit):Nat->List aq->List aq
 |0,k=>k
 |n+1,k=>if(sP body k).2=jp then vB body n (sP body k).1 else(sP body k).1
theorem BA{body:List Lit}{n:Nat}{k:List aq}:vB body (n+1) k=if(sP body k).2=jp then vB body n (sP body k).1 else(sP body k).1:=rfl
def lQ(r:aw):List aq:=vB r.body (3*r.body.length+1) (r.body.foldl Gm [])
section
section
variable (stp:List aq->Lit->aq×Bool)
def gS(a:List aq×Bool)(l:Lit):List aq×Bool:=if(stp a.1 l).2=jp then(iy a.1 (stp a.1 l).1,jp) else a
def gR(body:List Lit)(k:List aq):List aq×Bool:=body.foldl (gS stp) (k,kw)
def gN(body:List Lit):Nat->List aq->List aq
 |0,k=>k
 |n+1,k=>if(gR stp body k).2=jp then gN body n (gR stp body k).1 else(gR stp body k).1
variable {stp}
theorem Fg: ∀(body:List Lit) (k:List aq),(body.foldl (gS stp) (k,jp)).2=jp
 | [],k=>rfl
 |l::r,k=>by
  rw[XU];have: ∃j,gS stp (k,jp) l=(j,jp):=by
   unfold gS;split
   .exact⟨_,rfl⟩
   .exact⟨_,rfl⟩
  obtain⟨j,hk⟩:=this;rw[hk];exact Fg r j
theorem Ci: ∀{body:List Lit} {k:List aq},(body.foldl (gS stp) (k,kw)).2=kw->(body.foldl (gS stp) (k,kw)).1=k∧ ∀l∈body,(stp k l).2=kw
 | [],k,_=>⟨rfl,by simp⟩
 |l::r,k,h=>by
  rw[XU]at h ⊢;cases hs:(stp k l).2 with
  |true=>
   have:gS stp (k,kw) l=(iy k (stp k l).1,jp):=am hs;rw[this,Fg]at h;cases h
  |false=>
   have:gS stp (k,kw) l=(k,kw):=be (by rw[hs];simp);rw[this]at h ⊢;obtain⟨h1,j⟩:=Ci h
   exact⟨h1,fun x hx=>by
    rcases Xa.1 hx with rfl|hx
    .exact hs
    .exact j x hx⟩
theorem DS: ∀(body:List Lit) (a:List aq×Bool),∀x∈a.1,x∈(body.foldl (gS stp) a).1
 | [],a,x,h=>h
 |l::r,a,x,h=>by
  rw[XU];refine DS r _ x ?_;unfold gS;split
  .exact dE.2 (.inl h)
  .exact h
theorem JD{body:List Lit}: ∀(n:Nat) (k:List aq),∀x∈k,x∈gN stp body n k
 |0,k,x,h=>h
 |n+1,k,x,h=>by
  unfold gN;split
  .exact JD n _ x (DS body (k,kw) x h)
  .exact DS body (k,kw) x h
theorem tg: ∀(body:List Lit) (a:List aq×Bool),yY a.1->yY (body.foldl (gS stp) a).1
 | [],a,h=>h
 |l::r,a,h=>by
  rw[XU];refine tg r _ ?_;unfold gS;split
  .exact rq h _
  .exact h
theorem yw{body:List Lit}: ∀(n:Nat) (k:List aq),yY k->yY (gN stp body n k)
 |0,k,h=>h
 |n+1,k,h=>by
  unfold gN;split
  .exact yw n _ (tg body (k,kw) h)
  .exact tg body (k,kw) h
variable (hnew: ∀(k:List aq) (l:Lit),(stp k l).2=jp->(stp k l).1∈ [l.left.var,l.right.var,l.bF]∧(stp k l).1∉k)
include hnew
theorem Ff{c:List aq}: ∀{body:List Lit} {a:List aq×Bool},(∀l∈body,∀v∈ [l.left.var,l.right.var,l.bF],v∈c)->
  cN c (body.foldl (gS stp) a).1<=cN c a.1∧((body.foldl (gS stp) a).2=jp->a.2=jp∨cN c (body.foldl (gS stp) a).1<cN c a.1)
 | [],a,_=>⟨WY _,fun h=> .inl h⟩
 |l::r,a,hc=>by
  have h1:cN c (gS stp a l).1<=cN c a.1∧((gS stp a l).2=jp->a.2=jp∨cN c (gS stp a l).1<cN c a.1):=by
   unfold gS;split
   .rename_i h;obtain⟨g1,g2⟩:=hnew _ _ h;have:=rR (hc l W8 _ g1) g2;exact⟨by dsimp only;omega,fun _=> .inr this⟩
   .exact⟨WY _,fun h=> .inl h⟩
  obtain⟨g1,g2⟩:=Ff (body:=r) (a:=gS stp a l) fun l hl=>hc l (W5 _ hl);rw[XU];refine⟨by omega,fun h=>?_⟩;rcases g2 h with g3|g3
  .rcases h1.2 g3 with g4|g4
   .exact .inl g4
   .exact .inr (by omega)
  .exact .inr (by omega)
theorem JC{body:List Lit}: ∀(n:Nat) (k:List aq),cN (bU body) k<n-> ∀l∈body,(stp (gN stp body n k) l).2=kw
 |0,k,h,_,_=>by omega
 |n+1,k,h,l,hl=>by
  unfold gN;cases hr:(gR stp body k).2 with
  |true=>
   rw[am Z];refine JC n _ ?_ l hl;obtain⟨_,g2⟩:=Ff hnew (c:=bU body) (body:=body) (a:=(k,kw)) fun l hl v j=>yM hl j;rcases g2 hr with g3|g3
   .cases g3
   .unfold gR;dsimp only at g3;omega
  |false=>
   rw[be (by simp)];obtain⟨g1,g2⟩:=Ci hr;unfold gR;rw[g1];exact g2 l hl
end
theorem oL{m1:Expr->Bool}{m2:gU->Bool}{occ:List aq}: ∀{l:List Lit},(∀x∈l,mX m1 m2 occ x=is)->b7 m1 m2 occ l=is
 | [],_=>rfl
 |y::r,h=>by
  simp only[b7,h y W8];exact oL fun x j=>h x (W5 _ j)
section
variable {stp:List aq->Lit->aq×Bool} {may:List aq->Expr->Bool} {more:List aq->gU->Bool} {body:List Lit}
variable (hE: ∀(k:List aq) (l:Lit),mX (may k) (more k) k l=if(stp k l).2=jp then io (stp k l).1 else is)
variable (hmay: ∀a b:List aq,(∀x∈a,x∈b)-> ∀e,may a e=jp->may b e=jp) (hmore: ∀a b:List aq,(∀x∈a,x∈b)-> ∀e,more a e=jp->more b e=jp)
include hE
theorem Mk(k:List aq)(l:Lit)(h:(stp k l).2=jp):(stp k l).1∈ [l.left.var,l.right.var,l.bF]∧(stp k l).1∉k:=by
 have:=hE k l;rw[am h]at this;exact vO this
include hmay hmore
theorem JA{C:List aq}(hC: ∀l∈body,mX (may C) (more C) C l=is): ∀(b:List Lit) (a:List aq×Bool),(∀l∈b,l∈body)->(∀x∈a.1,x∈C)-> ∀x∈(b.foldl (gS stp) a).1,x∈C
 | [],a,_,h,x,hx=>h x hx
 |l::r,a,hb,h,x,hx=>by
  rw[XU]at hx;refine JA hC r _ (fun l hl=>hb l (W5 _ hl)) (fun y j=>?_) x hx;unfold gS at j;split at j
  .rename_i hs;rcases dE.1 j with j|rfl
   .exact h y j
   .have:=hE a.1 l;rw[am hs]at this;exact ET hmay hmore h this (hC l (hb l W8))
  .exact h y j
theorem JB{C:List aq}(hC: ∀l∈body,mX (may C) (more C) C l=is): ∀(n:Nat) (k:List aq),(∀x∈k,x∈C)-> ∀x∈gN stp body n k,x∈C
 |0,k,h,x,hx=>h x hx
 |n+1,k,h,x,hx=>by
  unfold gN at hx;have hr:=JA hE hmay hmore hC body (k,kw) (fun _ h=>h) h;split at hx
  .exact JB hC n _ hr x hx
  .exact hr x hx
theorem Bb{k occ:List aq}(hk: ∀x,x∈k↔x∈occ++body.flatMap bx)(x:aq):x∈gN stp body (3*body.length+1) k↔x∈b8 may more body occ:=by
 constructor
 .refine JB hE hmay hmore (C:=b8 may more body occ) (oM (uf occ)) _ _ (fun y j=>?_) x;exact oU _ _ y ((hk y).1 j)
 .refine oT hmay hmore (C:=gN stp body (3*body.length+1) k) (oL fun l hl=>?_) _ _ (fun y j=>JD _ _ y ((hk y).2 j)) x;have h1:=rS (bU body) k;have u:=ky body;rw[hE,JC (Mk hE) _ _ (by omega) l hl,be (by simp)]
end
theorem BT{x:aq}: ∀{l:List Lit} {a:List aq},x∈l.foldl Gm a↔x∈a∨x∈l.flatMap bx
 | [],a=>by simp
 |t::r,a=>by
  rw[XU,BT,XS,Xf];by_cases hk:t.kind=1
  .rw[show Gm a t=o7 a (sA t.atom) from am hk,show bx t=cW t.atom from am hk,tN,zQ,or_assoc]
  .rw[show Gm a t=a from be hk,show bx t=[] from be hk];simp
theorem tJ: ∀(l:List Lit) (a:List aq),yY a->yY (l.foldl Gm a)
 | [],a,h=>h
 |t::r,a,h=>by
  rw[XU];refine tJ r _ ?_;unfold Gm;split
  .exact oh h
  .exact h
theorem IU(k:List aq)(l:Lit):mX (cD k) (fun _=>kw) k l=if(lI l k).2=jp then io (lI l k).1 else is:=by
 unfold mX;rw[be (c:=l.kind=4∧_) (fun h=>Bool.noConfusion h.2.2)];have:(if(gL (cD k) k l).2=jp then io (gL (cD k) k l).1 else is)=if(lI l k).2=jp then io (lI l k).1 else is:=by
  unfold gL lI cD;split
  .rfl
  .by_cases j:l.left.kind=1<;>by_cases a2:l.right.kind=1<;>by_cases a3:l.left.kind=2<;>by_cases a4:l.right.kind=2<;>cases a5:dX k l.left.var<;>cases a6:dX k l.right.var<;>simp_all
 exact this
theorem xY(body:List Lit): ∀(n:Nat) (k:List aq),vB body n k=gN (fun k l=>lI l k) body n k
 |0,k=>rfl
 |n+1,k=>by
  rw[BA,xY body n];rfl
theorem told_plain(r:aw):fI (aL (p4 r))=lQ r:=by
 unfold lQ;rw[xY];refine HD (yw _ _ (tJ _ _ Y0)) fun x=>?_;exact(Bb (may:=fun j=>cD j) (more:=fun _=>fun _=>kw) IU BB (fun _ _ _ _ h=>h) (fun y=>by rw[BT];simp) x).symm
end
end Go.Proofs.YtlmhfgbkchnfbaaGreatDoor
namespace Go.Proofs
open Go.Shelf
def Tryz.B2:Go.Shelf.Ren:=⟨fun|190=>129|125=>108|258=>191|128=>146|129=>147|302=>229|303=>230|304=>231|305=>232|306=>233|307=>234|308=>235|309=>236|310=>237|333=>254|329=>196|330=>197|334=>255|335=>256|336=>257|344=>265|n=>n,fun|31=>199|9=>9|3=>3|46=>140|0=>0|51=>83|53=>104|4=>4|183=>251|182=>250|131=>255|5=>5|218=>296|222=>300|228=>343|229=>344|n=>n,fun|n=>n⟩
theorem Tryz.E0:Go.Proofs.Lays.n190 Tryz.prog Tryz.B2:={
 mixed:=by kernel_rfl
 f125:=Tryz.func108.trans (congrArg io (by kernel_rfl))
 f128:=Tryz.func146.trans (congrArg io (by kernel_rfl))
 f129:=Tryz.func147.trans (congrArg io (by kernel_rfl))
 f190:=Tryz.func129.trans (congrArg io (by kernel_rfl))
 f258:=Tryz.func191.trans (congrArg io (by kernel_rfl))
 f302:=Tryz.func229.trans (congrArg io (by kernel_rfl))
 f303:=Tryz.func230.trans (congrArg io (by kernel_rfl))
 f304:=Tryz.func231.trans (congrArg io (by kernel_rfl))
 f305:=Tryz.func232.trans (congrArg io (by kernel_rfl))
 f306:=Tryz.func233.trans (congrArg io (by kernel_rfl))
 f307:=Tryz.func234.trans (congrArg io (by kernel_rfl))
 f308:=Tryz.func235.trans (congrArg io (by kernel_rfl))
 f309:=Tryz.func236.trans (congrArg io (by kernel_rfl))
 f310:=Tryz.func237.trans (congrArg io (by kernel_rfl))
 f329:=Tryz.func196.trans (congrArg io (by kernel_rfl))
 f330:=Tryz.func197.trans (congrArg io (by kernel_rfl))
 f333:=Tryz.func254.trans (congrArg io (by kernel_rfl))
 f334:=Tryz.func255.trans (congrArg io (by kernel_rfl))
 f335:=Tryz.func256.trans (congrArg io (by kernel_rfl))
 f336:=Tryz.func257.trans (congrArg io (by kernel_rfl))
 f344:=Tryz.func265.trans (congrArg io (by kernel_rfl))
 t0:=Tryz.underlying0
 a0:=Tryz.isAgg0
 z0:=Tryz.sizeOf0
 v0:=Tryz.zeroValue0
 t3:=Tryz.underlying3
 a3:=Tryz.isAgg3
 z3:=Tryz.sizeOf3
 v3:=Tryz.zeroValue3
 t4:=Tryz.underlying4
 a4:=Tryz.isAgg4
 z4:=Tryz.sizeOf4
 v4:=Tryz.zeroValue4
 t5:=Tryz.underlying5
 a5:=Tryz.isAgg5
 z5:=Tryz.sizeOf5
 v5:=Tryz.zeroValue5
 t9:=Tryz.underlying9
 a9:=Tryz.isAgg9
 z9:=Tryz.sizeOf9
 v9:=Tryz.zeroValue9
 t31:=Tryz.underlying199
 a31:=Tryz.isAgg199
 z31:=Tryz.sizeOf199
 v31:=Tryz.zeroValue199
 t46:=Tryz.underlying140
 a46:=Tryz.isAgg140
 z46:=Tryz.sizeOf140
 v46:=Tryz.zeroValue140
 t51:=Tryz.underlying83
 a51:=Tryz.isAgg83
 z51:=Tryz.sizeOf83
 v51:=Tryz.zeroValue83
 t53:=Tryz.underlying104
 a53:=Tryz.isAgg104
 z53:=Tryz.sizeOf104
 v53:=Tryz.zeroValue104
 t131:=Tryz.underlying255
 a131:=Tryz.isAgg255
 z131:=Tryz.sizeOf255
 v131:=Tryz.zeroValue255
 t182:=Tryz.underlying250
 a182:=Tryz.isAgg250
 z182:=Tryz.sizeOf250
 v182:=Tryz.zeroValue250
 t183:=Tryz.underlying251
 a183:=Tryz.isAgg251
 z183:=Tryz.sizeOf251
 v183:=Tryz.zeroValue251
 t218:=Tryz.underlying296
 a218:=Tryz.isAgg296
 z218:=Tryz.sizeOf296
 v218:=Tryz.zeroValue296
 t222:=Tryz.underlying300
 a222:=Tryz.isAgg300
 z222:=Tryz.sizeOf300
 v222:=Tryz.zeroValue300
 t228:=Tryz.underlying343
 a228:=Tryz.isAgg343
 z228:=Tryz.sizeOf343
 v228:=Tryz.zeroValue343
 t229:=Tryz.underlying344
 a229:=Tryz.isAgg344
 z229:=Tryz.sizeOf344
 v229:=Tryz.zeroValue344}
theorem YtlmhfgbkchnfbaaGreatDoor.P0:YtlmhfgbkchnfbaaGreatDoor.fy:=
 ⟨fun x b0 a0 y w hH j u=>Any.slices_Sort_string Tryz.E0 x b0 a0 y w hH j u,fun p a0 w=>Any.slices_Sort_string_none Tryz.E0 p a0 w⟩
end Go.Proofs
namespace Go.Proofs.YtlmhfgbkchnfbaaGreatDoor
open Go Go.Al
theorem iJ{α:Type}[Inhabited α]{f:α->List IV}(h: ∀x,dy ((f x).map .iv)=jp)(l:List α):allOnes ((Xq l.length).map fun k=>(f (l.getD k co)).map PV.iv)=jp:=by rw[za];exact fa h l
def Prog.size(p:Prog):Nat:=p.aF.length+(p.aF.map fun d=>d.types.length).sum+p.rules.length+(p.rules.map aw.size).sum
theorem pe{α:Type}[Inhabited α](f:α->Nat): ∀(l:List α) (i:Nat),i<l.length->f (l.getD i co)<=(l.map f).sum
 |x::r,0,_=>by simp
 |x::r,i+1,h=>by
  have:=pe f r i (by simpa using h);simp only[Yj,WW,Ya];omega
theorem fQ{α:Type}(i sz n u:Nat)(l:List α)(f:α->List IV):(aX u l f).mg i sz n:=by
 intro k e j p A B;rw[WX,WZ]at A;obtain⟨x,_,rfl⟩:=A;rw[WX,WZ]at B;obtain⟨y,_,rfl⟩:=B;exact⟨y,rfl⟩
theorem Wl(r:aw)(hb:r.size<=10000000):Pure Tryz.prog 102 [ag r.c] (.iv (strs (lQ r))):=told_plain r▸c33 P0 r hb
end Go.Proofs.YtlmhfgbkchnfbaaGreatDoor
namespace Go.Proofs.YtlmhfgbkchnfbaaGreatDoor
open Go.Proofs.Tryz
open Go
section
set_option maxHeartbeats 2000000
theorem E7: ∃j,prog.info? 184=io j∧j.size=2:=by
 have h:(prog.info? 184).map (fun i=>i.size)=io 2:=by kernel_rfl
 rw[WZ]at h;exact h
theorem Nr:liesAt prog prog.depth 186 (4/prog.cellsOf 186) 0 184 1=jp:=by kernel_rfl
theorem Ob(b:Nat)(w:World)(h0:w.cell? ⟨b,0,is⟩=io (.pointer (io ⟨b,0,is⟩))):
  Calls prog 169 #[.pointer (io ⟨b,0,is⟩)] w fun e x=>e= .returned (.tuple #[])∧x=w:=by
 obtain⟨j,u,_⟩:=E7
 go_enter func169,ntmps169
 go_wp2
 rw[Lib.run_neq_ptr_same w _ underlying182 u]
 go_wp2
 go_end0
 exact⟨rfl,rfl⟩
theorem Km(b:Nat)(w:World)(h0:w.cell? ⟨b,0,is⟩=io (.pointer is))(u:w.shape? b=io (186,4))(A:w.frozen? ⟨b,0,is⟩=kw):
  Calls prog 169 #[.pointer (io ⟨b,0,is⟩)] w fun e B=>e= .returned (.tuple #[])∧B=w.setCell ⟨b,0,is⟩ (.pointer (io ⟨b,0,is⟩)):=by
 obtain⟨j,y,x⟩:=E7
 go_enter func169,ntmps169
 go_wp2
 rw[Lib.run_to_unsafe w ⟨b,0,is⟩ underlying182 underlying309 y (by rw[x];decide) u (by show 0<4;decide)];simp only[Result.andThen];rw[Oper.upon_value]
 go_wp2
 rw[run_callFunc_extern func209 (by kernel_rfl) (by kernel_rfl) (by kernel_rfl) (e:=Extern.AbiNoEscape.same) (by kernel_rfl)];rw[Lib.run_noEscape];simp only[Result.andThen];rw[Oper.upon_value]
 go_wp2
 rw[Lib.run_from_unsafe w ⟨b,0,is⟩ underlying309 underlying182 y u Nr];simp only[Result.andThen];rw[Oper.upon_value]
 go_wp2
 go_end0
 exact⟨rfl,rfl⟩
theorem SM:prog.cellsOf 5=1:=by kernel_rfl
theorem Of(b g cap:Nat)(p x y:Value)(u:Array Value)(l:List UInt8)(w:World)(D:w.heap[b]? =io (.cells #[p,.slice (io ⟨g,0,is⟩) l.length cap,x,y] 186 (0,0)))(hg:w.heap[g]? =io (.cells u 5 (0,0)))
  (hl:l.length<=u.size) (J:l.length<=cap) (G:cap<=maxLen) (B: ∀(j:Nat) (x:UInt8),l[j]? =io x->u.getD j undef= .int .u8 (x.toNat:Int)) (h0:l≠ []):
  Calls prog 125 #[.pointer (io ⟨b,0,is⟩)] w fun e w'=>e= .returned (.string ⟨l.toArray⟩)∧w'=w.drew.freeze ⟨g,0,is⟩ l.length:=by
 have c0:l.length≠0:=by simpa using h0
 have c1:w.drew.cell? ⟨b,1,is⟩=io (.slice (io ⟨g,0,is⟩) l.length cap):=by
  have:w.drew.heap[b]? =io (.cells #[p,.slice (io ⟨g,0,is⟩) l.length cap,x,y] 186 (0,0)):=D;rw[Lib.cell_of_heap this];rfl
 have a0:(Builtin.unsafeSliceData_ #[38] 275 #[.slice (io ⟨g,0,is⟩) l.length cap]).run prog w.drew= .ok (.pointer (io ⟨g,0,is⟩)) w.drew:=
  Lib.run_unsafeSliceData_row _ _ _ _ _ _ (by omega)
 have b0:(Builtin.unsafeString_ #[275,3] 9 #[.pointer (io ⟨g,0,is⟩),.int .i64 l.length]).run prog w.drew= .ok (.string ⟨l.toArray⟩) (w.drew.freeze ⟨g,0,is⟩ l.length):=by
  refine Lib.run_unsafeString_row w.drew 275 3 9 5 underlying275 SM g u.size (by have A:w.drew.heap[g]? =io (.cells u 5 (0,0)):=hg;simp[World.shape?,A]) l h0 (by omega) (by unfold maxLen at G;omega) ?_;intro j x Y;have C:j<u.size:=by have:=(WT.1 Y).1;omega
  have:=B j x Y;rw[WM,Xx C]at this;show w.drew.cell? _=_;have A:w.drew.heap[g]? =io (.cells u 5 (0,0)):=hg;rw[Al.c7,Xd];simp only[World.cell?,A];simpa[C]using this
 have I:prog.follows .mixedOrders=jp:=rfl
 go_enter func125,ntmps125
 go_wp2
 go_region_o
 all_goals(go_wp2;go_ret;exact⟨rfl,rfl⟩)
theorem SN(b:Nat)(p x y:Value)(w:World)(j:w.heap[b]? =io (.cells #[p,.slice is 0 0,x,y] 186 (0,0))):
  Calls prog 125 #[.pointer (io ⟨b,0,is⟩)] w fun e C=>e= .returned (.string ⟨#[]⟩)∧C=w.drew:=by
 have B:(W:World)->(Builtin.unsafeString_ #[275,3] 9 #[.pointer is,.int .i64 0]).run prog W= .ok (.string .empty) W:=fun W=>Lib.run_unsafeString_none W _ _ _ is
 have c1:w.drew.cell? ⟨b,1,is⟩=io (.slice is 0 0):=by
  have:w.drew.heap[b]? =io (.cells #[p,.slice is 0 0,x,y] 186 (0,0)):=j;rw[Lib.cell_of_heap this];rfl
 have A:(Builtin.unsafeSliceData_ #[38] 275 #[.slice is 0 0]).run prog w.drew= .ok (.pointer is) w.drew:=rfl;have u:prog.follows .mixedOrders=jp:=rfl
 go_enter func125,ntmps125
 go_wp2
 go_region_o
 all_goals(go_wp2;go_ret;exact⟨rfl,rfl⟩)
end
end Go.Proofs.YtlmhfgbkchnfbaaGreatDoor
namespace Go.Proofs.YtlmhfgbkchnfbaaGreatDoor
open Go Go.Al Go.Proofs.Tryz
def M9(c:Nat):Bool:=(lc (97<=c)&&lc (c<=122))||((lc (65<=c)&&lc (c<=90))||((lc (48<=c)&&lc (c<=57))||decide (c=95)))
def okB(b:UInt8):Bool:=M9 b.toNat
def hd(s:aq):Int:=((s.data.toList.getD 0 0).toNat:Int)
def rm(s:aq)(j hi:Int):Bool:=!lc (s=⟨#[]⟩)&&(lc (s.size<=32)&&(lc (j<=hd s)&&(lc (hd s<=hi)&&s.data.toList.all okB)))
theorem IN{c:Nat}(h:M9 c=jp):c<128:=by
 simp only[M9,YY,XE,decide_eq_true_eq]at h;omega
theorem Mq{s:aq}(h: ¬s=⟨#[]⟩):0<s.size:=by
 refine Nat.pos_of_ne_zero fun j=>h ?_;have:s.data= #[]:=Yb j;cases s;simp_all
theorem Wt(c:Nat):Pure prog 208 [.iv (.v (.int .i32 (c:Int)))] (pB (!M9 c)):=by
 refine ah ab func208 Z (by decide) ntmps208 Z (by simp) Z ?_
 repeat' (first|(refine gA Z (zI (fun _=>?_) (fun _=>?_)))|(refine gA Z (zL (.of_eq ?_))))
 all_goals(refine(oy ?_:pB _=pB _))
 all_goals(simp only[Zd,ZM,decide_eq_true_eq,decide_eq_false_iff_not] at*;rw[Yk];simp[M9];omega)
theorem J4{s:aq}{i:Nat}(h:i<s.size)(hb:okB (s.data.toList.getD i 0)=jp):Utf8.decode s i=((s.data.toList.getD i 0).toNat,1):=by
 have j:(s[i]'h)=s.data.toList.getD i 0:=by
  have:i<s.data.toList.length:=by simpa using h
  rw[WQ,WU this];simp;rfl
 have:=decode_ascii s i h (by rw[j];exact IN hb);rw[this,j]
theorem SI{s:aq}{i:Nat}(h:i<s.size)(hb:okB (s.data.toList.getD i 0)=kw):M9 (Utf8.decode s i).1=kw:=by
 by_cases h1:(s.data.toList.getD i 0).toNat<128
 .have j:(s[i]'h)=s.data.toList.getD i 0:=by
   have:i<s.data.toList.length:=by simpa using h
   rw[WQ,WU this];simp;rfl
  have:=decode_ascii s i h (by rw[j];exact h1);rw[this,j];exact hb
 .have j:(s.get! (i+0)).toNat=(s.data.toList.getD i 0).toNat:=by
   have:i<s.data.toList.length:=by simpa using h
   rw[WQ,WU this];simp[ByteArray.get!,getElem!_pos,h]
  have:128<=(Utf8.decode s i).1:=by
   simp only[Utf8.decode,j,be h1]
   repeat' split
   all_goals(dsimp only[Utf8.runeError];(try simp only[XE,decide_eq_true_eq] at*);omega)
  cases hk:M9 (Utf8.decode s i).1 with
  |false=>rfl
  |true=>have:=IN hk;omega
def FE(s:aq):Int:=qV (fun b=>!okB b) s.data.toList
theorem d217(s:aq):bf prog 259 [pS s,.cv (.func 208) [] [],pB jp] [] (pI (FE s)) [] 0:=by
 have A:s.data.toList.length=s.size:=by simp
 refine ak ab func259 Z (by decide) ntmps259 Z (by simp) ?_;refine gA Z ?_;refine yu ab Z Z Z Z Z Z Z ?_;refine gA Z ?_;refine aM 0 s.size (W2 _) (fun i=>⟨[(0,pS s),(1,.cv (.func 208) [] []),(2,pB jp),(10,.ptr 0 0)],[(0,io (.ey s i))],1⟩) (fun i=>(s.data.toList.take i).any (fun b=>!okB b)=kw) [] (by simp)
  (zW ⟨⟨_,rfl,.of_eq Z⟩,WL Z,ac,ac⟩) fun i hi x=>?_
 refine gA Z ?_;refine mz Z Z Z Z Z Z (fun h1=>?_) (fun h1=>?_)
 .have j:s.data.toList.length<=i:=by omega
  rw[FE,gy (any_none x j)];refine gA Z (zD [] Z (zW ac))
 .have u:i<s.data.toList.length:=by omega
  have y:s.data.toList.getD i co=s.data.toList.getD i 0:=rfl;refine gA Z (zp (Wt (Utf8.decode s i).1) ?_);refine zJ Z Z (fun j=>?_) fun j=>?_
  .have j:M9 (Utf8.decode s i).1=kw:=by simpa using j
   have hb:okB (s.data.toList.getD i 0)=kw:=by
    cases hk:okB (s.data.toList.getD i 0) with
    |false=>rfl
    |true=>
     rw[J4 h1 hk]at j;exact absurd (hk.symm.trans j) (by simp)
   rw[FE,iV x u (by rw[y,hb];rfl)];refine gA Z (zD [] Z (zW ac))
  .have j:M9 (Utf8.decode s i).1=jp:=by simpa using j
   have hb:okB (s.data.toList.getD i 0)=jp:=by
    cases hk:okB (s.data.toList.getD i 0) with
    |true=>rfl
    |false=>exact absurd ((SI h1 hk).symm.trans j) (by simp)
   have hd:=J4 h1 hb;refine gA Z ⟨h1,(c5 x u).2 (by rw[y,hb];rfl),[],zW ⟨⟨_,rfl,.of_eq (by rw[hd];rfl)⟩,WL Z,ac,ac⟩⟩
theorem Oy(l:List UInt8):(l.any fun b=>!okB b)=!l.all okB:=by
 induction l with
 |nil=>rfl
 |cons x r ih=>simp only[aad,List.all_cons,ih];cases okB x<;>rfl
theorem d203(s:aq):bf prog 242 [pS s,.cv (.func 208) [] []] [] (pI (FE s)) [] 0:=by
 refine ak ab func242 Z (by decide) ntmps242 Z (by simp) ?_;refine gA Z (zq [] (d217 s) ?_);refine gA Z (zD [] Z (zW ac))
theorem d180(s:aq):bf prog 207 [pS s,.cv (.func 208) [] []] [] (pB (!s.data.toList.all okB)) [] 0:=by
 refine ak ab func207 Z (by decide) ntmps207 Z (by simp) ?_;refine gA Z (zq [] (d203 s) ?_);refine gA Z (zD [] Z (zM ⟨.of_eq (oy ((iW _ _).trans (Oy _))),rfl,ac⟩ ac))
theorem Vm(s:aq)(y hi:Int):Pure prog 168 [pS s,.iv (.v (.int .u8 y)),.iv (.v (.int .u8 hi))] (pB (rm s y hi)):=by
 refine ah ab func168 Z (by decide) ntmps168 Z (by simp) Z ?_;refine zE Z Z (fun h1=>?_) fun h1=>?_
 .have h1:s=⟨#[]⟩:=zT h1;refine gA Z (zL (.of_eq ?_));refine(oy ?_:pB _=pB _);subst h1;rfl
 have h1: ¬s=⟨#[]⟩:=zF h1;have A:=Mq h1;refine zE Z Z (fun j=>?_) fun j=>?_
 .have j:32<s.size:=zN j;refine gA Z (zL (.of_eq ?_));refine(oy ?_:pB _=pB _);have: ¬s.size<=32:=by omega
  simp[rm,this]
 have j:s.size<=32:=by have:=zF j;omega
 refine zE Z Z (fun u=>?_) fun u=>?_
 .have u:hd s<y:=zT u;refine gA Z (zL (.of_eq ?_));refine(oy ?_:pB _=pB _);have: ¬y<=hd s:=by omega
  simp[rm,this]
 have u:y<=hd s:=by have: ¬hd s<y:=zF u;omega
 refine zJ Z Z (fun x=>?_) fun x=>?_
 .have x:hi<hd s:=zT x;refine gA Z (zL (.of_eq ?_));refine(oy ?_:pB _=pB _);have: ¬hd s<=hi:=by omega
  simp[rm,this]
 have x:hd s<=hi:=by have: ¬hd s>hi:=zF x;omega
 refine gA Z (zq [] (d180 s) ?_);refine gA Z (zL (.of_eq ?_));refine(oy ?_:pB _=pB _);simp[rm,h1,j,u,x]
def UH:List aq:=[⟨#[114,101,108,97,116,105,111,110]⟩,⟨#[110,111,116]⟩,⟨#[110,117,109]⟩,⟨#[115,121,109]⟩,⟨#[109,111,100]⟩,⟨#[99,111,117,110,116]⟩,⟨#[115,117,109]⟩,⟨#[109,105,110]⟩,⟨#[109,97,120]⟩]
def UI(s:aq):Bool:=UH.any fun x=>lc (s=x)
def fY(s:aq):Bool:=!UI s&&rm s 97 122
def gn(s:aq):Bool:=rm s 65 90
theorem D3(s:aq):Pure prog 170 [pS s] (pB (gn s)):=by
 refine ah ab func170 Z (by decide) ntmps170 Z (by simp) Z ?_;refine gA Z (zp (Vm s 65 90) ?_);exact zU Z
theorem Vk(s:aq):Pure prog 121 [pS s] (pB (fY s)):=by
 refine ah ab func121 Z (by decide) ntmps121 Z (by simp) Z ?_
 repeat' (first|(refine gA Z (zI (fun _=>?_) (fun _=>?_)))|(refine gA Z (zp (Vm s 97 122) ?_))|(refine gA Z (zL (.of_eq ?_))))
 all_goals(refine(oy ?_:pB _=pB _))
 all_goals(simp only[fY,UI,UH,aad,List.any_nil, *];rfl)
theorem Wx(v:cS):Pure prog 152 [ag v.c] (pB (!lc (bV v=0))):=by
 refine ah ab func152 Z (by decide) ntmps152 Z (by simp) Z ?_;refine gA Z (zp (Vl v) ?_);exact zU Z
theorem i182(l:List cS):bf prog 202 [.iv (aW 3 l cS.c),.cv (.func 152) [] []] [] (pI (qV (fun x:cS=>!lc (bV x=0)) l)) [] 0:=by
 refine qZ (bc func202 Z (by decide)) ⟨_,_,W8⟩ fun u=>?_;simp only[maxLen]at u;refine ak ab func202 Z (by decide) ntmps202 Z (by simp) ?_;refine gA Z ?_
 refine aM 0 l.length (W2 _) (fun i=>⟨[(0,.iv (aW 3 l cS.c)),(1,.cv (.func 152) [] []),(7,pI l.length),(8,pI i)],[],0⟩) (fun i=>(l.take i).any (fun x:cS=>!lc (bV x=0))=kw) [] (by simp)
  (zW trivial) fun i hi y=>?_
 refine zJ Z Z (fun h1=>?_) fun h1=>?_
 .have h1:i<l.length:=by simpa using h1
  refine gA Z (zp (Wx (l.getD i co)) ?_);refine zJ Z Z (fun j=>?_) fun j=>?_
  .have j:(fun x:cS=>!lc (bV x=0)) (l.getD i co)=jp:=j;rw[iV y h1 j];refine gA Z (zD [] Z (zW ac))
  .have j:(fun x:cS=>!lc (bV x=0)) (l.getD i co)=kw:=j;refine gA Z ⟨h1,(c5 y h1).2 j,[],zW ac⟩
 .have h1:l.length<=i:=by simpa using h1
  rw[gy (any_none y h1)];refine gA Z (zD [] Z (zW ac))
theorem d141(l:List cS):bf prog 151 [.iv (aW 3 l cS.c),.cv (.func 152) [] []] [] (pB (l.any (fun x:cS=>!lc (bV x=0)))) [] 0:=by
 refine ak ab func151 Z (by decide) ntmps151 Z (by simp) ?_;refine gA Z (zq [] (i182 l) ?_);refine gA Z (zD [] Z (zM ⟨.of_eq (oy (iW _ l)),rfl,ac⟩ ac))
def jZ(f:Fact):Bool:=fY f.rel&&(lc (f.args.length<=8)&&f.args.all fun v=>lc (bV v=0))
theorem Kx(l:List cS):(l.any fun x:cS=>!lc (bV x=0))=!l.all fun v=>lc (bV v=0):=by
 induction l with
 |nil=>rfl
 |cons x r ih=>simp only[aad,List.all_cons,ih];cases lc (bV x=0)<;>rfl
theorem c98(l:List cS):Pure prog 112 [.iv (aW 3 l cS.c)] (pB (l.all fun v=>lc (bV v=0))):=by
 refine ah ab func112 Z (by decide) ntmps112 Z (by simp) Z ?_;refine gA Z (zq [] (d141 l) ?_);refine gA Z (zL (.of_eq ?_));refine(oy ?_:pB _=pB _);rw[Kx,Bool.not_not]
theorem c55(f:Fact):Pure prog 115 [ag f.c] (pI (if jZ f then 0 else 20)):=by
 refine ah ab func115 Z (by decide) ntmps115 Z (by simp) Z ?_
 repeat' (first|(refine gA Z (zI (fun _=>?_) (fun _=>?_)))|(refine gA Z (zp (Vk f.rel) ?_))|(refine gA Z (zp (c98 f.args) ?_))|(refine gA Z (zL (.of_eq ?_))))
 all_goals(refine(Hl ?_:pI _=pI _))
 all_goals(simp only[jZ];simp_all)
 all_goals omega
section
theorem Rel.Dt{M:Mem}{N:Nm}{U:Nat->Prop}{h u:AH}{w:World}(hr:Rel M N U h w)(e: ∀i,AH.get u i=h.get i):Rel M N U u w:=
 ⟨hr.dF,fun i o hi=>hr.used i o (by rw[<-e];exact hi),fun i o hi=>hr.dM i o (by rw[<-e];exact hi),fun i o hi=>hr.obj i o (by rw[<-e];exact hi),fun i j o p hi x=>hr.inj i j o p (by rw[<-e];exact hi) (by rw[<-e];exact x)⟩
theorem Ext.Dt{M u:Mem}{N x:Nm}{U y:Nat->Prop}{h0 h A:AH}{w B:World}(j:Ext M N U h0 w u x y h B)(e: ∀i,AH.get A i=h.get i):Ext M N U h0 w u x y A B:=
 ⟨j.os,j.tape,j.output,j.size,j.gK,j.oC,j.iK,j.nm,j.ule,fun i o hi=>j.gx i o (by rw[<-e];exact hi)⟩
structure WS where
 fr:Bool
 l:List UInt8
 bad:Bool
 br:Int
abbrev WS.rf(w:WS)(i j:Nat):AO:= .cells [.eS w.fr i,.sl j 0 w.l.length 1,pB w.bad,pI w.br] (io 186)
abbrev WS.c(w:WS):AO:=w.rf 0 1
abbrev WS.O(w:WS):List AO:=[w.c,.bw w.l 5]
abbrev WS.H(w:WS):AH:=[(0,io (w.rf 0 2)),(2,io (.bw w.l 5))]
theorem d204(w:WS):bf prog 169 [.ptr 0 0] w.O (.aY []) [(0,io ({w with fr:=kw}:WS).c),(1,io (.bw w.l 5))] 2:=by
 refine⟨bc func169 Z (by decide),fun M N wd vs hr A hv=>?_⟩;obtain⟨v,rfl⟩: ∃v,vs=[v]:=by
  cases vs with
  |nil=>cases A
  |cons v r=>cases r with
   |nil=>exact⟨v,rfl⟩
   |cons a b=>simp at A
 have J:VR M N (· <2) (.ptr 0 0) v:=hv 0 _ Z;have Y:v= .pointer (io ⟨N.aA 0,0,is⟩):=by cases J;rfl
 subst Y;have G:AH.get (cK 0 w.O) 0=io w.c:=rfl;obtain⟨c,T,h1,h2,h3,h4,h5⟩:=hr.obj 0 _ G;have hT:=h5 186 Z;subst hT;have B:c.size=4:=h3.symm;have a0:N.aA 0<wd.heap.size:=(X4.1 h1).1;have I:c.getD 0 undef= .pointer (bif w.fr then is else io ⟨N.aA 0,0,is⟩):=by
  have:=h4 0 _ Z;generalize c.getD 0 undef=x at this;cases this;rfl
 have u:wd.cell? ⟨N.aA 0,0,is⟩=io (c.getD 0 undef):=by
  rw[Lib.cell_of_heap h1,WM,Xx (by omega)];rfl
 rw[I]at u;show Calls prog 169 #[_] wd _;cases hfr:w.fr with
 |false=>
  rw[hfr]at u;refine(Ob (N.aA 0) wd u).mono ?_;rintro e w' ⟨rfl,rfl⟩;have hw:({w with fr:=kw}:WS)=w:=by cases w;simp_all
  rw[hw];exact⟨_,M,N,.aY [],_,2,rfl,⟨rfl,rfl,rfl⟩,.refl _ _ _ _ _,hr,.aY [] #[] Z (by simp)⟩
 |true=>
  rw[hfr]at u;refine(Km (N.aA 0) wd u (by simp[World.shape?,h1,B]) (Lib.frozen_of_heap h1 0)).mono ?_;rintro e w' ⟨rfl,rfl⟩;have C:(wd.setCell ⟨N.aA 0,0,is⟩ (.pointer (io ⟨N.aA 0,0,is⟩))).heap[N.aA 0]? =io (.cells (c.setIfInBounds 0 (.pointer (io ⟨N.aA 0,0,is⟩))) 186 (0,0)):=by
   simp[World.setCell,Xp,h1]
  obtain⟨g1,g2⟩:=hr.write (i:=0) (o0:=w.c) G Z (wd.setCell ⟨N.aA 0,0,is⟩ (.pointer (io ⟨N.aA 0,0,is⟩))) ({w with fr:=kw}:WS).c Z Z Z (by simp[World.setCell]) (fun b hb=>by
   simp only[World.setCell,Xp]
   rw[be (fun e=>hb e.symm)]) ⟨_,186,C,by simpa using h2,by simp[B],fun j p D=>by
    match j,D with
    |0,D=>
     cases D;rw[WM,Xr];simp only[if_true,B];exact .eS kw 0 (by show 0<2;decide)
    |j+1,D=>
     have:=h4 (j+1) p (by exact D);rw[WM,Xr,be (by omega)];rw[WM]at this
     exact this,h5⟩
  have y: ∀i,AH.get [(0,io ({w with fr:=kw}:WS).c),(1,io (.bw w.l 5))] i=AH.get ((0,io ({w with fr:=kw}:WS).c)::cK 0 w.O) i:=by
   intro i
   match i with
   |0=>rfl
   |1=>rfl
   |i+2=>rfl
  exact⟨_,M,N,.aY [],_,2,rfl,⟨rfl,rfl,rfl⟩,Ext.Dt g1 y,Rel.Dt g2 y,.aY [] #[] Z (by simp)⟩
theorem d150(w:WS):bf prog 125 [.ptr 0 0] w.O (pS ⟨w.l.toArray⟩) [] 2:=by
 refine⟨bc func125 Z (by decide),fun M N wd vs hr C hv=>?_⟩;obtain⟨v,rfl⟩: ∃v,vs=[v]:=by
  cases vs with
  |nil=>cases C
  |cons v r=>cases r with
   |nil=>exact⟨v,rfl⟩
   |cons a b=>simp at C
 have j0:VR M N (· <2) (.ptr 0 0) v:=hv 0 _ Z;have k0:v= .pointer (io ⟨N.aA 0,0,is⟩):=by cases j0;rfl
 subst k0;have i0:AH.get (cK 0 w.O) 0=io w.c:=rfl;have D:AH.get (cK 0 w.O) 1=io (.bw w.l 5):=rfl;obtain⟨c,T,h1,h2,h3,h4,h5⟩:=hr.obj 0 _ i0;have hT:=h5 186 Z;subst hT;have e0:c.size=4:=h3.symm;have b0: ∀(x1:Value),c.getD 1 undef=x1-> ∃p x y,c= #[p,x1,x,y]:=by
  intro x1 A;refine⟨c.getD 0 undef,c.getD 2 undef,c.getD 3 undef,?_⟩;apply Array.ext
  .simpa using e0
  .intro i hi m0
   match i,hi with
   |0,hi=>simp[WM,hi]
   |1,hi=>rw[<-A];simp[WM,hi]
   |2,hi=>simp[WM,hi]
   |3,hi=>simp[WM,hi]
   |i+4,hi=>omega
 have u:=h4 1 _ Z;have G:=hr.obj 1 _ D;show Calls prog 125 #[_] wd _;by_cases hl:w.l=[]
 .have A:c.getD 1 undef= .slice is 0 0:=by
   generalize c.getD 1 undef=x at u;rw[hl]at u;generalize I:PV.sl 1 0 ([]:List UInt8).length 1=q at u;cases u with
   |sl i off len sz a0 h h0 h1 hc he=>cases I;simp at h0
   |lq i sz h=>rfl
   |_=>cases I
  obtain⟨p,x,y,rfl⟩:=b0 _ A;refine(SN (N.aA 0) p x y wd h1).mono ?_;rintro e w' ⟨rfl,rfl⟩;refine⟨.string ⟨#[]⟩,M,N,pS ⟨w.l.toArray⟩,[],2,rfl,⟨rfl,rfl,rfl⟩,?_,?_,.iv _ _ (by rw[hl];exact .v _)⟩
  .have:=Ext.drew (M:=M) (N:=N) (U:=(· <w.O.length)) (h:=cK 0 w.O) (w:=wd);exact⟨this.os,this.tape,this.output,this.size,this.gK,this.oC,this.iK,this.nm,this.ule,fun i o hi=>(nomatch hi)⟩
  .exact⟨hr.drew.dF,fun i o hi=>(nomatch hi),fun i o hi=>(nomatch hi),fun i o hi=>(nomatch hi),fun i j o p hi=>(nomatch hi)⟩
 .have Y:0<w.l.length:=X5.2 hl;obtain⟨a0,A,J,f0⟩: ∃a0,c.getD 1 undef= .slice (io ⟨N.aA 1,0,is⟩) w.l.length a0∧w.l.length<=a0∧a0<=maxLen:=by
   generalize c.getD 1 undef=x at u;generalize hn:w.l.length=n at u Y;generalize I:PV.sl 1 0 n 1=q at u;cases u with
   |sl i off len sz a0 h h0 hl hc he=>cases I;exact⟨a0,by simp,hl,hc⟩
   |lq i sz h=>cases I;omega
   |_=>cases I
  rcases G with G|⟨d0,q1,q2,q3,q4⟩
  .exact absurd G hl
  obtain⟨p,x,y,rfl⟩:=b0 _ A;refine(Of (N.aA 0) (N.aA 1) a0 p x y d0 w.l wd h1 q1 q3 J f0 q4 hl).mono ?_;rintro e w' ⟨rfl,rfl⟩;have c0:(AO.bw w.l 5).real=jp:=by cases hll:w.l with
   |nil=>exact absurd hll hl
   |cons=>rfl
  have hk: ∀b,b≠N.aA 1->(wd.drew.freeze ⟨N.aA 1,0,is⟩ w.l.length).heap[b]? =wd.heap[b]? :=by
   intro b hb;unfold World.freeze;split
   .rfl
   .show(wd.heap.modify _ _)[b]? =_;simp only[Xp];rw[be (fun e=>hb e.symm)]
  have B:(wd.drew.freeze ⟨N.aA 1,0,is⟩ w.l.length).os=wd.os∧(wd.drew.freeze ⟨N.aA 1,0,is⟩ w.l.length).tape=wd.tape∧(wd.drew.freeze ⟨N.aA 1,0,is⟩ w.l.length).output=wd.output∧(wd.drew.freeze ⟨N.aA 1,0,is⟩ w.l.length).heap.size=wd.heap.size:=by
   unfold World.freeze;split
   .exact⟨rfl,rfl,rfl,rfl⟩
   .exact⟨rfl,rfl,rfl,by show(wd.heap.modify _ _).size=_;simp⟩
  refine⟨_,M,N,pS ⟨w.l.toArray⟩,[],2,rfl,⟨rfl,rfl,rfl⟩,?_,?_,.iv _ _ (.v _)⟩
  .exact⟨B.1,B.2.1,⟨B.2.2.1,by unfold World.freeze;split<;>exact Yh _⟩,by rw[B.2.2.2];exact WY _,fun b hb hn=>hk b fun e=>hn 1 _ D c0 e.symm,.refl _,fun b c h1 h2=>by simp[h1]at h2,.refl _ _,fun _ h=>h,fun i o hi=>(nomatch hi)⟩
  .refine⟨fun b d hb=>?_,fun i o hi=>(nomatch hi),fun i o hi=>(nomatch hi),fun i o hi=>(nomatch hi),fun i j o p hi=>(nomatch hi)⟩;have g0:b≠N.aA 1:=fun e=>by
    have:=hr.dM 1 _ D c0;rw[<-e,hb]at this;cases this
   exact(hr.dF b d hb).mono (hk b g0)
section
variable {nt:NT} {Q:AQ} {k:List KI} {s:AS}
def wS(s:AS)(u:WS)(i j:Nat):AS:=match s with|⟨f,h,n⟩=>⟨f,(i,io (u.rf i n))::(n,io (.bw u.l 5))::(i,is)::(j,is)::h,n+1⟩
theorem Tg(s:AS)(u:WS)(i j:Nat):wS s u i j=⟨s.f,(i,io (u.rf i s.nx))::(s.nx,io (.bw u.l 5))::(i,is)::(j,is)::s.h,s.nx+1⟩:=by cases s;rfl
def Tf(s:AS)(u:WS)(i j m:Nat):AS:=match s with|⟨f,h,n⟩=>⟨f,(i,io (u.rf i n))::(n,io (.bw u.l 5))::(i,is)::(j,is)::(m,is)::h,n+1⟩
theorem Qv(s:AS)(u:WS)(i j m:Nat):Tf s u i j m=⟨s.f,(i,io (u.rf i s.nx))::(s.nx,io (.bw u.l 5))::(i,is)::(j,is)::(m,is)::s.h,s.nx+1⟩:=by cases s;rfl
theorem AI{o:Oper}{c:Call}{g:FuncId}{args y:List PV}{w D:WS}{r:PV}{i j:Nat}{s':AS}(hc:bf prog g (.ptr 0 0::args) w.O r D.H 3)(ho:o.op= .call c)(ha:bN s.f c=io (g,.ptr i 0::y))
  (hi:s.h.get i=io (w.rf i j)) (hj:s.h.get j=io (.bw w.l 5)) (hlt:Xm i s.nx=jp) (hlj:Xm j s.nx=jp) (hne:Xj i j=kw) (has:y=args) (hlow:bq 0 args=jp) (hr:r.low 0=jp)
  (hp:putDst nt o r (wS s D i j)=io s'):OT prog nt o s (fun t=>t=s'):=by
 have A:i≠j:=fun e=>by subst e;simp at hne
 have B:([i,j]:List Nat).Nodup:=by simp[A]
 have G: ∀x∈ [i,j],x<s.nx:=by
  intro x C;simp only[Xa,ZF,or_false]at C;rcases C with rfl|rfl
  .exact WL hlt
  .exact WL hlj
 subst has;have u: ∀σ,dc σ y=y:=fun σ=>iP σ y hlow;refine lJ ho ha hc B G ?_ ?_ ?_
 .simp only[WW,W7,hi,hj];rfl
 .simp only[dc,u];rfl
 .rintro q I n0 ⟨rfl,rfl,rfl⟩;rw[PV.ke _ _ hr];rw[Tg]at hp;exact⟨s',hp,rfl⟩
theorem DO{all rest:List Oper}{o:Oper}{c:Call}{g:FuncId}{args u:List PV}{w x:WS}{r:PV}{i j:Nat}{s':AS}(hc:bf prog g (.ptr 0 0::args) w.O r x.H 3)(ho:o.op= .call c)(hg:o.guard=is)(ha:bN s.f c=io (g,.ptr i 0::u))
  (hi:s.h.get i=io (w.rf i j)) (hj:s.h.get j=io (.bw w.l 5)) (hlt:Xm i s.nx=jp) (hlj:Xm j s.nx=jp) (hne:Xj i j=kw) (has:u=args) (hlow:bq 0 args=jp) (hr:r.low 0=jp)
  (hp:putDst nt o r (wS s x i j)=io s') (h:GO prog nt (.ops all rest::k) Q s'):GO prog nt (.ops all (o::rest)::k) Q s:=
 bB hg (AI hc ho ha hi hj hlt hlj hne has hlow hr hp) fun t ht=>by subst ht;exact h
theorem iX{all rest:List Oper}{o:Oper}{c:Call}{g:FuncId}{args u:List PV}{w x:WS}{r:PV}{i j:Nat}{s':AS}(hc:bf prog g (.ptr 0 0::args) w.O r x.H 3)(h:GO prog nt (.ops all rest::k) Q s')(ho:o.op= .call c:=by exact rfl)(hg:o.guard=is:=by exact rfl)(ha:bN s.f c=io (g,.ptr i 0::u):=by exact rfl)(hi:s.h.get i=io (w.rf i j):=by exact rfl)(hj:s.h.get j=io (.bw w.l 5):=by exact rfl)(hlt:Xm i s.nx=jp:=by exact rfl)(hlj:Xm j s.nx=jp:=by exact rfl)(hne:Xj i j=kw:=by exact rfl)(has:u=args:=by exact rfl)(hlow:bq 0 args=jp:=by exact rfl)(hr:r.low 0=jp:=by exact rfl)(hp:putDst nt o r (wS s x i j)=io s':=by exact rfl):GO prog nt (.ops all (o::rest)::k) Q s:=DO (hc:=hc) (ho:=ho) (hg:=hg) (ha:=ha) (hi:=hi) (hj:=hj) (hlt:=hlt) (hlj:=hlj) (hne:=hne) (has:=has) (hlow:=hlow) (hr:=hr) (hp:=hp) (h:=h)
theorem Eb{o:Oper}{c:Call}{g:FuncId}{u:List aq}{w y:WS}{i j m n:Nat}{s':AS}(hc:bf prog g [.ptr 0 0,.sl 2 0 u.length 1] [w.c,.bw w.l 5,aX 1 u de] (.aY []) [(0,io (y.rf 0 3)),(3,io (.bw y.l 5))] 4)(ho:o.op= .call c)(ha:bN s.f c=io (g,[.ptr i 0,.sl m 0 n 1]))
  (hi:s.h.get i=io (w.rf i j)) (hj:s.h.get j=io (.bw w.l 5)) (hm:s.h.get m=io (aX 1 u de)) (hn:n=u.length) (hlt:Xm i s.nx=jp) (hlj:Xm j s.nx=jp) (hlm:Xm m s.nx=jp) (hnd:cE [i,j,m]=jp)
  (hp:putDst nt o (.aY []) (Tf s y i j m)=io s'):OT prog nt o s (fun t=>t=s'):=by
 have B: ∀x∈ [i,j,m],x<s.nx:=by
  intro x A;simp only[Xa,ZF,or_false]at A;rcases A with rfl|rfl|rfl
  .exact WL hlt
  .exact WL hlj
  .exact WL hlm
 subst hn;refine lJ ho ha hc (eM hnd) B ?_ Z ?_
 .simp only[WW,W7,hi,hj,hm,b5];rfl
 .rintro q C n0 ⟨rfl,rfl,rfl⟩;rw[Qv]at hp;exact⟨s',hp,rfl⟩
theorem go_wp{all rest:List Oper}{o:Oper}{c:Call}{g:FuncId}{u:List aq}{w x:WS}{i j m n:Nat}{s':AS}(hc:bf prog g [.ptr 0 0,.sl 2 0 u.length 1] [w.c,.bw w.l 5,aX 1 u de] (.aY []) [(0,io (x.rf 0 3)),(3,io (.bw x.l 5))] 4)(ho:o.op= .call c)(hg:o.guard=is)(ha:bN s.f c=io (g,[.ptr i 0,.sl m 0 n 1]))
  (hi:s.h.get i=io (w.rf i j)) (hj:s.h.get j=io (.bw w.l 5)) (hm:s.h.get m=io (aX 1 u de)) (hn:n=u.length) (hlt:Xm i s.nx=jp) (hlj:Xm j s.nx=jp) (hlm:Xm m s.nx=jp) (hnd:cE [i,j,m]=jp)
  (hp:putDst nt o (.aY []) (Tf s x i j m)=io s')
  (h:GO prog nt (.ops all rest::k) Q s'):GO prog nt (.ops all (o::rest)::k) Q s:=
 bB hg (Eb hc ho ha hi hj hm hn hlt hlj hlm hnd hp) fun t ht=>by subst ht;exact h
theorem jI{all rest:List Oper}{o:Oper}{c:Call}{g:FuncId}{u:List aq}{w x:WS}{i j m n:Nat}{s':AS}(hc:bf prog g [.ptr 0 0,.sl 2 0 u.length 1] [w.c,.bw w.l 5,aX 1 u de] (.aY []) [(0,io (x.rf 0 3)),(3,io (.bw x.l 5))] 4)(h:GO prog nt (.ops all rest::k) Q s')(ho:o.op= .call c:=by exact rfl)(hg:o.guard=is:=by exact rfl)(ha:bN s.f c=io (g,[.ptr i 0,.sl m 0 n 1]):=by exact rfl)(hi:s.h.get i=io (w.rf i j):=by exact rfl)(hj:s.h.get j=io (.bw w.l 5):=by exact rfl)(hm:s.h.get m=io (aX 1 u de):=by exact rfl)(hn:n=u.length:=by exact rfl)(hlt:Xm i s.nx=jp:=by exact rfl)(hlj:Xm j s.nx=jp:=by exact rfl)(hlm:Xm m s.nx=jp:=by exact rfl)(hnd:cE [i,j,m]=jp:=by exact rfl)(hp:putDst nt o (.aY []) (Tf s x i j m)=io s':=by exact rfl):GO prog nt (.ops all (o::rest)::k) Q s:=go_wp (hc:=hc) (ho:=ho) (hg:=hg) (ha:=ha) (hi:=hi) (hj:=hj) (hm:=hm) (hn:=hn) (hlt:=hlt) (hlj:=hlj) (hlm:=hlm) (hnd:=hnd) (hp:=hp) (h:=h)
theorem Ac{all:List Oper}{todo pend:List (Nat×Oper)}{y:Nat}{C B:Prop}{o:Oper}{c:Call}{g:FuncId}{u:List aq}{w A:WS}{i j m n:Nat}{s':AS}(hc:bf prog g [.ptr 0 0,.sl 2 0 u.length 1] [w.c,.bw w.l 5,aX 1 u de] (.aY []) [(0,io (A.rf 0 3)),(3,io (.bw A.l 5))] 4)
  (hrd:dw todo=[(y,o)]) (ho:o.op= .call c) (ha:bN s.f c=io (g,[.ptr i 0,.sl m 0 n 1]))
  (hi:s.h.get i=io (w.rf i j)) (hj:s.h.get j=io (.bw w.l 5)) (hm:s.h.get m=io (aX 1 u de)) (hn:n=u.length) (hlt:Xm i s.nx=jp) (hlj:Xm j s.nx=jp) (hlm:Xm m s.nx=jp) (hnd:cE [i,j,m]=jp)
  (hp:putDst nt o (.aY []) (Tf s A i j m)=io s')
  (hg:bQ nt all s.f o=io jp) (hpb:gX all pend o=jp) (hE:nI todo [y]=jp)
  (hag:lX qq nt all s todo pend=io C) (hCA:C) (hag2:c6 qq nt all s' (a7 pend o)=io B) (hC2:B)
  (h:GO prog nt (.bR all (todo.filter fun x=>!Xj x.1 y) (a7 pend o)::k) Q s'):GO prog nt (.bR all todo pend::k) Q s:=
 iY ab hrd hg hpb hE hag hCA (Eb hc ho ha hi hj hm hn hlt hlj hlm hnd hp) hag2 hC2 h
theorem U4{all:List Oper}{todo pend:List (Nat×Oper)}{u:Nat}{A y:Prop}{o:Oper}{c:Call}{g:FuncId}{args B:List PV}{w C:WS}{r:PV}{i j:Nat}{s':AS}(hc:bf prog g (.ptr 0 0::args) w.O r C.H 3)
  (hrd:dw todo=[(u,o)]) (ho:o.op= .call c) (ha:bN s.f c=io (g,.ptr i 0::B))
  (hi:s.h.get i=io (w.rf i j)) (hj:s.h.get j=io (.bw w.l 5)) (hlt:Xm i s.nx=jp) (hlj:Xm j s.nx=jp) (hne:Xj i j=kw) (has:B=args) (hlow:bq 0 args=jp) (hr:r.low 0=jp)
  (hp:putDst nt o r (wS s C i j)=io s')
  (hg:bQ nt all s.f o=io jp) (hpb:gX all pend o=jp) (hE:nI todo [u]=jp)
  (hag:lX qq nt all s todo pend=io A) (hCA:A) (hag2:c6 qq nt all s' (a7 pend o)=io y) (hC2:y)
  (h:GO prog nt (.bR all (todo.filter fun x=>!Xj x.1 u) (a7 pend o)::k) Q s'):GO prog nt (.bR all todo pend::k) Q s:=
 iY ab hrd hg hpb hE hag hCA (AI hc ho ha hi hj hlt hlj hne has hlow hr hp) hag2 hC2 h
theorem xn{all:List Oper}{todo pend:List (Nat×Oper)}{u:Nat}{A y:Prop}{o:Oper}{c:Call}{g:FuncId}{args B:List PV}{w C:WS}{r:PV}{i j:Nat}{s':AS}(hc:bf prog g (.ptr 0 0::args) w.O r C.H 3)(h:GO prog nt (.bR all (todo.filter fun x=>!Xj x.1 u) (a7 pend o)::k) Q s')(hrd:dw todo=[(u,o)]:=by exact rfl)(ho:o.op= .call c:=by exact rfl)(ha:bN s.f c=io (g,.ptr i 0::B):=by exact rfl)(hi:s.h.get i=io (w.rf i j):=by exact rfl)(hj:s.h.get j=io (.bw w.l 5):=by exact rfl)(hlt:Xm i s.nx=jp:=by exact rfl)(hlj:Xm j s.nx=jp:=by exact rfl)(hne:Xj i j=kw:=by exact rfl)(has:B=args:=by exact rfl)(hlow:bq 0 args=jp:=by exact rfl)(hr:r.low 0=jp:=by exact rfl)(hp:putDst nt o r (wS s C i j)=io s':=by exact rfl)(hg:bQ nt all s.f o=io jp:=by exact rfl)(hpb:gX all pend o=jp:=by exact rfl)(hE:nI todo [u]=jp:=by exact rfl)(hag:lX qq nt all s todo pend=io A:=by exact rfl)(hCA:A:=by(repeat' (first|exact ac|exact rfl|exact ae.refl _|exact ae.bk (by assumption)|apply WN))<;>first|omega|(simp only[WV];omega)|(simp;done)|(simp;omega))(hag2:c6 qq nt all s' (a7 pend o)=io y:=by exact rfl)(hC2:y:=by(repeat' (first|exact ac|exact rfl|exact ae.refl _|exact ae.bk (by assumption)|apply WN))<;>first|omega|(simp only[WV];omega)|(simp;done)|(simp;omega)):GO prog nt (.bR all todo pend::k) Q s:=U4 (hc:=hc) (hrd:=hrd) (ho:=ho) (ha:=ha) (hi:=hi) (hj:=hj) (hlt:=hlt) (hlj:=hlj) (hne:=hne) (has:=has) (hlow:=hlow) (hr:=hr) (hp:=hp) (hg:=hg) (hpb:=hpb) (hE:=hE) (hag:=hag) (hCA:=hCA) (hag2:=hag2) (hC2:=hC2) (h:=h)
theorem yE{l:List ResultVar}{r r0 a b c d:PV}{e:Exit}{u:WS}{j n:Nat}(he:e= .normal∨e= .ret)(hr:je qq s l=io r0)(hi:s.h.get 0=io (.cells [a,b,c,d] (io 186)))(ha:a= .eS u.fr 0)(hb:b= .sl j 0 n 1)(hn:n=u.l.length)(hc:ae c (pB u.bad))(hd:ae d (pI u.br))
  (hj:s.h.get j=io (.bw u.l 5)) (hlj:Xm j s.nx=jp) (hne:Xj 0 j=kw) (hns:YR 2 s.nx=jp)
  (hrl:ae r0 r) (hlow:r.low 0=jp) (hlow3:r.low 3=jp):D7 qq l 2 r u.H 3 e s:=by
 subst ha;subst hb;subst hn;refine ar [j] he hr ⟨rfl,WL hns,fun x y=>?_,⟨?_,hlow3,ac⟩,⟨⟨_,hi,.cells ⟨.refl _,.refl _,hc,hd,ac⟩⟩,WL Z,rfl,⟨.bw u.l 5,hj,.of_eq Z⟩,WL Z,ac,ac⟩,?_⟩
 .simp only[W1]at y;subst y;exact WL hlj
 .rw[PV.ke _ _ hlow];exact hrl
 .have:(0:Nat)≠j:=fun e=>by subst e;simp at hne
  show([0,j]:List Nat).Nodup;simpa using this
theorem jr{l:List ResultVar}{r r0 a b c d:PV}{e:Exit}{u:WS}{j n:Nat}(he:e= .normal∨e= .ret:=by first|exact .inr Z|exact .inl Z)(hr:je qq s l=io r0:=by exact rfl)(hi:s.h.get 0=io (.cells [a,b,c,d] (io 186)):=by exact rfl)(ha:a= .eS u.fr 0:=by exact rfl)(hb:b= .sl j 0 n 1:=by exact rfl)(hn:n=u.l.length:=by exact rfl)(hc:ae c (pB u.bad):=by first|exact .refl _|exact .kb _)(hd:ae d (pI u.br):=by first|exact .refl _|exact .kb _)(hj:s.h.get j=io (.bw u.l 5):=by exact rfl)(hlj:Xm j s.nx=jp:=by exact rfl)(hne:Xj 0 j=kw:=by exact rfl)(hns:YR 2 s.nx=jp:=by exact rfl)(hrl:ae r0 r:=by exact .refl _)(hlow:r.low 0=jp:=by exact rfl)(hlow3:r.low 3=jp:=by exact rfl):D7 qq l 2 r u.H 3 e s:=yE (he:=he) (hr:=hr) (hi:=hi) (ha:=ha) (hb:=hb) (hn:=hn) (hc:=hc) (hd:=hd) (hj:=hj) (hlj:=hlj) (hne:=hne) (hns:=hns) (hrl:=hrl) (hlow:=hlow) (hlow3:=hlow3)
theorem KH{n0 j m:Nat}{C:AF}{w A:WS}{a b c d:PV}(hw:w=A)(hi:s.h.get 0=io (.cells [a,b,c,d] (io 186)))(ha:a= .eS w.fr 0)(hb:b= .sl j 0 m 1)(hm:m=w.l.length)(hc:ae c (pB w.bad))(hd:ae d (pI w.br))(hj:s.h.get j=io (.bw w.l 5))
  (hlj:Xm j s.nx=jp) (hne:Xj 0 j=kw) (h0:Xm 0 n0=jp) (hns:YR n0 s.nx=jp) (hf:Hq (n0+1) (sg n0 [j]) s.f C):Wk n0 [j] s ⟨C,[(0,io (A.rf 0 n0)),(n0,io (.bw A.l 5))],n0+1⟩:=by
 subst hw;subst ha;subst hb;subst hm;have u:0<n0:=WL h0;have s0:sg n0 [j] 0=0:=gG u;have D:Xm n0 n0=kw:=Bool.eq_false_iff.2 fun e=>absurd (WL e) (by omega);have G:Xm 0 (n0+1)=jp:=XN (by omega);have I:Xm n0 (n0+1)=jp:=XN (by omega);have y:sg n0 [j] n0=j:=by simp[sg,D]
 refine⟨rfl,WL hns,fun x B=>?_,hf,⟨⟨_,by rw[s0];exact hi,?_⟩,Ys u,?_,⟨.bw w.l 5,by rw[y];exact hj,.of_eq Z⟩,YA _,ac,ac⟩,?_⟩
 .simp only[W1]at B;subst B;exact WL hlj
 .simp only[AO.b3,dc,PV.b3,s0,y];exact .cells ⟨.refl _,.refl _,hc,hd,ac⟩
 .simp[AO.low,bq,PV.low,G,I]
 .have:(0:Nat)≠j:=fun e=>by subst e;simp at hne
  simp only[fq,s0,y];simpa using this
theorem rn{n0 j m:Nat}{x:AF}{w u:WS}{a b c d:PV}(hw:w=u)(hi:s.h.get 0=io (.cells [a,b,c,d] (io 186)):=by exact rfl)(ha:a= .eS w.fr 0:=by exact rfl)(hb:b= .sl j 0 m 1:=by exact rfl)(hm:m=w.l.length:=by exact rfl)(hc:ae c (pB w.bad):=by first|exact .refl _|exact .kb _)(hd:ae d (pI w.br):=by first|exact .refl _|exact .kb _)(hj:s.h.get j=io (.bw w.l 5):=by exact rfl)(hlj:Xm j s.nx=jp:=by exact rfl)(hne:Xj 0 j=kw:=by exact rfl)(h0:Xm 0 n0=jp:=by exact rfl)(hns:YR n0 s.nx=jp:=by exact rfl)(hf:Hq (n0+1) (sg n0 [j]) s.f x:=by repeat' (first|exact ac|exact ae.refl _|exact rfl|apply WN)):Wk n0 [j] s ⟨x,[(0,io (u.rf 0 n0)),(n0,io (.bw u.l 5))],n0+1⟩:=KH (hw:=hw) (hi:=hi) (ha:=ha) (hb:=hb) (hm:=hm) (hc:=hc) (hd:=hd) (hj:=hj) (hlj:=hlj) (hne:=hne) (h0:=h0) (hns:=hns) (hf:=hf)
end
end
def Bu(w:WS)(s:aq):WS:=⟨kw,w.l++s.data.toList,w.bad,w.br⟩
theorem d183(w:WS)(s:aq)(hb:w.l.length+s.size<=140737488355328):bf prog 122 [.ptr 0 0,pS s] w.O (.aY [pI s.size,.iv (.v .nilIface)]) (Bu w s).H 3:=by
 refine ak ab func122 Z (by decide) ntmps122 Z (by simp) ?_;refine gA Z (zq [0,1] (d204 w) ?_);refine gA Z ?_;refine Ny ab Z Z Z Z Z Z Z Z Z Z Z Z Z Z Z Z hb ?_;refine gA Z jr
def aU(w:WS)(b:Bool):WS:=⟨w.fr,w.l,w.bad||!b,w.br⟩
theorem Ng(w:WS){b:Bool}(h:(!b)=kw):aU w b=w:=by cases w;simp_all [aU]
theorem Nh(w:WS){b:Bool}(h:(!b)=jp):aU w b=⟨w.fr,w.l,jp,w.br⟩:=by cases w;simp_all [aU]
theorem d146(w:WS)(b:Bool):bf prog 120 [.ptr 0 0,pB b] w.O (.aY []) (aU w b).H 3:=by
 refine ak ab func120 Z (by decide) ntmps120 Z (by simp) ?_;refine zJ Z Z (fun h=>?_) fun h=>?_
 .rw[Nh w h];refine gA Z jr
 .rw[Ng w h];refine gA Z jr
def aT(w:WS)(j:List aq):WS:=j.foldl Bu w
def eI(j:List aq):Nat:=(j.map Z8).sum
theorem IA(w:WS)(s:aq):(Bu w s).l.length=w.l.length+s.size:=by simp[Bu]
theorem gW: ∀(j:List aq) (w:WS),(aT w j).l.length=w.l.length+eI j
 | [],w=>by simp[aT,eI]
 |s::r,w=>by
  have:=gW r (Bu w s);simp only[aT,XU]at this ⊢;rw[this,IA];simp[eI];omega
theorem vg: ∀(j:List aq) (i:Nat),i<j.length->eI (j.take i)+(j.getD i co).size<=eI j
 | [],i,h=>by simp at h
 |s::r,0,_=>by simp[eI]
 |s::r,i+1,h=>by
  have:=vg r i (by simpa using h);simp[eI]at this ⊢;omega
theorem d147(w:WS)(j:List aq)(hl:j.length<=1000)(hb:w.l.length+eI j<=140737488355328):bf prog 92 [.ptr 0 0,.sl 2 0 j.length 1] [w.c,.bw w.l 5,aX 1 j de] (.aY []) [(0,io ((aT w j).rf 0 3)),(3,io (.bw (aT w j).l 5))] 4:=by
 refine ak ab func92 Z (by decide) ntmps92 Z (by simp) ?_;refine gA Z ?_;refine km 2 (fun k=>de (j.getD k co)) Z (cU Z) (by simp[AF.mg,PV.bb,mN]) ⟨(by simp[AO.mg,a8,PV.bb]),ac,fQ _ _ _ _ _ _,ac⟩ ?_;refine aM 0 j.length (W2 _) (fun i=>⟨[(0,.ptr 0 0),(6,.iv (strs j)),(7,pI j.length),(8,pI i)],[(0,io ((aT w (j.take i)).rf 0 3)),(3,io (.bw (aT w (j.take i)).l 5))],4⟩) (fun _=>True) [1] ac
  (zM (bi ⟨.bL Z (fun k _=>by rw[Xd]),rfl,bi (bi trivial)⟩) ⟨⟨_,rfl,.of_eq Z⟩,WL Z,rfl,⟨_,rfl,.of_eq Z⟩,WL Z,ac,ac⟩) fun i hi _=>?_
 refine zJ Z Z (fun h1=>?_) fun h1=>?_
 .have h1:i<j.length:=zN h1;have hs:aT w (j.take (i+1))=Bu (aT w (j.take i)) (j.getD i co):=iD (g:=Bu) (b:=w) h1;have u:=gW (j.take i) w;have x:=vg j i h1;refine gA Z (iX (d183 (aT w (j.take i)) (j.getD i co) (by omega)) ?_);refine gA Z ⟨h1,ac,[4],zW ⟨⟨_,rfl,.of_eq (by rw[hs];rfl)⟩,WL Z,rfl,⟨_,rfl,.of_eq (by rw[hs];rfl)⟩,WL Z,ac,ac⟩⟩
 .have h1:j.length<=i:=zG h1;rw[W9 h1];refine gA Z (zD [3] Z (zW ⟨⟨_,rfl,.of_eq Z⟩,WL Z,rfl,⟨_,rfl,.of_eq Z⟩,WL Z,ac,ac⟩))
end Go.Proofs.YtlmhfgbkchnfbaaGreatDoor
namespace Go.Proofs
open Go.Shelf
def Tryz.z6:Go.Shelf.Ren:=⟨fun|171=>260|243=>267|246=>268|283=>269|284=>270|285=>271|286=>272|129=>147|317=>273|318=>274|319=>275|320=>276|337=>277|338=>278|n=>n,fun|3=>3|9=>9|2=>2|4=>4|171=>363|0=>0|53=>104|37=>38|5=>5|173=>365|212=>368|51=>83|20=>20|213=>369|46=>140|232=>370|233=>371|n=>n,fun|17=>1|18=>2|19=>3|n=>n⟩
theorem Tryz.I9:Go.Proofs.LaysM.n171 Tryz.prog Tryz.z6:={
 mixed:=by kernel_rfl
 f129:=Tryz.func147.trans (congrArg io (by kernel_rfl))
 f171:=Tryz.func260.trans (congrArg io (by kernel_rfl))
 f243:=Tryz.func267.trans (congrArg io (by kernel_rfl))
 f246:=Tryz.func268.trans (congrArg io (by kernel_rfl))
 f283:=Tryz.func269.trans (congrArg io (by kernel_rfl))
 f284:=Tryz.func270.trans (congrArg io (by kernel_rfl))
 f285:=Tryz.func271.trans (congrArg io (by kernel_rfl))
 f286:=Tryz.func272.trans (congrArg io (by kernel_rfl))
 f317:=Tryz.func273.trans (congrArg io (by kernel_rfl))
 f318:=Tryz.func274.trans (congrArg io (by kernel_rfl))
 f319:=Tryz.func275.trans (congrArg io (by kernel_rfl))
 f320:=Tryz.func276.trans (congrArg io (by kernel_rfl))
 f337:=Tryz.func277.trans (congrArg io (by kernel_rfl))
 f338:=Tryz.func278.trans (congrArg io (by kernel_rfl))
 t0:=Tryz.underlying0
 a0:=Tryz.isAgg0
 z0:=Tryz.sizeOf0
 v0:=Tryz.zeroValue0
 t2:=Tryz.underlying2
 a2:=Tryz.isAgg2
 z2:=Tryz.sizeOf2
 v2:=Tryz.zeroValue2
 t3:=Tryz.underlying3
 a3:=Tryz.isAgg3
 z3:=Tryz.sizeOf3
 v3:=Tryz.zeroValue3
 t4:=Tryz.underlying4
 a4:=Tryz.isAgg4
 z4:=Tryz.sizeOf4
 v4:=Tryz.zeroValue4
 t5:=Tryz.underlying5
 a5:=Tryz.isAgg5
 z5:=Tryz.sizeOf5
 v5:=Tryz.zeroValue5
 t9:=Tryz.underlying9
 a9:=Tryz.isAgg9
 z9:=Tryz.sizeOf9
 v9:=Tryz.zeroValue9
 t20:=Tryz.underlying20
 a20:=Tryz.isAgg20
 z20:=Tryz.sizeOf20
 v20:=Tryz.zeroValue20
 t37:=Tryz.underlying38
 a37:=Tryz.isAgg38
 z37:=Tryz.sizeOf38
 v37:=Tryz.zeroValue38
 t46:=Tryz.underlying140
 a46:=Tryz.isAgg140
 z46:=Tryz.sizeOf140
 v46:=Tryz.zeroValue140
 t51:=Tryz.underlying83
 a51:=Tryz.isAgg83
 z51:=Tryz.sizeOf83
 v51:=Tryz.zeroValue83
 t53:=Tryz.underlying104
 a53:=Tryz.isAgg104
 z53:=Tryz.sizeOf104
 v53:=Tryz.zeroValue104
 t171:=Tryz.underlying363
 a171:=Tryz.isAgg363
 z171:=Tryz.sizeOf363
 v171:=Tryz.zeroValue363
 t173:=Tryz.underlying365
 a173:=Tryz.isAgg365
 z173:=Tryz.sizeOf365
 v173:=Tryz.zeroValue365
 t212:=Tryz.underlying368
 a212:=Tryz.isAgg368
 z212:=Tryz.sizeOf368
 v212:=Tryz.zeroValue368
 t213:=Tryz.underlying369
 a213:=Tryz.isAgg369
 z213:=Tryz.sizeOf369
 t232:=Tryz.underlying370
 a232:=Tryz.isAgg370
 z232:=Tryz.sizeOf370
 v232:=Tryz.zeroValue370
 t233:=Tryz.underlying371
 a233:=Tryz.isAgg371
 z233:=Tryz.sizeOf371
 v233:=Tryz.zeroValue371
 g17:=by kernel_rfl
 g18:=by kernel_rfl
 g19:=by kernel_rfl
 i0:=by kernel_rfl
 i2:=by kernel_rfl
 i3:=by kernel_rfl
 i4:=by kernel_rfl
 i5:=by kernel_rfl
 i9:=by kernel_rfl
 i20:=by kernel_rfl
 i37:=by kernel_rfl
 i46:=by kernel_rfl
 i51:=by kernel_rfl
 i53:=by kernel_rfl
 i171:=by kernel_rfl
 i173:=by kernel_rfl
 i212:=by kernel_rfl
 i232:=by kernel_rfl
 i233:=by kernel_rfl
 m17:=by kernel_rfl
 m18:=by kernel_rfl
 m19:=by kernel_rfl}
theorem YtlmhfgbkchnfbaaGreatDoor.UU (n:Int) (h0: -9223372036854775808<=n) (h1:n<=9223372036854775807) (w:World) (j:Lib.TabIs Tryz.prog w "internal/strconv.uint64pow10" .u64 Lib.pow10Tab):
  Calls Tryz.prog 260 #[.int .i64 n] w fun e u=>e= .returned (.string ⟨(Lib.itoa n).toArray⟩)∧ ∃k os,u=Go.Sort.grow (w.drewN k) os:=Any.strconv_Itoa Tryz.I9 n h0 h1 w j
end Go.Proofs
namespace Go.Proofs.YtlmhfgbkchnfbaaGreatDoor
open Go Go.Al Go.Proofs.Tryz
theorem V7:prog.globalNamed "internal/strconv.uint64pow10" =io 1:=by kernel_rfl
theorem pow_eq:qK=Lib.pow10Tab:=by decide
theorem VP{M:Mem}{N:Nm}{U:Nat->Prop}{h:AH}{w:World}(hr:Rel M N U h w):Lib.TabIs prog w "internal/strconv.uint64pow10" .u64 Lib.pow10Tab:=by
 obtain⟨T,j,h1⟩:=hr.dF 1 _ (M.NI 1 _ Z);show World.var? _ _ _=_;simp only[World.var?,V7,Y7,h1,pow_eq]
theorem Wo(n:Int)(h0: -9223372036854775808<=n)(h1:n<=9223372036854775807):Pure prog 260 [pI n] (pS ⟨(Lib.itoa n).toArray⟩):=by
 refine⟨bc func260 Z (by decide),fun M N w vs hr u B=>?_⟩;obtain⟨v,rfl⟩: ∃v,vs=[v]:=by
  cases vs with
  |nil=>cases u
  |cons v r=>cases r with
   |nil=>exact⟨v,rfl⟩
   |cons a b=>simp at u
 have x:VR M N (· <0) (pI n) v:=B 0 _ Z;have y:v= .int .i64 n:=by
  cases x with
  |iv _ _ h=>cases h;rfl
 subst y;refine(UU n h0 h1 w (VP hr)).mono ?_;rintro e C ⟨rfl,k,os,rfl⟩;have hk: ∀b,b<w.heap.size->(Go.Sort.grow (w.drewN k) os).heap[b]? =w.heap[b]? :=fun b hb=>by
  show(w.heap++os)[b]? =_;rw[Xt hb]
 refine⟨_,M,N,pS ⟨(Lib.itoa n).toArray⟩,[],0,rfl,⟨rfl,rfl,rfl⟩,⟨rfl,rfl,⟨rfl,Zl _ _⟩,?_,fun b hb _=>hk b hb,.refl _,fun b c h1 A=>(nomatch (h1.symm.trans A)),.refl _ _,fun _ h=>h,fun i o hi=>(nomatch hi)⟩,⟨fun b c hb=>?_,fun i o hi=>(nomatch hi),fun i o hi=>(nomatch hi),fun i o hi=>(nomatch hi),fun i j o p hi=>(nomatch hi)⟩,.iv _ _ (.v _)⟩
 .show w.heap.size<=(w.heap++os).size;simp
 .exact(hr.dF b c hb).mono (hk b (hr.dF b c hb).lt)
def V6:aq:=⟨#[48,49,50,51,52,53,54,55,56,57,65,66,67,68,69,70]⟩
def S9(c:UInt8):Int:=(c.toNat:Int).fdiv (2 ^ min (Ze 4) IntKind.u8.bits)
def S7(c:UInt8):Int:=IntKind.u8.wrap ((BitVec.ofInt IntKind.u8.bits (c.toNat:Int)&&&BitVec.ofInt IntKind.u8.bits 15).toNat:Int)
theorem Sq(c:UInt8):0<=S9 c∧S9 c<16:=by
 have h:c.toNat<256:=c.toNat_lt;have e:S9 c=(c.toNat:Int)/16:=by
  unfold S9;have:(2:Int) ^ min (Ze 4) IntKind.u8.bits=16:=by decide
  rw[this];exact Yd _ (by decide)
 rw[e];omega
theorem Sk: ∀c:UInt8,0<=S7 c∧S7 c<16:=by
 intro c;have h: ∀n:Fin 256,0<=S7 (UInt8.ofNat n.val)∧S7 (UInt8.ofNat n.val)<16:=by decide
 have:=h ⟨c.toNat,c.toNat_lt⟩;simpa using this
def UY(n:Int):UInt8:=V6.data.toList.getD n.toNat 0
def qB(c:UInt8):List UInt8:=if c.toNat=34∨c.toNat=92 then[92,c] else if c.toNat=10 then[92,110] else if c.toNat<32∨126<c.toNat then[92,120,UY (S9 c),UY (S7 c)] else[c]
theorem R6(c:UInt8):(qB c).length<=4:=by
 unfold qB
 repeat' split
 all_goals simp
def sX(s:aq)(i:Nat):List UInt8:=34::(s.data.toList.take i).flatMap qB
def sU(s:aq):aq:=⟨(34::s.data.toList.flatMap qB++ [34]).toArray⟩
theorem vD(s:aq): ∀i,(sX s i).length<=1+4*i
 |0=>by simp[sX]
 |i+1=>by
  have h:=vD s i;rcases XO i s.data.toList.length with hi|hi
  .have:=R6 (s.data.toList.getD i co);simp only[sX,Xn]at h ⊢;rw[bC hi,WO];omega
  .simp only[sX,W9 hi]at h;simp only[sX,W9 (by omega:s.data.toList.length<=i+1)];omega
theorem Gq{s:aq}{i:Nat}(h:i<s.data.toList.length):sX s (i+1)=sX s i++qB (s.data.toList.getD i co):=by
 simp only[sX,bC h,Xe]
theorem Wn(s:aq)(hs:s.size<=1000):Pure prog 261 [pS s] (pS (sU s)):=by
 have hl:s.data.toList.length=s.size:=by simp
 refine ah ab func261 Z (by decide) ntmps261 Z (by simp) Z ?_;refine gA Z ?_;refine pq ab Z Z Z Z Z Z Z Z Z Z Z (by omega) ?_;refine gA Z ?_;refine aM 0 s.data.toList.length (W2 _) (fun i=>⟨[(3,.sl 1 0 (sX s i).length 1),(8,.iv (.bL 1 s.data.toList.length fun k=>aO (s.data.toList.getD k co))),(9,pI s.data.toList.length),(10,pI i)],[(1,io (aX 1 (sX s i) aO))],2⟩) (fun _=>True) [0] ac
  (zW (zS trivial)) fun i hi _=>?_
 have J:=vD s i;refine zE Z Z (fun h1=>?_) fun h1=>?_
 .have h1:s.data.toList.length<=i:=zG h1;refine gA Z ?_;refine NH ab (sX s i++ [34]) Z Z Z Z Z Z Z Z Z Z Z Z (by rw[W4];rfl) (by rw[WO];rfl) ?_;refine gA Z (zL (.of_eq ?_));simp only[sX,sU,W9 h1];rfl
 have h1:i<s.data.toList.length:=zN h1;have j:=Gq h1;have u:s.data.toList.getD (i:Int).toNat co=s.data.toList.getD i co:=rfl;generalize I:s.data.toList.getD i co=c at j u;refine zJ Z Z (fun B=>?_) fun B=>?_
 .have B:c.toNat=34:=by have:=zT B;rw[u]at this;omega
  rw[qB,am (.inl B)]at j;refine gA Z ⟨h1,ac,[3],zM ⟨.row (by rw[j,WO];rfl),rfl,bi (bi (bi ac))⟩ (hR Z (by rw[j,W4,<-I];rfl) Z ac)⟩
 have B: ¬c.toNat=34:=by have:=zF B;rw[u]at this;omega
 refine zJ Z Z (fun C=>?_) fun C=>?_
 .have C:c.toNat=92:=by have:=zT C;rw[u]at this;omega
  rw[qB,am (.inr C)]at j;refine gA Z ⟨h1,ac,[3],zM ⟨.row (by rw[j,WO];rfl),rfl,bi (bi (bi ac))⟩ (hR Z (by rw[j,W4,<-I];rfl) Z ac)⟩
 have C: ¬c.toNat=92:=by have:=zF C;rw[u]at this;omega
 rw[qB,be (by omega)]at j;refine zJ Z Z (fun A=>?_) fun A=>?_
 .have A:c.toNat=10:=by have:=zT A;rw[u]at this;omega
  rw[am A]at j;refine gA Z ⟨h1,ac,[3],zM ⟨.row (by rw[j,WO];rfl),rfl,bi (bi (bi ac))⟩ (hR Z (by rw[j,W4];rfl) Z ac)⟩
 have A: ¬c.toNat=10:=by have:=zF A;rw[u]at this;omega
 rw[be A]at j;have x:=Sq c;have y:=Sk c;rw[<-I]at x y;simp only[S9,S7]at x y;refine zJ Z Z (fun D=>?_) fun D=>?_
 .have D:c.toNat<32:=by have:=zT D;rw[u]at this;omega
  rw[am (.inl D)]at j;refine gf Z (by(repeat' (first|exact ac|exact rfl|exact ae.refl _|exact x|exact y|apply WN))<;>first|omega|exact x.1|exact x.2|exact y.1|exact y.2|simp) ?_;exact⟨h1,ac,[3],zM ⟨.row (by rw[j,WO];rfl),rfl,bi (bi (bi ac))⟩ (hR Z (by rw[j,W4,<-I];rfl) Z ac)⟩
 have D: ¬c.toNat<32:=by have:=zF D;rw[u]at this;omega
 refine zJ Z Z (fun G=>?_) fun G=>?_
 .have G:126<c.toNat:=by have:=zT G;rw[u]at this;omega
  rw[am (.inr G)]at j;refine gf Z (by(repeat' (first|exact ac|exact rfl|exact ae.refl _|exact x|exact y|apply WN))<;>first|omega|exact x.1|exact x.2|exact y.1|exact y.2|simp) ?_;exact⟨h1,ac,[3],zM ⟨.row (by rw[j,WO];rfl),rfl,bi (bi (bi ac))⟩ (hR Z (by rw[j,W4,<-I];rfl) Z ac)⟩
 have G: ¬126<c.toNat:=by have:=zF G;rw[u]at this;omega
 rw[be (by omega)]at j;refine gA Z ⟨h1,ac,[3],zM ⟨.row (by rw[j,WO];rfl),rfl,bi (bi (bi ac))⟩ (hR Z (by rw[j,W4,<-I];rfl) Z ac)⟩
def xF(v:cS):aq:=if v.kind=1 then⟨(Lib.itoa v.num).toArray⟩ else if fY v.sym then v.sym else sU v.sym
theorem qp{v:cS}(h:bV v=0)(h1:v.kind=1): -2147483647<=v.num∧v.num<=2147483647:=by
 unfold bV at h;rw[am h1]at h;split at h
 .rename_i j;exact j.2
 .cases h
theorem mQ{v:cS}(h:bV v=0)(h1: ¬v.kind=1):v.sym.size<=64:=by
 unfold bV at h;rw[be h1]at h;split at h
 .split at h
  .rename_i j;exact j.2
  .cases h
 .cases h
theorem Wp(v:cS)(u:bV v=0):Pure prog 243 [ag v.c] (pS (xF v)):=by
 refine ah ab func243 Z (by decide) ntmps243 Z (by simp) Z ?_;refine zJ Z Z (fun h1=>?_) fun h1=>?_
 .have h1:v.kind=1:=by simpa using h1
  have:=qp u h1;refine gA Z (zp (Wo v.num (by omega) (by omega)) ?_);refine gA Z (zL (.of_eq ?_));rw[xF,am h1];rfl
 have h1: ¬v.kind=1:=by simpa using h1
 have hs:=mQ u h1;refine gA Z (zp (Vk v.sym) ?_);refine zJ Z Z (fun j=>?_) fun j=>?_
 .have j:fY v.sym=jp:=j;refine gA Z (zL (.of_eq ?_));rw[xF,be h1,am j];rfl
 .have j:fY v.sym=kw:=j;refine gA Z (zp (Wn v.sym (by omega)) ?_);refine gA Z (zL (.of_eq ?_));rw[xF,be h1,be (by rw[j];simp)];rfl
def tz(v:cS):aq:=if bV v=0 then xF v else⟨#[]⟩
theorem Ws(v:cS):Pure prog 210 [ag v.c] (.aY [pS (tz v),pI (bV v)]):=by
 refine ah ab func210 Z (by decide) ntmps210 Z (by simp) Z ?_;refine gA Z (zp (Vl v) ?_);refine zJ Z Z (fun h1=>?_) fun h1=>?_
 .have h1: ¬bV v=0:=by simpa using h1
  refine gA Z (zL (.of_eq ?_));rw[tz,be h1];rfl
 .have h1:bV v=0:=by simpa using h1
  refine gA Z (zp (Wp v h1) ?_);refine gA Z (zL (.of_eq ?_));rw[tz,am h1,h1];rfl
def oi(w:WS)(v:cS):WS:=aT (aU w (lc (bV v=0))) [tz v]
theorem d149(w:WS)(v:cS)(hb:w.l.length<=1000000000000)(ht:(tz v).size<=1000):bf prog 171 [.ptr 0 0,ag v.c] w.O (.aY []) (oi w v).H 3:=by
 refine ak ab func171 Z (by decide) ntmps171 Z (by simp) ?_;refine gA Z (zp (Ws v) ?_);refine gA Z (DO (d146 ⟨_,_,_,_⟩ (lc (bV v=0))) Z Z Z Z Z Z Z Z Z Z Z Z ?_);refine gA Z (go_wp (d147 ⟨_,_,_,_⟩ [tz v] (by simp) (by simp[eI,aU];omega)) Z Z Z Z Z Z Z Z Z Z Z Z ?_);refine gA Z jr
def cJ(op:Int):Int:=if op=1∨op=2 then 1 else if op=3∨op=4∨op=5 then 2 else if op=6 then 3 else 0
theorem Oc(op:Int):Pure prog 245 [pI op] (pI (cJ op)):=by
 refine ah ab func245 Z (by decide) ntmps245 Z (by simp) Z ?_
 repeat' (first|(refine gA Z (zI (fun _=>?_) (fun _=>?_)))|(refine gA Z (zL (.of_eq ?_))))
 all_goals(refine(Hl ?_:pI _=pI _);simp only[Zd,ZM,decide_eq_true_eq,decide_eq_false_iff_not] at*;simp_all [cJ])
def ej(e:Expr):Int:=if e.kind=4 then cJ e.op else 4
theorem G9(e:Expr):Pure prog 263 [ag e.c] (pI (ej e)):=by
 refine ah ab func263 Z (by decide) ntmps263 Z (by simp) Z ?_
 repeat' (first|(refine gA Z (zI (fun _=>?_) (fun _=>?_)))|(refine gA Z (zp (Oc e.op) ?_))|(refine gA Z (zL (.of_eq ?_))))
 all_goals(refine(Hl ?_:pI _=pI _);simp_all [ej])
def en(v:cS):Bool:=lc (v.kind=0)&&(lc (v.num=0)&&(lc (v.sym=W0)&&jp))
def ki(e:Expr):Bool:=lc (e.kind=0)&&(lc (e.var=⟨#[]⟩)&&(en e.val&&(lc (e.op=0)&&lc ((e.args.length:Int)=0))))
theorem Od(e:Expr):Pure prog 244 [ag e.c] (pB (ki e)):=by
 refine ah ab func244 Z (by decide) ntmps244 Z (by simp) Z ?_
 repeat' (first|(refine gA Z (zI (fun _=>?_) (fun _=>?_)))|(refine gA Z (zL (.of_eq ?_))))
 all_goals(refine(oy ?_:pB _=pB _))
 all_goals(simp only[ki,en, *];rfl)
def lS(l:Lit):Bool:=
 (lc (l.kind=1)||decide (l.kind=2)||!(!lc (l.atom.rel=⟨#[]⟩)||decide ((l.atom.an.length:Int)>0)))&&
 ((!(!lc (l.kind=3))||!(!lc (l.op=0)||(!ki l.left||!ki l.right)))&&
 (lc (l.kind=4)||(lc (l.dU=0)&&(lc (l.bF=⟨#[]⟩)&&(ki l.kn&&lc ((l.ay.length:Int)=0))))))
set_option maxHeartbeats 4000000 in
theorem Wr(l:Lit):Pure prog 211 [ag l.c] (pB (lS l)):=by
 refine ah ab func211 Z (by decide) ntmps211 Z (by simp) Z ?_
 repeat' (first|(refine gA Z (zI (fun _=>?_) (fun _=>?_)))|(refine gA Z (zp (Od l.left) ?_))|(refine gA Z (zp (Od l.right) ?_))|(refine gA Z (zp (Od l.kn) ?_))|(refine gA Z (zL (.of_eq ?_))))
 all_goals(refine(oy ?_:pB _=pB _))
 all_goals(try simp only[Zd,ZM] at*)
 all_goals(simp_all [lS])
def nQ(op:Int):aq:=if op=1 then⟨#[43]⟩ else if op=2 then⟨#[45]⟩ else if op=3 then⟨#[42]⟩ else if op=4 then⟨#[47]⟩ else⟨#[109,111,100]⟩
def sgL:aq:=⟨#[43,45,42,47]⟩
theorem Wm(op:Int):Pure prog 264 [pI op] (pS (nQ op)):=by
 refine ah ab func264 Z (by decide) ntmps264 Z (by simp) Z ?_;refine gA Z ?_;refine yu ab Z Z Z Z Z Z Z ?_;refine gA Z ?_;refine aM 0 4 (by decide) (fun i=>⟨[(0,pI op),(5,.ptr 0 0)],[(0,io (.ey sgL i))],1⟩) (fun i=> ∀k:Nat,k<i-> ¬(k:Int)+1=op) [] (by simp)
  (zW ⟨⟨_,rfl,.of_eq Z⟩,WL Z,ac,ac⟩) fun i hi j=>?_
 have x:i=0∨i=1∨i=2∨i=3∨i=4:=by omega
 rcases x with rfl|rfl|rfl|rfl|rfl
 .refine gA Z ?_;refine mz Z Z Z Z Z Z (fun h=>absurd h (by decide)) (fun _=>?_);refine zJ Z Z (fun h=>?_) fun h=>?_
  .have h:op=1:=by have:=zT h;omega
   refine gA Z ?_;refine uN ab Z Z Z Z Z Z Z Z Z ?_;refine gA Z (zL (.of_eq ?_));refine(congrArg pS ?_:pS _=pS _);subst h;decide
  .have h: ¬op=1:=by have:=zF h;omega
   refine gA Z ⟨by decide,fun k hk=>(by rcases(by omega:k<0∨k=0) with u|rfl;exact j k u;omega),[],zW ⟨⟨_,rfl,.of_eq Z⟩,WL Z,ac,ac⟩⟩
 .refine gA Z ?_;refine mz Z Z Z Z Z Z (fun h=>absurd h (by decide)) (fun _=>?_);refine zJ Z Z (fun h=>?_) fun h=>?_
  .have h:op=2:=by have:=zT h;omega
   refine gA Z ?_;refine uN ab Z Z Z Z Z Z Z Z Z ?_;refine gA Z (zL (.of_eq ?_));refine(congrArg pS ?_:pS _=pS _);subst h;decide
  .have h: ¬op=2:=by have:=zF h;omega
   refine gA Z ⟨by decide,fun k hk=>(by rcases(by omega:k<1∨k=1) with u|rfl;exact j k u;omega),[],zW ⟨⟨_,rfl,.of_eq Z⟩,WL Z,ac,ac⟩⟩
 .refine gA Z ?_;refine mz Z Z Z Z Z Z (fun h=>absurd h (by decide)) (fun _=>?_);refine zJ Z Z (fun h=>?_) fun h=>?_
  .have h:op=3:=by have:=zT h;omega
   refine gA Z ?_;refine uN ab Z Z Z Z Z Z Z Z Z ?_;refine gA Z (zL (.of_eq ?_));refine(congrArg pS ?_:pS _=pS _);subst h;decide
  .have h: ¬op=3:=by have:=zF h;omega
   refine gA Z ⟨by decide,fun k hk=>(by rcases(by omega:k<2∨k=2) with u|rfl;exact j k u;omega),[],zW ⟨⟨_,rfl,.of_eq Z⟩,WL Z,ac,ac⟩⟩
 .refine gA Z ?_;refine mz Z Z Z Z Z Z (fun h=>absurd h (by decide)) (fun _=>?_);refine zJ Z Z (fun h=>?_) fun h=>?_
  .have h:op=4:=by have:=zT h;omega
   refine gA Z ?_;refine uN ab Z Z Z Z Z Z Z Z Z ?_;refine gA Z (zL (.of_eq ?_));refine(congrArg pS ?_:pS _=pS _);subst h;decide
  .have h: ¬op=4:=by have:=zF h;omega
   refine gA Z ⟨by decide,fun k hk=>(by rcases(by omega:k<3∨k=3) with u|rfl;exact j k u;omega),[],zW ⟨⟨_,rfl,.of_eq Z⟩,WL Z,ac,ac⟩⟩
 .refine gA Z ?_;refine mz Z Z Z Z Z Z (fun _=>?_) (fun h=>absurd h (by decide));refine gA Z (zL (.of_eq ?_));have h1:=j 0 (by decide);have y:=j 1 (by decide);have A:=j 2 (by decide);have B:=j 3 (by decide);rw[nQ,be (by omega),be (by omega),be (by omega),be (by omega)];rfl
theorem Dq(s:aq):(sU s).size<=2+4*s.size:=by
 have h:=vD s s.data.toList.length;simp only[sX,X7,Xn]at h;have e:(sU s).size=(34::s.data.toList.flatMap qB++ [34]).length:=by simp[sU,Z8]
 have:s.data.toList.length=s.size:=by simp
 rw[e,WO,Xn,Xl];omega
theorem sF(v:cS):(tz v).size<=300:=by
 unfold tz;split
 .rename_i j;unfold xF;split
  .rename_i h1;have:=qp j h1;have u:=Lib.itoa_length_le v.num (by omega) (by omega);have e:(⟨(Lib.itoa v.num).toArray⟩:ByteArray).size=(Lib.itoa v.num).length:=by simp[Z8]
   omega
  .rename_i h1;have u:=mQ j h1;split
   .omega
   .have:=Dq v.sym;omega
 .decide
mutual
def Expr.ts:Expr->Nat
 | .mk _ v _ _ args=>v.size+400+Expr.lf args
def Expr.lf:List Expr->Nat
 | []=>0
 |e::r=>e.ts+Expr.lf r
end
theorem Expr.tx(e:Expr):e.ts=e.var.size+400+Expr.lf e.args:=by cases e;rfl
theorem Expr.y4: ∀(l:List Expr) (k:Nat),k<l.length->(l.getD k co).ts<=Expr.lf l
 |e::r,0,_=>by simp[Expr.lf]
 |e::r,k+1,h=>by
  have:=Expr.y4 r k (by simpa using h);simp only[Yj,Expr.lf];omega
 | [],k,h=>by simp at h
theorem Expr.Ej: ∀(l:List Expr),l.length=2->(l.getD 0 co).ts+(l.getD 1 co).ts<=Expr.lf l
 | [a,b],_=>by simp[Expr.lf]
 | [],h=>by simp at h
 | [a],h=>by simp at h
 |a::b::c::r,h=>by simp at h
def sM:aq:=⟨#[45]⟩
def sO:aq:=⟨#[40]⟩
def sC:aq:=⟨#[41]⟩
def Eu:aq:=⟨#[32]⟩
def oc(w:WS):WS:=⟨w.fr,w.l,jp,w.br⟩
def p5(e:Expr):Bool:=gn e.var&&(en e.val&&(lc (e.op=0)&&lc ((e.args.length:Int)=0)))
def rL(e:Expr):Bool:=lc (e.var=⟨#[]⟩)&&(lc (e.op=0)&&lc ((e.args.length:Int)=0))
def uo(e:Expr):Bool:=lc (e.var=⟨#[]⟩)&&(en e.val&&lc (cJ e.op>0))
def cq(e:Expr):Expr:=e.args.getD 0 co
def Au(e:Expr):Expr:=e.args.getD 1 co
def zB(e:Expr):Bool:=lc (e.kind=2)&&lc (e.val.kind=1)
def nR(a:Expr):Bool:=lc (ej a<3)||(zB a&&lc (a.val.num>0))
def kH(w:WS)(e:Expr)(k:WS):WS:=
 if w.bad=jp then oc w else if e.kind=1 then aT (aU w (p5 e)) [e.var] else if e.kind=2 then oi (aU w (rL e)) e.val else if e.kind=4 then k else oc w
def me(a0:Bool->WS->Expr->WS)(w:WS)(e:Expr):WS:=
 if w.bad=jp then oc w else if e.op=6 then
  (if e.args.length=1 then a0 (nR (cq e)) (if(zB (cq e)&&lc ((cq e).val.num=0))=jp then aT (aT w [sM]) [sM] else aT w [sM]) (cq e) else oc w)
 else if e.args.length=2 then a0 (lc (ej (Au e)<=cJ e.op)) (aT (a0 (lc (ej (cq e)<cJ e.op)) w (cq e)) [Eu,nQ e.op,Eu]) (Au e) else oc w
def c4:Nat->WS->Expr->WS
 |0,w,_=>oc w
 |1,w,e=>kH w e (oc (aU w (uo e)))
 |m+2,w,e=>kH w e (me (fun j w a=>if j=jp then aT (c4 m (aT w [sO]) a) [sC] else c4 (m+1) w a) (aU w (uo e)) e)
def xv(m:Nat)(j:Bool)(w:WS)(a:Expr):WS:=if j=jp then aT (c4 m (aT w [sO]) a) [sC] else c4 (m+1) w a
theorem aR(w:WS)(b:Bool):(aU w b).l=w.l:=rfl
theorem fw(w:WS):(oc w).l=w.l:=rfl
theorem bu(s:aq):eI [s]=s.size:=by simp[eI]
theorem A8(op:Int):(nQ op).size<=3:=by
 unfold nQ
 repeat' split
 all_goals decide
theorem aK(w:WS)(s:aq):(aT w [s]).l.length=w.l.length+s.size:=by rw[gW,bu]
theorem u3(w:WS)(v:cS):(oi w v).l.length<=w.l.length+300:=by
 have:=sF v;rw[oi,aK,aR];omega
theorem yl(w k:WS)(e:Expr)(h:k.l.length<=w.l.length+e.ts):(kH w e k).l.length<=w.l.length+e.ts:=by
 have:=e.tx;unfold kH
 repeat' split
 .rw[fw];omega
 .rw[aK,aR];omega
 .have:=u3 (aU w (rL e)) e.val;rw[aR]at this;omega
 .exact h
 .rw[fw];omega
theorem Gt(a0:Bool->WS->Expr->WS)(j: ∀b w a,(a0 b w a).l.length<=w.l.length+(2+a.ts))(w:WS)(e:Expr):(me a0 w e).l.length<=w.l.length+e.ts:=by
 have B:=e.tx;unfold me;split
 .rw[fw];omega
 split
 .split
  .rename_i h1;have y:=Expr.y4 e.args 0 (by omega);have u:sM.size=1:=rfl;split
   .have:=j (nR (cq e)) (aT (aT w [sM]) [sM]) (cq e);rw[aK,aK]at this;simp only[cq]at this ⊢;omega
   .have:=j (nR (cq e)) (aT w [sM]) (cq e);rw[aK]at this;simp only[cq]at this ⊢;omega
  .rw[fw];omega
 .split
  .rename_i h1;have y:=Expr.Ej e.args h1;have x:=j (lc (ej (Au e)<=cJ e.op)) (aT (a0 (lc (ej (cq e)<cJ e.op)) w (cq e)) [Eu,nQ e.op,Eu]) (Au e);have C:=j (lc (ej (cq e)<cJ e.op)) w (cq e);have D:=A8 e.op;have u:Eu.size=1:=rfl;rw[gW]at x;have A:eI [Eu,nQ e.op,Eu]=1+((nQ e.op).size+1):=by simp[eI,u]
   simp only[cq,Au] at*;omega
  .rw[fw];omega
theorem dr: ∀(n:Nat) (w:WS) (e:Expr),(c4 n w e).l.length<=w.l.length+e.ts
 |0,w,e=>by rw[c4,fw];omega
 |1,w,e=>by rw[c4];exact yl _ _ _ (by rw[fw,aR];omega)
 |m+2,w,e=>by
  rw[c4];refine yl _ _ _ ?_
  have:=Gt (fun j w a=>if j=jp then aT (c4 m (aT w [sO]) a) [sC] else c4 (m+1) w a) (fun b w a=>by
   split
   .have h1:=dr m (aT w [sO]) a;have u:sO.size=1:=rfl;have x:sC.size=1:=rfl;rw[aK]at h1 ⊢;omega
   .have:=dr (m+1) w a
    omega) (aU w (uo e)) e
  rwa[aR]at this
theorem Kt(m:Nat)(b:Bool)(w:WS)(a:Expr):(xv m b w a).l.length<=w.l.length+(2+a.ts):=by
 unfold xv;split
 .have h1:=dr m (aT w [sO]) a;have j:sO.size=1:=rfl;have u:sC.size=1:=rfl;rw[aK]at h1 ⊢;omega
 .have:=dr (m+1) w a;omega
def PE(n:Nat):Prop:= ∀(d:Int) (w:WS) (e:Expr),d+1=n->w.l.length+e.ts<=1000000000->bf prog 212 [.ptr 0 0,ag e.c,pI d] w.O (.aY []) (c4 n w e).H 3
theorem d225(n:Nat)(hn:n<=1000)(y:PE (n+1))(A:PE n)(j:Bool)(d:Int)(hd:d=n)(w:WS)(e:Expr)(hb:w.l.length+e.ts+2<=1000000000):bf prog 262 [.ptr 0 0,ag e.c,pB j,pI d] w.O (.aY []) (xv n j w e).H 3:=by
 refine ak ab func262 Z (by decide) ntmps262 Z (by simp) ?_;refine zJ Z Z (fun h=>?_) fun h=>?_
 .have h:j=kw:=by simpa using h
  rw[xv,be (by rw[h];simp)];refine gA Z (iX (y d w e (by omega) (by omega)) ?_);refine gA Z jr
 .have h:j=jp:=by simpa using h
  rw[xv,am h];have u:sO.size=1:=rfl;have x:sC.size=1:=rfl;have hl:=dr n (aT w [sO]) e;have B:=aK w sO;refine gA Z (jI (d147 w [sO] (by simp) (by rw[bu,u];omega)) ?_);refine gA Z (iX (A (d-1) (aT w [sO]) e (by omega) (by omega)) ?_);refine gA Z (jI (d147 (c4 n (aT w [sO]) e) [sC] (by simp) (by rw[bu,x];omega)) ?_);refine gA Z jr
theorem Ve(d:Int)(hd:d<0)(w:WS)(e:Expr):bf prog 246 [.ptr 0 0,ag e.c,pI d] w.O (.aY []) (oc w).H 3:=by
 refine ak ab func246 Z (by decide) ntmps246 Z (by simp) ?_
 repeat' (first
  |((rename_i h;exact absurd hd (zF h)))
  |(refine gA Z (zI (fun _=>?_) (fun _=>?_)))
  |(refine gA Z (yE (by first|exact .inr Z|exact .inl Z) Z Z Z Z Z (by first|exact .refl _|exact .kb _) (by first|exact .refl _|exact .kb _) Z Z Z Z (.refl _) Z Z)))
set_option maxHeartbeats 2000000 in
theorem d213(m:Nat)(hm:m<=900)(I:PE (m+1))(J:PE m)(d:Int)(hd:d=m)(w:WS)(e:Expr)(hb:w.l.length+e.ts<=1000000000):bf prog 246 [.ptr 0 0,ag e.c,pI d] w.O (.aY []) (me (xv m) w e).H 3:=by
 refine bf.le (aa:=[.ptr 0 0,ag e.c,pI d]) (args:=[.ptr 0 0,ag e.c1,pI d]) ?_ ⟨.refl _,e.DD,.refl _,ac⟩;have f0:=e.tx;have G:sM.size=1:=rfl;have y:m<=1000:=by omega
 refine ak ab func246 Z (by decide) ntmps246 Z (by simp) ?_;refine zJ Z Z (fun Y=>?_) fun Y=>?_
 .have Y:e.op=6:=zT Y;refine zE Z Z (fun h1=>?_) fun h1=>?_
  .have h1:w.bad=jp:=h1;rw[me,am h1];refine gA Z jr
  have h1: ¬w.bad=jp:=by rw[show w.bad=kw from h1];simp
  refine zE Z Z (fun C=>?_) fun C=>?_
  .have C: ¬e.args.length=1:=by simp at C;omega
   rw[me,be h1,am Y,be C];refine gA Z jr
  have C:e.args.length=1:=by simp at C;omega
  have hg:(cq e).ts<=_:=Expr.y4 e.args 0 (by omega);have u:me (xv m) w e=xv m (nR (cq e)) (if(zB (cq e)&&lc ((cq e).val.num=0))=jp then aT (aT w [sM]) [sM] else aT w [sM]) (cq e):=by rw[me,be h1,am Y,am C]
  have c0:e.args.getD 0 co=cq e:=rfl;refine zJ Z Z (fun h3=>?_) fun h3=>?_
  .exact absurd (zT h3) (by omega)
  refine zE Z Z (fun h7=>?_) fun h7=>?_
  .exact absurd (zF h7) (by simp)
  have A:=aK w sM;refine zJ Z Z (fun hk=>?_) fun hk=>?_
  .have b0:(cq e).kind=2:=zT hk;refine gA Z (jI (d147 w [sM] (by simp) (by rw[bu,G];omega)) ?_);refine zE Z Z (fun hv=>?_) fun hv=>?_
   .have D: ¬(cq e).val.kind=1:=zF hv;have B:zB (cq e)=kw:=by rw[zB,decide_eq_false D,Zi]
    rw[B,YK,be (by simp)]at u;refine gA Z (D8 (G9 (cq e)) ?_);refine zJ Z Z (fun x=>?_) fun x=>?_
    .have j:ej (cq e)<3:=zT x;rw[nR,decide_eq_true j,ZL]at u;rw[u];refine gA Z (xn (d225 m y I J jp d hd (aT w [sM]) (cq e) (by rw[A,G];omega)) ?_);refine gA Z jr
    .have j: ¬ej (cq e)<3:=zF x;refine zJ Z Z (fun hz=>?_) fun hz=>?_
     .exact absurd (zT hz) D
     rw[nR,decide_eq_false j,YO,B,YK]at u;rw[u];refine gA Z (xn (d225 m y I J kw d hd (aT w [sM]) (cq e) (by rw[A,G];omega)) ?_);refine gA Z jr
   .have D:(cq e).val.kind=1:=zT hv;have B:zB (cq e)=jp:=by rw[zB,decide_eq_true D,decide_eq_true b0];rfl
    rw[B,Zp]at u;refine zJ Z Z (fun h0=>?_) fun h0=>?_
    .have a0:(cq e).val.num=0:=zT h0;rw[am (decide_eq_true a0)]at u;refine gA Z (jI (d147 (aT w [sM]) [sM] (by simp) (by rw[bu,A,G];omega)) ?_);refine gA Z (D8 (G9 (cq e)) ?_);refine zJ Z Z (fun x=>?_) fun x=>?_
     .have j:ej (cq e)<3:=zT x;rw[nR,decide_eq_true j,ZL]at u;rw[u];refine gA Z (xn (d225 m y I J jp d hd (aT (aT w [sM]) [sM]) (cq e) (by rw[aK,A,G];omega)) ?_);refine gA Z jr
     .have j: ¬ej (cq e)<3:=zF x;refine zE Z Z (fun hz=>?_) fun hz=>?_
      .exact absurd D (zF hz)
      rw[nR,decide_eq_false j,YO,B,Zp]at u;rw[u];refine gA Z (xn (d225 m y I J (lc ((cq e).val.num>0)) d hd (aT (aT w [sM]) [sM]) (cq e) (by rw[aK,A,G];omega)) ?_);refine gA Z jr
    .have a0: ¬(cq e).val.num=0:=zF h0;rw[be (by simpa using a0)]at u;refine gA Z (D8 (G9 (cq e)) ?_);refine zJ Z Z (fun x=>?_) fun x=>?_
     .have j:ej (cq e)<3:=zT x;rw[nR,decide_eq_true j,ZL]at u;rw[u];refine gA Z (xn (d225 m y I J jp d hd (aT w [sM]) (cq e) (by rw[A,G];omega)) ?_);refine gA Z jr
     .have j: ¬ej (cq e)<3:=zF x;refine zE Z Z (fun hz=>?_) fun hz=>?_
      .exact absurd D (zF hz)
      rw[nR,decide_eq_false j,YO,B,Zp]at u;rw[u];refine gA Z (xn (d225 m y I J (lc ((cq e).val.num>0)) d hd (aT w [sM]) (cq e) (by rw[A,G];omega)) ?_);refine gA Z jr
  .have b0: ¬(cq e).kind=2:=zF hk;have B:zB (cq e)=kw:=by rw[zB,decide_eq_false b0];rfl
   rw[B,YK,be (by simp)]at u;refine gA Z (jI (d147 w [sM] (by simp) (by rw[bu,G];omega)) ?_);refine gA Z (D8 (G9 (cq e)) ?_);refine zJ Z Z (fun x=>?_) fun x=>?_
   .have j:ej (cq e)<3:=zT x;rw[nR,decide_eq_true j,ZL]at u;rw[u];refine gA Z (xn (d225 m y I J jp d hd (aT w [sM]) (cq e) (by rw[A,G];omega)) ?_);refine gA Z jr
   .have j: ¬ej (cq e)<3:=zF x;rw[nR,decide_eq_false j,YO,B,YK]at u;rw[u];refine gA Z (xn (d225 m y I J kw d hd (aT w [sM]) (cq e) (by rw[A,G];omega)) ?_);refine gA Z jr
 .have Y: ¬e.op=6:=zF Y;refine zE Z Z (fun h1=>?_) fun h1=>?_
  .have h1:w.bad=jp:=h1;rw[me,am h1];refine gA Z jr
  have h1: ¬w.bad=jp:=by rw[show w.bad=kw from h1];simp
  refine zE Z Z (fun C=>?_) fun C=>?_
  .have C: ¬e.args.length=2:=by simp at C;omega
   rw[me,be h1,be Y,be C];refine gA Z jr
  have C:e.args.length=2:=by simp at C;omega
  have hg:(cq e).ts+(Au e).ts<=_:=Expr.Ej e.args C;rw[me,be h1,be Y,am C];refine zJ Z Z (fun h3=>?_) fun h3=>?_
  .exact absurd (zT h3) (by omega)
  refine zJ Z Z (fun h7=>?_) fun h7=>?_
  .exact absurd (zT h7) (by simp)
  refine gA Z (D8 (G9 (cq e)) ?_);refine gA Z (D8 (Oc e.op) ?_);refine gA Z (xn (d225 m y I J (lc (ej (cq e)<cJ e.op)) d hd w (cq e) (by omega)) ?_);refine gA Z (zp (Wm e.op) ?_);have d0:=Kt m (lc (ej (cq e)<cJ e.op)) w (cq e);have e0:=A8 e.op;have e2:Eu.size=1:=rfl;have e3:eI [Eu,nQ e.op,Eu]=1+((nQ e.op).size+1):=by simp[eI,e2]
  refine gA Z (jI (d147 (xv m (lc (ej (cq e)<cJ e.op)) w (cq e)) [Eu,nQ e.op,Eu] (by simp) (by rw[e3];omega)) ?_);refine gA Z (D8 (G9 (Au e)) ?_);refine gA Z (D8 (Oc e.op) ?_);refine gA Z (xn (d225 m y I J (lc (ej (Au e)<=cJ e.op)) d hd (aT (xv m (lc (ej (cq e)<cJ e.op)) w (cq e)) [Eu,nQ e.op,Eu]) (Au e) (by rw[gW,e3];omega)) ?_);refine gA Z jr
theorem d189(d:Int)(J:0<=d)(Y:d<=1000)(w:WS)(e:Expr)(hb:w.l.length+e.ts<=1000000000)(k:WS)(hk:bf prog 246 [.ptr 0 0,ag e.c,pI (d-1)] (aU w (uo e)).O (.aY []) k.H 3):bf prog 212 [.ptr 0 0,ag e.c,pI d] w.O (.aY []) (kH w e k).H 3:=by
 have a0:=e.tx;refine ak ab func212 Z (by decide) ntmps212 Z (by simp) ?_;refine zE Z Z (fun h1=>?_) fun h1=>?_
 .have h1:w.bad=jp:=h1;rw[kH,am h1];refine gA Z jr
 have B: ¬w.bad=jp:=by rw[show w.bad=kw from h1];simp
 refine zJ Z Z (fun I=>?_) fun I=>?_
 .exact absurd (zT I) (by omega)
 refine zJ Z Z (fun C=>?_) fun C=>?_
 .have u:e.kind=1:=zT C;have A:kH w e k=aT (aU w (p5 e)) [e.var]:=by rw[kH,be B,am u]
  rw[A];refine gA Z (zp (D3 e.var) ?_);refine zE Z Z (fun g0=>?_) fun g0=>?_
  .have j:p5 e=kw:=by simp only[p5,en, *];rfl
   rw[j];refine gA Z (iX (d146 w kw) ?_);refine gA Z (jI (d147 (aU w kw) [e.var] (by simp) (by rw[bu,aR];omega)) ?_);refine gA Z jr
  refine zE Z Z (fun g1=>?_) fun g1=>?_
  .have j:p5 e=kw:=by simp only[p5,en, *];rfl
   rw[j];refine gA Z (iX (d146 w kw) ?_);refine gA Z (jI (d147 (aU w kw) [e.var] (by simp) (by rw[bu,aR];omega)) ?_);refine gA Z jr
  refine zE Z Z (fun g2=>?_) fun g2=>?_
  .have j:p5 e=kw:=by simp only[p5,en, *];rfl
   rw[j];refine gA Z (iX (d146 w kw) ?_);refine gA Z (jI (d147 (aU w kw) [e.var] (by simp) (by rw[bu,aR];omega)) ?_);refine gA Z jr
  have j:p5 e=lc ((e.args.length:Int)=0):=by simp only[p5,en, *];rfl
  rw[j];refine gA Z (iX (d146 w (lc ((e.args.length:Int)=0))) ?_);refine gA Z (jI (d147 (aU w (lc ((e.args.length:Int)=0))) [e.var] (by simp) (by rw[bu,aR];omega)) ?_);refine gA Z jr
 have u: ¬e.kind=1:=zF C;refine zJ Z Z (fun D=>?_) fun D=>?_
 .have x:e.kind=2:=zT D;have A:kH w e k=oi (aU w (rL e)) e.val:=by rw[kH,be B,be u,am x]
  rw[A];have b0:=sF e.val;refine zE Z Z (fun g0=>?_) fun g0=>?_
  .have j:rL e=kw:=by simp only[rL,en, *];rfl
   rw[j];refine gA Z (iX (d146 w kw) ?_);refine gA Z (iX (d149 (aU w kw) e.val (by rw[aR];omega) (by omega)) ?_);refine gA Z jr
  refine zE Z Z (fun g1=>?_) fun g1=>?_
  .have j:rL e=kw:=by simp only[rL,en, *];rfl
   rw[j];refine gA Z (iX (d146 w kw) ?_);refine gA Z (iX (d149 (aU w kw) e.val (by rw[aR];omega) (by omega)) ?_);refine gA Z jr
  have j:rL e=lc ((e.args.length:Int)=0):=by simp only[rL,en, *];rfl
  rw[j];refine gA Z (iX (d146 w (lc ((e.args.length:Int)=0))) ?_);refine gA Z (iX (d149 (aU w (lc ((e.args.length:Int)=0))) e.val (by rw[aR];omega) (by omega)) ?_);refine gA Z jr
 have x: ¬e.kind=2:=zF D;refine zJ Z Z (fun G=>?_) fun G=>?_
 .have y:e.kind=4:=zT G;have A:kH w e k=k:=by rw[kH,be B,be u,be x,am y]
  rw[A];refine zE Z Z (fun g0=>?_) fun g0=>?_
  .have j:uo e=kw:=by simp only[uo,en, *];rfl
   rw[j]at hk;refine gA Z (iX (d146 w kw) ?_);refine gA Z (iX (hk) ?_);refine gA Z jr
  refine zE Z Z (fun g1=>?_) fun g1=>?_
  .have j:uo e=kw:=by simp only[uo,en, *];rfl
   rw[j]at hk;refine gA Z (iX (d146 w kw) ?_);refine gA Z (iX (hk) ?_);refine gA Z jr
  refine gA Z (zp (Oc e.op) ?_);have j:uo e=lc (cJ e.op>0):=by simp only[uo,en, *];rfl
  rw[j]at hk;refine gA Z (iX (d146 w (lc (cJ e.op>0))) ?_);refine gA Z (iX (hk) ?_);refine gA Z jr
 have y: ¬e.kind=4:=zF G;rw[kH,be B,be u,be x,be y];refine gA Z jr
theorem pe0:PE 0:=fun d w e hd hb=>by
 refine ak ab func212 Z (by decide) ntmps212 Z (by simp) ?_;rw[c4]
 repeat' (first
  |((rename_i h;exact absurd (by omega:d<0) (zF h)))
  |(refine gA Z (zI (fun _=>?_) (fun _=>?_)))
  |(refine gA Z (yE (by first|exact .inr Z|exact .inl Z) Z Z Z Z Z (by first|exact .refl _|exact .kb _) (by first|exact .refl _|exact .kb _) Z Z Z Z (.refl _) Z Z)))
theorem Dr: ∀n,n<=900->PE n
 |0,_=>pe0
 |1,_=>fun d w e hd hb=>d189 d (by omega) (by omega) w e hb _ (Ve (d-1) (by omega) (aU w (uo e)) e)
 |m+2,h=>fun d w e hd hb=>d189 d (by omega) (by omega) w e (by omega) _ (d213 m (by omega) (Dr (m+1) (by omega)) (Dr m (by omega)) (d-1) (by omega) (aU w (uo e)) e (by rw[aR];omega))
theorem qk(w:WS)(e:Expr)(hb:w.l.length+e.ts<=900000000):bf prog 212 [.ptr 0 0,ag e.c,pI 16] w.O (.aY []) (c4 17 w e).H 3:=Dr 17 (by omega) 16 w e (by omega) (by omega)
def xj:aq:=⟨#[44,32]⟩
def RC:aq:=⟨#[95]⟩
def ff(i:Nat)(w:WS):WS:=if i=0 then w else aT w [xj]
def zy(t:Term):Bool:=gn t.var&&en t.val
def zA(t:Term):Bool:=lc (t.var=⟨#[]⟩)&&en t.val
def ln(w:WS)(t:Term):WS:=
 if t.kind=1 then aT (aU w (zy t)) [t.var] else if t.kind=2 then oi (aU w (lc (t.var=⟨#[]⟩))) t.val else if t.kind=3 then aT (aU w (zA t)) [RC] else oc w
def gH(l:List Term)(w:WS):Nat->WS
 |0=>w
 |i+1=>ln (ff i (gH l w i)) (l.getD i co)
def iH(w:WS)(a:Atom):WS:=aT (gH a.an (aT (aU w (fY a.rel)) [a.rel,sO]) a.an.length) [sC]
def Term.ts(t:Term):Nat:=t.var.size+310
def Atom.ts(a:Atom):Nat:=a.rel.size+10+(a.an.map Term.ts).sum
theorem jn(i:Nat)(w:WS):(ff i w).l.length<=w.l.length+2:=by
 have e:xj.size=2:=rfl;unfold ff;split
 .omega
 .rw[aK,e];omega
theorem FP(w:WS)(t:Term):(ln w t).l.length<=w.l.length+300+t.var.size:=by
 have e:RC.size=1:=rfl;unfold ln
 repeat' split
 .rw[aK,aR];omega
 .have:=u3 (aU w (lc (t.var=⟨#[]⟩))) t.val;rw[aR]at this;omega
 .rw[aK,aR,e];omega
 .rw[fw];omega
theorem xH: ∀(l:List Term) (i:Nat),i<l.length->((l.take i).map Term.ts).sum+(l.getD i co).ts<=(l.map Term.ts).sum
 | [],i,h=>by simp at h
 |s::r,0,_=>by simp
 |s::r,i+1,h=>by
  have:=xH r i (by simpa using h);simp at this ⊢;omega
theorem Ek: ∀(l:List Term) (i:Nat),((l.take i).map Term.ts).sum<=(l.map Term.ts).sum
 | [],i=>by simp
 |s::r,0=>by simp
 |s::r,i+1=>by have:=Ek r i;simp at this ⊢;omega
theorem qt(l:List Term)(w:WS): ∀i,i<=l.length->(gH l w i).l.length<=w.l.length+((l.take i).map Term.ts).sum
 |0,_=>by simp[gH]
 |i+1,h=>by
  have h1:=qt l w i (by omega);have j:=jn i (gH l w i);have u:=FP (ff i (gH l w i)) (l.getD i co);have x:(l.getD i co).ts=(l.getD i co).var.size+310:=rfl;have y:((l.take (i+1)).map Term.ts).sum=((l.take i).map Term.ts).sum+(l.getD i co).ts:=by
   rw[bS (by omega),W4,List.sum_append];simp
  rw[gH];omega
theorem pG(w:WS)(a:Atom):(iH w a).l.length<=w.l.length+a.ts:=by
 have j:sO.size=1:=rfl;have u:sC.size=1:=rfl;have x:eI [a.rel,sO]=a.rel.size+1:=by simp[eI,j]
 have h1:=qt a.an (aT (aU w (fY a.rel)) [a.rel,sO]) a.an.length (WY _);rw[gW,x,aR,X7]at h1;rw[iH,aK,u];unfold Atom.ts;omega
theorem yk: ∀l:List Term,l.length<=(l.map Term.ts).sum
 | []=>by simp
 |t::r=>by have:=yk r;simp[Term.ts]at this ⊢;omega
set_option maxHeartbeats 1000000 in
theorem d104(w:WS)(a:Atom)(hb:w.l.length+a.ts<=900000000):bf prog 123 [.ptr 0 0,ag a.c] w.O (.aY []) (iH w a).H 3:=by
 have Y:sO.size=1:=rfl;have e2:sC.size=1:=rfl;have A:xj.size=2:=rfl;have e5:RC.size=1:=rfl;have J:eI [a.rel,sO]=a.rel.size+1:=by simp[eI,Y]
 have i0:a.ts=a.rel.size+10+(a.an.map Term.ts).sum:=rfl;have d0:=yk a.an;have b0:(aT (aU w (fY a.rel)) [a.rel,sO]).l.length=w.l.length+(a.rel.size+1):=by rw[gW,J,aR]
 refine ak ab func123 Z (by decide) ntmps123 Z (by simp) ?_;refine gA Z (zp (Vk a.rel) ?_);refine gA Z (iX (d146 w (fY a.rel)) ?_);refine gA Z (jI (d147 (aU w (fY a.rel)) [a.rel,sO] (by simp) (by rw[J,aR];omega)) ?_);generalize hW:aT (aU w (fY a.rel)) [a.rel,sO]=w1 at*
 refine gA Z ?_;refine aM 0 a.an.length (W2 _) (fun i=>⟨[(0,.ptr 0 0),(17,.iv (aW 5 a.an Term.c)),(18,pI a.an.length),(19,pI i)],[(0,io ((gH a.an w1 i).rf 0 6)),(6,io (.bw (gH a.an w1 i).l 5))],7⟩) (fun _=>True) _ ac
  (KH (w:=w1) Z Z Z Z Z (.refl _) (.refl _) Z Z Z Z Z (bi (bi (bi (bi trivial))))) fun i hi _=>?_
 have c0:=qt a.an w1 i hi;have e0:=Ek a.an i;refine zE Z Z (fun h1=>?_) fun h1=>?_
 .have h1:a.an.length<=i:=zG h1;have I:i=a.an.length:=by omega
  subst I;refine gA Z (jI (d147 (gH a.an w1 a.an.length) [sC] (by simp) (by rw[bu,e2];omega)) ?_);rw[iH,hW];refine gA Z jr
 have h1:i<a.an.length:=zN h1;have f0:=xH a.an i h1;have hs:gH a.an w1 (i+1)=ln (ff i (gH a.an w1 i)) (a.an.getD i co):=rfl;have ht:(a.an.getD i co).ts=(a.an.getD i co).var.size+310:=rfl;have j0:=sF (a.an.getD i co).val;have a0:=jn i (gH a.an w1 i);generalize hT:gH a.an w1 i=w2 at*
 refine zJ Z Z (fun B=>?_) fun B=>?_
 .have B: ¬i=0:=by have:=zT B;omega
  rw[ff,be B]at hs;refine gA Z (jI (d147 w2 [xj] (by simp) (by rw[bu,A];omega)) ?_);refine zJ Z Z (fun C=>?_) fun C=>?_
  .have j:(a.an.getD i co).kind=1:=zT C;rw[ln,am j]at hs;refine gA Z (zp (D3 (a.an.getD i co).var) ?_);refine zE Z Z (fun g0=>?_) fun g0=>?_
   .have x:zy (a.an.getD i co)=kw:=by have g:gn (a.an.getD i co).var=kw:=g0;rw[zy,g];rfl
    rw[x]at hs;refine gA Z (iX (d146 (aT w2 [xj]) kw) ?_);refine gA Z (jI (d147 (aU (aT w2 [xj]) kw) [(a.an.getD i co).var] (by simp) (by rw[bu,aR];first|omega|(rw[aK,A];omega))) ?_);refine gA Z ⟨h1,ac,_,rn (hs.symm)⟩
   have x:zy (a.an.getD i co)=en (a.an.getD i co).val:=by have g:gn (a.an.getD i co).var=jp:=g0;rw[zy,g];rfl
   rw[x]at hs;refine gA Z (iX (d146 (aT w2 [xj]) (en (a.an.getD i co).val)) ?_);refine gA Z (jI (d147 (aU (aT w2 [xj]) (en (a.an.getD i co).val)) [(a.an.getD i co).var] (by simp) (by rw[bu,aR];first|omega|(rw[aK,A];omega))) ?_);refine gA Z ⟨h1,ac,_,rn (hs.symm)⟩
  have j: ¬(a.an.getD i co).kind=1:=zF C;refine zJ Z Z (fun D=>?_) fun D=>?_
  .have u:(a.an.getD i co).kind=2:=zT D;rw[ln,be j,am u]at hs;refine gA Z (iX (d146 (aT w2 [xj]) (lc ((a.an.getD i co).var=⟨#[]⟩))) ?_);refine gA Z (iX (d149 (aU (aT w2 [xj]) (lc ((a.an.getD i co).var=⟨#[]⟩))) (a.an.getD i co).val (by rw[aR];first|omega|(rw[aK,A];omega)) (by omega)) ?_);refine gA Z ⟨h1,ac,_,rn (hs.symm)⟩
  have u: ¬(a.an.getD i co).kind=2:=zF D;refine zJ Z Z (fun G=>?_) fun G=>?_
  .have y:(a.an.getD i co).kind=3:=zT G;rw[ln,be j,be u,am y]at hs;refine zE Z Z (fun g0=>?_) fun g0=>?_
   .have x:zA (a.an.getD i co)=kw:=by have g:lc ((a.an.getD i co).var=⟨#[]⟩)=kw:=g0;rw[zA,g];rfl
    rw[x]at hs;refine gA Z (iX (d146 (aT w2 [xj]) kw) ?_);refine gA Z (jI (d147 (aU (aT w2 [xj]) kw) [RC] (by simp) (by rw[bu,aR];first|omega|(rw[aK,A];omega))) ?_);refine gA Z ⟨h1,ac,_,rn (hs.symm)⟩
   have x:zA (a.an.getD i co)=en (a.an.getD i co).val:=by have g:lc ((a.an.getD i co).var=⟨#[]⟩)=jp:=g0;rw[zA,g];rfl
   rw[x]at hs;refine gA Z (iX (d146 (aT w2 [xj]) (en (a.an.getD i co).val)) ?_);refine gA Z (jI (d147 (aU (aT w2 [xj]) (en (a.an.getD i co).val)) [RC] (by simp) (by rw[bu,aR];first|omega|(rw[aK,A];omega))) ?_);refine gA Z ⟨h1,ac,_,rn (hs.symm)⟩
  have y: ¬(a.an.getD i co).kind=3:=zF G;rw[ln,be j,be u,be y]at hs;refine gA Z ⟨h1,ac,_,rn (hs.symm)⟩
 .have B:i=0:=by have:=zF B;omega
  rw[ff,am B]at hs;refine zJ Z Z (fun C=>?_) fun C=>?_
  .have j:(a.an.getD i co).kind=1:=zT C;rw[ln,am j]at hs;refine gA Z (zp (D3 (a.an.getD i co).var) ?_);refine zE Z Z (fun g0=>?_) fun g0=>?_
   .have x:zy (a.an.getD i co)=kw:=by have g:gn (a.an.getD i co).var=kw:=g0;rw[zy,g];rfl
    rw[x]at hs;refine gA Z (iX (d146 w2 kw) ?_);refine gA Z (jI (d147 (aU w2 kw) [(a.an.getD i co).var] (by simp) (by rw[bu,aR];first|omega|(rw[aK,A];omega))) ?_);refine gA Z ⟨h1,ac,_,rn (hs.symm)⟩
   have x:zy (a.an.getD i co)=en (a.an.getD i co).val:=by have g:gn (a.an.getD i co).var=jp:=g0;rw[zy,g];rfl
   rw[x]at hs;refine gA Z (iX (d146 w2 (en (a.an.getD i co).val)) ?_);refine gA Z (jI (d147 (aU w2 (en (a.an.getD i co).val)) [(a.an.getD i co).var] (by simp) (by rw[bu,aR];first|omega|(rw[aK,A];omega))) ?_);refine gA Z ⟨h1,ac,_,rn (hs.symm)⟩
  have j: ¬(a.an.getD i co).kind=1:=zF C;refine zJ Z Z (fun D=>?_) fun D=>?_
  .have u:(a.an.getD i co).kind=2:=zT D;rw[ln,be j,am u]at hs;refine gA Z (iX (d146 w2 (lc ((a.an.getD i co).var=⟨#[]⟩))) ?_);refine gA Z (iX (d149 (aU w2 (lc ((a.an.getD i co).var=⟨#[]⟩))) (a.an.getD i co).val (by rw[aR];first|omega|(rw[aK,A];omega)) (by omega)) ?_);refine gA Z ⟨h1,ac,_,rn (hs.symm)⟩
  have u: ¬(a.an.getD i co).kind=2:=zF D;refine zJ Z Z (fun G=>?_) fun G=>?_
  .have y:(a.an.getD i co).kind=3:=zT G;rw[ln,be j,be u,am y]at hs;refine zE Z Z (fun g0=>?_) fun g0=>?_
   .have x:zA (a.an.getD i co)=kw:=by have g:lc ((a.an.getD i co).var=⟨#[]⟩)=kw:=g0;rw[zA,g];rfl
    rw[x]at hs;refine gA Z (iX (d146 w2 kw) ?_);refine gA Z (jI (d147 (aU w2 kw) [RC] (by simp) (by rw[bu,aR];first|omega|(rw[aK,A];omega))) ?_);refine gA Z ⟨h1,ac,_,rn (hs.symm)⟩
   have x:zA (a.an.getD i co)=en (a.an.getD i co).val:=by have g:lc ((a.an.getD i co).var=⟨#[]⟩)=jp:=g0;rw[zA,g];rfl
   rw[x]at hs;refine gA Z (iX (d146 w2 (en (a.an.getD i co).val)) ?_);refine gA Z (jI (d147 (aU w2 (en (a.an.getD i co).val)) [RC] (by simp) (by rw[bu,aR];first|omega|(rw[aK,A];omega))) ?_);refine gA Z ⟨h1,ac,_,rn (hs.symm)⟩
  have y: ¬(a.an.getD i co).kind=3:=zF G;rw[ln,be j,be u,be y]at hs;refine gA Z ⟨h1,ac,_,rn (hs.symm)⟩
end Go.Proofs.YtlmhfgbkchnfbaaGreatDoor
namespace Go.Proofs.YtlmhfgbkchnfbaaGreatDoor
open Go Go.Al
def C8:aq:=⟨#[110,111,116,32]⟩
def sL:aq:=⟨#[32,61,32]⟩
def sN:aq:=⟨#[32,123,32]⟩
def Hk:aq:=⟨#[32,58,32]⟩
def Bd:aq:=⟨#[32,125]⟩
def wD(op:Int):aq:=if op=1 then⟨#[32,61,32]⟩ else if op=2 then⟨#[32,33,61,32]⟩ else if op=3 then⟨#[32,60,32]⟩ else if op=4 then⟨#[32,60,61,32]⟩ else if op=5 then⟨#[32,62,32]⟩ else⟨#[32,62,61,32]⟩
def jX(f:Int):aq:=if f=1 then⟨#[99,111,117,110,116]⟩ else if f=2 then⟨#[115,117,109]⟩ else if f=3 then⟨#[109,105,110]⟩ else⟨#[109,97,120]⟩
def xb(w:WS)(n:Int):WS:=⟨w.fr,w.l,w.bad,w.br+n⟩
def dd(f:Lit->WS->WS)(l:List Lit)(w:WS):Nat->WS
 |0=>w
 |i+1=>if(dd f l w i).bad=jp then dd f l w i else f (l.getD i co) (ff i (dd f l w i))
def qN(w:WS)(a:gU):WS:=if a.func=1 then aU w (ki a.j4) else aT (c4 17 w a.j4) [Hk]
def Ax(f:Lit->WS->WS)(w:WS)(a:gU):WS:=
 if a.func<1∨5<=a.func∨16<=w.br∨a.body.length=0 then oc w
 else aT (xb (dd f a.body (xb (qN (aT (aU w (gn a.var)) [a.var,sL,jX a.func,sN]) a) 1) a.body.length) (-1)) [Bd]
def DB(f:Lit->WS->WS)(l:Lit)(w:WS):WS:=
 if l.kind=2 then iH (aT w [C8]) l.atom else if l.kind=1 then iH w l.atom
 else if l.kind=3 then(if l.op<1∨7<=l.op then oc (c4 17 w l.left) else c4 17 (aT (c4 17 w l.left) [wD l.op]) l.right)
 else if l.kind=4 then Ax f w l.agg else oc w
def dB:Nat->Lit->WS->WS
 |0,_,w=>w
 |n+1,l,w=>DB (dB n) l (aU w (lS l))
theorem bP: ∀(j:List aq) (w:WS),(aT w j).br=w.br
 | [],w=>rfl
 |s::r,w=>bP r (Bu w s)
theorem vP(w:WS)(b:Bool):(aU w b).br=w.br:=rfl
theorem Oo(w:WS):(oc w).br=w.br:=rfl
theorem xB(w:WS)(v:cS):(oi w v).br=w.br:=by rw[oi,bP];rfl
theorem BY(w k:WS)(e:Expr)(h:k.br=w.br):(kH w e k).br=w.br:=by
 unfold kH
 repeat' split
 .rfl
 .rw[bP];rfl
 .rw[xB];rfl
 .exact h
 .rfl
theorem IK(a0:Bool->WS->Expr->WS)(j: ∀b w a,(a0 b w a).br=w.br)(w:WS)(e:Expr):(me a0 w e).br=w.br:=by
 unfold me
 repeat' split
 .rfl
 .rw[j,bP,bP]
 .rw[j,bP]
 .rfl
 .rw[j,bP,j]
 .rfl
theorem mG: ∀(n:Nat) (w:WS) (e:Expr),(c4 n w e).br=w.br
 |0,w,e=>rfl
 |1,w,e=>by rw[c4];exact BY _ _ _ Z
 |m+2,w,e=>by
  rw[c4];refine BY _ _ _ ?_;rw[IK _ (fun b w a=>?_)]
  .rfl
  .split
   .rw[bP,mG m,bP]
   .exact mG (m+1) _ _
theorem pC(i:Nat)(w:WS):(ff i w).br=w.br:=by
 unfold ff;split
 .rfl
 .exact bP _ _
theorem HG(w:WS)(t:Term):(ln w t).br=w.br:=by
 unfold ln
 repeat' split
 .rw[bP];rfl
 .rw[xB];rfl
 .rw[bP];rfl
 .rfl
theorem xG(l:List Term)(w:WS): ∀i,(gH l w i).br=w.br
 |0=>rfl
 |i+1=>by rw[gH,HG,pC,xG l w i]
theorem mM(w:WS)(a:Atom):(iH w a).br=w.br:=by rw[iH,bP,xG,bP];rfl
theorem mK(f:Lit->WS->WS)(hf: ∀l w,(f l w).br=w.br)(l:List Lit)(w:WS): ∀i,(dd f l w i).br=w.br
 |0=>rfl
 |i+1=>by
  rw[dd];split
  .exact mK f hf l w i
  .rw[hf,pC,mK f hf l w i]
theorem IP(w:WS)(a:gU):(qN w a).br=w.br:=by
 unfold qN;split
 .rfl
 .rw[bP,mG]
theorem OA(f:Lit->WS->WS)(hf: ∀l w,(f l w).br=w.br)(w:WS)(a:gU):(Ax f w a).br=w.br:=by
 unfold Ax;split
 .rfl
 .rw[bP];show(dd _ _ _ _).br+ -1=_;rw[mK f hf];show(qN _ _).br+1+ -1=_;rw[IP,bP,vP];omega
theorem Nq(f:Lit->WS->WS)(hf: ∀l w,(f l w).br=w.br)(l:Lit)(w:WS):(DB f l w).br=w.br:=by
 unfold DB
 repeat' split
 .rw[mM,bP]
 .exact mM _ _
 .rw[Oo,mG]
 .rw[mG,bP,mG]
 .exact OA f hf _ _
 .rfl
theorem uH: ∀(n:Nat) (l:Lit) (w:WS),(dB n l w).br=w.br
 |0,_,_=>rfl
 |n+1,l,w=>by rw[dB,Nq (dB n) (uH n)];rfl
mutual
def Lit.ts:Lit->Nat
 | .mk _ a _ l r _ v o b _=>100+a.ts+l.ts+r.ts+v.size+o.ts+Lit.lf b
def Lit.lf:List Lit->Nat
 | []=>0
 |e::r=>e.ts+Lit.lf r
end
theorem Lit.tx(l:Lit):l.ts=100+l.atom.ts+l.left.ts+l.right.ts+l.bF.size+l.kn.ts+Lit.lf l.ay:=by cases l;rfl
theorem Lit.AR: ∀(l:List Lit) (i:Nat),i<l.length->Lit.lf (l.take i)+(l.getD i co).ts<=Lit.lf l
 | [],i,h=>by simp at h
 |s::r,0,_=>by simp[Lit.lf]
 |s::r,i+1,h=>by
  have:=Lit.AR r i (by simpa using h);simp only[Ye,Lit.lf,Yj];omega
theorem Lit.HB: ∀(l:List Lit) (i:Nat),Lit.lf (l.take i)<=Lit.lf l
 | [],i=>by simp
 |s::r,0=>by simp[Lit.lf]
 |s::r,i+1=>by have:=Lit.HB r i;simp only[Ye,Lit.lf];omega
theorem Lit.Rl(l:Lit):100<=l.ts:=by rw[l.tx];omega
theorem Kb(op:Int):(wD op).size<=4:=by
 unfold wD
 repeat' split
 all_goals decide
theorem Cj(op:Int):(jX op).size<=5:=by
 unfold jX
 repeat' split
 all_goals decide
def OC(f:Lit->WS->WS):Prop:= ∀l w,(f l w).l.length+4<=w.l.length+l.ts
theorem mJ(f:Lit->WS->WS)(hf:OC f)(l:List Lit)(w:WS): ∀i,i<=l.length->(dd f l w i).l.length<=w.l.length+Lit.lf (l.take i)
 |0,_=>by simp[dd,Lit.lf]
 |i+1,h=>by
  have h1:=mJ f hf l w i (by omega);have y:Lit.lf (l.take (i+1))=Lit.lf (l.take i)+(l.getD i co).ts:=by
   rw[bS (by omega)];have: ∀(a:List Lit) (b:Lit),Lit.lf (a++ [b])=Lit.lf a+b.ts:=by
    intro a b
    induction a with
    |nil=>simp[Lit.lf]
    |cons x r ih=>simp only[Xe,Lit.lf,ih];omega
   exact this _ _
  rw[dd];split
  .omega
  .have j:=hf (l.getD i co) (ff i (dd f l w i));have u:=jn i (dd f l w i);omega
theorem ER(w:WS)(a:gU):(qN w a).l.length<=w.l.length+a.j4.ts+3:=by
 have e:Hk.size=3:=rfl;unfold qN;split
 .rw[aR];omega
 .have:=dr 17 w a.j4;rw[aK,e];omega
theorem yp(w:WS)(a:gU):(aT (aU w (gn a.var)) [a.var,sL,jX a.func,sN]).l.length<=w.l.length+a.var.size+11:=by
 have j:sL.size=3:=rfl;have u:sN.size=3:=rfl;have h:=Cj a.func;have e:eI [a.var,sL,jX a.func,sN]=a.var.size+(3+((jX a.func).size+3)):=by simp[eI,j,u]
 rw[gW,aR,e];omega
theorem Ky(f:Lit->WS->WS)(hf:OC f)(w:WS)(a:gU):(Ax f w a).l.length<=w.l.length+a.var.size+a.j4.ts+Lit.lf a.body+20:=by
 have e:Bd.size=2:=rfl;unfold Ax;split
 .rw[fw];omega
 .rw[aK,e];show(dd _ _ _ _).l.length+2<=_;have h1:=mJ f hf a.body (xb (qN (aT (aU w (gn a.var)) [a.var,sL,jX a.func,sN]) a) 1) a.body.length (WY _);rw[X7]at h1;have j:=ER (aT (aU w (gn a.var)) [a.var,sL,jX a.func,sN]) a;have u:=yp w a;have x:(xb (qN (aT (aU w (gn a.var)) [a.var,sL,jX a.func,sN]) a) 1).l.length=(qN (aT (aU w (gn a.var)) [a.var,sL,jX a.func,sN]) a).l.length:=rfl;omega
theorem I6(f:Lit->WS->WS)(hf:OC f)(l:Lit)(w:WS):(DB f l w).l.length+4<=w.l.length+l.ts:=by
 have y:=l.tx;have e:C8.size=4:=rfl;unfold DB
 repeat' split
 .have h1:=pG (aT w [C8]) l.atom;rw[aK,e]at h1;omega
 .have h1:=pG w l.atom;omega
 .have h1:=dr 17 w l.left;rw[fw];omega
 .have h1:=dr 17 w l.left;have j:=dr 17 (aT (c4 17 w l.left) [wD l.op]) l.right;have u:=Kb l.op;rw[aK]at j;omega
 .have h1:=Ky f hf w l.agg;have j:l.agg.var=l.bF:=rfl;have u:l.agg.j4=l.kn:=rfl;have x:l.agg.body=l.ay:=rfl;rw[j,u,x]at h1;omega
 .rw[fw];omega
theorem rU: ∀n,OC (dB n)
 |0=>fun l w=>by have:=l.Rl;rw[dB];omega
 |n+1=>fun l w=>I6 (dB n) (rU n) l (aU w (lS l))
theorem yP{f:Lit->WS->WS}{l:List Lit}{w:WS}{i:Nat}(h:(dd f l w i).bad=jp): ∀k,dd f l w (i+k)=dd f l w i
 |0=>rfl
 |k+1=>by
  have:=yP h k;rw[<-X3,dd,this,am h]
end Go.Proofs.YtlmhfgbkchnfbaaGreatDoor
namespace Go.Proofs.YtlmhfgbkchnfbaaGreatDoor
open Go Go.Al Go.Proofs.Tryz
def KA(n:Nat):Prop:= ∀(l:Lit) (w:WS),l.size<=n->0<=w.br->w.br<=16->w.l.length+l.ts<=900000000->bf prog 172 [.ptr 0 0,ag l.c] w.O (.aY []) (dB n l w).H 3
set_option maxHeartbeats 1000000 in
theorem d214(n:Nat)(D:KA n)(w:WS)(j:List Lit)(hs:Lit.aD j<=n)(I:0<=w.br)(J:w.br<=16)(hb:w.l.length+Lit.lf j+2<=900000000)(hn:n<=100000000):
  bf prog 124 [.ptr 0 0,.iv (lits j)] w.O (.aY []) (dd (dB n) j w j.length).H 3:=by
 have G:xj.size=2:=rfl;have b0:=Lit.aJ j;refine ak ab func124 Z (by decide) ntmps124 Z (by simp) ?_;refine gA Z ?_;refine aM 0 j.length (W2 _) (fun i=>⟨[(0,.ptr 0 0),(6,.iv (lits j)),(7,pI j.length),(8,pI i)],[(0,io ((dd (dB n) j w i).rf 0 2)),(2,io (.bw (dd (dB n) j w i).l 5))],3⟩) (fun _=>True) _ ac
  (KH (w:=w) Z Z Z Z Z (.refl _) (.refl _) Z Z Z Z Z (bi (bi (bi (bi trivial))))) fun i hi _=>?_
 have a0:=mJ (dB n) (rU n) j w i hi;have Y:=mK (dB n) (uH n) j w i;have d0:=Lit.HB j i;refine zE Z Z (fun h1=>?_) fun h1=>?_
 .have h1:j.length<=i:=zG h1;have C:i=j.length:=by omega
  subst C;refine gA Z jr
 have h1:i<j.length:=zN h1;have e0:=Lit.AR j i h1;have c0:=Lit.bT j i h1;have u:dd (dB n) j w (i+1)=if(dd (dB n) j w i).bad=jp then dd (dB n) j w i else dB n (j.getD i co) (ff i (dd (dB n) j w i)):=rfl;have x:=fun h=>yP (f:=dB n) (l:=j) (w:=w) (i:=i) h (j.length-i);rw[Nat.add_sub_cancel' (Nat.le_of_lt h1)]at x;have B:=jn i (dd (dB n) j w i);have A:=pC i (dd (dB n) j w i);generalize dd (dB n) j w i=w2 at*
 refine zJ Z Z (fun g=>?_) fun g=>?_
 .have g:w2.bad=jp:=g;rw[x g];refine gA Z jr
 have g: ¬w2.bad=jp:=by
  have g:w2.bad=kw:=g;rw[g];decide
 rw[be g]at u;refine zJ Z Z (fun y=>?_) fun y=>?_
 .have y: ¬i=0:=by have:=zT y;omega
  rw[ff,be y]at u B A;refine gA Z (jI (d147 w2 [xj] (by simp) (by rw[bu,G];omega)) ?_);refine gA Z (iX (D (j.getD i co) (aT w2 [xj]) (by omega) (by omega) (by omega) (by omega)) ?_);refine gA Z ⟨h1,ac,_,rn (u.symm)⟩
 .have y:i=0:=by have:=zF y;omega
  rw[ff,am y]at u B A;refine gA Z (iX (D (j.getD i co) w2 (by omega) (by omega) (by omega) (by omega)) ?_);refine gA Z ⟨h1,ac,_,rn (u.symm)⟩
def gU.ts(a:gU):Nat:=a.var.size+a.j4.ts+Lit.lf a.body
set_option maxHeartbeats 4000000 in
theorem d190(n:Nat)(ih:KA n)(w:WS)(a:gU)(hs:Lit.aD a.body<=n)(a0:0<=w.br)(b0:w.br<=16)(hb:w.l.length+a.ts+30<=900000000)(hn:n<=100000000):
  bf prog 213 [.ptr 0 0,ag a.c] w.O (.aY []) (Ax (dB n) w a).H 3:=by
 refine bf.le (args:=[.ptr 0 0,ag a.c1]) ?_ ⟨.refl _,a.DD,ac⟩;have e4:Bd.size=2:=rfl;have e5:Hk.size=3:=rfl;have c0:=Lit.aJ a.body;have d0:a.ts=a.var.size+a.j4.ts+Lit.lf a.body:=rfl;have hW: ¬(a.func<1∨5<=a.func∨16<=w.br∨a.body.length=0)->Ax (dB n) w a=aT (xb (dd (dB n) a.body (xb (qN (aT (aU w (gn a.var)) [a.var,sL,jX a.func,sN]) a) 1) a.body.length) (-1)) [Bd]:=fun h=>be h;have hB:a.func<1∨5<=a.func∨16<=w.br∨a.body.length=0->Ax (dB n) w a=oc w:=fun h=>am h;have hh:=yp w a;have A:=ER (aT (aU w (gn a.var)) [a.var,sL,jX a.func,sN]) a;have x:=IP (aT (aU w (gn a.var)) [a.var,sL,jX a.func,sN]) a;rw[bP,vP]at x;have B:(xb (qN (aT (aU w (gn a.var)) [a.var,sL,jX a.func,sN]) a) 1).l.length=(qN (aT (aU w (gn a.var)) [a.var,sL,jX a.func,sN]) a).l.length:=rfl;have C:(xb (qN (aT (aU w (gn a.var)) [a.var,sL,jX a.func,sN]) a) 1).br=(qN (aT (aU w (gn a.var)) [a.var,sL,jX a.func,sN]) a).br+1:=rfl;have y:=mJ (dB n) (rU n) a.body (xb (qN (aT (aU w (gn a.var)) [a.var,sL,jX a.func,sN]) a) 1) a.body.length (WY _);rw[X7]at y;have D:=mK (dB n) (uH n) a.body (xb (qN (aT (aU w (gn a.var)) [a.var,sL,jX a.func,sN]) a) 1) a.body.length;have G:eI [a.var,sL,jX a.func,sN]=a.var.size+(3+((jX a.func).size+3)):=by simp[eI,sL,sN];rfl
 have I:=Cj a.func;obtain⟨u,var,j,body⟩:=a;dsimp only at*
 refine ak ab func213 Z (by decide) ntmps213 Z (by simp) ?_;refine zE Z Z (fun g1=>?_) fun g1=>?_
 .rw[hB (.inl (zT g1))];refine gA Z jr
 refine zE Z Z (fun g2=>?_) fun g2=>?_
 .rw[hB (.inr (.inl (zT g2)))];refine gA Z jr
 refine zE Z Z (fun g3=>?_) fun g3=>?_
 .rw[hB (.inr (.inr (.inl (zT g3))))];refine gA Z jr
 refine zJ Z Z (fun g4=>?_) fun g4=>?_
 .rw[hB (.inr (.inr (.inr (aaj.1 (zT g4)))))];refine gA Z jr
 have g1: ¬u<1:=zF g1;have g2: ¬u>=5:=zF g2;have g3: ¬w.br>=16:=zF g3;have g4: ¬body.length=0:=fun h=>zF g4 (aaj.2 h);rw[hW (by rintro(h|h|h|h)<;>omega)];have hf:u=1∨u=2∨u=3∨u=4:=by omega
 clear hW hB;rcases hf with rfl|rfl|rfl|rfl
 .have e:jX 1=⟨#[99,111,117,110,116]⟩:=rfl;rw[e]at hh A x B C y D G I ⊢;refine gA Z (zp (D3 var) ?_);refine gA Z (iX (d146 w (gn var)) ?_);refine gA Z (Ac (d147 (aU w (gn var)) [var,sL,⟨#[99,111,117,110,116]⟩,sN] (by simp) (by rw[G,aR];omega)) Z Z Z Z Z Z Z Z Z Z Z Z Z Z Z Z (by(repeat' (first|exact ac|exact rfl|exact ae.refl _|exact ae.bk (by assumption)|apply WN))<;>first|omega|(simp only[WV];omega)|(simp;done)|(simp;omega)) Z (by(repeat' (first|exact ac|exact rfl|exact ae.refl _|exact ae.bk (by assumption)|apply WN))<;>first|omega|(simp only[WV];omega)|(simp;done)|(simp;omega)) ?_);generalize Y:aT (aU w (gn var)) [var,sL,⟨#[99,111,117,110,116]⟩,sN]=w1 at*
  have J:qN w1 ⟨1,var,j,body⟩=aU w1 (ki j):=rfl;rw[J]at A x B C y D ⊢;refine zE Z Z (fun q=>?_) fun q=>?_
  .exact absurd (show jp=kw from q) (by decide)
  refine gA Z (zp (Od j) ?_);refine gA Z (iX (d146 w1 (ki j)) ?_);generalize aU w1 (ki j)=w2 at*
  refine gA Z (iX (d214 n ih (xb w2 1) body hs (by omega) (by omega) (by omega) hn) ?_);generalize dd (dB n) body (xb w2 1) body.length=w3 at*
  refine gA Z (go_wp (d147 (xb w3 (-1)) [Bd] (by simp) (by rw[bu,e4];show w3.l.length+2<=_;omega)) Z Z Z Z Z Z Z Z Z Z Z Z ?_);refine gA Z jr
 .have e:jX 2=⟨#[115,117,109]⟩:=rfl;rw[e]at hh A x B C y D G I ⊢;refine gA Z (zp (D3 var) ?_);refine gA Z (iX (d146 w (gn var)) ?_);refine gA Z (Ac (d147 (aU w (gn var)) [var,sL,⟨#[115,117,109]⟩,sN] (by simp) (by rw[G,aR];omega)) Z Z Z Z Z Z Z Z Z Z Z Z Z Z Z Z (by(repeat' (first|exact ac|exact rfl|exact ae.refl _|exact ae.bk (by assumption)|apply WN))<;>first|omega|(simp only[WV];omega)|(simp;done)|(simp;omega)) Z (by(repeat' (first|exact ac|exact rfl|exact ae.refl _|exact ae.bk (by assumption)|apply WN))<;>first|omega|(simp only[WV];omega)|(simp;done)|(simp;omega)) ?_);generalize Y:aT (aU w (gn var)) [var,sL,⟨#[115,117,109]⟩,sN]=w1 at*
  have J:qN w1 ⟨2,var,j,body⟩=aT (c4 17 w1 j) [Hk]:=rfl;rw[J]at A x B C y D ⊢;refine zJ Z Z (fun q=>?_) fun q=>?_
  .exact absurd (show kw=jp from q) (by decide)
  have hx:=dr 17 w1 j;refine gA Z (iX (qk w1 j (by omega)) ?_);refine gA Z (jI (d147 (c4 17 w1 j) [Hk] (by simp) (by rw[bu,e5];omega)) ?_);generalize aT (c4 17 w1 j) [Hk]=w2 at*
  refine gA Z (iX (d214 n ih (xb w2 1) body hs (by omega) (by omega) (by omega) hn) ?_);generalize dd (dB n) body (xb w2 1) body.length=w3 at*
  refine gA Z (go_wp (d147 (xb w3 (-1)) [Bd] (by simp) (by rw[bu,e4];show w3.l.length+2<=_;omega)) Z Z Z Z Z Z Z Z Z Z Z Z ?_);refine gA Z jr
 .have e:jX 3=⟨#[109,105,110]⟩:=rfl;rw[e]at hh A x B C y D G I ⊢;refine gA Z (zp (D3 var) ?_);refine gA Z (iX (d146 w (gn var)) ?_);refine gA Z (Ac (d147 (aU w (gn var)) [var,sL,⟨#[109,105,110]⟩,sN] (by simp) (by rw[G,aR];omega)) Z Z Z Z Z Z Z Z Z Z Z Z Z Z Z Z (by(repeat' (first|exact ac|exact rfl|exact ae.refl _|exact ae.bk (by assumption)|apply WN))<;>first|omega|(simp only[WV];omega)|(simp;done)|(simp;omega)) Z (by(repeat' (first|exact ac|exact rfl|exact ae.refl _|exact ae.bk (by assumption)|apply WN))<;>first|omega|(simp only[WV];omega)|(simp;done)|(simp;omega)) ?_);generalize Y:aT (aU w (gn var)) [var,sL,⟨#[109,105,110]⟩,sN]=w1 at*
  have J:qN w1 ⟨3,var,j,body⟩=aT (c4 17 w1 j) [Hk]:=rfl;rw[J]at A x B C y D ⊢;refine zJ Z Z (fun q=>?_) fun q=>?_
  .exact absurd (show kw=jp from q) (by decide)
  have hx:=dr 17 w1 j;refine gA Z (iX (qk w1 j (by omega)) ?_);refine gA Z (jI (d147 (c4 17 w1 j) [Hk] (by simp) (by rw[bu,e5];omega)) ?_);generalize aT (c4 17 w1 j) [Hk]=w2 at*
  refine gA Z (iX (d214 n ih (xb w2 1) body hs (by omega) (by omega) (by omega) hn) ?_);generalize dd (dB n) body (xb w2 1) body.length=w3 at*
  refine gA Z (go_wp (d147 (xb w3 (-1)) [Bd] (by simp) (by rw[bu,e4];show w3.l.length+2<=_;omega)) Z Z Z Z Z Z Z Z Z Z Z Z ?_);refine gA Z jr
 .have e:jX 4=⟨#[109,97,120]⟩:=rfl;rw[e]at hh A x B C y D G I ⊢;refine gA Z (zp (D3 var) ?_);refine gA Z (iX (d146 w (gn var)) ?_);refine gA Z (Ac (d147 (aU w (gn var)) [var,sL,⟨#[109,97,120]⟩,sN] (by simp) (by rw[G,aR];omega)) Z Z Z Z Z Z Z Z Z Z Z Z Z Z Z Z (by(repeat' (first|exact ac|exact rfl|exact ae.refl _|exact ae.bk (by assumption)|apply WN))<;>first|omega|(simp only[WV];omega)|(simp;done)|(simp;omega)) Z (by(repeat' (first|exact ac|exact rfl|exact ae.refl _|exact ae.bk (by assumption)|apply WN))<;>first|omega|(simp only[WV];omega)|(simp;done)|(simp;omega)) ?_);generalize Y:aT (aU w (gn var)) [var,sL,⟨#[109,97,120]⟩,sN]=w1 at*
  have J:qN w1 ⟨4,var,j,body⟩=aT (c4 17 w1 j) [Hk]:=rfl;rw[J]at A x B C y D ⊢;refine zJ Z Z (fun q=>?_) fun q=>?_
  .exact absurd (show kw=jp from q) (by decide)
  have hx:=dr 17 w1 j;refine gA Z (iX (qk w1 j (by omega)) ?_);refine gA Z (jI (d147 (c4 17 w1 j) [Hk] (by simp) (by rw[bu,e5];omega)) ?_);generalize aT (c4 17 w1 j) [Hk]=w2 at*
  refine gA Z (iX (d214 n ih (xb w2 1) body hs (by omega) (by omega) (by omega) hn) ?_);generalize dd (dB n) body (xb w2 1) body.length=w3 at*
  refine gA Z (go_wp (d147 (xb w3 (-1)) [Bd] (by simp) (by rw[bu,e4];show w3.l.length+2<=_;omega)) Z Z Z Z Z Z Z Z Z Z Z Z ?_);refine gA Z jr
set_option maxHeartbeats 4000000 in
theorem G5(n:Nat)(ih:KA n)(hn:n<=100000000):KA (n+1):=by
 intro l w hs Y a0 hb;have G:C8.size=4:=rfl;have C:=l.size_eq;have D:=l.tx;have B:l.agg.ts=l.bF.size+l.kn.ts+Lit.lf l.ay:=rfl;have J:dB (n+1) l w=DB (dB n) l (aU w (lS l)):=rfl;rw[J];have b0:(aU w (lS l)).l.length=w.l.length:=rfl;have c0:=vP w (lS l);have hx:=dr 17 (aU w (lS l)) l.left;obtain⟨kind,atom,op,left,right,dU,bF,kn,ay,at_⟩:=l;dsimp only[Lit.atom,Lit.left,Lit.right,Lit.bF,Lit.kn,Lit.ay]at C D B hx;refine ak ab func172 Z (by decide) ntmps172 Z (by simp) ?_;refine gA Z (zp (Wr (.mk kind atom op left right dU bF kn ay at_)) ?_);refine gA Z (iX (d146 w (lS (.mk kind atom op left right dU bF kn ay at_))) ?_);generalize aU w (lS (.mk kind atom op left right dU bF kn ay at_))=w1 at*
 have I:DB (dB n) (.mk kind atom op left right dU bF kn ay at_) w1=if kind=2 then iH (aT w1 [C8]) atom else if kind=1 then iH w1 atom
  else if kind=3 then(if op<1∨7<=op then oc (c4 17 w1 left) else c4 17 (aT (c4 17 w1 left) [wD op]) right)
  else if kind=4 then Ax (dB n) w1 (Lit.mk kind atom op left right dU bF kn ay at_).agg else oc w1:=rfl
 rw[I];refine zJ Z Z (fun x=>?_) fun x=>?_
 .have x:kind=2:=zT x;rw[am x];refine gA Z (jI (d147 w1 [C8] (by simp) (by rw[bu,G];omega)) ?_);refine gA Z (iX (d104 (aT w1 [C8]) atom (by rw[aK,G];omega)) ?_);refine gA Z jr
 have x: ¬kind=2:=zF x;rw[be x];refine zJ Z Z (fun u=>?_) fun u=>?_
 .have u:kind=1:=zT u;rw[am u];refine gA Z (iX (d104 w1 atom (by omega)) ?_);refine gA Z jr
 have u: ¬kind=1:=zF u;rw[be u];refine zE Z Z (fun y=>?_) fun y=>?_
 .have y: ¬kind=3:=zF y;rw[be y];refine zJ Z Z (fun A=>?_) fun A=>?_
  .have A:kind=4:=zT A;rw[am A];refine gA Z (iX (d190 n ih w1 (Lit.mk kind atom op left right dU bF kn ay at_).agg (by show Lit.aD ay<=n;omega) (by omega) (by omega) (by omega) hn) ?_);refine gA Z jr
  .have A: ¬kind=4:=zF A;rw[be A];refine gA Z jr
 have y:kind=3:=zT y;rw[am y];refine gA Z (iX (qk w1 left (by omega)) ?_);refine zE Z Z (fun g1=>?_) fun g1=>?_
 .rw[am (.inl (zT g1))];refine gA Z jr
 refine zJ Z Z (fun g2=>?_) fun g2=>?_
 .rw[am (.inr (zT g2))];refine gA Z jr
 have g1: ¬op<1:=zF g1;have g2: ¬op>=7:=zF g2;rw[be (by rintro(h|h)<;>omega)];generalize c4 17 w1 left=w2 at*
 have ho:op=1∨op=2∨op=3∨op=4∨op=5∨op=6:=by omega
 clear I J;rcases ho with rfl|rfl|rfl|rfl|rfl|rfl
 .have e:wD 1=⟨#[32,61,32]⟩:=rfl;have j:((⟨#[32,61,32]⟩:aq)).size=3:=rfl;rw[e];refine gf Z (by dsimp only[Lit.op];exact(by(repeat' (first|exact ac|exact rfl|exact ae.refl _|exact ae.bk (by assumption)|apply WN))<;>first|omega|(simp only[WV];omega)|(simp;done)|(simp;omega))) (go_wp (d147 w2 [⟨#[32,61,32]⟩] (by simp) (by rw[bu,j];omega)) Z Z Z Z Z Z Z Z Z Z Z Z ?_);refine gA Z (iX (qk (aT w2 [⟨#[32,61,32]⟩]) right (by rw[aK,j];omega)) ?_);refine gA Z jr
 .have e:wD 2=⟨#[32,33,61,32]⟩:=rfl;have j:((⟨#[32,33,61,32]⟩:aq)).size=4:=rfl;rw[e];refine gf Z (by dsimp only[Lit.op];exact(by(repeat' (first|exact ac|exact rfl|exact ae.refl _|exact ae.bk (by assumption)|apply WN))<;>first|omega|(simp only[WV];omega)|(simp;done)|(simp;omega))) (go_wp (d147 w2 [⟨#[32,33,61,32]⟩] (by simp) (by rw[bu,j];omega)) Z Z Z Z Z Z Z Z Z Z Z Z ?_);refine gA Z (iX (qk (aT w2 [⟨#[32,33,61,32]⟩]) right (by rw[aK,j];omega)) ?_);refine gA Z jr
 .have e:wD 3=⟨#[32,60,32]⟩:=rfl;have j:((⟨#[32,60,32]⟩:aq)).size=3:=rfl;rw[e];refine gf Z (by dsimp only[Lit.op];exact(by(repeat' (first|exact ac|exact rfl|exact ae.refl _|exact ae.bk (by assumption)|apply WN))<;>first|omega|(simp only[WV];omega)|(simp;done)|(simp;omega))) (go_wp (d147 w2 [⟨#[32,60,32]⟩] (by simp) (by rw[bu,j];omega)) Z Z Z Z Z Z Z Z Z Z Z Z ?_);refine gA Z (iX (qk (aT w2 [⟨#[32,60,32]⟩]) right (by rw[aK,j];omega)) ?_);refine gA Z jr
 .have e:wD 4=⟨#[32,60,61,32]⟩:=rfl;have j:((⟨#[32,60,61,32]⟩:aq)).size=4:=rfl;rw[e];refine gf Z (by dsimp only[Lit.op];exact(by(repeat' (first|exact ac|exact rfl|exact ae.refl _|exact ae.bk (by assumption)|apply WN))<;>first|omega|(simp only[WV];omega)|(simp;done)|(simp;omega))) (go_wp (d147 w2 [⟨#[32,60,61,32]⟩] (by simp) (by rw[bu,j];omega)) Z Z Z Z Z Z Z Z Z Z Z Z ?_);refine gA Z (iX (qk (aT w2 [⟨#[32,60,61,32]⟩]) right (by rw[aK,j];omega)) ?_);refine gA Z jr
 .have e:wD 5=⟨#[32,62,32]⟩:=rfl;have j:((⟨#[32,62,32]⟩:aq)).size=3:=rfl;rw[e];refine gf Z (by dsimp only[Lit.op];exact(by(repeat' (first|exact ac|exact rfl|exact ae.refl _|exact ae.bk (by assumption)|apply WN))<;>first|omega|(simp only[WV];omega)|(simp;done)|(simp;omega))) (go_wp (d147 w2 [⟨#[32,62,32]⟩] (by simp) (by rw[bu,j];omega)) Z Z Z Z Z Z Z Z Z Z Z Z ?_);refine gA Z (iX (qk (aT w2 [⟨#[32,62,32]⟩]) right (by rw[aK,j];omega)) ?_);refine gA Z jr
 .have e:wD 6=⟨#[32,62,61,32]⟩:=rfl;have j:((⟨#[32,62,61,32]⟩:aq)).size=4:=rfl;rw[e];refine gf Z (by dsimp only[Lit.op];exact(by(repeat' (first|exact ac|exact rfl|exact ae.refl _|exact ae.bk (by assumption)|apply WN))<;>first|omega|(simp only[WV];omega)|(simp;done)|(simp;omega))) (go_wp (d147 w2 [⟨#[32,62,61,32]⟩] (by simp) (by rw[bu,j];omega)) Z Z Z Z Z Z Z Z Z Z Z Z ?_);refine gA Z (iX (qk (aT w2 [⟨#[32,62,61,32]⟩]) right (by rw[aK,j];omega)) ?_);refine gA Z jr
theorem Sl: ∀n,n<=100000001->KA n
 |0,_=>fun l w hs=>by have:=l.size_pos;omega
 |n+1,h=>G5 n (Sl n (by omega)) (by omega)
section
abbrev WS.o:WS:=⟨jp,[],kw,0⟩
section
variable {nt:NT} {Q:AQ} {k:List KI} {s:AS}
def wN(s:AS)(i:Nat):AS:=match s with|⟨f,h,n⟩=>⟨f,(i,io (WS.o.rf i n))::(n,io (.bw [] 5))::h,n+1⟩
theorem Ab{P:Program}{c:Code}{s':AS}(i:Nat)(hi:s.h.get i=io (.cells [.iv (.v (.pointer is)),.iv (.v (.slice is 0 0)),pB kw,pI 0] (io 186)))
  (hs:wN s i=s') (h:GO P nt (.code c::k) Q s'):GO P nt (.code c::k) Q s:=by
 subst hs;intro M N a w hf;obtain⟨sf,sh,x⟩:=s;obtain⟨h1,h2⟩:=hf.1.OH 5;have G:i<x:=hf.1.used i _ hi;have I:i≠x:=fun e=>by omega
 have y:AH.get ((x,io (AO.bw [] 5))::sh) i=io (.cells [.iv (.v (.pointer is)),.iv (.v (.slice is 0 0)),pB kw,pI 0] (io 186)):=by
  rw[AH.ax,be I];exact hi
 obtain⟨A,T,e1,e2,e3,B,e5⟩:=h2.obj i _ y;have hv: ∀(j:Nat) (p:PV),[PV.eS jp i,.sl x 0 0 1,pB kw,pI 0][j]? =io p->VR M N (· <x+1) p (A.getD j undef):=by
  intro j p u
  match j,u with
  |0,u=>
   cases u;have:=B 0 _ Z;generalize A.getD 0 undef=v at this ⊢;cases this with
   |iv _ _ h=>cases h with
    |v=>exact .eS jp i (Ys G)
  |1,u=>
   cases u;have:=B 1 _ Z;generalize A.getD 1 undef=v at this ⊢;cases this with
   |iv _ _ h=>cases h with
    |v=>exact .lq _ _ (YA _)
  |2,u=>exact B 2 p u
  |3,u=>exact B 3 p u
  |j+4,u=>cases u
 obtain⟨g1,g2⟩:=h2.write (i:=i) (o0:= .cells [.iv (.v (.pointer is)),.iv (.v (.slice is 0 0)),pB kw,pI 0] (io 186)) y Z w (WS.o.rf i x) Z Z Z Z (fun _ _=>rfl) ⟨A,T,e1,e2,e3,hv,e5⟩;have C:Fits M N ⟨sf,(i,io (WS.o.rf i x))::(x,io (.bw [] 5))::sh,x+1⟩ nt a w:=
  ⟨g2,fun k=>(hf.2.1 k).mono (.refl _) (.refl _ _) (fun i hi=>Ys hi),hf.2.2⟩
 exact AW.then h C fun e a2 w2 M2 N2 s2 Y D J=>⟨M2,N2,s2,(h1.trans g1).trans Y,D,J⟩
end
def WS.told(w:WS):PV:= .aY [pS (if w.bad=jp then⟨#[]⟩ else⟨w.l.toArray⟩),pI (if w.bad=jp then 50 else 0)]
theorem d105(w:WS):bf prog 94 [.ptr 0 0] w.O w.told [] 2:=by
 refine ak ab func94 Z (by decide) ntmps94 Z (by simp) ?_;refine zJ Z Z (fun g=>?_) fun g=>?_
 .have g:w.bad=jp:=g;unfold WS.told;rw[am g,am g];refine gA Z (zD [] Z (zW ac))
 .have g: ¬w.bad=jp:=by
   have g:w.bad=kw:=g;rw[g];decide
  unfold WS.told;rw[be g,be g];refine gA Z (zq [0,1] (d150 w) ?_);refine gA Z (zD [] Z (zW ac))
def Vo(a:Atom):PV:=(iH WS.o a).told
def V3(l:Lit):PV:=(dB l.size l WS.o).told
theorem c61(a:Atom)(hb:a.ts<=900000000):Pure prog 175 [ag a.c] (Vo a):=by
 refine ah ab func175 Z (by decide) ntmps175 Z (by simp) Z ?_;refine gM 12 Z (Ab 1 Z Z ?_);refine gA Z (iX (d104 WS.o a (by simpa using hb)) ?_);refine gA Z (zq [1,3] (d105 (iH WS.o a)) ?_);exact zU Z
theorem WC(l:Lit)(hb:l.ts<=900000000)(hs:l.size<=100000000):Pure prog 176 [ag l.c] (V3 l):=by
 refine ah ab func176 Z (by decide) ntmps176 Z (by simp) Z ?_;refine gM 12 Z (Ab 1 Z Z ?_);refine gA Z (iX (Sl l.size (by omega) l WS.o (WY _) (by decide) (by decide) (by simpa using hb)) ?_);refine gA Z (zq [1,3] (d105 (dB l.size l WS.o)) ?_);exact zU Z
end
def qH(d:Decl)(i k:Int):Int:=
 if(d.types.any fun x=>!lc (x=1)&&!lc (x=2))=jp∨fY d.name=kw then 1
 else if i>=64∨(d.types.length:Int)>8 then 66 else if k>0 then 60 else 0
theorem WD(d:Decl)(i k:Int):Pure prog 127 [ag d.c,pI i,pI k] (pI (qH d i k)):=by
 refine ah ab func127 Z (by decide) ntmps127 Z (by simp) Z ?_;refine gA Z (zq [] (d153 d.types) ?_);refine zE Z Z (fun g1=>?_) fun g1=>?_
 .rw[qH,am (.inl (by simpa using g1))];exact zU Z
 have g1: ¬(d.types.any fun x=>!lc (x=1)&&!lc (x=2))=jp:=by
  have g1:(d.types.any fun x=>!lc (x=1)&&!lc (x=2))=kw:=g1;rw[g1];decide
 refine gA Z (zp (Vk d.name) ?_);refine zJ Z Z (fun g2=>?_) fun g2=>?_
 .have g2:fY d.name=kw:=by simpa using g2
  rw[qH,am (.inr g2)];exact zU Z
 have g2: ¬fY d.name=kw:=by
  have g2:fY d.name=jp:=by simpa using g2
  rw[g2];decide
 rw[qH,be (by rintro(h|h);exact g1 h;exact g2 h)];refine zE Z Z (fun g3=>?_) fun g3=>?_
 .rw[am (.inl (by simpa using g3))];exact zU Z
 have g3: ¬i>=64:=zF g3;refine zJ Z Z (fun g4=>?_) fun g4=>?_
 .rw[am (.inr (zT g4))];exact zU Z
 have g4: ¬(d.types.length:Int)>8:=zF g4;rw[be (by rintro(h|h);exact g3 h;exact g4 h)];refine zJ Z Z (fun g5=>?_) fun g5=>?_
 .rw[am (zT g5)];exact zU Z
 .rw[be (zF g5)];exact zU Z
abbrev cB:=(KC.si .i64).K
def cB.z:cB:=(W0,0)
def cB.c(s:cB):List IV:=[iS s.1,iI s.2]
def spE(s:cB):IV:= .agg s.c
def spZ:Value:= .agg #[.string W0,.int .i64 0]
def dvP:PV->cB
 | .agg [.iv (.v (.string s)),.iv (.v (.int _ a))]=>(s,a)
 |_=>cB.z
abbrev UM:=List (cB×cB)
abbrev KM:=List (cB×Int)
abbrev pT(m:UM):AO:= .map (.si .i64) spE cB.z spZ dvP m
abbrev upI(m:UM):IV:= .eO (.si .i64) spE cB.z spZ m
abbrev p8(m:KM):AO:= .map (.si .i64) AD 0 (.int .i64 0) V8 m
abbrev kdI(m:KM):IV:= .eO (.si .i64) AD 0 (.int .i64 0) m
structure Want where
 lit:Int
 at_:cB
 kind:Int
 has:Int
 deriving Inhabited
def Want.c(w:Want):List IV:=[iI w.lit,iS w.at_.1,iI w.at_.2,iI w.kind,iI w.has]
structure TS where
 up:UM
 ws:List Want
 kind:KM
abbrev TS.cell(r:aw)(u j n k:Nat):AO:= .cells [.iv (cI r),.mp u,.sl j 0 n 5,.mp k]
abbrev TS.O(r:aw)(t:TS):List AO:=[TS.cell r 1 2 t.ws.length 3,pT t.up,aX 5 t.ws Want.c,p8 t.kind]
abbrev TS.K(r:aw)(t:TS):AH:=[(0,io (TS.cell r 1 2 t.ws.length 3)),(1,io (pT t.up)),(2,io (aX 5 t.ws Want.c)),(3,io (p8 t.kind))]
abbrev TS.H(r:aw)(t:TS):AH:=[(0,io (TS.cell r 1 4 t.ws.length 3)),(1,io (pT t.up)),(4,io (aX 5 t.ws Want.c)),(3,io (p8 t.kind))]
def ep(r:aw)(s:aq)(w:Int):cB:=(s,if dW .str (aL (aI r)) s 0>0 then-1 else w)
theorem d136(r:aw)(t:TS)(s:aq)(w:Int):bf prog 249 [.ptr 0 0,pS s,pI w] (t.O r) (ag (ep r s w).c) (t.K r) 4:=by
 refine ak ab func249 Z (by decide) ntmps249 Z (by simp) ?_;refine zJ Z Z (fun g=>?_) fun g=>?_
 .have e:ep r s w=(s, -1):=by unfold ep;rw[am (zT g)]
  rw[e];refine gA Z (zD [] Z (zW (zO (zC ⟨⟨_,rfl,.of_eq (b5 _).symm⟩,WL Z,eJ _,zC ac⟩))))
 .have e:ep r s w=(s,w):=by unfold ep;rw[be (zF g)]
  rw[e];refine gA Z (zD [] Z (zW (zO (zC ⟨⟨_,rfl,.of_eq (b5 _).symm⟩,WL Z,eJ _,zC ac⟩))))
def bW:UM->cB->cB
 | [],v=>v
 |(x,y)::r,v=>if x=v then bW r y else bW r v
def jd:UM->Prop
 | []=>True
 |(x,y)::r=>x≠y∧(∀q∈r,q.1≠x)∧(∀q∈r,q.2≠x)∧jd r
def FN:UM->cB->Nat
 | [],_=>0
 |(x,_)::r,v=>if x=v then r.length+1 else FN r v
theorem Hx: ∀(m:UM) (v:cB),FN m v<=m.length
 | [],_=>WY _
 |(x,y)::r,v=>by
  have:=Hx r v;unfold FN;split
  .simp
  .simp;omega
theorem rE: ∀(m:UM) (v:cB),dx (.si .i64) m v=kw->bW m v=v
 | [],_,_=>rfl
 |(x,y)::r,v,h=>by
  unfold dx at h;unfold bW;split at h
  .cases h
  .rename_i j;rw[be j];exact rE r v h
theorem ow: ∀(m:UM) (v:cB),jd m->dx (.si .i64) m v=jp->bW m (dW (.si .i64) m v cB.z)=bW m v∧FN m (dW (.si .i64) m v cB.z)<FN m v
 | [],_,_,h=>nomatch h
 |(x,y)::r,v,ok,h=>by
  obtain⟨G,Y,I,J⟩:=ok;by_cases A:x=v
  .subst A;have e:dW (.si .i64) ((x,y)::r) x cB.z=y:=am Z;rw[e];refine⟨?_,?_⟩
   .show(if x=y then bW r y else bW r y)=if x=x then bW r y else bW r x;rw[am Z];split<;>rfl
   .show(if x=y then r.length+1 else FN r y)<if x=x then r.length+1 else FN r x;rw[am Z,be G];have:=Hx r y;omega
  .have e:dW (.si .i64) ((x,y)::r) v cB.z=dW (.si .i64) r v cB.z:=be A;have B:dx (.si .i64) r v=jp:=by
    unfold dx at h;rw[be A]at h;exact h
   rw[e];obtain⟨g1,g2⟩:=ow r v J B;have u:dW (.si .i64) r v cB.z≠x:=by
    have: ∀(m:UM),(∀q∈m,q.2≠x)->dx (.si .i64) m v=jp->dW (.si .i64) m v cB.z≠x:=by
     intro m
     induction m with
     |nil=>intro _ h;cases h
     |cons a r ih=>
      obtain⟨x',y'⟩:=a;intro C h;unfold dx at h;unfold dW;split at h
      .rename_i j;rw[am j];exact C _ W8
      .rename_i j;rw[be j];exact ih (fun q D=>C q (W5 _ D)) h
    exact this r I B
   refine⟨?_,?_⟩
   .show(if x=_ then bW r y else bW r _)=if x=v then bW r y else bW r v;rw[be (fun e=>u e.symm),be A];exact g1
   .show(if x=_ then r.length+1 else FN r _)<if x=v then r.length+1 else FN r v;rw[be (fun e=>u e.symm),be A];exact g2
theorem d52(r:aw)(t:TS)(v0:cB)(ok:jd t.up):bf prog 226 [.ptr 0 0,ag v0.c] (t.O r) (ag (bW t.up v0).c) (t.K r) 4:=by
 refine ak ab func226 Z (by decide) ntmps226 Z (by simp) ?_;refine gA Z ?_
 refine iC (σ:={v:cB//bW t.up v=bW t.up v0}) (fun v=>⟨[(0,.ptr 0 0),(3,.ptr 4 0),(4,.ptr 5 0)],
  [(0,io (TS.cell r 1 2 t.ws.length 3)),(1,io (pT t.up)),(2,io (aX 5 t.ws Want.c)),(3,io (p8 t.kind)),(4,io (.cells [pS v.1.1,pI v.1.2])),(5,io (.cells [pS ⟨#[]⟩,pI 0]))],6⟩) (fun v=>FN t.up v.1) ⟨v0,rfl⟩ []
  (zW (zO (zC ⟨⟨_,rfl,.of_eq (b5 _).symm⟩,WL Z,eJ _,zC ⟨⟨_,rfl,.of_eq Z⟩,WL Z,rfl,⟨_,rfl,.of_eq Z⟩,WL Z,rfl,ac⟩⟩))) fun v=>?_
 obtain⟨v,j⟩:=v;refine zJ Z Z (fun g=>?_) fun g=>?_
 .have h:dx (.si .i64) t.up v=kw:=by simpa using g
  have e:bW t.up v0=v:=by rw[<-j];exact rE t.up v h
  refine gA Z (zD [] Z (zM ⟨.of_eq (congrArg (fun x:cB=>ag x.c) e.symm),rfl,ac⟩ (zO (zC ⟨⟨_,rfl,.of_eq (b5 _).symm⟩,WL Z,eJ _,zC ac⟩))))
 .have h:dx (.si .i64) t.up v=jp:=by simpa using g
  obtain⟨h1,u⟩:=ow t.up v ok h;refine gA Z ⟨⟨dW (.si .i64) t.up v cB.z,h1.trans j⟩,[],u,zW (zO (zC ⟨⟨_,rfl,.of_eq (b5 _).symm⟩,WL Z,eJ _,zC ⟨⟨_,rfl,.of_eq Z⟩,WL Z,rfl,⟨_,rfl,.of_eq Z⟩,WL Z,rfl,ac⟩⟩))⟩
def Rj(r:aw)(t:TS):IV:= .lh [cI r,upI t.up,aW 5 t.ws Want.c,kdI t.kind]
theorem c52(r:aw)(t:TS)(v0:cB)(ok:jd t.up):Pure prog 226 [.iv (Rj r t),ag v0.c] (ag (bW t.up v0).c):=by
 refine ah ab func226 Z (by decide) ntmps226 Z (by simp) Z ?_;refine gA Z ?_
 refine iC (σ:={v:cB//bW t.up v=bW t.up v0}) (fun v=>⟨[(0,.iv (Rj r t)),(3,.ptr 0 0),(4,.ptr 1 0)],
  [(0,io (.cells [pS v.1.1,pI v.1.2])),(1,io (.cells [pS ⟨#[]⟩,pI 0]))],2⟩) (fun v=>FN t.up v.1) ⟨v0,rfl⟩ []
  (zW ⟨⟨_,rfl,.of_eq Z⟩,WL Z,rfl,⟨_,rfl,.of_eq Z⟩,WL Z,rfl,ac⟩) fun v=>?_
 obtain⟨v,j⟩:=v;refine zJ Z Z (fun g=>?_) fun g=>?_
 .have h:dx (.si .i64) t.up v=kw:=by simpa using g
  have e:bW t.up v0=v:=by rw[<-j];exact rE t.up v h
  refine gA Z (zL (.of_eq ?_));exact congrArg (fun x:cB=>ag x.c) e.symm
 .have h:dx (.si .i64) t.up v=jp:=by simpa using g
  obtain⟨h1,u⟩:=ow t.up v ok h;refine gA Z ⟨⟨dW (.si .i64) t.up v cB.z,h1.trans j⟩,[],u,zW ⟨⟨_,rfl,.of_eq Z⟩,WL Z,rfl,⟨_,rfl,.of_eq Z⟩,WL Z,rfl,ac⟩⟩
def u1(t:TS)(w:Want):Int:=if w.has=0 then dW (.si .i64) t.kind (bW t.up w.at_) 0 else w.has
def tw(t:TS)(lit:Int)(w:Want):Bool:=lc (w.lit=lit)&&!lc (u1 t w=w.kind)
def sD(t:TS)(lit:Int):Bool:=t.ws.any (tw t lit)
theorem Wz(r:aw)(t:TS)(lit:Int)(ok:jd t.up)(hb:t.ws.length<=1000000000000):Pure prog 188 [.iv (Rj r t),pI lit] (pB (sD t lit)):=by
 refine ah ab func188 Z (by decide) ntmps188 Z (by simp) Z ?_;refine gA Z ?_;refine aM 0 t.ws.length (W2 _) (fun i=>⟨[(0,.iv (Rj r t)),(1,pI lit),(11,.iv (aW 5 t.ws Want.c)),(12,pI t.ws.length),(13,pI i)],[],0⟩) (fun i=>(t.ws.take i).any (tw t lit)=kw) [] Z
  (zW trivial) fun i hi A=>?_
 refine zJ Z Z (fun h1=>?_) fun h1=>?_
 .have h1:i<t.ws.length:=by simpa using h1
  have y:=c5 A h1;refine zJ Z Z (fun x=>?_) fun x=>?_
  .have x:(t.ws.getD i co).has=0:=zT x;refine gA Z (D8 (c52 r t (t.ws.getD i co).at_ ok) ?_);have hk:u1 t (t.ws.getD i co)=dW (.si .i64) t.kind (bW t.up (t.ws.getD i co).at_) 0:=am x;refine zJ Z Z (fun j=>?_) fun j=>?_
   .have j:(t.ws.getD i co).lit=lit:=zT j;refine zJ Z Z (fun u=>?_) fun u=>?_
    .have u: ¬u1 t (t.ws.getD i co)=(t.ws.getD i co).kind:=by rw[hk];simpa using u
     have e:sD t lit=jp:=Yf.2 ⟨t.ws.getD i co,by rw[WQ,WU h1];exact XF h1,by rw[tw,decide_eq_true j,decide_eq_false u];rfl⟩;refine gA Z (zL (.of_eq ?_));rw[e]
    .have u:u1 t (t.ws.getD i co)=(t.ws.getD i co).kind:=by rw[hk];simpa using u
     refine gA Z ⟨h1,y.2 (by rw[tw,decide_eq_true u,Zd,Zi]),[],zW ac⟩
   .have j: ¬(t.ws.getD i co).lit=lit:=by simpa using j
    refine gA Z ⟨h1,y.2 (by rw[tw,decide_eq_false j];rfl),[],zW ac⟩
  .have x: ¬(t.ws.getD i co).has=0:=zF x;have hk:u1 t (t.ws.getD i co)=(t.ws.getD i co).has:=be x;refine zJ Z Z (fun j=>?_) fun j=>?_
   .have j:(t.ws.getD i co).lit=lit:=zT j;refine zJ Z Z (fun u=>?_) fun u=>?_
    .have u: ¬u1 t (t.ws.getD i co)=(t.ws.getD i co).kind:=by rw[hk];simpa using u
     have e:sD t lit=jp:=Yf.2 ⟨t.ws.getD i co,by rw[WQ,WU h1];exact XF h1,by rw[tw,decide_eq_true j,decide_eq_false u];rfl⟩;refine gA Z (zL (.of_eq ?_));rw[e]
    .have u:u1 t (t.ws.getD i co)=(t.ws.getD i co).kind:=by rw[hk];simpa using u
     refine gA Z ⟨h1,y.2 (by rw[tw,decide_eq_true u,Zd,Zi]),[],zW ac⟩
   .have j: ¬(t.ws.getD i co).lit=lit:=by simpa using j
    refine gA Z ⟨h1,y.2 (by rw[tw,decide_eq_false j];rfl),[],zW ac⟩
 .have h1:t.ws.length<=i:=by simpa using h1
  rw[W9 h1]at A;refine gA Z (zL (.of_eq ?_));rw[sD,A]
end Go.Proofs.YtlmhfgbkchnfbaaGreatDoor
