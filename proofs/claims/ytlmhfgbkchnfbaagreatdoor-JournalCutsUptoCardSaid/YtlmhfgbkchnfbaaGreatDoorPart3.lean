/-
  What the proofs of the claims need: part 3 of 6.
-/
import Derived.Test.YtlmhfgbkchnfbaaGreatDoorPart2
import Derived.Defers
import Derived.KernelRfl
import Derived.Test.YtlmhfgbkchnfbaaGreatDoorProg
import Derived.Sort.EncStr
import Derived.Sort.Grow
import Derived.Sort.Walk0
import Derived.Shelf.Sort.Plain
import Derived.Shelf.Slices.In.SortNone
import Derived.Shelf.Slices.In.SortNone2
import Derived.WalkKit
import Derived.Lib.Builder
import Derived.Lib.UnsafeStr
import Derived.Laws.Externs
import Derived.Shelf.RegionOpenPlain
import Derived.Laws.RangeString
import Derived.Shelf.LaysM
import Derived.Shelf.Strconv.Itoa3
import Derived.Lib.ItoaLen
open And renaming intro→W0
open Array renaming eq_empty_of_size_eq_zero→Yn,getD_eq_getD_getElem?→WZ,getElem?_append_left→XF,getElem?_eq_getElem→XJ,getElem?_eq_some_iff→Yh,getElem?_modify→XB,getElem?_setIfInBounds→XD,toArray_toList→YI
open Bool renaming and_eq_true→XR,and_false→Zv,eq_iff_iff→Yu,false_and→YW,false_eq_true→YQ,false_or→Y0,not_eq_true'→Ye,not_false→ZZ,not_true→Zs,or_eq_false_iff→YS,or_eq_true→Zc,true_and→ZD,true_or→ZY
open ByteArray renaming empty→Xb,size→aam
open Classical renaming byContradiction→Yx
open Int renaming fdiv_eq_ediv_of_nonneg→Yp,ofNat_eq_zero→aax,ofNat_lt→aad,toNat→Zt,toNat_natCast→W6
open List.Nodup renaming length_le_of_subset→Yo
open List.Pairwise renaming nil→Zf
open List renaming all_eq_true→XO,any_cons→aar,any_eq_false→XX,any_eq_true→Yr,append_assoc→Xf,append_nil→XM,cons_append→Xp,ext_getElem?→Zh,filterMap_append→aah,filterMap_cons→aaq,filter_cons→YT,filter_eq_self→ZA,findIdx?_eq_none_iff→Z2,findIdx?_eq_some_iff_getElem→ZJ,flatMap_append→ZB,flatMap_cons→X5,foldl_cons→X8,getD_cons_succ→Yt,getD_cons_zero→YX,getD_eq_getElem?_getD→W2,getElem?_eq_getElem→W5,getElem?_eq_some_iff→W4,getElem?_map→W9,getElem?_of_mem→XU,getElem?_take→XK,getElem_map→YN,getElem_mem→XS,le_antisymm→Z9,length_append→W1,length_cons→Xy,length_filter_le→Ys,length_map→Xw,length_nil→Yg,length_pos_iff→Yi,length_singleton→Xu,length_take→XA,map_append→Xg,map_cons→W7,map_map→Yb,map_nil→Xj,mem_append→Xr,mem_append_left→XV,mem_append_right→YB,mem_cons→Xm,mem_cons_of_mem→Xi,mem_cons_self→Xk,mem_filter→XG,mem_flatMap→ZU,mem_map→XH,mem_of_getElem?→XE,mem_range→Yz,mem_singleton→Xd,nodup_append→YG,nodup_cons→XN,nodup_nil→XY,not_lt→aaD,not_mem_nil→ZT,pairwise_cons→Yd,pairwise_singleton→Zo,perm_ext_iff_of_nodup→YJ,range→XC,sum_cons→Ym,take_length→Yk,take_of_length_le→Xh,take_succ_cons→Yq
open Nat renaming add_assoc→Yf,add_zero→YC,beq→Xv,ble→Y4,ble_eq_true_of_le→X0,blt→Xx,le_add_left→ZE,le_add_right→ZS,le_of_ble_eq_true→WY,le_of_not_lt→YA,le_refl→W8,le_succ→Yw,lt_irrefl→ZC,lt_of_lt_of_le→YH,lt_or_ge→XZ,lt_succ_of_lt→YF,lt_succ_self→YM,min_le_right→aaz,mul_one→Zu,sub_zero→ZK,zero_add→Xo,zero_le→Xc
open Option renaming bind_some→Zn,getD_some→X9,map_eq_some_iff→Xa,map_some→Ya
open Option.some renaming injEq→W3
open Prod renaming fst→Yc
set_option maxRecDepth 100000
open Bool renaming false→kw,true→jp
open Decidable renaming decide→lc
open Inhabited renaming default→co
open Option renaming none→is,some→io
open Array renaming range→Z3
open Array renaming getElem?_map→ZG
open Nat renaming mul_le_mul_right→Xt
open Nat renaming add_mul→XT
open Array renaming append_assoc→ZH
open List renaming getElem?_append_right→Xl
open Nat renaming sub_mul→aal
open Array renaming getElem?_append_right→YV
open Array renaming getElem?_toList→Xz
open Nat renaming mod_eq_of_lt→Zl
open List renaming getElem?_toArray→XP
open List renaming getElem?_append_left→Xn
namespace Go.Al
theorem bi{a b:PV}{c:Bool}{X:Prop}(h:X)(h1:a=b:=by rfl)(h2:c=true:=by rfl):ae a b∧c=true∧X:=⟨by subst h1;exact fun _ _ _ _ h=>h,h2,h⟩
theorem bv{i n:Nat}(h:decide ((i:Int)<(n:Int))=true):i<n:=by simpa using h
theorem ci{i n:Nat}(h:decide ((i:Int)<(n:Int))=false):n≤i:=by simpa using h
end Go.Al
namespace Go.Al
section
def VP(P:Program)(k:FuncId)(args:List PV)(os:List AO)(R:PV->AH->Nat->Prop):Prop:=
 fK P k∧Tp (fun vs w R=>CallsD P k vs .returning w fun e u j=>u= .returning∧R e j) args os R
def VF(P:Program)(k:FuncId)(args:List PV)(os:List AO)(h:AH)(n:Nat):Prop:=VP P k args os fun _ j u=>j=h∧u=n
theorem Fn.ended{P:Program}{k:FuncId}{args:List PV}{os:List AO}{R:PV->AH->Nat->Prop}(key:Fn P k args os (fun r0 h0 n0=>fy h0 n0 r0 fun B G=> ∃r y A L,R r y A∧Wk os.length L ⟨[(0,G)],B,n0⟩ ⟨[(0,r)],y,A⟩)):Fn P k args os R:=by
 refine⟨key.1,fun M N w vs hr u hv=>(key.2 M N w vs hr u hv).mono ?_⟩;rintro e Y ⟨x,M',N',r0,h0,n0,rfl,hF,hx,hr',hvr⟩;obtain⟨I,B,G,g1,g2,g3,r,y,A,L,hR,J⟩:=hF M' N' Y hr'
 have D:Fits I N' ⟨[(0,G)],B,n0⟩ ⟨1,[]⟩ ⟨#[x],[]⟩ Y:=⟨g2,fun d=>by
  rw[AF.ay];by_cases hd:d=0
  .subst hd;rw[am Z];exact g3 x hvr
  .rw[be hd];exact .any _,rfl,rfl⟩
 have j:=J.fits D;refine⟨x,I,_,r,y,A,rfl,hR,J.ext (hx.trans g1),j.1,?_⟩;have:=j.2.1 0;exact this
section
variable {P:Program}
theorem ub {ty:Ty} (y:bq P ty) {k:FuncId} {fn:Func} {c:Code} (hf:P.funcs[k]? =io fn) (hb:fn.body=io c) (hn:(fn.name== "runtime.NumGoroutine")=kw) {nt:Nat} (x:fn.ntmps=nt)
  {l:List ResultVar} (hl:fn.results.toList=l) {args:List PV} (u:args.length<=nt) {os:List AO} {R:PV->AH->Nat->Prop}
  (h:GO P nt [.code c] (fun e s=>(e= .normal∨e= .ret)∧ ∃r,jh ty s l=io r∧R r s.h s.nx) ⟨mT 0 args,cO 0 os,os.length⟩):VP P k args os R:=
 ⟨bg hf hb hn,fun M N w vs hr j A=>callsD_of_wp hf hb (FO y x hl u h M N w vs hr j A)⟩
theorem J5{nt:NT}{s:AS}{M:Mem}{N:Nm}{a:Act}{w:World}(hf:Fits M N s nt a w){o:Oper}{g:Operand}{ts:Array TypeId}(ho:o.op= .defer ⟨.value g, #[],ts⟩){k:FuncId}{caps:List PV}(u:ev s.f g= .cB (.func k) [] caps)(hc:fK P k):
  ∃(d:Deferred) (vs:List Value),(execOp a.eval o).run P w= .ok (.defer d) w∧(∃A a0,d.target= .fn A a0)∧(∀w,(invoke d.target d.args).run P w= .ok (.enter k vs.toArray) w)∧caps.length=vs.length∧
   ∀(j:Nat) (p:PV),caps[j]? =io p->VR M N (· <s.nx) p (vs.getD j undef):=by
 have y:=aO hf.2.1 g;rw[u]at y;generalize D:a.eval g=v at y;cases y with
 |cB _ _ _ f' c' h1 h2 hr1 hr2=>
  have x:f'= #[]:=by
   have:f'.size=0:=h1.symm;exact Array.size_eq_zero_iff.1 this
  subst x;refine⟨⟨.fn (.func k) c', #[]⟩,c'.toList,?_,⟨_,_,rfl⟩,fun w=>?_,by simpa using h2,fun j p B=>?_⟩
  .simp[execOp,ho,resolve,D,Deferred.ofValue]
  .have:=hc c' w;simpa[invoke]using this
  .have:=hr2 j p B;rw[WZ]at this;rw[W2];simpa using this
structure KL (P:Program) (ty:Ty) (l:List ResultVar) (kf:FuncId) (caps:List PV) (R:PV->AH->Nat->Prop) (e:Exit) (u:AS):Prop where
 he:e= .normal∨e= .ret
 ex: ∃args os R' L,VP P kf args os R'∧List.Nodup L∧(∀j∈L,j<u.nx)∧(L.map u.h.get=os.map fun o=>io (o.b5 (sig L u.nx)))∧caps=dh (sig L u.nx) args∧
  ∀r h' n',R' r h' n'-> ∃q,jh ty (aC u L h' n') l=io q∧R q (aC u L h' n').h (aC u L h' n').nx
theorem uV{P:Program}{ty:Ty}{l:List ResultVar}{D:FuncId}{caps:List PV}{R:PV->AH->Nat->Prop}{e:Exit}{u:AS}{args:List PV}{os:List AO}{A:PV->AH->Nat->Prop}(L:List Nat)(he:e= .normal∨e= .ret)(G:VP P D args os A)(hn:cI L=jp)(hl:L.all (fun j=>Xx j u.nx)=jp)
  (B:L.map u.h.get=os.map fun o=>io (o.b5 (sig L u.nx))) (hc:caps=dh (sig L u.nx) args) (h: ∀r x y,A r x y-> ∃q,jh ty (aC u L x y) l=io q∧R q (aC u L x y).h (aC u L x y).nx):KL P ty l D caps R e u:=
 ⟨he,args,os,A,L,G,eV hn,fun j I=>WY (XO.1 hl j I),B,hc,h⟩
theorem JM {ty:Ty} (j0:bq P ty) {k:FuncId} {fn:Func} {cs:List Code} {id:Nat} {ops:Array Oper} {T:Code} (hf:P.funcs[k]? =io fn) (hb:fn.body=io (N5 cs (.seq (.region id ops kw) T))) (hn:(fn.name== "runtime.NumGoroutine")=kw) {nt:Nat} (t0:fn.ntmps=nt)
  {l:List ResultVar} (hl:fn.results.toList=l) {args:List PV} (q0:args.length<=nt) {os:List AO} {R:PV->AH->Nat->Prop} (s:AS) {pre:List Oper} {o:Oper} {g:Operand} {ts:Array TypeId} {kf:FuncId} {caps:List PV}
  (e0:ops.toList=pre++ [o]) (hg:o.guard=is) (hd:o.dst=is) (ho:o.op= .defer ⟨.value g, #[],ts⟩) (m0:ev s.f g= .cB (.func kf) [] caps) (hc:fK P kf)
  (J:GO P nt (cs.map .code) (fun e t=>(e= .normal∧GO P nt [.ops ops.toList pre] (fun e u=>e= .normal∧ ∃L0,Wk u.nx L0 u s) t)∨(e= .ret∧ ∃r,jh ty t l=io r∧R r t.h t.nx)) ⟨mT 0 args,cO 0 os,os.length⟩)
  (b0: ∀d,GO P ⟨nt,[d]⟩ [.code T] (KL P ty l kf caps R) s):Fn P k args os R:=by
 refine⟨bg hf hb hn,fun M N w vs hr d0 hv=>?_⟩;refine calls_of_wp_defers hf hb ?_;refine Cp cs J (Fu t0 q0 hr d0 hv) (fun a0 w0 M0 N0 s0 z0 n0 Y=>?_) (fun e a3 w3 M3 N3 s3 he b1 B x0=>?_)
 .rcases Y with⟨_,Y⟩|⟨h,_⟩
  .refine wp_seq (wp_region_list ?_);rw[e0];refine mV [o] (fun a1 w1 h1=>?_) (fun e a1 w1 he h1=>?_) pre a0 w0 (by have:=Y M0 N0 a0 w0 n0;rw[YI]at this;exact this)
   .obtain⟨M1,N1,s1,D,A,f0⟩:=h1;obtain⟨_,L0,hw⟩:=(show _∧_ from f0)
    replace D:=z0.trans (D.trans (hw.ext (.refl _ _ _ _ _)))
    replace A:=hw.fits A
    obtain⟨d,d1,h1,⟨fv,k0,h2⟩,h3,h4,h5⟩:=J5 A ho m0 hc;unfold wpList;rw[am (fU hg _)];left;unfold Oper.wp;rw[h1,Oper.upon_defer,hd];refine wpList_nil ?_;have o0:Fits M1 _ s ⟨nt,[d]⟩ {a1 with defers:=d::a1.defers} w1:=⟨A.1,A.2.1,by rw[A.2.2.1],A.2.2.2⟩
    refine AW.then (b0 d) o0 fun e a2 w2 M2 N2 u G B hq=>?_;simp only[kp]at hq;obtain⟨he,g0,e1,R',L,hD,r0,hL,v0,i0,hR⟩:=hq;have c0:s.nx<=u.nx:=YA fun hh=>absurd (G.ule u.nx hh) (ZC _)
    have key:Leaves P fn a2.tmps (fun e w'=> ∃x M' N' r h' n',e= .returned x∧R r h' n'∧Ext M N (· <os.length) (cO 0 os) w M' N' (· <n') h' w'∧Rel M' N' (· <n') h' w'∧VR M' N' (· <n') r x) a2.defers .returning w2:=by
     rw[B.2.2.1];refine⟨by simp,fv,k0,kf,d1.toArray,h2,h3 w2,?_⟩
     have I:=Tp.calls (s:=u) (fun vs w R R' h g=>h.mono fun e u' w' q=>⟨q.1,g _ _ q.2⟩) hD.2 r0 hL v0 B.1 (by rw[<-h4,i0,bL,Xw]) (fun j p hp=>by
      refine(h5 j (p.b5 (sig L u.nx)) (by rw[i0,bL,W9,hp];rfl)).mono G.oJ G.nm fun i hi=>YH hi c0)
     refine CallsD.mono I ?_;rintro e u' w' ⟨rfl,x,M',N',r,h',n',rfl,hr1,hx,hr2,hvr⟩;obtain⟨q,g1,g2⟩:=hR r h' n' hr1;have p0:Fits M' N' (aC u L h' n') ⟨nt,[d]⟩ a2 w':=⟨hr2,B.2.1.ext hx,B.2.2⟩
     obtain⟨y,g3,g4⟩:=uH j0 p0 hl g1;exact⟨y,g3,y,M',N',q,_,_,rfl,g2,(D.trans G).trans hx,hr2,g4⟩
    rcases he with rfl|rfl<;>exact key
   .obtain⟨M1,N1,s1,D,A,f0⟩:=h1;exact absurd (show e= .normal from by cases e<;>first|rfl|exact f0.1) he
  .cases h
 .rcases x0 with⟨h,_⟩|⟨rfl,r,g1,g2⟩
  .exact absurd h he
  .obtain⟨y,g3,g4⟩:=uH j0 B hl g1;show Leaves P fn a3.tmps _ a3.defers .returning w3;rw[B.2.2.1];exact⟨y,g3,y,M3,N3,r,_,_,rfl,g2,b1,B.1,g4⟩
def jy:Code->List Code×Nat×Array Oper×Code
 | .seq (.region i ops b) t=>if ops.toList.any (fun o=>!Ni o) then([],i,ops,t) else(.region i ops b::(jy t).1,(jy t).2)
 | .seq x y=>(x::(jy y).1,(jy y).2)
 |_=>([],0, #[],.skip)
def Sx(p:List Code×Nat×Array Oper×Code):Code:=N5 p.1 (.seq (.region p.2.1 p.2.2.1 kw) p.2.2.2)
end
section
variable {P:Program} {ty:Ty} {nt:NT} {Q:AQ} {k:List KI} {s:AS}
theorem SE(B:bq P ty){all:List Oper}{todo pend:List (Nat×Oper)}{I J:Nat}{u A:Oper}{CA C1 C2:Prop}{s1 s2:AS}(hrd:dz todo=[(I,u),(J,A)])(hE:nR todo [I,J]=jp)(hag:l3 ty nt all s todo pend=io CA)(hCA:CA)
  (g1:bR nt all s.f u=io jp) (p1:gY all pend u=jp) (t1:OT P nt u s (fun t=>t=s1)) (a1:c8 ty nt all s1 (ba pend u)=io C1) (c1:C1)
  (g2:bR nt all s.f A=io jp) (p2:gY all pend A=jp) (t2:OT P nt A s (fun t=>t=s2)) (a2:c8 ty nt all s2 (ba pend A)=io C2) (c2:C2)
  (k1:GO P nt (.bS all (todo.filter fun x=>!Xv x.1 I) (ba pend u)::k) Q s1) (k2:GO P nt (.bS all (todo.filter fun x=>!Xv x.1 J) (ba pend A)::k) Q s2):GO P nt (.bS all todo pend::k) Q s:=by
 have a0:(I,u)∈dz todo:=by rw[hrd];simp
 have b0:(J,A)∈dz todo:=by rw[hrd];simp
 obtain⟨h1,Y⟩:=XG.1 a0;obtain⟨h2,r2⟩:=XG.1 b0;simp only[Ye,YS,XX]at Y r2;have D: ∀y∈todo,aV y.2=jp-> ∀y∈pend,fm P nt all s y.2:=by
  intro y G c0;unfold l3 at hag;split at hag
  .exact cC B hag hCA
  .rename_i h;have:=XX.1 h y G;rw[c0]at this;exact absurd Z this
 refine pD hE ⟨_,h1,Y.1⟩ D fun j o hj _ hu=>?_;rcases Xm.1 hj with rfl|hj
 .have:=hu u h1;subst this;exact⟨Y.1,fun y G _=>by simpa using Y.2 y G,p1,g1,_,t1,fun t ht=>by subst ht;exact⟨cC B a1 c1,k1⟩⟩
 .rw[Xd]at hj;subst hj;have:=hu A h2;subst this;exact⟨r2.1,fun y G _=>by simpa using r2.2 y G,p2,g2,_,t2,fun t ht=>by subst ht;exact⟨cC B a2 c2,k2⟩⟩
end
end
end Go.Al
namespace Go.Proofs.YtlmhfgbkchnfbaaGreatDoor
open Go Go.Al Go.Proofs.Tryz
def ty1:bC:=⟨.aP (.func #[] #[] kw),1,8,.nilFunc,kw⟩
theorem TE:aj prog 1 ty1:=⟨ad (by kernel_rfl),⟨underlying1,rfl⟩,fun h=>nomatch h⟩
def ty2:bC:=⟨.aP (.int .i64),1,8,.int .i64 (0),kw⟩
theorem TD:aj prog 2 ty2:=⟨ad (by kernel_rfl),⟨underlying2,rfl⟩,fun h=>nomatch h⟩
def ty3:bC:=⟨.aP (.int .i64),1,8,.int .i64 (0),kw⟩
theorem TC:aj prog 3 ty3:=⟨ad (by kernel_rfl),⟨underlying3,rfl⟩,fun h=>nomatch h⟩
def ty4:bC:=⟨.aP (.bool),1,1,.bool kw,kw⟩
theorem TB:aj prog 4 ty4:=⟨ad (by kernel_rfl),⟨underlying4,rfl⟩,fun h=>nomatch h⟩
def Ru:bC:=⟨.aP (.int .u8),1,1,.int .u8 (0),kw⟩
theorem TA:aj prog 5 Ru:=⟨ad (by kernel_rfl),⟨underlying5,rfl⟩,fun h=>nomatch h⟩
def ty9:bC:=⟨.aP (.string),1,16,.string Xb,kw⟩
theorem Tz:aj prog 9 ty9:=⟨ad (by kernel_rfl),⟨underlying9,rfl⟩,fun h=>nomatch h⟩
def Uc:bC:=⟨.aP (.int .i32),1,4,.int .i32 (0),kw⟩
theorem Rs:aj prog 21 Uc:=⟨ad (by kernel_rfl),⟨underlying21,rfl⟩,fun h=>nomatch h⟩
def Ub:bC:=⟨.aP (.slice 57),1,24,.slice is 0 0,kw⟩
theorem Rr:aj prog 22 Ub:=⟨ad (by kernel_rfl),⟨underlying22,rfl⟩,fun h=>nomatch h⟩
def Ua:bC:=⟨.aP (.slice 152),1,24,.slice is 0 0,kw⟩
theorem Rq:aj prog 23 Ua:=⟨ad (by kernel_rfl),⟨underlying23,rfl⟩,fun h=>nomatch h⟩
def T9:bC:=⟨.cy [(0,22),(1,23)],2,48,.agg #[.slice is 0 0,.slice is 0 0],jp⟩
theorem Rp:aj prog 25 T9:=⟨ad (by kernel_rfl),⟨_,underlying25,rfl⟩,fun _=>bG underlying25 Tryz.stoodInHeld25 Tryz.eqGuardType25 (by decide)⟩
def T8:bC:=⟨.aP (.slice 43),1,24,.slice is 0 0,kw⟩
theorem Ro:aj prog 26 T8:=⟨ad (by kernel_rfl),⟨underlying26,rfl⟩,fun h=>nomatch h⟩
def T7:bC:=⟨.cy [(0,3),(1,3),(2,3)],3,24,.agg #[.int .i64 (0),.int .i64 (0),.int .i64 (0)],jp⟩
theorem Rn:aj prog 28 T7:=⟨ad (by kernel_rfl),⟨_,underlying28,rfl⟩,fun _=>bG underlying28 Tryz.stoodInHeld28 Tryz.eqGuardType28 (by decide)⟩
def T6:bC:=⟨.aP (.pointer 72),1,8,.pointer is,kw⟩
theorem Rm:aj prog 30 T6:=⟨ad (by kernel_rfl),⟨underlying30,rfl⟩,fun h=>nomatch h⟩
def T5:bC:=⟨.aP (.int .i64),1,8,.int .i64 (0),kw⟩
theorem Rl:aj prog 31 T5:=⟨ad (by kernel_rfl),⟨underlying31,rfl⟩,fun h=>nomatch h⟩
def T4:bC:=⟨.aP (.slice 36),1,24,.slice is 0 0,kw⟩
theorem Rk:aj prog 34 T4:=⟨ad (by kernel_rfl),⟨underlying34,rfl⟩,fun h=>nomatch h⟩
def T3:bC:=⟨.aP (.slice 3),1,24,.slice is 0 0,kw⟩
theorem Rj:aj prog 35 T3:=⟨ad (by kernel_rfl),⟨underlying35,rfl⟩,fun h=>nomatch h⟩
def T2:bC:=⟨.aP (.slice 62),1,24,.slice is 0 0,kw⟩
theorem Ri:aj prog 36 T2:=⟨ad (by kernel_rfl),⟨underlying36,rfl⟩,fun h=>nomatch h⟩
def T1:bC:=⟨.aP (.slice 5),1,24,.slice is 0 0,kw⟩
theorem Rh:aj prog 38 T1:=⟨ad (by kernel_rfl),⟨underlying38,rfl⟩,fun h=>nomatch h⟩
def TZ:bC:=⟨.aP (.slice 64),1,24,.slice is 0 0,kw⟩
theorem Rf:aj prog 43 TZ:=⟨ad (by kernel_rfl),⟨underlying43,rfl⟩,fun h=>nomatch h⟩
def TY:bC:=⟨.cy [(0,3),(1,3)],2,16,.agg #[.int .i64 (0),.int .i64 (0)],jp⟩
theorem Rb:aj prog 55 TY:=⟨ad (by kernel_rfl),⟨_,underlying55,rfl⟩,fun _=>bG underlying55 Tryz.stoodInHeld55 Tryz.eqGuardType55 (by decide)⟩
def TX:bC:=⟨.cy [(0,9),(1,35),(2,55)],4,56,.agg #[.string Xb,.slice is 0 0,.int .i64 (0),.int .i64 (0)],jp⟩
theorem Ra:aj prog 57 TX:=⟨ad (by kernel_rfl),⟨_,underlying57,rfl⟩,fun _=>bG underlying57 Tryz.stoodInHeld57 Tryz.eqGuardType57 (by decide)⟩
def TV:bC:=⟨.cy [(0,3),(1,3),(2,9)],3,32,.agg #[.int .i64 (0),.int .i64 (0),.string Xb],jp⟩
theorem Q9:aj prog 59 TV:=⟨ad (by kernel_rfl),⟨_,underlying59,rfl⟩,fun _=>bG underlying59 Tryz.stoodInHeld59 Tryz.eqGuardType59 (by decide)⟩
def TU:bC:=⟨.aP (.slice 59),1,24,.slice is 0 0,kw⟩
theorem Q8:aj prog 60 TU:=⟨ad (by kernel_rfl),⟨underlying60,rfl⟩,fun h=>nomatch h⟩
def TR:bC:=⟨.cy [(0,9),(1,60)],2,40,.agg #[.string Xb,.slice is 0 0],jp⟩
theorem Q7:aj prog 62 TR:=⟨ad (by kernel_rfl),⟨_,underlying62,rfl⟩,fun _=>bG underlying62 Tryz.stoodInHeld62 Tryz.eqGuardType62 (by decide)⟩
def TQ:bC:=⟨.cy [(0,4),(1,62)],3,48,.agg #[.bool kw,.string Xb,.slice is 0 0],jp⟩
theorem Q6:aj prog 64 TQ:=⟨ad (by kernel_rfl),⟨_,underlying64,rfl⟩,fun _=>bG underlying64 Tryz.stoodInHeld64 Tryz.eqGuardType64 (by decide)⟩
def TP:bC:=⟨.aP (.pointer 100),1,8,.pointer is,kw⟩
theorem Q5:aj prog 66 TP:=⟨ad (by kernel_rfl),⟨underlying66,rfl⟩,fun h=>nomatch h⟩
def TN:bC:=⟨.cy [(0,66)],1,8,.agg #[.pointer is],jp⟩
theorem Q4:aj prog 70 TN:=⟨ad (by kernel_rfl),⟨_,underlying70,rfl⟩,fun _=>bG underlying70 Tryz.stoodInHeld70 Tryz.eqGuardType70 (by decide)⟩
def TM:bC:=⟨.cy [(0,70),(1,38),(2,3)],3,40,.agg #[.pointer is,.slice is 0 0,.int .i64 (0)],jp⟩
theorem Q3:aj prog 72 TM:=⟨ad (by kernel_rfl),⟨_,underlying72,rfl⟩,fun _=>bG underlying72 Tryz.stoodInHeld72 Tryz.eqGuardType72 (by decide)⟩
def TL:bC:=⟨.aP (.func #[62,62] #[4] kw),1,8,.nilFunc,kw⟩
theorem QZ:aj prog 82 TL:=⟨ad (by kernel_rfl),⟨underlying82,rfl⟩,fun h=>nomatch h⟩
def TJ:bC:=⟨.aP (.int .u32),1,4,.int .u32 (0),kw⟩
theorem QY:aj prog 83 TJ:=⟨ad (by kernel_rfl),⟨underlying83,rfl⟩,fun h=>nomatch h⟩
def TI:bC:=⟨.aP (.pointer 138),1,8,.pointer is,kw⟩
theorem QX:aj prog 86 TI:=⟨ad (by kernel_rfl),⟨underlying86,rfl⟩,fun h=>nomatch h⟩
def TH:bC:=⟨.cy [(0,31),(1,55)],3,24,.agg #[.int .i64 (0),.int .i64 (0),.int .i64 (0)],jp⟩
theorem QW:aj prog 93 TH:=⟨ad (by kernel_rfl),⟨_,underlying93,rfl⟩,fun _=>bG underlying93 Tryz.stoodInHeld93 Tryz.eqGuardType93 (by decide)⟩
def TG:bC:=⟨.aP (.map 110 62),1,8,.map is,kw⟩
theorem QU:aj prog 95 TG:=⟨ad (by kernel_rfl),⟨underlying95,rfl⟩,fun h=>nomatch h⟩
def TF:bC:=⟨.cy [(0,95)],1,8,.agg #[.map is],jp⟩
theorem QS:aj prog 97 TF:=⟨ad (by kernel_rfl),⟨_,underlying97,rfl⟩,fun _=>bG underlying97 Tryz.stoodInHeld97 Tryz.eqGuardType97 (by decide)⟩
def P5:bC:=⟨.cy [(0,97),(1,25),(3,3)],4,64,.agg #[.map is,.slice is 0 0,.slice is 0 0,.int .i64 (0)],jp⟩
theorem Mh:aj prog 100 P5:=⟨ad (by kernel_rfl),⟨_,underlying100,rfl⟩,fun _=>bG underlying100 Tryz.stoodInHeld100 Tryz.eqGuardType100 (by decide)⟩
def P4:bC:=⟨.aP (.pointer 97),1,8,.pointer is,kw⟩
theorem Mg:aj prog 101 P4:=⟨ad (by kernel_rfl),⟨underlying101,rfl⟩,fun h=>nomatch h⟩
def P3:bC:=⟨.aP (.int .u64),1,8,.int .u64 (0),kw⟩
theorem Mf:aj prog 104 P3:=⟨ad (by kernel_rfl),⟨underlying104,rfl⟩,fun h=>nomatch h⟩
def P2:bC:=⟨.arr 8 59,24,256,.agg #[.int .i64 (0),.int .i64 (0),.string Xb,.int .i64 (0),.int .i64 (0),.string Xb,.int .i64 (0),.int .i64 (0),.string Xb,.int .i64 (0),.int .i64 (0),.string Xb,.int .i64 (0),.int .i64 (0),.string Xb,.int .i64 (0),.int .i64 (0),.string Xb,.int .i64 (0),.int .i64 (0),.string Xb,.int .i64 (0),.int .i64 (0),.string Xb],kw⟩
theorem Me:aj prog 108 P2:=⟨ad (by kernel_rfl),underlying108,fun h=>nomatch h⟩
def AY:bC:=⟨.cy [(0,9),(1,3),(2,108)],26,280,.agg #[.string Xb,.int .i64 (0),.int .i64 (0),.int .i64 (0),.string Xb,.int .i64 (0),.int .i64 (0),.string Xb,.int .i64 (0),.int .i64 (0),.string Xb,.int .i64 (0),.int .i64 (0),.string Xb,.int .i64 (0),.int .i64 (0),.string Xb,.int .i64 (0),.int .i64 (0),.string Xb,.int .i64 (0),.int .i64 (0),.string Xb,.int .i64 (0),.int .i64 (0),.string Xb],jp⟩
theorem Md:aj prog 110 AY:=⟨ad (by kernel_rfl),⟨_,underlying110,rfl⟩,fun _=>bG underlying110 Tryz.stoodInHeld110 Tryz.eqGuardType110 (by decide)⟩
def P1:bC:=⟨.aP (.map 110 64),1,8,.map is,kw⟩
theorem Mc:aj prog 111 P1:=⟨ad (by kernel_rfl),⟨underlying111,rfl⟩,fun h=>nomatch h⟩
def P0:bC:=⟨.aP (.pointer 175),1,8,.pointer is,kw⟩
theorem Mb:aj prog 116 P0:=⟨ad (by kernel_rfl),⟨underlying116,rfl⟩,fun h=>nomatch h⟩
def PZ:bC:=⟨.aP (.pointer 126),1,8,.pointer is,kw⟩
theorem Ma:aj prog 123 PZ:=⟨ad (by kernel_rfl),⟨underlying123,rfl⟩,fun h=>nomatch h⟩
def PY:bC:=⟨.cy [(0,116),(1,25)],3,56,.agg #[.pointer is,.slice is 0 0,.slice is 0 0],jp⟩
theorem L9:aj prog 126 PY:=⟨ad (by kernel_rfl),⟨_,underlying126,rfl⟩,fun _=>bG underlying126 Tryz.stoodInHeld126 Tryz.eqGuardType126 (by decide)⟩
def PX:bC:=⟨.cy [(0,38)],1,24,.agg #[.slice is 0 0],jp⟩
theorem L8:aj prog 136 PX:=⟨ad (by kernel_rfl),⟨_,underlying136,rfl⟩,fun _=>bG underlying136 Tryz.stoodInHeld136 Tryz.eqGuardType136 (by decide)⟩
def PW:bC:=⟨.cy [(0,136)],1,24,.agg #[.slice is 0 0],jp⟩
theorem L7:aj prog 138 PW:=⟨ad (by kernel_rfl),⟨_,underlying138,rfl⟩,fun _=>bG underlying138 Tryz.stoodInHeld138 Tryz.eqGuardType138 (by decide)⟩
def PU:bC:=⟨.aP (.int .u64),1,8,.int .u64 (0),kw⟩
theorem L6:aj prog 140 PU:=⟨ad (by kernel_rfl),⟨underlying140,rfl⟩,fun h=>nomatch h⟩
def PT:bC:=⟨.aP (.map 9 145),1,8,.map is,kw⟩
theorem L5:aj prog 141 PT:=⟨ad (by kernel_rfl),⟨underlying141,rfl⟩,fun h=>nomatch h⟩
def PS:bC:=⟨.aP (.map 9 145),1,8,.map is,kw⟩
theorem L4:aj prog 142 PS:=⟨ad (by kernel_rfl),⟨underlying142,rfl⟩,fun h=>nomatch h⟩
def PR:bC:=⟨.aP (.map 9 3),1,8,.map is,kw⟩
theorem L3:aj prog 145 PR:=⟨ad (by kernel_rfl),⟨underlying145,rfl⟩,fun h=>nomatch h⟩
def PQ:bC:=⟨.aP (.slice 157),1,24,.slice is 0 0,kw⟩
theorem L2:aj prog 147 PQ:=⟨ad (by kernel_rfl),⟨underlying147,rfl⟩,fun h=>nomatch h⟩
def PO:bC:=⟨.cy [(0,9),(1,147)],2,40,.agg #[.string Xb,.slice is 0 0],jp⟩
theorem L1:aj prog 149 PO:=⟨ad (by kernel_rfl),⟨_,underlying149,rfl⟩,fun _=>bG underlying149 Tryz.stoodInHeld149 Tryz.eqGuardType149 (by decide)⟩
def PN:bC:=⟨.aP (.slice 198),1,24,.slice is 0 0,kw⟩
theorem LZ:aj prog 150 PN:=⟨ad (by kernel_rfl),⟨underlying150,rfl⟩,fun h=>nomatch h⟩
def PM:bC:=⟨.cy [(0,149),(2,150),(3,55)],5,80,.agg #[.string Xb,.slice is 0 0,.slice is 0 0,.int .i64 (0),.int .i64 (0)],jp⟩
theorem LY:aj prog 152 PM:=⟨ad (by kernel_rfl),⟨_,underlying152,rfl⟩,fun _=>bG underlying152 Tryz.stoodInHeld152 Tryz.eqGuardType152 (by decide)⟩
def PL:bC:=⟨.cy [(0,3),(1,9),(2,59)],5,56,.agg #[.int .i64 (0),.string Xb,.int .i64 (0),.int .i64 (0),.string Xb],jp⟩
theorem LX:aj prog 157 PL:=⟨ad (by kernel_rfl),⟨_,underlying157,rfl⟩,fun _=>bG underlying157 Tryz.stoodInHeld157 Tryz.eqGuardType157 (by decide)⟩
def PK:bC:=⟨.aP (.func #[62,62] #[3] kw),1,8,.nilFunc,kw⟩
theorem LW:aj prog 160 PK:=⟨ad (by kernel_rfl),⟨underlying160,rfl⟩,fun h=>nomatch h⟩
def PJ:bC:=⟨.aP (.func #[110,64] #[4] kw),1,8,.nilFunc,kw⟩
theorem LV:aj prog 168 PJ:=⟨ad (by kernel_rfl),⟨underlying168,rfl⟩,fun h=>nomatch h⟩
def PI:bC:=⟨.aP (.func #[64,64] #[3] kw),1,8,.nilFunc,kw⟩
theorem LU:aj prog 171 PI:=⟨ad (by kernel_rfl),⟨underlying171,rfl⟩,fun h=>nomatch h⟩
def PH:bC:=⟨.cy [(0,38),(1,3),(2,31)],3,40,.agg #[.slice is 0 0,.int .i64 (0),.int .i64 (0)],jp⟩
theorem LS:aj prog 173 PH:=⟨ad (by kernel_rfl),⟨_,underlying173,rfl⟩,fun _=>bG underlying173 Tryz.stoodInHeld173 Tryz.eqGuardType173 (by decide)⟩
def PG:bC:=⟨.cy [(0,173)],3,40,.agg #[.slice is 0 0,.int .i64 (0),.int .i64 (0)],jp⟩
theorem LR:aj prog 175 PG:=⟨ad (by kernel_rfl),⟨_,underlying175,rfl⟩,fun _=>bG underlying175 Tryz.stoodInHeld175 Tryz.eqGuardType175 (by decide)⟩
def PF:bC:=⟨.aP (.pointer 186),1,8,.pointer is,kw⟩
theorem LQ:aj prog 181 PF:=⟨ad (by kernel_rfl),⟨underlying181,rfl⟩,fun h=>nomatch h⟩
def PD:bC:=⟨.aP (.pointer 184),1,8,.pointer is,kw⟩
theorem LP:aj prog 182 PD:=⟨ad (by kernel_rfl),⟨underlying182,rfl⟩,fun h=>nomatch h⟩
def PC:bC:=⟨.cy [(0,182),(1,38)],2,32,.agg #[.pointer is,.slice is 0 0],jp⟩
theorem LO:aj prog 184 PC:=⟨ad (by kernel_rfl),⟨_,underlying184,rfl⟩,fun _=>bG underlying184 Tryz.stoodInHeld184 Tryz.eqGuardType184 (by decide)⟩
def PB:bC:=⟨.cy [(0,184),(2,4),(3,3)],4,48,.agg #[.pointer is,.slice is 0 0,.bool kw,.int .i64 (0)],jp⟩
theorem LN:aj prog 186 PB:=⟨ad (by kernel_rfl),⟨_,underlying186,rfl⟩,fun _=>bG underlying186 Tryz.stoodInHeld186 Tryz.eqGuardType186 (by decide)⟩
def PA:bC:=⟨.aP (.pointer 136),1,8,.pointer is,kw⟩
theorem LM:aj prog 191 PA:=⟨ad (by kernel_rfl),⟨underlying191,rfl⟩,fun h=>nomatch h⟩
def Pz:bC:=⟨.aP (.slice 194),1,24,.slice is 0 0,kw⟩
theorem LL:aj prog 192 Pz:=⟨ad (by kernel_rfl),⟨underlying192,rfl⟩,fun h=>nomatch h⟩
def Py:bC:=⟨.cy [(0,3),(1,9),(2,59),(5,3),(6,192)],7,88,.agg #[.int .i64 (0),.string Xb,.int .i64 (0),.int .i64 (0),.string Xb,.int .i64 (0),.slice is 0 0],jp⟩
theorem LK:aj prog 194 Py:=⟨ad (by kernel_rfl),⟨_,underlying194,rfl⟩,fun _=>bG underlying194 Tryz.stoodInHeld194 Tryz.eqGuardType194 (by decide)⟩
def Px:bC:=⟨.cy [(0,3),(1,9),(2,194),(9,150)],10,136,.agg #[.int .i64 (0),.string Xb,.int .i64 (0),.string Xb,.int .i64 (0),.int .i64 (0),.string Xb,.int .i64 (0),.slice is 0 0,.slice is 0 0],jp⟩
theorem LJ:aj prog 196 Px:=⟨ad (by kernel_rfl),⟨_,underlying196,rfl⟩,fun _=>bG underlying196 Tryz.stoodInHeld196 Tryz.eqGuardType196 (by decide)⟩
def Pw:bC:=⟨.cy [(0,3),(1,149),(3,3),(4,194),(11,194),(18,196),(28,55)],30,384,.agg #[.int .i64 (0),.string Xb,.slice is 0 0,.int .i64 (0),.int .i64 (0),.string Xb,.int .i64 (0),.int .i64 (0),.string Xb,.int .i64 (0),.slice is 0 0,.int .i64 (0),.string Xb,.int .i64 (0),.int .i64 (0),.string Xb,.int .i64 (0),.slice is 0 0,.int .i64 (0),.string Xb,.int .i64 (0),.string Xb,.int .i64 (0),.int .i64 (0),.string Xb,.int .i64 (0),.slice is 0 0,.slice is 0 0,.int .i64 (0),.int .i64 (0)],jp⟩
theorem LI:aj prog 198 Pw:=⟨ad (by kernel_rfl),⟨_,underlying198,rfl⟩,fun _=>bG underlying198 Tryz.stoodInHeld198 Tryz.eqGuardType198 (by decide)⟩
def Pv:bC:=⟨.aP (.slice 9),1,24,.slice is 0 0,kw⟩
theorem LH:aj prog 199 Pv:=⟨ad (by kernel_rfl),⟨underlying199,rfl⟩,fun h=>nomatch h⟩
def Pu:bC:=⟨.aP (.func #[93] #[4] kw),1,8,.nilFunc,kw⟩
theorem LG:aj prog 202 Pu:=⟨ad (by kernel_rfl),⟨underlying202,rfl⟩,fun h=>nomatch h⟩
def Pt:bC:=⟨.aP (.func #[9] #[3] kw),1,8,.nilFunc,kw⟩
theorem LF:aj prog 203 Pt:=⟨ad (by kernel_rfl),⟨underlying203,rfl⟩,fun h=>nomatch h⟩
def Ps:bC:=⟨.aP (.pointer 198),1,8,.pointer is,kw⟩
theorem LD:aj prog 209 Ps:=⟨ad (by kernel_rfl),⟨underlying209,rfl⟩,fun h=>nomatch h⟩
def Pr:bC:=⟨.aP (.map 9 57),1,8,.map is,kw⟩
theorem LB:aj prog 219 Pr:=⟨ad (by kernel_rfl),⟨underlying219,rfl⟩,fun h=>nomatch h⟩
def Pq:bC:=⟨.aP (.pointer 173),1,8,.pointer is,kw⟩
theorem LA:aj prog 223 Pq:=⟨ad (by kernel_rfl),⟨underlying223,rfl⟩,fun h=>nomatch h⟩
def Pp:bC:=⟨.aP (.map 9 3),1,8,.map is,kw⟩
theorem Lz:aj prog 240 Pp:=⟨ad (by kernel_rfl),⟨underlying240,rfl⟩,fun h=>nomatch h⟩
def Po:bC:=⟨.aP (.func #[194] #[4] kw),1,8,.nilFunc,kw⟩
theorem Ly:aj prog 242 Po:=⟨ad (by kernel_rfl),⟨underlying242,rfl⟩,fun h=>nomatch h⟩
def Pn:bC:=⟨.aP (.func #[196] #[4] kw),1,8,.nilFunc,kw⟩
theorem Lx:aj prog 243 Pn:=⟨ad (by kernel_rfl),⟨underlying243,rfl⟩,fun h=>nomatch h⟩
def Pm:bC:=⟨.aP (.func #[198] #[4] kw),1,8,.nilFunc,kw⟩
theorem Lw:aj prog 247 Pm:=⟨ad (by kernel_rfl),⟨underlying247,rfl⟩,fun h=>nomatch h⟩
def Pl:bC:=⟨.aP (.int .i64),1,8,.int .i64 (0),kw⟩
theorem Lv:aj prog 250 Pl:=⟨ad (by kernel_rfl),⟨underlying250,rfl⟩,fun h=>nomatch h⟩
def Pk:bC:=⟨.aP (.func #[59,59] #[3] kw),1,8,.nilFunc,kw⟩
theorem Lu:aj prog 260 Pk:=⟨ad (by kernel_rfl),⟨underlying260,rfl⟩,fun h=>nomatch h⟩
def Pj:bC:=⟨.aP (.func #[59] #[4] kw),1,8,.nilFunc,kw⟩
theorem Lt:aj prog 263 Pj:=⟨ad (by kernel_rfl),⟨underlying263,rfl⟩,fun h=>nomatch h⟩
def Ph:bC:=⟨.aP (.pointer 5),1,8,.pointer is,kw⟩
theorem Ls:aj prog 275 Ph:=⟨ad (by kernel_rfl),⟨underlying275,rfl⟩,fun h=>nomatch h⟩
def Pg:bC:=⟨.aP (.func #[3] #[4] kw),1,8,.nilFunc,kw⟩
theorem Lr:aj prog 277 Pg:=⟨ad (by kernel_rfl),⟨underlying277,rfl⟩,fun h=>nomatch h⟩
def Pf:bC:=⟨.aP (.pointer 317),1,8,.pointer is,kw⟩
theorem Lq:aj prog 280 Pf:=⟨ad (by kernel_rfl),⟨underlying280,rfl⟩,fun h=>nomatch h⟩
def Pe:bC:=⟨.aP (.slice 149),1,24,.slice is 0 0,kw⟩
theorem Lp:aj prog 283 Pe:=⟨ad (by kernel_rfl),⟨underlying283,rfl⟩,fun h=>nomatch h⟩
def Pd:bC:=⟨.aP (.func #[149] #[4] kw),1,8,.nilFunc,kw⟩
theorem Lo:aj prog 285 Pd:=⟨ad (by kernel_rfl),⟨underlying285,rfl⟩,fun h=>nomatch h⟩
def Pc:bC:=⟨.cy [(0,31),(1,277)],2,16,.agg #[.int .i64 (0),.nilFunc],jp⟩
theorem Ln:aj prog 286 Pc:=⟨ad (by kernel_rfl),⟨_,underlying286,rfl⟩,fun _=>bG underlying286 Tryz.stoodInHeld286 Tryz.eqGuardType286 (by decide)⟩
def Pb:bC:=⟨.aP (.pointer 326),1,8,.pointer is,kw⟩
theorem Lm:aj prog 288 Pb:=⟨ad (by kernel_rfl),⟨underlying288,rfl⟩,fun h=>nomatch h⟩
def Pa:bC:=⟨.aP (.slice 286),1,24,.slice is 0 0,kw⟩
theorem Ll:aj prog 290 Pa:=⟨ad (by kernel_rfl),⟨underlying290,rfl⟩,fun h=>nomatch h⟩
def O9:bC:=⟨.aP (.int .u64),1,8,.int .u64 (0),kw⟩
theorem Lk:aj prog 296 O9:=⟨ad (by kernel_rfl),⟨underlying296,rfl⟩,fun h=>nomatch h⟩
def O8:bC:=⟨.aP (.pointer 3),1,8,.pointer is,kw⟩
theorem Lj:aj prog 300 O8:=⟨ad (by kernel_rfl),⟨underlying300,rfl⟩,fun h=>nomatch h⟩
def O7:bC:=⟨.aP (.func #[21] #[4] kw),1,8,.nilFunc,kw⟩
theorem Li:aj prog 308 O7:=⟨ad (by kernel_rfl),⟨underlying308,rfl⟩,fun h=>nomatch h⟩
def O6:bC:=⟨.aP (.unsafePointer),1,8,.pointer is,kw⟩
theorem Lh:aj prog 309 O6:=⟨ad (by kernel_rfl),⟨underlying309,rfl⟩,fun h=>nomatch h⟩
def O5:bC:=⟨.arr 7 9,7,112,.agg #[.string Xb,.string Xb,.string Xb,.string Xb,.string Xb,.string Xb,.string Xb],kw⟩
theorem Lg:aj prog 312 O5:=⟨ad (by kernel_rfl),underlying312,fun h=>nomatch h⟩
def O4:bC:=⟨.cy [(0,152),(5,240)],6,88,.agg #[.string Xb,.slice is 0 0,.slice is 0 0,.int .i64 (0),.int .i64 (0),.map is],jp⟩
theorem Lf:aj prog 317 O4:=⟨ad (by kernel_rfl),⟨_,underlying317,rfl⟩,fun _=>bG underlying317 Tryz.stoodInHeld317 Tryz.eqGuardType317 (by decide)⟩
def O3:bC:=⟨.aP (.func #[157] #[4] kw),1,8,.nilFunc,kw⟩
theorem Ld:aj prog 321 O3:=⟨ad (by kernel_rfl),⟨underlying321,rfl⟩,fun h=>nomatch h⟩
def O2:bC:=⟨.aP (.map 332 332),1,8,.map is,kw⟩
theorem Lc:aj prog 322 O2:=⟨ad (by kernel_rfl),⟨underlying322,rfl⟩,fun h=>nomatch h⟩
def O1:bC:=⟨.aP (.map 332 3),1,8,.map is,kw⟩
theorem Lb:aj prog 323 O1:=⟨ad (by kernel_rfl),⟨underlying323,rfl⟩,fun h=>nomatch h⟩
def O0:bC:=⟨.aP (.slice 334),1,24,.slice is 0 0,kw⟩
theorem La:aj prog 324 O0:=⟨ad (by kernel_rfl),⟨underlying324,rfl⟩,fun h=>nomatch h⟩
def OZ:bC:=⟨.cy [(0,280),(1,322),(2,324),(3,323)],4,48,.agg #[.pointer is,.map is,.slice is 0 0,.map is],jp⟩
theorem K9:aj prog 326 OZ:=⟨ad (by kernel_rfl),⟨_,underlying326,rfl⟩,fun _=>bG underlying326 Tryz.stoodInHeld326 Tryz.eqGuardType326 (by decide)⟩
def OY:bC:=⟨.cy [(0,9),(1,3)],2,24,.agg #[.string Xb,.int .i64 (0)],jp⟩
theorem K8:aj prog 332 OY:=⟨ad (by kernel_rfl),⟨_,underlying332,rfl⟩,fun _=>bG underlying332 Tryz.stoodInHeld332 Tryz.eqGuardType332 (by decide)⟩
def OX:bC:=⟨.cy [(0,3),(1,332),(3,3),(4,3)],5,48,.agg #[.int .i64 (0),.string Xb,.int .i64 (0),.int .i64 (0),.int .i64 (0)],jp⟩
theorem K7:aj prog 334 OX:=⟨ad (by kernel_rfl),⟨_,underlying334,rfl⟩,fun _=>bG underlying334 Tryz.stoodInHeld334 Tryz.eqGuardType334 (by decide)⟩
def OW:bC:=⟨.aP (.pointer 296),1,8,.pointer is,kw⟩
theorem K6:aj prog 343 OW:=⟨ad (by kernel_rfl),⟨underlying343,rfl⟩,fun h=>nomatch h⟩
def OV:bC:=⟨.arr 5 9,5,80,.agg #[.string Xb,.string Xb,.string Xb,.string Xb,.string Xb],kw⟩
theorem K5:aj prog 350 OV:=⟨ad (by kernel_rfl),underlying350,fun h=>nomatch h⟩
def OU:bC:=⟨.arr 24 5,24,24,.agg (.replicate 24 (.int .u8 (0))),kw⟩
theorem K4:aj prog 363 OU:=⟨ad (by kernel_rfl),underlying363,fun h=>nomatch h⟩
def OS:bC:=⟨.arr 20 104,20,160,.agg (.replicate 20 (.int .u64 (0))),kw⟩
theorem K3:aj prog 368 OS:=⟨ad (by kernel_rfl),underlying368,fun h=>nomatch h⟩
def OQ:bC:=⟨.arr 65 5,65,65,.agg (.replicate 65 (.int .u8 (0))),kw⟩
theorem K2:aj prog 369 OQ:=⟨ad (by kernel_rfl),underlying369,fun h=>nomatch h⟩
def OP:bC:=⟨.arr 32 5,32,32,.agg (.replicate 32 (.int .u8 (0))),kw⟩
theorem K1:aj prog 370 OP:=⟨ad (by kernel_rfl),underlying370,fun h=>nomatch h⟩
def OO:bC:=⟨.arr 64 5,64,64,.agg (.replicate 64 (.int .u8 (0))),kw⟩
theorem K0:aj prog 371 OO:=⟨ad (by kernel_rfl),underlying371,fun h=>nomatch h⟩
def HM:TT:=(.node (.node (.node (.node (.node (.node (.node .leaf 1 ty1 .leaf) 2 ty2 (.node .leaf 3 ty3 .leaf)) 4 ty4 (.node (.node .leaf 5 Ru .leaf) 9 ty9 .leaf)) 21 Uc (.node (.node (.node .leaf 22 Ub .leaf) 23 Ua (.node .leaf 25 T9 .leaf)) 26 T8 (.node (.node .leaf 28 T7 .leaf) 30 T6 .leaf))) 31 T5 (.node (.node (.node (.node .leaf 34 T4 .leaf) 35 T3 (.node .leaf 36 T2 .leaf)) 38 T1 (.node (.node .leaf 43 TZ .leaf) 55 TY .leaf)) 57 TX (.node (.node (.node .leaf 59 TV .leaf) 60 TU (.node .leaf 62 TR .leaf)) 64 TQ (.node (.node .leaf 66 TP .leaf) 70 TN .leaf)))) 72 TM (.node (.node (.node (.node (.node .leaf 82 TL .leaf) 83 TJ (.node .leaf 86 TI .leaf)) 93 TH (.node (.node .leaf 95 TG .leaf) 97 TF .leaf)) 100 P5 (.node (.node (.node .leaf 101 P4 .leaf) 104 P3 (.node .leaf 108 P2 .leaf)) 110 AY (.node (.node .leaf 111 P1 .leaf) 116 P0 .leaf))) 123 PZ (.node (.node (.node (.node .leaf 126 PY .leaf) 136 PX (.node .leaf 138 PW .leaf)) 140 PU (.node (.node .leaf 141 PT .leaf) 142 PS .leaf)) 145 PR (.node (.node (.node .leaf 147 PQ .leaf) 149 PO .leaf) 150 PN (.node (.node .leaf 152 PM .leaf) 157 PL .leaf))))) 160 PK (.node (.node (.node (.node (.node (.node .leaf 168 PJ .leaf) 171 PI (.node .leaf 173 PH .leaf)) 175 PG (.node (.node .leaf 181 PF .leaf) 182 PD .leaf)) 184 PC (.node (.node (.node .leaf 186 PB .leaf) 191 PA (.node .leaf 192 Pz .leaf)) 194 Py (.node (.node .leaf 196 Px .leaf) 198 Pw .leaf))) 199 Pv (.node (.node (.node (.node .leaf 202 Pu .leaf) 203 Pt (.node .leaf 209 Ps .leaf)) 219 Pr (.node (.node .leaf 223 Pq .leaf) 240 Pp .leaf)) 242 Po (.node (.node (.node .leaf 243 Pn .leaf) 247 Pm (.node .leaf 250 Pl .leaf)) 260 Pk (.node (.node .leaf 263 Pj .leaf) 275 Ph .leaf)))) 277 Pg (.node (.node (.node (.node (.node .leaf 280 Pf .leaf) 283 Pe (.node .leaf 285 Pd .leaf)) 286 Pc (.node (.node .leaf 288 Pb .leaf) 290 Pa .leaf)) 296 O9 (.node (.node (.node .leaf 300 O8 .leaf) 308 O7 (.node .leaf 309 O6 .leaf)) 312 O5 (.node (.node .leaf 317 O4 .leaf) 321 O3 .leaf))) 322 O2 (.node (.node (.node (.node .leaf 323 O1 .leaf) 324 O0 (.node .leaf 326 OZ .leaf)) 332 OY (.node (.node .leaf 334 OX .leaf) 343 OW .leaf)) 350 OV (.node (.node (.node .leaf 363 OU .leaf) 368 OS .leaf) 369 OQ (.node (.node .leaf 370 OP .leaf) 371 OO .leaf))))))
theorem C8:HM.VQ (aj prog):=⟨LW,⟨Q3,⟨Rl,⟨Rs,⟨TB,⟨TD,⟨TE,ac,ac⟩,⟨TC,ac,ac⟩⟩,⟨Tz,⟨TA,ac,ac⟩,ac⟩⟩,⟨Ro,⟨Rq,⟨Rr,ac,ac⟩,⟨Rp,ac,ac⟩⟩,⟨Rm,⟨Rn,ac,ac⟩,ac⟩⟩⟩,⟨Ra,⟨Rh,⟨Rj,⟨Rk,ac,ac⟩,⟨Ri,ac,ac⟩⟩,⟨Rb,⟨Rf,ac,ac⟩,ac⟩⟩,⟨Q6,⟨Q8,⟨Q9,ac,ac⟩,⟨Q7,ac,ac⟩⟩,⟨Q4,⟨Q5,ac,ac⟩,ac⟩⟩⟩⟩,⟨Ma,⟨Mh,⟨QW,⟨QY,⟨QZ,ac,ac⟩,⟨QX,ac,ac⟩⟩,⟨QS,⟨QU,ac,ac⟩,ac⟩⟩,⟨Md,⟨Mf,⟨Mg,ac,ac⟩,⟨Me,ac,ac⟩⟩,⟨Mb,⟨Mc,ac,ac⟩,ac⟩⟩⟩,⟨L3,⟨L6,⟨L8,⟨L9,ac,ac⟩,⟨L7,ac,ac⟩⟩,⟨L4,⟨L5,ac,ac⟩,ac⟩⟩,⟨LZ,⟨L1,⟨L2,ac,ac⟩,ac⟩,⟨LX,⟨LY,ac,ac⟩,ac⟩⟩⟩⟩⟩,⟨Lr,⟨LH,⟨LO,⟨LR,⟨LU,⟨LV,ac,ac⟩,⟨LS,ac,ac⟩⟩,⟨LP,⟨LQ,ac,ac⟩,ac⟩⟩,⟨LK,⟨LM,⟨LN,ac,ac⟩,⟨LL,ac,ac⟩⟩,⟨LI,⟨LJ,ac,ac⟩,ac⟩⟩⟩,⟨Ly,⟨LB,⟨LF,⟨LG,ac,ac⟩,⟨LD,ac,ac⟩⟩,⟨Lz,⟨LA,ac,ac⟩,ac⟩⟩,⟨Lu,⟨Lw,⟨Lx,ac,ac⟩,⟨Lv,ac,ac⟩⟩,⟨Ls,⟨Lt,ac,ac⟩,ac⟩⟩⟩⟩,⟨Lc,⟨Lk,⟨Ln,⟨Lp,⟨Lq,ac,ac⟩,⟨Lo,ac,ac⟩⟩,⟨Ll,⟨Lm,ac,ac⟩,ac⟩⟩,⟨Lg,⟨Li,⟨Lj,ac,ac⟩,⟨Lh,ac,ac⟩⟩,⟨Ld,⟨Lf,ac,ac⟩,ac⟩⟩⟩,⟨K5,⟨K8,⟨La,⟨Lb,ac,ac⟩,⟨K9,ac,ac⟩⟩,⟨K6,⟨K7,ac,ac⟩,ac⟩⟩,⟨K2,⟨K3,⟨K4,ac,ac⟩,ac⟩,⟨K0,⟨K1,ac,ac⟩,ac⟩⟩⟩⟩⟩⟩
def qw:Ty:=HM.find
theorem ab:bq prog qw:=TT.wz C8
theorem Sr:prog.follows .mixedOrders=jp:=rfl
theorem gl{Q:AQ}{nt:NT}{k:List KI}{s:AS}{C:Prop}{j:NT}{st:Stop}(h:bK qw ⟨fun _=>is,0,kw⟩ 400 nt k s True=io (C,j,st))(hC:C)(hg:fI prog j Q st):GO prog nt k Q s:=DZ Sr ab 400 h hC hg
theorem gA{Q:AQ}{nt:NT}{k:List KI}{s:AS}{C:Prop}{j:NT}{st:Stop}(h:bK qw ⟨fun _=>is,0,kw⟩ 400 nt k s True=io (C,j,st))(hg:fI prog j Q st)
  (hC:C:=by(repeat' (first|exact ac|exact rfl|exact ae.refl _|exact ae.bk (by assumption)|apply W0))<;>first|omega|exact iL (fun _=>rfl) _|(simp only[W6];omega)|(simp;done)|(simp;omega)):GO prog nt k Q s:=DZ Sr ab 400 h hC hg
theorem gM(N:Nat){Q:AQ}{nt:NT}{k:List KI}{s:AS}{C:Prop}{j:NT}{st:Stop}(h:bK qw ⟨fun _=>is,0,kw⟩ N nt k s True=io (C,j,st))(hg:fI prog j Q st)
  (hC:C:=by(repeat' (first|exact ac|exact rfl|exact ae.refl _|exact ae.bk (by assumption)|apply W0))<;>first|omega|exact iL (fun _=>rfl) _|(simp only[W6];omega)|(simp;done)|(simp;omega)):GO prog nt k Q s:=DZ Sr ab N h hC hg
theorem zp{nt:NT}{Q:AQ}{k:List KI}{s:AS}{all rest:List Oper}{o:Oper}{c:Call}{g:FuncId}{args:List PV}{r:PV}{s':AS}(hc:Al.Pure prog g args r)(h:GO prog nt (.ops all rest::k) Q s')(ho:o.op= .call c:=by exact rfl)(hg:o.guard=is:=by exact rfl)(ha:bP s.f c=io (g,args):=by exact rfl)(hl:bu 0 args=jp:=by exact rfl)(hr:r.low 0=jp:=by exact rfl)(hp:putDst nt o r s=io s':=by exact rfl):GO prog nt (.ops all (o::rest)::k) Q s:=aF hc ho hg ha hl hr hp h
theorem zL{ty:Ty}{u:List ResultVar}{e:Exit}{s:AS}{r r0:PV}(j:ae r0 r)(he:e= .normal∨e= .ret:=by first|exact .inr Z|exact .inl Z)(h:jh ty s u=io r0:=by exact rfl):Hs ty u r e s:=aM he h j
theorem zq{nt:NT}{Q:AQ}{k:List KI}{s:AS}{all rest:List Oper}{o:Oper}{c:Call}{g:FuncId}{asv args:List PV}{os:List AO}{r:PV}{y:AH}{A:Nat}{s':AS}(L:List Nat)(hc:bh prog g args os r y A)(h:GO prog nt (.ops all rest::k) Q s')(ho:o.op= .call c:=by exact rfl)(hg:o.guard=is:=by exact rfl)(ha:bP s.f c=io (g,asv):=by exact rfl)(hn:cI L=jp:=by exact rfl)(hl:L.all (fun j=>Xx j s.nx)=jp:=by exact rfl)(x:L.map s.h.get=os.map fun o=>io (o.b5 (sig L s.nx)):=by exact rfl)(u:asv=dh (sig L s.nx) args:=by exact rfl)(hp:putDst nt o (r.b5 (sig L s.nx)) (aC s L y A)=io s':=by exact rfl):GO prog nt (.ops all (o::rest)::k) Q s:=ai L hc ho hg ha hn hl x u hp h
theorem zd{nt:NT}{Q:AQ}{k:List KI}{s:AS}{all:List Oper}{todo pend:List (Nat×Oper)}{j:Nat}{o:Oper}{c:Call}{g:FuncId}{asv args:List PV}{os:List AO}{r:PV}{D:AH}{G:Nat}{s':AS}{B A:Prop}(L:List Nat)(hc:bh prog g args os r D G)(h:GO prog nt (.bS all (todo.filter fun x=>!Xv x.1 j) (ba pend o)::k) Q s')(hrd:dz todo=[(j,o)]:=by exact rfl)(ho:o.op= .call c:=by exact rfl)(ha:bP s.f c=io (g,asv):=by exact rfl)(hn:cI L=jp:=by exact rfl)(hl:L.all (fun j=>Xx j s.nx)=jp:=by exact rfl)(y:L.map s.h.get=os.map fun o=>io (o.b5 (sig L s.nx)):=by exact rfl)(u:asv=dh (sig L s.nx) args:=by exact rfl)(hp:putDst nt o (r.b5 (sig L s.nx)) (aC s L D G)=io s':=by exact rfl)(hg:bR nt all s.f o=io jp:=by exact rfl)(hpb:gY all pend o=jp:=by exact rfl)(hE:nR todo [j]=jp:=by exact rfl)(hag:l3 qw nt all s todo pend=io B:=by exact rfl)(hCA:B:=by(repeat' (first|exact ac|exact rfl|exact ae.refl _|exact ae.bk (by assumption)|apply W0))<;>first|omega|(simp only[W6];omega)|(simp;done)|(simp;omega))(hag2:c8 qw nt all s' (ba pend o)=io A:=by exact rfl)(hC2:A:=by(repeat' (first|exact ac|exact rfl|exact ae.refl _|exact ae.bk (by assumption)|apply W0))<;>first|omega|(simp only[W6];omega)|(simp;done)|(simp;omega)):GO prog nt (.bS all todo pend::k) Q s:=bf ab L hc hrd ho ha hn hl y u hp hg hpb hE hag hCA hag2 hC2 h
theorem Ej{nt:NT}{Q:AQ}{k:List KI}{s:AS}{all:List Oper}{todo pend:List (Nat×Oper)}{j:Nat}{o:Oper}{c:Call}{g:FuncId}{asv args:List PV}{r:PV}{s':AS}{A y:Prop}(hc:Al.Pure prog g args r)(h:GO prog nt (.bS all (todo.filter fun x=>!Xv x.1 j) (ba pend o)::k) Q s')(hrd:dz todo=[(j,o)]:=by exact rfl)(ho:o.op= .call c:=by exact rfl)(ha:bP s.f c=io (g,asv):=by exact rfl)(u:asv=dh (sig [] s.nx) args:=by exact rfl)(hp:putDst nt o (r.b5 (sig [] s.nx)) (aC s [] [] 0)=io s':=by exact rfl)(hg:bR nt all s.f o=io jp:=by exact rfl)(hpb:gY all pend o=jp:=by exact rfl)(hE:nR todo [j]=jp:=by exact rfl)(hag:l3 qw nt all s todo pend=io A:=by exact rfl)(hCA:A:=by(repeat' (first|exact ac|exact rfl|exact ae.refl _|exact ae.bk (by assumption)|apply W0))<;>first|omega|(simp only[W6];omega)|(simp;done)|(simp;omega))(hag2:c8 qw nt all s' (ba pend o)=io y:=by exact rfl)(hC2:y:=by(repeat' (first|exact ac|exact rfl|exact ae.refl _|exact ae.bk (by assumption)|apply W0))<;>first|omega|(simp only[W6];omega)|(simp;done)|(simp;omega)):GO prog nt (.bS all todo pend::k) Q s:=bf ab [] hc.nS hrd ho ha Z Z Z u hp hg hpb hE hag hCA hag2 hC2 h
theorem zW{n0:Nat}{L:List Nat}{s t:AS}(hh:pc t.nx (sg n0 L) s.h t.h)(h1:Xv t.nx (n0+L.length)=jp:=by exact rfl)(u:Y4 n0 s.nx=jp:=by exact rfl)(x:L.all (fun j=>Xx j s.nx)=jp:=by exact rfl)(hf:HC t.nx (sg n0 L) s.f t.f:=by repeat' (first|exact ac|exact ae.refl _|exact rfl|apply W0))(y:cI (fD (sg n0 L) t.h)=jp:=by exact rfl):Wk n0 L s t:=wk h1 u x hf hh y
theorem zM{n0:Nat}{L:List Nat}{s t:AS}(hf:HC t.nx (sg n0 L) s.f t.f)(hh:pc t.nx (sg n0 L) s.h t.h)(h1:Xv t.nx (n0+L.length)=jp:=by exact rfl)(u:Y4 n0 s.nx=jp:=by exact rfl)(x:L.all (fun j=>Xx j s.nx)=jp:=by exact rfl)(y:cI (fD (sg n0 L) t.h)=jp:=by exact rfl):Wk n0 L s t:=wk h1 u x hf hh y
theorem zK{n i:Nat}{σ:Nat->Nat}{h r:AH}{cs:List PV}{j:Option TypeId}{c:List IV}(hr:pc n σ h r)(ho:h.get (σ i)=io (.cells cs j):=by exact rfl)(he:cs=c.map .iv:=by exact rfl)(hi:Xx i n=jp:=by exact rfl):pc n σ h ((i,io (ax c))::r):=hC ho he hi hr
theorem zS{n i:Nat}{σ:Nat->Nat}{h r:AH}{α:Type}{sz:Nat}{es:List (List PV)}{l:List α}{f:α->List IV}(hr:pc n σ h r)(ho:h.get (σ i)=io (.row sz es):=by exact rfl)(he:es=l.map fun x=>(f x).map .iv:=by exact rfl)(hi:Xx i n=jp:=by exact rfl):pc n σ h ((i,io (aS sz l f))::r):=hR ho he hi hr
theorem zI{a b:Prop}(l:a)(r:b):a∧b:=⟨l,r⟩
theorem zO{n i:Nat}{σ:Nat->Nat}{h r:AH}{o:AO}(hr:pc n σ h r)(he: ∃p,h.get (σ i)=io p∧fc p (o.b5 σ):=by exact⟨_,rfl,.of_eq Z⟩)(hi:i<n:=by exact WY Z)(hl:o.low n:=by exact rfl):pc n σ h ((i,io o)::r):=⟨he,hi,hl,hr⟩
theorem zD{ty:Ty}{s:AS}{l:List ResultVar}{m:Nat}{r r0:PV}{h:AH}{n:Nat}{e:Exit}(L:List Nat)(hr:jh ty s l=io r0)(hw:Wk m L ⟨[(0,r0)],s.h,s.nx⟩ ⟨[(0,r)],h,n⟩)(he:e= .normal∨e= .ret:=by first|exact .inr Z|exact .inl Z):Ei ty l m r h n e s:=ar L he hr hw
theorem zU{ty:Ty}{u:List ResultVar}{nt:NT}{k:List KI}{s s':AS}{e:Exit}{C:Prop}{j:NT}{r r0:PV}(h:bK qw ⟨fun _=>is,0,kw⟩ 400 nt k s True=io (C,j,.fin e s'))(hr:r0=r:=by exact rfl)(he:e= .normal∨e= .ret:=by first|exact .inr Z|exact .inl Z)(h1:jh ty s' u=io r0:=by exact rfl)(hC:C:=by(repeat' (first|exact ac|exact rfl|exact ae.refl _|exact ae.bk (by assumption)|apply W0))<;>first|omega|exact iL (fun _=>rfl) _|(simp only[W6];omega)|(simp;done)|(simp;omega)):GO prog nt k (Hs ty u r) s:=gA h (aM he h1 (.of_eq hr)) hC
theorem zC{n i:Nat}{σ:Nat->Nat}{h r:AH}{V:Type}{kc:KC}{ev:V->IV}{z:V}{x:Value}{j:PV->V}{m u:List (kc.K×V)}(hr:pc n σ h r)(ho:h.get (σ i)=io (.map kc ev z x j m):=by exact rfl)(he:m=u:=by exact rfl)(hi:Xx i n=jp:=by exact rfl):pc n σ h ((i,io (.map kc ev z x j u))::r):=hM ho he hi hr
theorem zJ{Q:AQ}{nt:NT}{k:List KI}{s:AS}{C:Prop}{j:NT}{st:Stop}{a b:Prop}(h:bK qw ⟨fun _=>is,0,kw⟩ 400 nt k s True=io (C,j,st))(e:fI prog j Q st=(a∧b))(l:a)(r:b)(hC:C:=by(repeat' (first|exact ac|exact rfl|exact ae.refl _|exact ae.bk (by assumption)|apply W0))<;>first|omega|exact iL (fun _=>rfl) _|(simp only[W6];omega)|(simp;done)|(simp;omega)):GO prog nt k Q s:=gA h (e.mpr ⟨l,r⟩) hC
theorem zE{Q:AQ}{nt:NT}{k:List KI}{s:AS}{C:Prop}{j:NT}{st:Stop}{a b:Prop}(h:bK qw ⟨fun _=>is,0,kw⟩ 400 nt k s True=io (C,j,st))(e:fI prog j Q st=(a∧b))(r:b)(l:a)(hC:C:=by(repeat' (first|exact ac|exact rfl|exact ae.refl _|exact ae.bk (by assumption)|apply W0))<;>first|omega|exact iL (fun _=>rfl) _|(simp only[W6];omega)|(simp;done)|(simp;omega)):GO prog nt k Q s:=gA h (e.mpr ⟨l,r⟩) hC
theorem zT{p:Prop}[Decidable p](h:decide p=jp):p:=of_decide_eq_true h
theorem zF{p:Prop}[Decidable p](h:decide p=kw): ¬p:=of_decide_eq_false h
theorem zN{a b:Nat}(h:lc ((a:Int)<(b:Int))=jp):a<b:=aad.1 (of_decide_eq_true h)
theorem zG{a b:Nat}(h:lc ((a:Int)<(b:Int))=kw):b<=a:=YA fun hh=>absurd (aad.2 hh) (of_decide_eq_false h)
end Go.Proofs.YtlmhfgbkchnfbaaGreatDoor
namespace Go.Proofs.YtlmhfgbkchnfbaaGreatDoor
open Go Go.Al
abbrev aq:=ByteArray
structure cW where
 kind:Int
 num:Int
 sym:aq
 deriving Inhabited,DecidableEq
structure Term where
 kind:Int
 var:aq
 val:cW
 deriving Inhabited,DecidableEq
inductive Expr where
 |mk (kind:Int) (var:aq) (val:cW) (op:Int) (args:List Expr)
instance:Inhabited Expr:=⟨.mk 0 Xb ⟨0,0,Xb⟩ 0 []⟩
def Expr.kind:Expr->Int| .mk k _ _ _ _=>k
def Expr.var:Expr->aq| .mk _ v _ _ _=>v
def Expr.val:Expr->cW| .mk _ _ v _ _=>v
def Expr.op:Expr->Int| .mk _ _ _ o _=>o
def Expr.args:Expr->List Expr| .mk _ _ _ _ a=>a
structure Atom where
 rel:aq
 an:List Term
 deriving Inhabited,DecidableEq
structure Pos where
 line:Int
 KT:Int
 deriving Inhabited,DecidableEq
inductive Lit where
 |mk (kind:Int) (atom:Atom) (op:Int) (left right:Expr) (dZ:Int) (bJ:aq) (ky:Expr) (az:List Lit) (at_:Pos)
instance:Inhabited Lit:=⟨.mk 0 co 0 co co 0 Xb co [] ⟨0,0⟩⟩
def Lit.kind:Lit->Int| .mk k _ _ _ _ _ _ _ _ _=>k
def Lit.atom:Lit->Atom| .mk _ a _ _ _ _ _ _ _ _=>a
def Lit.op:Lit->Int| .mk _ _ o _ _ _ _ _ _ _=>o
def Lit.left:Lit->Expr| .mk _ _ _ l _ _ _ _ _ _=>l
def Lit.right:Lit->Expr| .mk _ _ _ _ r _ _ _ _ _=>r
def Lit.dZ:Lit->Int| .mk _ _ _ _ _ f _ _ _ _=>f
def Lit.bJ:Lit->aq| .mk _ _ _ _ _ _ v _ _ _=>v
def Lit.ky:Lit->Expr| .mk _ _ _ _ _ _ _ o _ _=>o
def Lit.az:Lit->List Lit| .mk _ _ _ _ _ _ _ _ b _=>b
def Lit.at:Lit->Pos| .mk _ _ _ _ _ _ _ _ _ p=>p
structure gU where
 func:Int
 var:aq
 j9:Expr
 body:List Lit
 deriving Inhabited
def Lit.agg(l:Lit):gU:=⟨l.dZ,l.bJ,l.ky,l.az⟩
structure aw where
 head:Atom
 body:List Lit
 at_:Pos
 deriving Inhabited
structure Decl where
 name:aq
 types:List Int
 at_:Pos
 deriving Inhabited
structure Prog where
 aG:List Decl
 rules:List aw
 deriving Inhabited
structure Fact where
 rel:aq
 args:List cW
 deriving Inhabited
def cW.c(v:cW):List IV:=[iI v.kind,iI v.num,iS v.sym]
def Term.c(t:Term):List IV:=[iI t.kind,iS t.var,iI t.val.kind,iI t.val.num,iS t.val.sym]
def dm(s:aq):List IV:=[iS s]
def kv(n:Int):List IV:=[iI n]
abbrev strs(l:List aq):IV:=aT 1 l dm
def Atom.c(a:Atom):List IV:=[iS a.rel,aT 5 a.an Term.c]
mutual
def Expr.cr:Expr->List IV
 | .mk k v val op args=> [iI k,iS v,iI val.kind,iI val.num,iS val.sym,iI op,.bI 7 args.length (fun j=>(Expr.wI args).getD j [])]
def Expr.wI:List Expr->List (List IV)
 | []=> []
 |e::r=>e.cr::Expr.wI r
end
def Expr.c(e:Expr):List IV:=[iI e.kind,iS e.var,iI e.val.kind,iI e.val.num,iS e.val.sym,iI e.op,.bI 7 e.args.length (fun j=>(Expr.wI e.args).getD j [])]
def Expr.c1(e:Expr):List IV:=[iI e.kind,iS e.var,iI e.val.kind,iI e.val.num,iS e.val.sym,iI e.op,aT 7 e.args Expr.c]
theorem Expr.Ke(e:Expr):e.cr=e.c:=by cases e;rfl
theorem Expr.rf: ∀(l:List Expr) (k:Nat),k<l.length->(Expr.wI l).getD k []=(l.getD k co).c
 |e::r,0,_=>by simp[Expr.wI,Expr.Ke]
 |e::r,k+1,h=>by simpa[Expr.wI]using Expr.rf r k (by simpa using h)
 | [],k,h=>by simp at h
theorem SP(e:Expr):jW (.bI 7 e.args.length (fun j=>(Expr.wI e.args).getD j [])) (aT 7 e.args Expr.c):= .bI Z (Expr.rf e.args)
theorem FB(e:Expr):jW (aT 7 e.args Expr.c) (.bI 7 e.args.length (fun j=>(Expr.wI e.args).getD j [])):= .bI Z (fun k hk=>(Expr.rf e.args k hk).symm)
mutual
def Lit.cr:Lit->List IV
 | .mk kind atom op left right dZ bJ ky az at_=>
  iI kind::(atom.c++(iI op::(left.c++(right.c++(iI dZ::iS bJ::(ky.c++ [.bI 30 az.length (fun j=>(Lit.wI az).getD j []),iI at_.line,iI at_.KT]))))))
def Lit.wI:List Lit->List (List IV)
 | []=> []
 |e::r=>e.cr::Lit.wI r
end
def Lit.cw(l:Lit)(b:IV):List IV:=
 [iI l.kind,iS l.atom.rel,aT 5 l.atom.an Term.c,iI l.op,
  iI l.left.kind,iS l.left.var,iI l.left.val.kind,iI l.left.val.num,iS l.left.val.sym,iI l.left.op,.bI 7 l.left.args.length (fun j=>(Expr.wI l.left.args).getD j []),
  iI l.right.kind,iS l.right.var,iI l.right.val.kind,iI l.right.val.num,iS l.right.val.sym,iI l.right.op,.bI 7 l.right.args.length (fun j=>(Expr.wI l.right.args).getD j []),
  iI l.dZ,iS l.bJ,
  iI l.ky.kind,iS l.ky.var,iI l.ky.val.kind,iI l.ky.val.num,iS l.ky.val.sym,iI l.ky.op,.bI 7 l.ky.args.length (fun j=>(Expr.wI l.ky.args).getD j []),
  b,iI l.at.line,iI l.at.KT]
def sD(l:List Lit):IV:= .bI 30 l.length (fun j=>(Lit.wI l).getD j [])
def Lit.c(l:Lit):List IV:=l.cw (sD l.az)
abbrev lits(l:List Lit):IV:=aT 30 l Lit.c
def Lit.c1(l:Lit):List IV:=l.cw (lits l.az)
theorem Lit.Ke(e:Lit):e.cr=e.c:=by cases e;rfl
theorem Lit.rf: ∀(l:List Lit) (k:Nat),k<l.length->(Lit.wI l).getD k []=(l.getD k co).c
 |e::r,0,_=>by simp[Lit.wI,Lit.Ke]
 |e::r,k+1,h=>by simpa[Lit.wI]using Lit.rf r k (by simpa using h)
 | [],k,h=>by simp at h
theorem nB(l:List Lit):jW (sD l) (lits l):= .bI Z (Lit.rf l)
theorem Ab(l:List Lit):jW (lits l) (sD l):= .bI Z (fun k hk=>(Lit.rf l k hk).symm)
def gU.cw(a:gU)(b:IV):List IV:=[iI a.func,iS a.var,iI a.j9.kind,iS a.j9.var,iI a.j9.val.kind,iI a.j9.val.num,iS a.j9.val.sym,iI a.j9.op,.bI 7 a.j9.args.length (fun j=>(Expr.wI a.j9.args).getD j []),b]
def gU.c(a:gU):List IV:=a.cw (sD a.body)
def gU.c1(a:gU):List IV:=a.cw (lits a.body)
def aw.c(r:aw):List IV:=[iS r.head.rel,aT 5 r.head.an Term.c,lits r.body,iI r.at_.line,iI r.at_.KT]
def Decl.c(r:Decl):List IV:=[iS r.name,aT 1 r.types kv,iI r.at_.line,iI r.at_.KT]
def Prog.c(p:Prog):List IV:=[aT 4 p.aG Decl.c,aT 5 p.rules aw.c]
def Fact.c(f:Fact):List IV:=[iS f.rel,aT 3 f.args cW.c]
theorem Expr.DP(e:Expr):ae (ag e.c) (ag e.c1):= .agg ⟨.refl _,.refl _,.refl _,.refl _,.refl _,.refl _,.iv (SP e),ac⟩
theorem Expr.G1(e:Expr):ae (ag e.c1) (ag e.c):= .agg ⟨.refl _,.refl _,.refl _,.refl _,.refl _,.refl _,.iv (FB e),ac⟩
theorem Lit.FF(l:Lit){b j:IV}(h:jW b j):ae (ag (l.cw b)) (ag (l.cw j)):=
 .agg ⟨.refl _,.refl _,.refl _,.refl _,.refl _,.refl _,.refl _,.refl _,.refl _,.refl _,.refl _,.refl _,.refl _,.refl _,.refl _,.refl _,.refl _,.refl _,.refl _,.refl _,.refl _,.refl _,.refl _,.refl _,.refl _,.refl _,.refl _,.iv h,.refl _,.refl _,ac⟩
theorem Lit.DP(l:Lit):ae (ag l.c) (ag l.c1):=l.FF (nB _)
theorem gU.FF(l:gU){b j:IV}(h:jW b j):ae (ag (l.cw b)) (ag (l.cw j)):=
 .agg ⟨.refl _,.refl _,.refl _,.refl _,.refl _,.refl _,.refl _,.refl _,.refl _,.iv h,ac⟩
theorem gU.DP(l:gU):ae (ag l.c) (ag l.c1):=l.FF (nB _)
theorem gU.G1(l:gU):ae (ag l.c1) (ag l.c):=l.FF (Ab _)
mutual
def Expr.size:Expr->Nat
 | .mk _ _ _ _ args=>1+Expr.aE args
def Expr.aE:List Expr->Nat
 | []=>0
 |e::r=>e.size+Expr.aE r
end
mutual
def Lit.size:Lit->Nat
 | .mk _ a _ l r _ _ o b _=>2+a.an.length+l.size+r.size+o.size+Lit.aE b
def Lit.aE:List Lit->Nat
 | []=>0
 |e::r=>e.size+Lit.aE r
end
theorem Expr.size_eq(e:Expr):e.size=1+Expr.aE e.args:=by cases e;rfl
theorem Lit.size_eq(l:Lit):l.size=2+l.atom.an.length+l.left.size+l.right.size+l.ky.size+Lit.aE l.az:=by cases l;rfl
theorem Expr.bU: ∀(l:List Expr) (k:Nat),k<l.length->(l.getD k co).size<=Expr.aE l
 |e::r,0,_=>by simp[Expr.aE]
 |e::r,k+1,h=>by
  have:=Expr.bU r k (by simpa using h);simp only[Yt,Expr.aE];omega
 | [],k,h=>by simp at h
theorem Lit.bU: ∀(l:List Lit) (k:Nat),k<l.length->(l.getD k co).size<=Lit.aE l
 |e::r,0,_=>by simp[Lit.aE]
 |e::r,k+1,h=>by
  have:=Lit.bU r k (by simpa using h);simp only[Yt,Lit.aE];omega
 | [],k,h=>by simp at h
theorem Expr.size_pos(e:Expr):1<=e.size:=by rw[e.size_eq];omega
theorem Lit.size_pos(e:Lit):2<=e.size:=by rw[e.size_eq];omega
theorem Expr.aJ: ∀(l:List Expr),l.length<=Expr.aE l
 | []=>W8 _
 |e::r=>by have:=e.size_pos;have:=Expr.aJ r;simp only[Xy,Expr.aE];omega
theorem Lit.aJ: ∀(l:List Lit),l.length<=Lit.aE l
 | []=>W8 _
 |e::r=>by have:=e.size_pos;have:=Lit.aJ r;simp only[Xy,Lit.aE];omega
def aw.size(r:aw):Nat:=r.head.an.length+Lit.aE r.body
def ei(l:List aq)(s:aq):Bool:=l.any fun x=>lc (x=s)
def eM(s:aq)(a:List aq×Bool)(x:aq):List aq×Bool:=
 if(a.2||decide (x=s))=kw∧(!(Op.bytesLess x.toList s.toList||decide (x=s)))=jp then(a.1++ [s]++ [x],jp) else(a.1++ [x],a.2||decide (x=s))
def iB(l:List aq)(s:aq):List aq:=
 let r:=l.foldl (eM s) ([],kw)
 if r.2 then r.1 else r.1++ [s]
def pd(l m:List aq):List aq:=m.foldl iB l
def C9(a:List aq)(t:Term):List aq:=if t.kind=1 then iB a t.var else a
def sG(a:Atom):List aq:=a.an.foldl C9 []
theorem Lit.vl: ∀(l:List Lit) (i:Nat),Lit.aE (l.take i)<=Lit.aE l
 | [],i=>by simp
 |e::r,0=>by simp[Lit.aE]
 |e::r,i+1=>by have:=Lit.vl r i;simp only[Yq,Lit.aE];omega
theorem Expr.ej: ∀(l:List Expr) (i:Nat),i<l.length->Expr.aE (l.take i)+(l.getD i co).size<=Expr.aE l
 |e::r,0,_=>by simp[Expr.aE]
 |e::r,i+1,h=>by have:=Expr.ej r i (by simpa using h);simp only[Yq,Yt,Expr.aE];omega
 | [],i,h=>by simp at h
theorem Lit.ej: ∀(l:List Lit) (i:Nat),i<l.length->Lit.aE (l.take i)+(l.getD i co).size<=Lit.aE l
 |e::r,0,_=>by simp[Lit.aE]
 |e::r,i+1,h=>by have:=Lit.ej r i (by simpa using h);simp only[Yq,Yt,Lit.aE];omega
 | [],i,h=>by simp at h
def gU.size(a:gU):Nat:=a.j9.size+Lit.aE a.body
section
def AK(n:Int):IV:= .v (.int .i64 n)
def Wj(p:PV):Int:=match p with
 | .iv (.v (.int _ n))=>n
 |_=>0
abbrev NM:=List ((KC.str).K×Int)
abbrev cZ(m:NM):AO:= .map .str AK 0 (.int .i64 0) Wj m
abbrev BW(m:NM):IV:= .fa .str AK 0 (.int .i64 0) m
theorem gp: ∀M,IR M (AK 0) (.int .i64 0):=fun _=> .v _
def bump(m:NM)(s:aq):NM:=cS .str m s (eh .str m s 0+1)
def aL(l:List aq):NM:=l.foldl bump []
theorem du(l:List aq)(s:aq):aL (l++ [s])=bump (aL l) s:=by simp[aL]
section
variable {V:Type}
theorem mB{m:List ((KC.str).K×V)}{s t:aq}{v z:V}:eh .str (cS .str m s v) t z=if s=t then v else eh .str m t z:=by
 induction m with
 |nil=>simp only[cS,eh]
 |cons x r ih=>
  obtain⟨a,b⟩:=x;simp only[cS];by_cases h:a=s
  .rw[am h];simp only[eh];by_cases j:s=t
   .simp[j]
   .have: ¬a=t:=fun e=>j (h▸e)
    rw[be j,be j,be this]
  .rw[be h];simp only[eh,ih];by_cases j:a=t
   .have: ¬s=t:=fun e=>h (j.trans e.symm)
    simp[j,this]
   .simp[j]
theorem Ci{m:List ((KC.str).K×V)}{t:aq}:dA .str m t=jp↔t∈m.map Yc:=by
 induction m with
 |nil=>simp[dA]
 |cons x r ih=>
  obtain⟨a,b⟩:=x;simp only[dA,W7,Xm];by_cases h:a=t
  .simp[h]
  .have: ¬t=a:=fun e=>h e.symm
   simp[h,this,ih]
theorem rY{m:List ((KC.str).K×V)}{s:aq}{v:V}(h:s∈m.map Yc):(cS .str m s v).map Yc=m.map Yc:=by
 induction m with
 |nil=>simp at h
 |cons x r ih=>
  obtain⟨a,b⟩:=x;simp only[cS];by_cases j:a=s
  .rw[am j];simp[j]
  .have: ¬s=a:=fun e=>j e.symm
   rw[be j,W7,ih (by simpa[this]using h)];rfl
theorem ey{m:List ((KC.str).K×V)}{s:aq}{v:V}(h:s∉m.map Yc):(cS .str m s v).map Yc=m.map Yc++ [s]:=by
 induction m with
 |nil=>simp[cS]
 |cons x r ih=>
  obtain⟨a,b⟩:=x;simp only[W7,Xm,not_or]at h;have: ¬a=s:=fun e=>h.1 e.symm;simp only[cS,be this,W7,ih h.2];rfl
theorem DJ{m:List ((KC.str).K×V)}{t:aq}{z:V}(h:t∉m.map Yc):eh .str m t z=z:=by
 induction m with
 |nil=>rfl
 |cons x r ih=>
  obtain⟨a,b⟩:=x;simp only[W7,Xm,not_or]at h;have: ¬a=t:=fun e=>h.1 e.symm;simp only[eh,be this];exact ih h.2
end
theorem rC{α:Type}{p:List α->Prop}(h0:p [])(h1: ∀l a,p l->p (l++ [a]))(l:List α):p l:=by
 have key: ∀r:List α,p r.reverse:=by
  intro r
  induction r with
  |nil=>exact h0
  |cons a r ih=>rw[List.reverse_cons];exact h1 _ _ ih
 simpa using key l.reverse
def rh(l:List aq)(t:aq):Nat:=(l.filter fun x=>lc (x=t)).length
theorem CF(l m:List aq)(t:aq):rh (l++m) t=rh l t+rh m t:=by simp[rh]
theorem ic(l:List aq)(t:aq):rh l t<=l.length:=Ys _ _
theorem wJ{l:List aq}{t:aq}:0<rh l t↔t∈l:=by
 rw[rh,List.length_pos_iff_exists_mem];constructor
 .rintro⟨x,hx⟩;obtain⟨h1,j⟩:=XG.1 hx;exact(zT j)▸h1
 .exact fun h=>⟨t,XG.2 ⟨h,by simp⟩⟩
theorem tx{l:List aq}{t:aq}:rh l t=0↔t∉l:=by
 rw[<-wJ];omega
theorem bM(l:List aq)(t:aq):eh .str (aL l) t 0=(rh l t:Int):=by
 induction l using rC with
 |h0=>rfl
 |h1 l s ih=>
  rw[du,bump,mB,CF];by_cases h:s=t
  .subst h;rw[ih];simp[rh]
  .rw[be h,ih];simp[h,rh]
theorem eS(l:List aq):((aL l).map Yc).Nodup∧ ∀t:aq,t∈(aL l).map Yc↔t∈l:=by
 induction l using rC with
 |h0=>simp[aL]
 |h1 l s ih=>
  rw[du,bump];obtain⟨h1,j⟩:=ih;by_cases h:s∈(aL l).map Yc
  .rw[rY h];refine⟨h1,fun t=>?_⟩;rw[j,Xr,Xd];exact⟨.inl,fun u=>u.elim id fun e=>e▸(j s).1 h⟩
  .rw[ey h];refine⟨?_,fun t=>by rw[Xr,j,Xr]⟩;rw[YG];refine⟨h1,XN.2 ⟨ZT,XY⟩,fun a x b hb e=>?_⟩;rw[Xd]at hb;exact h ((e.trans hb)▸x)
def cY(a:Atom):List aq:=a.an.flatMap fun t=>if t.kind=1 then[t.var] else[]
theorem bD{α β:Type}[Inhabited α]{l:List α}{f:α->List β}{i:Nat}(h:i<l.length):(l.take (i+1)).flatMap f=(l.take i).flatMap f++f (l.getD i co):=by
 rw[bT h,ZB];simp
theorem vh: ∀l:List Term,(l.flatMap fun t=>if t.kind=1 then[t.var] else[]).length<=l.length
 | []=>by simp
 |t::r=>by
  have:=vh r;have j:(if t.kind=1 then[t.var] else[]).length<=1:=by split<;>simp
  rw[X5,W1,Xy];omega
theorem jV(a:Atom):(cY a).length<=a.an.length:=vh a.an
theorem d88(occ:List aq)(a:Atom)(hb:occ.length+a.an.length<=1000000000000):bh Tryz.prog 192 [.mp 0,ag a.c] [cZ (aL occ)] (.a7 []) [(0,io (cZ (aL (occ++cY a))))] 1:=by
 refine ak ab Tryz.func192 Z (by decide) Tryz.ntmps192 Z (by simp) ?_;refine gA Z ?_;refine aN 0 a.an.length (Xc _) (fun i=>⟨[(0,.mp 0),(3,.ptr 1 0),(7,.iv (aT 5 a.an Term.c)),(8,pI a.an.length),(9,pI i)],[(0,io (cZ (aL (occ++(a.an.take i).flatMap fun t=>if t.kind=1 then[t.var] else[]))))],2⟩) (fun _=>True) [] ac
  (zW (hM Z (by simp) Z trivial)) fun i hi _=>?_
 have hl:=vh (a.an.take i);simp only[XA]at hl;refine zJ Z Z (fun h1=>?_) fun h1=>?_
 .have h1:i<a.an.length:=by simpa using h1
  have hs:=bD (f:=fun t:Term=>if t.kind=1 then[t.var] else[]) h1;have y:=bM (occ++(a.an.take i).flatMap fun t=>if t.kind=1 then[t.var] else[]) (a.an.getD i co).var;have u:=ic (occ++(a.an.take i).flatMap fun t=>if t.kind=1 then[t.var] else[]) (a.an.getD i co).var;rw[W1]at u;refine zJ Z Z (fun j=>?_) fun j=>?_
  .have j:(a.an.getD i co).kind=1:=by simpa using j
   rw[am j]at hs;refine gA Z ⟨h1,ac,[],zW (hM Z (by rw[hs,<-Xf,du];rfl) Z ac)⟩
  .have j: ¬(a.an.getD i co).kind=1:=by simpa using j
   rw[be j,XM]at hs;refine gA Z ⟨h1,ac,[],zW (hM Z (by rw[hs]) Z ac)⟩
 .have h1:a.an.length<=i:=by simpa using h1
  have x:a.an.take i=a.an:=Xh h1;refine gA Z (zD [] Z (zW (hM Z (by rw[x];rfl) Z ac)))
end
end Go.Proofs.YtlmhfgbkchnfbaaGreatDoor
namespace Go.Proofs.YtlmhfgbkchnfbaaGreatDoor
open Go Go.Al Go.Proofs.Tryz
mutual
def cK:Expr->List aq
 | .mk k v _ _ args=>if k=1 then[v] else if k=4 then kY args else[]
def kY:List Expr->List aq
 | []=> []
 |e::r=>cK e++kY r
end
theorem oV: ∀l:List Expr,kY l=l.flatMap cK
 | []=>rfl
 |e::r=>by simp only[kY,X5,oV r]
theorem D5(e:Expr):cK e=if e.kind=1 then[e.var] else if e.kind=4 then e.args.flatMap cK else[]:=by
 cases e with
 |mk k v val op args=>simp only[cK,Expr.kind,Expr.var,Expr.args,oV];rfl
mutual
theorem iJ: ∀e:Expr,(cK e).length<=e.size
 | .mk k v _ _ args=>by
  have:=nQ args;simp only[cK,Expr.size];split
  .simp
  .split
   .omega
   .simp
theorem nQ: ∀l:List Expr,(kY l).length<=Expr.aE l
 | []=>by simp[kY]
 |e::r=>by
  have h1:=iJ e;have j:=nQ r;simp only[kY,Expr.aE,W1];omega
end
theorem d135: ∀(n:Nat) (e:Expr) (occ:List aq),e.size<=n->occ.length+e.size<=1000000000000->bh prog 247 [.mp 0,ag e.c] [cZ (aL occ)] (.a7 []) [(0,io (cZ (aL (occ++cK e))))] 1
 |0,e,_,h,_=>by have:=e.size_pos;omega
 |n+1,e,occ,h,hb=>by
  refine bh.le (args:=[.mp 0,ag e.c1]) ?_ ⟨.refl _,e.DP,ac⟩;have x:=D5 e;have G:=e.size_eq;have D:=bM occ e.var;have B:=ic occ e.var;refine ak ab func247 Z (by decide) ntmps247 Z (by simp) ?_;refine zJ Z Z (fun h1=>?_) fun h1=>?_
  .have h1:e.kind=1:=by simpa using h1
   rw[am h1]at x;refine gA Z (zD [] Z (zW (hM Z (by rw[x,du];rfl) Z ac)))
  have h1: ¬e.kind=1:=by simpa using h1
  rw[be h1]at x;refine zJ Z Z (fun u=>?_) fun u=>?_
  .have u:e.kind=4:=by simpa using u
   rw[am u]at x;refine gA Z ?_;refine aN 0 e.args.length (Xc _) (fun i=>⟨[(0,.mp 0),(3,.ptr 1 0),(18,.iv (aT 7 e.args Expr.c)),(19,pI e.args.length),(20,pI i)],[(0,io (cZ (aL (occ++(e.args.take i).flatMap cK))))],2⟩) (fun _=>True) [] ac
    (zW (hM Z (by simp) Z trivial)) fun i hi _=>?_
   have A:=Expr.aJ e.args;refine zJ Z Z (fun j=>?_) fun j=>?_
   .have j:i<e.args.length:=by simpa using j
    have hs:=bD (f:=cK) j;have J:=Expr.ej e.args i j;have I:=nQ (e.args.take i);rw[oV]at I;refine gA Z (ai [0] (d135 n (e.args.getD i co) _ (by omega) (by rw[W1];omega)) Z Z Z Z Z Z Z Z ?_);refine gA Z ⟨j,ac,[],zW (hM Z (by rw[hs,Xf]) Z ac)⟩
   .have j:e.args.length<=i:=by simpa using j
    have y:e.args.take i=e.args:=Xh j;refine gA Z (zD [] Z (zW (hM Z (by rw[x,y]) Z ac)))
  .have u: ¬e.kind=4:=by simpa using u
   rw[be u]at x;refine gA Z (zD [] Z (zW (hM Z (by rw[x,XM]) Z ac)))
theorem Kc(e:Expr)(occ:List aq)(hb:occ.length+e.size<=1000000000000):bh prog 247 [.mp 0,ag e.c] [cZ (aL occ)] (.a7 []) [(0,io (cZ (aL (occ++cK e))))] 1:=d135 e.size e occ (W8 _) hb
def c4(l:Lit):List aq:=if l.kind=1∨l.kind=2 then cY l.atom else if l.kind=3 then cK l.left++cK l.right else[]
theorem nC(l:Lit):(c4 l).length+2<=l.size:=by
 have h1:=jV l.atom;have j:=iJ l.left;have u:=iJ l.right;rw[l.size_eq];unfold c4;split
 .omega
 .split
  .rw[W1];omega
  .simp;omega
theorem d89(l:Lit)(occ:List aq)(hb:occ.length+l.size<=1000000000000):bh prog 215 [.mp 0,ag l.c] [cZ (aL occ)] (.a7 []) [(0,io (cZ (aL (occ++c4 l))))] 1:=by
 have B:=l.size_eq;have D:=iJ l.left;refine ak ab func215 Z (by decide) ntmps215 Z (by simp) ?_;refine zJ Z Z (fun u=>?_) fun u=>?_
 .have u:l.kind=1:=zT u;have A:c4 l=cY l.atom:=am (.inl u);refine gA Z (zq [0] (d88 occ l.atom (by omega)) ?_);refine gA Z (zD [] Z (zW (hM Z (by rw[A]) Z ac)))
 have u: ¬l.kind=1:=zF u;refine zJ Z Z (fun x=>?_) fun x=>?_
 .have x:l.kind=2:=zT x;have A:c4 l=cY l.atom:=am (.inr x);refine gA Z (zq [0] (d88 occ l.atom (by omega)) ?_);refine gA Z (zD [] Z (zW (hM Z (by rw[A]) Z ac)))
 have x: ¬l.kind=2:=zF x;have j:c4 l=if l.kind=3 then cK l.left++cK l.right else[]:=be (by simp[u,x]);refine zJ Z Z (fun y=>?_) fun y=>?_
 .have y:l.kind=3:=zT y;rw[am y]at j;refine gA Z (zq [0] (Kc l.left occ (by omega)) ?_);refine gA Z (ai [0] (Kc l.right _ (by rw[W1];omega)) Z Z Z Z Z Z Z Z ?_);refine gA Z (zD [] Z (zW (hM Z (by rw[j,Xf]) Z ac)))
 .have y: ¬l.kind=3:=zF y;rw[be y]at j;refine gA Z (zD [] Z (zW (hM Z (by rw[j,XM]) Z ac)))
def bp(a:gU):List aq:=(if a.func=1 then[] else cK a.j9)++a.body.flatMap c4
theorem lE: ∀l:List Lit,(l.flatMap c4).length<=Lit.aE l
 | []=>by simp
 |e::r=>by
  have h1:=nC e;have j:=lE r;rw[X5,W1];simp only[Lit.aE];omega
theorem Qu(e:Expr)(hb:e.size<=1000000000000):bh prog 247 [.mp 0,ag e.c] [.fE] (.a7 []) [(0,io (cZ (aL (cK e))))] 1:=
 (Kc e [] (by simpa using hb)).Qi ⟨⟨id,fun M N U w j u=>⟨#[],0,u,⟨rfl,by simp[aL],by simp[aL],by simp,by simp⟩,gp M⟩⟩,ac⟩
theorem Wo(a:Atom)(hb:a.an.length<=1000000000000):bh prog 192 [.mp 0,ag a.c] [.fE] (.a7 []) [(0,io (cZ (aL (cY a))))] 1:=
 (d88 [] a (by simpa using hb)).Qi ⟨⟨id,fun M N U w j u=>⟨#[],0,u,⟨rfl,by simp[aL],by simp[aL],by simp,by simp⟩,gp M⟩⟩,ac⟩
theorem d127(a:gU)(hb:a.size<=1000000000000):bh prog 221 [ag a.c] [] (.mp 0) [(0,io (cZ (aL (bp a))))] 1:=by
 refine bh.le (args:=[ag a.c1]) ?_ ⟨a.DP,ac⟩;unfold gU.size at hb;have A:=iJ a.j9;have y:=Lit.aJ a.body;refine ak ab func221 Z (by decide) ntmps221 Z (by simp) ?_;refine zJ Z Z (fun h1=>?_) fun h1=>?_
 .have h1: ¬a.func=1:=by simpa using h1
  have u:bp a=cK a.j9++a.body.flatMap c4:=by unfold bp;rw[be h1]
  refine gA Z (zq [1] (Qu a.j9 (by omega)) ?_);refine gA Z ?_;refine aN 0 a.body.length (Xc _) (fun i=>⟨[(3,.mp 1),(15,.iv (lits a.body)),(16,pI a.body.length),(17,pI i)],[(1,io (cZ (aL (cK a.j9++(a.body.take i).flatMap c4))))],2⟩) (fun _=>True) [] ac
   (zW (hM Z (by simp) Z trivial)) fun i hi _=>?_
  refine zJ Z Z (fun j=>?_) fun j=>?_
  .have j:i<a.body.length:=by simpa using j
   have hs:=bD (f:=c4) j;have B:=Lit.ej a.body i j;have D:=lE (a.body.take i);refine gA Z (ai [1] (d89 (a.body.getD i co) _ (by rw[W1];omega)) Z Z Z Z Z Z Z Z ?_);refine gA Z ⟨j,ac,[],zW (hM Z (by rw[hs,Xf]) Z ac)⟩
  .have j:a.body.length<=i:=by simpa using j
   have x:a.body.take i=a.body:=Xh j;refine gA Z (zD [1] Z (zW (hM Z (by rw[x,u]) Z ac)))
 .have h1:a.func=1:=by simpa using h1
  have u:bp a=a.body.flatMap c4:=by unfold bp;rw[am h1];rfl
  refine gA Z ?_;refine aN 0 a.body.length (Xc _) (fun i=>⟨[(3,.mp 1),(15,.iv (lits a.body)),(16,pI a.body.length),(17,pI i)],[(1,io (cZ (aL ((a.body.take i).flatMap c4))))],2⟩) (fun _=>True) [] ac
   (zW (SC Z gp Z trivial)) fun i hi _=>?_
  refine zJ Z Z (fun j=>?_) fun j=>?_
  .have j:i<a.body.length:=by simpa using j
   have hs:=bD (f:=c4) j;have B:=Lit.ej a.body i j;have D:=lE (a.body.take i);refine gA Z (ai [1] (d89 (a.body.getD i co) _ (by omega)) Z Z Z Z Z Z Z Z ?_);refine gA Z ⟨j,ac,[],zW (hM Z (by rw[hs]) Z ac)⟩
  .have j:a.body.length<=i:=by simpa using j
   have x:a.body.take i=a.body:=Xh j;refine gA Z (zD [1] Z (zW (hM Z (by rw[x,u]) Z ac)))
def ins:List aq->aq->List aq
 | [],s=> [s]
 |x::r,s=>if x=s then x::r else if Op.bytesLess x.toList s.toList=jp then x::ins r s else s::x::r
theorem kV(s:aq): ∀(l a:List aq),l.foldl (eM s) (a,jp)=(a++l,jp)
 | [],a=>by simp
 |x::r,a=>by
  have:eM s (a,jp) x=(a++ [x],jp):=by simp[eM]
  rw[X8,this,kV s r];simp
theorem yE(s:aq): ∀(l a:List aq),(if(l.foldl (eM s) (a,kw)).2 then(l.foldl (eM s) (a,kw)).1 else(l.foldl (eM s) (a,kw)).1++ [s])=a++ins l s
 | [],a=>by simp[ins]
 |x::r,a=>by
  by_cases h1:x=s
  .have:eM s (a,kw) x=(a++ [x],jp):=by simp[eM,h1]
   rw[X8,this,kV];simp[ins,h1]
  .cases h2:Op.bytesLess x.toList s.toList with
   |true=>
    have:eM s (a,kw) x=(a++ [x],kw):=by simp[eM,h1,h2]
    rw[X8,this,yE s r];simp[ins,h1,h2]
   |false=>
    have:eM s (a,kw) x=(a++ [s]++ [x],jp):=by simp[eM,h1,h2]
    rw[X8,this,kV];simp[ins,h1,h2]
theorem xF(l:List aq)(s:aq):iB l s=ins l s:=by
 have:=yE s l [];simpa[iB]using this
theorem nr{x:aq}: ∀{l:List aq} {s:aq},x∈ins l s↔x∈l∨x=s
 | [],s=>by simp[ins]
 |y::r,s=>by
  simp only[ins];split
  .rename_i h;subst h;simp;exact fun h=> .inl h
  .split
   .simp[nr (l:=r),or_assoc]
   .simp;constructor
    .rintro(h|h|h)
     .exact .inr h
     .exact .inl (.inl h)
     .exact .inl (.inr h)
    .rintro((h|h)|h)
     .exact .inr (.inl h)
     .exact .inr (.inr h)
     .exact .inl h
theorem dJ{x s:aq}{l:List aq}:x∈iB l s↔x∈l∨x=s:=by rw[xF];exact nr
theorem tV{x:aq}: ∀{m l:List aq},x∈pd l m↔x∈l∨x∈m
 | [],l=>by simp[pd]
 |y::r,l=>by
  have h:=tV (x:=x) (m:=r) (l:=iB l y);simp only[pd,X8]at h ⊢;rw[h,dJ,Xm,or_assoc]
theorem bN{l:List aq}{s:aq}:ei l s=jp↔s∈l:=by
 simp[ei]
theorem fM{l:List aq}{s:aq}:ei l s=kw↔s∉l:=by
 rw[<-Bool.not_eq_true,bN]
def j4(l:Lit):List aq:=c4 l++if l.kind=4 then[l.bJ] else[]
def aI(r:aw):List aq:=cY r.head++r.body.flatMap j4
theorem DK(l:Lit):(j4 l).length+1<=l.size:=by
 have:=nC l;unfold j4;rw[W1];split<;>simp<;>omega
theorem oO: ∀l:List Lit,(l.flatMap j4).length<=Lit.aE l
 | []=>by simp
 |e::r=>by
  have h1:=DK e;have j:=oO r;rw[X5,W1];simp only[Lit.aE];omega
theorem zQ(r:aw):(aI r).length<=r.size:=by
 have h1:=oO r.body;have j:=jV r.head;unfold aI aw.size;rw[W1];omega
def Qx(r:aw):List IV:=[iS r.head.rel,aT 5 r.head.an Term.c,lits r.body,iI r.at_.line,iI r.at_.KT,BW (aL (aI r))]
abbrev cM(r:aw):IV:= .ln (Qx r)
theorem c48(r:aw)(hb:r.size<=1000000000000):Pure prog 177 [ag r.c] (.iv (cM r)):=by
 unfold aw.size at hb;have D:=jV r.head;have B:=Lit.aJ r.body;refine ah ab func177 Z (by decide) ntmps177 Z (by simp) Z ?_;refine gA Z (zd [1] (Wo r.head (by omega)) ?_);refine gA Z ?_
 refine aN 0 r.body.length (Xc _) (fun i=>⟨[(3,.ptr 2 0),(18,.iv (lits r.body)),(19,pI r.body.length),(20,pI i)],
   [(1,io (cZ (aL (cY r.head++(r.body.take i).flatMap j4)))),(2,io (.cells [pS r.head.rel,.iv (aT 5 r.head.an Term.c),.iv (lits r.body),pI r.at_.line,pI r.at_.KT,.mp 1]))],3⟩) (fun _=>True) [] ac
  (zW (hM Z (by simp) Z (zO trivial))) fun i hi _=>?_
 refine zJ Z Z (fun u=>?_) fun u=>?_
 .have u:i<r.body.length:=by simpa using u
  have hs:=bD (f:=j4) u;have J:=Lit.ej r.body i u;have Y:=oO (r.body.take i);have I:=nC (r.body.getD i co);refine gA Z (bf ab [1] (d89 (r.body.getD i co) _ (by rw[W1];omega)) Z Z Z Z Z Z Z Z Z Z Z Z (by(repeat' (first|exact ac|exact rfl|exact ae.refl _|exact ae.bk (by assumption)|apply W0))<;>first|omega|(simp only[W6];omega)|(simp;done)|(simp;omega)) Z (by(repeat' (first|exact ac|exact rfl|exact ae.refl _|exact ae.bk (by assumption)|apply W0))<;>first|omega|(simp only[W6];omega)|(simp;done)|(simp;omega)) ?_);refine zJ Z Z (fun x=>?_) fun x=>?_
  .have x:(r.body.getD i co).kind=4:=zT x;have j:j4 (r.body.getD i co)=c4 (r.body.getD i co)++ [(r.body.getD i co).bJ]:=by unfold j4;rw[am x]
   rw[j]at hs;have G:=bM (cY r.head++(r.body.take i).flatMap j4++c4 (r.body.getD i co)) (r.body.getD i co).bJ;have y:=ic (cY r.head++(r.body.take i).flatMap j4++c4 (r.body.getD i co)) (r.body.getD i co).bJ;rw[W1,W1]at y;refine gA Z ⟨u,ac,[],zW (hM Z (by rw[hs,<-Xf,<-Xf,du];rfl) Z (zO ac))⟩
  .have x: ¬(r.body.getD i co).kind=4:=zF x;have j:j4 (r.body.getD i co)=c4 (r.body.getD i co):=by unfold j4;rw[be x,XM]
   rw[j]at hs;refine gA Z ⟨u,ac,[],zW (hM Z (by rw[hs,<-Xf]) Z (zO ac))⟩
 .have u:r.body.length<=i:=by simpa using u
  have A:r.body.take i=r.body:=Xh u;refine gl Z ac (fp (.inr Z) Z (.map 1 Z (.cells 2 _ Z (show _=List.map PV.iv (Qx r) by rw[A];rfl) (.done (.of_eq Z)))))
def bj(occ:List aq)(e:Expr):Bool:=(cK e).all fun x=>ei occ x
theorem uO{l:List aq}{j:Nat}{x:(KC.str).K×Int}(h:(aL l)[j]? =io x):x.1∈l:=
 ((eS l).2 x.1).1 (XH.2 ⟨x,XE h,rfl⟩)
theorem all_keys{l:List aq}{vs:List Nat}(h: ∀j,j<(aL l).length->j∈vs){p:aq->Prop}(hp: ∀j∈vs,∀x,(aL l)[j]? =io x->p x.1): ∀t∈l,p t:=by
 intro t ht;obtain⟨x,y,rfl⟩:=XH.1 (((eS l).2 t).2 ht);obtain⟨j,u⟩:=XU y;exact hp j (h j (W4.1 u).1) x u
theorem d125(occ:List aq)(e:Expr)(hb:e.size<=1000000000000):bh prog 251 [.mp 0,ag e.c] [cZ (aL occ)] (pB (bj occ e)) [(0,io (cZ (aL occ)))] 1:=by
 refine ak ab func251 Z (by decide) ntmps251 Z (by simp) ?_;refine gA Z (zq [2] (Qu e hb) ?_);refine gA Z ?_;refine gk (aL (cK e)) (fun vs=>⟨[(0,.mp 0),(12,.ptr 3 0)],[(0,io (cZ (aL occ))),(3,io (.bY .str AK (aL (cK e)) vs is))],4⟩) (fun vs=> ∀j∈vs,∀x,(aL (cK e))[j]? =io x->x.1∈occ) [] (by simp)
  (zW (zC (hI Z Z (.inl Z) Z trivial))) fun vs I=>?_
 refine gl Z ac (dX Z Z Z Z Z (by decide) (fun u=>?_) fun j x D J=>?_)
 .refine gA Z (zD [] Z (zM ⟨.of_eq (by rw[show bj occ e=jp from XO.2 fun t ht=>bN.2 (all_keys u I t ht)];rfl),rfl,ac⟩ (zC ac)))
 .have A:=bM occ x.1;refine zJ Z Z (fun h1=>?_) fun h1=>?_
  .have h1:eh .str (aL occ) x.1 0=0:=zT h1;have B:x.1∉occ:=tx.1 (by rw[A]at h1;omega);refine gA Z (zD [] Z (zM ⟨.of_eq (by rw[show bj occ e=kw from List.all_eq_false.2 ⟨x.1,uO D,by rw[fM.2 B];simp⟩];rfl),rfl,ac⟩ (zC ac)))
  .have h1: ¬eh .str (aL occ) x.1 0=0:=zF h1;have B:x.1∈occ:=wJ.1 (by rw[A]at h1;omega);refine gA Z ?_
   exact⟨j,x,D,J,fun i hi y G=>by
    rcases Xm.1 hi with rfl|hi
    .rw[D]at G;cases G;exact B
    .exact I i hi y G,[],zW (zC (hI Z Z (.inr Z) Z ac))⟩
def au(r:aw)(lit:Int):Lit:=r.body.getD lit.toNat co
theorem Lit.lg(l:Lit):l.agg.size+2<=l.size:=by
 rw[l.size_eq];unfold gU.size Lit.agg;dsimp only;omega
theorem qx{a b:aq×Bool}(h:a=b):PV.a7 [pS a.1,pB a.2]= .a7 [pS b.1,pB b.2]:=by rw[h]
def lL(l:Lit)(j:List aq):aq×Bool:=
 if¬l.kind=3∨ ¬l.op=1 then(Xb,kw)
 else if l.left.kind=1∧ei j l.left.var=kw∧(l.right.kind=2∨l.right.kind=1∧ei j l.right.var=jp) then(l.left.var,jp)
 else if l.right.kind=1∧(if l.left.kind=1 then ei j l.left.var else lc (l.left.kind=2))=jp then(l.right.var,!ei j l.right.var)
 else(Xb,kw)
def bV(body:List Lit):List aq:=body.flatMap fun l=> [l.left.var,l.right.var,l.bJ]
def cQ(c k:List aq):Nat:=(c.filter fun x=>!ei k x).length
theorem kD: ∀body:List Lit,(bV body).length=3*body.length
 | []=>rfl
 |l::r=>by have:=kD r;simp only[bV,X5,W1,Xy,Yg]at this ⊢;omega
theorem rT(c k:List aq):cQ c k<=c.length:=Ys _ _
theorem rS{v:aq}{k:List aq}: ∀{c:List aq},v∈c->v∉k->cQ c (iB k v)<cQ c k:=by
 have mono: ∀c:List aq,cQ c (iB k v)<=cQ c k:=by
  intro c
  induction c with
  |nil=>exact W8 _
  |cons x r j=>
   simp only[cQ]at j ⊢;simp only[YT];by_cases h1:x∈k
   .have:ei (iB k v) x=jp:=bN.2 (dJ.2 (.inl h1));rw[this,bN.2 h1];exact j
   .simp only[fM.2 h1,ZZ,if_true,Xy];split<;>(try simp only[Xy])<;>omega
 intro c y hk
 induction c with
 |nil=>cases y
 |cons x r j=>
  have A:=mono r;simp only[cQ]at j A ⊢;simp only[YT];by_cases u:x=v
  .subst u;have:ei (iB k x) x=jp:=bN.2 (dJ.2 (.inr Z));simp[this,fM.2 hk];omega
  .have hr:v∈r:=by
    rcases Xm.1 y with h|h
    .exact absurd h.symm u
    .exact h
   have j:=j hr;by_cases h1:x∈k
   .have:ei (iB k v) x=jp:=bN.2 (dJ.2 (.inl h1));simp[this,bN.2 h1];exact j
   .have:ei (iB k v) x=kw:=fM.2 fun h=>by rcases dJ.1 h with h|h;exact h1 h;exact u h
    simp[this,fM.2 h1];omega
def GA(k:List aq)(l:Lit):List aq:=if l.kind=1 then pd k (sG l.atom) else k
theorem yR{body:List Lit}{l:Lit}(h:l∈body){v:aq}(j:v∈ [l.left.var,l.right.var,l.bJ]):v∈bV body:=ZU.2 ⟨l,h,j⟩
def gL(may:Expr->Bool)(occ:List aq)(l:Lit):aq×Bool:=
 if¬l.kind=3∨ ¬l.op=1 then(Xb,kw)
 else if l.left.kind=1∧ei occ l.left.var=kw∧may l.right=jp then(l.left.var,jp)
 else if l.right.kind=1∧ei occ l.right.var=kw∧may l.left=jp then(l.right.var,jp)
 else(Xb,kw)
theorem cD{occ:List aq}{s:aq}:ei occ s=!lc (eh .str (aL occ) s 0=0):=by
 rw[bM];by_cases h:s∈occ
 .have:=wJ.2 h;rw[bN.2 h];simp;omega
 .rw[fM.2 h,tx.2 h];rfl
def cH(occ:List aq)(e:Expr):Bool:=lc (e.kind=2)||(lc (e.kind=1)&&ei occ e.var)
theorem oF{a b:Bool}(h:a=b):pB a=pB b:=by rw[h]
theorem d76(occ:List aq)(e:Expr)(hb:e.size<=1000000000000):bh prog 131 [ag e.c,.ptr 1 0] [cZ (aL occ),.cells [.mp 0]] (pB (cH occ e)) [(0,io (cZ (aL occ))),(1,io (.cells [.mp 0]))] 2:=by
 have j:=bM occ e.var;have hi:=cD (occ:=occ) (s:=e.var);refine ak ab func131 Z (by decide) ntmps131 Z (by simp) ?_
 repeat' (first
  |(refine gA Z (zI (fun _=>?_) (fun _=>?_)))
  |fail)
 all_goals first
  |(refine gA Z (ar [] (.inr Z) Z (zM ⟨.of_eq (oF (a:=jp) ?_),rfl,ac⟩ (zC (zO ac))));simp_all [cH];done)
  |(refine gA Z (ar [] (.inr Z) Z (zM ⟨.of_eq (oF (a:=kw) ?_),rfl,ac⟩ (zC (zO ac))));simp_all [cH];done)
  |(refine gA Z (ar [] (.inr Z) Z (zM ⟨.of_eq (oF (a:=lc (eh .str (aL occ) e.var 0>0)) ?_),rfl,ac⟩ (zC (zO ac))));rw[cH,hi,j];simp_all;by_cases u:rh occ e.var=0<;>simp[u]<;>omega)
theorem c77(a:gU):Pure prog 132 [ag a.c] (pB kw):=by
 refine ah ab func132 Z (by decide) ntmps132 Z (by simp) Z ?_;exact zU Z
theorem WA(a:gU):Pure prog 253 [ag a.c] (pB kw):=by
 refine ah ab func253 Z (by decide) ntmps253 Z (by simp) Z ?_;exact zU Z
def oI(out occ:List aq)(a:gU):Bool:=(bp a).all fun x=>lc (x=a.var)||(!ei out x||ei occ x)
theorem d126(r:aw)(occ:List aq)(a:gU)(hb:a.size<=1000000000000):bh prog 252 [ag a.c,.ptr 1 0,.ptr 2 0] [cZ (aL occ),.cells [.iv (cM r)],.cells [.mp 0]] (pB (oI (aI r) occ a)) [(0,io (cZ (aL occ))),(1,io (.cells [.iv (cM r)])),(2,io (.cells [.mp 0]))] 3:=by
 refine ak ab func252 Z (by decide) ntmps252 Z (by simp) ?_;refine gA Z (zq [] (d127 a hb) ?_);refine gA Z ?_;refine gk (aL (bp a)) (fun vs=>⟨[(1,.ptr 1 0),(2,.ptr 2 0),(3,.ptr 3 0),(8,.ptr 5 0)],[(0,io (cZ (aL occ))),(1,io (.cells [.iv (cM r)])),(2,io (.cells [.mp 0])),(3,io (ax a.c)),(5,io (.bY .str AK (aL (bp a)) vs is))],6⟩) (fun vs=> ∀j∈vs,∀x,(aL (bp a))[j]? =io x->(lc (x.1=a.var)||(!ei (aI r) x.1||ei occ x.1))=jp) [] (by simp)
  (zW (zC ⟨⟨_,rfl,.of_eq Z⟩,WY Z,rfl,⟨_,rfl,.of_eq Z⟩,WY Z,rfl,zK (hI Z Z (.inl Z) Z trivial)⟩)) fun vs J=>?_
 refine gl Z ac (dX Z Z Z Z Z (by decide) (fun u=>?_) fun j x A B=>?_)
 .refine gA Z (zD [] Z (zM ⟨.of_eq (oF (a:=jp) (XO.2 fun t ht=>all_keys (p:=fun t=>(lc (t=a.var)||(!ei (aI r) t||ei occ t))=jp) u J t ht).symm),rfl,ac⟩ (zC ⟨⟨_,rfl,.of_eq Z⟩,WY Z,rfl,⟨_,rfl,.of_eq Z⟩,WY Z,rfl,ac⟩)))
 .have more:(lc (x.1=a.var)||(!ei (aI r) x.1||ei occ x.1))=jp-> ∀i∈j::vs,∀x,(aL (bp a))[i]? =io x->(lc (x.1=a.var)||(!ei (aI r) x.1||ei occ x.1))=jp:=fun h i hi y D=>by
   rcases Xm.1 hi with rfl|hi
   .rw[A]at D;cases D;exact h
   .exact J i hi y D
  have G:=cD (occ:=aI r) (s:=x.1);have I:=cD (occ:=occ) (s:=x.1);have Y:=bM (aI r) x.1;have h8:=bM occ x.1;refine zJ Z Z (fun g1=>?_) fun g1=>?_
  .have g1:lc (x.1=a.var)=kw:=by simpa using g1
   refine zJ Z Z (fun g2=>?_) fun g2=>?_
   .have g2:ei (aI r) x.1=jp:=by
     have:=zT g2;rw[G];simp;omega
    refine zJ Z Z (fun g3=>?_) fun g3=>?_
    .have g3:ei occ x.1=kw:=by rw[I,g3];rfl
     refine gA Z (zD [] Z (zM ⟨.of_eq (oF (a:=kw) (List.all_eq_false.2 ⟨x.1,uO A,by rw[g1,g2,g3];simp⟩).symm),rfl,ac⟩ (zC ⟨⟨_,rfl,.of_eq Z⟩,WY Z,rfl,⟨_,rfl,.of_eq Z⟩,WY Z,rfl,ac⟩)))
    .have g3:ei occ x.1=jp:=by rw[I,g3];rfl
     refine gA Z ⟨j,x,A,B,more (by rw[g3];simp),[],zW (zC ⟨⟨_,rfl,.of_eq Z⟩,WY Z,rfl,⟨_,rfl,.of_eq Z⟩,WY Z,rfl,zK (hI Z Z (.inr Z) Z ac)⟩)⟩
   .have g2:ei (aI r) x.1=kw:=by
     have:=zF g2;rw[G];simp;omega
    refine gA Z ⟨j,x,A,B,more (by rw[g2];simp),[],zW (zC ⟨⟨_,rfl,.of_eq Z⟩,WY Z,rfl,⟨_,rfl,.of_eq Z⟩,WY Z,rfl,zK (hI Z Z (.inr Z) Z ac)⟩)⟩
  .have g1:lc (x.1=a.var)=jp:=by simpa using g1
   refine gA Z ⟨j,x,A,B,more (by rw[g1];simp),[],zW (zC ⟨⟨_,rfl,.of_eq Z⟩,WY Z,rfl,⟨_,rfl,.of_eq Z⟩,WY Z,rfl,zK (hI Z Z (.inr Z) Z ac)⟩)⟩
def np(may:Expr->Bool)(more:gU->Bool)(occ:List aq)(l:Lit):Option aq:=
 if(gL may occ l).2=jp then io (gL may occ l).1 else if l.kind=4∧ei occ l.bJ=kw∧more l.agg=jp then io l.bJ else is
def cm(may:Expr->Bool)(more:gU->Bool)(occ:List aq):List Lit->Option aq
 | []=>is
 |l::r=>match np may more occ l with
  |some v=>io v
  |none=>cm may more occ r
def dq(may:List aq->Expr->Bool)(more:List aq->gU->Bool)(body:List Lit):Nat->List aq->List aq
 |0,occ=>occ
 |n+1,occ=>match cm (may occ) (more occ) occ body with
  |some v=>dq may more body n (occ++ [v])
  |none=>occ
def bA(l:Lit):List aq:=if l.kind=1 then cY l.atom else[]
def cq(may:List aq->Expr->Bool)(more:List aq->gU->Bool)(body:List Lit)(occ:List aq):List aq:=dq may more body (3*body.length+1) (occ++body.flatMap bA)
theorem fu{may:List aq->Expr->Bool}{more:List aq->gU->Bool}{body:List Lit}{n:Nat}{occ:List aq}{v:aq}(h:cm (may occ) (more occ) occ body=io v):dq may more body (n+1) occ=dq may more body n (occ++ [v]):=by
 simp only[dq,h]
theorem fw{may:List aq->Expr->Bool}{more:List aq->gU->Bool}{body:List Lit}{n:Nat}{occ:List aq}(h:cm (may occ) (more occ) occ body=is):dq may more body (n+1) occ=occ:=by
 simp only[dq,h]
theorem lX{may:Expr->Bool}{more:gU->Bool}{occ:List aq}: ∀{l m:List Lit},cm may more occ l=is->cm may more occ (l++m)=cm may more occ m
 | [],_,_=>rfl
 |x::r,m,h=>by
  simp only[cm]at h;split at h
  .cases h
  .rename_i h1;simp only[Xp,cm,h1];exact lX h
theorem dY{may:Expr->Bool}{more:gU->Bool}{occ:List aq}{l:List Lit}{i:Nat}(h:cm may more occ (l.take i)=is)(hi:i<l.length)(j:np may more occ (l.getD i co)=is):cm may more occ (l.take (i+1))=is:=by
 rw[bT hi,lX h];simp only[cm,j]
theorem ra{may:Expr->Bool}{more:gU->Bool}{occ:List aq}{l:List Lit}{i:Nat}{v:aq}(h:cm may more occ (l.take i)=is)(hi:i<l.length)(j:np may more occ (l.getD i co)=io v):cm may more occ l=io v:=by
 have e:l=l.take i++(l.getD i co::l.drop (i+1)):=by
  rw[W2,W5 hi,X9,List.getElem_cons_drop,List.take_append_drop]
 rw[e,lX h];simp only[cm,j]
theorem vU{may:Expr->Bool}{more:gU->Bool}{occ:List aq}{l:Lit}{v:aq}(h:np may more occ l=io v):v∈ [l.left.var,l.right.var,l.bJ]∧v∉occ:=by
 unfold np at h;split at h
 .rename_i h1;simp only[W3]at h;subst h;unfold gL at h1 ⊢;split at h1
  .cases h1
  .rename_i x;rw[be x];split at h1
   .rename_i j;rw[am j];exact⟨by simp,fM.1 j.2.1⟩
   .rename_i j;rw[be j];split at h1
    .rename_i u;rw[am u];exact⟨by simp,fM.1 u.2.1⟩
    .cases h1
 .split at h
  .rename_i j;simp only[W3]at h;subst h;exact⟨by simp,fM.1 j.2.1⟩
  .cases h
theorem kW{may:Expr->Bool}{more:gU->Bool}{occ:List aq}{v:aq}: ∀{l:List Lit},cm may more occ l=io v->v∈bV l∧v∉occ
 | [],h=>by cases h
 |x::r,h=>by
  simp only[cm]at h;split at h
  .rename_i w u;simp only[W3]at h;subst h;obtain⟨h1,j⟩:=vU u;exact⟨yR Xk h1,j⟩
  .obtain⟨h1,j⟩:=kW h;refine⟨?_,j⟩;simp only[bV,X5,Xr]at h1 ⊢;exact .inr h1
theorem gf: ∀l:List Lit,(l.flatMap bA).length<=Lit.aE l
 | []=>by simp
 |e::r=>by
  have j:=gf r;have u:(bA e).length<=e.size:=by
   have:=jV e.atom;have:=e.size_eq;unfold bA;split
   .omega
   .simp
  rw[X5,W1];simp only[Lit.aE];omega
theorem Vr(occ:List aq)(l:Lit)(hb:l.size<=100000000000):bh prog 193 [ag l.c,.cB (.func 251) [.mp 0] [],.mp 0] [cZ (aL occ)] (.a7 [pS (gL (bj occ) occ l).1,pB (gL (bj occ) occ l).2]) [(0,io (cZ (aL occ)))] 1:=by
 have A:=l.size_eq;have x:=bM occ l.left.var;have y:=bM occ l.right.var;refine ak ab func193 Z (by decide) ntmps193 Z (by simp) ?_;refine zE Z Z (fun h1=>?_) fun h1=>?_
 .have h1: ¬l.kind=3:=by simpa using h1
  refine gA Z (zD [] Z (zM ⟨.of_eq (qx (a:=(Xb,kw)) (by rw[gL,am (.inl h1)])),rfl,ac⟩ (zC ac)))
 have h1:l.kind=3:=by simpa using h1
 refine zJ Z Z (fun j=>?_) fun j=>?_
 .have j: ¬l.op=1:=by simpa using j
  refine gA Z (zD [] Z (zM ⟨.of_eq (qx (a:=(Xb,kw)) (by rw[gL,am (.inr j)])),rfl,ac⟩ (zC ac)))
 have j:l.op=1:=by simpa using j
 have u:gL (bj occ) occ l=if l.left.kind=1∧ei occ l.left.var=kw∧(bj occ) l.right=jp then(l.left.var,jp) else if l.right.kind=1∧ei occ l.right.var=kw∧(bj occ) l.left=jp then(l.right.var,jp) else(Xb,kw):=by
  rw[gL,be (by simp[h1,j])]
 repeat' (first
  |(refine gA Z (zI (fun _=>?_) (fun _=>?_)))
  |(refine gA Z (ai [0] (d125 occ l.left (by omega)) Z Z Z Z Z Z Z Z ?_))
  |(refine gA Z (ai [0] (d125 occ l.right (by omega)) Z Z Z Z Z Z Z Z ?_))
  |fail)
 all_goals first
  |(refine gA Z (ar [] (.inr Z) Z (zM ⟨.of_eq (qx (a:=(Xb,kw)) ?_),rfl,ac⟩ (zC ac)));rw[u];simp only[cD] at*;simp_all;done)
  |(refine gA Z (ar [] (.inr Z) Z (zM ⟨.of_eq (qx (a:=(l.left.var,jp)) ?_),rfl,ac⟩ (zC ac)));rw[u];simp only[cD] at*;simp_all;done)
  |(refine gA Z (ar [] (.inr Z) Z (zM ⟨.of_eq (qx (a:=(l.right.var,jp)) ?_),rfl,ac⟩ (zC ac)));rw[u];simp only[cD] at*;simp_all;done)
  |(exfalso;simp_all;done)
theorem Wr(occ:List aq)(body:List Lit)(hb:occ.length+8*Lit.aE body<=100000000000):bh prog 130 [.iv (lits body),.mp 0,.cB (.func 251) [.mp 0] [],.cB (.func 253) [] []] [cZ (aL occ)] (.a7 []) [(0,io (cZ (aL (cq (fun occ=>bj occ) (fun occ=>fun _=>kw) body occ))))] 1:=by
 have i0:=Lit.aJ body;have n0:=gf body;have j0:=kD body;have m0:=rT (bV body) (occ++body.flatMap bA);refine ak ab func130 Z (by decide) ntmps130 Z (by simp) ?_;refine gA Z ?_;refine aN 0 body.length (Xc _) (fun i=>⟨[(0,.iv (lits body)),(1,.mp 0),(2,.cB (.func 251) [.mp 0] []),(3,.cB (.func 253) [] []),(14,.iv (lits body)),(15,pI body.length),(16,pI i)],[(0,io (cZ (aL (occ++(body.take i).flatMap bA))))],1⟩) (fun _=>True) [] ac
  (zW (hM Z (by simp) Z trivial)) fun i hi _=>?_
 refine zJ Z Z (fun h1=>?_) fun h1=>?_
 .have h1:i<body.length:=by simpa using h1
  have hs:=bD (f:=bA) h1;have hn:=Lit.ej body i h1;have hv:=gf (body.take i);have p0:=(body.getD i co).size_eq;refine zJ Z Z (fun y=>?_) fun y=>?_
  .have y:(body.getD i co).kind=1:=by simpa using y
   rw[show bA (body.getD i co)=_ from am y]at hs;refine gA Z (zq [0] (d88 (occ++(body.take i).flatMap bA) (body.getD i co).atom (by rw[W1];omega)) ?_);refine gA Z ⟨h1,ac,[],zW (hM Z (by rw[hs,Xf]) Z ac)⟩
  .have y: ¬(body.getD i co).kind=1:=by simpa using y
   rw[show bA (body.getD i co)=_ from be y,XM]at hs;refine gA Z ⟨h1,ac,[],zW (hM Z (by rw[hs]) Z ac)⟩
 have h1:body.length<=i:=by simpa using h1
 have e0:body.take i=body:=Xh h1;rw[e0];refine gA Z ?_;refine iF (σ:={x:List aq×Nat//cq (fun occ=>bj occ) (fun occ=>fun _=>kw) body occ=dq (fun occ=>bj occ) (fun occ=>fun _=>kw) body (x.2+1) x.1∧cQ (bV body) x.1<=x.2∧x.1.length+cQ (bV body) x.1<=(occ++body.flatMap bA).length+cQ (bV body) (occ++body.flatMap bA)})
  (fun x=>⟨[(0,.iv (lits body)),(1,.mp 0),(2,.cB (.func 251) [.mp 0] []),(3,.cB (.func 253) [] [])],[(0,io (cZ (aL x.1.1)))],1⟩) (fun x=>cQ (bV body) x.1.1)
  ⟨(occ++body.flatMap bA,3*body.length),rfl,by dsimp only;omega,W8 _⟩ [] (zW (zC trivial)) ?_
 rintro⟨⟨ok,f⟩,hx1,hx2,hx3⟩;dsimp only at hx1 hx2 hx3 ⊢;rw[W1]at hx3;refine gA Z ?_;refine aN 0 body.length (Xc _) (fun i=>⟨[(0,.iv (lits body)),(1,.mp 0),(2,.cB (.func 251) [.mp 0] []),(3,.cB (.func 253) [] []),(28,.iv (lits body)),(29,pI body.length),(30,pI i)],[(0,io (cZ (aL ok)))],1⟩) (fun i=>cm ((fun occ=>bj occ) ok) ((fun occ=>fun _=>kw) ok) ok (body.take i)=is) [] Z
  (zW (zC trivial)) fun i hi G=>?_
 refine zJ Z Z (fun j=>?_) fun j=>?_
 .have j:i<body.length:=by simpa using j
  have o0:=Lit.bU body i j;have g0:=(body.getD i co).lg;have u: ∀v,np ((fun occ=>bj occ) ok) ((fun occ=>fun _=>kw) ok) ok (body.getD i co)=io v->cq (fun occ=>bj occ) (fun occ=>fun _=>kw) body occ=dq (fun occ=>bj occ) (fun occ=>fun _=>kw) body (f-1+1) (ok++ [v])∧cQ (bV body) (ok++ [v])<=f-1∧
    (ok++ [v]).length+cQ (bV body) (ok++ [v])<=(occ++body.flatMap bA).length+cQ (bV body) (occ++body.flatMap bA)∧cQ (bV body) (ok++ [v])<cQ (bV body) ok:=by
   intro v hv;have hf:=ra G j hv;obtain⟨g1,g2⟩:=kW hf;have k0:=rS g1 g2;have f0:cQ (bV body) (ok++ [v])=cQ (bV body) (iB ok v):=by
    unfold cQ;congr 2
    funext x
    congr 1;rw[Yu,bN,bN,dJ,Xr,Xd]
   have Y:f-1+1=f:=by omega
   refine⟨?_,by omega,?_,by omega⟩
   .rw[hx1,fu hf,Y]
   .rw[W1,W1,Xu];omega
  have c0:=bM ok (gL (bj ok) ok (body.getD i co)).1;have a0:=ic ok (gL (bj ok) ok (body.getD i co)).1;have d0:=bM ok (body.getD i co).bJ;have b0:=ic ok (body.getD i co).bJ;refine gA Z (zq [0] (Vr ok (body.getD i co) (by omega)) ?_);refine zJ Z Z (fun D=>?_) fun D=>?_
  .obtain⟨g1,g2,g3,g4⟩:=u _ (am D);refine gA Z ⟨⟨(_,f-1),g1,g2,g3⟩,[],g4,zW (hM Z (by dsimp only;rw[du];rfl) Z ac)⟩
  .refine zJ Z Z (fun A=>?_) fun A=>?_
   .have A:(body.getD i co).kind=4:=by simpa using A
    refine zJ Z Z (fun B=>?_) fun B=>?_
    .have B:ei ok (body.getD i co).bJ=kw:=by rw[cD];simpa using B
     refine gA Z (zp (WA (body.getD i co).agg) ?_);refine zJ Z Z (fun J=>?_) fun J=>?_
     .obtain⟨g1,g2,g3,g4⟩:=u _ ((be (by rw[D];simp)).trans (am ⟨A,B,J⟩));refine gA Z ⟨⟨(_,f-1),g1,g2,g3⟩,[],g4,zW (hM Z (by dsimp only;rw[du];rfl) Z ac)⟩
     .refine gA Z ?_;exact⟨j,dY G j ((be (by rw[D];simp)).trans (be (fun h=>nomatch (h.2.2.symm.trans J)))),[],zW (zC ac)⟩
    .have B:ei ok (body.getD i co).bJ=jp:=by rw[cD];simpa using B
     refine gA Z ⟨j,dY G j ((be (by rw[D];simp)).trans (be (by rw[B];simp))),[],zW (zC ac)⟩
   .have A: ¬(body.getD i co).kind=4:=by simpa using A
    refine gA Z ⟨j,dY G j ((be (by rw[D];simp)).trans (be (fun h=>A h.1))),[],zW (zC ac)⟩
 .have j:body.length<=i:=by simpa using j
  rw[Xh j]at G;have I:cq (fun occ=>bj occ) (fun occ=>fun _=>kw) body occ=ok:=by rw[hx1,fw G]
  refine gA Z (zD [] Z (zW (hM Z (by rw[I]) Z ac)))
theorem Vq(occ:List aq)(l:Lit)(hb:l.size<=100000000000):bh prog 193 [ag l.c,.cB (.func 131) [] [.ptr 1 0],.mp 0] [cZ (aL occ),.cells [.mp 0]] (.a7 [pS (gL (cH occ) occ l).1,pB (gL (cH occ) occ l).2]) [(0,io (cZ (aL occ))),(1,io (.cells [.mp 0]))] 2:=by
 have A:=l.size_eq;have x:=bM occ l.left.var;have y:=bM occ l.right.var;refine ak ab func193 Z (by decide) ntmps193 Z (by simp) ?_;refine zE Z Z (fun h1=>?_) fun h1=>?_
 .have h1: ¬l.kind=3:=by simpa using h1
  refine gA Z (zD [] Z (zM ⟨.of_eq (qx (a:=(Xb,kw)) (by rw[gL,am (.inl h1)])),rfl,ac⟩ (zC (zO ac))))
 have h1:l.kind=3:=by simpa using h1
 refine zJ Z Z (fun j=>?_) fun j=>?_
 .have j: ¬l.op=1:=by simpa using j
  refine gA Z (zD [] Z (zM ⟨.of_eq (qx (a:=(Xb,kw)) (by rw[gL,am (.inr j)])),rfl,ac⟩ (zC (zO ac))))
 have j:l.op=1:=by simpa using j
 have u:gL (cH occ) occ l=if l.left.kind=1∧ei occ l.left.var=kw∧(cH occ) l.right=jp then(l.left.var,jp) else if l.right.kind=1∧ei occ l.right.var=kw∧(cH occ) l.left=jp then(l.right.var,jp) else(Xb,kw):=by
  rw[gL,be (by simp[h1,j])]
 repeat' (first
  |(refine gA Z (zI (fun _=>?_) (fun _=>?_)))
  |(refine gA Z (ai [0,1] (d76 occ l.left (by omega)) Z Z Z Z Z Z Z Z ?_))
  |(refine gA Z (ai [0,1] (d76 occ l.right (by omega)) Z Z Z Z Z Z Z Z ?_))
  |fail)
 all_goals first
  |(refine gA Z (ar [] (.inr Z) Z (zM ⟨.of_eq (qx (a:=(Xb,kw)) ?_),rfl,ac⟩ (zC (zO ac))));rw[u];simp only[cD] at*;simp_all;done)
  |(refine gA Z (ar [] (.inr Z) Z (zM ⟨.of_eq (qx (a:=(l.left.var,jp)) ?_),rfl,ac⟩ (zC (zO ac))));rw[u];simp only[cD] at*;simp_all;done)
  |(refine gA Z (ar [] (.inr Z) Z (zM ⟨.of_eq (qx (a:=(l.right.var,jp)) ?_),rfl,ac⟩ (zC (zO ac))));rw[u];simp only[cD] at*;simp_all;done)
  |(exfalso;simp_all;done)
theorem Wq(occ:List aq)(body:List Lit)(hb:occ.length+8*Lit.aE body<=100000000000):bh prog 130 [.iv (lits body),.mp 0,.cB (.func 131) [] [.ptr 1 0],.cB (.func 132) [] []] [cZ (aL occ),.cells [.mp 0]] (.a7 []) [(0,io (cZ (aL (cq (fun occ=>cH occ) (fun occ=>fun _=>kw) body occ)))),(1,io (.cells [.mp 0]))] 2:=by
 have i0:=Lit.aJ body;have n0:=gf body;have j0:=kD body;have m0:=rT (bV body) (occ++body.flatMap bA);refine ak ab func130 Z (by decide) ntmps130 Z (by simp) ?_;refine gA Z ?_;refine aN 0 body.length (Xc _) (fun i=>⟨[(0,.iv (lits body)),(1,.mp 0),(2,.cB (.func 131) [] [.ptr 1 0]),(3,.cB (.func 132) [] []),(14,.iv (lits body)),(15,pI body.length),(16,pI i)],[(0,io (cZ (aL (occ++(body.take i).flatMap bA)))),(1,io (.cells [.mp 0]))],2⟩) (fun _=>True) [] ac
  (zW (hM Z (by simp) Z (zO trivial))) fun i hi _=>?_
 refine zJ Z Z (fun h1=>?_) fun h1=>?_
 .have h1:i<body.length:=by simpa using h1
  have hs:=bD (f:=bA) h1;have hn:=Lit.ej body i h1;have hv:=gf (body.take i);have p0:=(body.getD i co).size_eq;refine zJ Z Z (fun y=>?_) fun y=>?_
  .have y:(body.getD i co).kind=1:=by simpa using y
   rw[show bA (body.getD i co)=_ from am y]at hs;refine gA Z (zq [0] (d88 (occ++(body.take i).flatMap bA) (body.getD i co).atom (by rw[W1];omega)) ?_);refine gA Z ⟨h1,ac,[],zW (hM Z (by rw[hs,Xf]) Z (zO ac))⟩
  .have y: ¬(body.getD i co).kind=1:=by simpa using y
   rw[show bA (body.getD i co)=_ from be y,XM]at hs;refine gA Z ⟨h1,ac,[],zW (hM Z (by rw[hs]) Z (zO ac))⟩
 have h1:body.length<=i:=by simpa using h1
 have e0:body.take i=body:=Xh h1;rw[e0];refine gA Z ?_;refine iF (σ:={x:List aq×Nat//cq (fun occ=>cH occ) (fun occ=>fun _=>kw) body occ=dq (fun occ=>cH occ) (fun occ=>fun _=>kw) body (x.2+1) x.1∧cQ (bV body) x.1<=x.2∧x.1.length+cQ (bV body) x.1<=(occ++body.flatMap bA).length+cQ (bV body) (occ++body.flatMap bA)})
  (fun x=>⟨[(0,.iv (lits body)),(1,.mp 0),(2,.cB (.func 131) [] [.ptr 1 0]),(3,.cB (.func 132) [] [])],[(0,io (cZ (aL x.1.1))),(1,io (.cells [.mp 0]))],2⟩) (fun x=>cQ (bV body) x.1.1)
  ⟨(occ++body.flatMap bA,3*body.length),rfl,by dsimp only;omega,W8 _⟩ [] (zW (zC (zO trivial))) ?_
 rintro⟨⟨ok,f⟩,hx1,hx2,hx3⟩;dsimp only at hx1 hx2 hx3 ⊢;rw[W1]at hx3;refine gA Z ?_;refine aN 0 body.length (Xc _) (fun i=>⟨[(0,.iv (lits body)),(1,.mp 0),(2,.cB (.func 131) [] [.ptr 1 0]),(3,.cB (.func 132) [] []),(28,.iv (lits body)),(29,pI body.length),(30,pI i)],[(0,io (cZ (aL ok))),(1,io (.cells [.mp 0]))],2⟩) (fun i=>cm ((fun occ=>cH occ) ok) ((fun occ=>fun _=>kw) ok) ok (body.take i)=is) [] Z
  (zW (zC (zO trivial))) fun i hi G=>?_
 refine zJ Z Z (fun j=>?_) fun j=>?_
 .have j:i<body.length:=by simpa using j
  have o0:=Lit.bU body i j;have g0:=(body.getD i co).lg;have u: ∀v,np ((fun occ=>cH occ) ok) ((fun occ=>fun _=>kw) ok) ok (body.getD i co)=io v->cq (fun occ=>cH occ) (fun occ=>fun _=>kw) body occ=dq (fun occ=>cH occ) (fun occ=>fun _=>kw) body (f-1+1) (ok++ [v])∧cQ (bV body) (ok++ [v])<=f-1∧
    (ok++ [v]).length+cQ (bV body) (ok++ [v])<=(occ++body.flatMap bA).length+cQ (bV body) (occ++body.flatMap bA)∧cQ (bV body) (ok++ [v])<cQ (bV body) ok:=by
   intro v hv;have hf:=ra G j hv;obtain⟨g1,g2⟩:=kW hf;have k0:=rS g1 g2;have f0:cQ (bV body) (ok++ [v])=cQ (bV body) (iB ok v):=by
    unfold cQ;congr 2
    funext x
    congr 1;rw[Yu,bN,bN,dJ,Xr,Xd]
   have Y:f-1+1=f:=by omega
   refine⟨?_,by omega,?_,by omega⟩
   .rw[hx1,fu hf,Y]
   .rw[W1,W1,Xu];omega
  have c0:=bM ok (gL (cH ok) ok (body.getD i co)).1;have a0:=ic ok (gL (cH ok) ok (body.getD i co)).1;have d0:=bM ok (body.getD i co).bJ;have b0:=ic ok (body.getD i co).bJ;refine gA Z (zq [0,1] (Vq ok (body.getD i co) (by omega)) ?_);refine zJ Z Z (fun D=>?_) fun D=>?_
  .obtain⟨g1,g2,g3,g4⟩:=u _ (am D);refine gA Z ⟨⟨(_,f-1),g1,g2,g3⟩,[],g4,zW (hM Z (by dsimp only;rw[du];rfl) Z (zO ac))⟩
  .refine zJ Z Z (fun A=>?_) fun A=>?_
   .have A:(body.getD i co).kind=4:=by simpa using A
    refine zJ Z Z (fun B=>?_) fun B=>?_
    .have B:ei ok (body.getD i co).bJ=kw:=by rw[cD];simpa using B
     refine gA Z (zp (c77 (body.getD i co).agg) ?_);refine zJ Z Z (fun J=>?_) fun J=>?_
     .obtain⟨g1,g2,g3,g4⟩:=u _ ((be (by rw[D];simp)).trans (am ⟨A,B,J⟩));refine gA Z ⟨⟨(_,f-1),g1,g2,g3⟩,[],g4,zW (hM Z (by dsimp only;rw[du];rfl) Z (zO ac))⟩
     .refine gA Z ?_;exact⟨j,dY G j ((be (by rw[D];simp)).trans (be (fun h=>nomatch (h.2.2.symm.trans J)))),[],zW (zC (zO ac))⟩
    .have B:ei ok (body.getD i co).bJ=jp:=by rw[cD];simpa using B
     refine gA Z ⟨j,dY G j ((be (by rw[D];simp)).trans (be (by rw[B];simp))),[],zW (zC (zO ac))⟩
   .have A: ¬(body.getD i co).kind=4:=by simpa using A
    refine gA Z ⟨j,dY G j ((be (by rw[D];simp)).trans (be (fun h=>A h.1))),[],zW (zC (zO ac))⟩
 .have j:body.length<=i:=by simpa using j
  rw[Xh j]at G;have I:cq (fun occ=>cH occ) (fun occ=>fun _=>kw) body occ=ok:=by rw[hx1,fw G]
  refine gA Z (zD [] Z (zW (hM Z (by rw[I]) Z (zO ac))))
theorem Vp(r:aw)(occ:List aq)(l:Lit)(hb:l.size<=100000000000):bh prog 193 [ag l.c,.cB (.func 251) [.mp 0] [],.mp 0] [cZ (aL occ),.cells [.iv (cM r)],.cells [.mp 0]] (.a7 [pS (gL (bj occ) occ l).1,pB (gL (bj occ) occ l).2]) [(0,io (cZ (aL occ))),(1,io (.cells [.iv (cM r)])),(2,io (.cells [.mp 0]))] 3:=by
 have A:=l.size_eq;have x:=bM occ l.left.var;have y:=bM occ l.right.var;refine ak ab func193 Z (by decide) ntmps193 Z (by simp) ?_;refine zE Z Z (fun h1=>?_) fun h1=>?_
 .have h1: ¬l.kind=3:=by simpa using h1
  refine gA Z (zD [] Z (zM ⟨.of_eq (qx (a:=(Xb,kw)) (by rw[gL,am (.inl h1)])),rfl,ac⟩ (zC ⟨⟨_,rfl,.of_eq Z⟩,WY Z,rfl,⟨_,rfl,.of_eq Z⟩,WY Z,rfl,ac⟩)))
 have h1:l.kind=3:=by simpa using h1
 refine zJ Z Z (fun j=>?_) fun j=>?_
 .have j: ¬l.op=1:=by simpa using j
  refine gA Z (zD [] Z (zM ⟨.of_eq (qx (a:=(Xb,kw)) (by rw[gL,am (.inr j)])),rfl,ac⟩ (zC ⟨⟨_,rfl,.of_eq Z⟩,WY Z,rfl,⟨_,rfl,.of_eq Z⟩,WY Z,rfl,ac⟩)))
 have j:l.op=1:=by simpa using j
 have u:gL (bj occ) occ l=if l.left.kind=1∧ei occ l.left.var=kw∧(bj occ) l.right=jp then(l.left.var,jp) else if l.right.kind=1∧ei occ l.right.var=kw∧(bj occ) l.left=jp then(l.right.var,jp) else(Xb,kw):=by
  rw[gL,be (by simp[h1,j])]
 repeat' (first
  |(refine gA Z (zI (fun _=>?_) (fun _=>?_)))
  |(refine gA Z (ai [0] (d125 occ l.left (by omega)) Z Z Z Z Z Z Z Z ?_))
  |(refine gA Z (ai [0] (d125 occ l.right (by omega)) Z Z Z Z Z Z Z Z ?_))
  |fail)
 all_goals first
  |(refine gA Z (ar [] (.inr Z) Z (zM ⟨.of_eq (qx (a:=(Xb,kw)) ?_),rfl,ac⟩ (zC ⟨⟨_,rfl,.of_eq Z⟩,WY Z,rfl,⟨_,rfl,.of_eq Z⟩,WY Z,rfl,ac⟩)));rw[u];simp only[cD] at*;simp_all;done)
  |(refine gA Z (ar [] (.inr Z) Z (zM ⟨.of_eq (qx (a:=(l.left.var,jp)) ?_),rfl,ac⟩ (zC ⟨⟨_,rfl,.of_eq Z⟩,WY Z,rfl,⟨_,rfl,.of_eq Z⟩,WY Z,rfl,ac⟩)));rw[u];simp only[cD] at*;simp_all;done)
  |(refine gA Z (ar [] (.inr Z) Z (zM ⟨.of_eq (qx (a:=(l.right.var,jp)) ?_),rfl,ac⟩ (zC ⟨⟨_,rfl,.of_eq Z⟩,WY Z,rfl,⟨_,rfl,.of_eq Z⟩,WY Z,rfl,ac⟩)));rw[u];simp only[cD] at*;simp_all;done)
  |(exfalso;simp_all;done)
theorem Wp(r:aw)(occ:List aq)(body:List Lit)(hb:occ.length+8*Lit.aE body<=100000000000):bh prog 130 [.iv (lits body),.mp 0,.cB (.func 251) [.mp 0] [],.cB (.func 252) [] [.ptr 1 0,.ptr 2 0]] [cZ (aL occ),.cells [.iv (cM r)],.cells [.mp 0]] (.a7 []) [(0,io (cZ (aL (cq (fun occ=>bj occ) (fun occ=>oI (aI r) occ) body occ)))),(1,io (.cells [.iv (cM r)])),(2,io (.cells [.mp 0]))] 3:=by
 have i0:=Lit.aJ body;have n0:=gf body;have j0:=kD body;have m0:=rT (bV body) (occ++body.flatMap bA);refine ak ab func130 Z (by decide) ntmps130 Z (by simp) ?_;refine gA Z ?_;refine aN 0 body.length (Xc _) (fun i=>⟨[(0,.iv (lits body)),(1,.mp 0),(2,.cB (.func 251) [.mp 0] []),(3,.cB (.func 252) [] [.ptr 1 0,.ptr 2 0]),(14,.iv (lits body)),(15,pI body.length),(16,pI i)],[(0,io (cZ (aL (occ++(body.take i).flatMap bA)))),(1,io (.cells [.iv (cM r)])),(2,io (.cells [.mp 0]))],3⟩) (fun _=>True) [] ac
  (zW (hM Z (by simp) Z ⟨⟨_,rfl,.of_eq Z⟩,WY Z,rfl,⟨_,rfl,.of_eq Z⟩,WY Z,rfl,ac⟩)) fun i hi _=>?_
 refine zJ Z Z (fun h1=>?_) fun h1=>?_
 .have h1:i<body.length:=by simpa using h1
  have hs:=bD (f:=bA) h1;have hn:=Lit.ej body i h1;have hv:=gf (body.take i);have p0:=(body.getD i co).size_eq;refine zJ Z Z (fun y=>?_) fun y=>?_
  .have y:(body.getD i co).kind=1:=by simpa using y
   rw[show bA (body.getD i co)=_ from am y]at hs;refine gA Z (zq [0] (d88 (occ++(body.take i).flatMap bA) (body.getD i co).atom (by rw[W1];omega)) ?_);refine gA Z ⟨h1,ac,[],zW (hM Z (by rw[hs,Xf]) Z ⟨⟨_,rfl,.of_eq Z⟩,WY Z,rfl,⟨_,rfl,.of_eq Z⟩,WY Z,rfl,ac⟩)⟩
  .have y: ¬(body.getD i co).kind=1:=by simpa using y
   rw[show bA (body.getD i co)=_ from be y,XM]at hs;refine gA Z ⟨h1,ac,[],zW (hM Z (by rw[hs]) Z ⟨⟨_,rfl,.of_eq Z⟩,WY Z,rfl,⟨_,rfl,.of_eq Z⟩,WY Z,rfl,ac⟩)⟩
 have h1:body.length<=i:=by simpa using h1
 have e0:body.take i=body:=Xh h1;rw[e0];refine gA Z ?_;refine iF (σ:={x:List aq×Nat//cq (fun occ=>bj occ) (fun occ=>oI (aI r) occ) body occ=dq (fun occ=>bj occ) (fun occ=>oI (aI r) occ) body (x.2+1) x.1∧cQ (bV body) x.1<=x.2∧x.1.length+cQ (bV body) x.1<=(occ++body.flatMap bA).length+cQ (bV body) (occ++body.flatMap bA)})
  (fun x=>⟨[(0,.iv (lits body)),(1,.mp 0),(2,.cB (.func 251) [.mp 0] []),(3,.cB (.func 252) [] [.ptr 1 0,.ptr 2 0])],[(0,io (cZ (aL x.1.1))),(1,io (.cells [.iv (cM r)])),(2,io (.cells [.mp 0]))],3⟩) (fun x=>cQ (bV body) x.1.1)
  ⟨(occ++body.flatMap bA,3*body.length),rfl,by dsimp only;omega,W8 _⟩ [] (zW (zC ⟨⟨_,rfl,.of_eq Z⟩,WY Z,rfl,⟨_,rfl,.of_eq Z⟩,WY Z,rfl,ac⟩)) ?_
 rintro⟨⟨ok,f⟩,hx1,hx2,hx3⟩;dsimp only at hx1 hx2 hx3 ⊢;rw[W1]at hx3;refine gA Z ?_;refine aN 0 body.length (Xc _) (fun i=>⟨[(0,.iv (lits body)),(1,.mp 0),(2,.cB (.func 251) [.mp 0] []),(3,.cB (.func 252) [] [.ptr 1 0,.ptr 2 0]),(28,.iv (lits body)),(29,pI body.length),(30,pI i)],[(0,io (cZ (aL ok))),(1,io (.cells [.iv (cM r)])),(2,io (.cells [.mp 0]))],3⟩) (fun i=>cm ((fun occ=>bj occ) ok) ((fun occ=>oI (aI r) occ) ok) ok (body.take i)=is) [] Z
  (zW (zC ⟨⟨_,rfl,.of_eq Z⟩,WY Z,rfl,⟨_,rfl,.of_eq Z⟩,WY Z,rfl,ac⟩)) fun i hi G=>?_
 refine zJ Z Z (fun j=>?_) fun j=>?_
 .have j:i<body.length:=by simpa using j
  have o0:=Lit.bU body i j;have g0:=(body.getD i co).lg;have u: ∀v,np ((fun occ=>bj occ) ok) ((fun occ=>oI (aI r) occ) ok) ok (body.getD i co)=io v->cq (fun occ=>bj occ) (fun occ=>oI (aI r) occ) body occ=dq (fun occ=>bj occ) (fun occ=>oI (aI r) occ) body (f-1+1) (ok++ [v])∧cQ (bV body) (ok++ [v])<=f-1∧
    (ok++ [v]).length+cQ (bV body) (ok++ [v])<=(occ++body.flatMap bA).length+cQ (bV body) (occ++body.flatMap bA)∧cQ (bV body) (ok++ [v])<cQ (bV body) ok:=by
   intro v hv;have hf:=ra G j hv;obtain⟨g1,g2⟩:=kW hf;have k0:=rS g1 g2;have f0:cQ (bV body) (ok++ [v])=cQ (bV body) (iB ok v):=by
    unfold cQ;congr 2
    funext x
    congr 1;rw[Yu,bN,bN,dJ,Xr,Xd]
   have Y:f-1+1=f:=by omega
   refine⟨?_,by omega,?_,by omega⟩
   .rw[hx1,fu hf,Y]
   .rw[W1,W1,Xu];omega
  have c0:=bM ok (gL (bj ok) ok (body.getD i co)).1;have a0:=ic ok (gL (bj ok) ok (body.getD i co)).1;have d0:=bM ok (body.getD i co).bJ;have b0:=ic ok (body.getD i co).bJ;refine gA Z (zq [0,1,2] (Vp r ok (body.getD i co) (by omega)) ?_);refine zJ Z Z (fun D=>?_) fun D=>?_
  .obtain⟨g1,g2,g3,g4⟩:=u _ (am D);refine gA Z ⟨⟨(_,f-1),g1,g2,g3⟩,[],g4,zW (hM Z (by dsimp only;rw[du];rfl) Z ⟨⟨_,rfl,.of_eq Z⟩,WY Z,rfl,⟨_,rfl,.of_eq Z⟩,WY Z,rfl,ac⟩)⟩
  .refine zJ Z Z (fun A=>?_) fun A=>?_
   .have A:(body.getD i co).kind=4:=by simpa using A
    refine zJ Z Z (fun B=>?_) fun B=>?_
    .have B:ei ok (body.getD i co).bJ=kw:=by rw[cD];simpa using B
     refine gA Z (zq [0,1,2] (d126 r ok (body.getD i co).agg (by omega)) ?_);refine zJ Z Z (fun J=>?_) fun J=>?_
     .obtain⟨g1,g2,g3,g4⟩:=u _ ((be (by rw[D];simp)).trans (am ⟨A,B,J⟩));refine gA Z ⟨⟨(_,f-1),g1,g2,g3⟩,[],g4,zW (hM Z (by dsimp only;rw[du];rfl) Z ⟨⟨_,rfl,.of_eq Z⟩,WY Z,rfl,⟨_,rfl,.of_eq Z⟩,WY Z,rfl,ac⟩)⟩
     .refine gA Z ?_;exact⟨j,dY G j ((be (by rw[D];simp)).trans (be (fun h=>nomatch (h.2.2.symm.trans J)))),[],zW (zC ⟨⟨_,rfl,.of_eq Z⟩,WY Z,rfl,⟨_,rfl,.of_eq Z⟩,WY Z,rfl,ac⟩)⟩
    .have B:ei ok (body.getD i co).bJ=jp:=by rw[cD];simpa using B
     refine gA Z ⟨j,dY G j ((be (by rw[D];simp)).trans (be (by rw[B];simp))),[],zW (zC ⟨⟨_,rfl,.of_eq Z⟩,WY Z,rfl,⟨_,rfl,.of_eq Z⟩,WY Z,rfl,ac⟩)⟩
   .have A: ¬(body.getD i co).kind=4:=by simpa using A
    refine gA Z ⟨j,dY G j ((be (by rw[D];simp)).trans (be (fun h=>A h.1))),[],zW (zC ⟨⟨_,rfl,.of_eq Z⟩,WY Z,rfl,⟨_,rfl,.of_eq Z⟩,WY Z,rfl,ac⟩)⟩
 .have j:body.length<=i:=by simpa using j
  rw[Xh j]at G;have I:cq (fun occ=>bj occ) (fun occ=>oI (aI r) occ) body occ=ok:=by rw[hx1,fw G]
  refine gA Z (zD [] Z (zW (hM Z (by rw[I]) Z ⟨⟨_,rfl,.of_eq Z⟩,WY Z,rfl,⟨_,rfl,.of_eq Z⟩,WY Z,rfl,ac⟩)))
theorem uM:fc .fE (cZ (aL [])):=⟨id,fun M N U w j u=>⟨#[],0,u,⟨rfl,by simp[aL],by simp[aL],by simp,by simp⟩,gp M⟩⟩
def b6(r:aw):List aq:=cq (fun j=>bj j) (fun j=>oI (aI r) j) r.body []
theorem Vm(r:aw)(hb:8*Lit.aE r.body<=100000000000):bh prog 130 [.iv (lits r.body),.mp 0,.cB (.func 251) [.mp 0] [],.cB (.func 252) [] [.ptr 1 0,.ptr 2 0]] [.fE,.cells [.iv (cM r)],.cells [.mp 0]] (.a7 []) [(0,io (cZ (aL (b6 r)))),(1,io (.cells [.iv (cM r)])),(2,io (.cells [.mp 0]))] 3:=
 bh.Qi (Wp r [] r.body (by simp;omega)) ⟨uM,.refl _,.refl _,ac⟩
theorem d73(r:aw)(hb:8*r.size<=100000000000):bh prog 227 [.iv (cM r)] [] (.mp 0) [(0,io (cZ (aL (b6 r))))] 1:=by
 unfold aw.size at hb;refine ak ab func227 Z (by decide) ntmps227 Z (by simp) ?_;refine gA Z (zd [1,0,2] (Vm r (by omega)) ?_);refine gA Z (zD [1] Z (zW (zC ac)))
def Ta(p:List aq->Prop)(q:PV)(h:AH)(n:Nat):Prop:= ∃ok,p ok∧q= .mp 0∧h=[(0,io (cZ (aL ok)))]∧n=1
def Jo(r:aw)(a:gU)(occ:List aq):Prop:=occ.Nodup∧ ∀x,x∈occ↔x∈bp a∧x∈aI r
theorem yi{l m:List aq}(h:l.Nodup)(hs: ∀x∈l,x∈m):l.length<=m.length:=Yo h hs
theorem lh(a:gU):(bp a).length<=a.size:=by
 have h1:=lE a.body;have j:=iJ a.j9;unfold bp gU.size;rw[W1];split
 .rw[Yg];omega
 .omega
theorem Qv(a:gU)(hb:a.size<=100000000000):bh prog 221 [ag a.c1] [] (.mp 0) [(0,io (cZ (aL (bp a))))] 1:=bh.le (d127 a (by omega)) ⟨a.G1,ac⟩
theorem d161(r:aw)(a:gU)(hb:16*a.size<=100000000000):Al.Fn prog 228 [.iv (cM r),ag a.c] [] (Ta fun ok=> ∃occ,Jo r a occ∧ok=cq (fun occ=>bj occ) (fun _=>fun _=>kw) a.body occ):=by
 have g0:=lh a;have i0:Lit.aE a.body<=a.size:=by unfold gU.size;omega
 refine Al.Fn.le (args:=[.iv (cM r),ag a.c1]) ?_ ⟨.refl _,a.DP,ac⟩;refine lW ab func228 Z (by decide) ntmps228 Z (by simp) ?_;refine gA Z (zq [] (Qv a (by omega)) ?_);refine gA Z ?_
 let u:List Nat->List aq:=fun vs=>(vs.reverse.filterMap fun j=>((aL (bp a))[j]?).bind fun x=>if ei (aI r) x.1 then io x.1 else is)
 refine gk (aL (bp a)) (fun vs=>⟨[(0,.iv (cM r)),(3,.ptr 0 0),(5,.mp 1),(10,.ptr 3 0)],[(0,io (ax a.c1)),(1,io (cZ (aL (u vs)))),(3,io (.bY .str AK (aL (bp a)) vs is))],4⟩)
  (fun vs=>(u vs).Nodup∧ ∀x,x∈u vs↔x∈aI r∧ ∃j∈vs,∃y,(aL (bp a))[j]? =io y∧y.1=x) [] ⟨XY,by simp[u]⟩
  (zW (zK (SC Z gp Z (hI Z Z (.inl Z) Z trivial)))) fun vs hJ=>?_
 obtain⟨D,G⟩:=hJ;have j0:(u vs).length<=(bp a).length:=yi D fun x I=>by
  obtain⟨_,j,_,y,h2,rfl⟩:=(G x).1 I;exact uO h2
 refine gl Z ac (dX Z Z Z Z Z (by decide) (fun a0=>?_) fun j x I hj=>?_)
 .have d0:Jo r a (u vs):=⟨D,fun x=>by
   rw[G];constructor
   .rintro⟨h1,j,h2,y,B,rfl⟩;exact⟨uO B,h1⟩
   .rintro⟨h1,h2⟩;refine⟨h2,?_⟩;obtain⟨y,hy,rfl⟩:=XH.1 (((eS (bp a)).2 x).2 h1);obtain⟨j,hj⟩:=XU hy
    exact⟨j,a0 j (W4.1 hj).1,y,hj,rfl⟩⟩
  refine gA Z (zq [1] (Wr (u vs) a.body (by omega)) ?_);refine gl Z ac (dC [1] (.inr Z) Z ⟨_,⟨u vs,d0,rfl⟩,rfl,rfl,rfl⟩ (zW (zC ac)))
 .have h5:=cD (occ:=aI r) (s:=x.1);have h7:=bM (aI r) x.1;have h8:=bM (u vs) x.1;have h9:=ic (u vs) x.1;have J:x.1∉u vs:=fun h=>by
   obtain⟨_,i,hi,y,h2,B⟩:=(G x.1).1 h;have f0:=(eS (bp a)).1;have:i=j:=by
    have Y:=(W4.1 h2)
    have b0:=(W4.1 I)
    obtain⟨Y,c0⟩:=Y;obtain⟨b0,e0⟩:=b0;refine(List.getElem_inj (i:=i) (j:=j) (h₀:=by rw[Xw];exact Y) (h₁:=by rw[Xw];exact b0) f0).1 ?_;rw[YN,YN,c0,e0,B]
   exact hj (this▸hi)
  have A:u (j::vs)=u vs++if ei (aI r) x.1 then[x.1] else[]:=by
   simp only[u,List.reverse_cons,aah,aaq,List.filterMap_nil,I,Zn];congr 1;cases ei (aI r) x.1<;>rfl
  have step:(u (j::vs)).Nodup∧ ∀z,z∈u (j::vs)↔z∈aI r∧ ∃i∈j::vs,∃y,(aL (bp a))[i]? =io y∧y.1=z:=by
   rw[A];constructor
   .split
    .rw[YG];refine⟨D,XN.2 ⟨ZT,XY⟩,fun p hp q hq e=>?_⟩;rw[Xd]at hq;exact J ((e.trans hq)▸hp)
    .rw[XM];exact D
   .intro z;rw[Xr,G];constructor
    .rintro(⟨h1,i,h2,B⟩|h1)
     .exact⟨h1,i,Xi _ h2,B⟩
     .split at h1
      .rename_i h2;rw[Xd]at h1;exact⟨h1▸bN.1 h2,j,Xk,x,I,h1.symm⟩
      .cases h1
    .rintro⟨h1,i,h2,y,B,h4⟩;rcases Xm.1 h2 with rfl|h2
     .rw[I]at B;cases B;exact .inr (by rw[am (bN.2 (h4▸h1))];simp[h4])
     .exact .inl ⟨h1,i,h2,y,B,h4⟩
  refine zJ Z Z (fun g1=>?_) fun g1=>?_
  .have g1:ei (aI r) x.1=jp:=by
    have:=zT g1;rw[h5];simp;omega
   rw[g1,am Z]at A;refine gA Z ⟨j,x,I,hj,step,[],zW (zK (hM Z (by rw[A,du];rfl) Z (hI Z Z (.inr Z) Z ac)))⟩
  .have g1:ei (aI r) x.1=kw:=by
    have:=zF g1;rw[h5];simp;omega
   rw[g1,be (by simp),XM]at A;refine gA Z ⟨j,x,I,hj,step,[],zW (zK (hM Z (by rw[A]) Z (hI Z Z (.inr Z) Z ac)))⟩
end Go.Proofs.YtlmhfgbkchnfbaaGreatDoor
namespace Go.Proofs.YtlmhfgbkchnfbaaGreatDoor
open Go Go.Al
def ox(s:aq):List UInt8:=s.data.toList
def Sl(l:List UInt8):aq:=⟨l.toArray⟩
theorem uK(s:aq):Sl (ox s)=s:=by simp[ox,Sl]
theorem Ml(l:List UInt8):ox (Sl l)=l:=by simp[ox,Sl]
def dI(l:List (List UInt8)):List (List UInt8):=l.mergeSort fun x y=>lc (x<=y)
def dP(l:List aq):List aq:=(dI (l.map ox)).map Sl
def fJ:Prop:=
 (∀(j b0 a0:Nat) (u:List (List UInt8)) (w:World),Go.Sort.Holds encStr w j b0 u.toArray->j<w.heap.size->u.length<4611686018427387904->
  Calls Tryz.prog 129 #[.slice (io ⟨j,b0,is⟩) u.length a0] w fun e A=>
   e= .returned (.tuple #[])∧ ∃n os,A=Go.Sort.grow (Go.Sort.putRow encStr (Go.Sort.ahead w n) j b0 (u.mergeSort fun x y=>lc (x<=y)).toArray) os)∧
 (∀(p:Option Addr) (a0:Nat) (w:World),Calls Tryz.prog 129 #[.slice p 0 a0] w fun e A=>e= .returned (.tuple #[])∧A=w)
theorem kA(l:List aq):(dP l).length=l.length:=by simp[dP,dI]
theorem pq:dP []=[]:=by simp[dP,dI]
theorem sN(l:List aq):(dP l).map ox=dI (l.map ox):=by
 unfold dP;rw[Yb];have:ox ∘ Sl=id:=by funext x;exact Ml x
 rw[this,List.map_id]
theorem Bp{l:List aq}{k:Nat}{e:List PV}(h:(l.map fun x=>(dm x).map PV.iv)[k]? =io e): ∃s,l[k]? =io s∧e=[pS s]:=by
 rw[W9,Xa]at h;obtain⟨s,h1,rfl⟩:=h;exact⟨s,h1,rfl⟩
theorem Ks(hS:fJ)(l:List aq)(hl:l.length<=1000000000000):bh Tryz.prog 129 [.sl 0 0 l.length 1] [aS 1 l dm] (.a7 []) [(0,io (aS 1 (dP l) dm))] 1:=by
 refine⟨bg Tryz.func129 Z (by decide),fun M N w vs hr J hv=>?_⟩;obtain⟨v,rfl⟩: ∃v,vs=[v]:=by
  cases vs with
  |nil=>cases J
  |cons v r=>cases r with
   |nil=>exact⟨v,rfl⟩
   |cons a b=>simp at J
 have B:=hv 0 _ Z;simp only[YX]at B;have p0:=hr.obj 0 _ Z;cases l with
 |nil=>
  have f0:v= .slice is 0 0:=by
   generalize hq:PV.sl 0 0 ([]:List aq).length 1=q at B;cases B with
   |sl i off len sz a0 h h0 h1 hc he=>cases hq;simp at h0
   |lx i sz h=>rfl
   |_=>cases hq
  subst f0;refine(hS.2 is 0 w).mono ?_;rintro e w' ⟨rfl,rfl⟩;refine⟨_,M,N,.a7 [],_,1,rfl,⟨rfl,rfl,rfl⟩,?_,?_,.a7 [] #[] Z (by simp)⟩
  .rw[pq];exact .refl _ _ _ _ _
  .rw[pq];exact hr
 |cons s0 r=>
  generalize hL:s0::r=L at*
  have c0:0<L.length:=by rw[<-hL];simp
  obtain⟨a0,f0⟩: ∃a0,v= .slice (io ⟨N.aA 0,0,is⟩) L.length a0:=by
   generalize hn:L.length=n at B c0;generalize hq:PV.sl 0 0 n 1=q at B;cases B with
   |sl i off len sz a0 h h0 h1 hc he=>cases hq;exact⟨a0,by simp⟩
   |lx i sz h=>cases hq;omega
   |_=>cases hq
  subst f0;rcases p0 with h0|⟨_,c,T,h1,h2,h3,h4,h5⟩
  .rw[<-hL]at h0;cases h0
  rw[Xw]at h3;have i0:(aS 1 L dm).real=jp:=by rw[<-hL];rfl
  have e0: ∀j s,L[j]? =io s->c.getD j undef= .string s:=fun j s I=>by
   have:=h5 j [pS s] 0 (pS s) (by rw[W9,I];rfl) Z;rw[Zu,YC]at this;generalize c.getD j undef=y at this ⊢;cases this with
   |iv _ _ h=>cases h;rfl
  have n0:=hr.lt (i:=0) Z i0;have m0:(L.map ox).length=L.length:=by simp
  have hH:Go.Sort.Holds encStr w (N.aA 0) 0 (L.map ox).toArray:=by
   intro j I;have j0:j<L.length:=by simpa using I
   have g0:j<c.size:=by omega
   have:=e0 j L[j] (W5 j0);rw[WZ,XJ g0,X9]at this;constructor
   .simp only[World.cell?,h1,Xo,Option.isSome_none,YQ,if_false];rw[XJ g0,this,getElem!_pos _ j I];simp[encStr,ox]
   .simp[World.frozen?,h1]
  have D:=hS.1 (N.aA 0) 0 a0 (L.map ox) w hH n0 (by omega);rw[m0]at D;refine D.mono ?_;rintro e w' ⟨rfl,n,os,rfl⟩
  let Y:=Go.Sort.putRow encStr (Go.Sort.ahead w n) (N.aA 0) 0 ((L.map ox).mergeSort fun x y=>lc (x<=y)).toArray
  have d0:(dI (L.map ox)).length=L.length:=by simp[dI]
  have A:Ext M N (· <1) (cO 0 [aS 1 L dm]) w M N (· <1) ((0,io (aS 1 (dP L) dm))::cO 0 [aS 1 L dm]) Y∧Rel M N (· <1) ((0,io (aS 1 (dP L) dm))::cO 0 [aS 1 L dm]) Y:=by
   refine hr.write (i:=0) (o0:=aS 1 L dm) Z i0 Y (aS 1 (dP L) dm) Z Z Z ?_ ?_ ?_ (ZS _ _)
   .show(Go.Sort.putRow _ _ _ _ _).heap.size=_;rw[Go.Sort.size_putRow];rfl
   .intro b hb;show((w.heap.modify (N.aA 0) _))[b]? =_;rw[XB,be (fun e=>hb e.symm)]
   .refine .inr ⟨Nat.one_pos,Go.Sort.putCells encStr 0 (dI (L.map ox)).toArray c,T,?_,?_,?_,?_,?_⟩
    .show((w.heap.modify (N.aA 0) _))[N.aA 0]? =_;rw[XB,am Z,h1];rfl
    .simp[Go.Sort.putCells,h2]
    .rw[Xw,kA];simp[Go.Sort.putCells];omega
    .intro k e he;obtain⟨s,_,rfl⟩:=Bp he;rfl
    .intro k e j p he hp;obtain⟨s,hs,rfl⟩:=Bp he;have I:j=0:=by
      rcases j with _|j
      .rfl
      .simp at hp
     subst I;cases hp;have hk:k<L.length:=by
      have:=(W4.1 hs).1;rwa[kA]at this
     have q0:(dI (L.map ox))[k]? =io (ox s):=by
      rw[<-sN,W9,hs];rfl
     have k0:k<c.size:=by omega
     have b0:(Go.Sort.putCells encStr 0 (dI (L.map ox)).toArray c).getD (k*1+0) undef= .string s:=by
      rw[Zu,YC,WZ];simp only[Go.Sort.putCells,Array.getElem?_mapIdx];rw[XJ k0,Ya,X9,am ⟨Xc _,by simp[d0];omega⟩,ZK];rw[getElem!_pos _ k (by simp[d0];omega)];have h9:(dI (L.map ox)).toArray[k]'(by simp[d0];omega)=ox s:=by
       rw[List.getElem_toArray];exact(W4.1 q0).2
      rw[h9];simp[encStr,ox]
     rw[b0];exact .iv _ _ (.v _)
  have G:Rel M N (· <1) ((0,io (aS 1 (dP L) dm))::cO 0 [aS 1 L dm]) (Go.Sort.grow Y os):=A.2.more fun b hb=>by
   show(Y.heap++os)[b]? =_;rw[XF hb]
  have r0:Y.heap.size=w.heap.size:=by
   show(Go.Sort.putRow _ _ _ _ _).heap.size=_;rw[Go.Sort.size_putRow];rfl
  have u: ∀i o,AH.get [(0,io (aS 1 (dP L) dm))] i=io o->AH.get ((0,io (aS 1 (dP L) dm))::cO 0 [aS 1 L dm]) i=io o:=by
   intro i o h;rw[AH.ay]at h ⊢;split at h
   .rename_i h6;rw[am h6];exact h
   .simp[AH.get]at h
  refine⟨_,M,N,.a7 [],_,1,rfl,⟨rfl,rfl,rfl⟩,⟨A.1.os,A.1.tape,⟨A.1.output.out,A.1.output.drawn⟩,?_,?_,.refl _,fun b c h1 h2=>(nomatch (h1.symm.trans h2)),.refl _ _,fun _ h=>h,fun i o hi=>A.1.gB i o (u i o hi)⟩,?_,.a7 [] #[] Z (by simp)⟩
  .show w.heap.size<=(Go.Sort.grow Y os).heap.size;rw[Go.Sort.size_grow,r0];omega
  .intro b hb hn;have h7:=A.1.gK b hb hn;show(Y.heap++os)[b]? =_;rw[XF (by omega)];exact h7
  .exact⟨G.dK,fun i o hi=>G.used i o (u i o hi),fun i o hi=>G.dS i o (u i o hi),fun i o hi=>G.obj i o (u i o hi),fun i j o p hi I=>G.inj i j o p (u i o hi) (u j p I)⟩
end Go.Proofs.YtlmhfgbkchnfbaaGreatDoor
namespace Go.Proofs.YtlmhfgbkchnfbaaGreatDoor
open Go Go.Al Go.Proofs.Tryz
theorem fW(l:List (List UInt8)):(dI l).Perm l:=List.mergeSort_perm _ _
theorem jk(l:List (List UInt8)):(dI l).Pairwise (fun x y=>lc (x<=y)=jp):=
 List.pairwise_mergeSort (le:=fun x y=>lc (x<=y)) (fun a b c h1 j=>by simp only[decide_eq_true_eq] at*;exact List.le_trans h1 j)
  (fun a b=>by
   rcases List.le_total a b with h|h
   .simp[h]
   .simp[h]) l
theorem F9{a b:List (List UInt8)}(h:a.Perm b)(ha:a.Pairwise (fun x y=>lc (x<=y)=jp))(hb:b.Pairwise (fun x y=>lc (x<=y)=jp)):a=b:=
 List.Perm.eq_of_pairwise (fun x y _ _ h1 j=>Z9 (zT h1) (zT j)) ha hb h
theorem qG{a b:List aq}(h:a.Perm b):dP a=dP b:=by
 unfold dP;rw[F9 (((fW _).trans (h.map ox)).trans (fW _).symm) (jk _) (jk _)]
theorem mw{x:aq}{l:List aq}:x∈dP l↔x∈l:=by
 unfold dP;rw[XH];constructor
 .rintro⟨b,hb,rfl⟩;obtain⟨s,hs,rfl⟩:=XH.1 ((fW _).mem_iff.1 hb);rwa[uK]
 .intro h;exact⟨ox x,(fW _).mem_iff.2 (XH.2 ⟨x,h,rfl⟩),uK x⟩
def iw(m:NM)(vs:List Nat):List aq:=vs.reverse.filterMap fun j=>(m[j]?).map (·.1)
theorem lF(m:NM)(vs:List Nat)(j:Nat)(x:(KC.str).K×Int)(h:m[j]? =io x):iw m (j::vs)=iw m vs++ [x.1]:=by
 simp[iw,aah,h]
theorem wa(m:NM)(vs:List Nat):(iw m vs).length<=vs.length:=by
 unfold iw;have:=List.length_filterMap_le (fun j=>(m[j]?).map (·.1)) vs.reverse;rwa[List.length_reverse]at this
theorem Af(m:NM):(XC m.length).filterMap (fun j=>(m[j]?).map (·.1))=m.map (·.1):=by
 apply Zh;intro k;have h:(XC m.length).filterMap (fun j=>(m[j]?).map (·.1))=(XC m.length).map (fun j=>(m.getD j (Xb,0)).1):=by
  rw[show(fun j=>(m.getD j (Xb,0)).1)=fun j=>(m.getD j (Xb,0)).1 from rfl];have key: ∀l:List Nat,(∀j∈l,j<m.length)->l.filterMap (fun j=>(m[j]?).map (·.1))=l.map (fun j=>(m.getD j (Xb,0)).1):=by
   intro l
   induction l with
   |nil=>simp
   |cons j r ih=>
    intro h;have u:=h j Xk;rw[aaq,W5 u,ih fun k hk=>h k (Xi _ hk)];simp[u]
  exact key _ fun j u=>Yz.1 u
 rw[h];by_cases hk:k<m.length
 .simp[hk]
 .simp[hk]
theorem kN(m:NM)(vs:List Nat)(hn:vs.Nodup)(hb: ∀j∈vs,j<m.length)(u: ∀j,j<m.length->j∈vs):(iw m vs).Perm (m.map (·.1)):=by
 rw[<-Af];unfold iw;apply List.Perm.filterMap;refine(List.reverse_perm _).trans ?_;rw[YJ hn List.nodup_range];intro j;rw[Yz];exact⟨hb j,u j⟩
def fP(m:NM):List aq:=dP (m.map (·.1))
theorem vR{vs:List Nat}{n:Nat}(h:vs.Nodup)(hb: ∀j∈vs,j<n):vs.length<=n:=by
 have:=Yo h (l₂:=XC n) fun j u=>Yz.2 (hb j u);rwa[List.length_range]at this
theorem vB(σ:Nat->Nat)(l:List aq):(l.map fun x=>(dm x).map PV.iv).map (dh σ)=l.map fun x=>(dm x).map PV.iv:=by
 simp only[Yb,dm,W7,Xj];rfl
theorem c51(hS:fJ)(m:NM)(hm:m.length<=100000000):Pure prog 133 [.iv (BW m)] (.iv (strs (fP m))):=by
 refine ah ab func133 Z (by decide) ntmps133 Z (by simp) Z ?_;refine gA Z ?_;refine jz 3 1 Z ?_;refine gk m (fun vs=>⟨[(3,.sl 2 0 (iw m vs).length 1),(6,.ptr 0 0)],[(0,io (.bY .str AK m vs is)),(2,io (aS 1 (iw m vs) dm))],3⟩) (fun vs=>vs.Nodup∧ ∀j∈vs,j<m.length) [1] ⟨XY,by simp⟩
  (zW (hI Z Z (.inl Z) Z (zS trivial))) fun vs G=>?_
 obtain⟨u,y⟩:=G;have J:=vR u y;have I:=wa m vs;refine gl Z ac (dX Z Z Z Z Z (by decide) (fun A=>?_) fun j x B D=>?_)
 .refine gl Z ac (ai [2] (Ks hS (iw m vs) (by omega)) Z Z Z Z Z (congrArg (fun o=> [io o]) (b7 _).symm) Z Z ?_);refine gl Z ac (dD (.inr Z) Z Z ((vB _ _).trans (by rw[fP,qG (kN m vs u y A)])) ?_);rw[fP,kA,<-(kN m vs u y A).length_eq]
 .have hk:=lF m vs j x B;refine gA Z ⟨j,x,B,D,⟨XN.2 ⟨D,u⟩,fun i hi=>(Xm.1 hi).elim (fun h=>h▸(W4.1 B).1) (y i)⟩,[4],zM ⟨.row (by rw[hk,W1];rfl),rfl,bi ac⟩ (hI Z Z (.inr Z) Z (hR Z (by rw[hk,Xg];rfl) Z ac))⟩
theorem Nf{P:Program}{k:FuncId}{kc:KC}{V:Type}{e:V->IV}{z:V}{D:Value}{G:PV->V}{m:List (kc.K×V)}{y:IV}(h:Al.Pure P k [.iv (.fa kc e z D m)] (.iv y)):bh P k [.mp 0] [.map kc e z D G m] (.iv y) [] 1:=by
 refine⟨h.1,fun M N w vs hr hl Y=>?_⟩;obtain⟨u,h1,I,h3,J⟩:=sk (n:=1) hr (i:=0) Z;have A:Rel u N (· <0) (cO 0 []) w:=⟨I.dK,fun i o hi=>(nomatch hi),fun i o hi=>(nomatch hi),fun i o hi=>(nomatch hi),fun i j o p hi=>(nomatch hi)⟩
 refine(h.2 u N w vs A hl fun j p B=>?_).mono ?_
 .cases j with
  |zero=>
   cases B;have:=J _ _ (Y 0 _ Z);generalize vs.getD 0 undef=x at this ⊢;cases this with
   |iv _ _ h=>exact .iv _ _ h
  |succ j=>cases B
 .rintro _ w' ⟨x,M',N',r,h',n',rfl,⟨rfl,rfl,rfl⟩,hx,hrr,hvr⟩;refine⟨x,M',N,.iv y,[],1,rfl,⟨rfl,rfl,rfl⟩,?_,⟨hrr.dK,fun i o hi=>(nomatch hi),fun i o hi=>(nomatch hi),fun i o hi=>(nomatch hi),fun i j o p hi=>(nomatch hi)⟩,?_⟩
  .refine⟨hx.os,hx.tape,hx.output,hx.size,fun b hb hn=>hx.gK b hb fun i o hi=>(nomatch hi),h1.oJ.trans hx.oJ,fun b c g1 g2=>?_,.refl _ _,fun _ h=>h,fun i o hi=>(nomatch hi)⟩;cases g3:u b with
   |some c'=>exact h1.iM b c' g1 g3
   |none=>
    rcases hx.iM b c g3 g2 with g4|⟨i,o,g4,_⟩
    .exact .inl g4
    .exact nomatch g4
  .cases hvr with
   |iv _ _ h=>exact .iv _ _ h
theorem Wu(hS:fJ)(m:NM)(hm:m.length<=100000000):bh prog 133 [.mp 0] [cZ m] (.iv (strs (fP m))) [] 1:=Nf (c51 hS m hm)
theorem uf: ∀{m:NM} (_:(m.map (·.1)).Nodup) (k:aq),lq .str m k=m.filter fun x=>!lc (x.1=k)
 | [],_,k=>rfl
 |(a,b)::r,h,k=>by
  rw[W7,XN]at h;by_cases hk:a=k
  .subst hk;have:r.filter (fun x=>!lc (x.1=a))=r:=ZA.2 fun x j=>by
    have:x.1≠a:=fun e=>h.1 (e▸XH.2 ⟨x,j,rfl⟩);simp[this]
   simp[lq,this]
  .have u:=uf h.2 k;simp[lq,hk,u]
theorem xt{m:NM}{p:(KC.str).K×Int->Bool}(h:(m.map (·.1)).Nodup):((m.filter p).map (·.1)).Nodup:=h.sublist ((List.filter_sublist).map _)
theorem oW: ∀(j:List aq) {m:NM} (_:(m.map (·.1)).Nodup),j.foldl (fun m k=>lq .str m k) m=m.filter fun x=>!ei j x.1
 | [],m,h=>(ZA.2 fun _ _=>rfl).symm
 |k::r,m,h=>by
  rw[X8,uf h,oW r (xt h),List.filter_filter];congr 1
  funext x
  by_cases hk:x.1=k
  .simp[ei,hk]
  .have: ¬k=x.1:=fun e=>hk e.symm
   simp[ei,hk,this]
def mA(r:aw)(a:gU):NM:=(aL (bp a)).filter fun x=>!ei (aI r) x.1
theorem mr(l:List aq):(aL l).length<=l.length:=by
 have h:=eS l;have:=yi h.1 fun x j=>(h.2 x).1 j;rwa[Xw]at this
theorem d79(r:aw)(a:gU)(hb:a.size<=100000000000):bh prog 216 [.iv (cM r),ag a.c] [] (.mp 0) [(0,io (cZ (mA r a)))] 1:=by
 refine bh.le (args:=[.iv (cM r),ag a.c1]) ?_ ⟨.refl _,a.DP,ac⟩;have Y:=lh a;have B:=(eS (bp a)).1;refine ak ab func216 Z (by decide) ntmps216 Z (by simp) ?_;refine gA Z (zq [] (Qv a (by omega)) ?_);refine gA Z ?_;refine gk (aL (aI r)) (fun vs=>⟨[(5,.mp 1),(13,.ptr 2 0)],[(1,io (cZ ((iw (aL (aI r)) vs).foldl (fun m k=>lq .str m k) (aL (bp a))))),(2,io (.bY .str AK (aL (aI r)) vs is))],3⟩)
  (fun vs=>vs.Nodup∧ ∀j∈vs,j<(aL (aI r)).length) [] ⟨XY,by simp⟩
  (zW (zC (hI Z Z (.inl Z) Z trivial))) fun vs J=>?_
 obtain⟨u,y⟩:=J;refine gl Z ac (dX Z Z Z Z Z (by decide) (fun A=>?_) fun j x G I=>?_)
 .have D:(iw (aL (aI r)) vs).foldl (fun m k=>lq .str m k) (aL (bp a))=mA r a:=by
   rw[oW _ B];unfold mA;congr 1
   funext x
   congr 1;rw[Yu,bN,bN,(kN _ vs u y A).mem_iff];exact(eS (aI r)).2 x.1
  rw[D];refine gA Z (zD [1] Z (zW (zC ac)))
 .have hk:=lF (aL (aI r)) vs j x G;refine gA Z ⟨j,x,G,I,⟨XN.2 ⟨I,u⟩,fun i hi=>(Xm.1 hi).elim (fun h=>h▸(W4.1 G).1) (y i)⟩,[],zW (hM Z (by rw[hk,List.foldl_append];rfl) Z (hI Z Z (.inr Z) Z ac))⟩
theorem ug{may:List aq->Expr->Bool}{more:List aq->gU->Bool}{body:List Lit}: ∀(n:Nat) (occ:List aq),(dq may more body n occ).length<=occ.length+n
 |0,occ=>W8 _
 |n+1,occ=>by
  cases h:cm (may occ) (more occ) occ body with
  |none=>rw[fw h];omega
  |some v=>
   rw[fu h];have:=ug (may:=may) (more:=more) (body:=body) n (occ++ [v]);rw[W1,Xu]at this;omega
theorem uj{may:List aq->Expr->Bool}{more:List aq->gU->Bool}{body:List Lit}(occ:List aq):(cq may more body occ).length<=occ.length+4*Lit.aE body+1:=by
 have h1:=ug (may:=may) (more:=more) (body:=body) (3*body.length+1) (occ++body.flatMap bA);have j:=gf body;have u:=Lit.aJ body;rw[W1]at h1;unfold cq;omega
theorem DO(r:aw):(b6 r).length<=4*Lit.aE r.body+1:=by
 have:=uj (may:=fun j=>bj j) (more:=fun j=>oI (aI r) j) (body:=r.body) [];rw[Yg]at this;unfold b6;omega
def p9(r:aw):List aq:=cq (fun j=>cH j) (fun _=>fun _=>kw) r.body []
theorem GB(r:aw):(p9 r).length<=4*Lit.aE r.body+1:=by
 have:=uj (may:=fun j=>cH j) (more:=fun _=>fun _=>kw) (body:=r.body) [];rw[Yg]at this;unfold p9;omega
theorem Vn(r:aw)(hb:8*Lit.aE r.body<=100000000000):bh prog 130 [.iv (lits r.body),.mp 0,.cB (.func 131) [] [.ptr 1 0],.cB (.func 132) [] []] [.fE,.cells [.mp 0]] (.a7 []) [(0,io (cZ (aL (p9 r)))),(1,io (.cells [.mp 0]))] 2:=
 bh.Qi (Wq [] r.body (by simp;omega)) ⟨uM,.refl _,ac⟩
theorem c33(hS:fJ)(r:aw)(hb:r.size<=10000000):Pure prog 102 [ag r.c] (.iv (strs (fP (aL (p9 r))))):=by
 have h1:=mr (p9 r);have j:=GB r;have u:Lit.aE r.body<=r.size:=ZE _ _;refine ah ab func102 Z (by decide) ntmps102 Z (by simp) Z ?_;refine gA Z ?_;refine gA Z (zq [1,2] (Vn r (by omega)) ?_);refine gA Z (zq [1] (Wu hS (aL (p9 r)) (by omega)) ?_);exact zU Z
def Aa(r:aw)(lit:Int):List aq:=if lit<0∨(r.body.length:Int)<=lit∨ ¬(au r lit).kind=4 then[] else fP (mA r (au r lit).agg)
theorem rb{P:Program}{k:FuncId}{args:List PV}{os:List AO}{r:PV}{h:AH}{n0:Nat}(hc:fK P k){n:Nat}(hn: ∃sz j,PV.iv (.bI sz n j)∈args)(hh:n<=maxLen->bh P k args os r h n0):bh P k args os r h n0:=JN hc hn hh
def q8{α:Type}(p:α->Bool)(l:List α):Int:=match l.findIdx? p with
 |some i=>i
 |none=> -1
theorem gC{α:Type}{p:α->Bool}{l:List α}(h:l.any p=kw):q8 p l= -1:=by
 have:l.findIdx? p=is:=by
  rw[Z2];intro x j;have:=XX.1 h x j;simpa using this
 rw[q8,this]
theorem iV{α:Type}[Inhabited α]{p:α->Bool}{l:List α}{i:Nat}(h:(l.take i).any p=kw)(hi:i<l.length)(hp:p (l.getD i co)=jp):q8 p l=i:=by
 have:l.findIdx? p=io i:=by
  rw[ZJ];have u:l.getD i co=l[i]:=by simp[hi]
  refine⟨hi,u▸hp,fun j x=>?_⟩;have:=XX.1 h l[j] (List.mem_iff_getElem?.2 ⟨j,by rw[XK,am x,W5 (by omega)]⟩);simpa using this
 rw[q8,this]
theorem iW{α:Type}(p:α->Bool)(l:List α):lc (q8 p l>=0)=l.any p:=by
 unfold q8;cases h:l.findIdx? p with
 |none=>
  have:=Z2.1 h;have:l.any p=kw:=XX.2 fun x u=>by simp[this x u]
  rw[this];rfl
 |some i=>
  obtain⟨h1,j,_⟩:=ZJ.1 h;rw[Yr.2 ⟨_,XS h1,j⟩];simp
theorem Hx{a b:Int}(h:a=b):pI a=pI b:=by rw[h]
theorem WH(x:Int):Pure prog 174 [pI x] (pB (!lc (x=1)&&!lc (x=2))):=by
 refine ah ab func174 Z (by decide) ntmps174 Z (by simp) Z ?_
 repeat' (first|(refine gA Z (zI (fun _=>?_) (fun _=>?_)))|(refine gA Z (zL (.of_eq ?_))))
 all_goals(refine(oF ?_:pB _=pB _);simp_all)
theorem WG(t:Term):Pure prog 219 [ag t.c] (pB (lc (t.kind=3))):=by
 refine ah ab func219 Z (by decide) ntmps219 Z (by simp) Z ?_;exact zU Z
theorem WE(t:Lit):Pure prog 220 [ag t.c] (pB (lc (t.kind=4))):=by
 refine ah ab func220 Z (by decide) ntmps220 Z (by simp) Z ?_;exact zU Z
def bW(v:cW):Int:=if v.kind=1 then(if v.sym=Xb∧ -2147483647<=v.num∧v.num<=2147483647 then 0 else 20) else if v.kind=2 then(if v.num=0∧v.sym.size<=64 then 0 else 20) else 20
theorem Vv(v:cW):Pure prog 153 [ag v.c] (pI (bW v)):=by
 refine ah ab func153 Z (by decide) ntmps153 Z (by simp) Z ?_
 repeat' (first|(refine gA Z (zI (fun _=>?_) (fun _=>?_)))|(refine gA Z (zL (.of_eq ?_))))
 all_goals(refine(Hx ?_:pI _=pI _);have hE:(⟨#[]⟩:ByteArray)=Xb:=rfl;simp_all [bW];try omega)
def Decl.z:Decl:=⟨Xb,[],⟨0,0⟩⟩
def FE(d:Decl):IV:= .agg d.c
def J7:Value:= .agg #[.string Xb,.slice is 0 0,.int .i64 0,.int .i64 0]
def intOf:List IV->Int
 | [.v (.int .i64 n)]=>n
 |_=>0
def Wl:PV->Decl
 | .agg [.iv (.v (.string s)),.iv (.bI _ n el),.iv (.v (.int _ a)),.iv (.v (.int _ b))]=>⟨s,(XC n).map fun k=>intOf (el k),⟨a,b⟩⟩
 |_=>Decl.z
abbrev DM:=List ((KC.str).K×Decl)
abbrev Qs(m:DM):AO:= .map .str FE Decl.z J7 Wl m
abbrev Vl(m:DM):IV:= .fa .str FE Decl.z J7 m
theorem Qq(d:Decl):Wl (ag d.c)=d:=by
 show(⟨d.name,(XC d.types.length).map fun k=>intOf (kv (d.types.getD k co)),⟨d.at_.line,d.at_.KT⟩⟩:Decl)=d;have:(XC d.types.length).map (fun k=>intOf (kv (d.types.getD k co)))=d.types:=by
  apply Zh;intro k;by_cases hk:k<d.types.length
  .simp[hk,intOf,kv]
  .simp[hk]
 rw[this]
theorem J6: ∀M,IR M (FE Decl.z) J7:=fun M=>by
 refine .agg _ _ Z fun j p u=>?_
 match j,u with
 |0,u=>cases u;exact .v _
 |1,u=>cases u;exact .fS _ _ _ _
 |2,u=>cases u;exact .v _
 |3,u=>cases u;exact .v _
 |j+4,u=>simp[Decl.c]at u
theorem VM(l:List IV):ae (ag l) (.iv (.agg l)):=by
 intro M N U x h;generalize u:ag l=q at h;cases h with
 |agg cs ys hl hr=>
  cases u;refine .iv _ _ (.agg _ _ (by simpa using hl) fun j p A=>?_);have:=hr j (.iv p) (by rw[W9,A];rfl);generalize ys.getD j undef=y at this ⊢;cases this with
  |iv _ _ h=>exact h
 |_=>cases u
theorem J9(d:Decl):ae (ag d.c) (.iv (FE (Wl (ag d.c)))):=by rw[Qq];exact VM _
def kq(m:DM)(d:Decl):DM:=if dA .str m d.name=jp then m else cS .str m d.name d
def tK(p:Prog):DM:=p.aG.foldl kq []
abbrev cX(p:Prog):IV:=Vl (tK p)
theorem vH{V:Type}: ∀(m:List ((KC.str).K×V)) (k:aq) (v:V),(cS .str m k v).length<=m.length+1
 | [],_,_=>by simp[cS]
 |(a,b)::r,k,v=>by
  have:=vH r k v;simp only[cS];split
  .simp
  .simp only[Xy];omega
theorem d50(p:Prog)(hb:p.aG.length<=1000000000000):bh prog 114 [ag p.c] [] (.mp 0) [(0,io (Qs (tK p)))] 1:=by
 refine ak ab func114 Z (by decide) ntmps114 Z (by simp) ?_;refine gA Z ?_;refine aN 0 p.aG.length (Xc _) (fun i=>⟨[(3,.mp 1),(13,.iv (aT 4 p.aG Decl.c)),(14,pI p.aG.length),(15,pI i)],[(1,io (Qs ((p.aG.take i).foldl kq [])))],2⟩) (fun _=>True) [] ac
  (zW (SC Z J6 Z trivial)) fun i hi _=>?_
 refine zJ Z Z (fun h1=>?_) fun h1=>?_
 .have h1:i<p.aG.length:=by simpa using h1
  have hs:=iG (g:=kq) (b:=[]) h1;refine zJ Z Z (fun j=>?_) fun j=>?_
  .have j:dA .str ((p.aG.take i).foldl kq []) (p.aG.getD i co).name=kw:=by simpa using j
   rw[kq,be (by rw[j];simp)]at hs;refine gl Z ?_ ?_
   .repeat' (first|exact ac|exact rfl|exact J9 _|exact ae.refl _|apply W0)
    all_goals omega
   exact⟨h1,ac,[],zW (hM Z (by rw[hs,<-Qq (p.aG.getD i co)];rfl) Z ac)⟩
  .have j:dA .str ((p.aG.take i).foldl kq []) (p.aG.getD i co).name=jp:=by simpa using j
   rw[kq,am j]at hs;refine gA Z ⟨h1,ac,[],zW (hM Z (by rw[hs]) Z ac)⟩
 .have h1:p.aG.length<=i:=by simpa using h1
  rw[Xh h1];refine gA Z (zD [1] Z (zW (zC ac)))
def xc(p:Prog)(a:Atom):Bool:=!dA .str (tK p) a.rel
def iz(p:Prog)(s:aq):Decl:=eh .str (tK p) s Decl.z
def Ay(p:Prog)(a:Atom):Bool:=!lc ((a.an.length:Int)=((iz p a.rel).types.length:Int))
theorem d113(p:Prog)(a:Atom):bh prog 182 [ag a.c,.ptr 0 0] [.cells [.iv (cX p)]] (pB (xc p a)) [(0,io (.cells [.iv (cX p)]))] 1:=by
 refine ak ab func182 Z (by decide) ntmps182 Z (by simp) ?_;refine gA Z (zD [] Z (zM ⟨.of_eq Z,rfl,ac⟩ (zO ac)))
theorem d115(p:Prog)(a:Atom):bh prog 184 [ag a.c,.ptr 0 0] [.cells [.iv (cX p)]] (pB (Ay p a)) [(0,io (.cells [.iv (cX p)]))] 1:=by
 refine ak ab func184 Z (by decide) ntmps184 Z (by simp) ?_;refine gA Z (zD [] Z (zM ⟨.of_eq Z,rfl,ac⟩ (zO ac)))
theorem i187(l:List Int):bh prog 214 [.iv (aT 1 l kv),.cB (.func 174) [] []] [] (pI (q8 (fun x=>!lc (x=1)&&!lc (x=2)) l)) [] 0:=by
 refine rb (bg func214 Z (by decide)) ⟨_,_,Xk⟩ fun u=>?_;simp only[maxLen]at u;refine ak ab func214 Z (by decide) ntmps214 Z (by simp) ?_;refine gA Z ?_
 refine aN 0 l.length (Xc _) (fun i=>⟨[(0,.iv (aT 1 l kv)),(1,.cB (.func 174) [] []),(7,pI l.length),(8,pI i)],[],0⟩) (fun i=>(l.take i).any (fun x=>!lc (x=1)&&!lc (x=2))=kw) [] (by simp)
  (zW trivial) fun i hi y=>?_
 refine zJ Z Z (fun h1=>?_) fun h1=>?_
 .have h1:i<l.length:=by simpa using h1
  refine gA Z (zp (WH (l.getD i co)) ?_);refine zJ Z Z (fun j=>?_) fun j=>?_
  .have j:(fun x=>!lc (x=1)&&!lc (x=2)) (l.getD i co)=jp:=j;rw[iV y h1 j];refine gA Z (zD [] Z (zW ac))
  .have j:(fun x=>!lc (x=1)&&!lc (x=2)) (l.getD i co)=kw:=j;refine gA Z ⟨h1,(c7 y h1).2 j,[],zW ac⟩
 .have h1:l.length<=i:=by simpa using h1
  rw[gC (any_none y h1)];refine gA Z (zD [] Z (zW ac))
theorem d153(l:List Int):bh prog 173 [.iv (aT 1 l kv),.cB (.func 174) [] []] [] (pB (l.any (fun x=>!lc (x=1)&&!lc (x=2)))) [] 0:=by
 refine ak ab func173 Z (by decide) ntmps173 Z (by simp) ?_;refine gA Z (zq [] (i187 l) ?_);refine gA Z (zD [] Z (zM ⟨.of_eq (oF (iW _ l)),rfl,ac⟩ ac))
theorem i191(l:List Term):bh prog 248 [.iv (aT 5 l Term.c),.cB (.func 219) [] []] [] (pI (q8 (fun x:Term=>lc (x.kind=3)) l)) [] 0:=by
 refine rb (bg func248 Z (by decide)) ⟨_,_,Xk⟩ fun u=>?_;simp only[maxLen]at u;refine ak ab func248 Z (by decide) ntmps248 Z (by simp) ?_;refine gA Z ?_
 refine aN 0 l.length (Xc _) (fun i=>⟨[(0,.iv (aT 5 l Term.c)),(1,.cB (.func 219) [] []),(7,pI l.length),(8,pI i)],[],0⟩) (fun i=>(l.take i).any (fun x:Term=>lc (x.kind=3))=kw) [] (by simp)
  (zW trivial) fun i hi y=>?_
 refine zJ Z Z (fun h1=>?_) fun h1=>?_
 .have h1:i<l.length:=by simpa using h1
  refine gA Z (zp (WG (l.getD i co)) ?_);refine zJ Z Z (fun j=>?_) fun j=>?_
  .have j:(fun x:Term=>lc (x.kind=3)) (l.getD i co)=jp:=j;rw[iV y h1 j];refine gA Z (zD [] Z (zW ac))
  .have j:(fun x:Term=>lc (x.kind=3)) (l.getD i co)=kw:=j;refine gA Z ⟨h1,(c7 y h1).2 j,[],zW ac⟩
 .have h1:l.length<=i:=by simpa using h1
  rw[gC (any_none y h1)];refine gA Z (zD [] Z (zW ac))
theorem d157(l:List Term):bh prog 218 [.iv (aT 5 l Term.c),.cB (.func 219) [] []] [] (pB (l.any (fun x:Term=>lc (x.kind=3)))) [] 0:=by
 refine ak ab func218 Z (by decide) ntmps218 Z (by simp) ?_;refine gA Z (zq [] (i191 l) ?_);refine gA Z (zD [] Z (zM ⟨.of_eq (oF (iW _ l)),rfl,ac⟩ ac))
theorem i192(l:List Lit):bh prog 194 [.iv (aT 30 l Lit.c),.cB (.func 220) [] []] [] (pI (q8 (fun x:Lit=>lc (x.kind=4)) l)) [] 0:=by
 refine rb (bg func194 Z (by decide)) ⟨_,_,Xk⟩ fun u=>?_;simp only[maxLen]at u;refine ak ab func194 Z (by decide) ntmps194 Z (by simp) ?_;refine gA Z ?_
 refine aN 0 l.length (Xc _) (fun i=>⟨[(0,.iv (aT 30 l Lit.c)),(1,.cB (.func 220) [] []),(7,pI l.length),(8,pI i)],[],0⟩) (fun i=>(l.take i).any (fun x:Lit=>lc (x.kind=4))=kw) [] (by simp)
  (zW trivial) fun i hi y=>?_
 refine zJ Z Z (fun h1=>?_) fun h1=>?_
 .have h1:i<l.length:=by simpa using h1
  refine gA Z (zp (WE (l.getD i co)) ?_);refine zJ Z Z (fun j=>?_) fun j=>?_
  .have j:(fun x:Lit=>lc (x.kind=4)) (l.getD i co)=jp:=j;rw[iV y h1 j];refine gA Z (zD [] Z (zW ac))
  .have j:(fun x:Lit=>lc (x.kind=4)) (l.getD i co)=kw:=j;refine gA Z ⟨h1,(c7 y h1).2 j,[],zW ac⟩
 .have h1:l.length<=i:=by simpa using h1
  rw[gC (any_none y h1)];refine gA Z (zD [] Z (zW ac))
theorem d159(l:List Lit):bh prog 135 [.iv (aT 30 l Lit.c),.cB (.func 220) [] []] [] (pB (l.any (fun x:Lit=>lc (x.kind=4)))) [] 0:=by
 refine ak ab func135 Z (by decide) ntmps135 Z (by simp) ?_;refine gA Z (zq [] (i192 l) ?_);refine gA Z (zD [] Z (zM ⟨.of_eq (oF (iW _ l)),rfl,ac⟩ ac))
theorem U9(p:Prog)(l:List Atom):bh prog 217 [.iv (aT 2 l Atom.c),.cB (.func 182) [] [.ptr 0 0]] [.cells [.iv (cX p)]] (pI (q8 (fun x:Atom=>xc p x) l)) [(0,io (.cells [.iv (cX p)]))] 1:=by
 refine rb (bg func217 Z (by decide)) ⟨_,_,Xk⟩ fun u=>?_;simp only[maxLen]at u;refine ak ab func217 Z (by decide) ntmps217 Z (by simp) ?_;refine gA Z ?_
 refine aN 0 l.length (Xc _) (fun i=>⟨[(0,.iv (aT 2 l Atom.c)),(1,.cB (.func 182) [] [.ptr 0 0]),(7,pI l.length),(8,pI i)],[(0,io (.cells [.iv (cX p)]))],1⟩) (fun i=>(l.take i).any (fun x:Atom=>xc p x)=kw) [] (by simp)
  (zW (zO trivial)) fun i hi y=>?_
 refine zJ Z Z (fun h1=>?_) fun h1=>?_
 .have h1:i<l.length:=by simpa using h1
  refine gA Z (zq [0] (d113 p (l.getD i co)) ?_);refine zJ Z Z (fun j=>?_) fun j=>?_
  .have j:(fun x:Atom=>xc p x) (l.getD i co)=jp:=j;rw[iV y h1 j];refine gA Z (zD [] Z (zW (zO ac)))
  .have j:(fun x:Atom=>xc p x) (l.getD i co)=kw:=j;refine gA Z ⟨h1,(c7 y h1).2 j,[],zW (zO ac)⟩
 .have h1:l.length<=i:=by simpa using h1
  rw[gC (any_none y h1)];refine gA Z (zD [] Z (zW (zO ac)))
theorem Vt(p:Prog)(l:List Atom):bh prog 180 [.iv (aT 2 l Atom.c),.cB (.func 182) [] [.ptr 0 0]] [.cells [.iv (cX p)]] (pB (l.any (fun x:Atom=>xc p x))) [(0,io (.cells [.iv (cX p)]))] 1:=by
 refine ak ab func180 Z (by decide) ntmps180 Z (by simp) ?_;refine gA Z (zq [0] (U9 p l) ?_);refine gA Z (zD [] Z (zM ⟨.of_eq (oF (iW _ l)),rfl,ac⟩ (zO ac)))
theorem U8(p:Prog)(l:List Atom):bh prog 217 [.iv (aT 2 l Atom.c),.cB (.func 184) [] [.ptr 0 0]] [.cells [.iv (cX p)]] (pI (q8 (fun x:Atom=>Ay p x) l)) [(0,io (.cells [.iv (cX p)]))] 1:=by
 refine rb (bg func217 Z (by decide)) ⟨_,_,Xk⟩ fun u=>?_;simp only[maxLen]at u;refine ak ab func217 Z (by decide) ntmps217 Z (by simp) ?_;refine gA Z ?_
 refine aN 0 l.length (Xc _) (fun i=>⟨[(0,.iv (aT 2 l Atom.c)),(1,.cB (.func 184) [] [.ptr 0 0]),(7,pI l.length),(8,pI i)],[(0,io (.cells [.iv (cX p)]))],1⟩) (fun i=>(l.take i).any (fun x:Atom=>Ay p x)=kw) [] (by simp)
  (zW (zO trivial)) fun i hi y=>?_
 refine zJ Z Z (fun h1=>?_) fun h1=>?_
 .have h1:i<l.length:=by simpa using h1
  refine gA Z (zq [0] (d115 p (l.getD i co)) ?_);refine zJ Z Z (fun j=>?_) fun j=>?_
  .have j:(fun x:Atom=>Ay p x) (l.getD i co)=jp:=j;rw[iV y h1 j];refine gA Z (zD [] Z (zW (zO ac)))
  .have j:(fun x:Atom=>Ay p x) (l.getD i co)=kw:=j;refine gA Z ⟨h1,(c7 y h1).2 j,[],zW (zO ac)⟩
 .have h1:l.length<=i:=by simpa using h1
  rw[gC (any_none y h1)];refine gA Z (zD [] Z (zW (zO ac)))
theorem Vs(p:Prog)(l:List Atom):bh prog 180 [.iv (aT 2 l Atom.c),.cB (.func 184) [] [.ptr 0 0]] [.cells [.iv (cX p)]] (pB (l.any (fun x:Atom=>Ay p x))) [(0,io (.cells [.iv (cX p)]))] 1:=by
 refine ak ab func180 Z (by decide) ntmps180 Z (by simp) ?_;refine gA Z (zq [0] (U8 p l) ?_);refine gA Z (zD [] Z (zM ⟨.of_eq (oF (iW _ l)),rfl,ac⟩ (zO ac)))
def cT(l:Lit):List Atom:=if l.kind=1∨l.kind=2 then[l.atom] else[]
theorem qQ: ∀l:List Lit,(l.flatMap cT).length<=l.length
 | []=>by simp
 |x::r=>by
  have h1:=qQ r;have j:(cT x).length<=1:=by unfold cT;split<;>simp
  simp only[X5,W1,Xy];omega
def Ac(r:aw)(lit:Int):List Lit:=if(au r lit).kind=4 then(au r lit).az else[au r lit]
def fO(r:aw)(lit:Int):List Atom:=if lit<0 then[r.head] else(Ac r lit).flatMap cT
theorem Nv(r:aw)(lit:Int)(h:0<=lit):jW (.bI 30 ((lit+1).toNat-lit.toNat) (fun j=>(r.body.getD (lit.toNat+j) co).c)) (lits [au r lit]):=by
 have e:(lit+1).toNat-lit.toNat=1:=by omega
 rw[e]
 exact .bI Z (fun j u=>by
  have:j=0:=by omega
  subst this;rfl)
theorem Vx(r:aw)(lit:Int)(h1:lit<r.body.length)(hb:r.size<=1000000000000):Pure prog 181 [ag r.c,pI lit] (.iv (aT 2 (fO r lit) Atom.c)):=by
 have b0:=Lit.aJ r.body;have h0:Lit.aE r.body<=r.size:=ZE _ _;refine ah ab func181 Z (by decide) ntmps181 Z (by simp) Z ?_;refine zJ Z Z (fun B=>?_) fun B=>?_
 .have B:lit<0:=by simpa using B
  refine gA Z (dD (by first|exact .inr Z|exact .inl Z) Z Z (by rw[fO,am B];rfl) (by rw[fO,am B];rfl))
 have B: ¬lit<0:=by simpa using B
 have hk:lit.toNat<r.body.length:=by omega
 have Y:=Lit.bU r.body lit.toNat hk;have d0:=(au r lit).size_eq;have e0:=Lit.aJ (au r lit).az;have c0:(au r lit).size<=Lit.aE r.body:=Y;refine zJ Z Z (fun D=>?_) fun D=>?_
 .have D:(au r lit).kind=4:=by simpa[au]using D
  have A:fO r lit=(au r lit).az.flatMap cT:=by rw[fO,be B,Ac,am D]
  refine gA Z ?_;refine jz 6 2 Z ?_;refine aN 0 ((au r lit).az).length (Xc _) (fun i=>⟨[(6,.sl 2 0 ((((au r lit).az).take i).flatMap cT).length 2),(30,.iv (lits ((au r lit).az))),(31,pI ((au r lit).az).length),(32,pI i)],[(2,io (aS 2 ((((au r lit).az).take i).flatMap cT) Atom.c))],3⟩) (fun _=>True) [1] ac
   (zM (bi ⟨.iv (nB _),rfl,bi (bi trivial)⟩) (zS trivial)) fun i hi _=>?_
  have J:=qQ (((au r lit).az).take i);have a0:(((au r lit).az).take i).length<=((au r lit).az).length:=by rw[XA];exact aaz _ _
  have I:((au r lit).az).length<=1000000000000:=by first|omega|(rw[Xu];omega)
  refine zJ Z Z (fun j=>?_) fun j=>?_
  .have j:i<((au r lit).az).length:=zN j;have hs:=bD (f:=cT) j;have u:((((au r lit).az).getD i co).kind=1∨(((au r lit).az).getD i co).kind=2)->(((au r lit).az).take (i+1)).flatMap cT=(((au r lit).az).take i).flatMap cT++ [(((au r lit).az).getD i co).atom]:=fun h=>by rw[hs,cT,am h]
   have G: ¬((((au r lit).az).getD i co).kind=1∨(((au r lit).az).getD i co).kind=2)->(((au r lit).az).take (i+1)).flatMap cT=(((au r lit).az).take i).flatMap cT:=fun h=>by rw[hs,cT,be h,XM]
   refine zJ Z Z (fun x=>?_) fun x=>?_
   .have x: ¬(((au r lit).az).getD i co).kind=1:=by simpa using x
    refine zJ Z Z (fun y=>?_) fun y=>?_
    .have y:(((au r lit).az).getD i co).kind=2:=by simpa using y
     have hs:=u (.inr y);refine gA Z ⟨j,ac,[5],zM ⟨.row (by rw[hs,W1];rfl),rfl,bi (bi (bi ac))⟩ (hR Z (by rw[hs,Xg];rfl) Z ac)⟩
    .have y: ¬(((au r lit).az).getD i co).kind=2:=by simpa using y
     have hs:=G (fun h=>h.elim x y);refine gA Z ⟨j,ac,[2],zM ⟨.row (by rw[hs]),rfl,bi (bi (bi ac))⟩ (hR Z (by rw[hs]) Z ac)⟩
   .have x:(((au r lit).az).getD i co).kind=1:=by simpa using x
    have hs:=u (.inl x);refine gA Z ⟨j,ac,[5],zM ⟨.row (by rw[hs,W1];rfl),rfl,bi (bi (bi ac))⟩ (hR Z (by rw[hs,Xg];rfl) Z ac)⟩
  .have j:((au r lit).az).length<=i:=zG j;rw[Xh j] at*
   refine gA Z (dD (by first|exact .inr Z|exact .inl Z) Z Z (by rw[A]) (by rw[A]))
 .have D: ¬(au r lit).kind=4:=by simpa[au]using D
  have A:fO r lit=[au r lit].flatMap cT:=by rw[fO,be B,Ac,be D]
  refine gA Z ?_;refine jz 6 2 Z ?_;refine aN 0 ([au r lit]).length (Xc _) (fun i=>⟨[(6,.sl 2 0 ((([au r lit]).take i).flatMap cT).length 2),(30,.iv (lits ([au r lit]))),(31,pI ([au r lit]).length),(32,pI i)],[(2,io (aS 2 ((([au r lit]).take i).flatMap cT) Atom.c))],3⟩) (fun _=>True) [1] ac
   (zM (bi ⟨.iv (Nv r lit (by omega)),rfl,.of_eq (Hx (by simp only[Xu];omega)),rfl,bi trivial⟩) (zS trivial)) fun i hi _=>?_
  have J:=qQ (([au r lit]).take i);have a0:(([au r lit]).take i).length<=([au r lit]).length:=by rw[XA];exact aaz _ _
  have I:([au r lit]).length<=1000000000000:=by first|omega|(rw[Xu];omega)
  refine zJ Z Z (fun j=>?_) fun j=>?_
  .have j:i<([au r lit]).length:=zN j;have hs:=bD (f:=cT) j;have u:((([au r lit]).getD i co).kind=1∨(([au r lit]).getD i co).kind=2)->(([au r lit]).take (i+1)).flatMap cT=(([au r lit]).take i).flatMap cT++ [(([au r lit]).getD i co).atom]:=fun h=>by rw[hs,cT,am h]
   have G: ¬((([au r lit]).getD i co).kind=1∨(([au r lit]).getD i co).kind=2)->(([au r lit]).take (i+1)).flatMap cT=(([au r lit]).take i).flatMap cT:=fun h=>by rw[hs,cT,be h,XM]
   refine zJ Z Z (fun x=>?_) fun x=>?_
   .have x: ¬(([au r lit]).getD i co).kind=1:=by simpa using x
    refine zJ Z Z (fun y=>?_) fun y=>?_
    .have y:(([au r lit]).getD i co).kind=2:=by simpa using y
     have hs:=u (.inr y);refine gA Z ⟨j,ac,[5],zM ⟨.row (by rw[hs,W1];rfl),rfl,bi (bi (bi ac))⟩ (hR Z (by rw[hs,Xg];rfl) Z ac)⟩
    .have y: ¬(([au r lit]).getD i co).kind=2:=by simpa using y
     have hs:=G (fun h=>h.elim x y);refine gA Z ⟨j,ac,[2],zM ⟨.row (by rw[hs]),rfl,bi (bi (bi ac))⟩ (hR Z (by rw[hs]) Z ac)⟩
   .have x:(([au r lit]).getD i co).kind=1:=by simpa using x
    have hs:=u (.inl x);refine gA Z ⟨j,ac,[5],zM ⟨.row (by rw[hs,W1];rfl),rfl,bi (bi (bi ac))⟩ (hR Z (by rw[hs,Xg];rfl) Z ac)⟩
  .have j:([au r lit]).length<=i:=zG j;rw[Xh j] at*
   refine gA Z (dD (by first|exact .inr Z|exact .inl Z) Z Z (by rw[A]) (by rw[A]))
theorem d110(p:Prog)(r:aw)(lit:Int)(h1:lit<r.body.length)(hb:r.size<=1000000000000):bh prog 179 [pI lit,.ptr 0 0,.ptr 1 0] [ax r.c,.cells [.iv (cX p)]] (pB ((fO r lit).any fun x=>xc p x)) [(0,io (ax r.c)),(1,io (.cells [.iv (cX p)]))] 2:=by
 refine ak ab func179 Z (by decide) ntmps179 Z (by simp) ?_;refine gA Z (zp (Vx r lit h1 hb) ?_);refine gA Z (zq [1] (Vt p (fO r lit)) ?_);refine gA Z (zD [] Z (zW (zK (zO ac))))
theorem d114(p:Prog)(r:aw)(lit:Int)(h1:lit<r.body.length)(hb:r.size<=1000000000000):bh prog 183 [pI lit,.ptr 0 0,.ptr 1 0] [ax r.c,.cells [.iv (cX p)]] (pB ((fO r lit).any fun x=>Ay p x)) [(0,io (ax r.c)),(1,io (.cells [.iv (cX p)]))] 2:=by
 refine ak ab func183 Z (by decide) ntmps183 Z (by simp) ?_;refine gA Z (zp (Vx r lit h1 hb) ?_);refine gA Z (zq [1] (Vs p (fO r lit)) ?_);refine gA Z (zD [] Z (zW (zK (zO ac))))
def mZ(r:aw)(lit:Int):Bool:=if lit<0 then r.head.an.any fun x=>lc (x.kind=3) else if(au r lit).kind=4 then((au r lit).az.any fun x=>lc (x.kind=4))||ei (bp (au r lit).agg) (au r lit).bJ else kw
theorem WL(r:aw)(lit:Int)(h1:lit<r.body.length)(hb:r.size<=100000000):Pure prog 186 [ag r.c,pI lit] (pB (mZ r lit)):=by
 have J:=Lit.aJ r.body;have h0:Lit.aE r.body<=r.size:=ZE _ _;refine ah ab func186 Z (by decide) ntmps186 Z (by simp) Z ?_;refine zJ Z Z (fun j=>?_) fun j=>?_
 .have j:lit<0:=by simpa using j
  refine gA Z (zq [] (d157 r.head.an) ?_);refine gA Z (zL (.of_eq ?_));rw[mZ,am j];rfl
 have j: ¬lit<0:=by simpa using j
 have hk:lit.toNat<r.body.length:=by omega
 have D:=Lit.bU r.body lit.toNat hk;have G:=(au r lit).lg;have Y:(au r lit).size<=Lit.aE r.body:=D;have I:=lh (au r lit).agg;refine zJ Z Z (fun u=>?_) fun u=>?_
 .have u: ¬(au r lit).kind=4:=by simpa[au]using u
  refine gA Z (zL (.of_eq ?_));rw[mZ,be j,be u]
 have u:(au r lit).kind=4:=by simpa[au]using u
 refine gA Z (ai [] (bh.le (aa:=[.iv (sD (au r lit).az),.cB (.func 220) [] []]) (d159 (au r lit).az) ⟨.iv (nB _),.refl _,ac⟩) Z Z Z Z Z Z Z Z ?_);refine zE Z Z (fun y=>?_) fun y=>?_
 .have y:((au r lit).az.any fun x=>lc (x.kind=4))=kw:=y;have B:=bM (bp (au r lit).agg) (au r lit).bJ;have A:=cD (occ:=bp (au r lit).agg) (s:=(au r lit).bJ);refine gA Z (zd [] (d127 (au r lit).agg (by omega)) ?_);refine gA Z (zL (.of_eq ?_));refine(oF ?_:pB (lc (eh .str (aL (bp (au r lit).agg)) (au r lit).bJ 0>0))=_);rw[mZ,be j,am u,y,A,B,Y0];by_cases hz:rh (bp (au r lit).agg) (au r lit).bJ=0<;>simp[hz];omega
 .have y:((au r lit).az.any fun x=>lc (x.kind=4))=jp:=y;refine gA Z (zL (.of_eq ?_));rw[mZ,be j,am u,y];rfl
theorem d116(r:aw)(lit:Int)(h1:lit<r.body.length)(hb:r.size<=100000000):bh prog 185 [pI lit,.ptr 0 0] [ax r.c] (pB (mZ r lit)) [(0,io (ax r.c))] 1:=by
 refine ak ab func185 Z (by decide) ntmps185 Z (by simp) ?_;refine gA Z (zp (WL r lit h1 hb) ?_);refine gA Z (zD [] Z (zW (zK ac)))
def s5(r:aw)(lit:Int):Pos:=if lit<0 then r.at_ else(au r lit).at
theorem Kt(r:aw)(lit:Int)(h1:lit<r.body.length):Pure prog 190 [ag r.c,pI lit] (ag [iI (s5 r lit).line,iI (s5 r lit).KT]):=by
 refine ah ab func190 Z (by decide) ntmps190 Z (by simp) Z ?_;refine zJ Z Z (fun j=>?_) fun j=>?_
 .have j:lit<0:=by simpa using j
  refine gA Z (zL (.of_eq ?_));rw[s5,am j];rfl
 have j: ¬lit<0:=by simpa using j
 refine gA Z (zL (.of_eq ?_));rw[s5,be j];rfl
def nA(r:aw)(l:Lit):Nat:=if l.kind=4 then(mA r l.agg).length else 0
def H8(r:aw):Nat:=r.body.foldl (fun n l=>n+nA r l) (aL (aI r)).length
theorem ym(r:aw)(l:Lit):nA r l<=l.size:=by
 unfold nA;split
 .have h1:(mA r l.agg).length<=(aL (bp l.agg)).length:=Ys _ _;have j:=mr (bp l.agg);have u:=lh l.agg;have x:=l.lg;omega
 .omega
theorem Bc(r:aw): ∀(l:List Lit) (n:Nat),l.foldl (fun n l=>n+nA r l) n<=n+Lit.aE l
 | [],n=>by simp
 |x::t,n=>by
  have h1:=Bc r t (n+nA r x);have j:=ym r x;simp only[X8,Lit.aE];omega
theorem WM(r:aw)(hb:r.size<=100000000):Pure prog 178 [.iv (cM r)] (pI (H8 r)):=by
 have y:=Lit.aJ r.body;have I:Lit.aE r.body<=r.size:=ZE _ _;have J:=zQ r;have A:=mr (aI r);refine ah ab func178 Z (by decide) ntmps178 Z (by simp) Z ?_;refine gA Z ?_;refine aN 0 r.body.length (Xc _) (fun i=>⟨[(0,.iv (cM r)),(3,pI (((r.body.take i).foldl (fun n l=>n+nA r l) (aL (aI r)).length:Nat))),(15,.iv (lits r.body)),(16,pI r.body.length),(17,pI i)],[],0⟩) (fun _=>True) [] ac
  (zW trivial) fun i hi _=>?_
 have B:=Bc r (r.body.take i) (aL (aI r)).length;have D:=Lit.vl r.body i;refine zJ Z Z (fun h1=>?_) fun h1=>?_
 .have h1:i<r.body.length:=by simpa using h1
  have hs:=iG (g:=fun n l=>n+nA r l) (b:=(aL (aI r)).length) h1;have G:=Lit.bU r.body i h1;have x:=(r.body.getD i co).lg;have u:=ym r (r.body.getD i co);refine zJ Z Z (fun j=>?_) fun j=>?_
  .have j:(r.body.getD i co).kind=4:=by simpa using j
   rw[nA,am j]at hs u;refine gA Z (zq [] (d79 r (r.body.getD i co).agg (by omega)) ?_);refine gA Z ⟨h1,ac,[],zM (bi ⟨.of_eq (Hx (by rw[hs];rfl)),rfl,bi (bi (bi ac))⟩) ac⟩
  .have j: ¬(r.body.getD i co).kind=4:=by simpa using j
   rw[nA,be j]at hs;refine gA Z ⟨h1,ac,[],zM (bi ⟨.of_eq (Hx (by rw[hs];rfl)),rfl,bi (bi (bi ac))⟩) ac⟩
 .have h1:r.body.length<=i:=by simpa using h1
  refine gA Z (zL (.of_eq ?_));rw[Xh h1];rfl
section
section
variable {may:List aq->Expr->Bool} {more:List aq->gU->Bool} {body:List Lit}
theorem uh: ∀(n:Nat) (occ:List aq),cQ (bV body) occ<n->cm (may (dq may more body n occ)) (more (dq may more body n occ)) (dq may more body n occ) body=is
 |0,occ,h=>by omega
 |n+1,occ,h=>by
  cases hv:cm (may occ) (more occ) occ body with
  |none=>rw[fw hv];exact hv
  |some v=>
   rw[fu hv];refine uh n _ ?_;obtain⟨g1,g2⟩:=kW hv;have u:=rS g1 g2;have j:cQ (bV body) (occ++ [v])=cQ (bV body) (iB occ v):=by
    unfold cQ;congr 2
    funext x
    congr 1;rw[Yu,bN,bN,dJ,Xr,Xd]
   omega
theorem uk(occ:List aq):cm (may (cq may more body occ)) (more (cq may more body occ)) (cq may more body occ) body=is:=by
 refine uh _ _ ?_;have h1:=rT (bV body) (occ++body.flatMap bA);have j:=kD body;omega
theorem oZ: ∀(n:Nat) (occ:List aq),∀x∈occ,x∈dq may more body n occ
 |0,occ,x,h=>h
 |n+1,occ,x,h=>by
  cases hv:cm (may occ) (more occ) occ body with
  |none=>rw[fw hv];exact h
  |some v=>rw[fu hv];exact oZ n _ x (XV _ h)
theorem oT{m1:Expr->Bool}{m2:gU->Bool}{occ:List aq}: ∀{l:List Lit},cm m1 m2 occ l=is-> ∀x∈l,np m1 m2 occ x=is
 | [],_,x,hx=>by cases hx
 |y::r,h,x,hx=>by
  simp only[cm]at h;split at h
  .cases h
  .rename_i h1;rcases Xm.1 hx with rfl|hx
   .exact h1
   .exact oT h x hx
theorem uc{m1:Expr->Bool}{m2:gU->Bool}{occ:List aq}{v:aq}: ∀{l:List Lit},cm m1 m2 occ l=io v-> ∃x∈l,np m1 m2 occ x=io v
 | [],h=>by cases h
 |y::r,h=>by
  simp only[cm]at h;split at h
  .rename_i w u;exact⟨y,Xk,u.trans h⟩
  .obtain⟨x,A,j⟩:=uc h;exact⟨x,Xi _ A,j⟩
variable (hmay: ∀a b:List aq,(∀x∈a,x∈b)-> ∀e,may a e=jp->may b e=jp) (hmore: ∀a b:List aq,(∀x∈a,x∈b)-> ∀e,more a e=jp->more b e=jp)
include hmay hmore
theorem E3{occ C:List aq}(j: ∀x∈occ,x∈C){l:Lit}{v:aq}(h:np (may occ) (more occ) occ l=io v)(hC:np (may C) (more C) C l=is):v∈C:=by
 have hl: ∀y,y∉C->ei C y=kw:=fun y J=>fM.2 J;have hnew:=(vU h).2;refine Yx fun G=>?_;unfold np at h hC;by_cases u:(gL (may occ) occ l).2=jp
 .rw[am u]at h;simp only[W3]at h;have D:(gL (may C) C l).2=jp:=by
   unfold gL at u h ⊢;split at u
   .cases u
   .rename_i I;rw[be I]at h ⊢;split at u
    .rename_i h1;rw[am h1]at h;have B:l.left.var=v:=h;rw[am ⟨h1.1,by rw[B];exact hl v G,hmay occ C j _ h1.2.2⟩]
    .rename_i h1;rw[be h1]at h;split at u
     .rename_i A;rw[am A]at h;have B:l.right.var=v:=h;split
      .rfl
      .rw[am ⟨A.1,by rw[B];exact hl v G,hmay occ C j _ A.2.2⟩]
     .cases u
  rw[am D]at hC;cases hC
 .rw[be u]at h;split at h
  .rename_i A;simp only[W3]at h;split at hC
   .cases hC
   .rw[am ⟨A.1,by rw[h];exact hl v G,hmore occ C j _ A.2.2⟩]at hC;cases hC
  .cases h
theorem oY{C:List aq}(hC:cm (may C) (more C) C body=is): ∀(n:Nat) (occ:List aq),(∀x∈occ,x∈C)-> ∀x∈dq may more body n occ,x∈C
 |0,occ,h,x,hx=>h x hx
 |n+1,occ,h,x,hx=>by
  cases hv:cm (may occ) (more occ) occ body with
  |none=>rw[fw hv]at hx;exact h x hx
  |some v=>
   rw[fu hv]at hx;refine oY hC n _ (fun y hy=>?_) x hx;rcases Xr.1 hy with hy|hy
   .exact h y hy
   .rw[Xd]at hy;subst hy;obtain⟨l,hl,j⟩:=uc hv;exact E3 hmay hmore h j (oT hC l hl)
theorem ui{u j:List aq}(h: ∀x∈u,x∈j): ∀x∈cq may more body u,x∈cq may more body j:=by
 refine oY hmay hmore (uk j) _ _ fun x hx=>?_;refine oZ _ _ x ?_;rcases Xr.1 hx with hx|hx
 .exact XV _ (h x hx)
 .exact YB _ hx
end
theorem sy(a b:List aq)(h: ∀x∈a,x∈b)(e:Expr)(hc:bj a e=jp):bj b e=jp:=by
 unfold bj at*
 rw[XO] at*
 exact fun x j=>bN.2 (h x (bN.1 (hc x j)))
theorem BH(a b:List aq)(h: ∀x∈a,x∈b)(e:Expr)(hc:cH a e=jp):cH b e=jp:=by
 unfold cH at*
 cases hk:lc (e.kind=2) with
 |true=>simp
 |false=>
  rw[hk,Y0,XR]at hc;rw[Y0,XR];exact⟨hc.1,bN.2 (h _ (bN.1 hc.2))⟩
def DW(r:aw)(a:gU):List aq:=((aL (bp a)).map (·.1)).filter fun x=>ei (aI r) x
def DC(r:aw)(a:gU):List aq:=cq (fun j=>bj j) (fun _=>fun _=>kw) a.body (DW r a)
theorem Nh{r:aw}{a:gU}{occ:List aq}(h:Jo r a occ)(s:aq):ei (cq (fun occ=>bj occ) (fun _=>fun _=>kw) a.body occ) s=ei (DC r a) s:=by
 have u: ∀x,x∈DW r a↔x∈occ:=fun x=>by
  unfold DW;rw[XG,(eS (bp a)).2 x,bN,h.2 x]
 rw[Yu,bN,bN];exact⟨ui (more:=fun _=>fun _=>kw) sy (fun _ _ _ _ h=>h) (fun x j=>(u x).2 j) s,ui (more:=fun _=>fun _=>kw) sy (fun _ _ _ _ h=>h) (fun x j=>(u x).1 j) s⟩
def vZ(r:aw)(m:NM):Bool:=m.any fun x=>!ei (b6 r) x.1
theorem oL{r:aw}{m:NM}(h: ∀j,j<m.length-> ∀x,m[j]? =io x->ei (b6 r) x.1=jp):vZ r m=kw:=by
 refine XX.2 fun x y=>?_;obtain⟨j,u⟩:=XU y;rw[h j (W4.1 u).1 x u];simp
theorem qU{r:aw}{m:NM}{j:Nat}{x:(KC.str).K×Int}(h:m[j]? =io x)(u:ei (b6 r) x.1=kw):vZ r m=jp:=
 Yr.2 ⟨x,XE h,by rw[u];rfl⟩
def mD(r:aw)(a:gU):NM:=(aL (bp a)).filter fun x=>!ei ((mA r a).map (·.1)) x.1
def lT(r:aw)(lit:Int):Bool:=
 if lit<0 then vZ r (aL (cY r.head))
 else if(au r lit).kind=4 then(mA r (au r lit).agg).any (fun x=>!ei (DC r (au r lit).agg) x.1)||vZ r (bump (mD r (au r lit).agg) (au r lit).bJ)
 else vZ r (aL (c4 (au r lit)))
theorem Wn(a:Atom)(hb:a.an.length<=100000000000):bh prog 192 [.mp 0,ag a.c] [.fE] (.a7 []) [(0,io (cZ (aL (cY a))))] 1:=
 bh.Qi (d88 [] a (by simp;omega)) ⟨uM,ac⟩
theorem Wm(l:Lit)(hb:l.size<=100000000000):bh prog 215 [.mp 0,ag l.c] [.fE] (.a7 []) [(0,io (cZ (aL (c4 l))))] 1:=
 bh.Qi (d89 l [] (by simp;omega)) ⟨uM,ac⟩
theorem yn(f:aq->Bool)(s:aq): ∀(m:NM),eh .str (m.filter fun x=>f x.1) s 0=if f s=jp then eh .str m s 0 else 0
 | []=>by simp[eh]
 |(a,b)::r=>by
  have j:=yn f s r;cases hf:f a with
  |true=>
   rw[List.filter_cons_of_pos (by exact hf)];simp only[eh];split
   .rename_i h;subst h;rw[am hf]
   .exact j
  |false=>
   rw[List.filter_cons_of_neg (by simp[hf]),j];simp only[eh];split
   .rename_i h;split
    .rename_i u;subst u;rw[hf]at h;cases h
    .rfl
   .rfl
theorem Nt(r:aw)(a:gU)(s:aq):0<=eh .str (mD r a) s 0∧eh .str (mD r a) s 0<=rh (bp a) s:=by
 have h1:=bM (bp a) s;have j:=yn (fun x=>!ei ((mA r a).map (·.1)) x) s (aL (bp a));unfold mD;rw[j,h1];split<;>omega
set_option maxHeartbeats 2000000 in
theorem WJ(r:aw)(lit:Int)(hl:lit<r.body.length)(hb:r.size<=10000000):Pure prog 189 [.iv (cM r),pI lit] (pB (lT r lit)):=by
 have w0:=Lit.aJ r.body;have h0:Lit.aE r.body<=r.size:=ZE _ _;have s0:r.head.an.length<=r.size:=ZS _ _;have b1:=DO r;refine ah ab func189 Z (by decide) ntmps189 Z (by simp) Z ?_;refine gA Z (zq [] (d73 r (by omega)) ?_);refine zJ Z Z (fun I=>?_) fun I=>?_
 .have I:lit<0:=by simpa using I
  refine gA Z (zq [1] (Wn r.head (by omega)) ?_);refine gA Z ?_;have i0:(aL (cY r.head)).length<=1000000000000:=by have:=mr (cY r.head);have:=jV r.head;omega
  refine gk (aL (cY r.head)) (fun vs=>⟨[(5,.mp 0),(76,.ptr 2 0)],[(0,io (cZ (aL (b6 r)))),(2,io (.bY .str AK (aL (cY r.head)) vs is))],3⟩) (fun vs=> ∀j∈vs,∀x,(aL (cY r.head))[j]? =io x->ei (b6 r) x.1=jp) [] (by simp)
   (zW (zC (hI Z Z (.inl Z) Z trivial))) fun vs J=>?_
  refine gl Z ac (dX Z Z Z Z Z (by decide) (fun A=>?_) fun j x u D=>?_)
  .refine gA Z (zL (.of_eq ?_));refine(oF ?_:pB kw=_);rw[lT,am I,oL fun j D x u=>J j (A j D) x u]
  .have c0:=bM (b6 r) x.1;have B:=cD (occ:=b6 r) (s:=x.1);refine zJ Z Z (fun g1=>?_) fun g1=>?_
   .have g1:ei (b6 r) x.1=kw:=by
     have:=zT g1;rw[B];simp;omega
    refine gA Z (zL (.of_eq ?_));refine(oF ?_:pB jp=_);rw[lT,am I,qU u g1]
   .have g1:ei (b6 r) x.1=jp:=by
     have:=zF g1;rw[B];simp;omega
    refine gA Z ?_
    exact⟨j,x,u,D,fun i hi y G=>by
     rcases Xm.1 hi with rfl|hi
     .rw[u]at G;cases G;exact g1
     .exact J i hi y G,[],zW (zC (hI Z Z (.inr Z) Z ac))⟩
 have I: ¬lit<0:=by simpa using I
 have hk:lit.toNat<r.body.length:=by omega
 have r0:=Lit.bU r.body lit.toNat hk;have t0:=(au r lit).lg;have z0:(au r lit).size<=Lit.aE r.body:=r0;have v0:=lh (au r lit).agg;have q0:=nC (au r lit);refine zE Z Z (fun Y=>?_) fun Y=>?_
 .have Y: ¬(au r lit).kind=4:=by simpa[au]using Y
  refine gA Z (zq [1] (Wm (au r lit) (by omega)) ?_);refine gA Z ?_;have i0:(aL (c4 (au r lit))).length<=1000000000000:=by have:=mr (c4 (au r lit));omega
  refine gk (aL (c4 (au r lit))) (fun vs=>⟨[(5,.mp 0),(76,.ptr 3 0)],[(0,io (cZ (aL (b6 r)))),(3,io (.bY .str AK (aL (c4 (au r lit))) vs is))],4⟩) (fun vs=> ∀j∈vs,∀x,(aL (c4 (au r lit)))[j]? =io x->ei (b6 r) x.1=jp) [] (by simp)
   (zW (zC (hI Z Z (.inl Z) Z trivial))) fun vs J=>?_
  refine gl Z ac (dX Z Z Z Z Z (by decide) (fun A=>?_) fun j x u D=>?_)
  .refine gA Z (zL (.of_eq ?_));refine(oF ?_:pB kw=_);rw[lT,be I,be Y,oL fun j D x u=>J j (A j D) x u]
  .have c0:=bM (b6 r) x.1;have B:=cD (occ:=b6 r) (s:=x.1);refine zJ Z Z (fun g1=>?_) fun g1=>?_
   .have g1:ei (b6 r) x.1=kw:=by
     have:=zT g1;rw[B];simp;omega
    refine gA Z (zL (.of_eq ?_));refine(oF ?_:pB jp=_);rw[lT,be I,be Y,qU u g1]
   .have g1:ei (b6 r) x.1=jp:=by
     have:=zF g1;rw[B];simp;omega
    refine gA Z ?_
    exact⟨j,x,u,D,fun i hi y G=>by
     rcases Xm.1 hi with rfl|hi
     .rw[u]at G;cases G;exact g1
     .exact J i hi y G,[],zW (zC (hI Z Z (.inr Z) Z ac))⟩
 have Y:(au r lit).kind=4:=by simpa[au]using Y
 refine gA Z (mF [] (d161 r (au r lit).agg (by omega)) Z Z Z Z Z Z Z fun q h' n' hR=>?_);obtain⟨ok,⟨occ,m0,hok⟩,rfl,rfl,rfl⟩:=hR;have d0: ∀s,ei ok s=ei (DC r (au r lit).agg) s:=fun s=>by rw[hok];exact Nh m0 s
 refine⟨_,rfl,?_⟩;have d1:=mr (bp (au r lit).agg);have a1:(mA r (au r lit).agg).length<=(aL (bp (au r lit).agg)).length:=Ys _ _;have x0:(mD r (au r lit).agg).length<=(aL (bp (au r lit).agg)).length:=Ys _ _;have n0:=(eS (bp (au r lit).agg)).1;refine gA Z (zq [] (d79 r (au r lit).agg (by omega)) ?_);refine gA Z ?_;refine gk (mA r (au r lit).agg) (fun vs=>⟨[(0,.iv (cM r)),(5,.mp 0),(7,.ptr 2 0),(8,.mp 3),(43,.ptr 5 0)],[(0,io (cZ (aL (b6 r)))),(2,io (ax (au r lit).c)),(3,io (cZ (aL ok))),(5,io (.bY .str AK (mA r (au r lit).agg) vs is))],6⟩) (fun vs=> ∀j∈vs,∀x,(mA r (au r lit).agg)[j]? =io x->ei (DC r (au r lit).agg) x.1=jp) [] (by simp)
  (zW (zC (zK (zC (hI Z Z (.inl Z) Z trivial))))) fun vs J=>?_
 refine gl Z ac (dX Z Z Z Z Z (by decide) (fun A=>?_) fun j x u D=>?_);rotate_left
 .have c0:=bM ok x.1;have B:=cD (occ:=ok) (s:=x.1);have b0:=d0 x.1;refine zJ Z Z (fun g1=>?_) fun g1=>?_
  .have g1:ei (DC r (au r lit).agg) x.1=kw:=by
    have:=zT g1;rw[<-b0,B];simp;omega
   refine gA Z (zL (.of_eq ?_));refine(oF ?_:pB jp=_);rw[lT,be I,am Y,Yr.2 ⟨x,XE u,by rw[g1];rfl⟩,ZY]
  .have g1:ei (DC r (au r lit).agg) x.1=jp:=by
    have:=zF g1;rw[<-b0,B];simp;omega
   refine gA Z ?_
   exact⟨j,x,u,D,fun i hi y G=>by
    rcases Xm.1 hi with rfl|hi
    .rw[u]at G;cases G;exact g1
    .exact J i hi y G,[],zW (zC (zK (zC (hI Z Z (.inr Z) Z ac))))⟩
 have hA:(mA r (au r lit).agg).any (fun x=>!ei (DC r (au r lit).agg) x.1)=kw:=XX.2 fun x u=>by
  obtain⟨j,D⟩:=XU u;rw[J j (A j (W4.1 D).1) x D];simp
 refine gA Z (zq [] (d127 (au r lit).agg (by omega)) ?_);refine gA Z (zq [] (d79 r (au r lit).agg (by omega)) ?_);refine gA Z ?_;refine gk (mA r (au r lit).agg) (fun vs=>⟨[(5,.mp 0),(6,.mp 6),(7,.ptr 2 0),(59,.ptr 8 0)],[(0,io (cZ (aL (b6 r)))),(2,io (ax (au r lit).c)),(6,io (cZ ((iw (mA r (au r lit).agg) vs).foldl (fun m k=>lq .str m k) (aL (bp (au r lit).agg))))),(8,io (.bY .str AK (mA r (au r lit).agg) vs is))],9⟩) (fun vs=>vs.Nodup∧ ∀j∈vs,j<(mA r (au r lit).agg).length) [] ⟨XY,by simp⟩
  (zW (zC (zK (zC (hI Z Z (.inl Z) Z trivial))))) fun e0 j0=>?_
 obtain⟨f0,g0⟩:=j0;refine gl Z ac (dX Z Z Z Z Z (by decide) (fun a0=>?_) fun j x u D=>?_);rotate_left
 .have hk:=lF (mA r (au r lit).agg) e0 j x u;refine gA Z ⟨j,x,u,D,⟨XN.2 ⟨D,f0⟩,fun i hi=>(Xm.1 hi).elim (fun h=>h▸(W4.1 u).1) (g0 i)⟩,[],zW (zC (zK (hM Z (by rw[hk,List.foldl_append];rfl) Z (hI Z Z (.inr Z) Z ac))))⟩
 have o0:(iw (mA r (au r lit).agg) e0).foldl (fun m k=>lq .str m k) (aL (bp (au r lit).agg))=mD r (au r lit).agg:=by
  rw[oW _ n0];unfold mD;congr 1
  funext x
  congr 1;rw[Yu,bN,bN,(kN _ e0 f0 g0 a0).mem_iff]
 rw[o0];have p0:=Nt r (au r lit).agg (au r lit).bJ;have k0:=ic (bp (au r lit).agg) (au r lit).bJ;refine gA Z ?_;have i0:(bump (mD r (au r lit).agg) (au r lit).bJ).length<=1000000000000:=by have:=vH (mD r (au r lit).agg) (au r lit).bJ (eh .str (mD r (au r lit).agg) (au r lit).bJ 0+1);unfold bump;omega
 refine gk (bump (mD r (au r lit).agg) (au r lit).bJ) (fun vs=>⟨[(5,.mp 0),(76,.ptr 9 0)],[(0,io (cZ (aL (b6 r)))),(9,io (.bY .str AK (bump (mD r (au r lit).agg) (au r lit).bJ) vs is))],10⟩) (fun vs=> ∀j∈vs,∀x,(bump (mD r (au r lit).agg) (au r lit).bJ)[j]? =io x->ei (b6 r) x.1=jp) [] (by simp)
  (zW (zC (hI Z Z (.inl Z) Z trivial))) fun vs J=>?_
 refine gl Z ac (dX Z Z Z Z Z (by decide) (fun A=>?_) fun j x u D=>?_)
 .refine gA Z (zL (.of_eq ?_));refine(oF ?_:pB kw=_);rw[lT,be I,am Y,hA,Y0,oL fun j D x u=>J j (A j D) x u]
 .have c0:=bM (b6 r) x.1;have B:=cD (occ:=b6 r) (s:=x.1);refine zJ Z Z (fun g1=>?_) fun g1=>?_
  .have g1:ei (b6 r) x.1=kw:=by
    have:=zT g1;rw[B];simp;omega
   refine gA Z (zL (.of_eq ?_));refine(oF ?_:pB jp=_);rw[lT,be I,am Y,hA,Y0,qU u g1]
  .have g1:ei (b6 r) x.1=jp:=by
    have:=zF g1;rw[B];simp;omega
   refine gA Z ?_
   exact⟨j,x,u,D,fun i hi y G=>by
    rcases Xm.1 hi with rfl|hi
    .rw[u]at G;cases G;exact g1
    .exact J i hi y G,[],zW (zC (hI Z Z (.inr Z) Z ac))⟩
end
end Go.Proofs.YtlmhfgbkchnfbaaGreatDoor
namespace Go.Proofs.YtlmhfgbkchnfbaaGreatDoor
open Go Go.Al
def Ns(a b:aq):Prop:=ox a<ox b
theorem Qy(a b:aq):Op.bytesLess a.toList b.toList=jp↔Ns a b:=by
 rw[ByteArray.toList_eq,ByteArray.toList_eq,bytesLess_eq,decide_eq_true_eq];rfl
theorem za{a b:aq}(h:ox a=ox b):a=b:=by rw[<-uK a,<-uK b,h]
theorem yl{a b c:aq}(h:Ns a b)(k:Ns b c):Ns a c:=List.lt_trans h k
theorem nv(a:aq): ¬Ns a a:=List.lt_irrefl _
theorem Nr{a b:aq}(h: ¬a=b)(k: ¬Ns a b):Ns b a:=by
 refine Yx fun j=>h (za (Z9 ?_ ?_))
 .exact aaD.1 j
 .exact aaD.1 k
abbrev y3(l:List aq):Prop:=l.Pairwise Ns
theorem wc: ∀{l:List aq} (_:y3 l) (s:aq),y3 (ins l s)
 | [],_,s=>Zo _ _
 |x::r,h,s=>by
  obtain⟨h1,A⟩:=Yd.1 h;simp only[ins];split
  .exact h
  .rename_i u;split
   .rename_i j;have j:=(Qy x s).1 j;refine Yd.2 ⟨fun y hy=>?_,wc A s⟩;rcases nr.1 hy with hy|rfl
    .exact h1 y hy
    .exact j
   .rename_i j;have j:Ns s x:=Nr u fun h=>j ((Qy x s).2 h);refine Yd.2 ⟨fun y hy=>?_,h⟩;rcases Xm.1 hy with rfl|hy
    .exact j
    .exact yl j (h1 y hy)
theorem rv{l:List aq}(h:y3 l)(s:aq):y3 (iB l s):=by rw[xF];exact wc h s
theorem ou: ∀{m l:List aq} (_:y3 l),y3 (pd l m)
 | [],_,h=>h
 |x::r,_,h=>ou (m:=r) (rv h x)
theorem qF: ∀{a b:List aq},y3 a->y3 b->(∀x,x∈a↔x∈b)->a=b
 | [],[],_,_,_=>rfl
 | [],y::s,_,_,h=>by have:=(h y).2 Xk;cases this
 |x::r,[],_,_,h=>by have:=(h x).1 Xk;cases this
 |x::r,y::s,ha,hb,h=>by
  obtain⟨A,a2⟩:=Yd.1 ha;obtain⟨B,D⟩:=Yd.1 hb;have u:x=y:=by
   rcases Xm.1 ((h x).1 Xk) with h1|h1
   .exact h1
   .rcases Xm.1 ((h y).2 Xk) with h2|h2
    .exact h2.symm
    .exact absurd (yl (B x h1) (A y h2)) (nv _)
  subst u;rw[qF a2 D fun z=>?_];constructor
  .intro j;rcases Xm.1 ((h z).1 (Xi _ j)) with rfl|h3
   .exact absurd (A z j) (nv _)
   .exact h3
  .intro j;rcases Xm.1 ((h z).2 (Xi _ j)) with rfl|h3
   .exact absurd (B z j) (nv _)
   .exact h3
theorem ki{l:List aq}(h:l.Nodup):y3 (dP l):=by
 have h1:=jk (l.map ox);rw[<-sN]at h1;have D:(dP l).Nodup:=by
  have G:((dP l).map ox).Perm (l.map ox):=by rw[sN];exact fW _
  have u:(l.map ox).Nodup:=List.Pairwise.map ox (fun a b j e=>j (za e)) h;have:=G.nodup_iff.2 u;exact List.Pairwise.of_map ox (fun a b j e=>j (by rw[e])) this
 have x:(dP l).Pairwise fun a b=>ox a<=ox b:=(List.pairwise_map.1 h1).imp fun{a b} j=>zT j;refine(List.Pairwise.and x D).imp fun{a b} j=>?_;obtain⟨y,A⟩:=j;exact Yx fun B=>A (za (Z9 y (aaD.1 B)))
theorem Mi{m:NM}{l:List aq}(hm:(m.map (·.1)).Nodup)(hl:y3 l)(h: ∀x,x∈m.map (·.1)↔x∈l):fP m=l:=by
 refine qF (ki hm) hl fun x=>?_;rw[fP,mw];exact h x
theorem HP{occ l:List aq}(hl:y3 l)(h: ∀x,x∈occ↔x∈l):fP (aL occ)=l:=
 Mi (eS occ).1 hl fun x=>((eS occ).2 x).trans (h x)
theorem qi{x:aq}: ∀{l:List Term} {a:List aq},x∈l.foldl C9 a↔x∈a∨x∈l.flatMap fun t=>if t.kind=1 then[t.var] else[]
 | [],a=>by simp
 |t::r,a=>by
  rw[X8,qi,X5,Xr];unfold C9;split
  .rw[dJ,Xd,or_assoc]
  .simp
theorem z7{x:aq}{a:Atom}:x∈sG a↔x∈cY a:=by
 unfold sG cY;rw[qi];simp
def Uj(a:List aq×Bool)(l:Lit):List aq×Bool:=if(lL l a.1).2=jp then(iB a.1 (lL l a.1).1,jp) else a
def sT(body:List Lit)(k:List aq):List aq×Bool:=body.foldl Uj (k,kw)
def vI(body:List Lit):Nat->List aq->List aq
 |0,k=>k
 |n+1,k=>if(sT body k).2=jp then vI body n (sT body k).1 else(sT body k).1
theorem BG{body:List Lit}{n:Nat}{k:List aq}:vI body (n+1) k=if(sT body k).2=jp then vI body n (sT body k).1 else(sT body k).1:=rfl
def lS(r:aw):List aq:=vI r.body (3*r.body.length+1) (r.body.foldl GA [])
section
section
variable (stp:List aq->Lit->aq×Bool)
def gS(a:List aq×Bool)(l:Lit):List aq×Bool:=if(stp a.1 l).2=jp then(iB a.1 (stp a.1 l).1,jp) else a
def gR(body:List Lit)(k:List aq):List aq×Bool:=body.foldl (gS stp) (k,kw)
def gN(body:List Lit):Nat->List aq->List aq
 |0,k=>k
 |n+1,k=>if(gR stp body k).2=jp then gN body n (gR stp body k).1 else(gR stp body k).1
variable {stp}
theorem Ft: ∀(body:List Lit) (k:List aq),(body.foldl (gS stp) (k,jp)).2=jp
 | [],k=>rfl
 |l::r,k=>by
  rw[X8];have: ∃j,gS stp (k,jp) l=(j,jp):=by
   unfold gS;split
   .exact⟨_,rfl⟩
   .exact⟨_,rfl⟩
  obtain⟨j,hk⟩:=this;rw[hk];exact Ft r j
theorem Cs: ∀{body:List Lit} {k:List aq},(body.foldl (gS stp) (k,kw)).2=kw->(body.foldl (gS stp) (k,kw)).1=k∧ ∀l∈body,(stp k l).2=kw
 | [],k,_=>⟨rfl,by simp⟩
 |l::r,k,h=>by
  rw[X8]at h ⊢;cases hs:(stp k l).2 with
  |true=>
   have:gS stp (k,kw) l=(iB k (stp k l).1,jp):=am hs;rw[this,Ft]at h;cases h
  |false=>
   have:gS stp (k,kw) l=(k,kw):=be (by rw[hs];simp);rw[this]at h ⊢;obtain⟨h1,j⟩:=Cs h
   exact⟨h1,fun x hx=>by
    rcases Xm.1 hx with rfl|hx
    .exact hs
    .exact j x hx⟩
theorem D2: ∀(body:List Lit) (a:List aq×Bool),∀x∈a.1,x∈(body.foldl (gS stp) a).1
 | [],a,x,h=>h
 |l::r,a,x,h=>by
  rw[X8];refine D2 r _ x ?_;unfold gS;split
  .exact dJ.2 (.inl h)
  .exact h
theorem JJ{body:List Lit}: ∀(n:Nat) (k:List aq),∀x∈k,x∈gN stp body n k
 |0,k,x,h=>h
 |n+1,k,x,h=>by
  unfold gN;split
  .exact JJ n _ x (D2 body (k,kw) x h)
  .exact D2 body (k,kw) x h
theorem tn: ∀(body:List Lit) (a:List aq×Bool),y3 a.1->y3 (body.foldl (gS stp) a).1
 | [],a,h=>h
 |l::r,a,h=>by
  rw[X8];refine tn r _ ?_;unfold gS;split
  .exact rv h _
  .exact h
theorem yB{body:List Lit}: ∀(n:Nat) (k:List aq),y3 k->y3 (gN stp body n k)
 |0,k,h=>h
 |n+1,k,h=>by
  unfold gN;split
  .exact yB n _ (tn body (k,kw) h)
  .exact tn body (k,kw) h
variable (hnew: ∀(k:List aq) (l:Lit),(stp k l).2=jp->(stp k l).1∈ [l.left.var,l.right.var,l.bJ]∧(stp k l).1∉k)
include hnew
theorem Fs{c:List aq}: ∀{body:List Lit} {a:List aq×Bool},(∀l∈body,∀v∈ [l.left.var,l.right.var,l.bJ],v∈c)->
  cQ c (body.foldl (gS stp) a).1<=cQ c a.1∧((body.foldl (gS stp) a).2=jp->a.2=jp∨cQ c (body.foldl (gS stp) a).1<cQ c a.1)
 | [],a,_=>⟨W8 _,fun h=> .inl h⟩
 |l::r,a,hc=>by
  have h1:cQ c (gS stp a l).1<=cQ c a.1∧((gS stp a l).2=jp->a.2=jp∨cQ c (gS stp a l).1<cQ c a.1):=by
   unfold gS;split
   .rename_i h;obtain⟨g1,g2⟩:=hnew _ _ h;have:=rS (hc l Xk _ g1) g2;exact⟨by dsimp only;omega,fun _=> .inr this⟩
   .exact⟨W8 _,fun h=> .inl h⟩
  obtain⟨g1,g2⟩:=Fs (body:=r) (a:=gS stp a l) fun l hl=>hc l (Xi _ hl);rw[X8];refine⟨by omega,fun h=>?_⟩;rcases g2 h with g3|g3
  .rcases h1.2 g3 with g4|g4
   .exact .inl g4
   .exact .inr (by omega)
  .exact .inr (by omega)
theorem JH{body:List Lit}: ∀(n:Nat) (k:List aq),cQ (bV body) k<n-> ∀l∈body,(stp (gN stp body n k) l).2=kw
 |0,k,h,_,_=>by omega
 |n+1,k,h,l,hl=>by
  unfold gN;cases hr:(gR stp body k).2 with
  |true=>
   rw[am Z];refine JH n _ ?_ l hl;obtain⟨_,g2⟩:=Fs hnew (c:=bV body) (body:=body) (a:=(k,kw)) fun l hl v j=>yR hl j;rcases g2 hr with g3|g3
   .cases g3
   .unfold gR;dsimp only at g3;omega
  |false=>
   rw[be (by simp)];obtain⟨g1,g2⟩:=Cs hr;unfold gR;rw[g1];exact g2 l hl
end
theorem oS{m1:Expr->Bool}{m2:gU->Bool}{occ:List aq}: ∀{l:List Lit},(∀x∈l,np m1 m2 occ x=is)->cm m1 m2 occ l=is
 | [],_=>rfl
 |y::r,h=>by
  simp only[cm,h y Xk];exact oS fun x j=>h x (Xi _ j)
section
variable {stp:List aq->Lit->aq×Bool} {may:List aq->Expr->Bool} {more:List aq->gU->Bool} {body:List Lit}
variable (hE: ∀(k:List aq) (l:Lit),np (may k) (more k) k l=if(stp k l).2=jp then io (stp k l).1 else is)
variable (hmay: ∀a b:List aq,(∀x∈a,x∈b)-> ∀e,may a e=jp->may b e=jp) (hmore: ∀a b:List aq,(∀x∈a,x∈b)-> ∀e,more a e=jp->more b e=jp)
include hE
theorem Mo(k:List aq)(l:Lit)(h:(stp k l).2=jp):(stp k l).1∈ [l.left.var,l.right.var,l.bJ]∧(stp k l).1∉k:=by
 have:=hE k l;rw[am h]at this;exact vU this
include hmay hmore
theorem JF{C:List aq}(hC: ∀l∈body,np (may C) (more C) C l=is): ∀(b:List Lit) (a:List aq×Bool),(∀l∈b,l∈body)->(∀x∈a.1,x∈C)-> ∀x∈(b.foldl (gS stp) a).1,x∈C
 | [],a,_,h,x,hx=>h x hx
 |l::r,a,hb,h,x,hx=>by
  rw[X8]at hx;refine JF hC r _ (fun l hl=>hb l (Xi _ hl)) (fun y j=>?_) x hx;unfold gS at j;split at j
  .rename_i hs;rcases dJ.1 j with j|rfl
   .exact h y j
   .have:=hE a.1 l;rw[am hs]at this;exact E3 hmay hmore h this (hC l (hb l Xk))
  .exact h y j
theorem JG{C:List aq}(hC: ∀l∈body,np (may C) (more C) C l=is): ∀(n:Nat) (k:List aq),(∀x∈k,x∈C)-> ∀x∈gN stp body n k,x∈C
 |0,k,h,x,hx=>h x hx
 |n+1,k,h,x,hx=>by
  unfold gN at hx;have hr:=JF hE hmay hmore hC body (k,kw) (fun _ h=>h) h;split at hx
  .exact JG hC n _ hr x hx
  .exact hr x hx
theorem Bg{k occ:List aq}(hk: ∀x,x∈k↔x∈occ++body.flatMap bA)(x:aq):x∈gN stp body (3*body.length+1) k↔x∈cq may more body occ:=by
 constructor
 .refine JG hE hmay hmore (C:=cq may more body occ) (oT (uk occ)) _ _ (fun y j=>?_) x;exact oZ _ _ y ((hk y).1 j)
 .refine oY hmay hmore (C:=gN stp body (3*body.length+1) k) (oS fun l hl=>?_) _ _ (fun y j=>JJ _ _ y ((hk y).2 j)) x;have h1:=rT (bV body) k;have u:=kD body;rw[hE,JH (Mo hE) _ _ (by omega) l hl,be (by simp)]
end
theorem B1{x:aq}: ∀{l:List Lit} {a:List aq},x∈l.foldl GA a↔x∈a∨x∈l.flatMap bA
 | [],a=>by simp
 |t::r,a=>by
  rw[X8,B1,X5,Xr];by_cases hk:t.kind=1
  .rw[show GA a t=pd a (sG t.atom) from am hk,show bA t=cY t.atom from am hk,tV,z7,or_assoc]
  .rw[show GA a t=a from be hk,show bA t=[] from be hk];simp
theorem tP: ∀(l:List Lit) (a:List aq),y3 a->y3 (l.foldl GA a)
 | [],a,h=>h
 |t::r,a,h=>by
  rw[X8];refine tP r _ ?_;unfold GA;split
  .exact ou h
  .exact h
theorem I0(k:List aq)(l:Lit):np (cH k) (fun _=>kw) k l=if(lL l k).2=jp then io (lL l k).1 else is:=by
 unfold np;rw[be (c:=l.kind=4∧_) (fun h=>Bool.noConfusion h.2.2)];have:(if(gL (cH k) k l).2=jp then io (gL (cH k) k l).1 else is)=if(lL l k).2=jp then io (lL l k).1 else is:=by
  unfold gL lL cH;split
  .rfl
  .by_cases j:l.left.kind=1<;>by_cases a2:l.right.kind=1<;>by_cases a3:l.left.kind=2<;>by_cases a4:l.right.kind=2<;>cases a5:ei k l.left.var<;>cases a6:ei k l.right.var<;>simp_all
 exact this
theorem ya(body:List Lit): ∀(n:Nat) (k:List aq),vI body n k=gN (fun k l=>lL l k) body n k
 |0,k=>rfl
 |n+1,k=>by
  rw[BG,ya body n];rfl
theorem told_plain(r:aw):fP (aL (p9 r))=lS r:=by
 unfold lS;rw[ya];refine HP (yB _ _ (tP _ _ Zf)) fun x=>?_;exact(Bg (may:=fun j=>cH j) (more:=fun _=>fun _=>kw) I0 BH (fun _ _ _ _ h=>h) (fun y=>by rw[B1];simp) x).symm
end
end Go.Proofs.YtlmhfgbkchnfbaaGreatDoor
namespace Go.Proofs
open Go.Shelf
def Tryz.Ca:Go.Shelf.Ren:=⟨fun|190=>129|125=>108|258=>191|128=>146|129=>147|302=>229|303=>230|304=>231|305=>232|306=>233|307=>234|308=>235|309=>236|310=>237|333=>254|329=>196|330=>197|334=>255|335=>256|336=>257|344=>265|n=>n,fun|31=>199|9=>9|3=>3|46=>140|0=>0|51=>83|53=>104|4=>4|183=>251|182=>250|131=>255|5=>5|218=>296|222=>300|228=>343|229=>344|n=>n,fun|n=>n⟩
theorem Tryz.Fa:Go.Proofs.Lays.n190 Tryz.prog Tryz.Ca:={
 mixed:=by kernel_rfl
 f125:=Tryz.func108.trans (congrArg io (by kernel_rfl))
 f128:=Tryz.func146.trans (congrArg io (by kernel_rfl))
 f129:=Tryz.func147.trans (congrArg io (by kernel_rfl))
 f190:=Tryz.func129.trans (congrArg io (by kernel_rfl))
 f258:=Tryz.func191.trans (congrArg io (by kernel_rfl))
 f302:=Tryz.func229.trans (congrArg io (by kernel_rfl))
 f303:=Tryz.func230.trans (congrArg io (by kernel_rfl))
 f304:=Tryz.func231.trans (congrArg io (by kernel_rfl))
 f305:=Tryz.func232.trans (congrArg io (by kernel_rfl))
 f306:=Tryz.func233.trans (congrArg io (by kernel_rfl))
 f307:=Tryz.func234.trans (congrArg io (by kernel_rfl))
 f308:=Tryz.func235.trans (congrArg io (by kernel_rfl))
 f309:=Tryz.func236.trans (congrArg io (by kernel_rfl))
 f310:=Tryz.func237.trans (congrArg io (by kernel_rfl))
 f329:=Tryz.func196.trans (congrArg io (by kernel_rfl))
 f330:=Tryz.func197.trans (congrArg io (by kernel_rfl))
 f333:=Tryz.func254.trans (congrArg io (by kernel_rfl))
 f334:=Tryz.func255.trans (congrArg io (by kernel_rfl))
 f335:=Tryz.func256.trans (congrArg io (by kernel_rfl))
 f336:=Tryz.func257.trans (congrArg io (by kernel_rfl))
 f344:=Tryz.func265.trans (congrArg io (by kernel_rfl))
 t0:=Tryz.underlying0
 a0:=Tryz.isAgg0
 z0:=Tryz.sizeOf0
 v0:=Tryz.zeroValue0
 t3:=Tryz.underlying3
 a3:=Tryz.isAgg3
 z3:=Tryz.sizeOf3
 v3:=Tryz.zeroValue3
 t4:=Tryz.underlying4
 a4:=Tryz.isAgg4
 z4:=Tryz.sizeOf4
 v4:=Tryz.zeroValue4
 t5:=Tryz.underlying5
 a5:=Tryz.isAgg5
 z5:=Tryz.sizeOf5
 v5:=Tryz.zeroValue5
 t9:=Tryz.underlying9
 a9:=Tryz.isAgg9
 z9:=Tryz.sizeOf9
 v9:=Tryz.zeroValue9
 t31:=Tryz.underlying199
 a31:=Tryz.isAgg199
 z31:=Tryz.sizeOf199
 v31:=Tryz.zeroValue199
 t46:=Tryz.underlying140
 a46:=Tryz.isAgg140
 z46:=Tryz.sizeOf140
 v46:=Tryz.zeroValue140
 t51:=Tryz.underlying83
 a51:=Tryz.isAgg83
 z51:=Tryz.sizeOf83
 v51:=Tryz.zeroValue83
 t53:=Tryz.underlying104
 a53:=Tryz.isAgg104
 z53:=Tryz.sizeOf104
 v53:=Tryz.zeroValue104
 t131:=Tryz.underlying255
 a131:=Tryz.isAgg255
 z131:=Tryz.sizeOf255
 v131:=Tryz.zeroValue255
 t182:=Tryz.underlying250
 a182:=Tryz.isAgg250
 z182:=Tryz.sizeOf250
 v182:=Tryz.zeroValue250
 t183:=Tryz.underlying251
 a183:=Tryz.isAgg251
 z183:=Tryz.sizeOf251
 v183:=Tryz.zeroValue251
 t218:=Tryz.underlying296
 a218:=Tryz.isAgg296
 z218:=Tryz.sizeOf296
 v218:=Tryz.zeroValue296
 t222:=Tryz.underlying300
 a222:=Tryz.isAgg300
 z222:=Tryz.sizeOf300
 v222:=Tryz.zeroValue300
 t228:=Tryz.underlying343
 a228:=Tryz.isAgg343
 z228:=Tryz.sizeOf343
 v228:=Tryz.zeroValue343
 t229:=Tryz.underlying344
 a229:=Tryz.isAgg344
 z229:=Tryz.sizeOf344
 v229:=Tryz.zeroValue344}
theorem YtlmhfgbkchnfbaaGreatDoor.P7:YtlmhfgbkchnfbaaGreatDoor.fJ:=
 ⟨fun x b0 a0 y w hH j u=>Any.slices_Sort_string Tryz.Fa x b0 a0 y w hH j u,fun p a0 w=>Any.slices_Sort_string_none Tryz.Fa p a0 w⟩
end Go.Proofs
namespace Go.Proofs.YtlmhfgbkchnfbaaGreatDoor
open Go Go.Al
theorem iL{α:Type}[Inhabited α]{f:α->List IV}(h: ∀x,dB ((f x).map .iv)=jp)(l:List α):allOnes ((XC l.length).map fun k=>(f (l.getD k co)).map PV.iv)=jp:=by rw[zh];exact fi h l
def Prog.size(p:Prog):Nat:=p.aG.length+(p.aG.map fun d=>d.types.length).sum+p.rules.length+(p.rules.map aw.size).sum
theorem pn{α:Type}[Inhabited α](f:α->Nat): ∀(l:List α) (i:Nat),i<l.length->f (l.getD i co)<=(l.map f).sum
 |x::r,0,_=>by simp
 |x::r,i+1,h=>by
  have:=pn f r i (by simpa using h);simp only[Yt,W7,Ym];omega
theorem de{α:Type}(i sz n u:Nat)(l:List α)(f:α->List IV):(aS u l f).kK i sz n:=by
 intro k e j p A B;rw[W9,Xa]at A;obtain⟨x,_,rfl⟩:=A;rw[W9,Xa]at B;obtain⟨y,_,rfl⟩:=B;exact⟨y,rfl⟩
theorem Wv(r:aw)(hb:r.size<=10000000):Pure Tryz.prog 102 [ag r.c] (.iv (strs (lS r))):=told_plain r▸c33 P7 r hb
end Go.Proofs.YtlmhfgbkchnfbaaGreatDoor
namespace Go.Proofs.YtlmhfgbkchnfbaaGreatDoor
open Go.Proofs.Tryz
open Go
section
set_option maxHeartbeats 2000000
theorem Fj: ∃j,prog.info? 184=io j∧j.size=2:=by
 have h:(prog.info? 184).map (fun i=>i.size)=io 2:=by kernel_rfl
 rw[Xa]at h;exact h
theorem Nx:liesAt prog prog.depth 186 (4/prog.cellsOf 186) 0 184 1=jp:=by kernel_rfl
theorem Oj(b:Nat)(w:World)(h0:w.cell? ⟨b,0,is⟩=io (.pointer (io ⟨b,0,is⟩))):
  Calls prog 169 #[.pointer (io ⟨b,0,is⟩)] w fun e x=>e= .returned (.tuple #[])∧x=w:=by
 obtain⟨j,u,_⟩:=Fj
 go_enter func169,ntmps169
 go_wp2
 rw[Lib.run_neq_ptr_same w _ underlying182 u]
 go_wp2
 go_end0
 exact⟨rfl,rfl⟩
theorem Kr(b:Nat)(w:World)(h0:w.cell? ⟨b,0,is⟩=io (.pointer is))(u:w.shape? b=io (186,4))(A:w.frozen? ⟨b,0,is⟩=kw):
  Calls prog 169 #[.pointer (io ⟨b,0,is⟩)] w fun e B=>e= .returned (.tuple #[])∧B=w.setCell ⟨b,0,is⟩ (.pointer (io ⟨b,0,is⟩)):=by
 obtain⟨j,y,x⟩:=Fj
 go_enter func169,ntmps169
 go_wp2
 rw[Lib.run_to_unsafe w ⟨b,0,is⟩ underlying182 underlying309 y (by rw[x];decide) u (by show 0<4;decide)];simp only[Result.andThen];rw[Oper.upon_value]
 go_wp2
 rw[run_callFunc_extern func209 (by kernel_rfl) (by kernel_rfl) (by kernel_rfl) (e:=Extern.AbiNoEscape.same) (by kernel_rfl)];rw[Lib.run_noEscape];simp only[Result.andThen];rw[Oper.upon_value]
 go_wp2
 rw[Lib.run_from_unsafe w ⟨b,0,is⟩ underlying309 underlying182 y u Nx];simp only[Result.andThen];rw[Oper.upon_value]
 go_wp2
 go_end0
 exact⟨rfl,rfl⟩
theorem SY:prog.cellsOf 5=1:=by kernel_rfl
theorem Oo(b g cap:Nat)(p x y:Value)(u:Array Value)(l:List UInt8)(w:World)(G:w.heap[b]? =io (.cells #[p,.slice (io ⟨g,0,is⟩) l.length cap,x,y] 186 (0,0)))(hg:w.heap[g]? =io (.cells u 5 (0,0)))
  (hl:l.length<=u.size) (Y:l.length<=cap) (I:cap<=maxLen) (B: ∀(j:Nat) (x:UInt8),l[j]? =io x->u.getD j undef= .int .u8 (x.toNat:Int)) (h0:l≠ []):
  Calls prog 125 #[.pointer (io ⟨b,0,is⟩)] w fun e w'=>e= .returned (.string ⟨l.toArray⟩)∧w'=w.drew.freeze ⟨g,0,is⟩ l.length:=by
 have c0:l.length≠0:=by simpa using h0
 have c1:w.drew.cell? ⟨b,1,is⟩=io (.slice (io ⟨g,0,is⟩) l.length cap):=by
  have:w.drew.heap[b]? =io (.cells #[p,.slice (io ⟨g,0,is⟩) l.length cap,x,y] 186 (0,0)):=G;rw[Lib.cell_of_heap this];rfl
 have a0:(Builtin.unsafeSliceData_ #[38] 275 #[.slice (io ⟨g,0,is⟩) l.length cap]).run prog w.drew= .ok (.pointer (io ⟨g,0,is⟩)) w.drew:=
  Lib.run_unsafeSliceData_row _ _ _ _ _ _ (by omega)
 have b0:(Builtin.unsafeString_ #[275,3] 9 #[.pointer (io ⟨g,0,is⟩),.int .i64 l.length]).run prog w.drew= .ok (.string ⟨l.toArray⟩) (w.drew.freeze ⟨g,0,is⟩ l.length):=by
  refine Lib.run_unsafeString_row w.drew 275 3 9 5 underlying275 SY g u.size (by have A:w.drew.heap[g]? =io (.cells u 5 (0,0)):=hg;simp[World.shape?,A]) l h0 (by omega) (by unfold maxLen at I;omega) ?_;intro j x hx;have D:j<u.size:=by have:=(W4.1 hx).1;omega
  have:=B j x hx;rw[WZ,XJ D]at this;show w.drew.cell? _=_;have A:w.drew.heap[g]? =io (.cells u 5 (0,0)):=hg;rw[Al.c9,Xo];simp only[World.cell?,A];simpa[D]using this
 have J:prog.follows .mixedOrders=jp:=rfl
 go_enter func125,ntmps125
 go_wp2
 go_region_o
 all_goals(go_wp2;go_ret;exact⟨rfl,rfl⟩)
theorem S1(b:Nat)(p x y:Value)(w:World)(j:w.heap[b]? =io (.cells #[p,.slice is 0 0,x,y] 186 (0,0))):
  Calls prog 125 #[.pointer (io ⟨b,0,is⟩)] w fun e D=>e= .returned (.string ⟨#[]⟩)∧D=w.drew:=by
 have B:(W:World)->(Builtin.unsafeString_ #[275,3] 9 #[.pointer is,.int .i64 0]).run prog W= .ok (.string .empty) W:=fun W=>Lib.run_unsafeString_none W _ _ _ is
 have c1:w.drew.cell? ⟨b,1,is⟩=io (.slice is 0 0):=by
  have:w.drew.heap[b]? =io (.cells #[p,.slice is 0 0,x,y] 186 (0,0)):=j;rw[Lib.cell_of_heap this];rfl
 have A:(Builtin.unsafeSliceData_ #[38] 275 #[.slice is 0 0]).run prog w.drew= .ok (.pointer is) w.drew:=rfl;have u:prog.follows .mixedOrders=jp:=rfl
 go_enter func125,ntmps125
 go_wp2
 go_region_o
 all_goals(go_wp2;go_ret;exact⟨rfl,rfl⟩)
end
end Go.Proofs.YtlmhfgbkchnfbaaGreatDoor
namespace Go.Proofs.YtlmhfgbkchnfbaaGreatDoor
open Go Go.Al Go.Proofs.Tryz
def Ng(c:Nat):Bool:=(lc (97<=c)&&lc (c<=122))||((lc (65<=c)&&lc (c<=90))||((lc (48<=c)&&lc (c<=57))||decide (c=95)))
def okB(b:UInt8):Bool:=Ng b.toNat
def hd(s:aq):Int:=((s.data.toList.getD 0 0).toNat:Int)
def rr(s:aq)(j hi:Int):Bool:=!lc (s=⟨#[]⟩)&&(lc (s.size<=32)&&(lc (j<=hd s)&&(lc (hd s<=hi)&&s.data.toList.all okB)))
theorem IU{c:Nat}(h:Ng c=jp):c<128:=by
 simp only[Ng,Zc,XR,decide_eq_true_eq]at h;omega
theorem Mu{s:aq}(h: ¬s=⟨#[]⟩):0<s.size:=by
 refine Nat.pos_of_ne_zero fun j=>h ?_;have:s.data= #[]:=Yn j;cases s;simp_all
theorem WD(c:Nat):Pure prog 208 [.iv (.v (.int .i32 (c:Int)))] (pB (!Ng c)):=by
 refine ah ab func208 Z (by decide) ntmps208 Z (by simp) Z ?_
 repeat' (first|(refine gA Z (zI (fun _=>?_) (fun _=>?_)))|(refine gA Z (zL (.of_eq ?_))))
 all_goals(refine(oF ?_:pB _=pB _))
 all_goals(simp only[Zs,ZZ,decide_eq_true_eq,decide_eq_false_iff_not] at*;rw[Yu];simp[Ng];omega)
theorem Ka{s:aq}{i:Nat}(h:i<s.size)(hb:okB (s.data.toList.getD i 0)=jp):Utf8.decode s i=((s.data.toList.getD i 0).toNat,1):=by
 have j:(s[i]'h)=s.data.toList.getD i 0:=by
  have:i<s.data.toList.length:=by simpa using h
  rw[W2,W5 this];simp;rfl
 have:=decode_ascii s i h (by rw[j];exact IU hb);rw[this,j]
theorem SS{s:aq}{i:Nat}(h:i<s.size)(hb:okB (s.data.toList.getD i 0)=kw):Ng (Utf8.decode s i).1=kw:=by
 by_cases h1:(s.data.toList.getD i 0).toNat<128
 .have j:(s[i]'h)=s.data.toList.getD i 0:=by
   have:i<s.data.toList.length:=by simpa using h
   rw[W2,W5 this];simp;rfl
  have:=decode_ascii s i h (by rw[j];exact h1);rw[this,j];exact hb
 .have j:(s.get! (i+0)).toNat=(s.data.toList.getD i 0).toNat:=by
   have:i<s.data.toList.length:=by simpa using h
   rw[W2,W5 this];simp[ByteArray.get!,getElem!_pos,h]
  have:128<=(Utf8.decode s i).1:=by
   simp only[Utf8.decode,j,be h1]
   repeat' split
   all_goals(dsimp only[Utf8.runeError];(try simp only[XR,decide_eq_true_eq] at*);omega)
  cases hk:Ng (Utf8.decode s i).1 with
  |false=>rfl
  |true=>have:=IU hk;omega
def FT(s:aq):Int:=q8 (fun b=>!okB b) s.data.toList
theorem d217(s:aq):bh prog 259 [pS s,.cB (.func 208) [] [],pB jp] [] (pI (FT s)) [] 0:=by
 have A:s.data.toList.length=s.size:=by simp
 refine ak ab func259 Z (by decide) ntmps259 Z (by simp) ?_;refine gA Z ?_;refine yz ab Z Z Z Z Z Z Z ?_;refine gA Z ?_;refine aN 0 s.size (Xc _) (fun i=>⟨[(0,pS s),(1,.cB (.func 208) [] []),(2,pB jp),(10,.ptr 0 0)],[(0,io (.eG s i))],1⟩) (fun i=>(s.data.toList.take i).any (fun b=>!okB b)=kw) [] (by simp)
  (zW ⟨⟨_,rfl,.of_eq Z⟩,WY Z,ac,ac⟩) fun i hi x=>?_
 refine gA Z ?_;refine mE Z Z Z Z Z Z (fun h1=>?_) (fun h1=>?_)
 .have j:s.data.toList.length<=i:=by omega
  rw[FT,gC (any_none x j)];refine gA Z (zD [] Z (zW ac))
 .have u:i<s.data.toList.length:=by omega
  have y:s.data.toList.getD i co=s.data.toList.getD i 0:=rfl;refine gA Z (zp (WD (Utf8.decode s i).1) ?_);refine zJ Z Z (fun j=>?_) fun j=>?_
  .have j:Ng (Utf8.decode s i).1=kw:=by simpa using j
   have hb:okB (s.data.toList.getD i 0)=kw:=by
    cases hk:okB (s.data.toList.getD i 0) with
    |false=>rfl
    |true=>
     rw[Ka h1 hk]at j;exact absurd (hk.symm.trans j) (by simp)
   rw[FT,iV x u (by rw[y,hb];rfl)];refine gA Z (zD [] Z (zW ac))
  .have j:Ng (Utf8.decode s i).1=jp:=by simpa using j
   have hb:okB (s.data.toList.getD i 0)=jp:=by
    cases hk:okB (s.data.toList.getD i 0) with
    |true=>rfl
    |false=>exact absurd ((SS h1 hk).symm.trans j) (by simp)
   have hd:=Ka h1 hb;refine gA Z ⟨h1,(c7 x u).2 (by rw[y,hb];rfl),[],zW ⟨⟨_,rfl,.of_eq (by rw[hd];rfl)⟩,WY Z,ac,ac⟩⟩
theorem OE(l:List UInt8):(l.any fun b=>!okB b)=!l.all okB:=by
 induction l with
 |nil=>rfl
 |cons x r ih=>simp only[aar,List.all_cons,ih];cases okB x<;>rfl
theorem d203(s:aq):bh prog 242 [pS s,.cB (.func 208) [] []] [] (pI (FT s)) [] 0:=by
 refine ak ab func242 Z (by decide) ntmps242 Z (by simp) ?_;refine gA Z (zq [] (d217 s) ?_);refine gA Z (zD [] Z (zW ac))
theorem d180(s:aq):bh prog 207 [pS s,.cB (.func 208) [] []] [] (pB (!s.data.toList.all okB)) [] 0:=by
 refine ak ab func207 Z (by decide) ntmps207 Z (by simp) ?_;refine gA Z (zq [] (d203 s) ?_);refine gA Z (zD [] Z (zM ⟨.of_eq (oF ((iW _ _).trans (OE _))),rfl,ac⟩ ac))
theorem Vw(s:aq)(y hi:Int):Pure prog 168 [pS s,.iv (.v (.int .u8 y)),.iv (.v (.int .u8 hi))] (pB (rr s y hi)):=by
 refine ah ab func168 Z (by decide) ntmps168 Z (by simp) Z ?_;refine zE Z Z (fun h1=>?_) fun h1=>?_
 .have h1:s=⟨#[]⟩:=zT h1;refine gA Z (zL (.of_eq ?_));refine(oF ?_:pB _=pB _);subst h1;rfl
 have h1: ¬s=⟨#[]⟩:=zF h1;have A:=Mu h1;refine zE Z Z (fun j=>?_) fun j=>?_
 .have j:32<s.size:=zN j;refine gA Z (zL (.of_eq ?_));refine(oF ?_:pB _=pB _);have: ¬s.size<=32:=by omega
  simp[rr,this]
 have j:s.size<=32:=by have:=zF j;omega
 refine zE Z Z (fun u=>?_) fun u=>?_
 .have u:hd s<y:=zT u;refine gA Z (zL (.of_eq ?_));refine(oF ?_:pB _=pB _);have: ¬y<=hd s:=by omega
  simp[rr,this]
 have u:y<=hd s:=by have: ¬hd s<y:=zF u;omega
 refine zJ Z Z (fun x=>?_) fun x=>?_
 .have x:hi<hd s:=zT x;refine gA Z (zL (.of_eq ?_));refine(oF ?_:pB _=pB _);have: ¬hd s<=hi:=by omega
  simp[rr,this]
 have x:hd s<=hi:=by have: ¬hd s>hi:=zF x;omega
 refine gA Z (zq [] (d180 s) ?_);refine gA Z (zL (.of_eq ?_));refine(oF ?_:pB _=pB _);simp[rr,h1,j,u,x]
def UU:List aq:=[⟨#[114,101,108,97,116,105,111,110]⟩,⟨#[110,111,116]⟩,⟨#[110,117,109]⟩,⟨#[115,121,109]⟩,⟨#[109,111,100]⟩,⟨#[99,111,117,110,116]⟩,⟨#[115,117,109]⟩,⟨#[109,105,110]⟩,⟨#[109,97,120]⟩]
def UW(s:aq):Bool:=UU.any fun x=>lc (s=x)
def gi(s:aq):Bool:=!UW s&&rr s 97 122
def gu(s:aq):Bool:=rr s 65 90
theorem Ed(s:aq):Pure prog 170 [pS s] (pB (gu s)):=by
 refine ah ab func170 Z (by decide) ntmps170 Z (by simp) Z ?_;refine gA Z (zp (Vw s 65 90) ?_);exact zU Z
theorem Vu(s:aq):Pure prog 121 [pS s] (pB (gi s)):=by
 refine ah ab func121 Z (by decide) ntmps121 Z (by simp) Z ?_
 repeat' (first|(refine gA Z (zI (fun _=>?_) (fun _=>?_)))|(refine gA Z (zp (Vw s 97 122) ?_))|(refine gA Z (zL (.of_eq ?_))))
 all_goals(refine(oF ?_:pB _=pB _))
 all_goals(simp only[gi,UW,UU,aar,List.any_nil, *];rfl)
theorem WI(v:cW):Pure prog 152 [ag v.c] (pB (!lc (bW v=0))):=by
 refine ah ab func152 Z (by decide) ntmps152 Z (by simp) Z ?_;refine gA Z (zp (Vv v) ?_);exact zU Z
theorem i182(l:List cW):bh prog 202 [.iv (aT 3 l cW.c),.cB (.func 152) [] []] [] (pI (q8 (fun x:cW=>!lc (bW x=0)) l)) [] 0:=by
 refine rb (bg func202 Z (by decide)) ⟨_,_,Xk⟩ fun u=>?_;simp only[maxLen]at u;refine ak ab func202 Z (by decide) ntmps202 Z (by simp) ?_;refine gA Z ?_
 refine aN 0 l.length (Xc _) (fun i=>⟨[(0,.iv (aT 3 l cW.c)),(1,.cB (.func 152) [] []),(7,pI l.length),(8,pI i)],[],0⟩) (fun i=>(l.take i).any (fun x:cW=>!lc (bW x=0))=kw) [] (by simp)
  (zW trivial) fun i hi y=>?_
 refine zJ Z Z (fun h1=>?_) fun h1=>?_
 .have h1:i<l.length:=by simpa using h1
  refine gA Z (zp (WI (l.getD i co)) ?_);refine zJ Z Z (fun j=>?_) fun j=>?_
  .have j:(fun x:cW=>!lc (bW x=0)) (l.getD i co)=jp:=j;rw[iV y h1 j];refine gA Z (zD [] Z (zW ac))
  .have j:(fun x:cW=>!lc (bW x=0)) (l.getD i co)=kw:=j;refine gA Z ⟨h1,(c7 y h1).2 j,[],zW ac⟩
 .have h1:l.length<=i:=by simpa using h1
  rw[gC (any_none y h1)];refine gA Z (zD [] Z (zW ac))
theorem d141(l:List cW):bh prog 151 [.iv (aT 3 l cW.c),.cB (.func 152) [] []] [] (pB (l.any (fun x:cW=>!lc (bW x=0)))) [] 0:=by
 refine ak ab func151 Z (by decide) ntmps151 Z (by simp) ?_;refine gA Z (zq [] (i182 l) ?_);refine gA Z (zD [] Z (zM ⟨.of_eq (oF (iW _ l)),rfl,ac⟩ ac))
def j7(f:Fact):Bool:=gi f.rel&&(lc (f.args.length<=8)&&f.args.all fun v=>lc (bW v=0))
theorem KE(l:List cW):(l.any fun x:cW=>!lc (bW x=0))=!l.all fun v=>lc (bW v=0):=by
 induction l with
 |nil=>rfl
 |cons x r ih=>simp only[aar,List.all_cons,ih];cases lc (bW x=0)<;>rfl
theorem c98(l:List cW):Pure prog 112 [.iv (aT 3 l cW.c)] (pB (l.all fun v=>lc (bW v=0))):=by
 refine ah ab func112 Z (by decide) ntmps112 Z (by simp) Z ?_;refine gA Z (zq [] (d141 l) ?_);refine gA Z (zL (.of_eq ?_));refine(oF ?_:pB _=pB _);rw[KE,Bool.not_not]
theorem c55(f:Fact):Pure prog 115 [ag f.c] (pI (if j7 f then 0 else 20)):=by
 refine ah ab func115 Z (by decide) ntmps115 Z (by simp) Z ?_
 repeat' (first|(refine gA Z (zI (fun _=>?_) (fun _=>?_)))|(refine gA Z (zp (Vu f.rel) ?_))|(refine gA Z (zp (c98 f.args) ?_))|(refine gA Z (zL (.of_eq ?_))))
 all_goals(refine(Hx ?_:pI _=pI _))
 all_goals(simp only[j7];simp_all)
 all_goals omega
section
theorem Rel.DD{M:Mem}{N:Nm}{U:Nat->Prop}{h u:AH}{w:World}(hr:Rel M N U h w)(e: ∀i,AH.get u i=h.get i):Rel M N U u w:=
 ⟨hr.dK,fun i o hi=>hr.used i o (by rw[<-e];exact hi),fun i o hi=>hr.dS i o (by rw[<-e];exact hi),fun i o hi=>hr.obj i o (by rw[<-e];exact hi),fun i j o p hi x=>hr.inj i j o p (by rw[<-e];exact hi) (by rw[<-e];exact x)⟩
theorem Ext.DD{M u:Mem}{N x:Nm}{U y:Nat->Prop}{h0 h A:AH}{w B:World}(j:Ext M N U h0 w u x y h B)(e: ∀i,AH.get A i=h.get i):Ext M N U h0 w u x y A B:=
 ⟨j.os,j.tape,j.output,j.size,j.gK,j.oJ,j.iM,j.nm,j.ule,fun i o hi=>j.gB i o (by rw[<-e];exact hi)⟩
structure WS where
 fr:Bool
 l:List UInt8
 bad:Bool
 br:Int
abbrev WS.rk(w:WS)(i j:Nat):AO:= .cells [.fe w.fr i,.sl j 0 w.l.length 1,pB w.bad,pI w.br] (io 186)
abbrev WS.c(w:WS):AO:=w.rk 0 1
abbrev WS.O(w:WS):List AO:=[w.c,.bz w.l 5]
abbrev WS.H(w:WS):AH:=[(0,io (w.rk 0 2)),(2,io (.bz w.l 5))]
theorem d204(w:WS):bh prog 169 [.ptr 0 0] w.O (.a7 []) [(0,io ({w with fr:=kw}:WS).c),(1,io (.bz w.l 5))] 2:=by
 refine⟨bg func169 Z (by decide),fun M N wd vs hr A hv=>?_⟩;obtain⟨v,rfl⟩: ∃v,vs=[v]:=by
  cases vs with
  |nil=>cases A
  |cons v r=>cases r with
   |nil=>exact⟨v,rfl⟩
   |cons a b=>simp at A
 have Y:VR M N (· <2) (.ptr 0 0) v:=hv 0 _ Z;have a0:v= .pointer (io ⟨N.aA 0,0,is⟩):=by cases Y;rfl
 subst a0;have I:AH.get (cO 0 w.O) 0=io w.c:=rfl;obtain⟨c,T,h1,h2,h3,h4,h5⟩:=hr.obj 0 _ I;have hT:=h5 186 Z;subst hT;have B:c.size=4:=h3.symm;have b0:N.aA 0<wd.heap.size:=(Yh.1 h1).1;have J:c.getD 0 undef= .pointer (bif w.fr then is else io ⟨N.aA 0,0,is⟩):=by
  have:=h4 0 _ Z;generalize c.getD 0 undef=x at this;cases this;rfl
 have u:wd.cell? ⟨N.aA 0,0,is⟩=io (c.getD 0 undef):=by
  rw[Lib.cell_of_heap h1,WZ,XJ (by omega)];rfl
 rw[J]at u;show Calls prog 169 #[_] wd _;cases hfr:w.fr with
 |false=>
  rw[hfr]at u;refine(Oj (N.aA 0) wd u).mono ?_;rintro e w' ⟨rfl,rfl⟩;have hw:({w with fr:=kw}:WS)=w:=by cases w;simp_all
  rw[hw];exact⟨_,M,N,.a7 [],_,2,rfl,⟨rfl,rfl,rfl⟩,.refl _ _ _ _ _,hr,.a7 [] #[] Z (by simp)⟩
 |true=>
  rw[hfr]at u;refine(Kr (N.aA 0) wd u (by simp[World.shape?,h1,B]) (Lib.frozen_of_heap h1 0)).mono ?_;rintro e w' ⟨rfl,rfl⟩;have D:(wd.setCell ⟨N.aA 0,0,is⟩ (.pointer (io ⟨N.aA 0,0,is⟩))).heap[N.aA 0]? =io (.cells (c.setIfInBounds 0 (.pointer (io ⟨N.aA 0,0,is⟩))) 186 (0,0)):=by
   simp[World.setCell,XB,h1]
  obtain⟨g1,g2⟩:=hr.write (i:=0) (o0:=w.c) I Z (wd.setCell ⟨N.aA 0,0,is⟩ (.pointer (io ⟨N.aA 0,0,is⟩))) ({w with fr:=kw}:WS).c Z Z Z (by simp[World.setCell]) (fun b hb=>by
   simp only[World.setCell,XB]
   rw[be (fun e=>hb e.symm)]) ⟨_,186,D,by simpa using h2,by simp[B],fun j p G=>by
    match j,G with
    |0,G=>
     cases G;rw[WZ,XD];simp only[if_true,B];exact .fe kw 0 (by show 0<2;decide)
    |j+1,G=>
     have:=h4 (j+1) p (by exact G);rw[WZ,XD,be (by omega)];rw[WZ]at this
     exact this,h5⟩
  have y: ∀i,AH.get [(0,io ({w with fr:=kw}:WS).c),(1,io (.bz w.l 5))] i=AH.get ((0,io ({w with fr:=kw}:WS).c)::cO 0 w.O) i:=by
   intro i
   match i with
   |0=>rfl
   |1=>rfl
   |i+2=>rfl
  exact⟨_,M,N,.a7 [],_,2,rfl,⟨rfl,rfl,rfl⟩,Ext.DD g1 y,Rel.DD g2 y,.a7 [] #[] Z (by simp)⟩
theorem d150(w:WS):bh prog 125 [.ptr 0 0] w.O (pS ⟨w.l.toArray⟩) [] 2:=by
 refine⟨bg func125 Z (by decide),fun M N wd vs hr D hv=>?_⟩;obtain⟨v,rfl⟩: ∃v,vs=[v]:=by
  cases vs with
  |nil=>cases D
  |cons v r=>cases r with
   |nil=>exact⟨v,rfl⟩
   |cons a b=>simp at D
 have k0:VR M N (· <2) (.ptr 0 0) v:=hv 0 _ Z;have m0:v= .pointer (io ⟨N.aA 0,0,is⟩):=by cases k0;rfl
 subst m0;have j0:AH.get (cO 0 w.O) 0=io w.c:=rfl;have G:AH.get (cO 0 w.O) 1=io (.bz w.l 5):=rfl;obtain⟨c,T,h1,h2,h3,h4,h5⟩:=hr.obj 0 _ j0;have hT:=h5 186 Z;subst hT;have f0:c.size=4:=h3.symm;have c0: ∀(x1:Value),c.getD 1 undef=x1-> ∃p x y,c= #[p,x1,x,y]:=by
  intro x1 A;refine⟨c.getD 0 undef,c.getD 2 undef,c.getD 3 undef,?_⟩;apply Array.ext
  .simpa using f0
  .intro i hi n0
   match i,hi with
   |0,hi=>simp[WZ,hi]
   |1,hi=>rw[<-A];simp[WZ,hi]
   |2,hi=>simp[WZ,hi]
   |3,hi=>simp[WZ,hi]
   |i+4,hi=>omega
 have u:=h4 1 _ Z;have I:=hr.obj 1 _ G;show Calls prog 125 #[_] wd _;by_cases hl:w.l=[]
 .have A:c.getD 1 undef= .slice is 0 0:=by
   generalize c.getD 1 undef=x at u;rw[hl]at u;generalize J:PV.sl 1 0 ([]:List UInt8).length 1=q at u;cases u with
   |sl i off len sz a0 h h0 h1 hc he=>cases J;simp at h0
   |lx i sz h=>rfl
   |_=>cases J
  obtain⟨p,x,y,rfl⟩:=c0 _ A;refine(S1 (N.aA 0) p x y wd h1).mono ?_;rintro e w' ⟨rfl,rfl⟩;refine⟨.string ⟨#[]⟩,M,N,pS ⟨w.l.toArray⟩,[],2,rfl,⟨rfl,rfl,rfl⟩,?_,?_,.iv _ _ (by rw[hl];exact .v _)⟩
  .have:=Ext.drew (M:=M) (N:=N) (U:=(· <w.O.length)) (h:=cO 0 w.O) (w:=wd);exact⟨this.os,this.tape,this.output,this.size,this.gK,this.oJ,this.iM,this.nm,this.ule,fun i o hi=>(nomatch hi)⟩
  .exact⟨hr.drew.dK,fun i o hi=>(nomatch hi),fun i o hi=>(nomatch hi),fun i o hi=>(nomatch hi),fun i j o p hi=>(nomatch hi)⟩
 .have b0:0<w.l.length:=Yi.2 hl;obtain⟨a0,A,Y,g0⟩: ∃a0,c.getD 1 undef= .slice (io ⟨N.aA 1,0,is⟩) w.l.length a0∧w.l.length<=a0∧a0<=maxLen:=by
   generalize c.getD 1 undef=x at u;generalize hn:w.l.length=n at u b0;generalize J:PV.sl 1 0 n 1=q at u;cases u with
   |sl i off len sz a0 h h0 hl hc he=>cases J;exact⟨a0,by simp,hl,hc⟩
   |lx i sz h=>cases J;omega
   |_=>cases J
  rcases I with I|⟨e0,q1,q2,q3,q4⟩
  .exact absurd I hl
  obtain⟨p,x,y,rfl⟩:=c0 _ A;refine(Oo (N.aA 0) (N.aA 1) a0 p x y e0 w.l wd h1 q1 q3 Y g0 q4 hl).mono ?_;rintro e w' ⟨rfl,rfl⟩;have d0:(AO.bz w.l 5).real=jp:=by cases hll:w.l with
   |nil=>exact absurd hll hl
   |cons=>rfl
  have hk: ∀b,b≠N.aA 1->(wd.drew.freeze ⟨N.aA 1,0,is⟩ w.l.length).heap[b]? =wd.heap[b]? :=by
   intro b hb;unfold World.freeze;split
   .rfl
   .show(wd.heap.modify _ _)[b]? =_;simp only[XB];rw[be (fun e=>hb e.symm)]
  have B:(wd.drew.freeze ⟨N.aA 1,0,is⟩ w.l.length).os=wd.os∧(wd.drew.freeze ⟨N.aA 1,0,is⟩ w.l.length).tape=wd.tape∧(wd.drew.freeze ⟨N.aA 1,0,is⟩ w.l.length).output=wd.output∧(wd.drew.freeze ⟨N.aA 1,0,is⟩ w.l.length).heap.size=wd.heap.size:=by
   unfold World.freeze;split
   .exact⟨rfl,rfl,rfl,rfl⟩
   .exact⟨rfl,rfl,rfl,by show(wd.heap.modify _ _).size=_;simp⟩
  refine⟨_,M,N,pS ⟨w.l.toArray⟩,[],2,rfl,⟨rfl,rfl,rfl⟩,?_,?_,.iv _ _ (.v _)⟩
  .exact⟨B.1,B.2.1,⟨B.2.2.1,by unfold World.freeze;split<;>exact Yw _⟩,by rw[B.2.2.2];exact W8 _,fun b hb hn=>hk b fun e=>hn 1 _ G d0 e.symm,.refl _,fun b c h1 h2=>by simp[h1]at h2,.refl _ _,fun _ h=>h,fun i o hi=>(nomatch hi)⟩
  .refine⟨fun b d hb=>?_,fun i o hi=>(nomatch hi),fun i o hi=>(nomatch hi),fun i o hi=>(nomatch hi),fun i j o p hi=>(nomatch hi)⟩;have i0:b≠N.aA 1:=fun e=>by
    have:=hr.dS 1 _ G d0;rw[<-e,hb]at this;cases this
   exact(hr.dK b d hb).mono (hk b i0)
section
variable {nt:NT} {Q:AQ} {k:List KI} {s:AS}
def wS(s:AS)(u:WS)(i j:Nat):AS:=match s with|⟨f,h,n⟩=>⟨f,(i,io (u.rk i n))::(n,io (.bz u.l 5))::(i,is)::(j,is)::h,n+1⟩
theorem Ts(s:AS)(u:WS)(i j:Nat):wS s u i j=⟨s.f,(i,io (u.rk i s.nx))::(s.nx,io (.bz u.l 5))::(i,is)::(j,is)::s.h,s.nx+1⟩:=by cases s;rfl
def Tr(s:AS)(u:WS)(i j m:Nat):AS:=match s with|⟨f,h,n⟩=>⟨f,(i,io (u.rk i n))::(n,io (.bz u.l 5))::(i,is)::(j,is)::(m,is)::h,n+1⟩
theorem QK(s:AS)(u:WS)(i j m:Nat):Tr s u i j m=⟨s.f,(i,io (u.rk i s.nx))::(s.nx,io (.bz u.l 5))::(i,is)::(j,is)::(m,is)::s.h,s.nx+1⟩:=by cases s;rfl
theorem AP{o:Oper}{c:Call}{g:FuncId}{args y:List PV}{w G:WS}{r:PV}{i j:Nat}{s':AS}(hc:bh prog g (.ptr 0 0::args) w.O r G.H 3)(ho:o.op= .call c)(ha:bP s.f c=io (g,.ptr i 0::y))
  (hi:s.h.get i=io (w.rk i j)) (hj:s.h.get j=io (.bz w.l 5)) (hlt:Xx i s.nx=jp) (hlj:Xx j s.nx=jp) (hne:Xv i j=kw) (has:y=args) (hlow:bu 0 args=jp) (hr:r.low 0=jp)
  (hp:putDst nt o r (wS s G i j)=io s'):OT prog nt o s (fun t=>t=s'):=by
 have A:i≠j:=fun e=>by subst e;simp at hne
 have B:([i,j]:List Nat).Nodup:=by simp[A]
 have I: ∀x∈ [i,j],x<s.nx:=by
  intro x D;simp only[Xm,ZT,or_false]at D;rcases D with rfl|rfl
  .exact WY hlt
  .exact WY hlj
 subst has;have u: ∀σ,dh σ y=y:=fun σ=>iQ σ y hlow;refine lM ho ha hc B I ?_ ?_ ?_
 .simp only[W7,Xj,hi,hj];rfl
 .simp only[dh,u];rfl
 .rintro q J n0 ⟨rfl,rfl,rfl⟩;rw[PV.kn _ _ hr];rw[Ts]at hp;exact⟨s',hp,rfl⟩
theorem DY{all rest:List Oper}{o:Oper}{c:Call}{g:FuncId}{args u:List PV}{w x:WS}{r:PV}{i j:Nat}{s':AS}(hc:bh prog g (.ptr 0 0::args) w.O r x.H 3)(ho:o.op= .call c)(hg:o.guard=is)(ha:bP s.f c=io (g,.ptr i 0::u))
  (hi:s.h.get i=io (w.rk i j)) (hj:s.h.get j=io (.bz w.l 5)) (hlt:Xx i s.nx=jp) (hlj:Xx j s.nx=jp) (hne:Xv i j=kw) (has:u=args) (hlow:bu 0 args=jp) (hr:r.low 0=jp)
  (hp:putDst nt o r (wS s x i j)=io s') (h:GO prog nt (.ops all rest::k) Q s'):GO prog nt (.ops all (o::rest)::k) Q s:=
 bB hg (AP hc ho ha hi hj hlt hlj hne has hlow hr hp) fun t ht=>by subst ht;exact h
theorem iX{all rest:List Oper}{o:Oper}{c:Call}{g:FuncId}{args u:List PV}{w x:WS}{r:PV}{i j:Nat}{s':AS}(hc:bh prog g (.ptr 0 0::args) w.O r x.H 3)(h:GO prog nt (.ops all rest::k) Q s')(ho:o.op= .call c:=by exact rfl)(hg:o.guard=is:=by exact rfl)(ha:bP s.f c=io (g,.ptr i 0::u):=by exact rfl)(hi:s.h.get i=io (w.rk i j):=by exact rfl)(hj:s.h.get j=io (.bz w.l 5):=by exact rfl)(hlt:Xx i s.nx=jp:=by exact rfl)(hlj:Xx j s.nx=jp:=by exact rfl)(hne:Xv i j=kw:=by exact rfl)(has:u=args:=by exact rfl)(hlow:bu 0 args=jp:=by exact rfl)(hr:r.low 0=jp:=by exact rfl)(hp:putDst nt o r (wS s x i j)=io s':=by exact rfl):GO prog nt (.ops all (o::rest)::k) Q s:=DY (hc:=hc) (ho:=ho) (hg:=hg) (ha:=ha) (hi:=hi) (hj:=hj) (hlt:=hlt) (hlj:=hlj) (hne:=hne) (has:=has) (hlow:=hlow) (hr:=hr) (hp:=hp) (h:=h)
theorem Em{o:Oper}{c:Call}{g:FuncId}{u:List aq}{w y:WS}{i j m n:Nat}{s':AS}(hc:bh prog g [.ptr 0 0,.sl 2 0 u.length 1] [w.c,.bz w.l 5,aS 1 u dm] (.a7 []) [(0,io (y.rk 0 3)),(3,io (.bz y.l 5))] 4)(ho:o.op= .call c)(ha:bP s.f c=io (g,[.ptr i 0,.sl m 0 n 1]))
  (hi:s.h.get i=io (w.rk i j)) (hj:s.h.get j=io (.bz w.l 5)) (hm:s.h.get m=io (aS 1 u dm)) (hn:n=u.length) (hlt:Xx i s.nx=jp) (hlj:Xx j s.nx=jp) (hlm:Xx m s.nx=jp) (hnd:cI [i,j,m]=jp)
  (hp:putDst nt o (.a7 []) (Tr s y i j m)=io s'):OT prog nt o s (fun t=>t=s'):=by
 have B: ∀x∈ [i,j,m],x<s.nx:=by
  intro x A;simp only[Xm,ZT,or_false]at A;rcases A with rfl|rfl|rfl
  .exact WY hlt
  .exact WY hlj
  .exact WY hlm
 subst hn;refine lM ho ha hc (eV hnd) B ?_ Z ?_
 .simp only[W7,Xj,hi,hj,hm,b7];rfl
 .rintro q D n0 ⟨rfl,rfl,rfl⟩;rw[QK]at hp;exact⟨s',hp,rfl⟩
theorem go_wp{all rest:List Oper}{o:Oper}{c:Call}{g:FuncId}{u:List aq}{w x:WS}{i j m n:Nat}{s':AS}(hc:bh prog g [.ptr 0 0,.sl 2 0 u.length 1] [w.c,.bz w.l 5,aS 1 u dm] (.a7 []) [(0,io (x.rk 0 3)),(3,io (.bz x.l 5))] 4)(ho:o.op= .call c)(hg:o.guard=is)(ha:bP s.f c=io (g,[.ptr i 0,.sl m 0 n 1]))
  (hi:s.h.get i=io (w.rk i j)) (hj:s.h.get j=io (.bz w.l 5)) (hm:s.h.get m=io (aS 1 u dm)) (hn:n=u.length) (hlt:Xx i s.nx=jp) (hlj:Xx j s.nx=jp) (hlm:Xx m s.nx=jp) (hnd:cI [i,j,m]=jp)
  (hp:putDst nt o (.a7 []) (Tr s x i j m)=io s')
  (h:GO prog nt (.ops all rest::k) Q s'):GO prog nt (.ops all (o::rest)::k) Q s:=
 bB hg (Em hc ho ha hi hj hm hn hlt hlj hlm hnd hp) fun t ht=>by subst ht;exact h
theorem jN{all rest:List Oper}{o:Oper}{c:Call}{g:FuncId}{u:List aq}{w x:WS}{i j m n:Nat}{s':AS}(hc:bh prog g [.ptr 0 0,.sl 2 0 u.length 1] [w.c,.bz w.l 5,aS 1 u dm] (.a7 []) [(0,io (x.rk 0 3)),(3,io (.bz x.l 5))] 4)(h:GO prog nt (.ops all rest::k) Q s')(ho:o.op= .call c:=by exact rfl)(hg:o.guard=is:=by exact rfl)(ha:bP s.f c=io (g,[.ptr i 0,.sl m 0 n 1]):=by exact rfl)(hi:s.h.get i=io (w.rk i j):=by exact rfl)(hj:s.h.get j=io (.bz w.l 5):=by exact rfl)(hm:s.h.get m=io (aS 1 u dm):=by exact rfl)(hn:n=u.length:=by exact rfl)(hlt:Xx i s.nx=jp:=by exact rfl)(hlj:Xx j s.nx=jp:=by exact rfl)(hlm:Xx m s.nx=jp:=by exact rfl)(hnd:cI [i,j,m]=jp:=by exact rfl)(hp:putDst nt o (.a7 []) (Tr s x i j m)=io s':=by exact rfl):GO prog nt (.ops all (o::rest)::k) Q s:=go_wp (hc:=hc) (ho:=ho) (hg:=hg) (ha:=ha) (hi:=hi) (hj:=hj) (hm:=hm) (hn:=hn) (hlt:=hlt) (hlj:=hlj) (hlm:=hlm) (hnd:=hnd) (hp:=hp) (h:=h)
theorem Aj{all:List Oper}{todo pend:List (Nat×Oper)}{y:Nat}{D B:Prop}{o:Oper}{c:Call}{g:FuncId}{u:List aq}{w A:WS}{i j m n:Nat}{s':AS}(hc:bh prog g [.ptr 0 0,.sl 2 0 u.length 1] [w.c,.bz w.l 5,aS 1 u dm] (.a7 []) [(0,io (A.rk 0 3)),(3,io (.bz A.l 5))] 4)
  (hrd:dz todo=[(y,o)]) (ho:o.op= .call c) (ha:bP s.f c=io (g,[.ptr i 0,.sl m 0 n 1]))
  (hi:s.h.get i=io (w.rk i j)) (hj:s.h.get j=io (.bz w.l 5)) (hm:s.h.get m=io (aS 1 u dm)) (hn:n=u.length) (hlt:Xx i s.nx=jp) (hlj:Xx j s.nx=jp) (hlm:Xx m s.nx=jp) (hnd:cI [i,j,m]=jp)
  (hp:putDst nt o (.a7 []) (Tr s A i j m)=io s')
  (hg:bR nt all s.f o=io jp) (hpb:gY all pend o=jp) (hE:nR todo [y]=jp)
  (hag:l3 qw nt all s todo pend=io D) (hCA:D) (hag2:c8 qw nt all s' (ba pend o)=io B) (hC2:B)
  (h:GO prog nt (.bS all (todo.filter fun x=>!Xv x.1 y) (ba pend o)::k) Q s'):GO prog nt (.bS all todo pend::k) Q s:=
 ja ab hrd hg hpb hE hag hCA (Em hc ho ha hi hj hm hn hlt hlj hlm hnd hp) hag2 hC2 h
theorem Ve{all:List Oper}{todo pend:List (Nat×Oper)}{u:Nat}{A y:Prop}{o:Oper}{c:Call}{g:FuncId}{args B:List PV}{w D:WS}{r:PV}{i j:Nat}{s':AS}(hc:bh prog g (.ptr 0 0::args) w.O r D.H 3)
  (hrd:dz todo=[(u,o)]) (ho:o.op= .call c) (ha:bP s.f c=io (g,.ptr i 0::B))
  (hi:s.h.get i=io (w.rk i j)) (hj:s.h.get j=io (.bz w.l 5)) (hlt:Xx i s.nx=jp) (hlj:Xx j s.nx=jp) (hne:Xv i j=kw) (has:B=args) (hlow:bu 0 args=jp) (hr:r.low 0=jp)
  (hp:putDst nt o r (wS s D i j)=io s')
  (hg:bR nt all s.f o=io jp) (hpb:gY all pend o=jp) (hE:nR todo [u]=jp)
  (hag:l3 qw nt all s todo pend=io A) (hCA:A) (hag2:c8 qw nt all s' (ba pend o)=io y) (hC2:y)
  (h:GO prog nt (.bS all (todo.filter fun x=>!Xv x.1 u) (ba pend o)::k) Q s'):GO prog nt (.bS all todo pend::k) Q s:=
 ja ab hrd hg hpb hE hag hCA (AP hc ho ha hi hj hlt hlj hne has hlow hr hp) hag2 hC2 h
theorem xv{all:List Oper}{todo pend:List (Nat×Oper)}{u:Nat}{A y:Prop}{o:Oper}{c:Call}{g:FuncId}{args B:List PV}{w D:WS}{r:PV}{i j:Nat}{s':AS}(hc:bh prog g (.ptr 0 0::args) w.O r D.H 3)(h:GO prog nt (.bS all (todo.filter fun x=>!Xv x.1 u) (ba pend o)::k) Q s')(hrd:dz todo=[(u,o)]:=by exact rfl)(ho:o.op= .call c:=by exact rfl)(ha:bP s.f c=io (g,.ptr i 0::B):=by exact rfl)(hi:s.h.get i=io (w.rk i j):=by exact rfl)(hj:s.h.get j=io (.bz w.l 5):=by exact rfl)(hlt:Xx i s.nx=jp:=by exact rfl)(hlj:Xx j s.nx=jp:=by exact rfl)(hne:Xv i j=kw:=by exact rfl)(has:B=args:=by exact rfl)(hlow:bu 0 args=jp:=by exact rfl)(hr:r.low 0=jp:=by exact rfl)(hp:putDst nt o r (wS s D i j)=io s':=by exact rfl)(hg:bR nt all s.f o=io jp:=by exact rfl)(hpb:gY all pend o=jp:=by exact rfl)(hE:nR todo [u]=jp:=by exact rfl)(hag:l3 qw nt all s todo pend=io A:=by exact rfl)(hCA:A:=by(repeat' (first|exact ac|exact rfl|exact ae.refl _|exact ae.bk (by assumption)|apply W0))<;>first|omega|(simp only[W6];omega)|(simp;done)|(simp;omega))(hag2:c8 qw nt all s' (ba pend o)=io y:=by exact rfl)(hC2:y:=by(repeat' (first|exact ac|exact rfl|exact ae.refl _|exact ae.bk (by assumption)|apply W0))<;>first|omega|(simp only[W6];omega)|(simp;done)|(simp;omega)):GO prog nt (.bS all todo pend::k) Q s:=Ve (hc:=hc) (hrd:=hrd) (ho:=ho) (ha:=ha) (hi:=hi) (hj:=hj) (hlt:=hlt) (hlj:=hlj) (hne:=hne) (has:=has) (hlow:=hlow) (hr:=hr) (hp:=hp) (hg:=hg) (hpb:=hpb) (hE:=hE) (hag:=hag) (hCA:=hCA) (hag2:=hag2) (hC2:=hC2) (h:=h)
theorem yJ{l:List ResultVar}{r r0 a b c d:PV}{e:Exit}{u:WS}{j n:Nat}(he:e= .normal∨e= .ret)(hr:jh qw s l=io r0)(hi:s.h.get 0=io (.cells [a,b,c,d] (io 186)))(ha:a= .fe u.fr 0)(hb:b= .sl j 0 n 1)(hn:n=u.l.length)(hc:ae c (pB u.bad))(hd:ae d (pI u.br))
  (hj:s.h.get j=io (.bz u.l 5)) (hlj:Xx j s.nx=jp) (hne:Xv 0 j=kw) (hns:Y4 2 s.nx=jp)
  (hrl:ae r0 r) (hlow:r.low 0=jp) (hlow3:r.low 3=jp):Ei qw l 2 r u.H 3 e s:=by
 subst ha;subst hb;subst hn;refine ar [j] he hr ⟨rfl,WY hns,fun x y=>?_,⟨?_,hlow3,ac⟩,⟨⟨_,hi,.cells ⟨.refl _,.refl _,hc,hd,ac⟩⟩,WY Z,rfl,⟨.bz u.l 5,hj,.of_eq Z⟩,WY Z,ac,ac⟩,?_⟩
 .simp only[Xd]at y;subst y;exact WY hlj
 .rw[PV.kn _ _ hlow];exact hrl
 .have:(0:Nat)≠j:=fun e=>by subst e;simp at hne
  show([0,j]:List Nat).Nodup;simpa using this
theorem jw{l:List ResultVar}{r r0 a b c d:PV}{e:Exit}{u:WS}{j n:Nat}(he:e= .normal∨e= .ret:=by first|exact .inr Z|exact .inl Z)(hr:jh qw s l=io r0:=by exact rfl)(hi:s.h.get 0=io (.cells [a,b,c,d] (io 186)):=by exact rfl)(ha:a= .fe u.fr 0:=by exact rfl)(hb:b= .sl j 0 n 1:=by exact rfl)(hn:n=u.l.length:=by exact rfl)(hc:ae c (pB u.bad):=by first|exact .refl _|exact .kb _)(hd:ae d (pI u.br):=by first|exact .refl _|exact .kb _)(hj:s.h.get j=io (.bz u.l 5):=by exact rfl)(hlj:Xx j s.nx=jp:=by exact rfl)(hne:Xv 0 j=kw:=by exact rfl)(hns:Y4 2 s.nx=jp:=by exact rfl)(hrl:ae r0 r:=by exact .refl _)(hlow:r.low 0=jp:=by exact rfl)(hlow3:r.low 3=jp:=by exact rfl):Ei qw l 2 r u.H 3 e s:=yJ (he:=he) (hr:=hr) (hi:=hi) (ha:=ha) (hb:=hb) (hn:=hn) (hc:=hc) (hd:=hd) (hj:=hj) (hlj:=hlj) (hne:=hne) (hns:=hns) (hrl:=hrl) (hlow:=hlow) (hlow3:=hlow3)
theorem KP{n0 j m:Nat}{D:AF}{w A:WS}{a b c d:PV}(hw:w=A)(hi:s.h.get 0=io (.cells [a,b,c,d] (io 186)))(ha:a= .fe w.fr 0)(hb:b= .sl j 0 m 1)(hm:m=w.l.length)(hc:ae c (pB w.bad))(hd:ae d (pI w.br))(hj:s.h.get j=io (.bz w.l 5))
  (hlj:Xx j s.nx=jp) (hne:Xv 0 j=kw) (h0:Xx 0 n0=jp) (hns:Y4 n0 s.nx=jp) (hf:HC (n0+1) (sg n0 [j]) s.f D):Wk n0 [j] s ⟨D,[(0,io (A.rk 0 n0)),(n0,io (.bz A.l 5))],n0+1⟩:=by
 subst hw;subst ha;subst hb;subst hm;have u:0<n0:=WY h0;have s0:sg n0 [j] 0=0:=gG u;have G:Xx n0 n0=kw:=Bool.eq_false_iff.2 fun e=>absurd (WY e) (by omega);have I:Xx 0 (n0+1)=jp:=X0 (by omega);have J:Xx n0 (n0+1)=jp:=X0 (by omega);have y:sg n0 [j] n0=j:=by simp[sg,G]
 refine⟨rfl,WY hns,fun x B=>?_,hf,⟨⟨_,by rw[s0];exact hi,?_⟩,YF u,?_,⟨.bz w.l 5,by rw[y];exact hj,.of_eq Z⟩,YM _,ac,ac⟩,?_⟩
 .simp only[Xd]at B;subst B;exact WY hlj
 .simp only[AO.b5,dh,PV.b5,s0,y];exact .cells ⟨.refl _,.refl _,hc,hd,ac⟩
 .simp[AO.low,bu,PV.low,I,J]
 .have:(0:Nat)≠j:=fun e=>by subst e;simp at hne
  simp only[fD,s0,y];simpa using this
theorem ru{n0 j m:Nat}{x:AF}{w u:WS}{a b c d:PV}(hw:w=u)(hi:s.h.get 0=io (.cells [a,b,c,d] (io 186)):=by exact rfl)(ha:a= .fe w.fr 0:=by exact rfl)(hb:b= .sl j 0 m 1:=by exact rfl)(hm:m=w.l.length:=by exact rfl)(hc:ae c (pB w.bad):=by first|exact .refl _|exact .kb _)(hd:ae d (pI w.br):=by first|exact .refl _|exact .kb _)(hj:s.h.get j=io (.bz w.l 5):=by exact rfl)(hlj:Xx j s.nx=jp:=by exact rfl)(hne:Xv 0 j=kw:=by exact rfl)(h0:Xx 0 n0=jp:=by exact rfl)(hns:Y4 n0 s.nx=jp:=by exact rfl)(hf:HC (n0+1) (sg n0 [j]) s.f x:=by repeat' (first|exact ac|exact ae.refl _|exact rfl|apply W0)):Wk n0 [j] s ⟨x,[(0,io (u.rk 0 n0)),(n0,io (.bz u.l 5))],n0+1⟩:=KP (hw:=hw) (hi:=hi) (ha:=ha) (hb:=hb) (hm:=hm) (hc:=hc) (hd:=hd) (hj:=hj) (hlj:=hlj) (hne:=hne) (h0:=h0) (hns:=hns) (hf:=hf)
end
end
def BB(w:WS)(s:aq):WS:=⟨kw,w.l++s.data.toList,w.bad,w.br⟩
theorem d183(w:WS)(s:aq)(hb:w.l.length+s.size<=140737488355328):bh prog 122 [.ptr 0 0,pS s] w.O (.a7 [pI s.size,.iv (.v .nilIface)]) (BB w s).H 3:=by
 refine ak ab func122 Z (by decide) ntmps122 Z (by simp) ?_;refine gA Z (zq [0,1] (d204 w) ?_);refine gA Z ?_;refine NG ab Z Z Z Z Z Z Z Z Z Z Z Z Z Z Z Z hb ?_;refine gA Z jw
def aX(w:WS)(b:Bool):WS:=⟨w.fr,w.l,w.bad||!b,w.br⟩
theorem Nn(w:WS){b:Bool}(h:(!b)=kw):aX w b=w:=by cases w;simp_all [aX]
theorem No(w:WS){b:Bool}(h:(!b)=jp):aX w b=⟨w.fr,w.l,jp,w.br⟩:=by cases w;simp_all [aX]
theorem d146(w:WS)(b:Bool):bh prog 120 [.ptr 0 0,pB b] w.O (.a7 []) (aX w b).H 3:=by
 refine ak ab func120 Z (by decide) ntmps120 Z (by simp) ?_;refine zJ Z Z (fun h=>?_) fun h=>?_
 .rw[No w h];refine gA Z jw
 .rw[Nn w h];refine gA Z jw
def aW(w:WS)(j:List aq):WS:=j.foldl BB w
def eQ(j:List aq):Nat:=(j.map aam).sum
theorem II(w:WS)(s:aq):(BB w s).l.length=w.l.length+s.size:=by simp[BB]
theorem gX: ∀(j:List aq) (w:WS),(aW w j).l.length=w.l.length+eQ j
 | [],w=>by simp[aW,eQ]
 |s::r,w=>by
  have:=gX r (BB w s);simp only[aW,X8]at this ⊢;rw[this,II];simp[eQ];omega
theorem vn: ∀(j:List aq) (i:Nat),i<j.length->eQ (j.take i)+(j.getD i co).size<=eQ j
 | [],i,h=>by simp at h
 |s::r,0,_=>by simp[eQ]
 |s::r,i+1,h=>by
  have:=vn r i (by simpa using h);simp[eQ]at this ⊢;omega
theorem d147(w:WS)(j:List aq)(hl:j.length<=1000)(hb:w.l.length+eQ j<=140737488355328):bh prog 92 [.ptr 0 0,.sl 2 0 j.length 1] [w.c,.bz w.l 5,aS 1 j dm] (.a7 []) [(0,io ((aW w j).rk 0 3)),(3,io (.bz (aW w j).l 5))] 4:=by
 refine ak ab func92 Z (by decide) ntmps92 Z (by simp) ?_;refine gA Z ?_;refine iY 2 (fun k=>dm (j.getD k co)) Z (cG Z) (by simp[AF.kK,PV.aZ,mT]) ⟨(by simp[AO.kK,aY,PV.aZ]),ac,de _ _ _ _ _ _,ac⟩ ?_;refine aN 0 j.length (Xc _) (fun i=>⟨[(0,.ptr 0 0),(6,.iv (strs j)),(7,pI j.length),(8,pI i)],[(0,io ((aW w (j.take i)).rk 0 3)),(3,io (.bz (aW w (j.take i)).l 5))],4⟩) (fun _=>True) [1] ac
  (zM (bi ⟨.bI Z (fun k _=>by rw[Xo]),rfl,bi (bi trivial)⟩) ⟨⟨_,rfl,.of_eq Z⟩,WY Z,rfl,⟨_,rfl,.of_eq Z⟩,WY Z,ac,ac⟩) fun i hi _=>?_
 refine zJ Z Z (fun h1=>?_) fun h1=>?_
 .have h1:i<j.length:=zN h1;have hs:aW w (j.take (i+1))=BB (aW w (j.take i)) (j.getD i co):=iG (g:=BB) (b:=w) h1;have u:=gX (j.take i) w;have x:=vn j i h1;refine gA Z (iX (d183 (aW w (j.take i)) (j.getD i co) (by omega)) ?_);refine gA Z ⟨h1,ac,[4],zW ⟨⟨_,rfl,.of_eq (by rw[hs];rfl)⟩,WY Z,rfl,⟨_,rfl,.of_eq (by rw[hs];rfl)⟩,WY Z,ac,ac⟩⟩
 .have h1:j.length<=i:=zG h1;rw[Xh h1];refine gA Z (zD [3] Z (zW ⟨⟨_,rfl,.of_eq Z⟩,WY Z,rfl,⟨_,rfl,.of_eq Z⟩,WY Z,ac,ac⟩))
end Go.Proofs.YtlmhfgbkchnfbaaGreatDoor
namespace Go.Proofs
open Go.Shelf
def Tryz.Ae:Go.Shelf.Ren:=⟨fun|171=>260|243=>267|246=>268|283=>269|284=>270|285=>271|286=>272|129=>147|317=>273|318=>274|319=>275|320=>276|337=>277|338=>278|n=>n,fun|3=>3|9=>9|2=>2|4=>4|171=>363|0=>0|53=>104|37=>38|5=>5|173=>365|212=>368|51=>83|20=>20|213=>369|46=>140|232=>370|233=>371|n=>n,fun|17=>1|18=>2|19=>3|n=>n⟩
theorem Tryz.Je:Go.Proofs.LaysM.n171 Tryz.prog Tryz.Ae:={
 mixed:=by kernel_rfl
 f129:=Tryz.func147.trans (congrArg io (by kernel_rfl))
 f171:=Tryz.func260.trans (congrArg io (by kernel_rfl))
 f243:=Tryz.func267.trans (congrArg io (by kernel_rfl))
 f246:=Tryz.func268.trans (congrArg io (by kernel_rfl))
 f283:=Tryz.func269.trans (congrArg io (by kernel_rfl))
 f284:=Tryz.func270.trans (congrArg io (by kernel_rfl))
 f285:=Tryz.func271.trans (congrArg io (by kernel_rfl))
 f286:=Tryz.func272.trans (congrArg io (by kernel_rfl))
 f317:=Tryz.func273.trans (congrArg io (by kernel_rfl))
 f318:=Tryz.func274.trans (congrArg io (by kernel_rfl))
 f319:=Tryz.func275.trans (congrArg io (by kernel_rfl))
 f320:=Tryz.func276.trans (congrArg io (by kernel_rfl))
 f337:=Tryz.func277.trans (congrArg io (by kernel_rfl))
 f338:=Tryz.func278.trans (congrArg io (by kernel_rfl))
 t0:=Tryz.underlying0
 a0:=Tryz.isAgg0
 z0:=Tryz.sizeOf0
 v0:=Tryz.zeroValue0
 t2:=Tryz.underlying2
 a2:=Tryz.isAgg2
 z2:=Tryz.sizeOf2
 v2:=Tryz.zeroValue2
 t3:=Tryz.underlying3
 a3:=Tryz.isAgg3
 z3:=Tryz.sizeOf3
 v3:=Tryz.zeroValue3
 t4:=Tryz.underlying4
 a4:=Tryz.isAgg4
 z4:=Tryz.sizeOf4
 v4:=Tryz.zeroValue4
 t5:=Tryz.underlying5
 a5:=Tryz.isAgg5
 z5:=Tryz.sizeOf5
 v5:=Tryz.zeroValue5
 t9:=Tryz.underlying9
 a9:=Tryz.isAgg9
 z9:=Tryz.sizeOf9
 v9:=Tryz.zeroValue9
 t20:=Tryz.underlying20
 a20:=Tryz.isAgg20
 z20:=Tryz.sizeOf20
 v20:=Tryz.zeroValue20
 t37:=Tryz.underlying38
 a37:=Tryz.isAgg38
 z37:=Tryz.sizeOf38
 v37:=Tryz.zeroValue38
 t46:=Tryz.underlying140
 a46:=Tryz.isAgg140
 z46:=Tryz.sizeOf140
 v46:=Tryz.zeroValue140
 t51:=Tryz.underlying83
 a51:=Tryz.isAgg83
 z51:=Tryz.sizeOf83
 v51:=Tryz.zeroValue83
 t53:=Tryz.underlying104
 a53:=Tryz.isAgg104
 z53:=Tryz.sizeOf104
 v53:=Tryz.zeroValue104
 t171:=Tryz.underlying363
 a171:=Tryz.isAgg363
 z171:=Tryz.sizeOf363
 v171:=Tryz.zeroValue363
 t173:=Tryz.underlying365
 a173:=Tryz.isAgg365
 z173:=Tryz.sizeOf365
 v173:=Tryz.zeroValue365
 t212:=Tryz.underlying368
 a212:=Tryz.isAgg368
 z212:=Tryz.sizeOf368
 v212:=Tryz.zeroValue368
 t213:=Tryz.underlying369
 a213:=Tryz.isAgg369
 z213:=Tryz.sizeOf369
 t232:=Tryz.underlying370
 a232:=Tryz.isAgg370
 z232:=Tryz.sizeOf370
 v232:=Tryz.zeroValue370
 t233:=Tryz.underlying371
 a233:=Tryz.isAgg371
 z233:=Tryz.sizeOf371
 v233:=Tryz.zeroValue371
 g17:=by kernel_rfl
 g18:=by kernel_rfl
 g19:=by kernel_rfl
 i0:=by kernel_rfl
 i2:=by kernel_rfl
 i3:=by kernel_rfl
 i4:=by kernel_rfl
 i5:=by kernel_rfl
 i9:=by kernel_rfl
 i20:=by kernel_rfl
 i37:=by kernel_rfl
 i46:=by kernel_rfl
 i51:=by kernel_rfl
 i53:=by kernel_rfl
 i171:=by kernel_rfl
 i173:=by kernel_rfl
 i212:=by kernel_rfl
 i232:=by kernel_rfl
 i233:=by kernel_rfl
 m17:=by kernel_rfl
 m18:=by kernel_rfl
 m19:=by kernel_rfl}
theorem YtlmhfgbkchnfbaaGreatDoor.U7 (n:Int) (h0: -9223372036854775808<=n) (h1:n<=9223372036854775807) (w:World) (j:Lib.TabIs Tryz.prog w "internal/strconv.uint64pow10" .u64 Lib.pow10Tab):
  Calls Tryz.prog 260 #[.int .i64 n] w fun e u=>e= .returned (.string ⟨(Lib.itoa n).toArray⟩)∧ ∃k os,u=Go.Sort.grow (w.drewN k) os:=Any.strconv_Itoa Tryz.Je n h0 h1 w j
end Go.Proofs
namespace Go.Proofs.YtlmhfgbkchnfbaaGreatDoor
open Go Go.Al Go.Proofs.Tryz
theorem Wi:prog.globalNamed "internal/strconv.uint64pow10" =io 1:=by kernel_rfl
theorem pow_eq:qP=Lib.pow10Tab:=by decide
theorem VY{M:Mem}{N:Nm}{U:Nat->Prop}{h:AH}{w:World}(hr:Rel M N U h w):Lib.TabIs prog w "internal/strconv.uint64pow10" .u64 Lib.pow10Tab:=by
 obtain⟨T,j,h1⟩:=hr.dK 1 _ (M.NQ 1 _ Z);show World.var? _ _ _=_;simp only[World.var?,Wi,Zn,h1,pow_eq]
theorem Wy(n:Int)(h0: -9223372036854775808<=n)(h1:n<=9223372036854775807):Pure prog 260 [pI n] (pS ⟨(Lib.itoa n).toArray⟩):=by
 refine⟨bg func260 Z (by decide),fun M N w vs hr u B=>?_⟩;obtain⟨v,rfl⟩: ∃v,vs=[v]:=by
  cases vs with
  |nil=>cases u
  |cons v r=>cases r with
   |nil=>exact⟨v,rfl⟩
   |cons a b=>simp at u
 have x:VR M N (· <0) (pI n) v:=B 0 _ Z;have y:v= .int .i64 n:=by
  cases x with
  |iv _ _ h=>cases h;rfl
 subst y;refine(U7 n h0 h1 w (VY hr)).mono ?_;rintro e D ⟨rfl,k,os,rfl⟩;have hk: ∀b,b<w.heap.size->(Go.Sort.grow (w.drewN k) os).heap[b]? =w.heap[b]? :=fun b hb=>by
  show(w.heap++os)[b]? =_;rw[XF hb]
 refine⟨_,M,N,pS ⟨(Lib.itoa n).toArray⟩,[],0,rfl,⟨rfl,rfl,rfl⟩,⟨rfl,rfl,⟨rfl,ZS _ _⟩,?_,fun b hb _=>hk b hb,.refl _,fun b c h1 A=>(nomatch (h1.symm.trans A)),.refl _ _,fun _ h=>h,fun i o hi=>(nomatch hi)⟩,⟨fun b c hb=>?_,fun i o hi=>(nomatch hi),fun i o hi=>(nomatch hi),fun i o hi=>(nomatch hi),fun i j o p hi=>(nomatch hi)⟩,.iv _ _ (.v _)⟩
 .show w.heap.size<=(w.heap++os).size;simp
 .exact(hr.dK b c hb).mono (hk b (hr.dK b c hb).lt)
def Wh:aq:=⟨#[48,49,50,51,52,53,54,55,56,57,65,66,67,68,69,70]⟩
def Tk(c:UInt8):Int:=(c.toNat:Int).fdiv (2 ^ min (Zt 4) IntKind.u8.bits)
def Th(c:UInt8):Int:=IntKind.u8.wrap ((BitVec.ofInt IntKind.u8.bits (c.toNat:Int)&&&BitVec.ofInt IntKind.u8.bits 15).toNat:Int)
theorem SA(c:UInt8):0<=Tk c∧Tk c<16:=by
 have h:c.toNat<256:=c.toNat_lt;have e:Tk c=(c.toNat:Int)/16:=by
  unfold Tk;have:(2:Int) ^ min (Zt 4) IntKind.u8.bits=16:=by decide
  rw[this];exact Yp _ (by decide)
 rw[e];omega
theorem Sv: ∀c:UInt8,0<=Th c∧Th c<16:=by
 intro c;have h: ∀n:Fin 256,0<=Th (UInt8.ofNat n.val)∧Th (UInt8.ofNat n.val)<16:=by decide
 have:=h ⟨c.toNat,c.toNat_lt⟩;simpa using this
def Va(n:Int):UInt8:=Wh.data.toList.getD n.toNat 0
def qB(c:UInt8):List UInt8:=if c.toNat=34∨c.toNat=92 then[92,c] else if c.toNat=10 then[92,110] else if c.toNat<32∨126<c.toNat then[92,120,Va (Tk c),Va (Th c)] else[c]
theorem Se(c:UInt8):(qB c).length<=4:=by
 unfold qB
 repeat' split
 all_goals simp
def s6(s:aq)(i:Nat):List UInt8:=34::(s.data.toList.take i).flatMap qB
def sZ(s:aq):aq:=⟨(34::s.data.toList.flatMap qB++ [34]).toArray⟩
theorem vK(s:aq): ∀i,(s6 s i).length<=1+4*i
 |0=>by simp[s6]
 |i+1=>by
  have h:=vK s i;rcases XZ i s.data.toList.length with hi|hi
  .have:=Se (s.data.toList.getD i co);simp only[s6,Xy]at h ⊢;rw[bD hi,W1];omega
  .simp only[s6,Xh hi]at h;simp only[s6,Xh (by omega:s.data.toList.length<=i+1)];omega
theorem GD{s:aq}{i:Nat}(h:i<s.data.toList.length):s6 s (i+1)=s6 s i++qB (s.data.toList.getD i co):=by
 simp only[s6,bD h,Xp]
theorem Wx(s:aq)(hs:s.size<=1000):Pure prog 261 [pS s] (pS (sZ s)):=by
 have hl:s.data.toList.length=s.size:=by simp
 refine ah ab func261 Z (by decide) ntmps261 Z (by simp) Z ?_;refine gA Z ?_;refine pC ab Z Z Z Z Z Z Z Z Z Z Z (by omega) ?_;refine gA Z ?_;refine aN 0 s.data.toList.length (Xc _) (fun i=>⟨[(3,.sl 1 0 (s6 s i).length 1),(8,.iv (.bI 1 s.data.toList.length fun k=>aH (s.data.toList.getD k co))),(9,pI s.data.toList.length),(10,pI i)],[(1,io (aS 1 (s6 s i) aH))],2⟩) (fun _=>True) [0] ac
  (zW (zS trivial)) fun i hi _=>?_
 have Y:=vK s i;refine zE Z Z (fun h1=>?_) fun h1=>?_
 .have h1:s.data.toList.length<=i:=zG h1;refine gA Z ?_;refine NP ab (s6 s i++ [34]) Z Z Z Z Z Z Z Z Z Z Z Z (by rw[Xg];rfl) (by rw[W1];rfl) ?_;refine gA Z (zL (.of_eq ?_));simp only[s6,sZ,Xh h1];rfl
 have h1:i<s.data.toList.length:=zN h1;have j:=GD h1;have u:s.data.toList.getD (i:Int).toNat co=s.data.toList.getD i co:=rfl;generalize J:s.data.toList.getD i co=c at j u;refine zJ Z Z (fun B=>?_) fun B=>?_
 .have B:c.toNat=34:=by have:=zT B;rw[u]at this;omega
  rw[qB,am (.inl B)]at j;refine gA Z ⟨h1,ac,[3],zM ⟨.row (by rw[j,W1];rfl),rfl,bi (bi (bi ac))⟩ (hR Z (by rw[j,Xg,<-J];rfl) Z ac)⟩
 have B: ¬c.toNat=34:=by have:=zF B;rw[u]at this;omega
 refine zJ Z Z (fun D=>?_) fun D=>?_
 .have D:c.toNat=92:=by have:=zT D;rw[u]at this;omega
  rw[qB,am (.inr D)]at j;refine gA Z ⟨h1,ac,[3],zM ⟨.row (by rw[j,W1];rfl),rfl,bi (bi (bi ac))⟩ (hR Z (by rw[j,Xg,<-J];rfl) Z ac)⟩
 have D: ¬c.toNat=92:=by have:=zF D;rw[u]at this;omega
 rw[qB,be (by omega)]at j;refine zJ Z Z (fun A=>?_) fun A=>?_
 .have A:c.toNat=10:=by have:=zT A;rw[u]at this;omega
  rw[am A]at j;refine gA Z ⟨h1,ac,[3],zM ⟨.row (by rw[j,W1];rfl),rfl,bi (bi (bi ac))⟩ (hR Z (by rw[j,Xg];rfl) Z ac)⟩
 have A: ¬c.toNat=10:=by have:=zF A;rw[u]at this;omega
 rw[be A]at j;have x:=SA c;have y:=Sv c;rw[<-J]at x y;simp only[Tk,Th]at x y;refine zJ Z Z (fun G=>?_) fun G=>?_
 .have G:c.toNat<32:=by have:=zT G;rw[u]at this;omega
  rw[am (.inl G)]at j;refine gl Z (by(repeat' (first|exact ac|exact rfl|exact ae.refl _|exact x|exact y|apply W0))<;>first|omega|exact x.1|exact x.2|exact y.1|exact y.2|simp) ?_;exact⟨h1,ac,[3],zM ⟨.row (by rw[j,W1];rfl),rfl,bi (bi (bi ac))⟩ (hR Z (by rw[j,Xg,<-J];rfl) Z ac)⟩
 have G: ¬c.toNat<32:=by have:=zF G;rw[u]at this;omega
 refine zJ Z Z (fun I=>?_) fun I=>?_
 .have I:126<c.toNat:=by have:=zT I;rw[u]at this;omega
  rw[am (.inr I)]at j;refine gl Z (by(repeat' (first|exact ac|exact rfl|exact ae.refl _|exact x|exact y|apply W0))<;>first|omega|exact x.1|exact x.2|exact y.1|exact y.2|simp) ?_;exact⟨h1,ac,[3],zM ⟨.row (by rw[j,W1];rfl),rfl,bi (bi (bi ac))⟩ (hR Z (by rw[j,Xg,<-J];rfl) Z ac)⟩
 have I: ¬126<c.toNat:=by have:=zF I;rw[u]at this;omega
 rw[be (by omega)]at j;refine gA Z ⟨h1,ac,[3],zM ⟨.row (by rw[j,W1];rfl),rfl,bi (bi (bi ac))⟩ (hR Z (by rw[j,Xg,<-J];rfl) Z ac)⟩
def xL(v:cW):aq:=if v.kind=1 then⟨(Lib.itoa v.num).toArray⟩ else if gi v.sym then v.sym else sZ v.sym
theorem qv{v:cW}(h:bW v=0)(h1:v.kind=1): -2147483647<=v.num∧v.num<=2147483647:=by
 unfold bW at h;rw[am h1]at h;split at h
 .rename_i j;exact j.2
 .cases h
theorem mW{v:cW}(h:bW v=0)(h1: ¬v.kind=1):v.sym.size<=64:=by
 unfold bW at h;rw[be h1]at h;split at h
 .split at h
  .rename_i j;exact j.2
  .cases h
 .cases h
theorem Wz(v:cW)(u:bW v=0):Pure prog 243 [ag v.c] (pS (xL v)):=by
 refine ah ab func243 Z (by decide) ntmps243 Z (by simp) Z ?_;refine zJ Z Z (fun h1=>?_) fun h1=>?_
 .have h1:v.kind=1:=by simpa using h1
  have:=qv u h1;refine gA Z (zp (Wy v.num (by omega) (by omega)) ?_);refine gA Z (zL (.of_eq ?_));rw[xL,am h1];rfl
 have h1: ¬v.kind=1:=by simpa using h1
 have hs:=mW u h1;refine gA Z (zp (Vu v.sym) ?_);refine zJ Z Z (fun j=>?_) fun j=>?_
 .have j:gi v.sym=jp:=j;refine gA Z (zL (.of_eq ?_));rw[xL,be h1,am j];rfl
 .have j:gi v.sym=kw:=j;refine gA Z (zp (Wx v.sym (by omega)) ?_);refine gA Z (zL (.of_eq ?_));rw[xL,be h1,be (by rw[j];simp)];rfl
def tE(v:cW):aq:=if bW v=0 then xL v else⟨#[]⟩
theorem WC(v:cW):Pure prog 210 [ag v.c] (.a7 [pS (tE v),pI (bW v)]):=by
 refine ah ab func210 Z (by decide) ntmps210 Z (by simp) Z ?_;refine gA Z (zp (Vv v) ?_);refine zJ Z Z (fun h1=>?_) fun h1=>?_
 .have h1: ¬bW v=0:=by simpa using h1
  refine gA Z (zL (.of_eq ?_));rw[tE,be h1];rfl
 .have h1:bW v=0:=by simpa using h1
  refine gA Z (zp (Wz v h1) ?_);refine gA Z (zL (.of_eq ?_));rw[tE,am h1,h1];rfl
def ov(w:WS)(v:cW):WS:=aW (aX w (lc (bW v=0))) [tE v]
theorem d149(w:WS)(v:cW)(hb:w.l.length<=1000000000000)(ht:(tE v).size<=1000):bh prog 171 [.ptr 0 0,ag v.c] w.O (.a7 []) (ov w v).H 3:=by
 refine ak ab func171 Z (by decide) ntmps171 Z (by simp) ?_;refine gA Z (zp (WC v) ?_);refine gA Z (DY (d146 ⟨_,_,_,_⟩ (lc (bW v=0))) Z Z Z Z Z Z Z Z Z Z Z Z ?_);refine gA Z (go_wp (d147 ⟨_,_,_,_⟩ [tE v] (by simp) (by simp[eQ,aX];omega)) Z Z Z Z Z Z Z Z Z Z Z Z ?_);refine gA Z jw
def cN(op:Int):Int:=if op=1∨op=2 then 1 else if op=3∨op=4∨op=5 then 2 else if op=6 then 3 else 0
theorem Ol(op:Int):Pure prog 245 [pI op] (pI (cN op)):=by
 refine ah ab func245 Z (by decide) ntmps245 Z (by simp) Z ?_
 repeat' (first|(refine gA Z (zI (fun _=>?_) (fun _=>?_)))|(refine gA Z (zL (.of_eq ?_))))
 all_goals(refine(Hx ?_:pI _=pI _);simp only[Zs,ZZ,decide_eq_true_eq,decide_eq_false_iff_not] at*;simp_all [cN])
def eC(e:Expr):Int:=if e.kind=4 then cN e.op else 4
theorem Hl(e:Expr):Pure prog 263 [ag e.c] (pI (eC e)):=by
 refine ah ab func263 Z (by decide) ntmps263 Z (by simp) Z ?_
 repeat' (first|(refine gA Z (zI (fun _=>?_) (fun _=>?_)))|(refine gA Z (zp (Ol e.op) ?_))|(refine gA Z (zL (.of_eq ?_))))
 all_goals(refine(Hx ?_:pI _=pI _);simp_all [eC])
def eE(v:cW):Bool:=lc (v.kind=0)&&(lc (v.num=0)&&(lc (v.sym=Xb)&&jp))
def ku(e:Expr):Bool:=lc (e.kind=0)&&(lc (e.var=⟨#[]⟩)&&(eE e.val&&(lc (e.op=0)&&lc ((e.args.length:Int)=0))))
theorem Om(e:Expr):Pure prog 244 [ag e.c] (pB (ku e)):=by
 refine ah ab func244 Z (by decide) ntmps244 Z (by simp) Z ?_
 repeat' (first|(refine gA Z (zI (fun _=>?_) (fun _=>?_)))|(refine gA Z (zL (.of_eq ?_))))
 all_goals(refine(oF ?_:pB _=pB _))
 all_goals(simp only[ku,eE, *];rfl)
def lU(l:Lit):Bool:=
 (lc (l.kind=1)||decide (l.kind=2)||!(!lc (l.atom.rel=⟨#[]⟩)||decide ((l.atom.an.length:Int)>0)))&&
 ((!(!lc (l.kind=3))||!(!lc (l.op=0)||(!ku l.left||!ku l.right)))&&
 (lc (l.kind=4)||(lc (l.dZ=0)&&(lc (l.bJ=⟨#[]⟩)&&(ku l.ky&&lc ((l.az.length:Int)=0))))))
set_option maxHeartbeats 4000000 in
theorem WB(l:Lit):Pure prog 211 [ag l.c] (pB (lU l)):=by
 refine ah ab func211 Z (by decide) ntmps211 Z (by simp) Z ?_
 repeat' (first|(refine gA Z (zI (fun _=>?_) (fun _=>?_)))|(refine gA Z (zp (Om l.left) ?_))|(refine gA Z (zp (Om l.right) ?_))|(refine gA Z (zp (Om l.ky) ?_))|(refine gA Z (zL (.of_eq ?_))))
 all_goals(refine(oF ?_:pB _=pB _))
 all_goals(try simp only[Zs,ZZ] at*)
 all_goals(simp_all [lU])
def nZ(op:Int):aq:=if op=1 then⟨#[43]⟩ else if op=2 then⟨#[45]⟩ else if op=3 then⟨#[42]⟩ else if op=4 then⟨#[47]⟩ else⟨#[109,111,100]⟩
def sgL:aq:=⟨#[43,45,42,47]⟩
theorem Ww(op:Int):Pure prog 264 [pI op] (pS (nZ op)):=by
 refine ah ab func264 Z (by decide) ntmps264 Z (by simp) Z ?_;refine gA Z ?_;refine yz ab Z Z Z Z Z Z Z ?_;refine gA Z ?_;refine aN 0 4 (by decide) (fun i=>⟨[(0,pI op),(5,.ptr 0 0)],[(0,io (.eG sgL i))],1⟩) (fun i=> ∀k:Nat,k<i-> ¬(k:Int)+1=op) [] (by simp)
  (zW ⟨⟨_,rfl,.of_eq Z⟩,WY Z,ac,ac⟩) fun i hi j=>?_
 have x:i=0∨i=1∨i=2∨i=3∨i=4:=by omega
 rcases x with rfl|rfl|rfl|rfl|rfl
 .refine gA Z ?_;refine mE Z Z Z Z Z Z (fun h=>absurd h (by decide)) (fun _=>?_);refine zJ Z Z (fun h=>?_) fun h=>?_
  .have h:op=1:=by have:=zT h;omega
   refine gA Z ?_;refine uT ab Z Z Z Z Z Z Z Z Z ?_;refine gA Z (zL (.of_eq ?_));refine(congrArg pS ?_:pS _=pS _);subst h;decide
  .have h: ¬op=1:=by have:=zF h;omega
   refine gA Z ⟨by decide,fun k hk=>(by rcases(by omega:k<0∨k=0) with u|rfl;exact j k u;omega),[],zW ⟨⟨_,rfl,.of_eq Z⟩,WY Z,ac,ac⟩⟩
 .refine gA Z ?_;refine mE Z Z Z Z Z Z (fun h=>absurd h (by decide)) (fun _=>?_);refine zJ Z Z (fun h=>?_) fun h=>?_
  .have h:op=2:=by have:=zT h;omega
   refine gA Z ?_;refine uT ab Z Z Z Z Z Z Z Z Z ?_;refine gA Z (zL (.of_eq ?_));refine(congrArg pS ?_:pS _=pS _);subst h;decide
  .have h: ¬op=2:=by have:=zF h;omega
   refine gA Z ⟨by decide,fun k hk=>(by rcases(by omega:k<1∨k=1) with u|rfl;exact j k u;omega),[],zW ⟨⟨_,rfl,.of_eq Z⟩,WY Z,ac,ac⟩⟩
 .refine gA Z ?_;refine mE Z Z Z Z Z Z (fun h=>absurd h (by decide)) (fun _=>?_);refine zJ Z Z (fun h=>?_) fun h=>?_
  .have h:op=3:=by have:=zT h;omega
   refine gA Z ?_;refine uT ab Z Z Z Z Z Z Z Z Z ?_;refine gA Z (zL (.of_eq ?_));refine(congrArg pS ?_:pS _=pS _);subst h;decide
  .have h: ¬op=3:=by have:=zF h;omega
   refine gA Z ⟨by decide,fun k hk=>(by rcases(by omega:k<2∨k=2) with u|rfl;exact j k u;omega),[],zW ⟨⟨_,rfl,.of_eq Z⟩,WY Z,ac,ac⟩⟩
 .refine gA Z ?_;refine mE Z Z Z Z Z Z (fun h=>absurd h (by decide)) (fun _=>?_);refine zJ Z Z (fun h=>?_) fun h=>?_
  .have h:op=4:=by have:=zT h;omega
   refine gA Z ?_;refine uT ab Z Z Z Z Z Z Z Z Z ?_;refine gA Z (zL (.of_eq ?_));refine(congrArg pS ?_:pS _=pS _);subst h;decide
  .have h: ¬op=4:=by have:=zF h;omega
   refine gA Z ⟨by decide,fun k hk=>(by rcases(by omega:k<3∨k=3) with u|rfl;exact j k u;omega),[],zW ⟨⟨_,rfl,.of_eq Z⟩,WY Z,ac,ac⟩⟩
 .refine gA Z ?_;refine mE Z Z Z Z Z Z (fun _=>?_) (fun h=>absurd h (by decide));refine gA Z (zL (.of_eq ?_));have h1:=j 0 (by decide);have y:=j 1 (by decide);have A:=j 2 (by decide);have B:=j 3 (by decide);rw[nZ,be (by omega),be (by omega),be (by omega),be (by omega)];rfl
theorem DA(s:aq):(sZ s).size<=2+4*s.size:=by
 have h:=vK s s.data.toList.length;simp only[s6,Yk,Xy]at h;have e:(sZ s).size=(34::s.data.toList.flatMap qB++ [34]).length:=by simp[sZ,aam]
 have:s.data.toList.length=s.size:=by simp
 rw[e,W1,Xy,Xu];omega
theorem sK(v:cW):(tE v).size<=300:=by
 unfold tE;split
 .rename_i j;unfold xL;split
  .rename_i h1;have:=qv j h1;have u:=Lib.itoa_length_le v.num (by omega) (by omega);have e:(⟨(Lib.itoa v.num).toArray⟩:ByteArray).size=(Lib.itoa v.num).length:=by simp[aam]
   omega
  .rename_i h1;have u:=mW j h1;split
   .omega
   .have:=DA v.sym;omega
 .decide
mutual
def Expr.ts:Expr->Nat
 | .mk _ v _ _ args=>v.size+400+Expr.lk args
def Expr.lk:List Expr->Nat
 | []=>0
 |e::r=>e.ts+Expr.lk r
end
theorem Expr.tD(e:Expr):e.ts=e.var.size+400+Expr.lk e.args:=by cases e;rfl
theorem Expr.y9: ∀(l:List Expr) (k:Nat),k<l.length->(l.getD k co).ts<=Expr.lk l
 |e::r,0,_=>by simp[Expr.lk]
 |e::r,k+1,h=>by
  have:=Expr.y9 r k (by simpa using h);simp only[Yt,Expr.lk];omega
 | [],k,h=>by simp at h
theorem Expr.Ew: ∀(l:List Expr),l.length=2->(l.getD 0 co).ts+(l.getD 1 co).ts<=Expr.lk l
 | [a,b],_=>by simp[Expr.lk]
 | [],h=>by simp at h
 | [a],h=>by simp at h
 |a::b::c::r,h=>by simp at h
def sM:aq:=⟨#[45]⟩
def sO:aq:=⟨#[40]⟩
def sC:aq:=⟨#[41]⟩
def EF:aq:=⟨#[32]⟩
def oj(w:WS):WS:=⟨w.fr,w.l,jp,w.br⟩
def qh(e:Expr):Bool:=gu e.var&&(eE e.val&&(lc (e.op=0)&&lc ((e.args.length:Int)=0)))
def rM(e:Expr):Bool:=lc (e.var=⟨#[]⟩)&&(lc (e.op=0)&&lc ((e.args.length:Int)=0))
def uw(e:Expr):Bool:=lc (e.var=⟨#[]⟩)&&(eE e.val&&lc (cN e.op>0))
def cx(e:Expr):Expr:=e.args.getD 0 co
def AA(e:Expr):Expr:=e.args.getD 1 co
def zY(e:Expr):Bool:=lc (e.kind=2)&&lc (e.val.kind=1)
def n3(a:Expr):Bool:=lc (eC a<3)||(zY a&&lc (a.val.num>0))
def kM(w:WS)(e:Expr)(k:WS):WS:=
 if w.bad=jp then oj w else if e.kind=1 then aW (aX w (qh e)) [e.var] else if e.kind=2 then ov (aX w (rM e)) e.val else if e.kind=4 then k else oj w
def mj(a0:Bool->WS->Expr->WS)(w:WS)(e:Expr):WS:=
 if w.bad=jp then oj w else if e.op=6 then
  (if e.args.length=1 then a0 (n3 (cx e)) (if(zY (cx e)&&lc ((cx e).val.num=0))=jp then aW (aW w [sM]) [sM] else aW w [sM]) (cx e) else oj w)
 else if e.args.length=2 then a0 (lc (eC (AA e)<=cN e.op)) (aW (a0 (lc (eC (cx e)<cN e.op)) w (cx e)) [EF,nZ e.op,EF]) (AA e) else oj w
def c6:Nat->WS->Expr->WS
 |0,w,_=>oj w
 |1,w,e=>kM w e (oj (aX w (uw e)))
 |m+2,w,e=>kM w e (mj (fun j w a=>if j=jp then aW (c6 m (aW w [sO]) a) [sC] else c6 (m+1) w a) (aX w (uw e)) e)
def xB(m:Nat)(j:Bool)(w:WS)(a:Expr):WS:=if j=jp then aW (c6 m (aW w [sO]) a) [sC] else c6 (m+1) w a
theorem aR(w:WS)(b:Bool):(aX w b).l=w.l:=rfl
theorem fH(w:WS):(oj w).l=w.l:=rfl
theorem bx(s:aq):eQ [s]=s.size:=by simp[eQ]
theorem Bd(op:Int):(nZ op).size<=3:=by
 unfold nZ
 repeat' split
 all_goals decide
theorem aK(w:WS)(s:aq):(aW w [s]).l.length=w.l.length+s.size:=by rw[gX,bx]
theorem vc(w:WS)(v:cW):(ov w v).l.length<=w.l.length+300:=by
 have:=sK v;rw[ov,aK,aR];omega
theorem yq(w k:WS)(e:Expr)(h:k.l.length<=w.l.length+e.ts):(kM w e k).l.length<=w.l.length+e.ts:=by
 have:=e.tD;unfold kM
 repeat' split
 .rw[fH];omega
 .rw[aK,aR];omega
 .have:=vc (aX w (rM e)) e.val;rw[aR]at this;omega
 .exact h
 .rw[fH];omega
theorem GH(a0:Bool->WS->Expr->WS)(j: ∀b w a,(a0 b w a).l.length<=w.l.length+(2+a.ts))(w:WS)(e:Expr):(mj a0 w e).l.length<=w.l.length+e.ts:=by
 have B:=e.tD;unfold mj;split
 .rw[fH];omega
 split
 .split
  .rename_i h1;have y:=Expr.y9 e.args 0 (by omega);have u:sM.size=1:=rfl;split
   .have:=j (n3 (cx e)) (aW (aW w [sM]) [sM]) (cx e);rw[aK,aK]at this;simp only[cx]at this ⊢;omega
   .have:=j (n3 (cx e)) (aW w [sM]) (cx e);rw[aK]at this;simp only[cx]at this ⊢;omega
  .rw[fH];omega
 .split
  .rename_i h1;have y:=Expr.Ew e.args h1;have x:=j (lc (eC (AA e)<=cN e.op)) (aW (a0 (lc (eC (cx e)<cN e.op)) w (cx e)) [EF,nZ e.op,EF]) (AA e);have D:=j (lc (eC (cx e)<cN e.op)) w (cx e);have G:=Bd e.op;have u:EF.size=1:=rfl;rw[gX]at x;have A:eQ [EF,nZ e.op,EF]=1+((nZ e.op).size+1):=by simp[eQ,u]
   simp only[cx,AA] at*;omega
  .rw[fH];omega
theorem dw: ∀(n:Nat) (w:WS) (e:Expr),(c6 n w e).l.length<=w.l.length+e.ts
 |0,w,e=>by rw[c6,fH];omega
 |1,w,e=>by rw[c6];exact yq _ _ _ (by rw[fH,aR];omega)
 |m+2,w,e=>by
  rw[c6];refine yq _ _ _ ?_
  have:=GH (fun j w a=>if j=jp then aW (c6 m (aW w [sO]) a) [sC] else c6 (m+1) w a) (fun b w a=>by
   split
   .have h1:=dw m (aW w [sO]) a;have u:sO.size=1:=rfl;have x:sC.size=1:=rfl;rw[aK]at h1 ⊢;omega
   .have:=dw (m+1) w a
    omega) (aX w (uw e)) e
  rwa[aR]at this
theorem Kz(m:Nat)(b:Bool)(w:WS)(a:Expr):(xB m b w a).l.length<=w.l.length+(2+a.ts):=by
 unfold xB;split
 .have h1:=dw m (aW w [sO]) a;have j:sO.size=1:=rfl;have u:sC.size=1:=rfl;rw[aK]at h1 ⊢;omega
 .have:=dw (m+1) w a;omega
def PE(n:Nat):Prop:= ∀(d:Int) (w:WS) (e:Expr),d+1=n->w.l.length+e.ts<=1000000000->bh prog 212 [.ptr 0 0,ag e.c,pI d] w.O (.a7 []) (c6 n w e).H 3
theorem d225(n:Nat)(hn:n<=1000)(y:PE (n+1))(A:PE n)(j:Bool)(d:Int)(hd:d=n)(w:WS)(e:Expr)(hb:w.l.length+e.ts+2<=1000000000):bh prog 262 [.ptr 0 0,ag e.c,pB j,pI d] w.O (.a7 []) (xB n j w e).H 3:=by
 refine ak ab func262 Z (by decide) ntmps262 Z (by simp) ?_;refine zJ Z Z (fun h=>?_) fun h=>?_
 .have h:j=kw:=by simpa using h
  rw[xB,be (by rw[h];simp)];refine gA Z (iX (y d w e (by omega) (by omega)) ?_);refine gA Z jw
 .have h:j=jp:=by simpa using h
  rw[xB,am h];have u:sO.size=1:=rfl;have x:sC.size=1:=rfl;have hl:=dw n (aW w [sO]) e;have B:=aK w sO;refine gA Z (jN (d147 w [sO] (by simp) (by rw[bx,u];omega)) ?_);refine gA Z (iX (A (d-1) (aW w [sO]) e (by omega) (by omega)) ?_);refine gA Z (jN (d147 (c6 n (aW w [sO]) e) [sC] (by simp) (by rw[bx,x];omega)) ?_);refine gA Z jw
theorem Vo(d:Int)(hd:d<0)(w:WS)(e:Expr):bh prog 246 [.ptr 0 0,ag e.c,pI d] w.O (.a7 []) (oj w).H 3:=by
 refine ak ab func246 Z (by decide) ntmps246 Z (by simp) ?_
 repeat' (first
  |((rename_i h;exact absurd hd (zF h)))
  |(refine gA Z (zI (fun _=>?_) (fun _=>?_)))
  |(refine gA Z (yJ (by first|exact .inr Z|exact .inl Z) Z Z Z Z Z (by first|exact .refl _|exact .kb _) (by first|exact .refl _|exact .kb _) Z Z Z Z (.refl _) Z Z)))
set_option maxHeartbeats 2000000 in
theorem d213(m:Nat)(hm:m<=900)(J:PE (m+1))(Y:PE m)(d:Int)(hd:d=m)(w:WS)(e:Expr)(hb:w.l.length+e.ts<=1000000000):bh prog 246 [.ptr 0 0,ag e.c,pI d] w.O (.a7 []) (mj (xB m) w e).H 3:=by
 refine bh.le (aa:=[.ptr 0 0,ag e.c,pI d]) (args:=[.ptr 0 0,ag e.c1,pI d]) ?_ ⟨.refl _,e.DP,.refl _,ac⟩;have f0:=e.tD;have I:sM.size=1:=rfl;have y:m<=1000:=by omega
 refine ak ab func246 Z (by decide) ntmps246 Z (by simp) ?_;refine zJ Z Z (fun h6=>?_) fun h6=>?_
 .have h6:e.op=6:=zT h6;refine zE Z Z (fun h1=>?_) fun h1=>?_
  .have h1:w.bad=jp:=h1;rw[mj,am h1];refine gA Z jw
  have h1: ¬w.bad=jp:=by rw[show w.bad=kw from h1];simp
  refine zE Z Z (fun D=>?_) fun D=>?_
  .have D: ¬e.args.length=1:=by simp at D;omega
   rw[mj,be h1,am h6,be D];refine gA Z jw
  have D:e.args.length=1:=by simp at D;omega
  have hg:(cx e).ts<=_:=Expr.y9 e.args 0 (by omega);have u:mj (xB m) w e=xB m (n3 (cx e)) (if(zY (cx e)&&lc ((cx e).val.num=0))=jp then aW (aW w [sM]) [sM] else aW w [sM]) (cx e):=by rw[mj,be h1,am h6,am D]
  have c0:e.args.getD 0 co=cx e:=rfl;refine zJ Z Z (fun h3=>?_) fun h3=>?_
  .exact absurd (zT h3) (by omega)
  refine zE Z Z (fun h7=>?_) fun h7=>?_
  .exact absurd (zF h7) (by simp)
  have A:=aK w sM;refine zJ Z Z (fun hk=>?_) fun hk=>?_
  .have b0:(cx e).kind=2:=zT hk;refine gA Z (jN (d147 w [sM] (by simp) (by rw[bx,I];omega)) ?_);refine zE Z Z (fun hv=>?_) fun hv=>?_
   .have G: ¬(cx e).val.kind=1:=zF hv;have B:zY (cx e)=kw:=by rw[zY,decide_eq_false G,Zv]
    rw[B,YW,be (by simp)]at u;refine gA Z (Ej (Hl (cx e)) ?_);refine zJ Z Z (fun x=>?_) fun x=>?_
    .have j:eC (cx e)<3:=zT x;rw[n3,decide_eq_true j,ZY]at u;rw[u];refine gA Z (xv (d225 m y J Y jp d hd (aW w [sM]) (cx e) (by rw[A,I];omega)) ?_);refine gA Z jw
    .have j: ¬eC (cx e)<3:=zF x;refine zJ Z Z (fun hz=>?_) fun hz=>?_
     .exact absurd (zT hz) G
     rw[n3,decide_eq_false j,Y0,B,YW]at u;rw[u];refine gA Z (xv (d225 m y J Y kw d hd (aW w [sM]) (cx e) (by rw[A,I];omega)) ?_);refine gA Z jw
   .have G:(cx e).val.kind=1:=zT hv;have B:zY (cx e)=jp:=by rw[zY,decide_eq_true G,decide_eq_true b0];rfl
    rw[B,ZD]at u;refine zJ Z Z (fun h0=>?_) fun h0=>?_
    .have a0:(cx e).val.num=0:=zT h0;rw[am (decide_eq_true a0)]at u;refine gA Z (jN (d147 (aW w [sM]) [sM] (by simp) (by rw[bx,A,I];omega)) ?_);refine gA Z (Ej (Hl (cx e)) ?_);refine zJ Z Z (fun x=>?_) fun x=>?_
     .have j:eC (cx e)<3:=zT x;rw[n3,decide_eq_true j,ZY]at u;rw[u];refine gA Z (xv (d225 m y J Y jp d hd (aW (aW w [sM]) [sM]) (cx e) (by rw[aK,A,I];omega)) ?_);refine gA Z jw
     .have j: ¬eC (cx e)<3:=zF x;refine zE Z Z (fun hz=>?_) fun hz=>?_
      .exact absurd G (zF hz)
      rw[n3,decide_eq_false j,Y0,B,ZD]at u;rw[u];refine gA Z (xv (d225 m y J Y (lc ((cx e).val.num>0)) d hd (aW (aW w [sM]) [sM]) (cx e) (by rw[aK,A,I];omega)) ?_);refine gA Z jw
    .have a0: ¬(cx e).val.num=0:=zF h0;rw[be (by simpa using a0)]at u;refine gA Z (Ej (Hl (cx e)) ?_);refine zJ Z Z (fun x=>?_) fun x=>?_
     .have j:eC (cx e)<3:=zT x;rw[n3,decide_eq_true j,ZY]at u;rw[u];refine gA Z (xv (d225 m y J Y jp d hd (aW w [sM]) (cx e) (by rw[A,I];omega)) ?_);refine gA Z jw
     .have j: ¬eC (cx e)<3:=zF x;refine zE Z Z (fun hz=>?_) fun hz=>?_
      .exact absurd G (zF hz)
      rw[n3,decide_eq_false j,Y0,B,ZD]at u;rw[u];refine gA Z (xv (d225 m y J Y (lc ((cx e).val.num>0)) d hd (aW w [sM]) (cx e) (by rw[A,I];omega)) ?_);refine gA Z jw
  .have b0: ¬(cx e).kind=2:=zF hk;have B:zY (cx e)=kw:=by rw[zY,decide_eq_false b0];rfl
   rw[B,YW,be (by simp)]at u;refine gA Z (jN (d147 w [sM] (by simp) (by rw[bx,I];omega)) ?_);refine gA Z (Ej (Hl (cx e)) ?_);refine zJ Z Z (fun x=>?_) fun x=>?_
   .have j:eC (cx e)<3:=zT x;rw[n3,decide_eq_true j,ZY]at u;rw[u];refine gA Z (xv (d225 m y J Y jp d hd (aW w [sM]) (cx e) (by rw[A,I];omega)) ?_);refine gA Z jw
   .have j: ¬eC (cx e)<3:=zF x;rw[n3,decide_eq_false j,Y0,B,YW]at u;rw[u];refine gA Z (xv (d225 m y J Y kw d hd (aW w [sM]) (cx e) (by rw[A,I];omega)) ?_);refine gA Z jw
 .have h6: ¬e.op=6:=zF h6;refine zE Z Z (fun h1=>?_) fun h1=>?_
  .have h1:w.bad=jp:=h1;rw[mj,am h1];refine gA Z jw
  have h1: ¬w.bad=jp:=by rw[show w.bad=kw from h1];simp
  refine zE Z Z (fun D=>?_) fun D=>?_
  .have D: ¬e.args.length=2:=by simp at D;omega
   rw[mj,be h1,be h6,be D];refine gA Z jw
  have D:e.args.length=2:=by simp at D;omega
  have hg:(cx e).ts+(AA e).ts<=_:=Expr.Ew e.args D;rw[mj,be h1,be h6,am D];refine zJ Z Z (fun h3=>?_) fun h3=>?_
  .exact absurd (zT h3) (by omega)
  refine zJ Z Z (fun h7=>?_) fun h7=>?_
  .exact absurd (zT h7) (by simp)
  refine gA Z (Ej (Hl (cx e)) ?_);refine gA Z (Ej (Ol e.op) ?_);refine gA Z (xv (d225 m y J Y (lc (eC (cx e)<cN e.op)) d hd w (cx e) (by omega)) ?_);refine gA Z (zp (Ww e.op) ?_);have d0:=Kz m (lc (eC (cx e)<cN e.op)) w (cx e);have e0:=Bd e.op;have e2:EF.size=1:=rfl;have e3:eQ [EF,nZ e.op,EF]=1+((nZ e.op).size+1):=by simp[eQ,e2]
  refine gA Z (jN (d147 (xB m (lc (eC (cx e)<cN e.op)) w (cx e)) [EF,nZ e.op,EF] (by simp) (by rw[e3];omega)) ?_);refine gA Z (Ej (Hl (AA e)) ?_);refine gA Z (Ej (Ol e.op) ?_);refine gA Z (xv (d225 m y J Y (lc (eC (AA e)<=cN e.op)) d hd (aW (xB m (lc (eC (cx e)<cN e.op)) w (cx e)) [EF,nZ e.op,EF]) (AA e) (by rw[gX,e3];omega)) ?_);refine gA Z jw
theorem d189(d:Int)(Y:0<=d)(a0:d<=1000)(w:WS)(e:Expr)(hb:w.l.length+e.ts<=1000000000)(k:WS)(hk:bh prog 246 [.ptr 0 0,ag e.c,pI (d-1)] (aX w (uw e)).O (.a7 []) k.H 3):bh prog 212 [.ptr 0 0,ag e.c,pI d] w.O (.a7 []) (kM w e k).H 3:=by
 have b0:=e.tD;refine ak ab func212 Z (by decide) ntmps212 Z (by simp) ?_;refine zE Z Z (fun h1=>?_) fun h1=>?_
 .have h1:w.bad=jp:=h1;rw[kM,am h1];refine gA Z jw
 have B: ¬w.bad=jp:=by rw[show w.bad=kw from h1];simp
 refine zJ Z Z (fun J=>?_) fun J=>?_
 .exact absurd (zT J) (by omega)
 refine zJ Z Z (fun D=>?_) fun D=>?_
 .have u:e.kind=1:=zT D;have A:kM w e k=aW (aX w (qh e)) [e.var]:=by rw[kM,be B,am u]
  rw[A];refine gA Z (zp (Ed e.var) ?_);refine zE Z Z (fun g0=>?_) fun g0=>?_
  .have j:qh e=kw:=by simp only[qh,eE, *];rfl
   rw[j];refine gA Z (iX (d146 w kw) ?_);refine gA Z (jN (d147 (aX w kw) [e.var] (by simp) (by rw[bx,aR];omega)) ?_);refine gA Z jw
  refine zE Z Z (fun g1=>?_) fun g1=>?_
  .have j:qh e=kw:=by simp only[qh,eE, *];rfl
   rw[j];refine gA Z (iX (d146 w kw) ?_);refine gA Z (jN (d147 (aX w kw) [e.var] (by simp) (by rw[bx,aR];omega)) ?_);refine gA Z jw
  refine zE Z Z (fun g2=>?_) fun g2=>?_
  .have j:qh e=kw:=by simp only[qh,eE, *];rfl
   rw[j];refine gA Z (iX (d146 w kw) ?_);refine gA Z (jN (d147 (aX w kw) [e.var] (by simp) (by rw[bx,aR];omega)) ?_);refine gA Z jw
  have j:qh e=lc ((e.args.length:Int)=0):=by simp only[qh,eE, *];rfl
  rw[j];refine gA Z (iX (d146 w (lc ((e.args.length:Int)=0))) ?_);refine gA Z (jN (d147 (aX w (lc ((e.args.length:Int)=0))) [e.var] (by simp) (by rw[bx,aR];omega)) ?_);refine gA Z jw
 have u: ¬e.kind=1:=zF D;refine zJ Z Z (fun G=>?_) fun G=>?_
 .have x:e.kind=2:=zT G;have A:kM w e k=ov (aX w (rM e)) e.val:=by rw[kM,be B,be u,am x]
  rw[A];have c0:=sK e.val;refine zE Z Z (fun g0=>?_) fun g0=>?_
  .have j:rM e=kw:=by simp only[rM,eE, *];rfl
   rw[j];refine gA Z (iX (d146 w kw) ?_);refine gA Z (iX (d149 (aX w kw) e.val (by rw[aR];omega) (by omega)) ?_);refine gA Z jw
  refine zE Z Z (fun g1=>?_) fun g1=>?_
  .have j:rM e=kw:=by simp only[rM,eE, *];rfl
   rw[j];refine gA Z (iX (d146 w kw) ?_);refine gA Z (iX (d149 (aX w kw) e.val (by rw[aR];omega) (by omega)) ?_);refine gA Z jw
  have j:rM e=lc ((e.args.length:Int)=0):=by simp only[rM,eE, *];rfl
  rw[j];refine gA Z (iX (d146 w (lc ((e.args.length:Int)=0))) ?_);refine gA Z (iX (d149 (aX w (lc ((e.args.length:Int)=0))) e.val (by rw[aR];omega) (by omega)) ?_);refine gA Z jw
 have x: ¬e.kind=2:=zF G;refine zJ Z Z (fun I=>?_) fun I=>?_
 .have y:e.kind=4:=zT I;have A:kM w e k=k:=by rw[kM,be B,be u,be x,am y]
  rw[A];refine zE Z Z (fun g0=>?_) fun g0=>?_
  .have j:uw e=kw:=by simp only[uw,eE, *];rfl
   rw[j]at hk;refine gA Z (iX (d146 w kw) ?_);refine gA Z (iX (hk) ?_);refine gA Z jw
  refine zE Z Z (fun g1=>?_) fun g1=>?_
  .have j:uw e=kw:=by simp only[uw,eE, *];rfl
   rw[j]at hk;refine gA Z (iX (d146 w kw) ?_);refine gA Z (iX (hk) ?_);refine gA Z jw
  refine gA Z (zp (Ol e.op) ?_);have j:uw e=lc (cN e.op>0):=by simp only[uw,eE, *];rfl
  rw[j]at hk;refine gA Z (iX (d146 w (lc (cN e.op>0))) ?_);refine gA Z (iX (hk) ?_);refine gA Z jw
 have y: ¬e.kind=4:=zF I;rw[kM,be B,be u,be x,be y];refine gA Z jw
theorem pe0:PE 0:=fun d w e hd hb=>by
 refine ak ab func212 Z (by decide) ntmps212 Z (by simp) ?_;rw[c6]
 repeat' (first
  |((rename_i h;exact absurd (by omega:d<0) (zF h)))
  |(refine gA Z (zI (fun _=>?_) (fun _=>?_)))
  |(refine gA Z (yJ (by first|exact .inr Z|exact .inl Z) Z Z Z Z Z (by first|exact .refl _|exact .kb _) (by first|exact .refl _|exact .kb _) Z Z Z Z (.refl _) Z Z)))
theorem DB: ∀n,n<=900->PE n
 |0,_=>pe0
 |1,_=>fun d w e hd hb=>d189 d (by omega) (by omega) w e hb _ (Vo (d-1) (by omega) (aX w (uw e)) e)
 |m+2,h=>fun d w e hd hb=>d189 d (by omega) (by omega) w e (by omega) _ (d213 m (by omega) (DB (m+1) (by omega)) (DB m (by omega)) (d-1) (by omega) (aX w (uw e)) e (by rw[aR];omega))
theorem qp(w:WS)(e:Expr)(hb:w.l.length+e.ts<=900000000):bh prog 212 [.ptr 0 0,ag e.c,pI 16] w.O (.a7 []) (c6 17 w e).H 3:=DB 17 (by omega) 16 w e (by omega) (by omega)
def xq:aq:=⟨#[44,32]⟩
def RL:aq:=⟨#[95]⟩
def ft(i:Nat)(w:WS):WS:=if i=0 then w else aW w [xq]
def zV(t:Term):Bool:=gu t.var&&eE t.val
def zX(t:Term):Bool:=lc (t.var=⟨#[]⟩)&&eE t.val
def lv(w:WS)(t:Term):WS:=
 if t.kind=1 then aW (aX w (zV t)) [t.var] else if t.kind=2 then ov (aX w (lc (t.var=⟨#[]⟩))) t.val else if t.kind=3 then aW (aX w (zX t)) [RL] else oj w
def gH(l:List Term)(w:WS):Nat->WS
 |0=>w
 |i+1=>lv (ft i (gH l w i)) (l.getD i co)
def iK(w:WS)(a:Atom):WS:=aW (gH a.an (aW (aX w (gi a.rel)) [a.rel,sO]) a.an.length) [sC]
def Term.ts(t:Term):Nat:=t.var.size+310
def Atom.ts(a:Atom):Nat:=a.rel.size+10+(a.an.map Term.ts).sum
theorem jt(i:Nat)(w:WS):(ft i w).l.length<=w.l.length+2:=by
 have e:xq.size=2:=rfl;unfold ft;split
 .omega
 .rw[aK,e];omega
theorem F3(w:WS)(t:Term):(lv w t).l.length<=w.l.length+300+t.var.size:=by
 have e:RL.size=1:=rfl;unfold lv
 repeat' split
 .rw[aK,aR];omega
 .have:=vc (aX w (lc (t.var=⟨#[]⟩))) t.val;rw[aR]at this;omega
 .rw[aK,aR,e];omega
 .rw[fH];omega
theorem xN: ∀(l:List Term) (i:Nat),i<l.length->((l.take i).map Term.ts).sum+(l.getD i co).ts<=(l.map Term.ts).sum
 | [],i,h=>by simp at h
 |s::r,0,_=>by simp
 |s::r,i+1,h=>by
  have:=xN r i (by simpa using h);simp at this ⊢;omega
theorem Ex: ∀(l:List Term) (i:Nat),((l.take i).map Term.ts).sum<=(l.map Term.ts).sum
 | [],i=>by simp
 |s::r,0=>by simp
 |s::r,i+1=>by have:=Ex r i;simp at this ⊢;omega
theorem qy(l:List Term)(w:WS): ∀i,i<=l.length->(gH l w i).l.length<=w.l.length+((l.take i).map Term.ts).sum
 |0,_=>by simp[gH]
 |i+1,h=>by
  have h1:=qy l w i (by omega);have j:=jt i (gH l w i);have u:=F3 (ft i (gH l w i)) (l.getD i co);have x:(l.getD i co).ts=(l.getD i co).var.size+310:=rfl;have y:((l.take (i+1)).map Term.ts).sum=((l.take i).map Term.ts).sum+(l.getD i co).ts:=by
   rw[bT (by omega),Xg,List.sum_append];simp
  rw[gH];omega
theorem pN(w:WS)(a:Atom):(iK w a).l.length<=w.l.length+a.ts:=by
 have j:sO.size=1:=rfl;have u:sC.size=1:=rfl;have x:eQ [a.rel,sO]=a.rel.size+1:=by simp[eQ,j]
 have h1:=qy a.an (aW (aX w (gi a.rel)) [a.rel,sO]) a.an.length (W8 _);rw[gX,x,aR,Yk]at h1;rw[iK,aK,u];unfold Atom.ts;omega
theorem yp: ∀l:List Term,l.length<=(l.map Term.ts).sum
 | []=>by simp
 |t::r=>by have:=yp r;simp[Term.ts]at this ⊢;omega
set_option maxHeartbeats 1000000 in
theorem d104(w:WS)(a:Atom)(hb:w.l.length+a.ts<=900000000):bh prog 123 [.ptr 0 0,ag a.c] w.O (.a7 []) (iK w a).H 3:=by
 have e1:sO.size=1:=rfl;have e2:sC.size=1:=rfl;have A:xq.size=2:=rfl;have e5:RL.size=1:=rfl;have Y:eQ [a.rel,sO]=a.rel.size+1:=by simp[eQ,e1]
 have i0:a.ts=a.rel.size+10+(a.an.map Term.ts).sum:=rfl;have d0:=yp a.an;have b0:(aW (aX w (gi a.rel)) [a.rel,sO]).l.length=w.l.length+(a.rel.size+1):=by rw[gX,Y,aR]
 refine ak ab func123 Z (by decide) ntmps123 Z (by simp) ?_;refine gA Z (zp (Vu a.rel) ?_);refine gA Z (iX (d146 w (gi a.rel)) ?_);refine gA Z (jN (d147 (aX w (gi a.rel)) [a.rel,sO] (by simp) (by rw[Y,aR];omega)) ?_);generalize hW:aW (aX w (gi a.rel)) [a.rel,sO]=w1 at*
 refine gA Z ?_;refine aN 0 a.an.length (Xc _) (fun i=>⟨[(0,.ptr 0 0),(17,.iv (aT 5 a.an Term.c)),(18,pI a.an.length),(19,pI i)],[(0,io ((gH a.an w1 i).rk 0 6)),(6,io (.bz (gH a.an w1 i).l 5))],7⟩) (fun _=>True) _ ac
  (KP (w:=w1) Z Z Z Z Z (.refl _) (.refl _) Z Z Z Z Z (bi (bi (bi (bi trivial))))) fun i hi _=>?_
 have c0:=qy a.an w1 i hi;have e0:=Ex a.an i;refine zE Z Z (fun h1=>?_) fun h1=>?_
 .have h1:a.an.length<=i:=zG h1;have J:i=a.an.length:=by omega
  subst J;refine gA Z (jN (d147 (gH a.an w1 a.an.length) [sC] (by simp) (by rw[bx,e2];omega)) ?_);rw[iK,hW];refine gA Z jw
 have h1:i<a.an.length:=zN h1;have f0:=xN a.an i h1;have hs:gH a.an w1 (i+1)=lv (ft i (gH a.an w1 i)) (a.an.getD i co):=rfl;have ht:(a.an.getD i co).ts=(a.an.getD i co).var.size+310:=rfl;have j0:=sK (a.an.getD i co).val;have a0:=jt i (gH a.an w1 i);generalize hT:gH a.an w1 i=w2 at*
 refine zJ Z Z (fun B=>?_) fun B=>?_
 .have B: ¬i=0:=by have:=zT B;omega
  rw[ft,be B]at hs;refine gA Z (jN (d147 w2 [xq] (by simp) (by rw[bx,A];omega)) ?_);refine zJ Z Z (fun D=>?_) fun D=>?_
  .have j:(a.an.getD i co).kind=1:=zT D;rw[lv,am j]at hs;refine gA Z (zp (Ed (a.an.getD i co).var) ?_);refine zE Z Z (fun g0=>?_) fun g0=>?_
   .have x:zV (a.an.getD i co)=kw:=by have g:gu (a.an.getD i co).var=kw:=g0;rw[zV,g];rfl
    rw[x]at hs;refine gA Z (iX (d146 (aW w2 [xq]) kw) ?_);refine gA Z (jN (d147 (aX (aW w2 [xq]) kw) [(a.an.getD i co).var] (by simp) (by rw[bx,aR];first|omega|(rw[aK,A];omega))) ?_);refine gA Z ⟨h1,ac,_,ru (hs.symm)⟩
   have x:zV (a.an.getD i co)=eE (a.an.getD i co).val:=by have g:gu (a.an.getD i co).var=jp:=g0;rw[zV,g];rfl
   rw[x]at hs;refine gA Z (iX (d146 (aW w2 [xq]) (eE (a.an.getD i co).val)) ?_);refine gA Z (jN (d147 (aX (aW w2 [xq]) (eE (a.an.getD i co).val)) [(a.an.getD i co).var] (by simp) (by rw[bx,aR];first|omega|(rw[aK,A];omega))) ?_);refine gA Z ⟨h1,ac,_,ru (hs.symm)⟩
  have j: ¬(a.an.getD i co).kind=1:=zF D;refine zJ Z Z (fun G=>?_) fun G=>?_
  .have u:(a.an.getD i co).kind=2:=zT G;rw[lv,be j,am u]at hs;refine gA Z (iX (d146 (aW w2 [xq]) (lc ((a.an.getD i co).var=⟨#[]⟩))) ?_);refine gA Z (iX (d149 (aX (aW w2 [xq]) (lc ((a.an.getD i co).var=⟨#[]⟩))) (a.an.getD i co).val (by rw[aR];first|omega|(rw[aK,A];omega)) (by omega)) ?_);refine gA Z ⟨h1,ac,_,ru (hs.symm)⟩
  have u: ¬(a.an.getD i co).kind=2:=zF G;refine zJ Z Z (fun I=>?_) fun I=>?_
  .have y:(a.an.getD i co).kind=3:=zT I;rw[lv,be j,be u,am y]at hs;refine zE Z Z (fun g0=>?_) fun g0=>?_
   .have x:zX (a.an.getD i co)=kw:=by have g:lc ((a.an.getD i co).var=⟨#[]⟩)=kw:=g0;rw[zX,g];rfl
    rw[x]at hs;refine gA Z (iX (d146 (aW w2 [xq]) kw) ?_);refine gA Z (jN (d147 (aX (aW w2 [xq]) kw) [RL] (by simp) (by rw[bx,aR];first|omega|(rw[aK,A];omega))) ?_);refine gA Z ⟨h1,ac,_,ru (hs.symm)⟩
   have x:zX (a.an.getD i co)=eE (a.an.getD i co).val:=by have g:lc ((a.an.getD i co).var=⟨#[]⟩)=jp:=g0;rw[zX,g];rfl
   rw[x]at hs;refine gA Z (iX (d146 (aW w2 [xq]) (eE (a.an.getD i co).val)) ?_);refine gA Z (jN (d147 (aX (aW w2 [xq]) (eE (a.an.getD i co).val)) [RL] (by simp) (by rw[bx,aR];first|omega|(rw[aK,A];omega))) ?_);refine gA Z ⟨h1,ac,_,ru (hs.symm)⟩
  have y: ¬(a.an.getD i co).kind=3:=zF I;rw[lv,be j,be u,be y]at hs;refine gA Z ⟨h1,ac,_,ru (hs.symm)⟩
 .have B:i=0:=by have:=zF B;omega
  rw[ft,am B]at hs;refine zJ Z Z (fun D=>?_) fun D=>?_
  .have j:(a.an.getD i co).kind=1:=zT D;rw[lv,am j]at hs;refine gA Z (zp (Ed (a.an.getD i co).var) ?_);refine zE Z Z (fun g0=>?_) fun g0=>?_
   .have x:zV (a.an.getD i co)=kw:=by have g:gu (a.an.getD i co).var=kw:=g0;rw[zV,g];rfl
    rw[x]at hs;refine gA Z (iX (d146 w2 kw) ?_);refine gA Z (jN (d147 (aX w2 kw) [(a.an.getD i co).var] (by simp) (by rw[bx,aR];first|omega|(rw[aK,A];omega))) ?_);refine gA Z ⟨h1,ac,_,ru (hs.symm)⟩
   have x:zV (a.an.getD i co)=eE (a.an.getD i co).val:=by have g:gu (a.an.getD i co).var=jp:=g0;rw[zV,g];rfl
   rw[x]at hs;refine gA Z (iX (d146 w2 (eE (a.an.getD i co).val)) ?_);refine gA Z (jN (d147 (aX w2 (eE (a.an.getD i co).val)) [(a.an.getD i co).var] (by simp) (by rw[bx,aR];first|omega|(rw[aK,A];omega))) ?_);refine gA Z ⟨h1,ac,_,ru (hs.symm)⟩
  have j: ¬(a.an.getD i co).kind=1:=zF D;refine zJ Z Z (fun G=>?_) fun G=>?_
  .have u:(a.an.getD i co).kind=2:=zT G;rw[lv,be j,am u]at hs;refine gA Z (iX (d146 w2 (lc ((a.an.getD i co).var=⟨#[]⟩))) ?_);refine gA Z (iX (d149 (aX w2 (lc ((a.an.getD i co).var=⟨#[]⟩))) (a.an.getD i co).val (by rw[aR];first|omega|(rw[aK,A];omega)) (by omega)) ?_);refine gA Z ⟨h1,ac,_,ru (hs.symm)⟩
  have u: ¬(a.an.getD i co).kind=2:=zF G;refine zJ Z Z (fun I=>?_) fun I=>?_
  .have y:(a.an.getD i co).kind=3:=zT I;rw[lv,be j,be u,am y]at hs;refine zE Z Z (fun g0=>?_) fun g0=>?_
   .have x:zX (a.an.getD i co)=kw:=by have g:lc ((a.an.getD i co).var=⟨#[]⟩)=kw:=g0;rw[zX,g];rfl
    rw[x]at hs;refine gA Z (iX (d146 w2 kw) ?_);refine gA Z (jN (d147 (aX w2 kw) [RL] (by simp) (by rw[bx,aR];first|omega|(rw[aK,A];omega))) ?_);refine gA Z ⟨h1,ac,_,ru (hs.symm)⟩
   have x:zX (a.an.getD i co)=eE (a.an.getD i co).val:=by have g:lc ((a.an.getD i co).var=⟨#[]⟩)=jp:=g0;rw[zX,g];rfl
   rw[x]at hs;refine gA Z (iX (d146 w2 (eE (a.an.getD i co).val)) ?_);refine gA Z (jN (d147 (aX w2 (eE (a.an.getD i co).val)) [RL] (by simp) (by rw[bx,aR];first|omega|(rw[aK,A];omega))) ?_);refine gA Z ⟨h1,ac,_,ru (hs.symm)⟩
  have y: ¬(a.an.getD i co).kind=3:=zF I;rw[lv,be j,be u,be y]at hs;refine gA Z ⟨h1,ac,_,ru (hs.symm)⟩
end Go.Proofs.YtlmhfgbkchnfbaaGreatDoor
namespace Go.Proofs.YtlmhfgbkchnfbaaGreatDoor
open Go Go.Al
def Di:aq:=⟨#[110,111,116,32]⟩
def sR:aq:=⟨#[32,61,32]⟩
def sS:aq:=⟨#[32,123,32]⟩
def Hw:aq:=⟨#[32,58,32]⟩
def Bi:aq:=⟨#[32,125]⟩
def wL(op:Int):aq:=if op=1 then⟨#[32,61,32]⟩ else if op=2 then⟨#[32,33,61,32]⟩ else if op=3 then⟨#[32,60,32]⟩ else if op=4 then⟨#[32,60,61,32]⟩ else if op=5 then⟨#[32,62,32]⟩ else⟨#[32,62,61,32]⟩
def j5(f:Int):aq:=if f=1 then⟨#[99,111,117,110,116]⟩ else if f=2 then⟨#[115,117,109]⟩ else if f=3 then⟨#[109,105,110]⟩ else⟨#[109,97,120]⟩
def xj(w:WS)(n:Int):WS:=⟨w.fr,w.l,w.bad,w.br+n⟩
def di(f:Lit->WS->WS)(l:List Lit)(w:WS):Nat->WS
 |0=>w
 |i+1=>if(di f l w i).bad=jp then di f l w i else f (l.getD i co) (ft i (di f l w i))
def qS(w:WS)(a:gU):WS:=if a.func=1 then aX w (ku a.j9) else aW (c6 17 w a.j9) [Hw]
def AE(f:Lit->WS->WS)(w:WS)(a:gU):WS:=
 if a.func<1∨5<=a.func∨16<=w.br∨a.body.length=0 then oj w
 else aW (xj (di f a.body (xj (qS (aW (aX w (gu a.var)) [a.var,sR,j5 a.func,sS]) a) 1) a.body.length) (-1)) [Bi]
def DN(f:Lit->WS->WS)(l:Lit)(w:WS):WS:=
 if l.kind=2 then iK (aW w [Di]) l.atom else if l.kind=1 then iK w l.atom
 else if l.kind=3 then(if l.op<1∨7<=l.op then oj (c6 17 w l.left) else c6 17 (aW (c6 17 w l.left) [wL l.op]) l.right)
 else if l.kind=4 then AE f w l.agg else oj w
def dF:Nat->Lit->WS->WS
 |0,_,w=>w
 |n+1,l,w=>DN (dF n) l (aX w (lU l))
theorem bQ: ∀(j:List aq) (w:WS),(aW w j).br=w.br
 | [],w=>rfl
 |s::r,w=>bQ r (BB w s)
theorem vV(w:WS)(b:Bool):(aX w b).br=w.br:=rfl
theorem Oy(w:WS):(oj w).br=w.br:=rfl
theorem xH(w:WS)(v:cW):(ov w v).br=w.br:=by rw[ov,bQ];rfl
theorem B6(w k:WS)(e:Expr)(h:k.br=w.br):(kM w e k).br=w.br:=by
 unfold kM
 repeat' split
 .rfl
 .rw[bQ];rfl
 .rw[xH];rfl
 .exact h
 .rfl
theorem IS(a0:Bool->WS->Expr->WS)(j: ∀b w a,(a0 b w a).br=w.br)(w:WS)(e:Expr):(mj a0 w e).br=w.br:=by
 unfold mj
 repeat' split
 .rfl
 .rw[j,bQ,bQ]
 .rw[j,bQ]
 .rfl
 .rw[j,bQ,j]
 .rfl
theorem mM: ∀(n:Nat) (w:WS) (e:Expr),(c6 n w e).br=w.br
 |0,w,e=>rfl
 |1,w,e=>by rw[c6];exact B6 _ _ _ Z
 |m+2,w,e=>by
  rw[c6];refine B6 _ _ _ ?_;rw[IS _ (fun b w a=>?_)]
  .rfl
  .split
   .rw[bQ,mM m,bQ]
   .exact mM (m+1) _ _
theorem pJ(i:Nat)(w:WS):(ft i w).br=w.br:=by
 unfold ft;split
 .rfl
 .exact bQ _ _
theorem HR(w:WS)(t:Term):(lv w t).br=w.br:=by
 unfold lv
 repeat' split
 .rw[bQ];rfl
 .rw[xH];rfl
 .rw[bQ];rfl
 .rfl
theorem xM(l:List Term)(w:WS): ∀i,(gH l w i).br=w.br
 |0=>rfl
 |i+1=>by rw[gH,HR,pJ,xM l w i]
theorem mS(w:WS)(a:Atom):(iK w a).br=w.br:=by rw[iK,bQ,xM,bQ];rfl
theorem mQ(f:Lit->WS->WS)(hf: ∀l w,(f l w).br=w.br)(l:List Lit)(w:WS): ∀i,(di f l w i).br=w.br
 |0=>rfl
 |i+1=>by
  rw[di];split
  .exact mQ f hf l w i
  .rw[hf,pJ,mQ f hf l w i]
theorem IW(w:WS)(a:gU):(qS w a).br=w.br:=by
 unfold qS;split
 .rfl
 .rw[bQ,mM]
theorem OG(f:Lit->WS->WS)(hf: ∀l w,(f l w).br=w.br)(w:WS)(a:gU):(AE f w a).br=w.br:=by
 unfold AE;split
 .rfl
 .rw[bQ];show(di _ _ _ _).br+ -1=_;rw[mQ f hf];show(qS _ _).br+1+ -1=_;rw[IW,bQ,vV];omega
theorem Nw(f:Lit->WS->WS)(hf: ∀l w,(f l w).br=w.br)(l:Lit)(w:WS):(DN f l w).br=w.br:=by
 unfold DN
 repeat' split
 .rw[mS,bQ]
 .exact mS _ _
 .rw[Oy,mM]
 .rw[mM,bQ,mM]
 .exact OG f hf _ _
 .rfl
theorem uN: ∀(n:Nat) (l:Lit) (w:WS),(dF n l w).br=w.br
 |0,_,_=>rfl
 |n+1,l,w=>by rw[dF,Nw (dF n) (uN n)];rfl
mutual
def Lit.ts:Lit->Nat
 | .mk _ a _ l r _ v o b _=>100+a.ts+l.ts+r.ts+v.size+o.ts+Lit.lk b
def Lit.lk:List Lit->Nat
 | []=>0
 |e::r=>e.ts+Lit.lk r
end
theorem Lit.tD(l:Lit):l.ts=100+l.atom.ts+l.left.ts+l.right.ts+l.bJ.size+l.ky.ts+Lit.lk l.az:=by cases l;rfl
theorem Lit.AZ: ∀(l:List Lit) (i:Nat),i<l.length->Lit.lk (l.take i)+(l.getD i co).ts<=Lit.lk l
 | [],i,h=>by simp at h
 |s::r,0,_=>by simp[Lit.lk]
 |s::r,i+1,h=>by
  have:=Lit.AZ r i (by simpa using h);simp only[Yq,Lit.lk,Yt];omega
theorem Lit.HN: ∀(l:List Lit) (i:Nat),Lit.lk (l.take i)<=Lit.lk l
 | [],i=>by simp
 |s::r,0=>by simp[Lit.lk]
 |s::r,i+1=>by have:=Lit.HN r i;simp only[Yq,Lit.lk];omega
theorem Lit.Rv(l:Lit):100<=l.ts:=by rw[l.tD];omega
theorem Kh(op:Int):(wL op).size<=4:=by
 unfold wL
 repeat' split
 all_goals decide
theorem Ct(op:Int):(j5 op).size<=5:=by
 unfold j5
 repeat' split
 all_goals decide
def OI(f:Lit->WS->WS):Prop:= ∀l w,(f l w).l.length+4<=w.l.length+l.ts
theorem mP(f:Lit->WS->WS)(hf:OI f)(l:List Lit)(w:WS): ∀i,i<=l.length->(di f l w i).l.length<=w.l.length+Lit.lk (l.take i)
 |0,_=>by simp[di,Lit.lk]
 |i+1,h=>by
  have h1:=mP f hf l w i (by omega);have y:Lit.lk (l.take (i+1))=Lit.lk (l.take i)+(l.getD i co).ts:=by
   rw[bT (by omega)];have: ∀(a:List Lit) (b:Lit),Lit.lk (a++ [b])=Lit.lk a+b.ts:=by
    intro a b
    induction a with
    |nil=>simp[Lit.lk]
    |cons x r ih=>simp only[Xp,Lit.lk,ih];omega
   exact this _ _
  rw[di];split
  .omega
  .have j:=hf (l.getD i co) (ft i (di f l w i));have u:=jt i (di f l w i);omega
theorem E1(w:WS)(a:gU):(qS w a).l.length<=w.l.length+a.j9.ts+3:=by
 have e:Hw.size=3:=rfl;unfold qS;split
 .rw[aR];omega
 .have:=dw 17 w a.j9;rw[aK,e];omega
theorem yv(w:WS)(a:gU):(aW (aX w (gu a.var)) [a.var,sR,j5 a.func,sS]).l.length<=w.l.length+a.var.size+11:=by
 have j:sR.size=3:=rfl;have u:sS.size=3:=rfl;have h:=Ct a.func;have e:eQ [a.var,sR,j5 a.func,sS]=a.var.size+(3+((j5 a.func).size+3)):=by simp[eQ,j,u]
 rw[gX,aR,e];omega
theorem KF(f:Lit->WS->WS)(hf:OI f)(w:WS)(a:gU):(AE f w a).l.length<=w.l.length+a.var.size+a.j9.ts+Lit.lk a.body+20:=by
 have e:Bi.size=2:=rfl;unfold AE;split
 .rw[fH];omega
 .rw[aK,e];show(di _ _ _ _).l.length+2<=_;have h1:=mP f hf a.body (xj (qS (aW (aX w (gu a.var)) [a.var,sR,j5 a.func,sS]) a) 1) a.body.length (W8 _);rw[Yk]at h1;have j:=E1 (aW (aX w (gu a.var)) [a.var,sR,j5 a.func,sS]) a;have u:=yv w a;have x:(xj (qS (aW (aX w (gu a.var)) [a.var,sR,j5 a.func,sS]) a) 1).l.length=(qS (aW (aX w (gu a.var)) [a.var,sR,j5 a.func,sS]) a).l.length:=rfl;omega
theorem Jb(f:Lit->WS->WS)(hf:OI f)(l:Lit)(w:WS):(DN f l w).l.length+4<=w.l.length+l.ts:=by
 have y:=l.tD;have e:Di.size=4:=rfl;unfold DN
 repeat' split
 .have h1:=pN (aW w [Di]) l.atom;rw[aK,e]at h1;omega
 .have h1:=pN w l.atom;omega
 .have h1:=dw 17 w l.left;rw[fH];omega
 .have h1:=dw 17 w l.left;have j:=dw 17 (aW (c6 17 w l.left) [wL l.op]) l.right;have u:=Kh l.op;rw[aK]at j;omega
 .have h1:=KF f hf w l.agg;have j:l.agg.var=l.bJ:=rfl;have u:l.agg.j9=l.ky:=rfl;have x:l.agg.body=l.az:=rfl;rw[j,u,x]at h1;omega
 .rw[fH];omega
theorem rV: ∀n,OI (dF n)
 |0=>fun l w=>by have:=l.Rv;rw[dF];omega
 |n+1=>fun l w=>Jb (dF n) (rV n) l (aX w (lU l))
theorem yU{f:Lit->WS->WS}{l:List Lit}{w:WS}{i:Nat}(h:(di f l w i).bad=jp): ∀k,di f l w (i+k)=di f l w i
 |0=>rfl
 |k+1=>by
  have:=yU h k;rw[<-Yf,di,this,am h]
end Go.Proofs.YtlmhfgbkchnfbaaGreatDoor
namespace Go.Proofs.YtlmhfgbkchnfbaaGreatDoor
open Go Go.Al Go.Proofs.Tryz
def KH(n:Nat):Prop:= ∀(l:Lit) (w:WS),l.size<=n->0<=w.br->w.br<=16->w.l.length+l.ts<=900000000->bh prog 172 [.ptr 0 0,ag l.c] w.O (.a7 []) (dF n l w).H 3
set_option maxHeartbeats 1000000 in
theorem d214(n:Nat)(G:KH n)(w:WS)(j:List Lit)(hs:Lit.aE j<=n)(J:0<=w.br)(Y:w.br<=16)(hb:w.l.length+Lit.lk j+2<=900000000)(hn:n<=100000000):
  bh prog 124 [.ptr 0 0,.iv (lits j)] w.O (.a7 []) (di (dF n) j w j.length).H 3:=by
 have I:xq.size=2:=rfl;have c0:=Lit.aJ j;refine ak ab func124 Z (by decide) ntmps124 Z (by simp) ?_;refine gA Z ?_;refine aN 0 j.length (Xc _) (fun i=>⟨[(0,.ptr 0 0),(6,.iv (lits j)),(7,pI j.length),(8,pI i)],[(0,io ((di (dF n) j w i).rk 0 2)),(2,io (.bz (di (dF n) j w i).l 5))],3⟩) (fun _=>True) _ ac
  (KP (w:=w) Z Z Z Z Z (.refl _) (.refl _) Z Z Z Z Z (bi (bi (bi (bi trivial))))) fun i hi _=>?_
 have b0:=mP (dF n) (rV n) j w i hi;have a0:=mQ (dF n) (uN n) j w i;have e0:=Lit.HN j i;refine zE Z Z (fun h1=>?_) fun h1=>?_
 .have h1:j.length<=i:=zG h1;have D:i=j.length:=by omega
  subst D;refine gA Z jw
 have h1:i<j.length:=zN h1;have f0:=Lit.AZ j i h1;have d0:=Lit.bU j i h1;have u:di (dF n) j w (i+1)=if(di (dF n) j w i).bad=jp then di (dF n) j w i else dF n (j.getD i co) (ft i (di (dF n) j w i)):=rfl;have x:=fun h=>yU (f:=dF n) (l:=j) (w:=w) (i:=i) h (j.length-i);rw[Nat.add_sub_cancel' (Nat.le_of_lt h1)]at x;have B:=jt i (di (dF n) j w i);have A:=pJ i (di (dF n) j w i);generalize di (dF n) j w i=w2 at*
 refine zJ Z Z (fun g=>?_) fun g=>?_
 .have g:w2.bad=jp:=g;rw[x g];refine gA Z jw
 have g: ¬w2.bad=jp:=by
  have g:w2.bad=kw:=g;rw[g];decide
 rw[be g]at u;refine zJ Z Z (fun y=>?_) fun y=>?_
 .have y: ¬i=0:=by have:=zT y;omega
  rw[ft,be y]at u B A;refine gA Z (jN (d147 w2 [xq] (by simp) (by rw[bx,I];omega)) ?_);refine gA Z (iX (G (j.getD i co) (aW w2 [xq]) (by omega) (by omega) (by omega) (by omega)) ?_);refine gA Z ⟨h1,ac,_,ru (u.symm)⟩
 .have y:i=0:=by have:=zF y;omega
  rw[ft,am y]at u B A;refine gA Z (iX (G (j.getD i co) w2 (by omega) (by omega) (by omega) (by omega)) ?_);refine gA Z ⟨h1,ac,_,ru (u.symm)⟩
def gU.ts(a:gU):Nat:=a.var.size+a.j9.ts+Lit.lk a.body
set_option maxHeartbeats 4000000 in
theorem d190(n:Nat)(ih:KH n)(w:WS)(a:gU)(hs:Lit.aE a.body<=n)(b0:0<=w.br)(c0:w.br<=16)(hb:w.l.length+a.ts+30<=900000000)(hn:n<=100000000):
  bh prog 213 [.ptr 0 0,ag a.c] w.O (.a7 []) (AE (dF n) w a).H 3:=by
 refine bh.le (args:=[.ptr 0 0,ag a.c1]) ?_ ⟨.refl _,a.DP,ac⟩;have e4:Bi.size=2:=rfl;have e5:Hw.size=3:=rfl;have d0:=Lit.aJ a.body;have e0:a.ts=a.var.size+a.j9.ts+Lit.lk a.body:=rfl;have hW: ¬(a.func<1∨5<=a.func∨16<=w.br∨a.body.length=0)->AE (dF n) w a=aW (xj (di (dF n) a.body (xj (qS (aW (aX w (gu a.var)) [a.var,sR,j5 a.func,sS]) a) 1) a.body.length) (-1)) [Bi]:=fun h=>be h;have hB:a.func<1∨5<=a.func∨16<=w.br∨a.body.length=0->AE (dF n) w a=oj w:=fun h=>am h;have hh:=yv w a;have A:=E1 (aW (aX w (gu a.var)) [a.var,sR,j5 a.func,sS]) a;have x:=IW (aW (aX w (gu a.var)) [a.var,sR,j5 a.func,sS]) a;rw[bQ,vV]at x;have B:(xj (qS (aW (aX w (gu a.var)) [a.var,sR,j5 a.func,sS]) a) 1).l.length=(qS (aW (aX w (gu a.var)) [a.var,sR,j5 a.func,sS]) a).l.length:=rfl;have D:(xj (qS (aW (aX w (gu a.var)) [a.var,sR,j5 a.func,sS]) a) 1).br=(qS (aW (aX w (gu a.var)) [a.var,sR,j5 a.func,sS]) a).br+1:=rfl;have y:=mP (dF n) (rV n) a.body (xj (qS (aW (aX w (gu a.var)) [a.var,sR,j5 a.func,sS]) a) 1) a.body.length (W8 _);rw[Yk]at y;have G:=mQ (dF n) (uN n) a.body (xj (qS (aW (aX w (gu a.var)) [a.var,sR,j5 a.func,sS]) a) 1) a.body.length;have I:eQ [a.var,sR,j5 a.func,sS]=a.var.size+(3+((j5 a.func).size+3)):=by simp[eQ,sR,sS];rfl
 have J:=Ct a.func;obtain⟨u,var,j,body⟩:=a;dsimp only at*
 refine ak ab func213 Z (by decide) ntmps213 Z (by simp) ?_;refine zE Z Z (fun g1=>?_) fun g1=>?_
 .rw[hB (.inl (zT g1))];refine gA Z jw
 refine zE Z Z (fun g2=>?_) fun g2=>?_
 .rw[hB (.inr (.inl (zT g2)))];refine gA Z jw
 refine zE Z Z (fun g3=>?_) fun g3=>?_
 .rw[hB (.inr (.inr (.inl (zT g3))))];refine gA Z jw
 refine zJ Z Z (fun g4=>?_) fun g4=>?_
 .rw[hB (.inr (.inr (.inr (aax.1 (zT g4)))))];refine gA Z jw
 have g1: ¬u<1:=zF g1;have g2: ¬u>=5:=zF g2;have g3: ¬w.br>=16:=zF g3;have g4: ¬body.length=0:=fun h=>zF g4 (aax.2 h);rw[hW (by rintro(h|h|h|h)<;>omega)];have hf:u=1∨u=2∨u=3∨u=4:=by omega
 clear hW hB;rcases hf with rfl|rfl|rfl|rfl
 .have e:j5 1=⟨#[99,111,117,110,116]⟩:=rfl;rw[e]at hh A x B D y G I J ⊢;refine gA Z (zp (Ed var) ?_);refine gA Z (iX (d146 w (gu var)) ?_);refine gA Z (Aj (d147 (aX w (gu var)) [var,sR,⟨#[99,111,117,110,116]⟩,sS] (by simp) (by rw[I,aR];omega)) Z Z Z Z Z Z Z Z Z Z Z Z Z Z Z Z (by(repeat' (first|exact ac|exact rfl|exact ae.refl _|exact ae.bk (by assumption)|apply W0))<;>first|omega|(simp only[W6];omega)|(simp;done)|(simp;omega)) Z (by(repeat' (first|exact ac|exact rfl|exact ae.refl _|exact ae.bk (by assumption)|apply W0))<;>first|omega|(simp only[W6];omega)|(simp;done)|(simp;omega)) ?_);generalize a0:aW (aX w (gu var)) [var,sR,⟨#[99,111,117,110,116]⟩,sS]=w1 at*
  have Y:qS w1 ⟨1,var,j,body⟩=aX w1 (ku j):=rfl;rw[Y]at A x B D y G ⊢;refine zE Z Z (fun q=>?_) fun q=>?_
  .exact absurd (show jp=kw from q) (by decide)
  refine gA Z (zp (Om j) ?_);refine gA Z (iX (d146 w1 (ku j)) ?_);generalize aX w1 (ku j)=w2 at*
  refine gA Z (iX (d214 n ih (xj w2 1) body hs (by omega) (by omega) (by omega) hn) ?_);generalize di (dF n) body (xj w2 1) body.length=w3 at*
  refine gA Z (go_wp (d147 (xj w3 (-1)) [Bi] (by simp) (by rw[bx,e4];show w3.l.length+2<=_;omega)) Z Z Z Z Z Z Z Z Z Z Z Z ?_);refine gA Z jw
 .have e:j5 2=⟨#[115,117,109]⟩:=rfl;rw[e]at hh A x B D y G I J ⊢;refine gA Z (zp (Ed var) ?_);refine gA Z (iX (d146 w (gu var)) ?_);refine gA Z (Aj (d147 (aX w (gu var)) [var,sR,⟨#[115,117,109]⟩,sS] (by simp) (by rw[I,aR];omega)) Z Z Z Z Z Z Z Z Z Z Z Z Z Z Z Z (by(repeat' (first|exact ac|exact rfl|exact ae.refl _|exact ae.bk (by assumption)|apply W0))<;>first|omega|(simp only[W6];omega)|(simp;done)|(simp;omega)) Z (by(repeat' (first|exact ac|exact rfl|exact ae.refl _|exact ae.bk (by assumption)|apply W0))<;>first|omega|(simp only[W6];omega)|(simp;done)|(simp;omega)) ?_);generalize a0:aW (aX w (gu var)) [var,sR,⟨#[115,117,109]⟩,sS]=w1 at*
  have Y:qS w1 ⟨2,var,j,body⟩=aW (c6 17 w1 j) [Hw]:=rfl;rw[Y]at A x B D y G ⊢;refine zJ Z Z (fun q=>?_) fun q=>?_
  .exact absurd (show kw=jp from q) (by decide)
  have hx:=dw 17 w1 j;refine gA Z (iX (qp w1 j (by omega)) ?_);refine gA Z (jN (d147 (c6 17 w1 j) [Hw] (by simp) (by rw[bx,e5];omega)) ?_);generalize aW (c6 17 w1 j) [Hw]=w2 at*
  refine gA Z (iX (d214 n ih (xj w2 1) body hs (by omega) (by omega) (by omega) hn) ?_);generalize di (dF n) body (xj w2 1) body.length=w3 at*
  refine gA Z (go_wp (d147 (xj w3 (-1)) [Bi] (by simp) (by rw[bx,e4];show w3.l.length+2<=_;omega)) Z Z Z Z Z Z Z Z Z Z Z Z ?_);refine gA Z jw
 .have e:j5 3=⟨#[109,105,110]⟩:=rfl;rw[e]at hh A x B D y G I J ⊢;refine gA Z (zp (Ed var) ?_);refine gA Z (iX (d146 w (gu var)) ?_);refine gA Z (Aj (d147 (aX w (gu var)) [var,sR,⟨#[109,105,110]⟩,sS] (by simp) (by rw[I,aR];omega)) Z Z Z Z Z Z Z Z Z Z Z Z Z Z Z Z (by(repeat' (first|exact ac|exact rfl|exact ae.refl _|exact ae.bk (by assumption)|apply W0))<;>first|omega|(simp only[W6];omega)|(simp;done)|(simp;omega)) Z (by(repeat' (first|exact ac|exact rfl|exact ae.refl _|exact ae.bk (by assumption)|apply W0))<;>first|omega|(simp only[W6];omega)|(simp;done)|(simp;omega)) ?_);generalize a0:aW (aX w (gu var)) [var,sR,⟨#[109,105,110]⟩,sS]=w1 at*
  have Y:qS w1 ⟨3,var,j,body⟩=aW (c6 17 w1 j) [Hw]:=rfl;rw[Y]at A x B D y G ⊢;refine zJ Z Z (fun q=>?_) fun q=>?_
  .exact absurd (show kw=jp from q) (by decide)
  have hx:=dw 17 w1 j;refine gA Z (iX (qp w1 j (by omega)) ?_);refine gA Z (jN (d147 (c6 17 w1 j) [Hw] (by simp) (by rw[bx,e5];omega)) ?_);generalize aW (c6 17 w1 j) [Hw]=w2 at*
  refine gA Z (iX (d214 n ih (xj w2 1) body hs (by omega) (by omega) (by omega) hn) ?_);generalize di (dF n) body (xj w2 1) body.length=w3 at*
  refine gA Z (go_wp (d147 (xj w3 (-1)) [Bi] (by simp) (by rw[bx,e4];show w3.l.length+2<=_;omega)) Z Z Z Z Z Z Z Z Z Z Z Z ?_);refine gA Z jw
 .have e:j5 4=⟨#[109,97,120]⟩:=rfl;rw[e]at hh A x B D y G I J ⊢;refine gA Z (zp (Ed var) ?_);refine gA Z (iX (d146 w (gu var)) ?_);refine gA Z (Aj (d147 (aX w (gu var)) [var,sR,⟨#[109,97,120]⟩,sS] (by simp) (by rw[I,aR];omega)) Z Z Z Z Z Z Z Z Z Z Z Z Z Z Z Z (by(repeat' (first|exact ac|exact rfl|exact ae.refl _|exact ae.bk (by assumption)|apply W0))<;>first|omega|(simp only[W6];omega)|(simp;done)|(simp;omega)) Z (by(repeat' (first|exact ac|exact rfl|exact ae.refl _|exact ae.bk (by assumption)|apply W0))<;>first|omega|(simp only[W6];omega)|(simp;done)|(simp;omega)) ?_);generalize a0:aW (aX w (gu var)) [var,sR,⟨#[109,97,120]⟩,sS]=w1 at*
  have Y:qS w1 ⟨4,var,j,body⟩=aW (c6 17 w1 j) [Hw]:=rfl;rw[Y]at A x B D y G ⊢;refine zJ Z Z (fun q=>?_) fun q=>?_
  .exact absurd (show kw=jp from q) (by decide)
  have hx:=dw 17 w1 j;refine gA Z (iX (qp w1 j (by omega)) ?_);refine gA Z (jN (d147 (c6 17 w1 j) [Hw] (by simp) (by rw[bx,e5];omega)) ?_);generalize aW (c6 17 w1 j) [Hw]=w2 at*
  refine gA Z (iX (d214 n ih (xj w2 1) body hs (by omega) (by omega) (by omega) hn) ?_);generalize di (dF n) body (xj w2 1) body.length=w3 at*
  refine gA Z (go_wp (d147 (xj w3 (-1)) [Bi] (by simp) (by rw[bx,e4];show w3.l.length+2<=_;omega)) Z Z Z Z Z Z Z Z Z Z Z Z ?_);refine gA Z jw
set_option maxHeartbeats 4000000 in
theorem Hh(n:Nat)(ih:KH n)(hn:n<=100000000):KH (n+1):=by
 intro l w hs a0 b0 hb;have I:Di.size=4:=rfl;have D:=l.size_eq;have G:=l.tD;have B:l.agg.ts=l.bJ.size+l.ky.ts+Lit.lk l.az:=rfl;have Y:dF (n+1) l w=DN (dF n) l (aX w (lU l)):=rfl;rw[Y];have c0:(aX w (lU l)).l.length=w.l.length:=rfl;have d0:=vV w (lU l);have hx:=dw 17 (aX w (lU l)) l.left;obtain⟨kind,atom,op,left,right,dZ,bJ,ky,az,at_⟩:=l;dsimp only[Lit.atom,Lit.left,Lit.right,Lit.bJ,Lit.ky,Lit.az]at D G B hx;refine ak ab func172 Z (by decide) ntmps172 Z (by simp) ?_;refine gA Z (zp (WB (.mk kind atom op left right dZ bJ ky az at_)) ?_);refine gA Z (iX (d146 w (lU (.mk kind atom op left right dZ bJ ky az at_))) ?_);generalize aX w (lU (.mk kind atom op left right dZ bJ ky az at_))=w1 at*
 have J:DN (dF n) (.mk kind atom op left right dZ bJ ky az at_) w1=if kind=2 then iK (aW w1 [Di]) atom else if kind=1 then iK w1 atom
  else if kind=3 then(if op<1∨7<=op then oj (c6 17 w1 left) else c6 17 (aW (c6 17 w1 left) [wL op]) right)
  else if kind=4 then AE (dF n) w1 (Lit.mk kind atom op left right dZ bJ ky az at_).agg else oj w1:=rfl
 rw[J];refine zJ Z Z (fun x=>?_) fun x=>?_
 .have x:kind=2:=zT x;rw[am x];refine gA Z (jN (d147 w1 [Di] (by simp) (by rw[bx,I];omega)) ?_);refine gA Z (iX (d104 (aW w1 [Di]) atom (by rw[aK,I];omega)) ?_);refine gA Z jw
 have x: ¬kind=2:=zF x;rw[be x];refine zJ Z Z (fun u=>?_) fun u=>?_
 .have u:kind=1:=zT u;rw[am u];refine gA Z (iX (d104 w1 atom (by omega)) ?_);refine gA Z jw
 have u: ¬kind=1:=zF u;rw[be u];refine zE Z Z (fun y=>?_) fun y=>?_
 .have y: ¬kind=3:=zF y;rw[be y];refine zJ Z Z (fun A=>?_) fun A=>?_
  .have A:kind=4:=zT A;rw[am A];refine gA Z (iX (d190 n ih w1 (Lit.mk kind atom op left right dZ bJ ky az at_).agg (by show Lit.aE az<=n;omega) (by omega) (by omega) (by omega) hn) ?_);refine gA Z jw
  .have A: ¬kind=4:=zF A;rw[be A];refine gA Z jw
 have y:kind=3:=zT y;rw[am y];refine gA Z (iX (qp w1 left (by omega)) ?_);refine zE Z Z (fun g1=>?_) fun g1=>?_
 .rw[am (.inl (zT g1))];refine gA Z jw
 refine zJ Z Z (fun g2=>?_) fun g2=>?_
 .rw[am (.inr (zT g2))];refine gA Z jw
 have g1: ¬op<1:=zF g1;have g2: ¬op>=7:=zF g2;rw[be (by rintro(h|h)<;>omega)];generalize c6 17 w1 left=w2 at*
 have ho:op=1∨op=2∨op=3∨op=4∨op=5∨op=6:=by omega
 clear J Y;rcases ho with rfl|rfl|rfl|rfl|rfl|rfl
 .have e:wL 1=⟨#[32,61,32]⟩:=rfl;have j:((⟨#[32,61,32]⟩:aq)).size=3:=rfl;rw[e];refine gl Z (by dsimp only[Lit.op];exact(by(repeat' (first|exact ac|exact rfl|exact ae.refl _|exact ae.bk (by assumption)|apply W0))<;>first|omega|(simp only[W6];omega)|(simp;done)|(simp;omega))) (go_wp (d147 w2 [⟨#[32,61,32]⟩] (by simp) (by rw[bx,j];omega)) Z Z Z Z Z Z Z Z Z Z Z Z ?_);refine gA Z (iX (qp (aW w2 [⟨#[32,61,32]⟩]) right (by rw[aK,j];omega)) ?_);refine gA Z jw
 .have e:wL 2=⟨#[32,33,61,32]⟩:=rfl;have j:((⟨#[32,33,61,32]⟩:aq)).size=4:=rfl;rw[e];refine gl Z (by dsimp only[Lit.op];exact(by(repeat' (first|exact ac|exact rfl|exact ae.refl _|exact ae.bk (by assumption)|apply W0))<;>first|omega|(simp only[W6];omega)|(simp;done)|(simp;omega))) (go_wp (d147 w2 [⟨#[32,33,61,32]⟩] (by simp) (by rw[bx,j];omega)) Z Z Z Z Z Z Z Z Z Z Z Z ?_);refine gA Z (iX (qp (aW w2 [⟨#[32,33,61,32]⟩]) right (by rw[aK,j];omega)) ?_);refine gA Z jw
 .have e:wL 3=⟨#[32,60,32]⟩:=rfl;have j:((⟨#[32,60,32]⟩:aq)).size=3:=rfl;rw[e];refine gl Z (by dsimp only[Lit.op];exact(by(repeat' (first|exact ac|exact rfl|exact ae.refl _|exact ae.bk (by assumption)|apply W0))<;>first|omega|(simp only[W6];omega)|(simp;done)|(simp;omega))) (go_wp (d147 w2 [⟨#[32,60,32]⟩] (by simp) (by rw[bx,j];omega)) Z Z Z Z Z Z Z Z Z Z Z Z ?_);refine gA Z (iX (qp (aW w2 [⟨#[32,60,32]⟩]) right (by rw[aK,j];omega)) ?_);refine gA Z jw
 .have e:wL 4=⟨#[32,60,61,32]⟩:=rfl;have j:((⟨#[32,60,61,32]⟩:aq)).size=4:=rfl;rw[e];refine gl Z (by dsimp only[Lit.op];exact(by(repeat' (first|exact ac|exact rfl|exact ae.refl _|exact ae.bk (by assumption)|apply W0))<;>first|omega|(simp only[W6];omega)|(simp;done)|(simp;omega))) (go_wp (d147 w2 [⟨#[32,60,61,32]⟩] (by simp) (by rw[bx,j];omega)) Z Z Z Z Z Z Z Z Z Z Z Z ?_);refine gA Z (iX (qp (aW w2 [⟨#[32,60,61,32]⟩]) right (by rw[aK,j];omega)) ?_);refine gA Z jw
 .have e:wL 5=⟨#[32,62,32]⟩:=rfl;have j:((⟨#[32,62,32]⟩:aq)).size=3:=rfl;rw[e];refine gl Z (by dsimp only[Lit.op];exact(by(repeat' (first|exact ac|exact rfl|exact ae.refl _|exact ae.bk (by assumption)|apply W0))<;>first|omega|(simp only[W6];omega)|(simp;done)|(simp;omega))) (go_wp (d147 w2 [⟨#[32,62,32]⟩] (by simp) (by rw[bx,j];omega)) Z Z Z Z Z Z Z Z Z Z Z Z ?_);refine gA Z (iX (qp (aW w2 [⟨#[32,62,32]⟩]) right (by rw[aK,j];omega)) ?_);refine gA Z jw
 .have e:wL 6=⟨#[32,62,61,32]⟩:=rfl;have j:((⟨#[32,62,61,32]⟩:aq)).size=4:=rfl;rw[e];refine gl Z (by dsimp only[Lit.op];exact(by(repeat' (first|exact ac|exact rfl|exact ae.refl _|exact ae.bk (by assumption)|apply W0))<;>first|omega|(simp only[W6];omega)|(simp;done)|(simp;omega))) (go_wp (d147 w2 [⟨#[32,62,61,32]⟩] (by simp) (by rw[bx,j];omega)) Z Z Z Z Z Z Z Z Z Z Z Z ?_);refine gA Z (iX (qp (aW w2 [⟨#[32,62,61,32]⟩]) right (by rw[aK,j];omega)) ?_);refine gA Z jw
theorem Sw: ∀n,n<=100000001->KH n
 |0,_=>fun l w hs=>by have:=l.size_pos;omega
 |n+1,h=>Hh n (Sw n (by omega)) (by omega)
section
abbrev WS.o:WS:=⟨jp,[],kw,0⟩
section
variable {nt:NT} {Q:AQ} {k:List KI} {s:AS}
def wN(s:AS)(i:Nat):AS:=match s with|⟨f,h,n⟩=>⟨f,(i,io (WS.o.rk i n))::(n,io (.bz [] 5))::h,n+1⟩
theorem Ai{P:Program}{c:Code}{s':AS}(i:Nat)(hi:s.h.get i=io (.cells [.iv (.v (.pointer is)),.iv (.v (.slice is 0 0)),pB kw,pI 0] (io 186)))
  (hs:wN s i=s') (h:GO P nt (.code c::k) Q s'):GO P nt (.code c::k) Q s:=by
 subst hs;intro M N a w hf;obtain⟨sf,sh,x⟩:=s;obtain⟨h1,h2⟩:=hf.1.ON 5;have I:i<x:=hf.1.used i _ hi;have J:i≠x:=fun e=>by omega
 have y:AH.get ((x,io (AO.bz [] 5))::sh) i=io (.cells [.iv (.v (.pointer is)),.iv (.v (.slice is 0 0)),pB kw,pI 0] (io 186)):=by
  rw[AH.ay,be J];exact hi
 obtain⟨A,T,e1,e2,e3,B,e5⟩:=h2.obj i _ y;have hv: ∀(j:Nat) (p:PV),[PV.fe jp i,.sl x 0 0 1,pB kw,pI 0][j]? =io p->VR M N (· <x+1) p (A.getD j undef):=by
  intro j p u
  match j,u with
  |0,u=>
   cases u;have:=B 0 _ Z;generalize A.getD 0 undef=v at this ⊢;cases this with
   |iv _ _ h=>cases h with
    |v=>exact .fe jp i (YF I)
  |1,u=>
   cases u;have:=B 1 _ Z;generalize A.getD 1 undef=v at this ⊢;cases this with
   |iv _ _ h=>cases h with
    |v=>exact .lx _ _ (YM _)
  |2,u=>exact B 2 p u
  |3,u=>exact B 3 p u
  |j+4,u=>cases u
 obtain⟨g1,g2⟩:=h2.write (i:=i) (o0:= .cells [.iv (.v (.pointer is)),.iv (.v (.slice is 0 0)),pB kw,pI 0] (io 186)) y Z w (WS.o.rk i x) Z Z Z Z (fun _ _=>rfl) ⟨A,T,e1,e2,e3,hv,e5⟩;have D:Fits M N ⟨sf,(i,io (WS.o.rk i x))::(x,io (.bz [] 5))::sh,x+1⟩ nt a w:=
  ⟨g2,fun k=>(hf.2.1 k).mono (.refl _) (.refl _ _) (fun i hi=>YF hi),hf.2.2⟩
 exact AW.then h D fun e a2 w2 M2 N2 s2 a0 G Y=>⟨M2,N2,s2,(h1.trans g1).trans a0,G,Y⟩
end
def WS.told(w:WS):PV:= .a7 [pS (if w.bad=jp then⟨#[]⟩ else⟨w.l.toArray⟩),pI (if w.bad=jp then 50 else 0)]
theorem d105(w:WS):bh prog 94 [.ptr 0 0] w.O w.told [] 2:=by
 refine ak ab func94 Z (by decide) ntmps94 Z (by simp) ?_;refine zJ Z Z (fun g=>?_) fun g=>?_
 .have g:w.bad=jp:=g;unfold WS.told;rw[am g,am g];refine gA Z (zD [] Z (zW ac))
 .have g: ¬w.bad=jp:=by
   have g:w.bad=kw:=g;rw[g];decide
  unfold WS.told;rw[be g,be g];refine gA Z (zq [0,1] (d150 w) ?_);refine gA Z (zD [] Z (zW ac))
def Vy(a:Atom):PV:=(iK WS.o a).told
def We(l:Lit):PV:=(dF l.size l WS.o).told
theorem c61(a:Atom)(hb:a.ts<=900000000):Pure prog 175 [ag a.c] (Vy a):=by
 refine ah ab func175 Z (by decide) ntmps175 Z (by simp) Z ?_;refine gM 12 Z (Ai 1 Z Z ?_);refine gA Z (iX (d104 WS.o a (by simpa using hb)) ?_);refine gA Z (zq [1,3] (d105 (iK WS.o a)) ?_);exact zU Z
theorem WN(l:Lit)(hb:l.ts<=900000000)(hs:l.size<=100000000):Pure prog 176 [ag l.c] (We l):=by
 refine ah ab func176 Z (by decide) ntmps176 Z (by simp) Z ?_;refine gM 12 Z (Ai 1 Z Z ?_);refine gA Z (iX (Sw l.size (by omega) l WS.o (W8 _) (by decide) (by decide) (by simpa using hb)) ?_);refine gA Z (zq [1,3] (d105 (dF l.size l WS.o)) ?_);exact zU Z
end
def qM(d:Decl)(i k:Int):Int:=
 if(d.types.any fun x=>!lc (x=1)&&!lc (x=2))=jp∨gi d.name=kw then 1
 else if i>=64∨(d.types.length:Int)>8 then 66 else if k>0 then 60 else 0
theorem WO(d:Decl)(i k:Int):Pure prog 127 [ag d.c,pI i,pI k] (pI (qM d i k)):=by
 refine ah ab func127 Z (by decide) ntmps127 Z (by simp) Z ?_;refine gA Z (zq [] (d153 d.types) ?_);refine zE Z Z (fun g1=>?_) fun g1=>?_
 .rw[qM,am (.inl (by simpa using g1))];exact zU Z
 have g1: ¬(d.types.any fun x=>!lc (x=1)&&!lc (x=2))=jp:=by
  have g1:(d.types.any fun x=>!lc (x=1)&&!lc (x=2))=kw:=g1;rw[g1];decide
 refine gA Z (zp (Vu d.name) ?_);refine zJ Z Z (fun g2=>?_) fun g2=>?_
 .have g2:gi d.name=kw:=by simpa using g2
  rw[qM,am (.inr g2)];exact zU Z
 have g2: ¬gi d.name=kw:=by
  have g2:gi d.name=jp:=by simpa using g2
  rw[g2];decide
 rw[qM,be (by rintro(h|h);exact g1 h;exact g2 h)];refine zE Z Z (fun g3=>?_) fun g3=>?_
 .rw[am (.inl (by simpa using g3))];exact zU Z
 have g3: ¬i>=64:=zF g3;refine zJ Z Z (fun g4=>?_) fun g4=>?_
 .rw[am (.inr (zT g4))];exact zU Z
 have g4: ¬(d.types.length:Int)>8:=zF g4;rw[be (by rintro(h|h);exact g3 h;exact g4 h)];refine zJ Z Z (fun g5=>?_) fun g5=>?_
 .rw[am (zT g5)];exact zU Z
 .rw[be (zF g5)];exact zU Z
abbrev cF:=(KC.si .i64).K
def cF.z:cF:=(Xb,0)
def cF.c(s:cF):List IV:=[iS s.1,iI s.2]
def spE(s:cF):IV:= .agg s.c
def spZ:Value:= .agg #[.string Xb,.int .i64 0]
def dvP:PV->cF
 | .agg [.iv (.v (.string s)),.iv (.v (.int _ a))]=>(s,a)
 |_=>cF.z
abbrev UM:=List (cF×cF)
abbrev KM:=List (cF×Int)
abbrev p5(m:UM):AO:= .map (.si .i64) spE cF.z spZ dvP m
abbrev upI(m:UM):IV:= .fa (.si .i64) spE cF.z spZ m
abbrev qk(m:KM):AO:= .map (.si .i64) AK 0 (.int .i64 0) Wj m
abbrev kdI(m:KM):IV:= .fa (.si .i64) AK 0 (.int .i64 0) m
structure Want where
 lit:Int
 at_:cF
 kind:Int
 has:Int
 deriving Inhabited
def Want.c(w:Want):List IV:=[iI w.lit,iS w.at_.1,iI w.at_.2,iI w.kind,iI w.has]
structure TS where
 up:UM
 ws:List Want
 kind:KM
abbrev TS.cell(r:aw)(u j n k:Nat):AO:= .cells [.iv (cM r),.mp u,.sl j 0 n 5,.mp k]
abbrev TS.O(r:aw)(t:TS):List AO:=[TS.cell r 1 2 t.ws.length 3,p5 t.up,aS 5 t.ws Want.c,qk t.kind]
abbrev TS.K(r:aw)(t:TS):AH:=[(0,io (TS.cell r 1 2 t.ws.length 3)),(1,io (p5 t.up)),(2,io (aS 5 t.ws Want.c)),(3,io (qk t.kind))]
abbrev TS.H(r:aw)(t:TS):AH:=[(0,io (TS.cell r 1 4 t.ws.length 3)),(1,io (p5 t.up)),(4,io (aS 5 t.ws Want.c)),(3,io (qk t.kind))]
def eF(r:aw)(s:aq)(w:Int):cF:=(s,if eh .str (aL (aI r)) s 0>0 then-1 else w)
theorem d136(r:aw)(t:TS)(s:aq)(w:Int):bh prog 249 [.ptr 0 0,pS s,pI w] (t.O r) (ag (eF r s w).c) (t.K r) 4:=by
 refine ak ab func249 Z (by decide) ntmps249 Z (by simp) ?_;refine zJ Z Z (fun g=>?_) fun g=>?_
 .have e:eF r s w=(s, -1):=by unfold eF;rw[am (zT g)]
  rw[e];refine gA Z (zD [] Z (zW (zO (zC ⟨⟨_,rfl,.of_eq (b7 _).symm⟩,WY Z,eR _,zC ac⟩))))
 .have e:eF r s w=(s,w):=by unfold eF;rw[be (zF g)]
  rw[e];refine gA Z (zD [] Z (zW (zO (zC ⟨⟨_,rfl,.of_eq (b7 _).symm⟩,WY Z,eR _,zC ac⟩))))
def bX:UM->cF->cF
 | [],v=>v
 |(x,y)::r,v=>if x=v then bX r y else bX r v
def jg:UM->Prop
 | []=>True
 |(x,y)::r=>x≠y∧(∀q∈r,q.1≠x)∧(∀q∈r,q.2≠x)∧jg r
def F0:UM->cF->Nat
 | [],_=>0
 |(x,_)::r,v=>if x=v then r.length+1 else F0 r v
theorem HI: ∀(m:UM) (v:cF),F0 m v<=m.length
 | [],_=>W8 _
 |(x,y)::r,v=>by
  have:=HI r v;unfold F0;split
  .simp
  .simp;omega
theorem rI: ∀(m:UM) (v:cF),dA (.si .i64) m v=kw->bX m v=v
 | [],_,_=>rfl
 |(x,y)::r,v,h=>by
  unfold dA at h;unfold bX;split at h
  .cases h
  .rename_i j;rw[be j];exact rI r v h
theorem oD: ∀(m:UM) (v:cF),jg m->dA (.si .i64) m v=jp->bX m (eh (.si .i64) m v cF.z)=bX m v∧F0 m (eh (.si .i64) m v cF.z)<F0 m v
 | [],_,_,h=>nomatch h
 |(x,y)::r,v,ok,h=>by
  obtain⟨I,o2,J,Y⟩:=ok;by_cases A:x=v
  .subst A;have e:eh (.si .i64) ((x,y)::r) x cF.z=y:=am Z;rw[e];refine⟨?_,?_⟩
   .show(if x=y then bX r y else bX r y)=if x=x then bX r y else bX r x;rw[am Z];split<;>rfl
   .show(if x=y then r.length+1 else F0 r y)<if x=x then r.length+1 else F0 r x;rw[am Z,be I];have:=HI r y;omega
  .have e:eh (.si .i64) ((x,y)::r) v cF.z=eh (.si .i64) r v cF.z:=be A;have B:dA (.si .i64) r v=jp:=by
    unfold dA at h;rw[be A]at h;exact h
   rw[e];obtain⟨g1,g2⟩:=oD r v Y B;have u:eh (.si .i64) r v cF.z≠x:=by
    have: ∀(m:UM),(∀q∈m,q.2≠x)->dA (.si .i64) m v=jp->eh (.si .i64) m v cF.z≠x:=by
     intro m
     induction m with
     |nil=>intro _ h;cases h
     |cons a r ih=>
      obtain⟨x',y'⟩:=a;intro D h;unfold dA at h;unfold eh;split at h
      .rename_i j;rw[am j];exact D _ Xk
      .rename_i j;rw[be j];exact ih (fun q G=>D q (Xi _ G)) h
    exact this r J B
   refine⟨?_,?_⟩
   .show(if x=_ then bX r y else bX r _)=if x=v then bX r y else bX r v;rw[be (fun e=>u e.symm),be A];exact g1
   .show(if x=_ then r.length+1 else F0 r _)<if x=v then r.length+1 else F0 r v;rw[be (fun e=>u e.symm),be A];exact g2
theorem d52(r:aw)(t:TS)(v0:cF)(ok:jg t.up):bh prog 226 [.ptr 0 0,ag v0.c] (t.O r) (ag (bX t.up v0).c) (t.K r) 4:=by
 refine ak ab func226 Z (by decide) ntmps226 Z (by simp) ?_;refine gA Z ?_
 refine iF (σ:={v:cF//bX t.up v=bX t.up v0}) (fun v=>⟨[(0,.ptr 0 0),(3,.ptr 4 0),(4,.ptr 5 0)],
  [(0,io (TS.cell r 1 2 t.ws.length 3)),(1,io (p5 t.up)),(2,io (aS 5 t.ws Want.c)),(3,io (qk t.kind)),(4,io (.cells [pS v.1.1,pI v.1.2])),(5,io (.cells [pS ⟨#[]⟩,pI 0]))],6⟩) (fun v=>F0 t.up v.1) ⟨v0,rfl⟩ []
  (zW (zO (zC ⟨⟨_,rfl,.of_eq (b7 _).symm⟩,WY Z,eR _,zC ⟨⟨_,rfl,.of_eq Z⟩,WY Z,rfl,⟨_,rfl,.of_eq Z⟩,WY Z,rfl,ac⟩⟩))) fun v=>?_
 obtain⟨v,j⟩:=v;refine zJ Z Z (fun g=>?_) fun g=>?_
 .have h:dA (.si .i64) t.up v=kw:=by simpa using g
  have e:bX t.up v0=v:=by rw[<-j];exact rI t.up v h
  refine gA Z (zD [] Z (zM ⟨.of_eq (congrArg (fun x:cF=>ag x.c) e.symm),rfl,ac⟩ (zO (zC ⟨⟨_,rfl,.of_eq (b7 _).symm⟩,WY Z,eR _,zC ac⟩))))
 .have h:dA (.si .i64) t.up v=jp:=by simpa using g
  obtain⟨h1,u⟩:=oD t.up v ok h;refine gA Z ⟨⟨eh (.si .i64) t.up v cF.z,h1.trans j⟩,[],u,zW (zO (zC ⟨⟨_,rfl,.of_eq (b7 _).symm⟩,WY Z,eR _,zC ⟨⟨_,rfl,.of_eq Z⟩,WY Z,rfl,⟨_,rfl,.of_eq Z⟩,WY Z,rfl,ac⟩⟩))⟩
def Rt(r:aw)(t:TS):IV:= .ln [cM r,upI t.up,aT 5 t.ws Want.c,kdI t.kind]
theorem c52(r:aw)(t:TS)(v0:cF)(ok:jg t.up):Pure prog 226 [.iv (Rt r t),ag v0.c] (ag (bX t.up v0).c):=by
 refine ah ab func226 Z (by decide) ntmps226 Z (by simp) Z ?_;refine gA Z ?_
 refine iF (σ:={v:cF//bX t.up v=bX t.up v0}) (fun v=>⟨[(0,.iv (Rt r t)),(3,.ptr 0 0),(4,.ptr 1 0)],
  [(0,io (.cells [pS v.1.1,pI v.1.2])),(1,io (.cells [pS ⟨#[]⟩,pI 0]))],2⟩) (fun v=>F0 t.up v.1) ⟨v0,rfl⟩ []
  (zW ⟨⟨_,rfl,.of_eq Z⟩,WY Z,rfl,⟨_,rfl,.of_eq Z⟩,WY Z,rfl,ac⟩) fun v=>?_
 obtain⟨v,j⟩:=v;refine zJ Z Z (fun g=>?_) fun g=>?_
 .have h:dA (.si .i64) t.up v=kw:=by simpa using g
  have e:bX t.up v0=v:=by rw[<-j];exact rI t.up v h
  refine gA Z (zL (.of_eq ?_));exact congrArg (fun x:cF=>ag x.c) e.symm
 .have h:dA (.si .i64) t.up v=jp:=by simpa using g
  obtain⟨h1,u⟩:=oD t.up v ok h;refine gA Z ⟨⟨eh (.si .i64) t.up v cF.z,h1.trans j⟩,[],u,zW ⟨⟨_,rfl,.of_eq Z⟩,WY Z,rfl,⟨_,rfl,.of_eq Z⟩,WY Z,rfl,ac⟩⟩
def u7(t:TS)(w:Want):Int:=if w.has=0 then eh (.si .i64) t.kind (bX t.up w.at_) 0 else w.has
def tC(t:TS)(lit:Int)(w:Want):Bool:=lc (w.lit=lit)&&!lc (u7 t w=w.kind)
def sI(t:TS)(lit:Int):Bool:=t.ws.any (tC t lit)
theorem WK(r:aw)(t:TS)(lit:Int)(ok:jg t.up)(hb:t.ws.length<=1000000000000):Pure prog 188 [.iv (Rt r t),pI lit] (pB (sI t lit)):=by
 refine ah ab func188 Z (by decide) ntmps188 Z (by simp) Z ?_;refine gA Z ?_;refine aN 0 t.ws.length (Xc _) (fun i=>⟨[(0,.iv (Rt r t)),(1,pI lit),(11,.iv (aT 5 t.ws Want.c)),(12,pI t.ws.length),(13,pI i)],[],0⟩) (fun i=>(t.ws.take i).any (tC t lit)=kw) [] Z
  (zW trivial) fun i hi A=>?_
 refine zJ Z Z (fun h1=>?_) fun h1=>?_
 .have h1:i<t.ws.length:=by simpa using h1
  have y:=c7 A h1;refine zJ Z Z (fun x=>?_) fun x=>?_
  .have x:(t.ws.getD i co).has=0:=zT x;refine gA Z (Ej (c52 r t (t.ws.getD i co).at_ ok) ?_);have hk:u7 t (t.ws.getD i co)=eh (.si .i64) t.kind (bX t.up (t.ws.getD i co).at_) 0:=am x;refine zJ Z Z (fun j=>?_) fun j=>?_
   .have j:(t.ws.getD i co).lit=lit:=zT j;refine zJ Z Z (fun u=>?_) fun u=>?_
    .have u: ¬u7 t (t.ws.getD i co)=(t.ws.getD i co).kind:=by rw[hk];simpa using u
     have e:sI t lit=jp:=Yr.2 ⟨t.ws.getD i co,by rw[W2,W5 h1];exact XS h1,by rw[tC,decide_eq_true j,decide_eq_false u];rfl⟩;refine gA Z (zL (.of_eq ?_));rw[e]
    .have u:u7 t (t.ws.getD i co)=(t.ws.getD i co).kind:=by rw[hk];simpa using u
     refine gA Z ⟨h1,y.2 (by rw[tC,decide_eq_true u,Zs,Zv]),[],zW ac⟩
   .have j: ¬(t.ws.getD i co).lit=lit:=by simpa using j
    refine gA Z ⟨h1,y.2 (by rw[tC,decide_eq_false j];rfl),[],zW ac⟩
  .have x: ¬(t.ws.getD i co).has=0:=zF x;have hk:u7 t (t.ws.getD i co)=(t.ws.getD i co).has:=be x;refine zJ Z Z (fun j=>?_) fun j=>?_
   .have j:(t.ws.getD i co).lit=lit:=zT j;refine zJ Z Z (fun u=>?_) fun u=>?_
    .have u: ¬u7 t (t.ws.getD i co)=(t.ws.getD i co).kind:=by rw[hk];simpa using u
     have e:sI t lit=jp:=Yr.2 ⟨t.ws.getD i co,by rw[W2,W5 h1];exact XS h1,by rw[tC,decide_eq_true j,decide_eq_false u];rfl⟩;refine gA Z (zL (.of_eq ?_));rw[e]
    .have u:u7 t (t.ws.getD i co)=(t.ws.getD i co).kind:=by rw[hk];simpa using u
     refine gA Z ⟨h1,y.2 (by rw[tC,decide_eq_true u,Zs,Zv]),[],zW ac⟩
   .have j: ¬(t.ws.getD i co).lit=lit:=by simpa using j
    refine gA Z ⟨h1,y.2 (by rw[tC,decide_eq_false j];rfl),[],zW ac⟩
 .have h1:t.ws.length<=i:=by simpa using h1
  rw[Xh h1]at A;refine gA Z (zL (.of_eq ?_));rw[sI,A]
end Go.Proofs.YtlmhfgbkchnfbaaGreatDoor
