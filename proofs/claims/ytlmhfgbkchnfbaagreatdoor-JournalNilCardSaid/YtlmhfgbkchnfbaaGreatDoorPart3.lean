/-
  What the proofs of the claims need: part 3 of 5.
-/
import Derived.Test.YtlmhfgbkchnfbaaGreatDoorPart2
import Derived.RangeFuncRecord
import Derived.RangeFuncCalls
import Derived.TacticsIn
import Derived.Lib.SlBytesConst
import Derived.Defers
import Derived.KernelRfl
import Derived.Test.YtlmhfgbkchnfbaaGreatDoorProg
import Derived.Sort.EncStr
import Derived.Sort.Grow
import Derived.Sort.Walk0
import Derived.Shelf.Sort.Plain
import Derived.Shelf.Slices.In.SortNone
import Derived.Shelf.Slices.In.SortNone2
import Derived.WalkKit
import Derived.Lib.Builder
import Derived.Lib.UnsafeStr
import Derived.Laws.Externs
import Derived.Shelf.RegionOpenPlain
import Derived.Laws.RangeString
import Derived.Shelf.LaysM
import Derived.Shelf.Strconv.Itoa3
import Derived.Lib.ItoaLen
open And renaming intro→Vo
open Array renaming append_assoc→X7,eq_empty_of_size_eq_zero→WJ,getD_eq_getD_getElem?→Vn,getElem?_append_left→V3,getElem?_append_right→Xi,getElem?_eq_getElem→V6,getElem?_eq_some_iff→WC,getElem?_modify→VZ,getElem?_setIfInBounds→V1,getElem?_toList→VY,size_append→W1,toArray_toList→W5
open Bool renaming and_eq_true→Wf,and_false→XV,eq_iff_iff→WR,false_and→Xj,false_eq_true→Xe,false_or→Xn,not_eq_true'→WA,not_false→Yr,not_true→XO,or_eq_false_iff→Xg,or_eq_true→Xz,true_and→X4,true_or→Yq
open ByteArray renaming empty→Vx,size→YP
open Classical renaming byContradiction→WV
open Int renaming fdiv_eq_ediv_of_nonneg→WL,ofNat_lt→YE,toNat→XP,toNat_natCast→Vu
open List.Nodup renaming length_le_of_subset→WK
open List.Pairwise renaming nil→XB
open List renaming all_eq_true→Wc,any_cons→YU,any_eq_false→Wm,any_eq_true→WN,append_assoc→VF,append_nil→We,cons_append→VT,ext_getElem?→XD,filterMap_append→YI,filterMap_cons→YT,filter_cons→Xh,filter_eq_self→X0,findIdx?_eq_none_iff→Yt,findIdx?_eq_some_iff_getElem→X9,flatMap_append→X3,flatMap_cons→Wt,foldl_cons→Ws,getD→Yz,getD_cons_succ→WQ,getD_cons_zero→Xk,getD_eq_getElem?_getD→Vr,getElem?_append_left→VJ,getElem?_append_right→VK,getElem?_drop→Wl,getElem?_eq_getElem→Vt,getElem?_eq_some_iff→Vs,getElem?_map→Vv,getElem?_of_mem→Wh,getElem?_take→V8,getElem?_toArray→Wd,getElem_map→Xb,getElem_mem→Wj,le_antisymm→YA,length_append→Vp,length_cons→VX,length_drop→Wu,length_filter_le→WO,length_map→VS,length_nil→WH,length_pos_iff→WD,length_singleton→VW,length_take→V7,map_append→VD,map_congr_left→WE,map_cons→Vy,map_map→Wx,map_nil→VQ,mem_append→VM,mem_append_left→Wi,mem_append_right→WY,mem_cons→VH,mem_cons_of_mem→VE,mem_cons_self→VG,mem_filter→V4,mem_flatMap→Ym,mem_map→V5,mem_of_getElem?→V2,mem_range→WX,mem_singleton→Vz,nil_append→VU,nodup_append→W3,nodup_cons→Wb,nodup_nil→Wn,not_lt→Y6,not_mem_nil→Yl,pairwise_cons→Wz,pairwise_singleton→XK,perm_ext_iff_of_nodup→W6,range→V0,size_toArray→XC,sum_cons→WU,take_append_drop→XR,take_length→WG,take_of_length_le→VI,take_succ_cons→WM,take_zero→Ye
open Nat renaming add_assoc→WB,add_mul→Wg,add_zero→WZ,beq→VP,ble→Xr,ble_eq_true_of_le→Wo,blt→VV,le_add_left→X5,le_add_right→Yk,le_of_ble_eq_true→Vm,le_of_eq→YD,le_of_not_lt→W9,le_refl→VA,le_succ→Xx,lt_irrefl→Yn,lt_of_lt_of_le→W4,lt_or_ge→Wp,lt_succ_of_lt→W2,lt_succ_self→Xa,min_le_right→Y2,mul_le_mul_right→VO,mul_one→XT,sub_mul→YM,sub_zero→Yb,zero_add→VL,zero_le→VB,zero_mul→W0
open Option renaming bind_some→XJ,getD_some→Wv,map_eq_some_iff→Vw,map_some→Ww
open Option.some renaming injEq→Vq
open Prod renaming fst→Wy
set_option maxRecDepth 100000
open Bool renaming false→jp,true→is
open Decidable renaming decide→kw
open Inhabited renaming default→ci
open Option renaming none→io,some→co
open Array renaming range→Yu
open Array renaming getElem?_map→X6
open Nat renaming mod_eq_of_lt→XH
namespace Go.Al
theorem bi{a b:PV}{c:Bool}{X:Prop}(h:X)(h1:a=b:=by rfl)(h2:c=true:=by rfl):ae a b∧c=true∧X:=⟨by subst h1;exact fun _ _ _ _ h=>h,h2,h⟩
theorem bv{i n:Nat}(h:decide ((i:Int)<(n:Int))=true):i<n:=by simpa using h
theorem ce{i n:Nat}(h:decide ((i:Int)<(n:Int))=false):n≤i:=by simpa using h
end Go.Al
namespace Go.Al
section
section
variable {P:Program} {ty:Ty} {nt:NT} {s:AS}
theorem M7(x1:bn P ty){o:Oper}{x y:Operand}{t u:TypeId}(ho:o.op= .call ⟨.builtin .append, #[x,y], #[t,t]⟩){e eu:bC}(ht:ty t=co e)(hk:e.k= .aP (.slice u))(hu:ty u=co eu)
  {i len sz:Nat} {es news:List (List PV)} {py:PV} (r2: ∀(M:Mem) (N:Nm) (a:Act) (w:World),Fits M N s nt a w->VR M N (· <s.nx) (.sl i 0 len sz) (a.eval x)) (hi:s.h.get i=co (.row sz es)) (D:es.length=len) (m2:eu.size=sz) (hz:eu.zero.cells.size=sz) (l2:0<sz)
  (j2:ev s.f y=py) (hy:Src s.h sz py news) (n1: ∀e∈news,dt e=is) (hb:(len+news.length)*eu.bytes<=140737488355328) (t2:len+news.length<=140737488355328)
  {s':AS} (hp:putDst nt o (.sl s.nx 0 (len+news.length) sz) (ir s i sz es news)=co s'):OT P nt o s (fun t=>t=s'):=by
 refine OT.value hp fun M N a w hf=>?_;subst m2;obtain⟨⟨ii,r0,x0,e2,v1⟩,_⟩:=x1 u _ hu
 have t0:P.underlying t=co (.slice u):=by
  have:=(x1 t _ ht).2.1;rw[hk]at this;exact this.1
 have z1:=r2 M N a w hf;have a2:=aN hf.2.1 y;rw[j2]at a2;obtain⟨J,ao,c,s2,e0⟩:=hy.ok hf a2;have B: ∀v w',(Builtin.append_ #[t,t] o.type #[a.eval x,a.eval y]).run P w= .ok v w'->(execOp a.eval o).run P w= .ok (.value v) w':=by
  intro v w' h;simp only[execOp,ho,resolve];simp[invoke,builtin,h]
 rw[s2]at B;have v2:i<s.nx:=hf.1.used i _ hi;have z0:s.nx≠i:=by omega
 have i2:=hf.1.obj i _ hi;have c0:(len+news.length)*ii.bytes<=140737488355328:=by rw[e2];exact hb
 have i0: ∀(G vs:List Value) (a0:Nat),G.length=es.length*eu.size->vs.length=news.length*eu.size->(∀(k:Nat) (e:List PV) (j:Nat) (p:PV),es[k]? =co e->e[j]? =co p->VR M N (· <s.nx) p (G.getD (k*eu.size+j) undef))->
   (∀(k:Nat) (e:List PV),es[k]? =co e->e.length=eu.size)->(∀(j:Nat) (p:PV),news.flatten[j]? =co p->VR M N (· <s.nx) p (vs.getD j undef))->len+news.length<=a0->a0<=maxLen->0<len+news.length->
   ∀z:Array Value,z=G.toArray++vs.toArray++Builtin.zeroCells eu.zero.cells (a0-(len+news.length))->
   ∃M' N',Ext M N (· <s.nx) s.h w M' N' (· <(ir s i eu.size es news).nx) (ir s i eu.size es news).h (w.drew.alloc (.cells z u))∧Fits M' N' (ir s i eu.size es news) nt a (w.drew.alloc (.cells z u))∧
    VR M' N' (· <(ir s i eu.size es news).nx) (.sl s.nx 0 (len+news.length) eu.size) (.slice (co ⟨w.heap.size,0,io⟩) (len+news.length) a0):=by
  intro G vs a0 m1 Y o2 t1 n2 m0 d2 o1 z r1;have g0:z.size=a0*eu.size:=by
   rw[r1,W1,W1,size_zeroCells,hz];simp only[XC,m1,Y,D];rw[<-Wg,<-Wg,Nat.add_sub_cancel' m0]
  obtain⟨N',h1,h2,h3,h4,h5⟩:=hf.1.drew.alloc (.cells z u) (.row eu.size (es++news)) z.size (fun N' g1 g2 g3=>by
   refine .inr ⟨l2,z,u,by rw[g1];exact heap_alloc_new _ _,g2.symm,?_,fun k e A=>?_,fun k e j p A I=>?_⟩
   .rw[g0,Vp,D];exact VO _ m0
   .rcases Wp k es.length with hk|hk
    .rw[VJ hk]at A;exact t1 k e A
    .rw[VK hk]at A;exact J _ e A
   .rcases Wp k es.length with hk|hk
    .rw[VJ hk]at A;have j1:j<eu.size:=by rw[<-t1 k e A];exact(Vs.1 I).1
     have q0:k*eu.size+j<G.length:=by
      rw[m1];have:(k+1)*eu.size<=es.length*eu.size:=VO _ hk;rw[Wg]at this;omega
     have:=o2 k e j p A I;have e1:z.getD (k*eu.size+j) undef=G.getD (k*eu.size+j) undef:=by
      rw[r1,Vn,X7,V3 (by simpa using q0),Vr];simp
     rw[e1];exact this.mono (.refl _) g3 (fun i hi=>by omega)
    .rw[VK hk]at A;have j1:j<eu.size:=by rw[<-J _ e A];exact(Vs.1 I).1
     have k1:k-es.length<news.length:=(Vs.1 A).1;have i1:=jr J _ e j p A I;have q0:(k-es.length)*eu.size+j<vs.length:=by
      rw[Y];have:(k-es.length+1)*eu.size<=news.length*eu.size:=VO _ k1;rw[Wg]at this;omega
     have f0:k*eu.size+j=G.length+((k-es.length)*eu.size+j):=by
      rw[m1,YM];have:es.length*eu.size<=k*eu.size:=VO _ hk;omega
     have:=n2 _ p i1;have e1:z.getD (k*eu.size+j) undef=vs.getD ((k-es.length)*eu.size+j) undef:=by
      rw[r1,Vn,f0,V3 (by simp;omega),Xi (by simp),Vr];simp
     rw[e1];exact this.mono (.refl _) g3 (fun i hi=>by omega))
  have k2:=(h5.del i).swap (Ne.symm z0);have p2:=(((Ext.drew (M:=M) (N:=N) (U:=(· <s.nx)) (h:=s.h) (w:=w)).trans h4).del i).swap (Ne.symm z0);obtain⟨g1,g2⟩:=iJ hf p2 k2;refine⟨M,N',g1,g2,?_⟩;rw[gI];have:=VR.sl (M:=M) (N:=N') (U:=(· <s.nx+1)) s.nx 0 (len+news.length) eu.size a0 (by omega) o1 m0 d2 (by rw[h2,g0];simp);rw[h1,W0]at this;exact this
 have o0: ∀vs:List Value,vs.length=news.flatten.length->vs.length=news.length*ii.size:=fun vs h=>by rw[h,fi J,x0]
 generalize a.eval x=vx at z1 B;cases z1 with
 |kP _ _ hU=>
  have A:es=[]:=by simpa using D
  subst A;by_cases hm:news=[]
  .subst hm;have C:=ff (P:=P) (w:=w) t o.type u ii t0 r0 io 0 0 (VA _) ao c (.inl Z);obtain⟨h1,h2⟩:=hf.1.B1 eu.size;obtain⟨g1,g2⟩:=iJ (es:=[]) (news:=[]) (i:=i) hf ((h1.del i).swap (Ne.symm z0)) ((h2.del i).swap (Ne.symm z0));exact⟨_,w,M,N,B _ _ C,g1,g2,.kP _ _ (by rw[gI];omega)⟩
  .obtain⟨b,b1,d1,b0⟩:=e0 hm;subst d1;obtain⟨vs,Y,a1,w0⟩:=kN (s:=s) b0;have w1:0<news.length:=WD.2 hm;have C:=run_append_nil (P:=P) w t o.type u ii eu.zero t0 r0 v1 ⟨b,b1,io⟩ news.length c vs (o0 vs Y) a1 w1 (by omega) (by simp only[WH,VL]at c0;omega);obtain⟨M',N',g1,g2,g3⟩:=i0 [] vs (grownCap w news.length 0 u) (by simp) (by rw[Y,fi J]) (by simp) (by simp) w0 (by simpa using grownCap_ge w news.length 0 u) (grownCap_le_maxLen w _ _ _ (by simp only[maxLen];omega)) (by omega) _ Z;simp only[VL,VU] at*
   exact⟨_,_,M',N',B _ _ C,by simpa using g1,by simpa using g2,by simpa using g3⟩
 |sl _ _ _ _ a0 hU h0 hl hc hext=>
  rcases i2 with rfl|⟨hsz0,cur,T,q1,q2,q3,q4,q5⟩
  .simp at D;omega
  have k0:(AO.row eu.size es).real=is:=by cases es with
   |nil=>simp at D;omega
   |cons=>rfl
  rw[W0]at B;have n0:cur.size=a0*eu.size:=by rw[q2,<-hext,VL]
  by_cases hm:news=[]
  .subst hm;have C:=ff (P:=P) (w:=w) t o.type u ii t0 r0 (co ⟨N.az i,0,io⟩) len a0 hl ao c (.inr ⟨_,_,rfl⟩)
   obtain⟨h1,h2⟩:=hf.1.move hi k0 w (.row eu.size (es++ [])) Z Z Z Z (fun _ _=>rfl) (by
    rw[We]
    exact .inr ⟨hsz0,cur,T,by simpa using q1,by simpa using q2,q3,q4,fun k e j p A I=>(q5 k e j p A I).mono (.refl _) (N.dm _ _ _) (fun i hi=>by omega)⟩)
   obtain⟨g1,g2⟩:=iJ (es:=es) (news:=[]) (i:=i) hf h1 h2;refine⟨_,w,M,_,B _ _ C,g1,g2,?_⟩;have:=VR.sl (M:=M) (N:=N.with s.nx (N.az i) (N.ext i)) (U:=(· <s.nx+1)) s.nx 0 len eu.size a0 (by omega) h0 hl hc (by simpa using hext);rw[gI];simpa using this
  .obtain⟨b,b1,d1,b0⟩:=e0 hm;subst d1;obtain⟨vs,Y,a1,w0⟩:=kN (s:=s) b0;have w1:0<news.length:=WD.2 hm;have p0:vs.length=news.length*eu.size:=by rw[Y,fi J]
   have s0: ∀(j:Nat) (v:Value),(cur.toList.take (len*eu.size))[j]? =co v->w.cell? ((⟨N.az i,0,io⟩:Addr).add j)=co v:=by
    intro j v hv;rw[V8]at hv;split at hv
    .rw[cY,VL];simp only[World.cell?,q1];simpa using hv
    .cases hv
   have w2:len*eu.size<=cur.size:=by rw[n0];exact VO _ hl
   have j0: ∀(k:Nat) (e:List PV) (j:Nat) (p:PV),es[k]? =co e->e[j]? =co p->k*eu.size+j<len*eu.size:=by
    intro k e j p A I;have hk:k<len:=by rw[<-D];exact(Vs.1 A).1
    have j1:j<eu.size:=by rw[<-q4 k e A];exact(Vs.1 I).1
    have:(k+1)*eu.size<=len*eu.size:=VO _ hk;rw[Wg]at this;omega
   by_cases d0:len+news.length<=a0
   .have f1:len*eu.size+vs.length<=cur.size:=by rw[p0,<-Wg,n0];exact VO _ d0
    have v0: ∀v∈vs,v.oneCell'=is:=by
     intro v hv;obtain⟨j,I⟩:=Wh hv;have f2:j<news.flatten.length:=by rw[<-Y];exact(Vs.1 I).1
     have hp:=Vt f2;obtain⟨k,e,i',h1,h2,_⟩:=js J j _ hp;have:=(w0 j _ hp).one (gk (n1 e (V2 h1)) i' _ h2);rw[Vr,I]at this;exact this
    have C:=iQ (P:=P) (w:=w) t o.type u ii t0 r0 T (N.az i) len a0 cur q1 ⟨b,b1,io⟩ news.length c vs (o0 vs Y) a1 v0 d0 (by rw[x0];exact f1);rw[x0]at C;generalize hL:(cur.toList.take (len*eu.size)++vs++cur.toList.drop (len*eu.size+vs.length)).toArray=L at C;have s1:L.size=cur.size:=by rw[<-hL];simp;omega
    have p1:=setRow_heap w (N.az i) cur L T (0,0) q1;have c2: ∀j,j<len*eu.size->L.getD j undef=cur.getD j undef:=by
     intro j I;rw[<-hL,Vn,Vn];simp only[Wd];rw[VF,VJ (by simp;omega),V8,am I,VY]
    have b2: ∀j,j<vs.length->L.getD (len*eu.size+j) undef=vs.getD j undef:=by
     intro j I;rw[<-hL,Vn,Vr];simp only[Wd];rw[VJ (by simp;omega),VK (by simp;omega)];congr 2;simp;omega
    obtain⟨h1,h2⟩:=hf.1.move hi k0 (w.setRow (N.az i) L) (.row eu.size (es++news)) Z Z Z (by simp) (fun b hb=>by
      simp only[World.setRow,VZ]
      rw[be (fun e=>hb e.symm)]) (by
     refine .inr ⟨hsz0,L,T,by simpa using p1,by rw[s1];simpa using q2,?_,fun k e A=>?_,fun k e j p A I=>?_⟩
     .rw[s1,n0,Vp,D];exact VO _ d0
     .rcases Wp k es.length with hk|hk
      .rw[VJ hk]at A;exact q4 k e A
      .rw[VK hk]at A;exact J _ e A
     .rcases Wp k es.length with hk|hk
      .rw[VJ hk]at A;rw[c2 _ (j0 k e j p A I)];exact(q5 k e j p A I).mono (.refl _) (N.dm _ _ _) (fun i hi=>by omega)
      .rw[VK hk]at A;have j1:j<eu.size:=by rw[<-J _ e A];exact(Vs.1 I).1
       have k1:k-es.length<news.length:=(Vs.1 A).1;have i1:=jr J _ e j p A I;have q0:(k-es.length)*eu.size+j<vs.length:=by
        rw[p0];have:(k-es.length+1)*eu.size<=news.length*eu.size:=VO _ k1;rw[Wg]at this;omega
       have f0:k*eu.size+j=len*eu.size+((k-es.length)*eu.size+j):=by
        rw[<-D,YM];have:es.length*eu.size<=k*eu.size:=VO _ hk;omega
       rw[f0,b2 _ q0]
       exact(w0 _ p i1).mono (.refl _) (N.dm _ _ _) (fun i hi=>by omega))
    obtain⟨g1,g2⟩:=iJ (es:=es) (news:=news) (i:=i) hf h1 h2;refine⟨_,_,M,_,B _ _ C,g1,g2,?_⟩;have:=VR.sl (M:=M) (N:=N.with s.nx (N.az i) (N.ext i)) (U:=(· <s.nx+1)) s.nx 0 (len+news.length) eu.size a0 (by omega) (by omega) d0 hc (by simpa using hext);rw[gI];simpa using this
   .have C:=run_append_grow (P:=P) w t o.type u ii eu.zero t0 r0 v1 ⟨N.az i,0,io⟩ len a0 (cur.toList.take (len*eu.size)) (by rw[x0];simp;omega) s0 ⟨b,b1,io⟩ news.length c vs (o0 vs Y) a1 (by omega) (by omega)
     (growslice_fits (by omega) c0)
    obtain⟨M',N',g1,g2,g3⟩:=i0 (cur.toList.take (len*eu.size)) vs (grownCap w (len+news.length) a0 u) (by rw[D];simp;omega) p0 (fun k e j p A I=>by
      have:=q5 k e j p A I;have q0:=j0 k e j p A I;rw[Vr,V8,am q0,VY]
      rw[Vn]at this;exact this) q4 w0 (grownCap_ge w _ _ _) (grownCap_le_maxLen w _ _ _ (by simp only[maxLen];omega)) (by omega) _ Z
    exact⟨_,_,M',N',B _ _ C,g1,g2,g3⟩
theorem ug(J:bn P ty){o:Oper}{x y:Operand}{t u:TypeId}(ho:o.op= .call ⟨.builtin .append, #[x,y], #[t,t]⟩){e eu:bC}(ht:ty t=co e)(hk:e.k= .aP (.slice u))(hu:ty u=co eu)
  {sz:Nat} {news:List (List PV)} (hx:ev s.f x= .iv (.v (.slice io 0 0))) (I:eu.size=sz) (hz:eu.zero.cells.size=sz) (G:0<sz)
  (a0:wo ((s.nx,co (.row sz []))::s.h) sz (ev s.f y)=co news) (j: ∀e∈news,dt e=is) (hb:news.length*eu.bytes<=140737488355328) (A:news.length<=140737488355328)
  {s':AS} (hp:putDst nt o (.sl (s.nx+1) 0 news.length sz) ⟨s.f,(s.nx+1,co (.row sz news))::(s.nx,io)::(s.nx,co (.row sz []))::s.h,s.nx+2⟩=co s'):OT P nt o s (fun t=>t=s'):=by
 intro M N a w hf K Z D;obtain⟨h1,h2⟩:=hf.1.B1 sz;have C:Fits M N ⟨s.f,(s.nx,co (.row sz []))::s.h,s.nx+1⟩ nt a w:=⟨h2,hf.2.1.ext h1,hf.2.2⟩
 refine M7 (s:=⟨s.f,(s.nx,co (.row sz []))::s.h,s.nx+1⟩) J ho ht hk hu (i:=s.nx) (len:=0) (sz:=sz) (es:=[]) (news:=news) (py:=ev s.f y) (fun M N a w hf=>?_) (by rw[AH.ax,am rfl]) rfl I hz G rfl (gG a0) j (by rw[VL];exact hb) (by rw[VL];exact A) (s':=s') ?_ M N a w C K Z fun M' N' t a' w' hx B ht=>D M' N' t a' w' (h1.trans hx) B ht
 .have Y:=aN hf.2.1 x;rw[hx]at Y;generalize a.eval x=v at Y;cases Y with
  |iv _ _ h=>cases h with
   |v=>exact .kP _ _ (Xa _)
 .rw[VL];exact hp
end
def L2(o:Oper):Bool:=match o.op with| .defer _=>jp|_=>is
section conv
variable {P:Program} {ro:Option Nat} {n:Nat}
end conv
section
variable {P:Program}
variable {nt:NT} {s:AS} {R:AS->Prop}
end
end
end Go.Al
namespace Go
section
variable {P:Program}
end
end Go
namespace Go.Al
section
section
variable {P:Program} {s:AS} {n:Nat}
end
def ML:List Code->Code->Code
 | [],t=>t
 |c::r,t=> .seq c (ML r t)
theorem Bh{P:Program}{nt:NT}{Q:AQ}{e:Exit}{s:AS}(he:e≠ .normal): ∀j:List Code,kp P nt (j.map .code) Q e s->Q e s
 | [],h=>h
 |c::r,h=>by
  rw[Vy]at h;unfold kp at h;cases e<;>first|exact absurd Z he|exact Bh he r h
theorem Bv{P:Program}{nt:NT}{Q:AQ}{T:Code}{Z:Exit->Act->World->Prop}: ∀(cs:List Code) {s:AS} {M:Mem} {N:Nm} {a:Act} {w:World},GO P nt (cs.map .code) Q s->Fits M N s nt a w->
  (∀y j u x s',Ext M N (· <s.nx) s.h w u x (· <s'.nx) s'.h j->Fits u x s' nt y j->Q .normal s'->T.wp P Z y j)->
  (∀e y j u x s',e≠ .normal->Ext M N (· <s.nx) s.h w u x (· <s'.nx) s'.h j->Fits u x s' nt y j->Q e s'->Z e y j)->(ML cs T).wp P Z a w
 | [],s,M,N,a,w,h,hf,hz,_=>hz a w M N s (.refl _ _ _ _ _) hf h
 |c::r,s,M,N,a,w,h,hf,hz,hq=>by
  refine wp_seq (AW.then (R:=kp P nt (r.map .code) Q) h hf fun e y j u x s' Y G hk=>?_);by_cases D:e= .normal
  .subst D;exact Bv r hk G (fun a2 w2 I J s2 C A B=>hz a2 w2 I J s2 (Y.trans C) A B) fun e a2 w2 I J s2 D C A B=>hq e a2 w2 I J s2 D (Y.trans C) A B
  .have h1:=hq e y j u x s' D Y G (Bh D r hk);cases e<;>first|exact absurd rfl D|exact h1
section
variable {P:Program}
end
section
variable {P:Program} {ty:Ty} {nt:NT} {s:AS}
theorem MK(c0:bn P ty){o:Oper}{x:Operand}{t u:TypeId}{et eu:bC}(ho:o.op= .convert t t x)(ht:ty t=co et)(hk:et.k= .aP (.slice u))(hu:ty u=co eu)(e0:eu.k= .aP (.int .u8))
  {i n:Nat} {es:List (List PV)} (el:Nat->List IV) (hx:ev s.f x= .sl i 0 n 1) (hi:s.h.get i=co (.row 1 es)) (d0: ∀k e,es[k]? =co e->e=(el k).map .iv) (hn:n=es.length) (p0:0<n)
  {s':AS} (hp:putDst nt o (.iv (.bK 1 n fun k=>el (0+k))) ⟨s.f,(i,io)::s.h,s.nx⟩=co s'):OT P nt o s (fun t=>t=s'):=by
 refine OT.value hp fun M N a w hf=>?_;have i0:P.underlying t=co (.slice u):=by have:=(c0 t _ ht).2.1;rw[hk]at this;exact this.1
 have k0:P.underlying u=co (.int .u8):=by have:=(c0 u _ hu).2.1;rw[e0]at this;exact this.1
 obtain⟨M',D,G,v1⟩:=oQ hf.1 hi d0;have C:=aN hf.2.1 x;rw[hx]at C;have hv:=v1 _ _ C (by simp[PV.ba,hn]);have a0:=hf.1.obj i _ hi;have y:(AO.row 1 es).real=is:=by
  cases es with
  |nil=>simp at hn;omega
  |cons=>rfl
 rcases a0 with h0|⟨_,c,T,hc,n0,_⟩
 .rw[h0]at y;cases y
 generalize m0:a.eval x=vx at C hv;cases C with
 |kP=>omega
 |sl _ _ _ _ cap hU h0 hl hcp hext=>
  have g0:w.shape? (N.az i)=co (T,c.size):=by unfold World.shape?;rw[hc]
  obtain⟨I,A⟩: ∃I,I=w.freeze ⟨N.az i,c.size,io⟩ 1:=⟨_,rfl⟩
  have o0:N.az i<w.heap.size:=(WC.1 hc).1;have hnew:I.heap[N.az i]? =co (.cells c T (c.size,c.size+1)):=by
   rw[A];unfold World.freeze;rw[be (by decide)];simp only[VZ,if_true,hc,Ww];rfl
  have B: ∀b,b≠N.az i->I.heap[b]? =w.heap[b]? :=fun b hb=>by
   rw[A];unfold World.freeze;rw[be (by decide)];simp only[VZ,be (Ne.symm hb)]
  have j0:I.heap.size=w.heap.size:=by
   rw[A];unfold World.freeze;rw[be (by decide)];simp
  have b0:(convert t t (.slice (co ⟨N.az i,0*1,io⟩) n cap)).run P w= .ok (.slice (co ⟨N.az i,0*1,io⟩) n cap) I:=by
   rw[A];simp[convert,run_underlying i0,run_underlying k0,markStringish,g0]
  refine⟨.slice (co ⟨N.az i,0*1,io⟩) n cap,I,M',N,?_,?_,?_,?_⟩
  .simp only[execOp,ho,m0];rw[Sem.run_bind,b0];rfl
  .refine⟨by rw[A];exact D.os,by rw[A];exact D.tape,by rw[A];exact⟨rfl,VA _⟩,by rw[j0];exact VA _,fun b hb f0=>B b fun e=>f0 i _ hi y e.symm,D.nZ,D.iq,D.nm,D.ule,D.gh⟩
  .refine⟨⟨fun b d hb=>?_,G.used,G.dG,fun j p hj=>?_,G.inj⟩,fun d=>(hf.2.1 d).mono D.nZ (.refl _ _) (fun _ h=>h),hf.2.2⟩
   .by_cases Y:b=N.az i
    .subst Y;have h1:=G.dA _ d hb;cases d with
     |cells c'=>
      obtain⟨T',fr,J⟩:=h1;rw[hc]at J;cases J;exact⟨_,_,hnew⟩
     |map es2 cl=>have J:w.heap[N.az i]? =co (.map es2 cl):=h1;rw[hc]at J;cases J
    .exact(G.dA b d hb).mono (B b Y)
   .obtain⟨g1,g2⟩:=bj j p hj;have h1:=G.obj j p hj;cases hre:p.real with
    |true=>exact h1.mono (.refl _) (.refl _ _) (fun _ h=>h) (G.used j p hj) (B _ fun e=>g1 (hf.1.inj j i p _ g2 hi hre y e))
    |false=>
     cases p with
     |row sz es=>
      cases es with
      |nil=>exact .inl Z
      |cons=>cases hre
     |bu l T=>
      cases l with
      |nil=>exact .inl Z
      |cons=>cases hre
     |_=>cases hre
  .have e:PV.dA i 1 el (.sl i 0 n 1)= .iv (.bK 1 n fun k=>el (0+k)):=by
    simp only[PV.dA];rw[show VP i i=is from Nat.beq_refl i];rfl
   rw[e]at hv;exact hv
end
theorem lf{s:AS}{i sz:Nat}{es:List (List PV)}{args asv:List PV}(el:Nat->List IV)(hi:s.h.get i=co (.row sz es))(C: ∀k e,es[k]? =co e->e=(el k).map .iv)(D:a8 i sz es.length asv)(G:gF (nD i sz el asv) args): ∀M N w,Rel M N (· <s.nx) s.h w->
  ∃B:Mem,M.le B∧Rel B N (· <s.nx) [] w∧ ∀(j:Nat) (p:PV) (x:Value),args[j]? =co p->(∀q,asv[j]? =co q->VR M N (· <s.nx) q x)->VR B N (· <s.nx) p x:=by
 intro M N w hr;obtain⟨I,g1,g2,g3⟩:=oQ hr hi C;have u: ∀(i:Nat) (o:AO),AH.get [] i≠co o:=fun i o h=>by cases h
 refine⟨I,g1.nZ,⟨g2.dA,fun i o hi=>absurd hi (u i o),fun i o hi=>absurd hi (u i o),fun i o hi=>absurd hi (u i o),fun i j o p hi=>absurd hi (u i o)⟩,fun j p x Y hx=>?_⟩;obtain⟨q0,A,y⟩:=G.get j p Y;rw[ej,Vv,Vw]at A;obtain⟨q,J,rfl⟩:=A;exact y I N _ x (g3 q x (hx q J) (eR D j q J))
theorem ya: ∀l:List Value,rG (l.map fun v=> .iv (.v v))=is
 | []=>rfl
 |_::l=>show(is&&rG _)=is from ya l
theorem vP{n sz:Nat}{σ:Nat->Nat}{es:List (List PV)}(he: ∀e∈es,∃l:List Value,e=l.map fun v=> .iv (.v v)): ∀j o,(nA σ [(n,co (.row sz es))]).get j=co o->BS o:=by
 intro j o h;have u:nA σ [(n,co (.row sz es))]=[(σ n,co (.row sz es))]:=by
  have:es.map (c7 σ)=es:=by
   refine(WE fun e h=>?_).trans (List.map_id _);obtain⟨l,rfl⟩:=he e h;rw[bG,Wx];exact WE fun _ _=>rfl
  simp only[nA,AO.bY,this]
 rw[u,AH.ax]at h;split at h
 .cases h;intro e h;obtain⟨l,rfl⟩:=he e h;exact ya l
 .cases h
section
variable {P:Program} {ty:Ty} {nt:NT} {Q:AQ} {k:List KI} {s:AS}
theorem rk(G:bn P ty){all:List Oper}{todo pend:List (Nat×Oper)}{I:Nat}{Y J:Prop}{o:Oper}{c:Call}{g:FuncId}{asv args:List PV}{r:PV}{A:AH}{n':Nat}{s':AS}(hc:bg P g args [] r A n')
  (hrd:dq todo=[(I,o)]) (ho:o.op= .call c) (ha:bN s.f c=co (g,asv)) (u:args.length=asv.length) (hlow:bp 0 args=is)
  (D: ∀M N w,Rel M N (· <s.nx) s.h w-> ∃y:Mem,M.le y∧Rel y N (· <s.nx) [] w∧ ∀(j:Nat) (p:PV) (x:Value),args[j]? =co p->(∀q,asv[j]? =co q->VR M N (· <s.nx) q x)->VR y N (· <s.nx) p x)
  (C:x9 (r.bY (sig [] s.nx))=is) (B: ∀j o,(nA (sig [] s.nx) A).get j=co o->BS o) (hp:putDst nt o (r.bY (sig [] s.nx)) (aA s [] A n')=co s')
  (hg:bQ nt all s.f o=co is) (hpb:gC all pend o=is) (hE:mW todo [I]=is)
  (hag:lD ty nt all s todo pend=co Y) (hCA:Y) (hag2:cX ty nt all s' (aX pend o)=co J) (hC2:J)
  (h:GO P nt (.bR all (todo.filter fun x=>!VP x.1 I) (aX pend o)::k) Q s'):GO P nt (.bR all todo pend::k) Q s:=
 iC G hrd hg hpb hE hag hCA (BQ ho ha hc u hlow D C B hp) hag2 hC2 h
end
section
variable {P:Program} {ty:Ty} {nt:NT} {s:AS}
theorem I7(p0:bn P ty){o:Oper}{x y:Operand}{t t' u:TypeId}(ho:o.op= .call ⟨.builtin .copy, #[x,y], #[t,t']⟩){e eu:bC}(ht:ty t=co e)(hk:e.k= .aP (.slice u))(hu:ty u=co eu)
  {i n:Nat} {es news:List (List PV)} {py:PV} (hx:ev s.f x= .sl i 0 n eu.size) (hi:s.h.get i=co (.row eu.size es)) (C:es.length=n) (w0:ev s.f y=py) (hy:Src s.h eu.size py news) (d0: ∀e∈news,dt e=is)
  (hn:news.length=n) (h0:0<n) {s':AS} (hp:putDst nt o (.iv (.v (.int .i64 news.length))) ⟨s.f,(i,co (.row eu.size news))::s.h,s.nx⟩=co s'):OT P nt o s (fun t=>t=s'):=by
 refine OT.value hp fun M N a w hf=>?_
 have z0:P.underlying t=co (.slice u):=by
  have:=(p0 t _ ht).2.1;rw[hk]at this;exact this.1
 have i0:=aN hf.2.1 x;rw[hx]at i0;have q0:=aN hf.2.1 y;rw[w0]at q0;obtain⟨A,ao,c,b1,B⟩:=hy.ok hf q0;have r0:=fi A;have G:es≠ []:=by intro h;rw[h]at C;simp at C;omega
 rcases hf.1.obj i _ hi with g0|⟨x0,D,CT,g1,g2,g3,g4,g5⟩
 .exact absurd g0 G
 obtain⟨a0,a1⟩: ∃a0,a.eval x= .slice (co ⟨N.az i,0,io⟩) n a0:=by
  generalize a.eval x=z at i0;cases i0 with
  |sl _ _ _ _ a0 hu h1 h2 h3 h4=>exact⟨a0,by rw[W0]⟩
  |kP=>exact absurd h0 (Yn _)
 have J: ∀v w',(Builtin.copy_ #[t,t'] o.type #[a.eval x,a.eval y]).run P w= .ok v w'->(execOp a.eval o).run P w= .ok (.value v) w':=by
  intro v w' h;simp only[execOp,ho,resolve];simp[invoke,builtin,h]
 have b0:Nat.min news.length n=news.length:=Nat.min_eq_left (YD hn);have v0:news≠ []:=by intro h;rw[h]at hn;simp at hn;omega
 obtain⟨b,j0,rfl,I⟩:=B v0;obtain⟨vs,v1,v2,v3⟩:=kN (s:=s) I;have f0:vs.length=news.length*eu.size:=by rw[v1,r0]
 have Y: ∀z∈vs,z.oneCell'=is:=by
  intro z hz;obtain⟨j,hj⟩:=Wh hz;have k0:j<news.flatten.length:=by rw[<-v1];exact(Vs.1 hj).1
  obtain⟨k,e,i2,h1,h2,_⟩:=js A j _ (Vt k0);have h3:=v3 j _ (Vt k0);have h4:=h3.one (gk (d0 e (V2 h1)) i2 _ h2);rw[Vr,hj]at h4;exact h4
 have m0:vs.length<=D.size:=by rw[f0,hn,<-C];exact g3
 have hl:=run_firstCells_some (P:=P) w eu.size news.length ⟨b,j0,io⟩ news.length c vs f0 v2;have n0:=run_storeCells_at P (N.az i) 0 CT vs 0 D w g1 (by omega) Y;simp only[WZ,VL,Ye,VU]at n0;have e0:=setRow_heap w (N.az i) D (vs++D.toList.drop vs.length).toArray CT (0,0) g1;have c0: ∀b,b≠N.az i->(w.setRow (N.az i) (vs++D.toList.drop vs.length).toArray).heap[b]? =w.heap[b]? :=by
  intro b hb;simp only[World.setRow,VZ];rw[be (fun e=>hb e.symm)]
 have o0:(vs++D.toList.drop vs.length).toArray.size=D.size:=by simp;omega
 obtain⟨q1,q2⟩:=hf.1.write hi (by cases es with|nil=>exact absurd Z G|cons=>rfl) (w.setRow (N.az i) (vs++D.toList.drop vs.length).toArray) (.row eu.size news) Z Z Z (by simp) c0
  (.inr ⟨x0,_,CT,e0,by rw[o0];exact g2,by rw[o0,hn,<-C];exact g3,A,fun k e j p he hj=>by
   have d1:j<eu.size:=by rw[<-A _ e he];exact(Vs.1 hj).1
   have s0:k<news.length:=(Vs.1 he).1;have t0:k*eu.size+j<vs.length:=by
    rw[f0];have:(k+1)*eu.size<=news.length*eu.size:=VO _ s0;rw[Wg]at this;omega
   have h7:=v3 _ p (jr A _ e j p he hj);rw[Vn,Wd,VJ t0,<-Vr]
   exact h7⟩)
 refine⟨.int .i64 news.length,_,M,N,J _ _ ?_,q1,⟨q2,hf.2⟩,.iv _ _ (.v _)⟩;rw[a1,b1];simp[Builtin.copy_,run_underlying z0,Builtin.lenOf,aQ (p0 u _ hu),b0,hl,n0,goInt]
end
end
end Go.Al
namespace Go.Al
open Go
section
section
variable {P:Program} {ty:Ty} {nt:NT} {s:AS} {α:Type} [Inhabited α]
theorem GJ{l:List α}{f:α->List IV}{m sz:Nat}(hm:m<=l.length):jV (.bK sz m fun k=>f (l.getD k ci)) (a7 sz (l.take m) f):=
 .bK (by rw[V7];omega) fun k hk=>by simp[Yz,V8,hk]
theorem BE{l:List α}{f:α->List IV}{m n sz:Nat}(hn:n=l.length-m):jV (.bK sz n fun k=>f (l.getD (m+k) ci)) (a7 sz (l.drop m) f):=
 .bK (by rw[Wu];exact hn) fun k _=>by simp[Yz,Wl]
theorem sB(y:bn P ty){o:Oper}{t u:TypeId}{x hi:Operand}(ho:o.op= .slice t x io (co hi) io){e eu:bC}(ht:ty t=co e)(hk:e.k= .aP (.slice u))(hu:ty u=co eu)
  {l:List α} {f:α->List IV} {m sz:Nat} {kc:IntKind} {A:Int} (B:ev s.f x= .iv (a7 sz l f)) (hh:ev s.f hi= .iv (.v (.int kc A))) (j:A=(m:Int)) (hm:m<=l.length):
  ∀M N a w,Fits M N s nt a w-> ∃x,(execOp a.eval o).run P w= .ok (.value x) w∧VR M N (· <s.nx) (.iv (a7 sz (l.take m) f)) x:=by
 intro M N a w hf;obtain⟨x,g1,g2⟩:=I5 y ho ht hk hu B hh j hm M N a w hf;exact⟨x,g1,ae.iv (GJ hm) M N _ x g2⟩
end
section
variable {P:Program} {ty:Ty} {nt:NT} {Q:AQ} {k:List KI} {s:AS}
theorem Iu(D:bn P ty){all:List Oper}{todo pend:List (Nat×Oper)}{j:Nat}{o:Oper}{c:Call}{g:FuncId}{asv args:List PV}{os:List AO}{R:PV->AH->Nat->Prop}{CA:Prop}(L:List Nat)(hc:Fn P g args os R)
  (hrd:dq todo=[(j,o)]) (ho:o.op= .call c) (ha:bN s.f c=co (g,asv)) (hn:cA L=is) (hl:L.all (fun j=>VV j s.nx)=is) (J:L.map s.h.get=os.map fun o=>co (o.bY (sig L s.nx))) (u:asv=c7 (sig L s.nx) args)
  (hg:bQ nt all s.f o=co is) (hpb:gC all pend o=is) (hE:mW todo [j]=is) (hag:lD ty nt all s todo pend=co CA) (hCA:CA)
  (h: ∀r h' n',R r h' n'-> ∃s',putDst nt o (r.bY (sig L s.nx)) (aA s L h' n')=co s'∧ ∃A,cX ty nt all s' (aX pend o)=co A∧A∧GO P nt (.bR all (todo.filter fun x=>!VP x.1 j) (aX pend o)::k) Q s'):
  GO P nt (.bR all todo pend::k) Q s:=by
 have C:(j,o)∈dq todo:=by rw[hrd];simp
 obtain⟨h3,G⟩:=V4.1 C;simp only[WA,Xg,Wm]at G;have B: ∀y∈todo,aS y.2=is-> ∀y∈pend,eQ P nt all s y.2:=by
  intro y Y a0;unfold lD at hag;split at hag
  .exact cq D hag hCA
  .rename_i h2;have:=Wm.1 h2 y Y;rw[a0]at this;exact absurd Z this
 refine oP hE ⟨_,h3,G.1⟩ B fun j' o' I _ hu=>?_;simp only[Vz]at I;subst I;have:=hu o h3;subst this;refine⟨G.1,fun y Y _=>by simpa using G.2 y Y,hpb,hg,_,lj (S:=fun t=> ∃A,cX ty nt all t (aX pend o)=co A∧A∧GO P nt (.bR all (todo.filter fun x=>!VP x.1 j') (aX pend o)::k) Q t) ho ha hc (eE hn) (fun j I=>Vm (Wc.1 hl j I)) J u h,fun t ⟨A,h5,h6,h7⟩=>⟨cq D h5 h6,h7⟩⟩
end
def Ue(P:Program)(k:FuncId)(args:List PV)(os:List AO)(R:PV->AH->Nat->Prop):Prop:=
 fm P k∧RK (fun vs w R=>CallsD P k vs .returning w fun e u j=>u= .returning∧R e j) args os R
def T4(P:Program)(k:FuncId)(args:List PV)(os:List AO)(h:AH)(n:Nat):Prop:=Ue P k args os fun _ j u=>j=h∧u=n
theorem Fn.ended{P:Program}{k:FuncId}{args:List PV}{os:List AO}{R:PV->AH->Nat->Prop}(key:Fn P k args os (fun r0 h0 n0=>ft h0 n0 r0 fun B D=> ∃r y A L,R r y A∧Wk os.length L ⟨[(0,D)],B,n0⟩ ⟨[(0,r)],y,A⟩)):Fn P k args os R:=by
 refine⟨key.1,fun M N w vs Y u hv=>(key.2 M N w vs Y u hv).mono ?_⟩;rintro e J ⟨x,M',N',r0,h0,n0,rfl,hF,hx,hr',hvr⟩;obtain⟨G,B,D,g1,g2,g3,r,y,A,L,hR,I⟩:=hF M' N' J hr'
 have C:Fits G N' ⟨[(0,D)],B,n0⟩ ⟨1,[]⟩ ⟨#[x],[]⟩ J:=⟨g2,fun d=>by
  rw[AF.ax];by_cases hd:d=0
  .subst hd;rw[am Z];exact g3 x hvr
  .rw[be hd];exact .any _,rfl,rfl⟩
 have j:=I.fits C;refine⟨x,G,_,r,y,A,rfl,hR,I.ext (hx.trans g1),j.1,?_⟩;have:=j.2.1 0;exact this
section
variable {P:Program}
theorem tc {ty:Ty} (y:bn P ty) {k:FuncId} {fn:Func} {c:Code} (hf:P.funcs[k]? =co fn) (hb:fn.body=co c) (hn:(fn.name== "runtime.NumGoroutine")=jp) {nt:Nat} (x:fn.ntmps=nt)
  {l:List ResultVar} (hl:fn.results.toList=l) {args:List PV} (u:args.length<=nt) {os:List AO} {R:PV->AH->Nat->Prop}
  (h:GO P nt [.code c] (fun e s=>(e= .normal∨e= .ret)∧ ∃r,iL ty s l=co r∧R r s.h s.nx) ⟨mj 0 args,cF 0 os,os.length⟩):Ue P k args os R:=
 ⟨bb hf hb hn,fun M N w vs A j B=>callsD_of_wp hf hb (EG y x hl u h M N w vs A j B)⟩
theorem IX{nt:NT}{s:AS}{M:Mem}{N:Nm}{a:Act}{w:World}(hf:Fits M N s nt a w){o:Oper}{g:Operand}{ts:Array TypeId}(ho:o.op= .defer ⟨.value g, #[],ts⟩){k:FuncId}{caps:List PV}(u:ev s.f g= .cm (.func k) [] caps)(hc:fm P k):
  ∃(d:Deferred) (vs:List Value),(execOp a.eval o).run P w= .ok (.defer d) w∧(∃A a0,d.target= .fn A a0)∧(∀w,(invoke d.target d.args).run P w= .ok (.enter k vs.toArray) w)∧caps.length=vs.length∧
   ∀(j:Nat) (p:PV),caps[j]? =co p->VR M N (· <s.nx) p (vs.getD j undef):=by
 have y:=aN hf.2.1 g;rw[u]at y;generalize C:a.eval g=v at y;cases y with
 |cm _ _ _ f' c' h1 h2 hr1 hr2=>
  have x:f'= #[]:=by
   have:f'.size=0:=h1.symm;exact Array.size_eq_zero_iff.1 this
  subst x;refine⟨⟨.fn (.func k) c', #[]⟩,c'.toList,?_,⟨_,_,rfl⟩,fun w=>?_,by simpa using h2,fun j p B=>?_⟩
  .simp[execOp,ho,resolve,C,Deferred.ofValue]
  .have:=hc c' w;simpa[invoke]using this
  .have:=hr2 j p B;rw[Vn]at this;rw[Vr];simpa using this
structure JB (P:Program) (ty:Ty) (l:List ResultVar) (kf:FuncId) (caps:List PV) (R:PV->AH->Nat->Prop) (e:Exit) (u:AS):Prop where
 he:e= .normal∨e= .ret
 ex: ∃args os R' L,Ue P kf args os R'∧List.Nodup L∧(∀j∈L,j<u.nx)∧(L.map u.h.get=os.map fun o=>co (o.bY (sig L u.nx)))∧caps=c7 (sig L u.nx) args∧
  ∀r h' n',R' r h' n'-> ∃q,iL ty (aA u L h' n') l=co q∧R q (aA u L h' n').h (aA u L h' n').nx
theorem uc{P:Program}{ty:Ty}{l:List ResultVar}{C:FuncId}{caps:List PV}{R:PV->AH->Nat->Prop}{e:Exit}{u:AS}{args:List PV}{os:List AO}{A:PV->AH->Nat->Prop}(L:List Nat)(he:e= .normal∨e= .ret)(D:Ue P C args os A)(hn:cA L=is)(hl:L.all (fun j=>VV j u.nx)=is)
  (B:L.map u.h.get=os.map fun o=>co (o.bY (sig L u.nx))) (hc:caps=c7 (sig L u.nx) args) (h: ∀r x y,A r x y-> ∃q,iL ty (aA u L x y) l=co q∧R q (aA u L x y).h (aA u L x y).nx):JB P ty l C caps R e u:=
 ⟨he,args,os,A,L,D,eE hn,fun j G=>Vm (Wc.1 hl j G),B,hc,h⟩
theorem IE {ty:Ty} (i0:bn P ty) {k:FuncId} {fn:Func} {cs:List Code} {id:Nat} {ops:Array Oper} {T:Code} (hf:P.funcs[k]? =co fn) (hb:fn.body=co (ML cs (.seq (.region id ops jp) T))) (hn:(fn.name== "runtime.NumGoroutine")=jp) {nt:Nat} (r0:fn.ntmps=nt)
  {l:List ResultVar} (hl:fn.results.toList=l) {args:List PV} (p0:args.length<=nt) {os:List AO} {R:PV->AH->Nat->Prop} (s:AS) {pre:List Oper} {o:Oper} {g:Operand} {ts:Array TypeId} {kf:FuncId} {caps:List PV}
  (e0:ops.toList=pre++ [o]) (hg:o.guard=io) (hd:o.dst=io) (ho:o.op= .defer ⟨.value g, #[],ts⟩) (k0:ev s.f g= .cm (.func kf) [] caps) (hc:fm P kf)
  (I:GO P nt (cs.map .code) (fun e t=>(e= .normal∧GO P nt [.ops ops.toList pre] (fun e u=>e= .normal∧ ∃L0,Wk u.nx L0 u s) t)∨(e= .ret∧ ∃r,iL ty t l=co r∧R r t.h t.nx)) ⟨mj 0 args,cF 0 os,os.length⟩)
  (b0: ∀d,GO P ⟨nt,[d]⟩ [.code T] (JB P ty l kf caps R) s):Fn P k args os R:=by
 refine⟨bb hf hb hn,fun M N w vs hr d0 hv=>?_⟩;refine calls_of_wp_defers hf hb ?_;refine Bv cs I (Ep r0 p0 hr d0 hv) (fun a0 w0 M0 N0 s0 x0 m0 J=>?_) (fun e a3 w3 M3 N3 s3 he z0 B v0=>?_)
 .rcases J with⟨_,J⟩|⟨h,_⟩
  .refine wp_seq (wp_region_list ?_);rw[e0];refine mr [o] (fun a1 w1 h1=>?_) (fun e a1 w1 he h1=>?_) pre a0 w0 (by have:=J M0 N0 a0 w0 m0;rw[W5]at this;exact this)
   .obtain⟨M1,N1,s1,C,A,Y⟩:=h1;obtain⟨_,L0,hw⟩:=(show _∧_ from Y)
    replace C:=x0.trans (C.trans (hw.ext (.refl _ _ _ _ _)))
    replace A:=hw.fits A
    obtain⟨d,b1,h1,⟨fv,j0,h2⟩,h3,h4,h5⟩:=IX A ho k0 hc;unfold wpList;rw[am (fD hg _)];left;unfold Oper.wp;rw[h1,Oper.upon_defer,hd];refine wpList_nil ?_;have n0:Fits M1 _ s ⟨nt,[d]⟩ {a1 with defers:=d::a1.defers} w1:=⟨A.1,A.2.1,by rw[A.2.2.1],A.2.2.2⟩
    refine AW.then (b0 d) n0 fun e a2 w2 M2 N2 u D B hq=>?_;simp only[kp]at hq;obtain⟨he,f0,d1,R',L,hD,q0,hL,t0,g0,hR⟩:=hq;have c0:s.nx<=u.nx:=W9 fun hh=>absurd (D.ule u.nx hh) (Yn _)
    have key:Leaves P fn a2.tmps (fun e w'=> ∃x M' N' r h' n',e= .returned x∧R r h' n'∧Ext M N (· <os.length) (cF 0 os) w M' N' (· <n') h' w'∧Rel M' N' (· <n') h' w'∧VR M' N' (· <n') r x) a2.defers .returning w2:=by
     rw[B.2.2.1];refine⟨by simp,fv,j0,kf,b1.toArray,h2,h3 w2,?_⟩
     have G:=RK.calls (s:=u) (fun vs w R R' h g=>h.mono fun e u' w' q=>⟨q.1,g _ _ q.2⟩) hD.2 q0 hL t0 B.1 (by rw[<-h4,g0,bG,VS]) (fun j p hp=>by
      refine(h5 j (p.bY (sig L u.nx)) (by rw[g0,bG,Vv,hp];rfl)).mono D.nZ D.nm fun i hi=>W4 hi c0)
     refine CallsD.mono G ?_;rintro e u' w' ⟨rfl,x,M',N',r,h',n',rfl,hr1,hx,hr2,hvr⟩;obtain⟨q,g1,g2⟩:=hR r h' n' hr1;have o0:Fits M' N' (aA u L h' n') ⟨nt,[d]⟩ a2 w':=⟨hr2,B.2.1.ext hx,B.2.2⟩
     obtain⟨y,g3,g4⟩:=tM i0 o0 hl g1;exact⟨y,g3,y,M',N',q,_,_,rfl,g2,(C.trans D).trans hx,hr2,g4⟩
    rcases he with rfl|rfl<;>exact key
   .obtain⟨M1,N1,s1,C,A,Y⟩:=h1;exact absurd (show e= .normal from by cases e<;>first|rfl|exact Y.1) he
  .cases h
 .rcases v0 with⟨h,_⟩|⟨rfl,r,g1,g2⟩
  .exact absurd h he
  .obtain⟨y,g3,g4⟩:=tM i0 B hl g1;show Leaves P fn a3.tmps _ a3.defers .returning w3;rw[B.2.2.1];exact⟨y,g3,y,M3,N3,r,_,_,rfl,g2,z0,B.1,g4⟩
def jb:Code->List Code×Nat×Array Oper×Code
 | .seq (.region i ops b) t=>if ops.toList.any (fun o=>!L2 o) then([],i,ops,t) else(.region i ops b::(jb t).1,(jb t).2)
 | .seq x y=>(x::(jb y).1,(jb y).2)
 |_=>([],0, #[],.skip)
def QQ(p:List Code×Nat×Array Oper×Code):Code:=ML p.1 (.seq (.region p.2.1 p.2.2.1 jp) p.2.2.2)
end
section
variable {P:Program} {ty:Ty} {nt:NT} {Q:AQ} {k:List KI} {s:AS}
theorem QX(B:bn P ty){all:List Oper}{todo pend:List (Nat×Oper)}{G I:Nat}{u A:Oper}{CA C1 C2:Prop}{s1 s2:AS}(hrd:dq todo=[(G,u),(I,A)])(hE:mW todo [G,I]=is)(hag:lD ty nt all s todo pend=co CA)(hCA:CA)
  (g1:bQ nt all s.f u=co is) (p1:gC all pend u=is) (t1:OT P nt u s (fun t=>t=s1)) (a1:cX ty nt all s1 (aX pend u)=co C1) (c1:C1)
  (g2:bQ nt all s.f A=co is) (p2:gC all pend A=is) (t2:OT P nt A s (fun t=>t=s2)) (a2:cX ty nt all s2 (aX pend A)=co C2) (c2:C2)
  (k1:GO P nt (.bR all (todo.filter fun x=>!VP x.1 G) (aX pend u)::k) Q s1) (k2:GO P nt (.bR all (todo.filter fun x=>!VP x.1 I) (aX pend A)::k) Q s2):GO P nt (.bR all todo pend::k) Q s:=by
 have Y:(G,u)∈dq todo:=by rw[hrd];simp
 have a0:(I,A)∈dq todo:=by rw[hrd];simp
 obtain⟨h1,J⟩:=V4.1 Y;obtain⟨h2,r2⟩:=V4.1 a0;simp only[WA,Xg,Wm]at J r2;have C: ∀y∈todo,aS y.2=is-> ∀y∈pend,eQ P nt all s y.2:=by
  intro y D b0;unfold lD at hag;split at hag
  .exact cq B hag hCA
  .rename_i h;have:=Wm.1 h y D;rw[b0]at this;exact absurd Z this
 refine oP hE ⟨_,h1,J.1⟩ C fun j o hj _ hu=>?_;rcases VH.1 hj with rfl|hj
 .have:=hu u h1;subst this;exact⟨J.1,fun y D _=>by simpa using J.2 y D,p1,g1,_,t1,fun t ht=>by subst ht;exact⟨cq B a1 c1,k1⟩⟩
 .rw[Vz]at hj;subst hj;have:=hu A h2;subst this;exact⟨r2.1,fun y D _=>by simpa using r2.2 y D,p2,g2,_,t2,fun t ht=>by subst ht;exact⟨cq B a2 c2,k2⟩⟩
end
end
end Go.Al
namespace Go.Proofs.YtlmhfgbkchnfbaaGreatDoor
open Go Go.Al Go.Proofs.Tryz
def ty1:bC:=⟨.aP (.func #[] #[] jp),1,8,.nilFunc,jp⟩
theorem R0:ai prog 1 ty1:=⟨ad (by kernel_rfl),⟨underlying1,rfl⟩,fun h=>nomatch h⟩
def ty2:bC:=⟨.aP (.int .i64),1,8,.int .i64 (0),jp⟩
theorem RZ:ai prog 2 ty2:=⟨ad (by kernel_rfl),⟨underlying2,rfl⟩,fun h=>nomatch h⟩
def ty3:bC:=⟨.aP (.int .i64),1,8,.int .i64 (0),jp⟩
theorem RY:ai prog 3 ty3:=⟨ad (by kernel_rfl),⟨underlying3,rfl⟩,fun h=>nomatch h⟩
def ty4:bC:=⟨.aP (.bool),1,1,.bool jp,jp⟩
theorem RX:ai prog 4 ty4:=⟨ad (by kernel_rfl),⟨underlying4,rfl⟩,fun h=>nomatch h⟩
def PK:bC:=⟨.aP (.int .u8),1,1,.int .u8 (0),jp⟩
theorem RW:ai prog 5 PK:=⟨ad (by kernel_rfl),⟨underlying5,rfl⟩,fun h=>nomatch h⟩
def ty9:bC:=⟨.aP (.string),1,16,.string Vx,jp⟩
theorem RV:ai prog 9 ty9:=⟨ad (by kernel_rfl),⟨underlying9,rfl⟩,fun h=>nomatch h⟩
def Sq:bC:=⟨.aP (.int .i32),1,4,.int .i32 (0),jp⟩
theorem PI:ai prog 21 Sq:=⟨ad (by kernel_rfl),⟨underlying21,rfl⟩,fun h=>nomatch h⟩
def Sp:bC:=⟨.aP (.slice 57),1,24,.slice io 0 0,jp⟩
theorem PH:ai prog 22 Sp:=⟨ad (by kernel_rfl),⟨underlying22,rfl⟩,fun h=>nomatch h⟩
def Sn:bC:=⟨.aP (.slice 152),1,24,.slice io 0 0,jp⟩
theorem PG:ai prog 23 Sn:=⟨ad (by kernel_rfl),⟨underlying23,rfl⟩,fun h=>nomatch h⟩
def Sm:bC:=⟨.cp [(0,22),(1,23)],2,48,.agg #[.slice io 0 0,.slice io 0 0],is⟩
theorem PF:ai prog 25 Sm:=⟨ad (by kernel_rfl),⟨_,underlying25,rfl⟩,fun _=>bL underlying25 Tryz.stoodInHeld25 Tryz.eqGuardType25 (by decide)⟩
def Sl:bC:=⟨.aP (.pointer 72),1,8,.pointer io,jp⟩
theorem PD:ai prog 30 Sl:=⟨ad (by kernel_rfl),⟨underlying30,rfl⟩,fun h=>nomatch h⟩
def Sk:bC:=⟨.aP (.int .i64),1,8,.int .i64 (0),jp⟩
theorem PC:ai prog 31 Sk:=⟨ad (by kernel_rfl),⟨underlying31,rfl⟩,fun h=>nomatch h⟩
def Sj:bC:=⟨.aP (.slice 3),1,24,.slice io 0 0,jp⟩
theorem PB:ai prog 35 Sj:=⟨ad (by kernel_rfl),⟨underlying35,rfl⟩,fun h=>nomatch h⟩
def Si:bC:=⟨.aP (.slice 62),1,24,.slice io 0 0,jp⟩
theorem PA:ai prog 36 Si:=⟨ad (by kernel_rfl),⟨underlying36,rfl⟩,fun h=>nomatch h⟩
def Sh:bC:=⟨.aP (.slice 5),1,24,.slice io 0 0,jp⟩
theorem Pz:ai prog 38 Sh:=⟨ad (by kernel_rfl),⟨underlying38,rfl⟩,fun h=>nomatch h⟩
def Sg:bC:=⟨.aP (.slice 64),1,24,.slice io 0 0,jp⟩
theorem Py:ai prog 43 Sg:=⟨ad (by kernel_rfl),⟨underlying43,rfl⟩,fun h=>nomatch h⟩
def Sf:bC:=⟨.cp [(0,3),(1,3)],2,16,.agg #[.int .i64 (0),.int .i64 (0)],is⟩
theorem Px:ai prog 55 Sf:=⟨ad (by kernel_rfl),⟨_,underlying55,rfl⟩,fun _=>bL underlying55 Tryz.stoodInHeld55 Tryz.eqGuardType55 (by decide)⟩
def Se:bC:=⟨.cp [(0,9),(1,35),(2,55)],4,56,.agg #[.string Vx,.slice io 0 0,.int .i64 (0),.int .i64 (0)],is⟩
theorem Pw:ai prog 57 Se:=⟨ad (by kernel_rfl),⟨_,underlying57,rfl⟩,fun _=>bL underlying57 Tryz.stoodInHeld57 Tryz.eqGuardType57 (by decide)⟩
def Sd:bC:=⟨.cp [(0,3),(1,3),(2,9)],3,32,.agg #[.int .i64 (0),.int .i64 (0),.string Vx],is⟩
theorem Pv:ai prog 59 Sd:=⟨ad (by kernel_rfl),⟨_,underlying59,rfl⟩,fun _=>bL underlying59 Tryz.stoodInHeld59 Tryz.eqGuardType59 (by decide)⟩
def Sc:bC:=⟨.aP (.slice 59),1,24,.slice io 0 0,jp⟩
theorem Pu:ai prog 60 Sc:=⟨ad (by kernel_rfl),⟨underlying60,rfl⟩,fun h=>nomatch h⟩
def Sb:bC:=⟨.cp [(0,9),(1,60)],2,40,.agg #[.string Vx,.slice io 0 0],is⟩
theorem Pt:ai prog 62 Sb:=⟨ad (by kernel_rfl),⟨_,underlying62,rfl⟩,fun _=>bL underlying62 Tryz.stoodInHeld62 Tryz.eqGuardType62 (by decide)⟩
def Sa:bC:=⟨.cp [(0,4),(1,62)],3,48,.agg #[.bool jp,.string Vx,.slice io 0 0],is⟩
theorem Ps:ai prog 64 Sa:=⟨ad (by kernel_rfl),⟨_,underlying64,rfl⟩,fun _=>bL underlying64 Tryz.stoodInHeld64 Tryz.eqGuardType64 (by decide)⟩
def R9:bC:=⟨.aP (.pointer 100),1,8,.pointer io,jp⟩
theorem Pr:ai prog 66 R9:=⟨ad (by kernel_rfl),⟨underlying66,rfl⟩,fun h=>nomatch h⟩
def R8:bC:=⟨.cp [(0,66)],1,8,.agg #[.pointer io],is⟩
theorem Pq:ai prog 70 R8:=⟨ad (by kernel_rfl),⟨_,underlying70,rfl⟩,fun _=>bL underlying70 Tryz.stoodInHeld70 Tryz.eqGuardType70 (by decide)⟩
def R7:bC:=⟨.cp [(0,70),(1,38),(2,3)],3,40,.agg #[.pointer io,.slice io 0 0,.int .i64 (0)],is⟩
theorem Pp:ai prog 72 R7:=⟨ad (by kernel_rfl),⟨_,underlying72,rfl⟩,fun _=>bL underlying72 Tryz.stoodInHeld72 Tryz.eqGuardType72 (by decide)⟩
def R6:bC:=⟨.aP (.func #[62,62] #[4] jp),1,8,.nilFunc,jp⟩
theorem Po:ai prog 82 R6:=⟨ad (by kernel_rfl),⟨underlying82,rfl⟩,fun h=>nomatch h⟩
def R5:bC:=⟨.aP (.int .u32),1,4,.int .u32 (0),jp⟩
theorem Pn:ai prog 83 R5:=⟨ad (by kernel_rfl),⟨underlying83,rfl⟩,fun h=>nomatch h⟩
def R4:bC:=⟨.aP (.pointer 138),1,8,.pointer io,jp⟩
theorem Pm:ai prog 86 R4:=⟨ad (by kernel_rfl),⟨underlying86,rfl⟩,fun h=>nomatch h⟩
def R3:bC:=⟨.cp [(0,31),(1,55)],3,24,.agg #[.int .i64 (0),.int .i64 (0),.int .i64 (0)],is⟩
theorem Pl:ai prog 93 R3:=⟨ad (by kernel_rfl),⟨_,underlying93,rfl⟩,fun _=>bL underlying93 Tryz.stoodInHeld93 Tryz.eqGuardType93 (by decide)⟩
def R2:bC:=⟨.aP (.map 110 62),1,8,.map io,jp⟩
theorem Pk:ai prog 95 R2:=⟨ad (by kernel_rfl),⟨underlying95,rfl⟩,fun h=>nomatch h⟩
def R1:bC:=⟨.cp [(0,95)],1,8,.agg #[.map io],is⟩
theorem Pj:ai prog 97 R1:=⟨ad (by kernel_rfl),⟨_,underlying97,rfl⟩,fun _=>bL underlying97 Tryz.stoodInHeld97 Tryz.eqGuardType97 (by decide)⟩
def OI:bC:=⟨.cp [(0,97),(1,25),(3,3)],4,64,.agg #[.map io,.slice io 0 0,.slice io 0 0,.int .i64 (0)],is⟩
theorem K5:ai prog 100 OI:=⟨ad (by kernel_rfl),⟨_,underlying100,rfl⟩,fun _=>bL underlying100 Tryz.stoodInHeld100 Tryz.eqGuardType100 (by decide)⟩
def OH:bC:=⟨.aP (.pointer 97),1,8,.pointer io,jp⟩
theorem K4:ai prog 101 OH:=⟨ad (by kernel_rfl),⟨underlying101,rfl⟩,fun h=>nomatch h⟩
def OG:bC:=⟨.aP (.int .u64),1,8,.int .u64 (0),jp⟩
theorem K3:ai prog 104 OG:=⟨ad (by kernel_rfl),⟨underlying104,rfl⟩,fun h=>nomatch h⟩
def OF:bC:=⟨.arr 8 59,24,256,.agg #[.int .i64 (0),.int .i64 (0),.string Vx,.int .i64 (0),.int .i64 (0),.string Vx,.int .i64 (0),.int .i64 (0),.string Vx,.int .i64 (0),.int .i64 (0),.string Vx,.int .i64 (0),.int .i64 (0),.string Vx,.int .i64 (0),.int .i64 (0),.string Vx,.int .i64 (0),.int .i64 (0),.string Vx,.int .i64 (0),.int .i64 (0),.string Vx],jp⟩
theorem K2:ai prog 108 OF:=⟨ad (by kernel_rfl),underlying108,fun h=>nomatch h⟩
def zy:bC:=⟨.cp [(0,9),(1,3),(2,108)],26,280,.agg #[.string Vx,.int .i64 (0),.int .i64 (0),.int .i64 (0),.string Vx,.int .i64 (0),.int .i64 (0),.string Vx,.int .i64 (0),.int .i64 (0),.string Vx,.int .i64 (0),.int .i64 (0),.string Vx,.int .i64 (0),.int .i64 (0),.string Vx,.int .i64 (0),.int .i64 (0),.string Vx,.int .i64 (0),.int .i64 (0),.string Vx,.int .i64 (0),.int .i64 (0),.string Vx],is⟩
theorem K1:ai prog 110 zy:=⟨ad (by kernel_rfl),⟨_,underlying110,rfl⟩,fun _=>bL underlying110 Tryz.stoodInHeld110 Tryz.eqGuardType110 (by decide)⟩
def OE:bC:=⟨.aP (.map 110 64),1,8,.map io,jp⟩
theorem K0:ai prog 111 OE:=⟨ad (by kernel_rfl),⟨underlying111,rfl⟩,fun h=>nomatch h⟩
def OD:bC:=⟨.aP (.pointer 175),1,8,.pointer io,jp⟩
theorem KZ:ai prog 116 OD:=⟨ad (by kernel_rfl),⟨underlying116,rfl⟩,fun h=>nomatch h⟩
def OC:bC:=⟨.aP (.pointer 126),1,8,.pointer io,jp⟩
theorem KY:ai prog 123 OC:=⟨ad (by kernel_rfl),⟨underlying123,rfl⟩,fun h=>nomatch h⟩
def OB:bC:=⟨.cp [(0,116),(1,25)],3,56,.agg #[.pointer io,.slice io 0 0,.slice io 0 0],is⟩
theorem KX:ai prog 126 OB:=⟨ad (by kernel_rfl),⟨_,underlying126,rfl⟩,fun _=>bL underlying126 Tryz.stoodInHeld126 Tryz.eqGuardType126 (by decide)⟩
def OA:bC:=⟨.cp [(0,38)],1,24,.agg #[.slice io 0 0],is⟩
theorem KW:ai prog 136 OA:=⟨ad (by kernel_rfl),⟨_,underlying136,rfl⟩,fun _=>bL underlying136 Tryz.stoodInHeld136 Tryz.eqGuardType136 (by decide)⟩
def Oz:bC:=⟨.cp [(0,136)],1,24,.agg #[.slice io 0 0],is⟩
theorem KV:ai prog 138 Oz:=⟨ad (by kernel_rfl),⟨_,underlying138,rfl⟩,fun _=>bL underlying138 Tryz.stoodInHeld138 Tryz.eqGuardType138 (by decide)⟩
def Oy:bC:=⟨.aP (.int .u64),1,8,.int .u64 (0),jp⟩
theorem KU:ai prog 140 Oy:=⟨ad (by kernel_rfl),⟨underlying140,rfl⟩,fun h=>nomatch h⟩
def Ox:bC:=⟨.aP (.map 9 145),1,8,.map io,jp⟩
theorem KT:ai prog 141 Ox:=⟨ad (by kernel_rfl),⟨underlying141,rfl⟩,fun h=>nomatch h⟩
def Ow:bC:=⟨.aP (.map 9 145),1,8,.map io,jp⟩
theorem KS:ai prog 142 Ow:=⟨ad (by kernel_rfl),⟨underlying142,rfl⟩,fun h=>nomatch h⟩
def Ov:bC:=⟨.aP (.map 9 3),1,8,.map io,jp⟩
theorem KR:ai prog 145 Ov:=⟨ad (by kernel_rfl),⟨underlying145,rfl⟩,fun h=>nomatch h⟩
def Ou:bC:=⟨.aP (.slice 157),1,24,.slice io 0 0,jp⟩
theorem KQ:ai prog 147 Ou:=⟨ad (by kernel_rfl),⟨underlying147,rfl⟩,fun h=>nomatch h⟩
def Ot:bC:=⟨.cp [(0,9),(1,147)],2,40,.agg #[.string Vx,.slice io 0 0],is⟩
theorem KP:ai prog 149 Ot:=⟨ad (by kernel_rfl),⟨_,underlying149,rfl⟩,fun _=>bL underlying149 Tryz.stoodInHeld149 Tryz.eqGuardType149 (by decide)⟩
def Oq:bC:=⟨.aP (.slice 198),1,24,.slice io 0 0,jp⟩
theorem KO:ai prog 150 Oq:=⟨ad (by kernel_rfl),⟨underlying150,rfl⟩,fun h=>nomatch h⟩
def Oo:bC:=⟨.cp [(0,149),(2,150),(3,55)],5,80,.agg #[.string Vx,.slice io 0 0,.slice io 0 0,.int .i64 (0),.int .i64 (0)],is⟩
theorem KN:ai prog 152 Oo:=⟨ad (by kernel_rfl),⟨_,underlying152,rfl⟩,fun _=>bL underlying152 Tryz.stoodInHeld152 Tryz.eqGuardType152 (by decide)⟩
def On:bC:=⟨.cp [(0,3),(1,9),(2,59)],5,56,.agg #[.int .i64 (0),.string Vx,.int .i64 (0),.int .i64 (0),.string Vx],is⟩
theorem KL:ai prog 157 On:=⟨ad (by kernel_rfl),⟨_,underlying157,rfl⟩,fun _=>bL underlying157 Tryz.stoodInHeld157 Tryz.eqGuardType157 (by decide)⟩
def Om:bC:=⟨.aP (.func #[62,62] #[3] jp),1,8,.nilFunc,jp⟩
theorem KK:ai prog 160 Om:=⟨ad (by kernel_rfl),⟨underlying160,rfl⟩,fun h=>nomatch h⟩
def Ol:bC:=⟨.aP (.func #[110,64] #[4] jp),1,8,.nilFunc,jp⟩
theorem KJ:ai prog 168 Ol:=⟨ad (by kernel_rfl),⟨underlying168,rfl⟩,fun h=>nomatch h⟩
def Oj:bC:=⟨.aP (.func #[64,64] #[3] jp),1,8,.nilFunc,jp⟩
theorem KH:ai prog 171 Oj:=⟨ad (by kernel_rfl),⟨underlying171,rfl⟩,fun h=>nomatch h⟩
def Oi:bC:=⟨.cp [(0,38),(1,3),(2,31)],3,40,.agg #[.slice io 0 0,.int .i64 (0),.int .i64 (0)],is⟩
theorem KG:ai prog 173 Oi:=⟨ad (by kernel_rfl),⟨_,underlying173,rfl⟩,fun _=>bL underlying173 Tryz.stoodInHeld173 Tryz.eqGuardType173 (by decide)⟩
def Oh:bC:=⟨.cp [(0,173)],3,40,.agg #[.slice io 0 0,.int .i64 (0),.int .i64 (0)],is⟩
theorem KF:ai prog 175 Oh:=⟨ad (by kernel_rfl),⟨_,underlying175,rfl⟩,fun _=>bL underlying175 Tryz.stoodInHeld175 Tryz.eqGuardType175 (by decide)⟩
def Og:bC:=⟨.aP (.pointer 186),1,8,.pointer io,jp⟩
theorem KE:ai prog 181 Og:=⟨ad (by kernel_rfl),⟨underlying181,rfl⟩,fun h=>nomatch h⟩
def Of:bC:=⟨.aP (.pointer 184),1,8,.pointer io,jp⟩
theorem KD:ai prog 182 Of:=⟨ad (by kernel_rfl),⟨underlying182,rfl⟩,fun h=>nomatch h⟩
def Oe:bC:=⟨.cp [(0,182),(1,38)],2,32,.agg #[.pointer io,.slice io 0 0],is⟩
theorem KB:ai prog 184 Oe:=⟨ad (by kernel_rfl),⟨_,underlying184,rfl⟩,fun _=>bL underlying184 Tryz.stoodInHeld184 Tryz.eqGuardType184 (by decide)⟩
def Od:bC:=⟨.cp [(0,184),(2,4),(3,3)],4,48,.agg #[.pointer io,.slice io 0 0,.bool jp,.int .i64 (0)],is⟩
theorem KA:ai prog 186 Od:=⟨ad (by kernel_rfl),⟨_,underlying186,rfl⟩,fun _=>bL underlying186 Tryz.stoodInHeld186 Tryz.eqGuardType186 (by decide)⟩
def Oc:bC:=⟨.aP (.pointer 136),1,8,.pointer io,jp⟩
theorem Kz:ai prog 191 Oc:=⟨ad (by kernel_rfl),⟨underlying191,rfl⟩,fun h=>nomatch h⟩
def Ob:bC:=⟨.aP (.slice 194),1,24,.slice io 0 0,jp⟩
theorem Ky:ai prog 192 Ob:=⟨ad (by kernel_rfl),⟨underlying192,rfl⟩,fun h=>nomatch h⟩
def Oa:bC:=⟨.cp [(0,3),(1,9),(2,59),(5,3),(6,192)],7,88,.agg #[.int .i64 (0),.string Vx,.int .i64 (0),.int .i64 (0),.string Vx,.int .i64 (0),.slice io 0 0],is⟩
theorem Kx:ai prog 194 Oa:=⟨ad (by kernel_rfl),⟨_,underlying194,rfl⟩,fun _=>bL underlying194 Tryz.stoodInHeld194 Tryz.eqGuardType194 (by decide)⟩
def N9:bC:=⟨.cp [(0,3),(1,9),(2,194),(9,150)],10,136,.agg #[.int .i64 (0),.string Vx,.int .i64 (0),.string Vx,.int .i64 (0),.int .i64 (0),.string Vx,.int .i64 (0),.slice io 0 0,.slice io 0 0],is⟩
theorem Kw:ai prog 196 N9:=⟨ad (by kernel_rfl),⟨_,underlying196,rfl⟩,fun _=>bL underlying196 Tryz.stoodInHeld196 Tryz.eqGuardType196 (by decide)⟩
def N8:bC:=⟨.cp [(0,3),(1,149),(3,3),(4,194),(11,194),(18,196),(28,55)],30,384,.agg #[.int .i64 (0),.string Vx,.slice io 0 0,.int .i64 (0),.int .i64 (0),.string Vx,.int .i64 (0),.int .i64 (0),.string Vx,.int .i64 (0),.slice io 0 0,.int .i64 (0),.string Vx,.int .i64 (0),.int .i64 (0),.string Vx,.int .i64 (0),.slice io 0 0,.int .i64 (0),.string Vx,.int .i64 (0),.string Vx,.int .i64 (0),.int .i64 (0),.string Vx,.int .i64 (0),.slice io 0 0,.slice io 0 0,.int .i64 (0),.int .i64 (0)],is⟩
theorem Kv:ai prog 198 N8:=⟨ad (by kernel_rfl),⟨_,underlying198,rfl⟩,fun _=>bL underlying198 Tryz.stoodInHeld198 Tryz.eqGuardType198 (by decide)⟩
def N7:bC:=⟨.aP (.slice 9),1,24,.slice io 0 0,jp⟩
theorem Ku:ai prog 199 N7:=⟨ad (by kernel_rfl),⟨underlying199,rfl⟩,fun h=>nomatch h⟩
def N6:bC:=⟨.aP (.func #[93] #[4] jp),1,8,.nilFunc,jp⟩
theorem Kt:ai prog 202 N6:=⟨ad (by kernel_rfl),⟨underlying202,rfl⟩,fun h=>nomatch h⟩
def N5:bC:=⟨.aP (.func #[9] #[3] jp),1,8,.nilFunc,jp⟩
theorem Ks:ai prog 203 N5:=⟨ad (by kernel_rfl),⟨underlying203,rfl⟩,fun h=>nomatch h⟩
def N4:bC:=⟨.aP (.pointer 198),1,8,.pointer io,jp⟩
theorem Kr:ai prog 209 N4:=⟨ad (by kernel_rfl),⟨underlying209,rfl⟩,fun h=>nomatch h⟩
def NZ:bC:=⟨.aP (.map 9 57),1,8,.map io,jp⟩
theorem Kq:ai prog 219 NZ:=⟨ad (by kernel_rfl),⟨underlying219,rfl⟩,fun h=>nomatch h⟩
def NY:bC:=⟨.aP (.pointer 173),1,8,.pointer io,jp⟩
theorem Kp:ai prog 223 NY:=⟨ad (by kernel_rfl),⟨underlying223,rfl⟩,fun h=>nomatch h⟩
def NX:bC:=⟨.aP (.map 9 3),1,8,.map io,jp⟩
theorem Ko:ai prog 240 NX:=⟨ad (by kernel_rfl),⟨underlying240,rfl⟩,fun h=>nomatch h⟩
def NW:bC:=⟨.aP (.func #[194] #[4] jp),1,8,.nilFunc,jp⟩
theorem Kn:ai prog 242 NW:=⟨ad (by kernel_rfl),⟨underlying242,rfl⟩,fun h=>nomatch h⟩
def NV:bC:=⟨.aP (.func #[196] #[4] jp),1,8,.nilFunc,jp⟩
theorem Km:ai prog 243 NV:=⟨ad (by kernel_rfl),⟨underlying243,rfl⟩,fun h=>nomatch h⟩
def NU:bC:=⟨.aP (.func #[198] #[4] jp),1,8,.nilFunc,jp⟩
theorem Kl:ai prog 247 NU:=⟨ad (by kernel_rfl),⟨underlying247,rfl⟩,fun h=>nomatch h⟩
def NS:bC:=⟨.aP (.int .i64),1,8,.int .i64 (0),jp⟩
theorem Kk:ai prog 250 NS:=⟨ad (by kernel_rfl),⟨underlying250,rfl⟩,fun h=>nomatch h⟩
def NR:bC:=⟨.aP (.func #[59,59] #[3] jp),1,8,.nilFunc,jp⟩
theorem Kj:ai prog 260 NR:=⟨ad (by kernel_rfl),⟨underlying260,rfl⟩,fun h=>nomatch h⟩
def NQ:bC:=⟨.aP (.func #[59] #[4] jp),1,8,.nilFunc,jp⟩
theorem Ki:ai prog 263 NQ:=⟨ad (by kernel_rfl),⟨underlying263,rfl⟩,fun h=>nomatch h⟩
def NP:bC:=⟨.aP (.pointer 5),1,8,.pointer io,jp⟩
theorem Kh:ai prog 275 NP:=⟨ad (by kernel_rfl),⟨underlying275,rfl⟩,fun h=>nomatch h⟩
def NO:bC:=⟨.aP (.func #[3] #[4] jp),1,8,.nilFunc,jp⟩
theorem Kg:ai prog 277 NO:=⟨ad (by kernel_rfl),⟨underlying277,rfl⟩,fun h=>nomatch h⟩
def NN:bC:=⟨.aP (.pointer 317),1,8,.pointer io,jp⟩
theorem Kf:ai prog 280 NN:=⟨ad (by kernel_rfl),⟨underlying280,rfl⟩,fun h=>nomatch h⟩
def NL:bC:=⟨.aP (.slice 149),1,24,.slice io 0 0,jp⟩
theorem Ke:ai prog 283 NL:=⟨ad (by kernel_rfl),⟨underlying283,rfl⟩,fun h=>nomatch h⟩
def NK:bC:=⟨.aP (.func #[149] #[4] jp),1,8,.nilFunc,jp⟩
theorem Kd:ai prog 285 NK:=⟨ad (by kernel_rfl),⟨underlying285,rfl⟩,fun h=>nomatch h⟩
def NJ:bC:=⟨.cp [(0,31),(1,277)],2,16,.agg #[.int .i64 (0),.nilFunc],is⟩
theorem Kc:ai prog 286 NJ:=⟨ad (by kernel_rfl),⟨_,underlying286,rfl⟩,fun _=>bL underlying286 Tryz.stoodInHeld286 Tryz.eqGuardType286 (by decide)⟩
def NI:bC:=⟨.aP (.pointer 326),1,8,.pointer io,jp⟩
theorem Kb:ai prog 288 NI:=⟨ad (by kernel_rfl),⟨underlying288,rfl⟩,fun h=>nomatch h⟩
def NH:bC:=⟨.aP (.slice 286),1,24,.slice io 0 0,jp⟩
theorem Ka:ai prog 290 NH:=⟨ad (by kernel_rfl),⟨underlying290,rfl⟩,fun h=>nomatch h⟩
def NG:bC:=⟨.aP (.int .u64),1,8,.int .u64 (0),jp⟩
theorem J9:ai prog 296 NG:=⟨ad (by kernel_rfl),⟨underlying296,rfl⟩,fun h=>nomatch h⟩
def NF:bC:=⟨.aP (.pointer 3),1,8,.pointer io,jp⟩
theorem J8:ai prog 300 NF:=⟨ad (by kernel_rfl),⟨underlying300,rfl⟩,fun h=>nomatch h⟩
def ND:bC:=⟨.aP (.func #[21] #[4] jp),1,8,.nilFunc,jp⟩
theorem J7:ai prog 308 ND:=⟨ad (by kernel_rfl),⟨underlying308,rfl⟩,fun h=>nomatch h⟩
def NC:bC:=⟨.aP (.unsafePointer),1,8,.pointer io,jp⟩
theorem J6:ai prog 309 NC:=⟨ad (by kernel_rfl),⟨underlying309,rfl⟩,fun h=>nomatch h⟩
def NB:bC:=⟨.arr 7 9,7,112,.agg #[.string Vx,.string Vx,.string Vx,.string Vx,.string Vx,.string Vx,.string Vx],jp⟩
theorem J5:ai prog 312 NB:=⟨ad (by kernel_rfl),underlying312,fun h=>nomatch h⟩
def NA:bC:=⟨.cp [(0,152),(5,240)],6,88,.agg #[.string Vx,.slice io 0 0,.slice io 0 0,.int .i64 (0),.int .i64 (0),.map io],is⟩
theorem J4:ai prog 317 NA:=⟨ad (by kernel_rfl),⟨_,underlying317,rfl⟩,fun _=>bL underlying317 Tryz.stoodInHeld317 Tryz.eqGuardType317 (by decide)⟩
def Nz:bC:=⟨.aP (.func #[157] #[4] jp),1,8,.nilFunc,jp⟩
theorem J3:ai prog 321 Nz:=⟨ad (by kernel_rfl),⟨underlying321,rfl⟩,fun h=>nomatch h⟩
def Ny:bC:=⟨.aP (.map 332 332),1,8,.map io,jp⟩
theorem J2:ai prog 322 Ny:=⟨ad (by kernel_rfl),⟨underlying322,rfl⟩,fun h=>nomatch h⟩
def Nx:bC:=⟨.aP (.map 332 3),1,8,.map io,jp⟩
theorem J1:ai prog 323 Nx:=⟨ad (by kernel_rfl),⟨underlying323,rfl⟩,fun h=>nomatch h⟩
def Nw:bC:=⟨.aP (.slice 334),1,24,.slice io 0 0,jp⟩
theorem J0:ai prog 324 Nw:=⟨ad (by kernel_rfl),⟨underlying324,rfl⟩,fun h=>nomatch h⟩
def Nv:bC:=⟨.cp [(0,280),(1,322),(2,324),(3,323)],4,48,.agg #[.pointer io,.map io,.slice io 0 0,.map io],is⟩
theorem JZ:ai prog 326 Nv:=⟨ad (by kernel_rfl),⟨_,underlying326,rfl⟩,fun _=>bL underlying326 Tryz.stoodInHeld326 Tryz.eqGuardType326 (by decide)⟩
def Nu:bC:=⟨.cp [(0,9),(1,3)],2,24,.agg #[.string Vx,.int .i64 (0)],is⟩
theorem JY:ai prog 332 Nu:=⟨ad (by kernel_rfl),⟨_,underlying332,rfl⟩,fun _=>bL underlying332 Tryz.stoodInHeld332 Tryz.eqGuardType332 (by decide)⟩
def Nt:bC:=⟨.cp [(0,3),(1,332),(3,3),(4,3)],5,48,.agg #[.int .i64 (0),.string Vx,.int .i64 (0),.int .i64 (0),.int .i64 (0)],is⟩
theorem JX:ai prog 334 Nt:=⟨ad (by kernel_rfl),⟨_,underlying334,rfl⟩,fun _=>bL underlying334 Tryz.stoodInHeld334 Tryz.eqGuardType334 (by decide)⟩
def Ns:bC:=⟨.aP (.pointer 296),1,8,.pointer io,jp⟩
theorem JW:ai prog 343 Ns:=⟨ad (by kernel_rfl),⟨underlying343,rfl⟩,fun h=>nomatch h⟩
def Nr:bC:=⟨.arr 5 9,5,80,.agg #[.string Vx,.string Vx,.string Vx,.string Vx,.string Vx],jp⟩
theorem JV:ai prog 350 Nr:=⟨ad (by kernel_rfl),underlying350,fun h=>nomatch h⟩
def Nq:bC:=⟨.arr 24 5,24,24,.agg (.replicate 24 (.int .u8 (0))),jp⟩
theorem JU:ai prog 363 Nq:=⟨ad (by kernel_rfl),underlying363,fun h=>nomatch h⟩
def Np:bC:=⟨.arr 20 104,20,160,.agg (.replicate 20 (.int .u64 (0))),jp⟩
theorem JT:ai prog 368 Np:=⟨ad (by kernel_rfl),underlying368,fun h=>nomatch h⟩
def No:bC:=⟨.arr 65 5,65,65,.agg (.replicate 65 (.int .u8 (0))),jp⟩
theorem JR:ai prog 369 No:=⟨ad (by kernel_rfl),underlying369,fun h=>nomatch h⟩
def Nn:bC:=⟨.arr 32 5,32,32,.agg (.replicate 32 (.int .u8 (0))),jp⟩
theorem JQ:ai prog 370 Nn:=⟨ad (by kernel_rfl),underlying370,fun h=>nomatch h⟩
def Nl:bC:=⟨.arr 64 5,64,64,.agg (.replicate 64 (.int .u8 (0))),jp⟩
theorem JP:ai prog 371 Nl:=⟨ad (by kernel_rfl),underlying371,fun h=>nomatch h⟩
def Gz:TT:=(.node (.node (.node (.node (.node (.node (.node .leaf 1 ty1 .leaf) 2 ty2 (.node .leaf 3 ty3 .leaf)) 4 ty4 (.node (.node .leaf 5 PK .leaf) 9 ty9 .leaf)) 21 Sq (.node (.node (.node .leaf 22 Sp .leaf) 23 Sn (.node .leaf 25 Sm .leaf)) 30 Sl (.node (.node .leaf 31 Sk .leaf) 35 Sj .leaf))) 36 Si (.node (.node (.node (.node .leaf 38 Sh .leaf) 43 Sg (.node .leaf 55 Sf .leaf)) 57 Se (.node (.node .leaf 59 Sd .leaf) 60 Sc .leaf)) 62 Sb (.node (.node (.node .leaf 64 Sa .leaf) 66 R9 .leaf) 70 R8 (.node (.node .leaf 72 R7 .leaf) 82 R6 .leaf)))) 83 R5 (.node (.node (.node (.node (.node .leaf 86 R4 .leaf) 93 R3 (.node .leaf 95 R2 .leaf)) 97 R1 (.node (.node .leaf 100 OI .leaf) 101 OH .leaf)) 104 OG (.node (.node (.node .leaf 108 OF .leaf) 110 zy (.node .leaf 111 OE .leaf)) 116 OD (.node (.node .leaf 123 OC .leaf) 126 OB .leaf))) 136 OA (.node (.node (.node (.node .leaf 138 Oz .leaf) 140 Oy (.node .leaf 141 Ox .leaf)) 142 Ow (.node (.node .leaf 145 Ov .leaf) 147 Ou .leaf)) 149 Ot (.node (.node (.node .leaf 150 Oq .leaf) 152 Oo .leaf) 157 On (.node (.node .leaf 160 Om .leaf) 168 Ol .leaf))))) 171 Oj (.node (.node (.node (.node (.node (.node .leaf 173 Oi .leaf) 175 Oh (.node .leaf 181 Og .leaf)) 182 Of (.node (.node .leaf 184 Oe .leaf) 186 Od .leaf)) 191 Oc (.node (.node (.node .leaf 192 Ob .leaf) 194 Oa (.node .leaf 196 N9 .leaf)) 198 N8 (.node (.node .leaf 199 N7 .leaf) 202 N6 .leaf))) 203 N5 (.node (.node (.node (.node .leaf 209 N4 .leaf) 219 NZ (.node .leaf 223 NY .leaf)) 240 NX (.node (.node .leaf 242 NW .leaf) 243 NV .leaf)) 247 NU (.node (.node (.node .leaf 250 NS .leaf) 260 NR .leaf) 263 NQ (.node (.node .leaf 275 NP .leaf) 277 NO .leaf)))) 280 NN (.node (.node (.node (.node (.node .leaf 283 NL .leaf) 285 NK (.node .leaf 286 NJ .leaf)) 288 NI (.node (.node .leaf 290 NH .leaf) 296 NG .leaf)) 300 NF (.node (.node (.node .leaf 308 ND .leaf) 309 NC .leaf) 312 NB (.node (.node .leaf 317 NA .leaf) 321 Nz .leaf))) 322 Ny (.node (.node (.node (.node .leaf 323 Nx .leaf) 324 Nw (.node .leaf 326 Nv .leaf)) 332 Nu (.node (.node .leaf 334 Nt .leaf) 343 Ns .leaf)) 350 Nr (.node (.node (.node .leaf 363 Nq .leaf) 368 Np .leaf) 369 No (.node (.node .leaf 370 Nn .leaf) 371 Nl .leaf))))))
theorem B2:Gz.Uf (ai prog):=⟨KH,⟨Pn,⟨PA,⟨PI,⟨RX,⟨RZ,⟨R0,ac,ac⟩,⟨RY,ac,ac⟩⟩,⟨RV,⟨RW,ac,ac⟩,ac⟩⟩,⟨PD,⟨PG,⟨PH,ac,ac⟩,⟨PF,ac,ac⟩⟩,⟨PB,⟨PC,ac,ac⟩,ac⟩⟩⟩,⟨Pt,⟨Pw,⟨Py,⟨Pz,ac,ac⟩,⟨Px,ac,ac⟩⟩,⟨Pu,⟨Pv,ac,ac⟩,ac⟩⟩,⟨Pq,⟨Pr,⟨Ps,ac,ac⟩,ac⟩,⟨Po,⟨Pp,ac,ac⟩,ac⟩⟩⟩⟩,⟨KW,⟨K3,⟨Pj,⟨Pl,⟨Pm,ac,ac⟩,⟨Pk,ac,ac⟩⟩,⟨K4,⟨K5,ac,ac⟩,ac⟩⟩,⟨KZ,⟨K1,⟨K2,ac,ac⟩,⟨K0,ac,ac⟩⟩,⟨KX,⟨KY,ac,ac⟩,ac⟩⟩⟩,⟨KP,⟨KS,⟨KU,⟨KV,ac,ac⟩,⟨KT,ac,ac⟩⟩,⟨KQ,⟨KR,ac,ac⟩,ac⟩⟩,⟨KL,⟨KN,⟨KO,ac,ac⟩,ac⟩,⟨KJ,⟨KK,ac,ac⟩,ac⟩⟩⟩⟩⟩,⟨Kf,⟨Ks,⟨Kz,⟨KD,⟨KF,⟨KG,ac,ac⟩,⟨KE,ac,ac⟩⟩,⟨KA,⟨KB,ac,ac⟩,ac⟩⟩,⟨Kv,⟨Kx,⟨Ky,ac,ac⟩,⟨Kw,ac,ac⟩⟩,⟨Kt,⟨Ku,ac,ac⟩,ac⟩⟩⟩,⟨Kl,⟨Ko,⟨Kq,⟨Kr,ac,ac⟩,⟨Kp,ac,ac⟩⟩,⟨Km,⟨Kn,ac,ac⟩,ac⟩⟩,⟨Ki,⟨Kj,⟨Kk,ac,ac⟩,ac⟩,⟨Kg,⟨Kh,ac,ac⟩,ac⟩⟩⟩⟩,⟨J2,⟨J8,⟨Kb,⟨Kd,⟨Ke,ac,ac⟩,⟨Kc,ac,ac⟩⟩,⟨J9,⟨Ka,ac,ac⟩,ac⟩⟩,⟨J5,⟨J6,⟨J7,ac,ac⟩,ac⟩,⟨J3,⟨J4,ac,ac⟩,ac⟩⟩⟩,⟨JV,⟨JY,⟨J0,⟨J1,ac,ac⟩,⟨JZ,ac,ac⟩⟩,⟨JW,⟨JX,ac,ac⟩,ac⟩⟩,⟨JR,⟨JT,⟨JU,ac,ac⟩,ac⟩,⟨JP,⟨JQ,ac,ac⟩,ac⟩⟩⟩⟩⟩⟩
def pJ:Ty:=Gz.find
theorem ab:bn prog pJ:=TT.vu B2
theorem QK:prog.follows .mixedOrders=is:=rfl
theorem fP{Q:AQ}{nt:NT}{k:List KI}{s:AS}{C:Prop}{j:NT}{st:Stop}(h:bF pJ ⟨fun _=>io,0,jp⟩ 400 nt k s True=co (C,j,st))(hC:C)(hg:fk prog j Q st):GO prog nt k Q s:=CX QK ab 400 h hC hg
theorem gA{Q:AQ}{nt:NT}{k:List KI}{s:AS}{C:Prop}{j:NT}{st:Stop}(h:bF pJ ⟨fun _=>io,0,jp⟩ 400 nt k s True=co (C,j,st))(hg:fk prog j Q st)
  (hC:C:=by(repeat' (first|exact ac|exact rfl|exact ae.refl _|exact ae.bk (by assumption)|apply Vo))<;>first|omega|exact im (fun _=>rfl) _|(simp only[Vu];omega)|(simp;done)|(simp;omega)):GO prog nt k Q s:=CX QK ab 400 h hC hg
theorem gM(N:Nat){Q:AQ}{nt:NT}{k:List KI}{s:AS}{C:Prop}{j:NT}{st:Stop}(h:bF pJ ⟨fun _=>io,0,jp⟩ N nt k s True=co (C,j,st))(hg:fk prog j Q st)
  (hC:C:=by(repeat' (first|exact ac|exact rfl|exact ae.refl _|exact ae.bk (by assumption)|apply Vo))<;>first|omega|exact im (fun _=>rfl) _|(simp only[Vu];omega)|(simp;done)|(simp;omega)):GO prog nt k Q s:=CX QK ab N h hC hg
theorem zp{nt:NT}{Q:AQ}{k:List KI}{s:AS}{all rest:List Oper}{o:Oper}{c:Call}{g:FuncId}{args:List PV}{r:PV}{s':AS}(hc:Al.Pure prog g args r)(h:GO prog nt (.ops all rest::k) Q s')(ho:o.op= .call c:=by exact rfl)(hg:o.guard=io:=by exact rfl)(ha:bN s.f c=co (g,args):=by exact rfl)(hl:bp 0 args=is:=by exact rfl)(hr:r.low 0=is:=by exact rfl)(hp:putDst nt o r s=co s':=by exact rfl):GO prog nt (.ops all (o::rest)::k) Q s:=aB hc ho hg ha hl hr hp h
theorem zL{ty:Ty}{u:List ResultVar}{e:Exit}{s:AS}{r r0:PV}(j:ae r0 r)(he:e= .normal∨e= .ret:=by first|exact .inr Z|exact .inl Z)(h:iL ty s u=co r0:=by exact rfl):Gf ty u r e s:=aI he h j
theorem zq{nt:NT}{Q:AQ}{k:List KI}{s:AS}{all rest:List Oper}{o:Oper}{c:Call}{g:FuncId}{asv args:List PV}{os:List AO}{r:PV}{y:AH}{A:Nat}{s':AS}(L:List Nat)(hc:bg prog g args os r y A)(h:GO prog nt (.ops all rest::k) Q s')(ho:o.op= .call c:=by exact rfl)(hg:o.guard=io:=by exact rfl)(ha:bN s.f c=co (g,asv):=by exact rfl)(hn:cA L=is:=by exact rfl)(hl:L.all (fun j=>VV j s.nx)=is:=by exact rfl)(x:L.map s.h.get=os.map fun o=>co (o.bY (sig L s.nx)):=by exact rfl)(u:asv=c7 (sig L s.nx) args:=by exact rfl)(hp:putDst nt o (r.bY (sig L s.nx)) (aA s L y A)=co s':=by exact rfl):GO prog nt (.ops all (o::rest)::k) Q s:=ak L hc ho hg ha hn hl x u hp h
theorem zd{nt:NT}{Q:AQ}{k:List KI}{s:AS}{all:List Oper}{todo pend:List (Nat×Oper)}{j:Nat}{o:Oper}{c:Call}{g:FuncId}{asv args:List PV}{os:List AO}{r:PV}{C:AH}{D:Nat}{s':AS}{B A:Prop}(L:List Nat)(hc:bg prog g args os r C D)(h:GO prog nt (.bR all (todo.filter fun x=>!VP x.1 j) (aX pend o)::k) Q s')(hrd:dq todo=[(j,o)]:=by exact rfl)(ho:o.op= .call c:=by exact rfl)(ha:bN s.f c=co (g,asv):=by exact rfl)(hn:cA L=is:=by exact rfl)(hl:L.all (fun j=>VV j s.nx)=is:=by exact rfl)(y:L.map s.h.get=os.map fun o=>co (o.bY (sig L s.nx)):=by exact rfl)(u:asv=c7 (sig L s.nx) args:=by exact rfl)(hp:putDst nt o (r.bY (sig L s.nx)) (aA s L C D)=co s':=by exact rfl)(hg:bQ nt all s.f o=co is:=by exact rfl)(hpb:gC all pend o=is:=by exact rfl)(hE:mW todo [j]=is:=by exact rfl)(hag:lD pJ nt all s todo pend=co B:=by exact rfl)(hCA:B:=by(repeat' (first|exact ac|exact rfl|exact ae.refl _|exact ae.bk (by assumption)|apply Vo))<;>first|omega|(simp only[Vu];omega)|(simp;done)|(simp;omega))(hag2:cX pJ nt all s' (aX pend o)=co A:=by exact rfl)(hC2:A:=by(repeat' (first|exact ac|exact rfl|exact ae.refl _|exact ae.bk (by assumption)|apply Vo))<;>first|omega|(simp only[Vu];omega)|(simp;done)|(simp;omega)):GO prog nt (.bR all todo pend::k) Q s:=bc ab L hc hrd ho ha hn hl y u hp hg hpb hE hag hCA hag2 hC2 h
theorem Di{nt:NT}{Q:AQ}{k:List KI}{s:AS}{all:List Oper}{todo pend:List (Nat×Oper)}{j:Nat}{o:Oper}{c:Call}{g:FuncId}{asv args:List PV}{r:PV}{s':AS}{A y:Prop}(hc:Al.Pure prog g args r)(h:GO prog nt (.bR all (todo.filter fun x=>!VP x.1 j) (aX pend o)::k) Q s')(hrd:dq todo=[(j,o)]:=by exact rfl)(ho:o.op= .call c:=by exact rfl)(ha:bN s.f c=co (g,asv):=by exact rfl)(u:asv=c7 (sig [] s.nx) args:=by exact rfl)(hp:putDst nt o (r.bY (sig [] s.nx)) (aA s [] [] 0)=co s':=by exact rfl)(hg:bQ nt all s.f o=co is:=by exact rfl)(hpb:gC all pend o=is:=by exact rfl)(hE:mW todo [j]=is:=by exact rfl)(hag:lD pJ nt all s todo pend=co A:=by exact rfl)(hCA:A:=by(repeat' (first|exact ac|exact rfl|exact ae.refl _|exact ae.bk (by assumption)|apply Vo))<;>first|omega|(simp only[Vu];omega)|(simp;done)|(simp;omega))(hag2:cX pJ nt all s' (aX pend o)=co y:=by exact rfl)(hC2:y:=by(repeat' (first|exact ac|exact rfl|exact ae.refl _|exact ae.bk (by assumption)|apply Vo))<;>first|omega|(simp only[Vu];omega)|(simp;done)|(simp;omega)):GO prog nt (.bR all todo pend::k) Q s:=bc ab [] hc.nv hrd ho ha Z Z Z u hp hg hpb hE hag hCA hag2 hC2 h
theorem zW{n0:Nat}{L:List Nat}{s t:AS}(hh:oC t.nx (sg n0 L) s.h t.h)(h1:VP t.nx (n0+L.length)=is:=by exact rfl)(u:Xr n0 s.nx=is:=by exact rfl)(x:L.all (fun j=>VV j s.nx)=is:=by exact rfl)(hf:Gq t.nx (sg n0 L) s.f t.f:=by repeat' (first|exact ac|exact ae.refl _|exact rfl|apply Vo))(y:cA (fg (sg n0 L) t.h)=is:=by exact rfl):Wk n0 L s t:=wk h1 u x hf hh y
theorem zM{n0:Nat}{L:List Nat}{s t:AS}(hf:Gq t.nx (sg n0 L) s.f t.f)(hh:oC t.nx (sg n0 L) s.h t.h)(h1:VP t.nx (n0+L.length)=is:=by exact rfl)(u:Xr n0 s.nx=is:=by exact rfl)(x:L.all (fun j=>VV j s.nx)=is:=by exact rfl)(y:cA (fg (sg n0 L) t.h)=is:=by exact rfl):Wk n0 L s t:=wk h1 u x hf hh y
theorem zK{n i:Nat}{σ:Nat->Nat}{h r:AH}{cs:List PV}{j:Option TypeId}{c:List IV}(hr:oC n σ h r)(ho:h.get (σ i)=co (.cells cs j):=by exact rfl)(he:cs=c.map .iv:=by exact rfl)(hi:VV i n=is:=by exact rfl):oC n σ h ((i,co (aG c))::r):=hC ho he hi hr
theorem zS{n i:Nat}{σ:Nat->Nat}{h r:AH}{α:Type}{sz:Nat}{es:List (List PV)}{l:List α}{f:α->List IV}(hr:oC n σ h r)(ho:h.get (σ i)=co (.row sz es):=by exact rfl)(he:es=l.map fun x=>(f x).map .iv:=by exact rfl)(hi:VV i n=is:=by exact rfl):oC n σ h ((i,co (aV sz l f))::r):=hR ho he hi hr
theorem zI{a b:Prop}(l:a)(r:b):a∧b:=⟨l,r⟩
theorem zO{n i:Nat}{σ:Nat->Nat}{h r:AH}{o:AO}(hr:oC n σ h r)(he: ∃p,h.get (σ i)=co p∧eJ p (o.bY σ):=by exact⟨_,rfl,.of_eq Z⟩)(hi:i<n:=by exact Vm Z)(hl:o.low n:=by exact rfl):oC n σ h ((i,co o)::r):=⟨he,hi,hl,hr⟩
theorem zD{ty:Ty}{s:AS}{l:List ResultVar}{m:Nat}{r r0:PV}{h:AH}{n:Nat}{e:Exit}(L:List Nat)(hr:iL ty s l=co r0)(hw:Wk m L ⟨[(0,r0)],s.h,s.nx⟩ ⟨[(0,r)],h,n⟩)(he:e= .normal∨e= .ret:=by first|exact .inr Z|exact .inl Z):Dh ty l m r h n e s:=ar L he hr hw
theorem zU{ty:Ty}{u:List ResultVar}{nt:NT}{k:List KI}{s s':AS}{e:Exit}{C:Prop}{j:NT}{r r0:PV}(h:bF pJ ⟨fun _=>io,0,jp⟩ 400 nt k s True=co (C,j,.fin e s'))(hr:r0=r:=by exact rfl)(he:e= .normal∨e= .ret:=by first|exact .inr Z|exact .inl Z)(h1:iL ty s' u=co r0:=by exact rfl)(hC:C:=by(repeat' (first|exact ac|exact rfl|exact ae.refl _|exact ae.bk (by assumption)|apply Vo))<;>first|omega|exact im (fun _=>rfl) _|(simp only[Vu];omega)|(simp;done)|(simp;omega)):GO prog nt k (Gf ty u r) s:=gA h (aI he h1 (.of_eq hr)) hC
theorem zC{n i:Nat}{σ:Nat->Nat}{h r:AH}{V:Type}{kc:KC}{ev:V->IV}{z:V}{x:Value}{j:PV->V}{m u:List (kc.K×V)}(hr:oC n σ h r)(ho:h.get (σ i)=co (.map kc ev z x j m):=by exact rfl)(he:m=u:=by exact rfl)(hi:VV i n=is:=by exact rfl):oC n σ h ((i,co (.map kc ev z x j u))::r):=hM ho he hi hr
theorem zJ{Q:AQ}{nt:NT}{k:List KI}{s:AS}{C:Prop}{j:NT}{st:Stop}{a b:Prop}(h:bF pJ ⟨fun _=>io,0,jp⟩ 400 nt k s True=co (C,j,st))(e:fk prog j Q st=(a∧b))(l:a)(r:b)(hC:C:=by(repeat' (first|exact ac|exact rfl|exact ae.refl _|exact ae.bk (by assumption)|apply Vo))<;>first|omega|exact im (fun _=>rfl) _|(simp only[Vu];omega)|(simp;done)|(simp;omega)):GO prog nt k Q s:=gA h (e.mpr ⟨l,r⟩) hC
theorem zE{Q:AQ}{nt:NT}{k:List KI}{s:AS}{C:Prop}{j:NT}{st:Stop}{a b:Prop}(h:bF pJ ⟨fun _=>io,0,jp⟩ 400 nt k s True=co (C,j,st))(e:fk prog j Q st=(a∧b))(r:b)(l:a)(hC:C:=by(repeat' (first|exact ac|exact rfl|exact ae.refl _|exact ae.bk (by assumption)|apply Vo))<;>first|omega|exact im (fun _=>rfl) _|(simp only[Vu];omega)|(simp;done)|(simp;omega)):GO prog nt k Q s:=gA h (e.mpr ⟨l,r⟩) hC
theorem zT{p:Prop}[Decidable p](h:decide p=is):p:=of_decide_eq_true h
theorem zF{p:Prop}[Decidable p](h:decide p=jp): ¬p:=of_decide_eq_false h
theorem zN{a b:Nat}(h:kw ((a:Int)<(b:Int))=is):a<b:=YE.1 (of_decide_eq_true h)
theorem zG{a b:Nat}(h:kw ((a:Int)<(b:Int))=jp):b<=a:=W9 fun hh=>absurd (YE.2 hh) (of_decide_eq_false h)
end Go.Proofs.YtlmhfgbkchnfbaaGreatDoor
namespace Go.Proofs.YtlmhfgbkchnfbaaGreatDoor
open Go Go.Al
abbrev aq:=ByteArray
structure cN where
 kind:Int
 num:Int
 sym:aq
 deriving Inhabited,DecidableEq
structure Term where
 kind:Int
 var:aq
 val:cN
 deriving Inhabited,DecidableEq
inductive Expr where
 |mk (kind:Int) (var:aq) (val:cN) (op:Int) (args:List Expr)
instance:Inhabited Expr:=⟨.mk 0 Vx ⟨0,0,Vx⟩ 0 []⟩
def Expr.kind:Expr->Int| .mk k _ _ _ _=>k
def Expr.var:Expr->aq| .mk _ v _ _ _=>v
def Expr.val:Expr->cN| .mk _ _ v _ _=>v
def Expr.op:Expr->Int| .mk _ _ _ o _=>o
def Expr.args:Expr->List Expr| .mk _ _ _ _ a=>a
structure Atom where
 rel:aq
 an:List Term
 deriving Inhabited,DecidableEq
structure Pos where
 line:Int
 JI:Int
 deriving Inhabited,DecidableEq
inductive Lit where
 |mk (kind:Int) (atom:Atom) (op:Int) (left right:Expr) (dP:Int) (bE:aq) (jT:Expr) (ay:List Lit) (at_:Pos)
instance:Inhabited Lit:=⟨.mk 0 ci 0 ci ci 0 Vx ci [] ⟨0,0⟩⟩
def Lit.kind:Lit->Int| .mk k _ _ _ _ _ _ _ _ _=>k
def Lit.atom:Lit->Atom| .mk _ a _ _ _ _ _ _ _ _=>a
def Lit.op:Lit->Int| .mk _ _ o _ _ _ _ _ _ _=>o
def Lit.left:Lit->Expr| .mk _ _ _ l _ _ _ _ _ _=>l
def Lit.right:Lit->Expr| .mk _ _ _ _ r _ _ _ _ _=>r
def Lit.dP:Lit->Int| .mk _ _ _ _ _ f _ _ _ _=>f
def Lit.bE:Lit->aq| .mk _ _ _ _ _ _ v _ _ _=>v
def Lit.jT:Lit->Expr| .mk _ _ _ _ _ _ _ o _ _=>o
def Lit.ay:Lit->List Lit| .mk _ _ _ _ _ _ _ _ b _=>b
def Lit.at:Lit->Pos| .mk _ _ _ _ _ _ _ _ _ p=>p
structure gJ where
 func:Int
 var:aq
 j7:Expr
 body:List Lit
 deriving Inhabited
def Lit.agg(l:Lit):gJ:=⟨l.dP,l.bE,l.jT,l.ay⟩
structure aw where
 head:Atom
 body:List Lit
 at_:Pos
 deriving Inhabited
structure Decl where
 name:aq
 types:List Int
 at_:Pos
 deriving Inhabited
structure Prog where
 aD:List Decl
 rules:List aw
 deriving Inhabited
structure Fact where
 rel:aq
 args:List cN
 deriving Inhabited
def cN.c(v:cN):List IV:=[iI v.kind,iI v.num,iS v.sym]
def Term.c(t:Term):List IV:=[iI t.kind,iS t.var,iI t.val.kind,iI t.val.num,iS t.val.sym]
def c9(s:aq):List IV:=[iS s]
def kg(n:Int):List IV:=[iI n]
abbrev strs(l:List aq):IV:=a7 1 l c9
def Atom.c(a:Atom):List IV:=[iS a.rel,a7 5 a.an Term.c]
mutual
def Expr.cr:Expr->List IV
 | .mk k v val op args=> [iI k,iS v,iI val.kind,iI val.num,iS val.sym,iI op,.bK 7 args.length (fun j=>(Expr.vG args).getD j [])]
def Expr.vG:List Expr->List (List IV)
 | []=> []
 |e::r=>e.cr::Expr.vG r
end
def Expr.c(e:Expr):List IV:=[iI e.kind,iS e.var,iI e.val.kind,iI e.val.num,iS e.val.sym,iI e.op,.bK 7 e.args.length (fun j=>(Expr.vG e.args).getD j [])]
def Expr.c1(e:Expr):List IV:=[iI e.kind,iS e.var,iI e.val.kind,iI e.val.num,iS e.val.sym,iI e.op,a7 7 e.args Expr.c]
theorem Expr.I6(e:Expr):e.cr=e.c:=by cases e;rfl
theorem Expr.qp: ∀(l:List Expr) (k:Nat),k<l.length->(Expr.vG l).getD k []=(l.getD k ci).c
 |e::r,0,_=>by simp[Expr.vG,Expr.I6]
 |e::r,k+1,h=>by simpa[Expr.vG]using Expr.qp r k (by simpa using h)
 | [],k,h=>by simp at h
theorem Rb(e:Expr):jV (.bK 7 e.args.length (fun j=>(Expr.vG e.args).getD j [])) (a7 7 e.args Expr.c):= .bK Z (Expr.qp e.args)
theorem MI(e:Expr):jV (a7 7 e.args Expr.c) (.bK 7 e.args.length (fun j=>(Expr.vG e.args).getD j [])):= .bK Z (fun k hk=>(Expr.qp e.args k hk).symm)
mutual
def Lit.cr:Lit->List IV
 | .mk kind atom op left right dP bE jT ay at_=>
  iI kind::(atom.c++(iI op::(left.c++(right.c++(iI dP::iS bE::(jT.c++ [.bK 30 ay.length (fun j=>(Lit.vG ay).getD j []),iI at_.line,iI at_.JI]))))))
def Lit.vG:List Lit->List (List IV)
 | []=> []
 |e::r=>e.cr::Lit.vG r
end
def Lit.cw(l:Lit)(b:IV):List IV:=
 [iI l.kind,iS l.atom.rel,a7 5 l.atom.an Term.c,iI l.op,
  iI l.left.kind,iS l.left.var,iI l.left.val.kind,iI l.left.val.num,iS l.left.val.sym,iI l.left.op,.bK 7 l.left.args.length (fun j=>(Expr.vG l.left.args).getD j []),
  iI l.right.kind,iS l.right.var,iI l.right.val.kind,iI l.right.val.num,iS l.right.val.sym,iI l.right.op,.bK 7 l.right.args.length (fun j=>(Expr.vG l.right.args).getD j []),
  iI l.dP,iS l.bE,
  iI l.jT.kind,iS l.jT.var,iI l.jT.val.kind,iI l.jT.val.num,iS l.jT.val.sym,iI l.jT.op,.bK 7 l.jT.args.length (fun j=>(Expr.vG l.jT.args).getD j []),
  b,iI l.at.line,iI l.at.JI]
def rD(l:List Lit):IV:= .bK 30 l.length (fun j=>(Lit.vG l).getD j [])
def Lit.c(l:Lit):List IV:=l.cw (rD l.ay)
abbrev lits(l:List Lit):IV:=a7 30 l Lit.c
def Lit.c1(l:Lit):List IV:=l.cw (lits l.ay)
theorem Lit.I6(e:Lit):e.cr=e.c:=by cases e;rfl
theorem Lit.qp: ∀(l:List Lit) (k:Nat),k<l.length->(Lit.vG l).getD k []=(l.getD k ci).c
 |e::r,0,_=>by simp[Lit.vG,Lit.I6]
 |e::r,k+1,h=>by simpa[Lit.vG]using Lit.qp r k (by simpa using h)
 | [],k,h=>by simp at h
theorem mJ(l:List Lit):jV (rD l) (lits l):= .bK Z (Lit.qp l)
theorem CG(l:List Lit):jV (lits l) (rD l):= .bK Z (fun k hk=>(Lit.qp l k hk).symm)
def gJ.cw(a:gJ)(b:IV):List IV:=[iI a.func,iS a.var,iI a.j7.kind,iS a.j7.var,iI a.j7.val.kind,iI a.j7.val.num,iS a.j7.val.sym,iI a.j7.op,.bK 7 a.j7.args.length (fun j=>(Expr.vG a.j7.args).getD j []),b]
def gJ.c(a:gJ):List IV:=a.cw (rD a.body)
def gJ.c1(a:gJ):List IV:=a.cw (lits a.body)
def aw.c(r:aw):List IV:=[iS r.head.rel,a7 5 r.head.an Term.c,lits r.body,iI r.at_.line,iI r.at_.JI]
def Decl.c(r:Decl):List IV:=[iS r.name,a7 1 r.types kg,iI r.at_.line,iI r.at_.JI]
def Prog.c(p:Prog):List IV:=[a7 4 p.aD Decl.c,a7 5 p.rules aw.c]
def Fact.c(f:Fact):List IV:=[iS f.rel,a7 3 f.args cN.c]
theorem Expr.Gl(e:Expr):ae (ag e.c) (ag e.c1):= .agg ⟨.refl _,.refl _,.refl _,.refl _,.refl _,.refl _,.iv (Rb e),ac⟩
theorem Expr.FL(e:Expr):ae (ag e.c1) (ag e.c):= .agg ⟨.refl _,.refl _,.refl _,.refl _,.refl _,.refl _,.iv (MI e),ac⟩
theorem Lit.Ez(l:Lit){b j:IV}(h:jV b j):ae (ag (l.cw b)) (ag (l.cw j)):=
 .agg ⟨.refl _,.refl _,.refl _,.refl _,.refl _,.refl _,.refl _,.refl _,.refl _,.refl _,.refl _,.refl _,.refl _,.refl _,.refl _,.refl _,.refl _,.refl _,.refl _,.refl _,.refl _,.refl _,.refl _,.refl _,.refl _,.refl _,.refl _,.iv h,.refl _,.refl _,ac⟩
theorem Lit.Gl(l:Lit):ae (ag l.c) (ag l.c1):=l.Ez (mJ _)
theorem gJ.Ez(l:gJ){b j:IV}(h:jV b j):ae (ag (l.cw b)) (ag (l.cw j)):=
 .agg ⟨.refl _,.refl _,.refl _,.refl _,.refl _,.refl _,.refl _,.refl _,.refl _,.iv h,ac⟩
theorem gJ.Gl(l:gJ):ae (ag l.c) (ag l.c1):=l.Ez (mJ _)
theorem gJ.FL(l:gJ):ae (ag l.c1) (ag l.c):=l.Ez (CG _)
mutual
def Expr.size:Expr->Nat
 | .mk _ _ _ _ args=>1+Expr.aC args
def Expr.aC:List Expr->Nat
 | []=>0
 |e::r=>e.size+Expr.aC r
end
mutual
def Lit.size:Lit->Nat
 | .mk _ a _ l r _ _ o b _=>2+a.an.length+l.size+r.size+o.size+Lit.aC b
def Lit.aC:List Lit->Nat
 | []=>0
 |e::r=>e.size+Lit.aC r
end
theorem Expr.size_eq(e:Expr):e.size=1+Expr.aC e.args:=by cases e;rfl
theorem Lit.size_eq(l:Lit):l.size=2+l.atom.an.length+l.left.size+l.right.size+l.jT.size+Lit.aC l.ay:=by cases l;rfl
theorem Expr.bT: ∀(l:List Expr) (k:Nat),k<l.length->(l.getD k ci).size<=Expr.aC l
 |e::r,0,_=>by simp[Expr.aC]
 |e::r,k+1,h=>by
  have:=Expr.bT r k (by simpa using h);simp only[WQ,Expr.aC];omega
 | [],k,h=>by simp at h
theorem Lit.bT: ∀(l:List Lit) (k:Nat),k<l.length->(l.getD k ci).size<=Lit.aC l
 |e::r,0,_=>by simp[Lit.aC]
 |e::r,k+1,h=>by
  have:=Lit.bT r k (by simpa using h);simp only[WQ,Lit.aC];omega
 | [],k,h=>by simp at h
theorem Expr.size_pos(e:Expr):1<=e.size:=by rw[e.size_eq];omega
theorem Lit.size_pos(e:Lit):2<=e.size:=by rw[e.size_eq];omega
theorem Expr.aJ: ∀(l:List Expr),l.length<=Expr.aC l
 | []=>VA _
 |e::r=>by have:=e.size_pos;have:=Expr.aJ r;simp only[VX,Expr.aC];omega
theorem Lit.aJ: ∀(l:List Lit),l.length<=Lit.aC l
 | []=>VA _
 |e::r=>by have:=e.size_pos;have:=Lit.aJ r;simp only[VX,Lit.aC];omega
def aw.size(r:aw):Nat:=r.head.an.length+Lit.aC r.body
def dR(l:List aq)(s:aq):Bool:=l.any fun x=>kw (x=s)
def en(s:aq)(a:List aq×Bool)(x:aq):List aq×Bool:=
 if(a.2||decide (x=s))=jp∧(!(Op.bytesLess x.toList s.toList||decide (x=s)))=is then(a.1++ [s]++ [x],is) else(a.1++ [x],a.2||decide (x=s))
def hZ(l:List aq)(s:aq):List aq:=
 let r:=l.foldl (en s) ([],jp)
 if r.2 then r.1 else r.1++ [s]
def oD(l m:List aq):List aq:=m.foldl hZ l
def B3(a:List aq)(t:Term):List aq:=if t.kind=1 then hZ a t.var else a
def rI(a:Atom):List aq:=a.an.foldl B3 []
theorem Lit.uA: ∀(l:List Lit) (i:Nat),Lit.aC (l.take i)<=Lit.aC l
 | [],i=>by simp
 |e::r,0=>by simp[Lit.aC]
 |e::r,i+1=>by have:=Lit.uA r i;simp only[WM,Lit.aC];omega
theorem Expr.dS: ∀(l:List Expr) (i:Nat),i<l.length->Expr.aC (l.take i)+(l.getD i ci).size<=Expr.aC l
 |e::r,0,_=>by simp[Expr.aC]
 |e::r,i+1,h=>by have:=Expr.dS r i (by simpa using h);simp only[WM,WQ,Expr.aC];omega
 | [],i,h=>by simp at h
theorem Lit.dS: ∀(l:List Lit) (i:Nat),i<l.length->Lit.aC (l.take i)+(l.getD i ci).size<=Lit.aC l
 |e::r,0,_=>by simp[Lit.aC]
 |e::r,i+1,h=>by have:=Lit.dS r i (by simpa using h);simp only[WM,WQ,Lit.aC];omega
 | [],i,h=>by simp at h
def gJ.size(a:gJ):Nat:=a.j7.size+Lit.aC a.body
section
def zn(n:Int):IV:= .v (.int .i64 n)
def UH(p:PV):Int:=match p with
 | .iv (.v (.int _ n))=>n
 |_=>0
abbrev NM:=List ((KC.str).K×Int)
abbrev cS(m:NM):AO:= .map .str zn 0 (.int .i64 0) UH m
abbrev A1(m:NM):IV:= .eG .str zn 0 (.int .i64 0) m
theorem fT: ∀M,IR M (zn 0) (.int .i64 0):=fun _=> .v _
def bump(m:NM)(s:aq):NM:=cJ .str m s (dQ .str m s 0+1)
def aL(l:List aq):NM:=l.foldl bump []
theorem dh(l:List aq)(s:aq):aL (l++ [s])=bump (aL l) s:=by simp[aL]
section
variable {V:Type}
theorem lW{m:List ((KC.str).K×V)}{s t:aq}{v z:V}:dQ .str (cJ .str m s v) t z=if s=t then v else dQ .str m t z:=by
 induction m with
 |nil=>simp only[cJ,dQ]
 |cons x r ih=>
  obtain⟨a,b⟩:=x;simp only[cJ];by_cases h:a=s
  .rw[am h];simp only[dQ];by_cases j:s=t
   .simp[j]
   .have: ¬a=t:=fun e=>j (h▸e)
    rw[be j,be j,be this]
  .rw[be h];simp only[dQ,ih];by_cases j:a=t
   .have: ¬s=t:=fun e=>h (j.trans e.symm)
    simp[j,this]
   .simp[j]
theorem Bn{m:List ((KC.str).K×V)}{t:aq}:dr .str m t=is↔t∈m.map Wy:=by
 induction m with
 |nil=>simp[dr]
 |cons x r ih=>
  obtain⟨a,b⟩:=x;simp only[dr,Vy,VH];by_cases h:a=t
  .simp[h]
  .have: ¬t=a:=fun e=>h e.symm
   simp[h,this,ih]
theorem rb{m:List ((KC.str).K×V)}{s:aq}{v:V}(h:s∈m.map Wy):(cJ .str m s v).map Wy=m.map Wy:=by
 induction m with
 |nil=>simp at h
 |cons x r ih=>
  obtain⟨a,b⟩:=x;simp only[cJ];by_cases j:a=s
  .rw[am j];simp[j]
  .have: ¬s=a:=fun e=>j e.symm
   rw[be j,Vy,ih (by simpa[this]using h)];rfl
theorem dV{m:List ((KC.str).K×V)}{s:aq}{v:V}(h:s∉m.map Wy):(cJ .str m s v).map Wy=m.map Wy++ [s]:=by
 induction m with
 |nil=>simp[cJ]
 |cons x r ih=>
  obtain⟨a,b⟩:=x;simp only[Vy,VH,not_or]at h;have: ¬a=s:=fun e=>h.1 e.symm;simp only[cJ,be this,Vy,ih h.2];rfl
theorem CF{m:List ((KC.str).K×V)}{t:aq}{z:V}(h:t∉m.map Wy):dQ .str m t z=z:=by
 induction m with
 |nil=>rfl
 |cons x r ih=>
  obtain⟨a,b⟩:=x;simp only[Vy,VH,not_or]at h;have: ¬a=t:=fun e=>h.1 e.symm;simp only[dQ,be this];exact ih h.2
end
theorem qH{α:Type}{p:List α->Prop}(h0:p [])(h1: ∀l a,p l->p (l++ [a]))(l:List α):p l:=by
 have key: ∀r:List α,p r.reverse:=by
  intro r
  induction r with
  |nil=>exact h0
  |cons a r ih=>rw[List.reverse_cons];exact h1 _ _ ih
 simpa using key l.reverse
def qs(l:List aq)(t:aq):Nat:=(l.filter fun x=>kw (x=t)).length
theorem BK(l m:List aq)(t:aq):qs (l++m) t=qs l t+qs m t:=by simp[qs]
theorem gH(l:List aq)(t:aq):qs l t<=l.length:=WO _ _
theorem vH{l:List aq}{t:aq}:0<qs l t↔t∈l:=by
 rw[qs,List.length_pos_iff_exists_mem];constructor
 .rintro⟨x,hx⟩;obtain⟨h1,j⟩:=V4.1 hx;exact(zT j)▸h1
 .exact fun h=>⟨t,V4.2 ⟨h,by simp⟩⟩
theorem sF{l:List aq}{t:aq}:qs l t=0↔t∉l:=by
 rw[<-vH];omega
theorem bI(l:List aq)(t:aq):dQ .str (aL l) t 0=(qs l t:Int):=by
 induction l using qH with
 |h0=>rfl
 |h1 l s ih=>
  rw[dh,bump,lW,BK];by_cases h:s=t
  .subst h;rw[ih];simp[qs]
  .rw[be h,ih];simp[h,qs]
theorem eD(l:List aq):((aL l).map Wy).Nodup∧ ∀t:aq,t∈(aL l).map Wy↔t∈l:=by
 induction l using qH with
 |h0=>simp[aL]
 |h1 l s ih=>
  rw[dh,bump];obtain⟨h1,j⟩:=ih;by_cases h:s∈(aL l).map Wy
  .rw[rb h];refine⟨h1,fun t=>?_⟩;rw[j,VM,Vz];exact⟨.inl,fun u=>u.elim id fun e=>e▸(j s).1 h⟩
  .rw[dV h];refine⟨?_,fun t=>by rw[VM,j,VM]⟩;rw[W3];refine⟨h1,Wb.2 ⟨Yl,Wn⟩,fun a x b hb e=>?_⟩;rw[Vz]at hb;exact h ((e.trans hb)▸x)
def cR(a:Atom):List aq:=a.an.flatMap fun t=>if t.kind=1 then[t.var] else[]
theorem bA{α β:Type}[Inhabited α]{l:List α}{f:α->List β}{i:Nat}(h:i<l.length):(l.take (i+1)).flatMap f=(l.take i).flatMap f++f (l.getD i ci):=by
 rw[bS h,X3];simp
theorem uw: ∀l:List Term,(l.flatMap fun t=>if t.kind=1 then[t.var] else[]).length<=l.length
 | []=>by simp
 |t::r=>by
  have:=uw r;have j:(if t.kind=1 then[t.var] else[]).length<=1:=by split<;>simp
  rw[Wt,Vp,VX];omega
theorem jv(a:Atom):(cR a).length<=a.an.length:=uw a.an
theorem d88(occ:List aq)(a:Atom)(hb:occ.length+a.an.length<=1000000000000):bg Tryz.prog 192 [.mp 0,ag a.c] [cS (aL occ)] (.aZ []) [(0,co (cS (aL (occ++cR a))))] 1:=by
 refine aj ab Tryz.func192 Z (by decide) Tryz.ntmps192 Z (by simp) ?_;refine gA Z ?_;refine aM 0 a.an.length (VB _) (fun i=>⟨[(0,.mp 0),(3,.ptr 1 0),(7,.iv (a7 5 a.an Term.c)),(8,pI a.an.length),(9,pI i)],[(0,co (cS (aL (occ++(a.an.take i).flatMap fun t=>if t.kind=1 then[t.var] else[]))))],2⟩) (fun _=>True) [] ac
  (zW (hM Z (by simp) Z trivial)) fun i A _=>?_
 have hl:=uw (a.an.take i);simp only[V7]at hl;refine zJ Z Z (fun h1=>?_) fun h1=>?_
 .have h1:i<a.an.length:=by simpa using h1
  have hs:=bA (f:=fun t:Term=>if t.kind=1 then[t.var] else[]) h1;have y:=bI (occ++(a.an.take i).flatMap fun t=>if t.kind=1 then[t.var] else[]) (a.an.getD i ci).var;have u:=gH (occ++(a.an.take i).flatMap fun t=>if t.kind=1 then[t.var] else[]) (a.an.getD i ci).var;rw[Vp]at u;refine zJ Z Z (fun j=>?_) fun j=>?_
  .have j:(a.an.getD i ci).kind=1:=by simpa using j
   rw[am j]at hs;refine gA Z ⟨h1,ac,[],zW (hM Z (by rw[hs,<-VF,dh];rfl) Z ac)⟩
  .have j: ¬(a.an.getD i ci).kind=1:=by simpa using j
   rw[be j,We]at hs;refine gA Z ⟨h1,ac,[],zW (hM Z (by rw[hs]) Z ac)⟩
 .have h1:a.an.length<=i:=by simpa using h1
  have x:a.an.take i=a.an:=VI h1;refine gA Z (zD [] Z (zW (hM Z (by rw[x];rfl) Z ac)))
end
end Go.Proofs.YtlmhfgbkchnfbaaGreatDoor
namespace Go.Proofs.YtlmhfgbkchnfbaaGreatDoor
open Go Go.Al Go.Proofs.Tryz
mutual
def cC:Expr->List aq
 | .mk k v _ _ args=>if k=1 then[v] else if k=4 then kA args else[]
def kA:List Expr->List aq
 | []=> []
 |e::r=>cC e++kA r
end
theorem om: ∀l:List Expr,kA l=l.flatMap cC
 | []=>rfl
 |e::r=>by simp only[kA,Wt,om r]
theorem C6(e:Expr):cC e=if e.kind=1 then[e.var] else if e.kind=4 then e.args.flatMap cC else[]:=by
 cases e with
 |mk k v val op args=>simp only[cC,Expr.kind,Expr.var,Expr.args,om];rfl
mutual
theorem ij: ∀e:Expr,(cC e).length<=e.size
 | .mk k v _ _ args=>by
  have:=mV args;simp only[cC,Expr.size];split
  .simp
  .split
   .omega
   .simp
theorem mV: ∀l:List Expr,(kA l).length<=Expr.aC l
 | []=>by simp[kA]
 |e::r=>by
  have h1:=ij e;have j:=mV r;simp only[kA,Expr.aC,Vp];omega
end
theorem d135: ∀(n:Nat) (e:Expr) (occ:List aq),e.size<=n->occ.length+e.size<=1000000000000->bg prog 247 [.mp 0,ag e.c] [cS (aL occ)] (.aZ []) [(0,co (cS (aL (occ++cC e))))] 1
 |0,e,_,h,_=>by have:=e.size_pos;omega
 |n+1,e,occ,h,hb=>by
  refine bg.le (args:=[.mp 0,ag e.c1]) ?_ ⟨.refl _,e.Gl,ac⟩;have x:=C6 e;have D:=e.size_eq;have C:=bI occ e.var;have B:=gH occ e.var;refine aj ab func247 Z (by decide) ntmps247 Z (by simp) ?_;refine zJ Z Z (fun h1=>?_) fun h1=>?_
  .have h1:e.kind=1:=by simpa using h1
   rw[am h1]at x;refine gA Z (zD [] Z (zW (hM Z (by rw[x,dh];rfl) Z ac)))
  have h1: ¬e.kind=1:=by simpa using h1
  rw[be h1]at x;refine zJ Z Z (fun u=>?_) fun u=>?_
  .have u:e.kind=4:=by simpa using u
   rw[am u]at x;refine gA Z ?_;refine aM 0 e.args.length (VB _) (fun i=>⟨[(0,.mp 0),(3,.ptr 1 0),(18,.iv (a7 7 e.args Expr.c)),(19,pI e.args.length),(20,pI i)],[(0,co (cS (aL (occ++(e.args.take i).flatMap cC))))],2⟩) (fun _=>True) [] ac
    (zW (hM Z (by simp) Z trivial)) fun i I _=>?_
   have A:=Expr.aJ e.args;refine zJ Z Z (fun j=>?_) fun j=>?_
   .have j:i<e.args.length:=by simpa using j
    have hs:=bA (f:=cC) j;have J:=Expr.dS e.args i j;have G:=mV (e.args.take i);rw[om]at G;refine gA Z (ak [0] (d135 n (e.args.getD i ci) _ (by omega) (by rw[Vp];omega)) Z Z Z Z Z Z Z Z ?_);refine gA Z ⟨j,ac,[],zW (hM Z (by rw[hs,VF]) Z ac)⟩
   .have j:e.args.length<=i:=by simpa using j
    have y:e.args.take i=e.args:=VI j;refine gA Z (zD [] Z (zW (hM Z (by rw[x,y]) Z ac)))
  .have u: ¬e.kind=4:=by simpa using u
   rw[be u]at x;refine gA Z (zD [] Z (zW (hM Z (by rw[x,We]) Z ac)))
theorem I4(e:Expr)(occ:List aq)(hb:occ.length+e.size<=1000000000000):bg prog 247 [.mp 0,ag e.c] [cS (aL occ)] (.aZ []) [(0,co (cS (aL (occ++cC e))))] 1:=d135 e.size e occ (VA _) hb
def cT(l:Lit):List aq:=if l.kind=1∨l.kind=2 then cR l.atom else if l.kind=3 then cC l.left++cC l.right else[]
theorem mK(l:Lit):(cT l).length+2<=l.size:=by
 have h1:=jv l.atom;have j:=ij l.left;have u:=ij l.right;rw[l.size_eq];unfold cT;split
 .omega
 .split
  .rw[Vp];omega
  .simp;omega
theorem d89(l:Lit)(occ:List aq)(hb:occ.length+l.size<=1000000000000):bg prog 215 [.mp 0,ag l.c] [cS (aL occ)] (.aZ []) [(0,co (cS (aL (occ++cT l))))] 1:=by
 have B:=l.size_eq;have C:=ij l.left;refine aj ab func215 Z (by decide) ntmps215 Z (by simp) ?_;refine zJ Z Z (fun u=>?_) fun u=>?_
 .have u:l.kind=1:=zT u;have A:cT l=cR l.atom:=am (.inl u);refine gA Z (zq [0] (d88 occ l.atom (by omega)) ?_);refine gA Z (zD [] Z (zW (hM Z (by rw[A]) Z ac)))
 have u: ¬l.kind=1:=zF u;refine zJ Z Z (fun x=>?_) fun x=>?_
 .have x:l.kind=2:=zT x;have A:cT l=cR l.atom:=am (.inr x);refine gA Z (zq [0] (d88 occ l.atom (by omega)) ?_);refine gA Z (zD [] Z (zW (hM Z (by rw[A]) Z ac)))
 have x: ¬l.kind=2:=zF x;have j:cT l=if l.kind=3 then cC l.left++cC l.right else[]:=be (by simp[u,x]);refine zJ Z Z (fun y=>?_) fun y=>?_
 .have y:l.kind=3:=zT y;rw[am y]at j;refine gA Z (zq [0] (I4 l.left occ (by omega)) ?_);refine gA Z (ak [0] (I4 l.right _ (by rw[Vp];omega)) Z Z Z Z Z Z Z Z ?_);refine gA Z (zD [] Z (zW (hM Z (by rw[j,VF]) Z ac)))
 .have y: ¬l.kind=3:=zF y;rw[be y]at j;refine gA Z (zD [] Z (zW (hM Z (by rw[j,We]) Z ac)))
def bm(a:gJ):List aq:=(if a.func=1 then[] else cC a.j7)++a.body.flatMap cT
theorem kV: ∀l:List Lit,(l.flatMap cT).length<=Lit.aC l
 | []=>by simp
 |e::r=>by
  have h1:=mK e;have j:=kV r;rw[Wt,Vp];simp only[Lit.aC];omega
theorem O3(e:Expr)(hb:e.size<=1000000000000):bg prog 247 [.mp 0,ag e.c] [.fh] (.aZ []) [(0,co (cS (aL (cC e))))] 1:=
 (I4 e [] (by simpa using hb)).OS ⟨⟨id,fun M N U w j u=>⟨#[],0,u,⟨rfl,by simp[aL],by simp[aL],by simp,by simp⟩,fT M⟩⟩,ac⟩
theorem UL(a:Atom)(hb:a.an.length<=1000000000000):bg prog 192 [.mp 0,ag a.c] [.fh] (.aZ []) [(0,co (cS (aL (cR a))))] 1:=
 (d88 [] a (by simpa using hb)).OS ⟨⟨id,fun M N U w j u=>⟨#[],0,u,⟨rfl,by simp[aL],by simp[aL],by simp,by simp⟩,fT M⟩⟩,ac⟩
theorem d127(a:gJ)(hb:a.size<=1000000000000):bg prog 221 [ag a.c] [] (.mp 0) [(0,co (cS (aL (bm a))))] 1:=by
 refine bg.le (args:=[ag a.c1]) ?_ ⟨a.Gl,ac⟩;unfold gJ.size at hb;have A:=ij a.j7;have y:=Lit.aJ a.body;refine aj ab func221 Z (by decide) ntmps221 Z (by simp) ?_;refine zJ Z Z (fun h1=>?_) fun h1=>?_
 .have h1: ¬a.func=1:=by simpa using h1
  have u:bm a=cC a.j7++a.body.flatMap cT:=by unfold bm;rw[be h1]
  refine gA Z (zq [1] (O3 a.j7 (by omega)) ?_);refine gA Z ?_;refine aM 0 a.body.length (VB _) (fun i=>⟨[(3,.mp 1),(15,.iv (lits a.body)),(16,pI a.body.length),(17,pI i)],[(1,co (cS (aL (cC a.j7++(a.body.take i).flatMap cT))))],2⟩) (fun _=>True) [] ac
   (zW (hM Z (by simp) Z trivial)) fun i B _=>?_
  refine zJ Z Z (fun j=>?_) fun j=>?_
  .have j:i<a.body.length:=by simpa using j
   have hs:=bA (f:=cT) j;have C:=Lit.dS a.body i j;have D:=kV (a.body.take i);refine gA Z (ak [1] (d89 (a.body.getD i ci) _ (by rw[Vp];omega)) Z Z Z Z Z Z Z Z ?_);refine gA Z ⟨j,ac,[],zW (hM Z (by rw[hs,VF]) Z ac)⟩
  .have j:a.body.length<=i:=by simpa using j
   have x:a.body.take i=a.body:=VI j;refine gA Z (zD [1] Z (zW (hM Z (by rw[x,u]) Z ac)))
 .have h1:a.func=1:=by simpa using h1
  have u:bm a=a.body.flatMap cT:=by unfold bm;rw[am h1];rfl
  refine gA Z ?_;refine aM 0 a.body.length (VB _) (fun i=>⟨[(3,.mp 1),(15,.iv (lits a.body)),(16,pI a.body.length),(17,pI i)],[(1,co (cS (aL ((a.body.take i).flatMap cT))))],2⟩) (fun _=>True) [] ac
   (zW (QU Z fT Z trivial)) fun i B _=>?_
  refine zJ Z Z (fun j=>?_) fun j=>?_
  .have j:i<a.body.length:=by simpa using j
   have hs:=bA (f:=cT) j;have C:=Lit.dS a.body i j;have D:=kV (a.body.take i);refine gA Z (ak [1] (d89 (a.body.getD i ci) _ (by omega)) Z Z Z Z Z Z Z Z ?_);refine gA Z ⟨j,ac,[],zW (hM Z (by rw[hs]) Z ac)⟩
  .have j:a.body.length<=i:=by simpa using j
   have x:a.body.take i=a.body:=VI j;refine gA Z (zD [1] Z (zW (hM Z (by rw[x,u]) Z ac)))
def ins:List aq->aq->List aq
 | [],s=> [s]
 |x::r,s=>if x=s then x::r else if Op.bytesLess x.toList s.toList=is then x::ins r s else s::x::r
theorem ku(s:aq): ∀(l a:List aq),l.foldl (en s) (a,is)=(a++l,is)
 | [],a=>by simp
 |x::r,a=>by
  have:en s (a,is) x=(a++ [x],is):=by simp[en]
  rw[Ws,this,ku s r];simp
theorem xL(s:aq): ∀(l a:List aq),(if(l.foldl (en s) (a,jp)).2 then(l.foldl (en s) (a,jp)).1 else(l.foldl (en s) (a,jp)).1++ [s])=a++ins l s
 | [],a=>by simp[ins]
 |x::r,a=>by
  by_cases h1:x=s
  .have:en s (a,jp) x=(a++ [x],is):=by simp[en,h1]
   rw[Ws,this,ku];simp[ins,h1]
  .cases h2:Op.bytesLess x.toList s.toList with
   |true=>
    have:en s (a,jp) x=(a++ [x],jp):=by simp[en,h1,h2]
    rw[Ws,this,xL s r];simp[ins,h1,h2]
   |false=>
    have:en s (a,jp) x=(a++ [s]++ [x],is):=by simp[en,h1,h2]
    rw[Ws,this,ku];simp[ins,h1,h2]
theorem wJ(l:List aq)(s:aq):hZ l s=ins l s:=by
 have:=xL s l [];simpa[hZ]using this
theorem mF{x:aq}: ∀{l:List aq} {s:aq},x∈ins l s↔x∈l∨x=s
 | [],s=>by simp[ins]
 |y::r,s=>by
  simp only[ins];split
  .rename_i h;subst h;simp;exact fun h=> .inl h
  .split
   .simp[mF (l:=r),or_assoc]
   .simp;constructor
    .rintro(h|h|h)
     .exact .inr h
     .exact .inl (.inl h)
     .exact .inl (.inr h)
    .rintro((h|h)|h)
     .exact .inr (.inl h)
     .exact .inr (.inr h)
     .exact .inl h
theorem dz{x s:aq}{l:List aq}:x∈hZ l s↔x∈l∨x=s:=by rw[wJ];exact mF
theorem s4{x:aq}: ∀{m l:List aq},x∈oD l m↔x∈l∨x∈m
 | [],l=>by simp[oD]
 |y::r,l=>by
  have h:=s4 (x:=x) (m:=r) (l:=hZ l y);simp only[oD,Ws]at h ⊢;rw[h,dz,VH,or_assoc]
theorem bJ{l:List aq}{s:aq}:dR l s=is↔s∈l:=by
 simp[dR]
theorem fp{l:List aq}{s:aq}:dR l s=jp↔s∉l:=by
 rw[<-Bool.not_eq_true,bJ]
def jB(l:Lit):List aq:=cT l++if l.kind=4 then[l.bE] else[]
def aH(r:aw):List aq:=cR r.head++r.body.flatMap jB
theorem CH(l:Lit):(jB l).length+1<=l.size:=by
 have:=mK l;unfold jB;rw[Vp];split<;>simp<;>omega
theorem oc: ∀l:List Lit,(l.flatMap jB).length<=Lit.aC l
 | []=>by simp
 |e::r=>by
  have h1:=CH e;have j:=oc r;rw[Wt,Vp];simp only[Lit.aC];omega
theorem yH(r:aw):(aH r).length<=r.size:=by
 have h1:=oc r.body;have j:=jv r.head;unfold aH aw.size;rw[Vp];omega
def O6(r:aw):List IV:=[iS r.head.rel,a7 5 r.head.an Term.c,lits r.body,iI r.at_.line,iI r.at_.JI,A1 (aL (aH r))]
abbrev cD(r:aw):IV:= .kK (O6 r)
theorem c48(r:aw)(hb:r.size<=1000000000000):Pure prog 177 [ag r.c] (.iv (cD r)):=by
 unfold aw.size at hb;have C:=jv r.head;have B:=Lit.aJ r.body;refine ah ab func177 Z (by decide) ntmps177 Z (by simp) Z ?_;refine gA Z (zd [1] (UL r.head (by omega)) ?_);refine gA Z ?_
 refine aM 0 r.body.length (VB _) (fun i=>⟨[(3,.ptr 2 0),(18,.iv (lits r.body)),(19,pI r.body.length),(20,pI i)],
   [(1,co (cS (aL (cR r.head++(r.body.take i).flatMap jB)))),(2,co (.cells [pS r.head.rel,.iv (a7 5 r.head.an Term.c),.iv (lits r.body),pI r.at_.line,pI r.at_.JI,.mp 1]))],3⟩) (fun _=>True) [] ac
  (zW (hM Z (by simp) Z (zO trivial))) fun i I _=>?_
 refine zJ Z Z (fun u=>?_) fun u=>?_
 .have u:i<r.body.length:=by simpa using u
  have hs:=bA (f:=jB) u;have J:=Lit.dS r.body i u;have Y:=oc (r.body.take i);have G:=mK (r.body.getD i ci);refine gA Z (bc ab [1] (d89 (r.body.getD i ci) _ (by rw[Vp];omega)) Z Z Z Z Z Z Z Z Z Z Z Z (by(repeat' (first|exact ac|exact rfl|exact ae.refl _|exact ae.bk (by assumption)|apply Vo))<;>first|omega|(simp only[Vu];omega)|(simp;done)|(simp;omega)) Z (by(repeat' (first|exact ac|exact rfl|exact ae.refl _|exact ae.bk (by assumption)|apply Vo))<;>first|omega|(simp only[Vu];omega)|(simp;done)|(simp;omega)) ?_);refine zJ Z Z (fun x=>?_) fun x=>?_
  .have x:(r.body.getD i ci).kind=4:=zT x;have j:jB (r.body.getD i ci)=cT (r.body.getD i ci)++ [(r.body.getD i ci).bE]:=by unfold jB;rw[am x]
   rw[j]at hs;have D:=bI (cR r.head++(r.body.take i).flatMap jB++cT (r.body.getD i ci)) (r.body.getD i ci).bE;have y:=gH (cR r.head++(r.body.take i).flatMap jB++cT (r.body.getD i ci)) (r.body.getD i ci).bE;rw[Vp,Vp]at y;refine gA Z ⟨u,ac,[],zW (hM Z (by rw[hs,<-VF,<-VF,dh];rfl) Z (zO ac))⟩
  .have x: ¬(r.body.getD i ci).kind=4:=zF x;have j:jB (r.body.getD i ci)=cT (r.body.getD i ci):=by unfold jB;rw[be x,We]
   rw[j]at hs;refine gA Z ⟨u,ac,[],zW (hM Z (by rw[hs,<-VF]) Z (zO ac))⟩
 .have u:r.body.length<=i:=by simpa using u
  have A:r.body.take i=r.body:=VI u;refine fP Z ac (gj (.inr Z) Z (.map 1 Z (.cells 2 _ Z (show _=List.map PV.iv (O6 r) by rw[A];rfl) (.done (.of_eq Z)))))
def bf(occ:List aq)(e:Expr):Bool:=(cC e).all fun x=>dR occ x
theorem tV{l:List aq}{j:Nat}{x:(KC.str).K×Int}(h:(aL l)[j]? =co x):x.1∈l:=
 ((eD l).2 x.1).1 (V5.2 ⟨x,V2 h,rfl⟩)
theorem all_keys{l:List aq}{vs:List Nat}(h: ∀j,j<(aL l).length->j∈vs){p:aq->Prop}(hp: ∀j∈vs,∀x,(aL l)[j]? =co x->p x.1): ∀t∈l,p t:=by
 intro t ht;obtain⟨x,y,rfl⟩:=V5.1 (((eD l).2 t).2 ht);obtain⟨j,u⟩:=Wh y;exact hp j (h j (Vs.1 u).1) x u
theorem d125(occ:List aq)(e:Expr)(hb:e.size<=1000000000000):bg prog 251 [.mp 0,ag e.c] [cS (aL occ)] (pB (bf occ e)) [(0,co (cS (aL occ)))] 1:=by
 refine aj ab func251 Z (by decide) ntmps251 Z (by simp) ?_;refine gA Z (zq [2] (O3 e hb) ?_);refine gA Z ?_;refine fO (aL (cC e)) (fun vs=>⟨[(0,.mp 0),(12,.ptr 3 0)],[(0,co (cS (aL occ))),(3,co (.bX .str zn (aL (cC e)) vs io))],4⟩) (fun vs=> ∀j∈vs,∀x,(aL (cC e))[j]? =co x->x.1∈occ) [] (by simp)
  (zW (zC (hI Z Z (.inl Z) Z trivial))) fun vs G=>?_
 refine fP Z ac (dM Z Z Z Z Z (by decide) (fun u=>?_) fun j x C I=>?_)
 .refine gA Z (zD [] Z (zM ⟨.of_eq (by rw[show bf occ e=is from Wc.2 fun t ht=>bJ.2 (all_keys u G t ht)];rfl),rfl,ac⟩ (zC ac)))
 .have A:=bI occ x.1;refine zJ Z Z (fun h1=>?_) fun h1=>?_
  .have h1:dQ .str (aL occ) x.1 0=0:=zT h1;have B:x.1∉occ:=sF.1 (by rw[A]at h1;omega);refine gA Z (zD [] Z (zM ⟨.of_eq (by rw[show bf occ e=jp from List.all_eq_false.2 ⟨x.1,tV C,by rw[fp.2 B];simp⟩];rfl),rfl,ac⟩ (zC ac)))
  .have h1: ¬dQ .str (aL occ) x.1 0=0:=zF h1;have B:x.1∈occ:=vH.1 (by rw[A]at h1;omega);refine gA Z ?_
   exact⟨j,x,C,I,fun i hi y D=>by
    rcases VH.1 hi with rfl|hi
    .rw[C]at D;cases D;exact B
    .exact G i hi y D,[],zW (zC (hI Z Z (.inr Z) Z ac))⟩
def au(r:aw)(lit:Int):Lit:=r.body.getD lit.toNat ci
theorem Lit.kG(l:Lit):l.agg.size+2<=l.size:=by
 rw[l.size_eq];unfold gJ.size Lit.agg;dsimp only;omega
theorem pK{a b:aq×Bool}(h:a=b):PV.aZ [pS a.1,pB a.2]= .aZ [pS b.1,pB b.2]:=by rw[h]
def lh(l:Lit)(j:List aq):aq×Bool:=
 if¬l.kind=3∨ ¬l.op=1 then(Vx,jp)
 else if l.left.kind=1∧dR j l.left.var=jp∧(l.right.kind=2∨l.right.kind=1∧dR j l.right.var=is) then(l.left.var,is)
 else if l.right.kind=1∧(if l.left.kind=1 then dR j l.left.var else kw (l.left.kind=2))=is then(l.right.var,!dR j l.right.var)
 else(Vx,jp)
def bU(body:List Lit):List aq:=body.flatMap fun l=> [l.left.var,l.right.var,l.bE]
def cH(c k:List aq):Nat:=(c.filter fun x=>!dR k x).length
theorem jZ: ∀body:List Lit,(bU body).length=3*body.length
 | []=>rfl
 |l::r=>by have:=jZ r;simp only[bU,Wt,Vp,VX,WH]at this ⊢;omega
theorem qY(c k:List aq):cH c k<=c.length:=WO _ _
theorem qX{v:aq}{k:List aq}: ∀{c:List aq},v∈c->v∉k->cH c (hZ k v)<cH c k:=by
 have mono: ∀c:List aq,cH c (hZ k v)<=cH c k:=by
  intro c
  induction c with
  |nil=>exact VA _
  |cons x r j=>
   simp only[cH]at j ⊢;simp only[Xh];by_cases h1:x∈k
   .have:dR (hZ k v) x=is:=bJ.2 (dz.2 (.inl h1));rw[this,bJ.2 h1];exact j
   .simp only[fp.2 h1,Yr,if_true,VX];split<;>(try simp only[VX])<;>omega
 intro c y hk
 induction c with
 |nil=>cases y
 |cons x r j=>
  have A:=mono r;simp only[cH]at j A ⊢;simp only[Xh];by_cases u:x=v
  .subst u;have:dR (hZ k x) x=is:=bJ.2 (dz.2 (.inr Z));simp[this,fp.2 hk];omega
  .have B:v∈r:=by
    rcases VH.1 y with h|h
    .exact absurd h.symm u
    .exact h
   have j:=j B;by_cases h1:x∈k
   .have:dR (hZ k v) x=is:=bJ.2 (dz.2 (.inl h1));simp[this,bJ.2 h1];exact j
   .have:dR (hZ k v) x=jp:=fp.2 fun h=>by rcases dz.1 h with h|h;exact h1 h;exact u h
    simp[this,fp.2 h1];omega
def Fo(k:List aq)(l:Lit):List aq:=if l.kind=1 then oD k (rI l.atom) else k
theorem xY{body:List Lit}{l:Lit}(h:l∈body){v:aq}(j:v∈ [l.left.var,l.right.var,l.bE]):v∈bU body:=Ym.2 ⟨l,h,j⟩
def gv(may:Expr->Bool)(occ:List aq)(l:Lit):aq×Bool:=
 if¬l.kind=3∨ ¬l.op=1 then(Vx,jp)
 else if l.left.kind=1∧dR occ l.left.var=jp∧may l.right=is then(l.left.var,is)
 else if l.right.kind=1∧dR occ l.right.var=jp∧may l.left=is then(l.right.var,is)
 else(Vx,jp)
theorem ct{occ:List aq}{s:aq}:dR occ s=!kw (dQ .str (aL occ) s 0=0):=by
 rw[bI];by_cases h:s∈occ
 .have:=vH.2 h;rw[bJ.2 h];simp;omega
 .rw[fp.2 h,sF.2 h];rfl
def cz(occ:List aq)(e:Expr):Bool:=kw (e.kind=2)||(kw (e.kind=1)&&dR occ e.var)
theorem nV{a b:Bool}(h:a=b):pB a=pB b:=by rw[h]
theorem d76(occ:List aq)(e:Expr)(hb:e.size<=1000000000000):bg prog 131 [ag e.c,.ptr 1 0] [cS (aL occ),.cells [.mp 0]] (pB (cz occ e)) [(0,co (cS (aL occ))),(1,co (.cells [.mp 0]))] 2:=by
 have j:=bI occ e.var;have u:=ct (occ:=occ) (s:=e.var);refine aj ab func131 Z (by decide) ntmps131 Z (by simp) ?_
 repeat' (first
  |(refine gA Z (zI (fun _=>?_) (fun _=>?_)))
  |fail)
 all_goals first
  |(refine gA Z (ar [] (.inr Z) Z (zM ⟨.of_eq (nV (a:=is) ?_),rfl,ac⟩ (zC (zO ac))));simp_all [cz];done)
  |(refine gA Z (ar [] (.inr Z) Z (zM ⟨.of_eq (nV (a:=jp) ?_),rfl,ac⟩ (zC (zO ac))));simp_all [cz];done)
  |(refine gA Z (ar [] (.inr Z) Z (zM ⟨.of_eq (nV (a:=kw (dQ .str (aL occ) e.var 0>0)) ?_),rfl,ac⟩ (zC (zO ac))));rw[cz,u,j];simp_all;by_cases x:qs occ e.var=0<;>simp[x]<;>omega)
theorem c77(a:gJ):Pure prog 132 [ag a.c] (pB jp):=by
 refine ah ab func132 Z (by decide) ntmps132 Z (by simp) Z ?_;exact zU Z
theorem UZ(a:gJ):Pure prog 253 [ag a.c] (pB jp):=by
 refine ah ab func253 Z (by decide) ntmps253 Z (by simp) Z ?_;exact zU Z
def nY(out occ:List aq)(a:gJ):Bool:=(bm a).all fun x=>kw (x=a.var)||(!dR out x||dR occ x)
theorem d126(r:aw)(occ:List aq)(a:gJ)(hb:a.size<=1000000000000):bg prog 252 [ag a.c,.ptr 1 0,.ptr 2 0] [cS (aL occ),.cells [.iv (cD r)],.cells [.mp 0]] (pB (nY (aH r) occ a)) [(0,co (cS (aL occ))),(1,co (.cells [.iv (cD r)])),(2,co (.cells [.mp 0]))] 3:=by
 refine aj ab func252 Z (by decide) ntmps252 Z (by simp) ?_;refine gA Z (zq [] (d127 a hb) ?_);refine gA Z ?_;refine fO (aL (bm a)) (fun vs=>⟨[(1,.ptr 1 0),(2,.ptr 2 0),(3,.ptr 3 0),(8,.ptr 5 0)],[(0,co (cS (aL occ))),(1,co (.cells [.iv (cD r)])),(2,co (.cells [.mp 0])),(3,co (aG a.c)),(5,co (.bX .str zn (aL (bm a)) vs io))],6⟩) (fun vs=> ∀j∈vs,∀x,(aL (bm a))[j]? =co x->(kw (x.1=a.var)||(!dR (aH r) x.1||dR occ x.1))=is) [] (by simp)
  (zW (zC ⟨⟨_,rfl,.of_eq Z⟩,Vm Z,rfl,⟨_,rfl,.of_eq Z⟩,Vm Z,rfl,zK (hI Z Z (.inl Z) Z trivial)⟩)) fun vs I=>?_
 refine fP Z ac (dM Z Z Z Z Z (by decide) (fun u=>?_) fun j x A B=>?_)
 .refine gA Z (zD [] Z (zM ⟨.of_eq (nV (a:=is) (Wc.2 fun t ht=>all_keys (p:=fun t=>(kw (t=a.var)||(!dR (aH r) t||dR occ t))=is) u I t ht).symm),rfl,ac⟩ (zC ⟨⟨_,rfl,.of_eq Z⟩,Vm Z,rfl,⟨_,rfl,.of_eq Z⟩,Vm Z,rfl,ac⟩)))
 .have more:(kw (x.1=a.var)||(!dR (aH r) x.1||dR occ x.1))=is-> ∀i∈j::vs,∀x,(aL (bm a))[i]? =co x->(kw (x.1=a.var)||(!dR (aH r) x.1||dR occ x.1))=is:=fun h i hi y C=>by
   rcases VH.1 hi with rfl|hi
   .rw[A]at C;cases C;exact h
   .exact I i hi y C
  have D:=ct (occ:=aH r) (s:=x.1);have G:=ct (occ:=occ) (s:=x.1);have J:=bI (aH r) x.1;have Y:=bI occ x.1;refine zJ Z Z (fun g1=>?_) fun g1=>?_
  .have g1:kw (x.1=a.var)=jp:=by simpa using g1
   refine zJ Z Z (fun g2=>?_) fun g2=>?_
   .have g2:dR (aH r) x.1=is:=by
     have:=zT g2;rw[D];simp;omega
    refine zJ Z Z (fun g3=>?_) fun g3=>?_
    .have g3:dR occ x.1=jp:=by rw[G,g3];rfl
     refine gA Z (zD [] Z (zM ⟨.of_eq (nV (a:=jp) (List.all_eq_false.2 ⟨x.1,tV A,by rw[g1,g2,g3];simp⟩).symm),rfl,ac⟩ (zC ⟨⟨_,rfl,.of_eq Z⟩,Vm Z,rfl,⟨_,rfl,.of_eq Z⟩,Vm Z,rfl,ac⟩)))
    .have g3:dR occ x.1=is:=by rw[G,g3];rfl
     refine gA Z ⟨j,x,A,B,more (by rw[g3];simp),[],zW (zC ⟨⟨_,rfl,.of_eq Z⟩,Vm Z,rfl,⟨_,rfl,.of_eq Z⟩,Vm Z,rfl,zK (hI Z Z (.inr Z) Z ac)⟩)⟩
   .have g2:dR (aH r) x.1=jp:=by
     have:=zF g2;rw[D];simp;omega
    refine gA Z ⟨j,x,A,B,more (by rw[g2];simp),[],zW (zC ⟨⟨_,rfl,.of_eq Z⟩,Vm Z,rfl,⟨_,rfl,.of_eq Z⟩,Vm Z,rfl,zK (hI Z Z (.inr Z) Z ac)⟩)⟩
  .have g1:kw (x.1=a.var)=is:=by simpa using g1
   refine gA Z ⟨j,x,A,B,more (by rw[g1];simp),[],zW (zC ⟨⟨_,rfl,.of_eq Z⟩,Vm Z,rfl,⟨_,rfl,.of_eq Z⟩,Vm Z,rfl,zK (hI Z Z (.inr Z) Z ac)⟩)⟩
def mD(may:Expr->Bool)(more:gJ->Bool)(occ:List aq)(l:Lit):Option aq:=
 if(gv may occ l).2=is then co (gv may occ l).1 else if l.kind=4∧dR occ l.bE=jp∧more l.agg=is then co l.bE else io
def b5(may:Expr->Bool)(more:gJ->Bool)(occ:List aq):List Lit->Option aq
 | []=>io
 |l::r=>match mD may more occ l with
  |some v=>co v
  |none=>b5 may more occ r
def dc(may:List aq->Expr->Bool)(more:List aq->gJ->Bool)(body:List Lit):Nat->List aq->List aq
 |0,occ=>occ
 |n+1,occ=>match b5 (may occ) (more occ) occ body with
  |some v=>dc may more body n (occ++ [v])
  |none=>occ
def bw(l:Lit):List aq:=if l.kind=1 then cR l.atom else[]
def b7(may:List aq->Expr->Bool)(more:List aq->gJ->Bool)(body:List Lit)(occ:List aq):List aq:=dc may more body (3*body.length+1) (occ++body.flatMap bw)
theorem eZ{may:List aq->Expr->Bool}{more:List aq->gJ->Bool}{body:List Lit}{n:Nat}{occ:List aq}{v:aq}(h:b5 (may occ) (more occ) occ body=co v):dc may more body (n+1) occ=dc may more body n (occ++ [v]):=by
 simp only[dc,h]
theorem fa{may:List aq->Expr->Bool}{more:List aq->gJ->Bool}{body:List Lit}{n:Nat}{occ:List aq}(h:b5 (may occ) (more occ) occ body=io):dc may more body (n+1) occ=occ:=by
 simp only[dc,h]
theorem lz{may:Expr->Bool}{more:gJ->Bool}{occ:List aq}: ∀{l m:List Lit},b5 may more occ l=io->b5 may more occ (l++m)=b5 may more occ m
 | [],_,_=>rfl
 |x::r,m,h=>by
  simp only[b5]at h;split at h
  .cases h
  .rename_i h1;simp only[VT,b5,h1];exact lz h
theorem dN{may:Expr->Bool}{more:gJ->Bool}{occ:List aq}{l:List Lit}{i:Nat}(h:b5 may more occ (l.take i)=io)(hi:i<l.length)(j:mD may more occ (l.getD i ci)=io):b5 may more occ (l.take (i+1))=io:=by
 rw[bS hi,lz h];simp only[b5,j]
theorem qm{may:Expr->Bool}{more:gJ->Bool}{occ:List aq}{l:List Lit}{i:Nat}{v:aq}(h:b5 may more occ (l.take i)=io)(hi:i<l.length)(j:mD may more occ (l.getD i ci)=co v):b5 may more occ l=co v:=by
 have e:l=l.take i++(l.getD i ci::l.drop (i+1)):=by
  rw[Vr,Vt hi,Wv,List.getElem_cons_drop,XR]
 rw[e,lz h];simp only[b5,j]
theorem u3{may:Expr->Bool}{more:gJ->Bool}{occ:List aq}{l:Lit}{v:aq}(h:mD may more occ l=co v):v∈ [l.left.var,l.right.var,l.bE]∧v∉occ:=by
 unfold mD at h;split at h
 .rename_i h1;simp only[Vq]at h;subst h;unfold gv at h1 ⊢;split at h1
  .cases h1
  .rename_i x;rw[be x];split at h1
   .rename_i j;rw[am j];exact⟨by simp,fp.1 j.2.1⟩
   .rename_i j;rw[be j];split at h1
    .rename_i u;rw[am u];exact⟨by simp,fp.1 u.2.1⟩
    .cases h1
 .split at h
  .rename_i j;simp only[Vq]at h;subst h;exact⟨by simp,fp.1 j.2.1⟩
  .cases h
theorem ky{may:Expr->Bool}{more:gJ->Bool}{occ:List aq}{v:aq}: ∀{l:List Lit},b5 may more occ l=co v->v∈bU l∧v∉occ
 | [],h=>by cases h
 |x::r,h=>by
  simp only[b5]at h;split at h
  .rename_i w u;simp only[Vq]at h;subst h;obtain⟨h1,j⟩:=u3 u;exact⟨xY VG h1,j⟩
  .obtain⟨h1,j⟩:=ky h;refine⟨?_,j⟩;simp only[bU,Wt,VM]at h1 ⊢;exact .inr h1
theorem fK: ∀l:List Lit,(l.flatMap bw).length<=Lit.aC l
 | []=>by simp
 |e::r=>by
  have j:=fK r;have u:(bw e).length<=e.size:=by
   have:=jv e.atom;have:=e.size_eq;unfold bw;split
   .omega
   .simp
  rw[Wt,Vp];simp only[Lit.aC];omega
theorem TL(occ:List aq)(l:Lit)(hb:l.size<=100000000000):bg prog 193 [ag l.c,.cm (.func 251) [.mp 0] [],.mp 0] [cS (aL occ)] (.aZ [pS (gv (bf occ) occ l).1,pB (gv (bf occ) occ l).2]) [(0,co (cS (aL occ)))] 1:=by
 have A:=l.size_eq;have x:=bI occ l.left.var;have y:=bI occ l.right.var;refine aj ab func193 Z (by decide) ntmps193 Z (by simp) ?_;refine zE Z Z (fun h1=>?_) fun h1=>?_
 .have h1: ¬l.kind=3:=by simpa using h1
  refine gA Z (zD [] Z (zM ⟨.of_eq (pK (a:=(Vx,jp)) (by rw[gv,am (.inl h1)])),rfl,ac⟩ (zC ac)))
 have h1:l.kind=3:=by simpa using h1
 refine zJ Z Z (fun j=>?_) fun j=>?_
 .have j: ¬l.op=1:=by simpa using j
  refine gA Z (zD [] Z (zM ⟨.of_eq (pK (a:=(Vx,jp)) (by rw[gv,am (.inr j)])),rfl,ac⟩ (zC ac)))
 have j:l.op=1:=by simpa using j
 have u:gv (bf occ) occ l=if l.left.kind=1∧dR occ l.left.var=jp∧(bf occ) l.right=is then(l.left.var,is) else if l.right.kind=1∧dR occ l.right.var=jp∧(bf occ) l.left=is then(l.right.var,is) else(Vx,jp):=by
  rw[gv,be (by simp[h1,j])]
 repeat' (first
  |(refine gA Z (zI (fun _=>?_) (fun _=>?_)))
  |(refine gA Z (ak [0] (d125 occ l.left (by omega)) Z Z Z Z Z Z Z Z ?_))
  |(refine gA Z (ak [0] (d125 occ l.right (by omega)) Z Z Z Z Z Z Z Z ?_))
  |fail)
 all_goals first
  |(refine gA Z (ar [] (.inr Z) Z (zM ⟨.of_eq (pK (a:=(Vx,jp)) ?_),rfl,ac⟩ (zC ac)));rw[u];simp only[ct] at*;simp_all;done)
  |(refine gA Z (ar [] (.inr Z) Z (zM ⟨.of_eq (pK (a:=(l.left.var,is)) ?_),rfl,ac⟩ (zC ac)));rw[u];simp only[ct] at*;simp_all;done)
  |(refine gA Z (ar [] (.inr Z) Z (zM ⟨.of_eq (pK (a:=(l.right.var,is)) ?_),rfl,ac⟩ (zC ac)));rw[u];simp only[ct] at*;simp_all;done)
  |(exfalso;simp_all;done)
theorem UP(occ:List aq)(body:List Lit)(hb:occ.length+8*Lit.aC body<=100000000000):bg prog 130 [.iv (lits body),.mp 0,.cm (.func 251) [.mp 0] [],.cm (.func 253) [] []] [cS (aL occ)] (.aZ []) [(0,co (cS (aL (b7 (fun occ=>bf occ) (fun occ=>fun _=>jp) body occ))))] 1:=by
 have g0:=Lit.aJ body;have m0:=fK body;have i0:=jZ body;have k0:=qY (bU body) (occ++body.flatMap bw);refine aj ab func130 Z (by decide) ntmps130 Z (by simp) ?_;refine gA Z ?_;refine aM 0 body.length (VB _) (fun i=>⟨[(0,.iv (lits body)),(1,.mp 0),(2,.cm (.func 251) [.mp 0] []),(3,.cm (.func 253) [] []),(14,.iv (lits body)),(15,pI body.length),(16,pI i)],[(0,co (cS (aL (occ++(body.take i).flatMap bw))))],1⟩) (fun _=>True) [] ac
  (zW (hM Z (by simp) Z trivial)) fun i hi _=>?_
 refine zJ Z Z (fun h1=>?_) fun h1=>?_
 .have h1:i<body.length:=by simpa using h1
  have hs:=bA (f:=bw) h1;have hn:=Lit.dS body i h1;have hv:=fK (body.take i);have o0:=(body.getD i ci).size_eq;refine zJ Z Z (fun y=>?_) fun y=>?_
  .have y:(body.getD i ci).kind=1:=by simpa using y
   rw[show bw (body.getD i ci)=_ from am y]at hs;refine gA Z (zq [0] (d88 (occ++(body.take i).flatMap bw) (body.getD i ci).atom (by rw[Vp];omega)) ?_);refine gA Z ⟨h1,ac,[],zW (hM Z (by rw[hs,VF]) Z ac)⟩
  .have y: ¬(body.getD i ci).kind=1:=by simpa using y
   rw[show bw (body.getD i ci)=_ from be y,We]at hs;refine gA Z ⟨h1,ac,[],zW (hM Z (by rw[hs]) Z ac)⟩
 have h1:body.length<=i:=by simpa using h1
 have e0:body.take i=body:=VI h1;rw[e0];refine gA Z ?_;refine ic (σ:={x:List aq×Nat//b7 (fun occ=>bf occ) (fun occ=>fun _=>jp) body occ=dc (fun occ=>bf occ) (fun occ=>fun _=>jp) body (x.2+1) x.1∧cH (bU body) x.1<=x.2∧x.1.length+cH (bU body) x.1<=(occ++body.flatMap bw).length+cH (bU body) (occ++body.flatMap bw)})
  (fun x=>⟨[(0,.iv (lits body)),(1,.mp 0),(2,.cm (.func 251) [.mp 0] []),(3,.cm (.func 253) [] [])],[(0,co (cS (aL x.1.1)))],1⟩) (fun x=>cH (bU body) x.1.1)
  ⟨(occ++body.flatMap bw,3*body.length),rfl,by dsimp only;omega,VA _⟩ [] (zW (zC trivial)) ?_
 rintro⟨⟨ok,f⟩,hx1,hx2,hx3⟩;dsimp only at hx1 hx2 hx3 ⊢;rw[Vp]at hx3;refine gA Z ?_;refine aM 0 body.length (VB _) (fun i=>⟨[(0,.iv (lits body)),(1,.mp 0),(2,.cm (.func 251) [.mp 0] []),(3,.cm (.func 253) [] []),(28,.iv (lits body)),(29,pI body.length),(30,pI i)],[(0,co (cS (aL ok)))],1⟩) (fun i=>b5 ((fun occ=>bf occ) ok) ((fun occ=>fun _=>jp) ok) ok (body.take i)=io) [] Z
  (zW (zC trivial)) fun i hi D=>?_
 refine zJ Z Z (fun j=>?_) fun j=>?_
 .have j:i<body.length:=by simpa using j
  have n0:=Lit.bT body i j;have f0:=(body.getD i ci).kG;have u: ∀v,mD ((fun occ=>bf occ) ok) ((fun occ=>fun _=>jp) ok) ok (body.getD i ci)=co v->b7 (fun occ=>bf occ) (fun occ=>fun _=>jp) body occ=dc (fun occ=>bf occ) (fun occ=>fun _=>jp) body (f-1+1) (ok++ [v])∧cH (bU body) (ok++ [v])<=f-1∧
    (ok++ [v]).length+cH (bU body) (ok++ [v])<=(occ++body.flatMap bw).length+cH (bU body) (occ++body.flatMap bw)∧cH (bU body) (ok++ [v])<cH (bU body) ok:=by
   intro v hv;have hf:=qm D j hv;obtain⟨g1,g2⟩:=ky hf;have j0:=qX g1 g2;have d0:cH (bU body) (ok++ [v])=cH (bU body) (hZ ok v):=by
    unfold cH;congr 2
    funext x
    congr 1;rw[WR,bJ,bJ,dz,VM,Vz]
   have J:f-1+1=f:=by omega
   refine⟨?_,by omega,?_,by omega⟩
   .rw[hx1,eZ hf,J]
   .rw[Vp,Vp,VW];omega
  have b0:=bI ok (gv (bf ok) ok (body.getD i ci)).1;have Y:=gH ok (gv (bf ok) ok (body.getD i ci)).1;have c0:=bI ok (body.getD i ci).bE;have a0:=gH ok (body.getD i ci).bE;refine gA Z (zq [0] (TL ok (body.getD i ci) (by omega)) ?_);refine zJ Z Z (fun C=>?_) fun C=>?_
  .obtain⟨g1,g2,g3,g4⟩:=u _ (am C);refine gA Z ⟨⟨(_,f-1),g1,g2,g3⟩,[],g4,zW (hM Z (by dsimp only;rw[dh];rfl) Z ac)⟩
  .refine zJ Z Z (fun A=>?_) fun A=>?_
   .have A:(body.getD i ci).kind=4:=by simpa using A
    refine zJ Z Z (fun B=>?_) fun B=>?_
    .have B:dR ok (body.getD i ci).bE=jp:=by rw[ct];simpa using B
     refine gA Z (zp (UZ (body.getD i ci).agg) ?_);refine zJ Z Z (fun I=>?_) fun I=>?_
     .obtain⟨g1,g2,g3,g4⟩:=u _ ((be (by rw[C];simp)).trans (am ⟨A,B,I⟩));refine gA Z ⟨⟨(_,f-1),g1,g2,g3⟩,[],g4,zW (hM Z (by dsimp only;rw[dh];rfl) Z ac)⟩
     .refine gA Z ?_;exact⟨j,dN D j ((be (by rw[C];simp)).trans (be (fun h=>nomatch (h.2.2.symm.trans I)))),[],zW (zC ac)⟩
    .have B:dR ok (body.getD i ci).bE=is:=by rw[ct];simpa using B
     refine gA Z ⟨j,dN D j ((be (by rw[C];simp)).trans (be (by rw[B];simp))),[],zW (zC ac)⟩
   .have A: ¬(body.getD i ci).kind=4:=by simpa using A
    refine gA Z ⟨j,dN D j ((be (by rw[C];simp)).trans (be (fun h=>A h.1))),[],zW (zC ac)⟩
 .have j:body.length<=i:=by simpa using j
  rw[VI j]at D;have G:b7 (fun occ=>bf occ) (fun occ=>fun _=>jp) body occ=ok:=by rw[hx1,fa D]
  refine gA Z (zD [] Z (zW (hM Z (by rw[G]) Z ac)))
theorem TJ(occ:List aq)(l:Lit)(hb:l.size<=100000000000):bg prog 193 [ag l.c,.cm (.func 131) [] [.ptr 1 0],.mp 0] [cS (aL occ),.cells [.mp 0]] (.aZ [pS (gv (cz occ) occ l).1,pB (gv (cz occ) occ l).2]) [(0,co (cS (aL occ))),(1,co (.cells [.mp 0]))] 2:=by
 have A:=l.size_eq;have x:=bI occ l.left.var;have y:=bI occ l.right.var;refine aj ab func193 Z (by decide) ntmps193 Z (by simp) ?_;refine zE Z Z (fun h1=>?_) fun h1=>?_
 .have h1: ¬l.kind=3:=by simpa using h1
  refine gA Z (zD [] Z (zM ⟨.of_eq (pK (a:=(Vx,jp)) (by rw[gv,am (.inl h1)])),rfl,ac⟩ (zC (zO ac))))
 have h1:l.kind=3:=by simpa using h1
 refine zJ Z Z (fun j=>?_) fun j=>?_
 .have j: ¬l.op=1:=by simpa using j
  refine gA Z (zD [] Z (zM ⟨.of_eq (pK (a:=(Vx,jp)) (by rw[gv,am (.inr j)])),rfl,ac⟩ (zC (zO ac))))
 have j:l.op=1:=by simpa using j
 have u:gv (cz occ) occ l=if l.left.kind=1∧dR occ l.left.var=jp∧(cz occ) l.right=is then(l.left.var,is) else if l.right.kind=1∧dR occ l.right.var=jp∧(cz occ) l.left=is then(l.right.var,is) else(Vx,jp):=by
  rw[gv,be (by simp[h1,j])]
 repeat' (first
  |(refine gA Z (zI (fun _=>?_) (fun _=>?_)))
  |(refine gA Z (ak [0,1] (d76 occ l.left (by omega)) Z Z Z Z Z Z Z Z ?_))
  |(refine gA Z (ak [0,1] (d76 occ l.right (by omega)) Z Z Z Z Z Z Z Z ?_))
  |fail)
 all_goals first
  |(refine gA Z (ar [] (.inr Z) Z (zM ⟨.of_eq (pK (a:=(Vx,jp)) ?_),rfl,ac⟩ (zC (zO ac))));rw[u];simp only[ct] at*;simp_all;done)
  |(refine gA Z (ar [] (.inr Z) Z (zM ⟨.of_eq (pK (a:=(l.left.var,is)) ?_),rfl,ac⟩ (zC (zO ac))));rw[u];simp only[ct] at*;simp_all;done)
  |(refine gA Z (ar [] (.inr Z) Z (zM ⟨.of_eq (pK (a:=(l.right.var,is)) ?_),rfl,ac⟩ (zC (zO ac))));rw[u];simp only[ct] at*;simp_all;done)
  |(exfalso;simp_all;done)
theorem UO(occ:List aq)(body:List Lit)(hb:occ.length+8*Lit.aC body<=100000000000):bg prog 130 [.iv (lits body),.mp 0,.cm (.func 131) [] [.ptr 1 0],.cm (.func 132) [] []] [cS (aL occ),.cells [.mp 0]] (.aZ []) [(0,co (cS (aL (b7 (fun occ=>cz occ) (fun occ=>fun _=>jp) body occ)))),(1,co (.cells [.mp 0]))] 2:=by
 have g0:=Lit.aJ body;have m0:=fK body;have i0:=jZ body;have k0:=qY (bU body) (occ++body.flatMap bw);refine aj ab func130 Z (by decide) ntmps130 Z (by simp) ?_;refine gA Z ?_;refine aM 0 body.length (VB _) (fun i=>⟨[(0,.iv (lits body)),(1,.mp 0),(2,.cm (.func 131) [] [.ptr 1 0]),(3,.cm (.func 132) [] []),(14,.iv (lits body)),(15,pI body.length),(16,pI i)],[(0,co (cS (aL (occ++(body.take i).flatMap bw)))),(1,co (.cells [.mp 0]))],2⟩) (fun _=>True) [] ac
  (zW (hM Z (by simp) Z (zO trivial))) fun i hi _=>?_
 refine zJ Z Z (fun h1=>?_) fun h1=>?_
 .have h1:i<body.length:=by simpa using h1
  have hs:=bA (f:=bw) h1;have hn:=Lit.dS body i h1;have hv:=fK (body.take i);have o0:=(body.getD i ci).size_eq;refine zJ Z Z (fun y=>?_) fun y=>?_
  .have y:(body.getD i ci).kind=1:=by simpa using y
   rw[show bw (body.getD i ci)=_ from am y]at hs;refine gA Z (zq [0] (d88 (occ++(body.take i).flatMap bw) (body.getD i ci).atom (by rw[Vp];omega)) ?_);refine gA Z ⟨h1,ac,[],zW (hM Z (by rw[hs,VF]) Z (zO ac))⟩
  .have y: ¬(body.getD i ci).kind=1:=by simpa using y
   rw[show bw (body.getD i ci)=_ from be y,We]at hs;refine gA Z ⟨h1,ac,[],zW (hM Z (by rw[hs]) Z (zO ac))⟩
 have h1:body.length<=i:=by simpa using h1
 have e0:body.take i=body:=VI h1;rw[e0];refine gA Z ?_;refine ic (σ:={x:List aq×Nat//b7 (fun occ=>cz occ) (fun occ=>fun _=>jp) body occ=dc (fun occ=>cz occ) (fun occ=>fun _=>jp) body (x.2+1) x.1∧cH (bU body) x.1<=x.2∧x.1.length+cH (bU body) x.1<=(occ++body.flatMap bw).length+cH (bU body) (occ++body.flatMap bw)})
  (fun x=>⟨[(0,.iv (lits body)),(1,.mp 0),(2,.cm (.func 131) [] [.ptr 1 0]),(3,.cm (.func 132) [] [])],[(0,co (cS (aL x.1.1))),(1,co (.cells [.mp 0]))],2⟩) (fun x=>cH (bU body) x.1.1)
  ⟨(occ++body.flatMap bw,3*body.length),rfl,by dsimp only;omega,VA _⟩ [] (zW (zC (zO trivial))) ?_
 rintro⟨⟨ok,f⟩,hx1,hx2,hx3⟩;dsimp only at hx1 hx2 hx3 ⊢;rw[Vp]at hx3;refine gA Z ?_;refine aM 0 body.length (VB _) (fun i=>⟨[(0,.iv (lits body)),(1,.mp 0),(2,.cm (.func 131) [] [.ptr 1 0]),(3,.cm (.func 132) [] []),(28,.iv (lits body)),(29,pI body.length),(30,pI i)],[(0,co (cS (aL ok))),(1,co (.cells [.mp 0]))],2⟩) (fun i=>b5 ((fun occ=>cz occ) ok) ((fun occ=>fun _=>jp) ok) ok (body.take i)=io) [] Z
  (zW (zC (zO trivial))) fun i hi D=>?_
 refine zJ Z Z (fun j=>?_) fun j=>?_
 .have j:i<body.length:=by simpa using j
  have n0:=Lit.bT body i j;have f0:=(body.getD i ci).kG;have u: ∀v,mD ((fun occ=>cz occ) ok) ((fun occ=>fun _=>jp) ok) ok (body.getD i ci)=co v->b7 (fun occ=>cz occ) (fun occ=>fun _=>jp) body occ=dc (fun occ=>cz occ) (fun occ=>fun _=>jp) body (f-1+1) (ok++ [v])∧cH (bU body) (ok++ [v])<=f-1∧
    (ok++ [v]).length+cH (bU body) (ok++ [v])<=(occ++body.flatMap bw).length+cH (bU body) (occ++body.flatMap bw)∧cH (bU body) (ok++ [v])<cH (bU body) ok:=by
   intro v hv;have hf:=qm D j hv;obtain⟨g1,g2⟩:=ky hf;have j0:=qX g1 g2;have d0:cH (bU body) (ok++ [v])=cH (bU body) (hZ ok v):=by
    unfold cH;congr 2
    funext x
    congr 1;rw[WR,bJ,bJ,dz,VM,Vz]
   have J:f-1+1=f:=by omega
   refine⟨?_,by omega,?_,by omega⟩
   .rw[hx1,eZ hf,J]
   .rw[Vp,Vp,VW];omega
  have b0:=bI ok (gv (cz ok) ok (body.getD i ci)).1;have Y:=gH ok (gv (cz ok) ok (body.getD i ci)).1;have c0:=bI ok (body.getD i ci).bE;have a0:=gH ok (body.getD i ci).bE;refine gA Z (zq [0,1] (TJ ok (body.getD i ci) (by omega)) ?_);refine zJ Z Z (fun C=>?_) fun C=>?_
  .obtain⟨g1,g2,g3,g4⟩:=u _ (am C);refine gA Z ⟨⟨(_,f-1),g1,g2,g3⟩,[],g4,zW (hM Z (by dsimp only;rw[dh];rfl) Z (zO ac))⟩
  .refine zJ Z Z (fun A=>?_) fun A=>?_
   .have A:(body.getD i ci).kind=4:=by simpa using A
    refine zJ Z Z (fun B=>?_) fun B=>?_
    .have B:dR ok (body.getD i ci).bE=jp:=by rw[ct];simpa using B
     refine gA Z (zp (c77 (body.getD i ci).agg) ?_);refine zJ Z Z (fun I=>?_) fun I=>?_
     .obtain⟨g1,g2,g3,g4⟩:=u _ ((be (by rw[C];simp)).trans (am ⟨A,B,I⟩));refine gA Z ⟨⟨(_,f-1),g1,g2,g3⟩,[],g4,zW (hM Z (by dsimp only;rw[dh];rfl) Z (zO ac))⟩
     .refine gA Z ?_;exact⟨j,dN D j ((be (by rw[C];simp)).trans (be (fun h=>nomatch (h.2.2.symm.trans I)))),[],zW (zC (zO ac))⟩
    .have B:dR ok (body.getD i ci).bE=is:=by rw[ct];simpa using B
     refine gA Z ⟨j,dN D j ((be (by rw[C];simp)).trans (be (by rw[B];simp))),[],zW (zC (zO ac))⟩
   .have A: ¬(body.getD i ci).kind=4:=by simpa using A
    refine gA Z ⟨j,dN D j ((be (by rw[C];simp)).trans (be (fun h=>A h.1))),[],zW (zC (zO ac))⟩
 .have j:body.length<=i:=by simpa using j
  rw[VI j]at D;have G:b7 (fun occ=>cz occ) (fun occ=>fun _=>jp) body occ=ok:=by rw[hx1,fa D]
  refine gA Z (zD [] Z (zW (hM Z (by rw[G]) Z (zO ac))))
theorem TI(r:aw)(occ:List aq)(l:Lit)(hb:l.size<=100000000000):bg prog 193 [ag l.c,.cm (.func 251) [.mp 0] [],.mp 0] [cS (aL occ),.cells [.iv (cD r)],.cells [.mp 0]] (.aZ [pS (gv (bf occ) occ l).1,pB (gv (bf occ) occ l).2]) [(0,co (cS (aL occ))),(1,co (.cells [.iv (cD r)])),(2,co (.cells [.mp 0]))] 3:=by
 have A:=l.size_eq;have x:=bI occ l.left.var;have y:=bI occ l.right.var;refine aj ab func193 Z (by decide) ntmps193 Z (by simp) ?_;refine zE Z Z (fun h1=>?_) fun h1=>?_
 .have h1: ¬l.kind=3:=by simpa using h1
  refine gA Z (zD [] Z (zM ⟨.of_eq (pK (a:=(Vx,jp)) (by rw[gv,am (.inl h1)])),rfl,ac⟩ (zC ⟨⟨_,rfl,.of_eq Z⟩,Vm Z,rfl,⟨_,rfl,.of_eq Z⟩,Vm Z,rfl,ac⟩)))
 have h1:l.kind=3:=by simpa using h1
 refine zJ Z Z (fun j=>?_) fun j=>?_
 .have j: ¬l.op=1:=by simpa using j
  refine gA Z (zD [] Z (zM ⟨.of_eq (pK (a:=(Vx,jp)) (by rw[gv,am (.inr j)])),rfl,ac⟩ (zC ⟨⟨_,rfl,.of_eq Z⟩,Vm Z,rfl,⟨_,rfl,.of_eq Z⟩,Vm Z,rfl,ac⟩)))
 have j:l.op=1:=by simpa using j
 have u:gv (bf occ) occ l=if l.left.kind=1∧dR occ l.left.var=jp∧(bf occ) l.right=is then(l.left.var,is) else if l.right.kind=1∧dR occ l.right.var=jp∧(bf occ) l.left=is then(l.right.var,is) else(Vx,jp):=by
  rw[gv,be (by simp[h1,j])]
 repeat' (first
  |(refine gA Z (zI (fun _=>?_) (fun _=>?_)))
  |(refine gA Z (ak [0] (d125 occ l.left (by omega)) Z Z Z Z Z Z Z Z ?_))
  |(refine gA Z (ak [0] (d125 occ l.right (by omega)) Z Z Z Z Z Z Z Z ?_))
  |fail)
 all_goals first
  |(refine gA Z (ar [] (.inr Z) Z (zM ⟨.of_eq (pK (a:=(Vx,jp)) ?_),rfl,ac⟩ (zC ⟨⟨_,rfl,.of_eq Z⟩,Vm Z,rfl,⟨_,rfl,.of_eq Z⟩,Vm Z,rfl,ac⟩)));rw[u];simp only[ct] at*;simp_all;done)
  |(refine gA Z (ar [] (.inr Z) Z (zM ⟨.of_eq (pK (a:=(l.left.var,is)) ?_),rfl,ac⟩ (zC ⟨⟨_,rfl,.of_eq Z⟩,Vm Z,rfl,⟨_,rfl,.of_eq Z⟩,Vm Z,rfl,ac⟩)));rw[u];simp only[ct] at*;simp_all;done)
  |(refine gA Z (ar [] (.inr Z) Z (zM ⟨.of_eq (pK (a:=(l.right.var,is)) ?_),rfl,ac⟩ (zC ⟨⟨_,rfl,.of_eq Z⟩,Vm Z,rfl,⟨_,rfl,.of_eq Z⟩,Vm Z,rfl,ac⟩)));rw[u];simp only[ct] at*;simp_all;done)
  |(exfalso;simp_all;done)
theorem UN(r:aw)(occ:List aq)(body:List Lit)(hb:occ.length+8*Lit.aC body<=100000000000):bg prog 130 [.iv (lits body),.mp 0,.cm (.func 251) [.mp 0] [],.cm (.func 252) [] [.ptr 1 0,.ptr 2 0]] [cS (aL occ),.cells [.iv (cD r)],.cells [.mp 0]] (.aZ []) [(0,co (cS (aL (b7 (fun occ=>bf occ) (fun occ=>nY (aH r) occ) body occ)))),(1,co (.cells [.iv (cD r)])),(2,co (.cells [.mp 0]))] 3:=by
 have g0:=Lit.aJ body;have m0:=fK body;have i0:=jZ body;have k0:=qY (bU body) (occ++body.flatMap bw);refine aj ab func130 Z (by decide) ntmps130 Z (by simp) ?_;refine gA Z ?_;refine aM 0 body.length (VB _) (fun i=>⟨[(0,.iv (lits body)),(1,.mp 0),(2,.cm (.func 251) [.mp 0] []),(3,.cm (.func 252) [] [.ptr 1 0,.ptr 2 0]),(14,.iv (lits body)),(15,pI body.length),(16,pI i)],[(0,co (cS (aL (occ++(body.take i).flatMap bw)))),(1,co (.cells [.iv (cD r)])),(2,co (.cells [.mp 0]))],3⟩) (fun _=>True) [] ac
  (zW (hM Z (by simp) Z ⟨⟨_,rfl,.of_eq Z⟩,Vm Z,rfl,⟨_,rfl,.of_eq Z⟩,Vm Z,rfl,ac⟩)) fun i hi _=>?_
 refine zJ Z Z (fun h1=>?_) fun h1=>?_
 .have h1:i<body.length:=by simpa using h1
  have hs:=bA (f:=bw) h1;have hn:=Lit.dS body i h1;have hv:=fK (body.take i);have o0:=(body.getD i ci).size_eq;refine zJ Z Z (fun y=>?_) fun y=>?_
  .have y:(body.getD i ci).kind=1:=by simpa using y
   rw[show bw (body.getD i ci)=_ from am y]at hs;refine gA Z (zq [0] (d88 (occ++(body.take i).flatMap bw) (body.getD i ci).atom (by rw[Vp];omega)) ?_);refine gA Z ⟨h1,ac,[],zW (hM Z (by rw[hs,VF]) Z ⟨⟨_,rfl,.of_eq Z⟩,Vm Z,rfl,⟨_,rfl,.of_eq Z⟩,Vm Z,rfl,ac⟩)⟩
  .have y: ¬(body.getD i ci).kind=1:=by simpa using y
   rw[show bw (body.getD i ci)=_ from be y,We]at hs;refine gA Z ⟨h1,ac,[],zW (hM Z (by rw[hs]) Z ⟨⟨_,rfl,.of_eq Z⟩,Vm Z,rfl,⟨_,rfl,.of_eq Z⟩,Vm Z,rfl,ac⟩)⟩
 have h1:body.length<=i:=by simpa using h1
 have e0:body.take i=body:=VI h1;rw[e0];refine gA Z ?_;refine ic (σ:={x:List aq×Nat//b7 (fun occ=>bf occ) (fun occ=>nY (aH r) occ) body occ=dc (fun occ=>bf occ) (fun occ=>nY (aH r) occ) body (x.2+1) x.1∧cH (bU body) x.1<=x.2∧x.1.length+cH (bU body) x.1<=(occ++body.flatMap bw).length+cH (bU body) (occ++body.flatMap bw)})
  (fun x=>⟨[(0,.iv (lits body)),(1,.mp 0),(2,.cm (.func 251) [.mp 0] []),(3,.cm (.func 252) [] [.ptr 1 0,.ptr 2 0])],[(0,co (cS (aL x.1.1))),(1,co (.cells [.iv (cD r)])),(2,co (.cells [.mp 0]))],3⟩) (fun x=>cH (bU body) x.1.1)
  ⟨(occ++body.flatMap bw,3*body.length),rfl,by dsimp only;omega,VA _⟩ [] (zW (zC ⟨⟨_,rfl,.of_eq Z⟩,Vm Z,rfl,⟨_,rfl,.of_eq Z⟩,Vm Z,rfl,ac⟩)) ?_
 rintro⟨⟨ok,f⟩,hx1,hx2,hx3⟩;dsimp only at hx1 hx2 hx3 ⊢;rw[Vp]at hx3;refine gA Z ?_;refine aM 0 body.length (VB _) (fun i=>⟨[(0,.iv (lits body)),(1,.mp 0),(2,.cm (.func 251) [.mp 0] []),(3,.cm (.func 252) [] [.ptr 1 0,.ptr 2 0]),(28,.iv (lits body)),(29,pI body.length),(30,pI i)],[(0,co (cS (aL ok))),(1,co (.cells [.iv (cD r)])),(2,co (.cells [.mp 0]))],3⟩) (fun i=>b5 ((fun occ=>bf occ) ok) ((fun occ=>nY (aH r) occ) ok) ok (body.take i)=io) [] Z
  (zW (zC ⟨⟨_,rfl,.of_eq Z⟩,Vm Z,rfl,⟨_,rfl,.of_eq Z⟩,Vm Z,rfl,ac⟩)) fun i hi D=>?_
 refine zJ Z Z (fun j=>?_) fun j=>?_
 .have j:i<body.length:=by simpa using j
  have n0:=Lit.bT body i j;have f0:=(body.getD i ci).kG;have u: ∀v,mD ((fun occ=>bf occ) ok) ((fun occ=>nY (aH r) occ) ok) ok (body.getD i ci)=co v->b7 (fun occ=>bf occ) (fun occ=>nY (aH r) occ) body occ=dc (fun occ=>bf occ) (fun occ=>nY (aH r) occ) body (f-1+1) (ok++ [v])∧cH (bU body) (ok++ [v])<=f-1∧
    (ok++ [v]).length+cH (bU body) (ok++ [v])<=(occ++body.flatMap bw).length+cH (bU body) (occ++body.flatMap bw)∧cH (bU body) (ok++ [v])<cH (bU body) ok:=by
   intro v hv;have hf:=qm D j hv;obtain⟨g1,g2⟩:=ky hf;have j0:=qX g1 g2;have d0:cH (bU body) (ok++ [v])=cH (bU body) (hZ ok v):=by
    unfold cH;congr 2
    funext x
    congr 1;rw[WR,bJ,bJ,dz,VM,Vz]
   have J:f-1+1=f:=by omega
   refine⟨?_,by omega,?_,by omega⟩
   .rw[hx1,eZ hf,J]
   .rw[Vp,Vp,VW];omega
  have b0:=bI ok (gv (bf ok) ok (body.getD i ci)).1;have Y:=gH ok (gv (bf ok) ok (body.getD i ci)).1;have c0:=bI ok (body.getD i ci).bE;have a0:=gH ok (body.getD i ci).bE;refine gA Z (zq [0,1,2] (TI r ok (body.getD i ci) (by omega)) ?_);refine zJ Z Z (fun C=>?_) fun C=>?_
  .obtain⟨g1,g2,g3,g4⟩:=u _ (am C);refine gA Z ⟨⟨(_,f-1),g1,g2,g3⟩,[],g4,zW (hM Z (by dsimp only;rw[dh];rfl) Z ⟨⟨_,rfl,.of_eq Z⟩,Vm Z,rfl,⟨_,rfl,.of_eq Z⟩,Vm Z,rfl,ac⟩)⟩
  .refine zJ Z Z (fun A=>?_) fun A=>?_
   .have A:(body.getD i ci).kind=4:=by simpa using A
    refine zJ Z Z (fun B=>?_) fun B=>?_
    .have B:dR ok (body.getD i ci).bE=jp:=by rw[ct];simpa using B
     refine gA Z (zq [0,1,2] (d126 r ok (body.getD i ci).agg (by omega)) ?_);refine zJ Z Z (fun I=>?_) fun I=>?_
     .obtain⟨g1,g2,g3,g4⟩:=u _ ((be (by rw[C];simp)).trans (am ⟨A,B,I⟩));refine gA Z ⟨⟨(_,f-1),g1,g2,g3⟩,[],g4,zW (hM Z (by dsimp only;rw[dh];rfl) Z ⟨⟨_,rfl,.of_eq Z⟩,Vm Z,rfl,⟨_,rfl,.of_eq Z⟩,Vm Z,rfl,ac⟩)⟩
     .refine gA Z ?_;exact⟨j,dN D j ((be (by rw[C];simp)).trans (be (fun h=>nomatch (h.2.2.symm.trans I)))),[],zW (zC ⟨⟨_,rfl,.of_eq Z⟩,Vm Z,rfl,⟨_,rfl,.of_eq Z⟩,Vm Z,rfl,ac⟩)⟩
    .have B:dR ok (body.getD i ci).bE=is:=by rw[ct];simpa using B
     refine gA Z ⟨j,dN D j ((be (by rw[C];simp)).trans (be (by rw[B];simp))),[],zW (zC ⟨⟨_,rfl,.of_eq Z⟩,Vm Z,rfl,⟨_,rfl,.of_eq Z⟩,Vm Z,rfl,ac⟩)⟩
   .have A: ¬(body.getD i ci).kind=4:=by simpa using A
    refine gA Z ⟨j,dN D j ((be (by rw[C];simp)).trans (be (fun h=>A h.1))),[],zW (zC ⟨⟨_,rfl,.of_eq Z⟩,Vm Z,rfl,⟨_,rfl,.of_eq Z⟩,Vm Z,rfl,ac⟩)⟩
 .have j:body.length<=i:=by simpa using j
  rw[VI j]at D;have G:b7 (fun occ=>bf occ) (fun occ=>nY (aH r) occ) body occ=ok:=by rw[hx1,fa D]
  refine gA Z (zD [] Z (zW (hM Z (by rw[G]) Z ⟨⟨_,rfl,.of_eq Z⟩,Vm Z,rfl,⟨_,rfl,.of_eq Z⟩,Vm Z,rfl,ac⟩)))
theorem tT:eJ .fh (cS (aL [])):=⟨id,fun M N U w j u=>⟨#[],0,u,⟨rfl,by simp[aL],by simp[aL],by simp,by simp⟩,fT M⟩⟩
def bZ(r:aw):List aq:=b7 (fun j=>bf j) (fun j=>nY (aH r) j) r.body []
theorem TF(r:aw)(hb:8*Lit.aC r.body<=100000000000):bg prog 130 [.iv (lits r.body),.mp 0,.cm (.func 251) [.mp 0] [],.cm (.func 252) [] [.ptr 1 0,.ptr 2 0]] [.fh,.cells [.iv (cD r)],.cells [.mp 0]] (.aZ []) [(0,co (cS (aL (bZ r)))),(1,co (.cells [.iv (cD r)])),(2,co (.cells [.mp 0]))] 3:=
 bg.OS (UN r [] r.body (by simp;omega)) ⟨tT,.refl _,.refl _,ac⟩
theorem d73(r:aw)(hb:8*r.size<=100000000000):bg prog 227 [.iv (cD r)] [] (.mp 0) [(0,co (cS (aL (bZ r))))] 1:=by
 unfold aw.size at hb;refine aj ab func227 Z (by decide) ntmps227 Z (by simp) ?_;refine gA Z (zd [1,0,2] (TF r (by omega)) ?_);refine gA Z (zD [1] Z (zW (zC ac)))
def Rx(p:List aq->Prop)(q:PV)(h:AH)(n:Nat):Prop:= ∃ok,p ok∧q= .mp 0∧h=[(0,co (cS (aL ok)))]∧n=1
def Ig(r:aw)(a:gJ)(occ:List aq):Prop:=occ.Nodup∧ ∀x,x∈occ↔x∈bm a∧x∈aH r
theorem xq{l m:List aq}(h:l.Nodup)(hs: ∀x∈l,x∈m):l.length<=m.length:=WK h hs
theorem kH(a:gJ):(bm a).length<=a.size:=by
 have h1:=kV a.body;have j:=ij a.j7;unfold bm gJ.size;rw[Vp];split
 .rw[WH];omega
 .omega
theorem O4(a:gJ)(hb:a.size<=100000000000):bg prog 221 [ag a.c1] [] (.mp 0) [(0,co (cS (aL (bm a))))] 1:=bg.le (d127 a (by omega)) ⟨a.FL,ac⟩
theorem d161(r:aw)(a:gJ)(hb:16*a.size<=100000000000):Al.Fn prog 228 [.iv (cD r),ag a.c] [] (Rx fun ok=> ∃occ,Ig r a occ∧ok=b7 (fun occ=>bf occ) (fun _=>fun _=>jp) a.body occ):=by
 have f0:=kH a;have g0:Lit.aC a.body<=a.size:=by unfold gJ.size;omega
 refine Al.Fn.le (args:=[.iv (cD r),ag a.c1]) ?_ ⟨.refl _,a.Gl,ac⟩;refine kv ab func228 Z (by decide) ntmps228 Z (by simp) ?_;refine gA Z (zq [] (O4 a (by omega)) ?_);refine gA Z ?_
 let u:List Nat->List aq:=fun vs=>(vs.reverse.filterMap fun j=>((aL (bm a))[j]?).bind fun x=>if dR (aH r) x.1 then co x.1 else io)
 refine fO (aL (bm a)) (fun vs=>⟨[(0,.iv (cD r)),(3,.ptr 0 0),(5,.mp 1),(10,.ptr 3 0)],[(0,co (aG a.c1)),(1,co (cS (aL (u vs)))),(3,co (.bX .str zn (aL (bm a)) vs io))],4⟩)
  (fun vs=>(u vs).Nodup∧ ∀x,x∈u vs↔x∈aH r∧ ∃j∈vs,∃y,(aL (bm a))[j]? =co y∧y.1=x) [] ⟨Wn,by simp[u]⟩
  (zW (zK (QU Z fT Z (hI Z Z (.inl Z) Z trivial)))) fun vs hJ=>?_
 obtain⟨C,D⟩:=hJ;have i0:(u vs).length<=(bm a).length:=xq C fun x G=>by
  obtain⟨_,j,_,y,h2,rfl⟩:=(D x).1 G;exact tV h2
 refine fP Z ac (dM Z Z Z Z Z (by decide) (fun a0=>?_) fun j x G hj=>?_)
 .have c0:Ig r a (u vs):=⟨C,fun x=>by
   rw[D];constructor
   .rintro⟨h1,j,h2,y,B,rfl⟩;exact⟨tV B,h1⟩
   .rintro⟨h1,h2⟩;refine⟨h2,?_⟩;obtain⟨y,hy,rfl⟩:=V5.1 (((eD (bm a)).2 x).2 h1);obtain⟨j,hj⟩:=Wh hy
    exact⟨j,a0 j (Vs.1 hj).1,y,hj,rfl⟩⟩
  refine gA Z (zq [1] (UP (u vs) a.body (by omega)) ?_);refine fP Z ac (db [1] (.inr Z) Z ⟨_,⟨u vs,c0,rfl⟩,rfl,rfl,rfl⟩ (zW (zC ac)))
 .have h5:=ct (occ:=aH r) (s:=x.1);have h7:=bI (aH r) x.1;have h8:=bI (u vs) x.1;have h9:=gH (u vs) x.1;have I:x.1∉u vs:=fun h=>by
   obtain⟨_,i,hi,y,h2,B⟩:=(D x.1).1 h;have e0:=(eD (bm a)).1;have:i=j:=by
    have J:=(Vs.1 h2)
    have Y:=(Vs.1 G)
    obtain⟨J,b0⟩:=J;obtain⟨Y,d0⟩:=Y;refine(List.getElem_inj (i:=i) (j:=j) (h₀:=by rw[VS];exact J) (h₁:=by rw[VS];exact Y) e0).1 ?_;rw[Xb,Xb,b0,d0,B]
   exact hj (this▸hi)
  have A:u (j::vs)=u vs++if dR (aH r) x.1 then[x.1] else[]:=by
   simp only[u,List.reverse_cons,YI,YT,List.filterMap_nil,G,XJ];congr 1;cases dR (aH r) x.1<;>rfl
  have step:(u (j::vs)).Nodup∧ ∀z,z∈u (j::vs)↔z∈aH r∧ ∃i∈j::vs,∃y,(aL (bm a))[i]? =co y∧y.1=z:=by
   rw[A];constructor
   .split
    .rw[W3];refine⟨C,Wb.2 ⟨Yl,Wn⟩,fun p hp q hq e=>?_⟩;rw[Vz]at hq;exact I ((e.trans hq)▸hp)
    .rw[We];exact C
   .intro z;rw[VM,D];constructor
    .rintro(⟨h1,i,h2,B⟩|h1)
     .exact⟨h1,i,VE _ h2,B⟩
     .split at h1
      .rename_i h2;rw[Vz]at h1;exact⟨h1▸bJ.1 h2,j,VG,x,G,h1.symm⟩
      .cases h1
    .rintro⟨h1,i,h2,y,B,h4⟩;rcases VH.1 h2 with rfl|h2
     .rw[G]at B;cases B;exact .inr (by rw[am (bJ.2 (h4▸h1))];simp[h4])
     .exact .inl ⟨h1,i,h2,y,B,h4⟩
  refine zJ Z Z (fun g1=>?_) fun g1=>?_
  .have g1:dR (aH r) x.1=is:=by
    have:=zT g1;rw[h5];simp;omega
   rw[g1,am Z]at A;refine gA Z ⟨j,x,G,hj,step,[],zW (zK (hM Z (by rw[A,dh];rfl) Z (hI Z Z (.inr Z) Z ac)))⟩
  .have g1:dR (aH r) x.1=jp:=by
    have:=zF g1;rw[h5];simp;omega
   rw[g1,be (by simp),We]at A;refine gA Z ⟨j,x,G,hj,step,[],zW (zK (hM Z (by rw[A]) Z (hI Z Z (.inr Z) Z ac)))⟩
end Go.Proofs.YtlmhfgbkchnfbaaGreatDoor
namespace Go.Proofs.YtlmhfgbkchnfbaaGreatDoor
open Go Go.Al
def nM(s:aq):List UInt8:=s.data.toList
def QB(l:List UInt8):aq:=⟨l.toArray⟩
theorem tP(s:aq):QB (nM s)=s:=by simp[nM,QB]
theorem K9(l:List UInt8):nM (QB l)=l:=by simp[nM,QB]
def dy(l:List (List UInt8)):List (List UInt8):=l.mergeSort fun x y=>kw (x<=y)
def dD(l:List aq):List aq:=(dy (l.map nM)).map QB
def fx:Prop:=
 (∀(j b0 a0:Nat) (u:List (List UInt8)) (w:World),Go.Sort.Holds encStr w j b0 u.toArray->j<w.heap.size->u.length<4611686018427387904->
  Calls Tryz.prog 129 #[.slice (co ⟨j,b0,io⟩) u.length a0] w fun e A=>
   e= .returned (.tuple #[])∧ ∃n os,A=Go.Sort.grow (Go.Sort.putRow encStr (Go.Sort.ahead w n) j b0 (u.mergeSort fun x y=>kw (x<=y)).toArray) os)∧
 (∀(p:Option Addr) (a0:Nat) (w:World),Calls Tryz.prog 129 #[.slice p 0 a0] w fun e A=>e= .returned (.tuple #[])∧A=w)
theorem jW(l:List aq):(dD l).length=l.length:=by simp[dD,dy]
theorem oI:dD []=[]:=by simp[dD,dy]
theorem rP(l:List aq):(dD l).map nM=dy (l.map nM):=by
 unfold dD;rw[Wx];have:nM ∘ QB=id:=by funext x;exact K9 x
 rw[this,List.map_id]
theorem Ao{l:List aq}{k:Nat}{e:List PV}(h:(l.map fun x=>(c9 x).map PV.iv)[k]? =co e): ∃s,l[k]? =co s∧e=[pS s]:=by
 rw[Vv,Vw]at h;obtain⟨s,h1,rfl⟩:=h;exact⟨s,h1,rfl⟩
theorem Jk(hS:fx)(l:List aq)(hl:l.length<=1000000000000):bg Tryz.prog 129 [.sl 0 0 l.length 1] [aV 1 l c9] (.aZ []) [(0,co (aV 1 (dD l) c9))] 1:=by
 refine⟨bb Tryz.func129 Z (by decide),fun M N w vs hr J hv=>?_⟩;obtain⟨v,rfl⟩: ∃v,vs=[v]:=by
  cases vs with
  |nil=>cases J
  |cons v r=>cases r with
   |nil=>exact⟨v,rfl⟩
   |cons a b=>simp at J
 have B:=hv 0 _ Z;simp only[Xk]at B;have p0:=hr.obj 0 _ Z;cases l with
 |nil=>
  have f0:v= .slice io 0 0:=by
   generalize hq:PV.sl 0 0 ([]:List aq).length 1=q at B;cases B with
   |sl i off len sz a0 h h0 h1 hc he=>cases hq;simp at h0
   |kP i sz h=>rfl
   |_=>cases hq
  subst f0;refine(hS.2 io 0 w).mono ?_;rintro e w' ⟨rfl,rfl⟩;refine⟨_,M,N,.aZ [],_,1,rfl,⟨rfl,rfl,rfl⟩,?_,?_,.aZ [] #[] Z (by simp)⟩
  .rw[oI];exact .refl _ _ _ _ _
  .rw[oI];exact hr
 |cons s0 r=>
  generalize hL:s0::r=L at*
  have c0:0<L.length:=by rw[<-hL];simp
  obtain⟨a0,f0⟩: ∃a0,v= .slice (co ⟨N.az 0,0,io⟩) L.length a0:=by
   generalize hn:L.length=n at B c0;generalize hq:PV.sl 0 0 n 1=q at B;cases B with
   |sl i off len sz a0 h h0 h1 hc he=>cases hq;exact⟨a0,by simp⟩
   |kP i sz h=>cases hq;omega
   |_=>cases hq
  subst f0;rcases p0 with h0|⟨_,c,T,h1,h2,h3,h4,h5⟩
  .rw[<-hL]at h0;cases h0
  rw[VS]at h3;have i0:(aV 1 L c9).real=is:=by rw[<-hL];rfl
  have e0: ∀j s,L[j]? =co s->c.getD j undef= .string s:=fun j s I=>by
   have:=h5 j [pS s] 0 (pS s) (by rw[Vv,I];rfl) Z;rw[XT,WZ]at this;generalize c.getD j undef=y at this ⊢;cases this with
   |iv _ _ h=>cases h;rfl
  have n0:=hr.lt (i:=0) Z i0;have m0:(L.map nM).length=L.length:=by simp
  have hH:Go.Sort.Holds encStr w (N.az 0) 0 (L.map nM).toArray:=by
   intro j I;have j0:j<L.length:=by simpa using I
   have g0:j<c.size:=by omega
   have:=e0 j L[j] (Vt j0);rw[Vn,V6 g0,Wv]at this;constructor
   .simp only[World.cell?,h1,VL,Option.isSome_none,Xe,if_false];rw[V6 g0,this,getElem!_pos _ j I];simp[encStr,nM]
   .simp[World.frozen?,h1]
  have C:=hS.1 (N.az 0) 0 a0 (L.map nM) w hH n0 (by omega);rw[m0]at C;refine C.mono ?_;rintro e w' ⟨rfl,n,os,rfl⟩
  let Y:=Go.Sort.putRow encStr (Go.Sort.ahead w n) (N.az 0) 0 ((L.map nM).mergeSort fun x y=>kw (x<=y)).toArray
  have d0:(dy (L.map nM)).length=L.length:=by simp[dy]
  have A:Ext M N (· <1) (cF 0 [aV 1 L c9]) w M N (· <1) ((0,co (aV 1 (dD L) c9))::cF 0 [aV 1 L c9]) Y∧Rel M N (· <1) ((0,co (aV 1 (dD L) c9))::cF 0 [aV 1 L c9]) Y:=by
   refine hr.write (i:=0) (o0:=aV 1 L c9) Z i0 Y (aV 1 (dD L) c9) Z Z Z ?_ ?_ ?_ (Yk _ _)
   .show(Go.Sort.putRow _ _ _ _ _).heap.size=_;rw[Go.Sort.size_putRow];rfl
   .intro b hb;show((w.heap.modify (N.az 0) _))[b]? =_;rw[VZ,be (fun e=>hb e.symm)]
   .refine .inr ⟨Nat.one_pos,Go.Sort.putCells encStr 0 (dy (L.map nM)).toArray c,T,?_,?_,?_,?_,?_⟩
    .show((w.heap.modify (N.az 0) _))[N.az 0]? =_;rw[VZ,am Z,h1];rfl
    .simp[Go.Sort.putCells,h2]
    .rw[VS,jW];simp[Go.Sort.putCells];omega
    .intro k e he;obtain⟨s,_,rfl⟩:=Ao he;rfl
    .intro k e j p he hp;obtain⟨s,hs,rfl⟩:=Ao he;have I:j=0:=by
      rcases j with _|j
      .rfl
      .simp at hp
     subst I;cases hp;have hk:k<L.length:=by
      have:=(Vs.1 hs).1;rwa[jW]at this
     have q0:(dy (L.map nM))[k]? =co (nM s):=by
      rw[<-rP,Vv,hs];rfl
     have k0:k<c.size:=by omega
     have b0:(Go.Sort.putCells encStr 0 (dy (L.map nM)).toArray c).getD (k*1+0) undef= .string s:=by
      rw[XT,WZ,Vn];simp only[Go.Sort.putCells,Array.getElem?_mapIdx];rw[V6 k0,Ww,Wv,am ⟨VB _,by simp[d0];omega⟩,Yb];rw[getElem!_pos _ k (by simp[d0];omega)];have h9:(dy (L.map nM)).toArray[k]'(by simp[d0];omega)=nM s:=by
       rw[List.getElem_toArray];exact(Vs.1 q0).2
      rw[h9];simp[encStr,nM]
     rw[b0];exact .iv _ _ (.v _)
  have D:Rel M N (· <1) ((0,co (aV 1 (dD L) c9))::cF 0 [aV 1 L c9]) (Go.Sort.grow Y os):=A.2.more fun b hb=>by
   show(Y.heap++os)[b]? =_;rw[V3 hb]
  have r0:Y.heap.size=w.heap.size:=by
   show(Go.Sort.putRow _ _ _ _ _).heap.size=_;rw[Go.Sort.size_putRow];rfl
  have u: ∀i o,AH.get [(0,co (aV 1 (dD L) c9))] i=co o->AH.get ((0,co (aV 1 (dD L) c9))::cF 0 [aV 1 L c9]) i=co o:=by
   intro i o h;rw[AH.ax]at h ⊢;split at h
   .rename_i h6;rw[am h6];exact h
   .simp[AH.get]at h
  refine⟨_,M,N,.aZ [],_,1,rfl,⟨rfl,rfl,rfl⟩,⟨A.1.os,A.1.tape,⟨A.1.output.out,A.1.output.drawn⟩,?_,?_,.refl _,fun b c h1 h2=>(nomatch (h1.symm.trans h2)),.refl _ _,fun _ h=>h,fun i o G=>A.1.gh i o (u i o G)⟩,?_,.aZ [] #[] Z (by simp)⟩
  .show w.heap.size<=(Go.Sort.grow Y os).heap.size;rw[Go.Sort.size_grow,r0];omega
  .intro b hb hn;have h7:=A.1.gu b hb hn;show(Y.heap++os)[b]? =_;rw[V3 (by omega)];exact h7
  .exact⟨D.dA,fun i o G=>D.used i o (u i o G),fun i o G=>D.dG i o (u i o G),fun i o G=>D.obj i o (u i o G),fun i j o p G I=>D.inj i j o p (u i o G) (u j p I)⟩
end Go.Proofs.YtlmhfgbkchnfbaaGreatDoor
namespace Go.Proofs.YtlmhfgbkchnfbaaGreatDoor
open Go Go.Al Go.Proofs.Tryz
theorem fE(l:List (List UInt8)):(dy l).Perm l:=List.mergeSort_perm _ _
theorem iP(l:List (List UInt8)):(dy l).Pairwise (fun x y=>kw (x<=y)=is):=
 List.pairwise_mergeSort (le:=fun x y=>kw (x<=y)) (fun a b c h1 j=>by simp only[decide_eq_true_eq] at*;exact List.le_trans h1 j)
  (fun a b=>by
   rcases List.le_total a b with h|h
   .simp[h]
   .simp[h]) l
theorem EX{a b:List (List UInt8)}(h:a.Perm b)(ha:a.Pairwise (fun x y=>kw (x<=y)=is))(hb:b.Pairwise (fun x y=>kw (x<=y)=is)):a=b:=
 List.Perm.eq_of_pairwise (fun x y _ _ h1 j=>YA (zT h1) (zT j)) ha hb h
theorem pT{a b:List aq}(h:a.Perm b):dD a=dD b:=by
 unfold dD;rw[EX (((fE _).trans (h.map nM)).trans (fE _).symm) (iP _) (iP _)]
theorem lS{x:aq}{l:List aq}:x∈dD l↔x∈l:=by
 unfold dD;rw[V5];constructor
 .rintro⟨b,hb,rfl⟩;obtain⟨s,hs,rfl⟩:=V5.1 ((fE _).mem_iff.1 hb);rwa[tP]
 .intro h;exact⟨nM x,(fE _).mem_iff.2 (V5.2 ⟨x,h,rfl⟩),tP x⟩
def gW(m:NM)(vs:List Nat):List aq:=vs.reverse.filterMap fun j=>(m[j]?).map (·.1)
theorem kW(m:NM)(vs:List Nat)(j:Nat)(x:(KC.str).K×Int)(h:m[j]? =co x):gW m (j::vs)=gW m vs++ [x.1]:=by
 simp[gW,YI,h]
theorem ve(m:NM)(vs:List Nat):(gW m vs).length<=vs.length:=by
 unfold gW;have:=List.length_filterMap_le (fun j=>(m[j]?).map (·.1)) vs.reverse;rwa[List.length_reverse]at this
theorem yU(m:NM):(V0 m.length).filterMap (fun j=>(m[j]?).map (·.1))=m.map (·.1):=by
 apply XD;intro k;have h:(V0 m.length).filterMap (fun j=>(m[j]?).map (·.1))=(V0 m.length).map (fun j=>(m.getD j (Vx,0)).1):=by
  rw[show(fun j=>(m.getD j (Vx,0)).1)=fun j=>(m.getD j (Vx,0)).1 from rfl];have key: ∀l:List Nat,(∀j∈l,j<m.length)->l.filterMap (fun j=>(m[j]?).map (·.1))=l.map (fun j=>(m.getD j (Vx,0)).1):=by
   intro l
   induction l with
   |nil=>simp
   |cons j r ih=>
    intro h;have u:=h j VG;rw[YT,Vt u,ih fun k hk=>h k (VE _ hk)];simp[u]
  exact key _ fun j u=>WX.1 u
 rw[h];by_cases hk:k<m.length
 .simp[hk]
 .simp[hk]
theorem ke(m:NM)(vs:List Nat)(hn:vs.Nodup)(hb: ∀j∈vs,j<m.length)(u: ∀j,j<m.length->j∈vs):(gW m vs).Perm (m.map (·.1)):=by
 rw[<-yU];unfold gW;apply List.Perm.filterMap;refine(List.reverse_perm _).trans ?_;rw[W6 hn List.nodup_range];intro j;rw[WX];exact⟨hb j,u j⟩
def fu(m:NM):List aq:=dD (m.map (·.1))
theorem u0{vs:List Nat}{n:Nat}(h:vs.Nodup)(hb: ∀j∈vs,j<n):vs.length<=n:=by
 have:=WK h (l₂:=V0 n) fun j u=>WX.2 (hb j u);rwa[List.length_range]at this
theorem uK(σ:Nat->Nat)(l:List aq):(l.map fun x=>(c9 x).map PV.iv).map (c7 σ)=l.map fun x=>(c9 x).map PV.iv:=by
 simp only[Wx,c9,Vy,VQ];rfl
theorem c51(hS:fx)(m:NM)(hm:m.length<=100000000):Pure prog 133 [.iv (A1 m)] (.iv (strs (fu m))):=by
 refine ah ab func133 Z (by decide) ntmps133 Z (by simp) Z ?_;refine gA Z ?_;refine jc 3 1 Z ?_;refine fO m (fun vs=>⟨[(3,.sl 2 0 (gW m vs).length 1),(6,.ptr 0 0)],[(0,co (.bX .str zn m vs io)),(2,co (aV 1 (gW m vs) c9))],3⟩) (fun vs=>vs.Nodup∧ ∀j∈vs,j<m.length) [1] ⟨Wn,by simp⟩
  (zW (hI Z Z (.inl Z) Z (zS trivial))) fun vs D=>?_
 obtain⟨u,y⟩:=D;have J:=u0 u y;have I:=ve m vs;refine fP Z ac (dM Z Z Z Z Z (by decide) (fun A=>?_) fun j x B C=>?_)
 .refine fP Z ac (ak [2] (Jk hS (gW m vs) (by omega)) Z Z Z Z Z (congrArg (fun o=> [co o]) (b3 _).symm) Z Z ?_);refine fP Z ac (du (.inr Z) Z Z ((uK _ _).trans (by rw[fu,pT (ke m vs u y A)])) ?_);rw[fu,jW,<-(ke m vs u y A).length_eq]
 .have hk:=kW m vs j x B;refine gA Z ⟨j,x,B,C,⟨Wb.2 ⟨C,u⟩,fun i G=>(VH.1 G).elim (fun h=>h▸(Vs.1 B).1) (y i)⟩,[4],zM ⟨.row (by rw[hk,Vp];rfl),rfl,bi ac⟩ (hI Z Z (.inr Z) Z (hR Z (by rw[hk,VD];rfl) Z ac))⟩
theorem LY{P:Program}{k:FuncId}{kc:KC}{V:Type}{e:V->IV}{z:V}{D:Value}{G:PV->V}{m:List (kc.K×V)}{y:IV}(h:Al.Pure P k [.iv (.eG kc e z D m)] (.iv y)):bg P k [.mp 0] [.map kc e z D G m] (.iv y) [] 1:=by
 refine⟨h.1,fun M N w vs Y hl hv=>?_⟩;obtain⟨A,h1,I,h3,J⟩:=rq (n:=1) Y (i:=0) Z;have B:Rel A N (· <0) (cF 0 []) w:=⟨I.dA,fun i o u=>(nomatch u),fun i o u=>(nomatch u),fun i o u=>(nomatch u),fun i j o p u=>(nomatch u)⟩
 refine(h.2 A N w vs B hl fun j p C=>?_).mono ?_
 .cases j with
  |zero=>
   cases C;have:=J _ _ (hv 0 _ Z);generalize vs.getD 0 undef=x at this ⊢;cases this with
   |iv _ _ h=>exact .iv _ _ h
  |succ j=>cases C
 .rintro _ w' ⟨x,M',N',r,h',n',rfl,⟨rfl,rfl,rfl⟩,hx,hrr,hvr⟩;refine⟨x,M',N,.iv y,[],1,rfl,⟨rfl,rfl,rfl⟩,?_,⟨hrr.dA,fun i o u=>(nomatch u),fun i o u=>(nomatch u),fun i o u=>(nomatch u),fun i j o p u=>(nomatch u)⟩,?_⟩
  .refine⟨hx.os,hx.tape,hx.output,hx.size,fun b hb hn=>hx.gu b hb fun i o u=>(nomatch u),h1.nZ.trans hx.nZ,fun b c g1 g2=>?_,.refl _ _,fun _ h=>h,fun i o u=>(nomatch u)⟩;cases g3:A b with
   |some c'=>exact h1.iq b c' g1 g3
   |none=>
    rcases hx.iq b c g3 g2 with g4|⟨i,o,g4,_⟩
    .exact .inl g4
    .exact nomatch g4
  .cases hvr with
   |iv _ _ h=>exact .iv _ _ h
theorem US(hS:fx)(m:NM)(hm:m.length<=100000000):bg prog 133 [.mp 0] [cS m] (.iv (strs (fu m))) [] 1:=LY (c51 hS m hm)
theorem ti: ∀{m:NM} (_:(m.map (·.1)).Nodup) (k:aq),kL .str m k=m.filter fun x=>!kw (x.1=k)
 | [],_,k=>rfl
 |(a,b)::r,h,k=>by
  rw[Vy,Wb]at h;by_cases hk:a=k
  .subst hk;have:r.filter (fun x=>!kw (x.1=a))=r:=X0.2 fun x j=>by
    have:x.1≠a:=fun e=>h.1 (e▸V5.2 ⟨x,j,rfl⟩);simp[this]
   simp[kL,this]
  .have u:=ti h.2 k;simp[kL,hk,u]
theorem wv{m:NM}{p:(KC.str).K×Int->Bool}(h:(m.map (·.1)).Nodup):((m.filter p).map (·.1)).Nodup:=h.sublist ((List.filter_sublist).map _)
theorem oq: ∀(j:List aq) {m:NM} (_:(m.map (·.1)).Nodup),j.foldl (fun m k=>kL .str m k) m=m.filter fun x=>!dR j x.1
 | [],m,h=>(X0.2 fun _ _=>rfl).symm
 |k::r,m,h=>by
  rw[Ws,ti h,oq r (wv h),List.filter_filter];congr 1
  funext x
  by_cases hk:x.1=k
  .simp[dR,hk]
  .have: ¬k=x.1:=fun e=>hk e.symm
   simp[dR,hk,this]
def lV(r:aw)(a:gJ):NM:=(aL (bm a)).filter fun x=>!dR (aH r) x.1
theorem lP(l:List aq):(aL l).length<=l.length:=by
 have h:=eD l;have:=xq h.1 fun x j=>(h.2 x).1 j;rwa[VS]at this
theorem d79(r:aw)(a:gJ)(hb:a.size<=100000000000):bg prog 216 [.iv (cD r),ag a.c] [] (.mp 0) [(0,co (cS (lV r a)))] 1:=by
 refine bg.le (args:=[.iv (cD r),ag a.c1]) ?_ ⟨.refl _,a.Gl,ac⟩;have J:=kH a;have B:=(eD (bm a)).1;refine aj ab func216 Z (by decide) ntmps216 Z (by simp) ?_;refine gA Z (zq [] (O4 a (by omega)) ?_);refine gA Z ?_;refine fO (aL (aH r)) (fun vs=>⟨[(5,.mp 1),(13,.ptr 2 0)],[(1,co (cS ((gW (aL (aH r)) vs).foldl (fun m k=>kL .str m k) (aL (bm a))))),(2,co (.bX .str zn (aL (aH r)) vs io))],3⟩)
  (fun vs=>vs.Nodup∧ ∀j∈vs,j<(aL (aH r)).length) [] ⟨Wn,by simp⟩
  (zW (zC (hI Z Z (.inl Z) Z trivial))) fun vs I=>?_
 obtain⟨u,y⟩:=I;refine fP Z ac (dM Z Z Z Z Z (by decide) (fun A=>?_) fun j x D G=>?_)
 .have C:(gW (aL (aH r)) vs).foldl (fun m k=>kL .str m k) (aL (bm a))=lV r a:=by
   rw[oq _ B];unfold lV;congr 1
   funext x
   congr 1;rw[WR,bJ,bJ,(ke _ vs u y A).mem_iff];exact(eD (aH r)).2 x.1
  rw[C];refine gA Z (zD [1] Z (zW (zC ac)))
 .have hk:=kW (aL (aH r)) vs j x D;refine gA Z ⟨j,x,D,G,⟨Wb.2 ⟨G,u⟩,fun i Y=>(VH.1 Y).elim (fun h=>h▸(Vs.1 D).1) (y i)⟩,[],zW (hM Z (by rw[hk,List.foldl_append];rfl) Z (hI Z Z (.inr Z) Z ac))⟩
theorem tj{may:List aq->Expr->Bool}{more:List aq->gJ->Bool}{body:List Lit}: ∀(n:Nat) (occ:List aq),(dc may more body n occ).length<=occ.length+n
 |0,occ=>VA _
 |n+1,occ=>by
  cases h:b5 (may occ) (more occ) occ body with
  |none=>rw[fa h];omega
  |some v=>
   rw[eZ h];have:=tj (may:=may) (more:=more) (body:=body) n (occ++ [v]);rw[Vp,VW]at this;omega
theorem tn{may:List aq->Expr->Bool}{more:List aq->gJ->Bool}{body:List Lit}(occ:List aq):(b7 may more body occ).length<=occ.length+4*Lit.aC body+1:=by
 have h1:=tj (may:=may) (more:=more) (body:=body) (3*body.length+1) (occ++body.flatMap bw);have j:=fK body;have u:=Lit.aJ body;rw[Vp]at h1;unfold b7;omega
theorem CJ(r:aw):(bZ r).length<=4*Lit.aC r.body+1:=by
 have:=tn (may:=fun j=>bf j) (more:=fun j=>nY (aH r) j) (body:=r.body) [];rw[WH]at this;unfold bZ;omega
def ph(r:aw):List aq:=b7 (fun j=>cz j) (fun _=>fun _=>jp) r.body []
theorem Fp(r:aw):(ph r).length<=4*Lit.aC r.body+1:=by
 have:=tn (may:=fun j=>cz j) (more:=fun _=>fun _=>jp) (body:=r.body) [];rw[WH]at this;unfold ph;omega
theorem TG(r:aw)(hb:8*Lit.aC r.body<=100000000000):bg prog 130 [.iv (lits r.body),.mp 0,.cm (.func 131) [] [.ptr 1 0],.cm (.func 132) [] []] [.fh,.cells [.mp 0]] (.aZ []) [(0,co (cS (aL (ph r)))),(1,co (.cells [.mp 0]))] 2:=
 bg.OS (UO [] r.body (by simp;omega)) ⟨tT,.refl _,ac⟩
theorem c33(hS:fx)(r:aw)(hb:r.size<=10000000):Pure prog 102 [ag r.c] (.iv (strs (fu (aL (ph r))))):=by
 have h1:=lP (ph r);have j:=Fp r;have u:Lit.aC r.body<=r.size:=X5 _ _;refine ah ab func102 Z (by decide) ntmps102 Z (by simp) Z ?_;refine gA Z ?_;refine gA Z (zq [1,2] (TG r (by omega)) ?_);refine gA Z (zq [1] (US hS (aL (ph r)) (by omega)) ?_);exact zU Z
def yQ(r:aw)(lit:Int):List aq:=if lit<0∨(r.body.length:Int)<=lit∨ ¬(au r lit).kind=4 then[] else fu (lV r (au r lit).agg)
theorem qn{P:Program}{k:FuncId}{args:List PV}{os:List AO}{r:PV}{h:AH}{n0:Nat}(hc:fm P k){n:Nat}(hn: ∃sz j,PV.iv (.bK sz n j)∈args)(hh:n<=maxLen->bg P k args os r h n0):bg P k args os r h n0:=IF hc hn hh
def qk{α:Type}(p:α->Bool)(l:List α):Int:=match l.findIdx? p with
 |some i=>i
 |none=> -1
theorem gi{α:Type}{p:α->Bool}{l:List α}(h:l.any p=jp):qk p l= -1:=by
 have:l.findIdx? p=io:=by
  rw[Yt];intro x j;have:=Wm.1 h x j;simpa using this
 rw[qk,this]
theorem iz{α:Type}[Inhabited α]{p:α->Bool}{l:List α}{i:Nat}(h:(l.take i).any p=jp)(hi:i<l.length)(hp:p (l.getD i ci)=is):qk p l=i:=by
 have:l.findIdx? p=co i:=by
  rw[X9];have u:l.getD i ci=l[i]:=by simp[hi]
  refine⟨hi,u▸hp,fun j x=>?_⟩;have:=Wm.1 h l[j] (List.mem_iff_getElem?.2 ⟨j,by rw[V8,am x,Vt (by omega)]⟩);simpa using this
 rw[qk,this]
theorem iA{α:Type}(p:α->Bool)(l:List α):kw (qk p l>=0)=l.any p:=by
 unfold qk;cases h:l.findIdx? p with
 |none=>
  have:=Yt.1 h;have:l.any p=jp:=Wm.2 fun x u=>by simp[this x u]
  rw[this];rfl
 |some i=>
  obtain⟨h1,j,_⟩:=X9.1 h;rw[WN.2 ⟨_,Wj h1,j⟩];simp
theorem Gj{a b:Int}(h:a=b):pI a=pI b:=by rw[h]
theorem U7(x:Int):Pure prog 174 [pI x] (pB (!kw (x=1)&&!kw (x=2))):=by
 refine ah ab func174 Z (by decide) ntmps174 Z (by simp) Z ?_
 repeat' (first|(refine gA Z (zI (fun _=>?_) (fun _=>?_)))|(refine gA Z (zL (.of_eq ?_))))
 all_goals(refine(nV ?_:pB _=pB _);simp_all)
theorem U6(t:Term):Pure prog 219 [ag t.c] (pB (kw (t.kind=3))):=by
 refine ah ab func219 Z (by decide) ntmps219 Z (by simp) Z ?_;exact zU Z
theorem U5(t:Lit):Pure prog 220 [ag t.c] (pB (kw (t.kind=4))):=by
 refine ah ab func220 Z (by decide) ntmps220 Z (by simp) Z ?_;exact zU Z
def bV(v:cN):Int:=if v.kind=1 then(if v.sym=Vx∧ -2147483647<=v.num∧v.num<=2147483647 then 0 else 20) else if v.kind=2 then(if v.num=0∧v.sym.size<=64 then 0 else 20) else 20
theorem TQ(v:cN):Pure prog 153 [ag v.c] (pI (bV v)):=by
 refine ah ab func153 Z (by decide) ntmps153 Z (by simp) Z ?_
 repeat' (first|(refine gA Z (zI (fun _=>?_) (fun _=>?_)))|(refine gA Z (zL (.of_eq ?_))))
 all_goals(refine(Gj ?_:pI _=pI _);have hE:(⟨#[]⟩:ByteArray)=Vx:=rfl;simp_all [bV];try omega)
def Decl.z:Decl:=⟨Vx,[],⟨0,0⟩⟩
def Ey(d:Decl):IV:= .agg d.c
def IZ:Value:= .agg #[.string Vx,.slice io 0 0,.int .i64 0,.int .i64 0]
def intOf:List IV->Int
 | [.v (.int .i64 n)]=>n
 |_=>0
def UI:PV->Decl
 | .agg [.iv (.v (.string s)),.iv (.bK _ n el),.iv (.v (.int _ a)),.iv (.v (.int _ b))]=>⟨s,(V0 n).map fun k=>intOf (el k),⟨a,b⟩⟩
 |_=>Decl.z
abbrev DM:=List ((KC.str).K×Decl)
abbrev O1(m:DM):AO:= .map .str Ey Decl.z IZ UI m
abbrev TE(m:DM):IV:= .eG .str Ey Decl.z IZ m
theorem OZ(d:Decl):UI (ag d.c)=d:=by
 show(⟨d.name,(V0 d.types.length).map fun k=>intOf (kg (d.types.getD k ci)),⟨d.at_.line,d.at_.JI⟩⟩:Decl)=d;have:(V0 d.types.length).map (fun k=>intOf (kg (d.types.getD k ci)))=d.types:=by
  apply XD;intro k;by_cases hk:k<d.types.length
  .simp[hk,intOf,kg]
  .simp[hk]
 rw[this]
theorem IY: ∀M,IR M (Ey Decl.z) IZ:=fun M=>by
 refine .agg _ _ Z fun j p u=>?_
 match j,u with
 |0,u=>cases u;exact .v _
 |1,u=>cases u;exact .fz _ _ _ _
 |2,u=>cases u;exact .v _
 |3,u=>cases u;exact .v _
 |j+4,u=>simp[Decl.c]at u
theorem Uc(l:List IV):ae (ag l) (.iv (.agg l)):=by
 intro M N U x h;generalize u:ag l=q at h;cases h with
 |agg cs ys hl hr=>
  cases u;refine .iv _ _ (.agg _ _ (by simpa using hl) fun j p A=>?_);have:=hr j (.iv p) (by rw[Vv,A];rfl);generalize ys.getD j undef=y at this ⊢;cases this with
  |iv _ _ h=>exact h
 |_=>cases u
theorem I1(d:Decl):ae (ag d.c) (.iv (Ey (UI (ag d.c)))):=by rw[OZ];exact Uc _
def jP(m:DM)(d:Decl):DM:=if dr .str m d.name=is then m else cJ .str m d.name d
def sS(p:Prog):DM:=p.aD.foldl jP []
abbrev cO(p:Prog):IV:=TE (sS p)
theorem uP{V:Type}: ∀(m:List ((KC.str).K×V)) (k:aq) (v:V),(cJ .str m k v).length<=m.length+1
 | [],_,_=>by simp[cJ]
 |(a,b)::r,k,v=>by
  have:=uP r k v;simp only[cJ];split
  .simp
  .simp only[VX];omega
theorem d50(p:Prog)(hb:p.aD.length<=1000000000000):bg prog 114 [ag p.c] [] (.mp 0) [(0,co (O1 (sS p)))] 1:=by
 refine aj ab func114 Z (by decide) ntmps114 Z (by simp) ?_;refine gA Z ?_;refine aM 0 p.aD.length (VB _) (fun i=>⟨[(3,.mp 1),(13,.iv (a7 4 p.aD Decl.c)),(14,pI p.aD.length),(15,pI i)],[(1,co (O1 ((p.aD.take i).foldl jP [])))],2⟩) (fun _=>True) [] ac
  (zW (QU Z IY Z trivial)) fun i u _=>?_
 refine zJ Z Z (fun h1=>?_) fun h1=>?_
 .have h1:i<p.aD.length:=by simpa using h1
  have hs:=ie (g:=jP) (b:=[]) h1;refine zJ Z Z (fun j=>?_) fun j=>?_
  .have j:dr .str ((p.aD.take i).foldl jP []) (p.aD.getD i ci).name=jp:=by simpa using j
   rw[jP,be (by rw[j];simp)]at hs;refine fP Z ?_ ?_
   .repeat' (first|exact ac|exact rfl|exact I1 _|exact ae.refl _|apply Vo)
    all_goals omega
   exact⟨h1,ac,[],zW (hM Z (by rw[hs,<-OZ (p.aD.getD i ci)];rfl) Z ac)⟩
  .have j:dr .str ((p.aD.take i).foldl jP []) (p.aD.getD i ci).name=is:=by simpa using j
   rw[jP,am j]at hs;refine gA Z ⟨h1,ac,[],zW (hM Z (by rw[hs]) Z ac)⟩
 .have h1:p.aD.length<=i:=by simpa using h1
  rw[VI h1];refine gA Z (zD [1] Z (zW (zC ac)))
def vY(p:Prog)(a:Atom):Bool:=!dr .str (sS p) a.rel
def gZ(p:Prog)(s:aq):Decl:=dQ .str (sS p) s Decl.z
def ze(p:Prog)(a:Atom):Bool:=!kw ((a.an.length:Int)=((gZ p a.rel).types.length:Int))
theorem d113(p:Prog)(a:Atom):bg prog 182 [ag a.c,.ptr 0 0] [.cells [.iv (cO p)]] (pB (vY p a)) [(0,co (.cells [.iv (cO p)]))] 1:=by
 refine aj ab func182 Z (by decide) ntmps182 Z (by simp) ?_;refine gA Z (zD [] Z (zM ⟨.of_eq Z,rfl,ac⟩ (zO ac)))
theorem d115(p:Prog)(a:Atom):bg prog 184 [ag a.c,.ptr 0 0] [.cells [.iv (cO p)]] (pB (ze p a)) [(0,co (.cells [.iv (cO p)]))] 1:=by
 refine aj ab func184 Z (by decide) ntmps184 Z (by simp) ?_;refine gA Z (zD [] Z (zM ⟨.of_eq Z,rfl,ac⟩ (zO ac)))
theorem i187(l:List Int):bg prog 214 [.iv (a7 1 l kg),.cm (.func 174) [] []] [] (pI (qk (fun x=>!kw (x=1)&&!kw (x=2)) l)) [] 0:=by
 refine qn (bb func214 Z (by decide)) ⟨_,_,VG⟩ fun u=>?_;simp only[maxLen]at u;refine aj ab func214 Z (by decide) ntmps214 Z (by simp) ?_;refine gA Z ?_
 refine aM 0 l.length (VB _) (fun i=>⟨[(0,.iv (a7 1 l kg)),(1,.cm (.func 174) [] []),(7,pI l.length),(8,pI i)],[],0⟩) (fun i=>(l.take i).any (fun x=>!kw (x=1)&&!kw (x=2))=jp) [] (by simp)
  (zW trivial) fun i A y=>?_
 refine zJ Z Z (fun h1=>?_) fun h1=>?_
 .have h1:i<l.length:=by simpa using h1
  refine gA Z (zp (U7 (l.getD i ci)) ?_);refine zJ Z Z (fun j=>?_) fun j=>?_
  .have j:(fun x=>!kw (x=1)&&!kw (x=2)) (l.getD i ci)=is:=j;rw[iz y h1 j];refine gA Z (zD [] Z (zW ac))
  .have j:(fun x=>!kw (x=1)&&!kw (x=2)) (l.getD i ci)=jp:=j;refine gA Z ⟨h1,(cW y h1).2 j,[],zW ac⟩
 .have h1:l.length<=i:=by simpa using h1
  rw[gi (any_none y h1)];refine gA Z (zD [] Z (zW ac))
theorem d153(l:List Int):bg prog 173 [.iv (a7 1 l kg),.cm (.func 174) [] []] [] (pB (l.any (fun x=>!kw (x=1)&&!kw (x=2)))) [] 0:=by
 refine aj ab func173 Z (by decide) ntmps173 Z (by simp) ?_;refine gA Z (zq [] (i187 l) ?_);refine gA Z (zD [] Z (zM ⟨.of_eq (nV (iA _ l)),rfl,ac⟩ ac))
theorem i191(l:List Term):bg prog 248 [.iv (a7 5 l Term.c),.cm (.func 219) [] []] [] (pI (qk (fun x:Term=>kw (x.kind=3)) l)) [] 0:=by
 refine qn (bb func248 Z (by decide)) ⟨_,_,VG⟩ fun u=>?_;simp only[maxLen]at u;refine aj ab func248 Z (by decide) ntmps248 Z (by simp) ?_;refine gA Z ?_
 refine aM 0 l.length (VB _) (fun i=>⟨[(0,.iv (a7 5 l Term.c)),(1,.cm (.func 219) [] []),(7,pI l.length),(8,pI i)],[],0⟩) (fun i=>(l.take i).any (fun x:Term=>kw (x.kind=3))=jp) [] (by simp)
  (zW trivial) fun i A y=>?_
 refine zJ Z Z (fun h1=>?_) fun h1=>?_
 .have h1:i<l.length:=by simpa using h1
  refine gA Z (zp (U6 (l.getD i ci)) ?_);refine zJ Z Z (fun j=>?_) fun j=>?_
  .have j:(fun x:Term=>kw (x.kind=3)) (l.getD i ci)=is:=j;rw[iz y h1 j];refine gA Z (zD [] Z (zW ac))
  .have j:(fun x:Term=>kw (x.kind=3)) (l.getD i ci)=jp:=j;refine gA Z ⟨h1,(cW y h1).2 j,[],zW ac⟩
 .have h1:l.length<=i:=by simpa using h1
  rw[gi (any_none y h1)];refine gA Z (zD [] Z (zW ac))
theorem d157(l:List Term):bg prog 218 [.iv (a7 5 l Term.c),.cm (.func 219) [] []] [] (pB (l.any (fun x:Term=>kw (x.kind=3)))) [] 0:=by
 refine aj ab func218 Z (by decide) ntmps218 Z (by simp) ?_;refine gA Z (zq [] (i191 l) ?_);refine gA Z (zD [] Z (zM ⟨.of_eq (nV (iA _ l)),rfl,ac⟩ ac))
theorem i192(l:List Lit):bg prog 194 [.iv (a7 30 l Lit.c),.cm (.func 220) [] []] [] (pI (qk (fun x:Lit=>kw (x.kind=4)) l)) [] 0:=by
 refine qn (bb func194 Z (by decide)) ⟨_,_,VG⟩ fun u=>?_;simp only[maxLen]at u;refine aj ab func194 Z (by decide) ntmps194 Z (by simp) ?_;refine gA Z ?_
 refine aM 0 l.length (VB _) (fun i=>⟨[(0,.iv (a7 30 l Lit.c)),(1,.cm (.func 220) [] []),(7,pI l.length),(8,pI i)],[],0⟩) (fun i=>(l.take i).any (fun x:Lit=>kw (x.kind=4))=jp) [] (by simp)
  (zW trivial) fun i A y=>?_
 refine zJ Z Z (fun h1=>?_) fun h1=>?_
 .have h1:i<l.length:=by simpa using h1
  refine gA Z (zp (U5 (l.getD i ci)) ?_);refine zJ Z Z (fun j=>?_) fun j=>?_
  .have j:(fun x:Lit=>kw (x.kind=4)) (l.getD i ci)=is:=j;rw[iz y h1 j];refine gA Z (zD [] Z (zW ac))
  .have j:(fun x:Lit=>kw (x.kind=4)) (l.getD i ci)=jp:=j;refine gA Z ⟨h1,(cW y h1).2 j,[],zW ac⟩
 .have h1:l.length<=i:=by simpa using h1
  rw[gi (any_none y h1)];refine gA Z (zD [] Z (zW ac))
theorem d159(l:List Lit):bg prog 135 [.iv (a7 30 l Lit.c),.cm (.func 220) [] []] [] (pB (l.any (fun x:Lit=>kw (x.kind=4)))) [] 0:=by
 refine aj ab func135 Z (by decide) ntmps135 Z (by simp) ?_;refine gA Z (zq [] (i192 l) ?_);refine gA Z (zD [] Z (zM ⟨.of_eq (nV (iA _ l)),rfl,ac⟩ ac))
theorem Tq(p:Prog)(l:List Atom):bg prog 217 [.iv (a7 2 l Atom.c),.cm (.func 182) [] [.ptr 0 0]] [.cells [.iv (cO p)]] (pI (qk (fun x:Atom=>vY p x) l)) [(0,co (.cells [.iv (cO p)]))] 1:=by
 refine qn (bb func217 Z (by decide)) ⟨_,_,VG⟩ fun u=>?_;simp only[maxLen]at u;refine aj ab func217 Z (by decide) ntmps217 Z (by simp) ?_;refine gA Z ?_
 refine aM 0 l.length (VB _) (fun i=>⟨[(0,.iv (a7 2 l Atom.c)),(1,.cm (.func 182) [] [.ptr 0 0]),(7,pI l.length),(8,pI i)],[(0,co (.cells [.iv (cO p)]))],1⟩) (fun i=>(l.take i).any (fun x:Atom=>vY p x)=jp) [] (by simp)
  (zW (zO trivial)) fun i A y=>?_
 refine zJ Z Z (fun h1=>?_) fun h1=>?_
 .have h1:i<l.length:=by simpa using h1
  refine gA Z (zq [0] (d113 p (l.getD i ci)) ?_);refine zJ Z Z (fun j=>?_) fun j=>?_
  .have j:(fun x:Atom=>vY p x) (l.getD i ci)=is:=j;rw[iz y h1 j];refine gA Z (zD [] Z (zW (zO ac)))
  .have j:(fun x:Atom=>vY p x) (l.getD i ci)=jp:=j;refine gA Z ⟨h1,(cW y h1).2 j,[],zW (zO ac)⟩
 .have h1:l.length<=i:=by simpa using h1
  rw[gi (any_none y h1)];refine gA Z (zD [] Z (zW (zO ac)))
theorem TN(p:Prog)(l:List Atom):bg prog 180 [.iv (a7 2 l Atom.c),.cm (.func 182) [] [.ptr 0 0]] [.cells [.iv (cO p)]] (pB (l.any (fun x:Atom=>vY p x))) [(0,co (.cells [.iv (cO p)]))] 1:=by
 refine aj ab func180 Z (by decide) ntmps180 Z (by simp) ?_;refine gA Z (zq [0] (Tq p l) ?_);refine gA Z (zD [] Z (zM ⟨.of_eq (nV (iA _ l)),rfl,ac⟩ (zO ac)))
theorem Tp(p:Prog)(l:List Atom):bg prog 217 [.iv (a7 2 l Atom.c),.cm (.func 184) [] [.ptr 0 0]] [.cells [.iv (cO p)]] (pI (qk (fun x:Atom=>ze p x) l)) [(0,co (.cells [.iv (cO p)]))] 1:=by
 refine qn (bb func217 Z (by decide)) ⟨_,_,VG⟩ fun u=>?_;simp only[maxLen]at u;refine aj ab func217 Z (by decide) ntmps217 Z (by simp) ?_;refine gA Z ?_
 refine aM 0 l.length (VB _) (fun i=>⟨[(0,.iv (a7 2 l Atom.c)),(1,.cm (.func 184) [] [.ptr 0 0]),(7,pI l.length),(8,pI i)],[(0,co (.cells [.iv (cO p)]))],1⟩) (fun i=>(l.take i).any (fun x:Atom=>ze p x)=jp) [] (by simp)
  (zW (zO trivial)) fun i A y=>?_
 refine zJ Z Z (fun h1=>?_) fun h1=>?_
 .have h1:i<l.length:=by simpa using h1
  refine gA Z (zq [0] (d115 p (l.getD i ci)) ?_);refine zJ Z Z (fun j=>?_) fun j=>?_
  .have j:(fun x:Atom=>ze p x) (l.getD i ci)=is:=j;rw[iz y h1 j];refine gA Z (zD [] Z (zW (zO ac)))
  .have j:(fun x:Atom=>ze p x) (l.getD i ci)=jp:=j;refine gA Z ⟨h1,(cW y h1).2 j,[],zW (zO ac)⟩
 .have h1:l.length<=i:=by simpa using h1
  rw[gi (any_none y h1)];refine gA Z (zD [] Z (zW (zO ac)))
theorem TM(p:Prog)(l:List Atom):bg prog 180 [.iv (a7 2 l Atom.c),.cm (.func 184) [] [.ptr 0 0]] [.cells [.iv (cO p)]] (pB (l.any (fun x:Atom=>ze p x))) [(0,co (.cells [.iv (cO p)]))] 1:=by
 refine aj ab func180 Z (by decide) ntmps180 Z (by simp) ?_;refine gA Z (zq [0] (Tp p l) ?_);refine gA Z (zD [] Z (zM ⟨.of_eq (nV (iA _ l)),rfl,ac⟩ (zO ac)))
def cK(l:Lit):List Atom:=if l.kind=1∨l.kind=2 then[l.atom] else[]
theorem p9: ∀l:List Lit,(l.flatMap cK).length<=l.length
 | []=>by simp
 |x::r=>by
  have h1:=p9 r;have j:(cK x).length<=1:=by unfold cK;split<;>simp
  simp only[Wt,Vp,VX];omega
def yR(r:aw)(lit:Int):List Lit:=if(au r lit).kind=4 then(au r lit).ay else[au r lit]
def fq(r:aw)(lit:Int):List Atom:=if lit<0 then[r.head] else(yR r lit).flatMap cK
theorem Mg(r:aw)(lit:Int)(h:0<=lit):jV (.bK 30 ((lit+1).toNat-lit.toNat) (fun j=>(r.body.getD (lit.toNat+j) ci).c)) (lits [au r lit]):=by
 have e:(lit+1).toNat-lit.toNat=1:=by omega
 rw[e]
 exact .bK Z (fun j u=>by
  have:j=0:=by omega
  subst this;rfl)
theorem TU(r:aw)(lit:Int)(h1:lit<r.body.length)(hb:r.size<=1000000000000):Pure prog 181 [ag r.c,pI lit] (.iv (a7 2 (fq r lit) Atom.c)):=by
 have a0:=Lit.aJ r.body;have h0:Lit.aC r.body<=r.size:=X5 _ _;refine ah ab func181 Z (by decide) ntmps181 Z (by simp) Z ?_;refine zJ Z Z (fun B=>?_) fun B=>?_
 .have B:lit<0:=by simpa using B
  refine gA Z (du (by first|exact .inr Z|exact .inl Z) Z Z (by rw[fq,am B];rfl) (by rw[fq,am B];rfl))
 have B: ¬lit<0:=by simpa using B
 have hk:lit.toNat<r.body.length:=by omega
 have J:=Lit.bT r.body lit.toNat hk;have c0:=(au r lit).size_eq;have d0:=Lit.aJ (au r lit).ay;have b0:(au r lit).size<=Lit.aC r.body:=J;refine zJ Z Z (fun C=>?_) fun C=>?_
 .have C:(au r lit).kind=4:=by simpa[au]using C
  have A:fq r lit=(au r lit).ay.flatMap cK:=by rw[fq,be B,yR,am C]
  refine gA Z ?_;refine jc 6 2 Z ?_;refine aM 0 ((au r lit).ay).length (VB _) (fun i=>⟨[(6,.sl 2 0 ((((au r lit).ay).take i).flatMap cK).length 2),(30,.iv (lits ((au r lit).ay))),(31,pI ((au r lit).ay).length),(32,pI i)],[(2,co (aV 2 ((((au r lit).ay).take i).flatMap cK) Atom.c))],3⟩) (fun _=>True) [1] ac
   (zM (bi ⟨.iv (mJ _),rfl,bi (bi trivial)⟩) (zS trivial)) fun i hi _=>?_
  have I:=p9 (((au r lit).ay).take i);have Y:(((au r lit).ay).take i).length<=((au r lit).ay).length:=by rw[V7];exact Y2 _ _
  have G:((au r lit).ay).length<=1000000000000:=by first|omega|(rw[VW];omega)
  refine zJ Z Z (fun j=>?_) fun j=>?_
  .have j:i<((au r lit).ay).length:=zN j;have hs:=bA (f:=cK) j;have u:((((au r lit).ay).getD i ci).kind=1∨(((au r lit).ay).getD i ci).kind=2)->(((au r lit).ay).take (i+1)).flatMap cK=(((au r lit).ay).take i).flatMap cK++ [(((au r lit).ay).getD i ci).atom]:=fun h=>by rw[hs,cK,am h]
   have D: ¬((((au r lit).ay).getD i ci).kind=1∨(((au r lit).ay).getD i ci).kind=2)->(((au r lit).ay).take (i+1)).flatMap cK=(((au r lit).ay).take i).flatMap cK:=fun h=>by rw[hs,cK,be h,We]
   refine zJ Z Z (fun x=>?_) fun x=>?_
   .have x: ¬(((au r lit).ay).getD i ci).kind=1:=by simpa using x
    refine zJ Z Z (fun y=>?_) fun y=>?_
    .have y:(((au r lit).ay).getD i ci).kind=2:=by simpa using y
     have hs:=u (.inr y);refine gA Z ⟨j,ac,[5],zM ⟨.row (by rw[hs,Vp];rfl),rfl,bi (bi (bi ac))⟩ (hR Z (by rw[hs,VD];rfl) Z ac)⟩
    .have y: ¬(((au r lit).ay).getD i ci).kind=2:=by simpa using y
     have hs:=D (fun h=>h.elim x y);refine gA Z ⟨j,ac,[2],zM ⟨.row (by rw[hs]),rfl,bi (bi (bi ac))⟩ (hR Z (by rw[hs]) Z ac)⟩
   .have x:(((au r lit).ay).getD i ci).kind=1:=by simpa using x
    have hs:=u (.inl x);refine gA Z ⟨j,ac,[5],zM ⟨.row (by rw[hs,Vp];rfl),rfl,bi (bi (bi ac))⟩ (hR Z (by rw[hs,VD];rfl) Z ac)⟩
  .have j:((au r lit).ay).length<=i:=zG j;rw[VI j] at*
   refine gA Z (du (by first|exact .inr Z|exact .inl Z) Z Z (by rw[A]) (by rw[A]))
 .have C: ¬(au r lit).kind=4:=by simpa[au]using C
  have A:fq r lit=[au r lit].flatMap cK:=by rw[fq,be B,yR,be C]
  refine gA Z ?_;refine jc 6 2 Z ?_;refine aM 0 ([au r lit]).length (VB _) (fun i=>⟨[(6,.sl 2 0 ((([au r lit]).take i).flatMap cK).length 2),(30,.iv (lits ([au r lit]))),(31,pI ([au r lit]).length),(32,pI i)],[(2,co (aV 2 ((([au r lit]).take i).flatMap cK) Atom.c))],3⟩) (fun _=>True) [1] ac
   (zM (bi ⟨.iv (Mg r lit (by omega)),rfl,.of_eq (Gj (by simp only[VW];omega)),rfl,bi trivial⟩) (zS trivial)) fun i hi _=>?_
  have I:=p9 (([au r lit]).take i);have Y:(([au r lit]).take i).length<=([au r lit]).length:=by rw[V7];exact Y2 _ _
  have G:([au r lit]).length<=1000000000000:=by first|omega|(rw[VW];omega)
  refine zJ Z Z (fun j=>?_) fun j=>?_
  .have j:i<([au r lit]).length:=zN j;have hs:=bA (f:=cK) j;have u:((([au r lit]).getD i ci).kind=1∨(([au r lit]).getD i ci).kind=2)->(([au r lit]).take (i+1)).flatMap cK=(([au r lit]).take i).flatMap cK++ [(([au r lit]).getD i ci).atom]:=fun h=>by rw[hs,cK,am h]
   have D: ¬((([au r lit]).getD i ci).kind=1∨(([au r lit]).getD i ci).kind=2)->(([au r lit]).take (i+1)).flatMap cK=(([au r lit]).take i).flatMap cK:=fun h=>by rw[hs,cK,be h,We]
   refine zJ Z Z (fun x=>?_) fun x=>?_
   .have x: ¬(([au r lit]).getD i ci).kind=1:=by simpa using x
    refine zJ Z Z (fun y=>?_) fun y=>?_
    .have y:(([au r lit]).getD i ci).kind=2:=by simpa using y
     have hs:=u (.inr y);refine gA Z ⟨j,ac,[5],zM ⟨.row (by rw[hs,Vp];rfl),rfl,bi (bi (bi ac))⟩ (hR Z (by rw[hs,VD];rfl) Z ac)⟩
    .have y: ¬(([au r lit]).getD i ci).kind=2:=by simpa using y
     have hs:=D (fun h=>h.elim x y);refine gA Z ⟨j,ac,[2],zM ⟨.row (by rw[hs]),rfl,bi (bi (bi ac))⟩ (hR Z (by rw[hs]) Z ac)⟩
   .have x:(([au r lit]).getD i ci).kind=1:=by simpa using x
    have hs:=u (.inl x);refine gA Z ⟨j,ac,[5],zM ⟨.row (by rw[hs,Vp];rfl),rfl,bi (bi (bi ac))⟩ (hR Z (by rw[hs,VD];rfl) Z ac)⟩
  .have j:([au r lit]).length<=i:=zG j;rw[VI j] at*
   refine gA Z (du (by first|exact .inr Z|exact .inl Z) Z Z (by rw[A]) (by rw[A]))
theorem d110(p:Prog)(r:aw)(lit:Int)(h1:lit<r.body.length)(hb:r.size<=1000000000000):bg prog 179 [pI lit,.ptr 0 0,.ptr 1 0] [aG r.c,.cells [.iv (cO p)]] (pB ((fq r lit).any fun x=>vY p x)) [(0,co (aG r.c)),(1,co (.cells [.iv (cO p)]))] 2:=by
 refine aj ab func179 Z (by decide) ntmps179 Z (by simp) ?_;refine gA Z (zp (TU r lit h1 hb) ?_);refine gA Z (zq [1] (TN p (fq r lit)) ?_);refine gA Z (zD [] Z (zW (zK (zO ac))))
theorem d114(p:Prog)(r:aw)(lit:Int)(h1:lit<r.body.length)(hb:r.size<=1000000000000):bg prog 183 [pI lit,.ptr 0 0,.ptr 1 0] [aG r.c,.cells [.iv (cO p)]] (pB ((fq r lit).any fun x=>ze p x)) [(0,co (aG r.c)),(1,co (.cells [.iv (cO p)]))] 2:=by
 refine aj ab func183 Z (by decide) ntmps183 Z (by simp) ?_;refine gA Z (zp (TU r lit h1 hb) ?_);refine gA Z (zq [1] (TM p (fq r lit)) ?_);refine gA Z (zD [] Z (zW (zK (zO ac))))
def my(r:aw)(lit:Int):Bool:=if lit<0 then r.head.an.any fun x=>kw (x.kind=3) else if(au r lit).kind=4 then((au r lit).ay.any fun x=>kw (x.kind=4))||dR (bm (au r lit).agg) (au r lit).bE else jp
theorem Vb(r:aw)(lit:Int)(h1:lit<r.body.length)(hb:r.size<=100000000):Pure prog 186 [ag r.c,pI lit] (pB (my r lit)):=by
 have I:=Lit.aJ r.body;have h0:Lit.aC r.body<=r.size:=X5 _ _;refine ah ab func186 Z (by decide) ntmps186 Z (by simp) Z ?_;refine zJ Z Z (fun j=>?_) fun j=>?_
 .have j:lit<0:=by simpa using j
  refine gA Z (zq [] (d157 r.head.an) ?_);refine gA Z (zL (.of_eq ?_));rw[my,am j];rfl
 have j: ¬lit<0:=by simpa using j
 have hk:lit.toNat<r.body.length:=by omega
 have C:=Lit.bT r.body lit.toNat hk;have D:=(au r lit).kG;have J:(au r lit).size<=Lit.aC r.body:=C;have G:=kH (au r lit).agg;refine zJ Z Z (fun u=>?_) fun u=>?_
 .have u: ¬(au r lit).kind=4:=by simpa[au]using u
  refine gA Z (zL (.of_eq ?_));rw[my,be j,be u]
 have u:(au r lit).kind=4:=by simpa[au]using u
 refine gA Z (ak [] (bg.le (aa:=[.iv (rD (au r lit).ay),.cm (.func 220) [] []]) (d159 (au r lit).ay) ⟨.iv (mJ _),.refl _,ac⟩) Z Z Z Z Z Z Z Z ?_);refine zE Z Z (fun y=>?_) fun y=>?_
 .have y:((au r lit).ay.any fun x=>kw (x.kind=4))=jp:=y;have B:=bI (bm (au r lit).agg) (au r lit).bE;have A:=ct (occ:=bm (au r lit).agg) (s:=(au r lit).bE);refine gA Z (zd [] (d127 (au r lit).agg (by omega)) ?_);refine gA Z (zL (.of_eq ?_));refine(nV ?_:pB (kw (dQ .str (aL (bm (au r lit).agg)) (au r lit).bE 0>0))=_);rw[my,be j,am u,y,A,B,Xn];by_cases Y:qs (bm (au r lit).agg) (au r lit).bE=0<;>simp[Y];omega
 .have y:((au r lit).ay.any fun x=>kw (x.kind=4))=is:=y;refine gA Z (zL (.of_eq ?_));rw[my,be j,am u,y];rfl
theorem d116(r:aw)(lit:Int)(h1:lit<r.body.length)(hb:r.size<=100000000):bg prog 185 [pI lit,.ptr 0 0] [aG r.c] (pB (my r lit)) [(0,co (aG r.c))] 1:=by
 refine aj ab func185 Z (by decide) ntmps185 Z (by simp) ?_;refine gA Z (zp (Vb r lit h1 hb) ?_);refine gA Z (zD [] Z (zW (zK ac)))
def r6(r:aw)(lit:Int):Pos:=if lit<0 then r.at_ else(au r lit).at
theorem Jl(r:aw)(lit:Int)(h1:lit<r.body.length):Pure prog 190 [ag r.c,pI lit] (ag [iI (r6 r lit).line,iI (r6 r lit).JI]):=by
 refine ah ab func190 Z (by decide) ntmps190 Z (by simp) Z ?_;refine zJ Z Z (fun j=>?_) fun j=>?_
 .have j:lit<0:=by simpa using j
  refine gA Z (zL (.of_eq ?_));rw[r6,am j];rfl
 have j: ¬lit<0:=by simpa using j
 refine gA Z (zL (.of_eq ?_));rw[r6,be j];rfl
def mI(r:aw)(l:Lit):Nat:=if l.kind=4 then(lV r l.agg).length else 0
def GZ(r:aw):Nat:=r.body.foldl (fun n l=>n+mI r l) (aL (aH r)).length
theorem xu(r:aw)(l:Lit):mI r l<=l.size:=by
 unfold mI;split
 .have h1:(lV r l.agg).length<=(aL (bm l.agg)).length:=WO _ _;have j:=lP (bm l.agg);have u:=kH l.agg;have x:=l.kG;omega
 .omega
theorem Aa(r:aw): ∀(l:List Lit) (n:Nat),l.foldl (fun n l=>n+mI r l) n<=n+Lit.aC l
 | [],n=>by simp
 |x::t,n=>by
  have h1:=Aa r t (n+mI r x);have j:=xu r x;simp only[Ws,Lit.aC];omega
theorem Vc(r:aw)(hb:r.size<=100000000):Pure prog 178 [.iv (cD r)] (pI (GZ r)):=by
 have y:=Lit.aJ r.body;have G:Lit.aC r.body<=r.size:=X5 _ _;have J:=yH r;have A:=lP (aH r);refine ah ab func178 Z (by decide) ntmps178 Z (by simp) Z ?_;refine gA Z ?_;refine aM 0 r.body.length (VB _) (fun i=>⟨[(0,.iv (cD r)),(3,pI (((r.body.take i).foldl (fun n l=>n+mI r l) (aL (aH r)).length:Nat))),(15,.iv (lits r.body)),(16,pI r.body.length),(17,pI i)],[],0⟩) (fun _=>True) [] ac
  (zW trivial) fun i I _=>?_
 have B:=Aa r (r.body.take i) (aL (aH r)).length;have C:=Lit.uA r.body i;refine zJ Z Z (fun h1=>?_) fun h1=>?_
 .have h1:i<r.body.length:=by simpa using h1
  have hs:=ie (g:=fun n l=>n+mI r l) (b:=(aL (aH r)).length) h1;have D:=Lit.bT r.body i h1;have x:=(r.body.getD i ci).kG;have u:=xu r (r.body.getD i ci);refine zJ Z Z (fun j=>?_) fun j=>?_
  .have j:(r.body.getD i ci).kind=4:=by simpa using j
   rw[mI,am j]at hs u;refine gA Z (zq [] (d79 r (r.body.getD i ci).agg (by omega)) ?_);refine gA Z ⟨h1,ac,[],zM (bi ⟨.of_eq (Gj (by rw[hs];rfl)),rfl,bi (bi (bi ac))⟩) ac⟩
  .have j: ¬(r.body.getD i ci).kind=4:=by simpa using j
   rw[mI,be j]at hs;refine gA Z ⟨h1,ac,[],zM (bi ⟨.of_eq (Gj (by rw[hs];rfl)),rfl,bi (bi (bi ac))⟩) ac⟩
 .have h1:r.body.length<=i:=by simpa using h1
  refine gA Z (zL (.of_eq ?_));rw[VI h1];rfl
section
section
variable {may:List aq->Expr->Bool} {more:List aq->gJ->Bool} {body:List Lit}
theorem tk: ∀(n:Nat) (occ:List aq),cH (bU body) occ<n->b5 (may (dc may more body n occ)) (more (dc may more body n occ)) (dc may more body n occ) body=io
 |0,occ,h=>by omega
 |n+1,occ,h=>by
  cases hv:b5 (may occ) (more occ) occ body with
  |none=>rw[fa hv];exact hv
  |some v=>
   rw[eZ hv];refine tk n _ ?_;obtain⟨g1,g2⟩:=ky hv;have u:=qX g1 g2;have j:cH (bU body) (occ++ [v])=cH (bU body) (hZ occ v):=by
    unfold cH;congr 2
    funext x
    congr 1;rw[WR,bJ,bJ,dz,VM,Vz]
   omega
theorem tp(occ:List aq):b5 (may (b7 may more body occ)) (more (b7 may more body occ)) (b7 may more body occ) body=io:=by
 refine tk _ _ ?_;have h1:=qY (bU body) (occ++body.flatMap bw);have j:=jZ body;omega
theorem ov: ∀(n:Nat) (occ:List aq),∀x∈occ,x∈dc may more body n occ
 |0,occ,x,h=>h
 |n+1,occ,x,h=>by
  cases hv:b5 (may occ) (more occ) occ body with
  |none=>rw[fa hv];exact h
  |some v=>rw[eZ hv];exact ov n _ x (Wi _ h)
theorem oi{m1:Expr->Bool}{m2:gJ->Bool}{occ:List aq}: ∀{l:List Lit},b5 m1 m2 occ l=io-> ∀x∈l,mD m1 m2 occ x=io
 | [],_,x,hx=>by cases hx
 |y::r,h,x,hx=>by
  simp only[b5]at h;split at h
  .cases h
  .rename_i h1;rcases VH.1 hx with rfl|hx
   .exact h1
   .exact oi h x hx
theorem td{m1:Expr->Bool}{m2:gJ->Bool}{occ:List aq}{v:aq}: ∀{l:List Lit},b5 m1 m2 occ l=co v-> ∃x∈l,mD m1 m2 occ x=co v
 | [],h=>by cases h
 |y::r,h=>by
  simp only[b5]at h;split at h
  .rename_i w u;exact⟨y,VG,u.trans h⟩
  .obtain⟨x,A,j⟩:=td h;exact⟨x,VE _ A,j⟩
variable (hmay: ∀a b:List aq,(∀x∈a,x∈b)-> ∀e,may a e=is->may b e=is) (hmore: ∀a b:List aq,(∀x∈a,x∈b)-> ∀e,more a e=is->more b e=is)
include hmay hmore
theorem D0{occ C:List aq}(j: ∀x∈occ,x∈C){l:Lit}{v:aq}(h:mD (may occ) (more occ) occ l=co v)(hC:mD (may C) (more C) C l=io):v∈C:=by
 have hl: ∀y,y∉C->dR C y=jp:=fun y J=>fp.2 J;have hnew:=(u3 h).2;refine WV fun G=>?_;unfold mD at h hC;by_cases u:(gv (may occ) occ l).2=is
 .rw[am u]at h;simp only[Vq]at h;have D:(gv (may C) C l).2=is:=by
   unfold gv at u h ⊢;split at u
   .cases u
   .rename_i I;rw[be I]at h ⊢;split at u
    .rename_i h1;rw[am h1]at h;have B:l.left.var=v:=h;rw[am ⟨h1.1,by rw[B];exact hl v G,hmay occ C j _ h1.2.2⟩]
    .rename_i h1;rw[be h1]at h;split at u
     .rename_i A;rw[am A]at h;have B:l.right.var=v:=h;split
      .rfl
      .rw[am ⟨A.1,by rw[B];exact hl v G,hmay occ C j _ A.2.2⟩]
     .cases u
  rw[am D]at hC;cases hC
 .rw[be u]at h;split at h
  .rename_i A;simp only[Vq]at h;split at hC
   .cases hC
   .rw[am ⟨A.1,by rw[h];exact hl v G,hmore occ C j _ A.2.2⟩]at hC;cases hC
  .cases h
theorem ou{C:List aq}(hC:b5 (may C) (more C) C body=io): ∀(n:Nat) (occ:List aq),(∀x∈occ,x∈C)-> ∀x∈dc may more body n occ,x∈C
 |0,occ,h,x,hx=>h x hx
 |n+1,occ,h,x,hx=>by
  cases hv:b5 (may occ) (more occ) occ body with
  |none=>rw[fa hv]at hx;exact h x hx
  |some v=>
   rw[eZ hv]at hx;refine ou hC n _ (fun y hy=>?_) x hx;rcases VM.1 hy with hy|hy
   .exact h y hy
   .rw[Vz]at hy;subst hy;obtain⟨l,hl,j⟩:=td hv;exact D0 hmay hmore h j (oi hC l hl)
theorem tm{u j:List aq}(h: ∀x∈u,x∈j): ∀x∈b7 may more body u,x∈b7 may more body j:=by
 refine ou hmay hmore (tp j) _ _ fun x hx=>?_;refine ov _ _ x ?_;rcases VM.1 hx with hx|hx
 .exact Wi _ (h x hx)
 .exact WY _ hx
end
theorem rB(a b:List aq)(h: ∀x∈a,x∈b)(e:Expr)(hc:bf a e=is):bf b e=is:=by
 unfold bf at*
 rw[Wc] at*
 exact fun x j=>bJ.2 (h x (bJ.1 (hc x j)))
theorem AI(a b:List aq)(h: ∀x∈a,x∈b)(e:Expr)(hc:cz a e=is):cz b e=is:=by
 unfold cz at*
 cases hk:kw (e.kind=2) with
 |true=>simp
 |false=>
  rw[hk,Xn,Wf]at hc;rw[Xn,Wf];exact⟨hc.1,bJ.2 (h _ (bJ.1 hc.2))⟩
def CS(r:aw)(a:gJ):List aq:=((aL (bm a)).map (·.1)).filter fun x=>dR (aH r) x
def Cw(r:aw)(a:gJ):List aq:=b7 (fun j=>bf j) (fun _=>fun _=>jp) a.body (CS r a)
theorem L1{r:aw}{a:gJ}{occ:List aq}(h:Ig r a occ)(s:aq):dR (b7 (fun occ=>bf occ) (fun _=>fun _=>jp) a.body occ) s=dR (Cw r a) s:=by
 have u: ∀x,x∈CS r a↔x∈occ:=fun x=>by
  unfold CS;rw[V4,(eD (bm a)).2 x,bJ,h.2 x]
 rw[WR,bJ,bJ];exact⟨tm (more:=fun _=>fun _=>jp) rB (fun _ _ _ _ h=>h) (fun x j=>(u x).2 j) s,tm (more:=fun _=>fun _=>jp) rB (fun _ _ _ _ h=>h) (fun x j=>(u x).1 j) s⟩
def u9(r:aw)(m:NM):Bool:=m.any fun x=>!dR (bZ r) x.1
theorem n4{r:aw}{m:NM}(h: ∀j,j<m.length-> ∀x,m[j]? =co x->dR (bZ r) x.1=is):u9 r m=jp:=by
 refine Wm.2 fun x y=>?_;obtain⟨j,u⟩:=Wh y;rw[h j (Vs.1 u).1 x u];simp
theorem qe{r:aw}{m:NM}{j:Nat}{x:(KC.str).K×Int}(h:m[j]? =co x)(u:dR (bZ r) x.1=jp):u9 r m=is:=
 WN.2 ⟨x,V2 h,by rw[u];rfl⟩
def lX(r:aw)(a:gJ):NM:=(aL (bm a)).filter fun x=>!dR ((lV r a).map (·.1)) x.1
def lv(r:aw)(lit:Int):Bool:=
 if lit<0 then u9 r (aL (cR r.head))
 else if(au r lit).kind=4 then(lV r (au r lit).agg).any (fun x=>!dR (Cw r (au r lit).agg) x.1)||u9 r (bump (lX r (au r lit).agg) (au r lit).bE)
 else u9 r (aL (cT (au r lit)))
theorem UK(a:Atom)(hb:a.an.length<=100000000000):bg prog 192 [.mp 0,ag a.c] [.fh] (.aZ []) [(0,co (cS (aL (cR a))))] 1:=
 bg.OS (d88 [] a (by simp;omega)) ⟨tT,ac⟩
theorem UJ(l:Lit)(hb:l.size<=100000000000):bg prog 215 [.mp 0,ag l.c] [.fh] (.aZ []) [(0,co (cS (aL (cT l))))] 1:=
 bg.OS (d89 l [] (by simp;omega)) ⟨tT,ac⟩
theorem xv(f:aq->Bool)(s:aq): ∀(m:NM),dQ .str (m.filter fun x=>f x.1) s 0=if f s=is then dQ .str m s 0 else 0
 | []=>by simp[dQ]
 |(a,b)::r=>by
  have j:=xv f s r;cases hf:f a with
  |true=>
   rw[List.filter_cons_of_pos (by exact hf)];simp only[dQ];split
   .rename_i h;subst h;rw[am hf]
   .exact j
  |false=>
   rw[List.filter_cons_of_neg (by simp[hf]),j];simp only[dQ];split
   .rename_i h;split
    .rename_i u;subst u;rw[hf]at h;cases h
    .rfl
   .rfl
theorem Me(r:aw)(a:gJ)(s:aq):0<=dQ .str (lX r a) s 0∧dQ .str (lX r a) s 0<=qs (bm a) s:=by
 have h1:=bI (bm a) s;have j:=xv (fun x=>!dR ((lV r a).map (·.1)) x) s (aL (bm a));unfold lX;rw[j,h1];split<;>omega
set_option maxHeartbeats 2000000 in
theorem U9(r:aw)(lit:Int)(hl:lit<r.body.length)(hb:r.size<=10000000):Pure prog 189 [.iv (cD r),pI lit] (pB (lv r lit)):=by
 have v0:=Lit.aJ r.body;have h0:Lit.aC r.body<=r.size:=X5 _ _;have r0:r.head.an.length<=r.size:=Yk _ _;have a1:=CJ r;refine ah ab func189 Z (by decide) ntmps189 Z (by simp) Z ?_;refine gA Z (zq [] (d73 r (by omega)) ?_);refine zJ Z Z (fun G=>?_) fun G=>?_
 .have G:lit<0:=by simpa using G
  refine gA Z (zq [1] (UK r.head (by omega)) ?_);refine gA Z ?_;have g0:(aL (cR r.head)).length<=1000000000000:=by have:=lP (cR r.head);have:=jv r.head;omega
  refine fO (aL (cR r.head)) (fun vs=>⟨[(5,.mp 0),(76,.ptr 2 0)],[(0,co (cS (aL (bZ r)))),(2,co (.bX .str zn (aL (cR r.head)) vs io))],3⟩) (fun vs=> ∀j∈vs,∀x,(aL (cR r.head))[j]? =co x->dR (bZ r) x.1=is) [] (by simp)
   (zW (zC (hI Z Z (.inl Z) Z trivial))) fun vs I=>?_
  refine fP Z ac (dM Z Z Z Z Z (by decide) (fun A=>?_) fun j x u C=>?_)
  .refine gA Z (zL (.of_eq ?_));refine(nV ?_:pB jp=_);rw[lv,am G,n4 fun j C x u=>I j (A j C) x u]
  .have b0:=bI (bZ r) x.1;have B:=ct (occ:=bZ r) (s:=x.1);refine zJ Z Z (fun g1=>?_) fun g1=>?_
   .have g1:dR (bZ r) x.1=jp:=by
     have:=zT g1;rw[B];simp;omega
    refine gA Z (zL (.of_eq ?_));refine(nV ?_:pB is=_);rw[lv,am G,qe u g1]
   .have g1:dR (bZ r) x.1=is:=by
     have:=zF g1;rw[B];simp;omega
    refine gA Z ?_
    exact⟨j,x,u,C,fun i hi y D=>by
     rcases VH.1 hi with rfl|hi
     .rw[u]at D;cases D;exact g1
     .exact I i hi y D,[],zW (zC (hI Z Z (.inr Z) Z ac))⟩
 have G: ¬lit<0:=by simpa using G
 have hk:lit.toNat<r.body.length:=by omega
 have q0:=Lit.bT r.body lit.toNat hk;have s0:=(au r lit).kG;have x0:(au r lit).size<=Lit.aC r.body:=q0;have t0:=kH (au r lit).agg;have p0:=mK (au r lit);refine zE Z Z (fun J=>?_) fun J=>?_
 .have J: ¬(au r lit).kind=4:=by simpa[au]using J
  refine gA Z (zq [1] (UJ (au r lit) (by omega)) ?_);refine gA Z ?_;have g0:(aL (cT (au r lit))).length<=1000000000000:=by have:=lP (cT (au r lit));omega
  refine fO (aL (cT (au r lit))) (fun vs=>⟨[(5,.mp 0),(76,.ptr 3 0)],[(0,co (cS (aL (bZ r)))),(3,co (.bX .str zn (aL (cT (au r lit))) vs io))],4⟩) (fun vs=> ∀j∈vs,∀x,(aL (cT (au r lit)))[j]? =co x->dR (bZ r) x.1=is) [] (by simp)
   (zW (zC (hI Z Z (.inl Z) Z trivial))) fun vs I=>?_
  refine fP Z ac (dM Z Z Z Z Z (by decide) (fun A=>?_) fun j x u C=>?_)
  .refine gA Z (zL (.of_eq ?_));refine(nV ?_:pB jp=_);rw[lv,be G,be J,n4 fun j C x u=>I j (A j C) x u]
  .have b0:=bI (bZ r) x.1;have B:=ct (occ:=bZ r) (s:=x.1);refine zJ Z Z (fun g1=>?_) fun g1=>?_
   .have g1:dR (bZ r) x.1=jp:=by
     have:=zT g1;rw[B];simp;omega
    refine gA Z (zL (.of_eq ?_));refine(nV ?_:pB is=_);rw[lv,be G,be J,qe u g1]
   .have g1:dR (bZ r) x.1=is:=by
     have:=zF g1;rw[B];simp;omega
    refine gA Z ?_
    exact⟨j,x,u,C,fun i hi y D=>by
     rcases VH.1 hi with rfl|hi
     .rw[u]at D;cases D;exact g1
     .exact I i hi y D,[],zW (zC (hI Z Z (.inr Z) Z ac))⟩
 have J:(au r lit).kind=4:=by simpa[au]using J
 refine gA Z (nr [] (d161 r (au r lit).agg (by omega)) Z Z Z Z Z Z Z fun q h' n' hR=>?_);obtain⟨ok,⟨occ,k0,hok⟩,rfl,rfl,rfl⟩:=hR;have c0: ∀s,dR ok s=dR (Cw r (au r lit).agg) s:=fun s=>by rw[hok];exact L1 k0 s
 refine⟨_,rfl,?_⟩;have b1:=lP (bm (au r lit).agg);have z0:(lV r (au r lit).agg).length<=(aL (bm (au r lit).agg)).length:=WO _ _;have w0:(lX r (au r lit).agg).length<=(aL (bm (au r lit).agg)).length:=WO _ _;have m0:=(eD (bm (au r lit).agg)).1;refine gA Z (zq [] (d79 r (au r lit).agg (by omega)) ?_);refine gA Z ?_;refine fO (lV r (au r lit).agg) (fun vs=>⟨[(0,.iv (cD r)),(5,.mp 0),(7,.ptr 2 0),(8,.mp 3),(43,.ptr 5 0)],[(0,co (cS (aL (bZ r)))),(2,co (aG (au r lit).c)),(3,co (cS (aL ok))),(5,co (.bX .str zn (lV r (au r lit).agg) vs io))],6⟩) (fun vs=> ∀j∈vs,∀x,(lV r (au r lit).agg)[j]? =co x->dR (Cw r (au r lit).agg) x.1=is) [] (by simp)
  (zW (zC (zK (zC (hI Z Z (.inl Z) Z trivial))))) fun vs I=>?_
 refine fP Z ac (dM Z Z Z Z Z (by decide) (fun A=>?_) fun j x u C=>?_);rotate_left
 .have b0:=bI ok x.1;have B:=ct (occ:=ok) (s:=x.1);have Y:=c0 x.1;refine zJ Z Z (fun g1=>?_) fun g1=>?_
  .have g1:dR (Cw r (au r lit).agg) x.1=jp:=by
    have:=zT g1;rw[<-Y,B];simp;omega
   refine gA Z (zL (.of_eq ?_));refine(nV ?_:pB is=_);rw[lv,be G,am J,WN.2 ⟨x,V2 u,by rw[g1];rfl⟩,Yq]
  .have g1:dR (Cw r (au r lit).agg) x.1=is:=by
    have:=zF g1;rw[<-Y,B];simp;omega
   refine gA Z ?_
   exact⟨j,x,u,C,fun i hi y D=>by
    rcases VH.1 hi with rfl|hi
    .rw[u]at D;cases D;exact g1
    .exact I i hi y D,[],zW (zC (zK (zC (hI Z Z (.inr Z) Z ac))))⟩
 have hA:(lV r (au r lit).agg).any (fun x=>!dR (Cw r (au r lit).agg) x.1)=jp:=Wm.2 fun x u=>by
  obtain⟨j,C⟩:=Wh u;rw[I j (A j (Vs.1 C).1) x C];simp
 refine gA Z (zq [] (d127 (au r lit).agg (by omega)) ?_);refine gA Z (zq [] (d79 r (au r lit).agg (by omega)) ?_);refine gA Z ?_;refine fO (lV r (au r lit).agg) (fun vs=>⟨[(5,.mp 0),(6,.mp 6),(7,.ptr 2 0),(59,.ptr 8 0)],[(0,co (cS (aL (bZ r)))),(2,co (aG (au r lit).c)),(6,co (cS ((gW (lV r (au r lit).agg) vs).foldl (fun m k=>kL .str m k) (aL (bm (au r lit).agg))))),(8,co (.bX .str zn (lV r (au r lit).agg) vs io))],9⟩) (fun vs=>vs.Nodup∧ ∀j∈vs,j<(lV r (au r lit).agg).length) [] ⟨Wn,by simp⟩
  (zW (zC (zK (zC (hI Z Z (.inl Z) Z trivial))))) fun d0 i0=>?_
 obtain⟨e0,f0⟩:=i0;refine fP Z ac (dM Z Z Z Z Z (by decide) (fun a0=>?_) fun j x u C=>?_);rotate_left
 .have hk:=kW (lV r (au r lit).agg) d0 j x u;refine gA Z ⟨j,x,u,C,⟨Wb.2 ⟨C,e0⟩,fun i hi=>(VH.1 hi).elim (fun h=>h▸(Vs.1 u).1) (f0 i)⟩,[],zW (zC (zK (hM Z (by rw[hk,List.foldl_append];rfl) Z (hI Z Z (.inr Z) Z ac))))⟩
 have n0:(gW (lV r (au r lit).agg) d0).foldl (fun m k=>kL .str m k) (aL (bm (au r lit).agg))=lX r (au r lit).agg:=by
  rw[oq _ m0];unfold lX;congr 1
  funext x
  congr 1;rw[WR,bJ,bJ,(ke _ d0 e0 f0 a0).mem_iff]
 rw[n0];have o0:=Me r (au r lit).agg (au r lit).bE;have j0:=gH (bm (au r lit).agg) (au r lit).bE;refine gA Z ?_;have g0:(bump (lX r (au r lit).agg) (au r lit).bE).length<=1000000000000:=by have:=uP (lX r (au r lit).agg) (au r lit).bE (dQ .str (lX r (au r lit).agg) (au r lit).bE 0+1);unfold bump;omega
 refine fO (bump (lX r (au r lit).agg) (au r lit).bE) (fun vs=>⟨[(5,.mp 0),(76,.ptr 9 0)],[(0,co (cS (aL (bZ r)))),(9,co (.bX .str zn (bump (lX r (au r lit).agg) (au r lit).bE) vs io))],10⟩) (fun vs=> ∀j∈vs,∀x,(bump (lX r (au r lit).agg) (au r lit).bE)[j]? =co x->dR (bZ r) x.1=is) [] (by simp)
  (zW (zC (hI Z Z (.inl Z) Z trivial))) fun vs I=>?_
 refine fP Z ac (dM Z Z Z Z Z (by decide) (fun A=>?_) fun j x u C=>?_)
 .refine gA Z (zL (.of_eq ?_));refine(nV ?_:pB jp=_);rw[lv,be G,am J,hA,Xn,n4 fun j C x u=>I j (A j C) x u]
 .have b0:=bI (bZ r) x.1;have B:=ct (occ:=bZ r) (s:=x.1);refine zJ Z Z (fun g1=>?_) fun g1=>?_
  .have g1:dR (bZ r) x.1=jp:=by
    have:=zT g1;rw[B];simp;omega
   refine gA Z (zL (.of_eq ?_));refine(nV ?_:pB is=_);rw[lv,be G,am J,hA,Xn,qe u g1]
  .have g1:dR (bZ r) x.1=is:=by
    have:=zF g1;rw[B];simp;omega
   refine gA Z ?_
   exact⟨j,x,u,C,fun i hi y D=>by
    rcases VH.1 hi with rfl|hi
    .rw[u]at D;cases D;exact g1
    .exact I i hi y D,[],zW (zC (hI Z Z (.inr Z) Z ac))⟩
end
end Go.Proofs.YtlmhfgbkchnfbaaGreatDoor
namespace Go.Proofs.YtlmhfgbkchnfbaaGreatDoor
open Go Go.Al
def Md(a b:aq):Prop:=nM a<nM b
theorem O7(a b:aq):Op.bytesLess a.toList b.toList=is↔Md a b:=by
 rw[ByteArray.toList_eq,ByteArray.toList_eq,bytesLess_eq,decide_eq_true_eq];rfl
theorem yl{a b:aq}(h:nM a=nM b):a=b:=by rw[<-tP a,<-tP b,h]
theorem xt{a b c:aq}(h:Md a b)(k:Md b c):Md a c:=List.lt_trans h k
theorem mG(a:aq): ¬Md a a:=List.lt_irrefl _
theorem Mc{a b:aq}(h: ¬a=b)(k: ¬Md a b):Md b a:=by
 refine WV fun j=>h (yl (YA ?_ ?_))
 .exact Y6.1 j
 .exact Y6.1 k
abbrev yd(l:List aq):Prop:=l.Pairwise Md
theorem vg: ∀{l:List aq} (_:yd l) (s:aq),yd (ins l s)
 | [],_,s=>XK _ _
 |x::r,h,s=>by
  obtain⟨h1,A⟩:=Wz.1 h;simp only[ins];split
  .exact h
  .rename_i u;split
   .rename_i j;have j:=(O7 x s).1 j;refine Wz.2 ⟨fun y hy=>?_,vg A s⟩;rcases mF.1 hy with hy|rfl
    .exact h1 y hy
    .exact j
   .rename_i j;have j:Md s x:=Mc u fun h=>j ((O7 x s).2 h);refine Wz.2 ⟨fun y hy=>?_,h⟩;rcases VH.1 hy with rfl|hy
    .exact j
    .exact xt j (h1 y hy)
theorem qA{l:List aq}(h:yd l)(s:aq):yd (hZ l s):=by rw[wJ];exact vg h s
theorem nJ: ∀{m l:List aq} (_:yd l),yd (oD l m)
 | [],_,h=>h
 |x::r,_,h=>nJ (m:=r) (qA h x)
theorem pR: ∀{a b:List aq},yd a->yd b->(∀x,x∈a↔x∈b)->a=b
 | [],[],_,_,_=>rfl
 | [],y::s,_,_,h=>by have:=(h y).2 VG;cases this
 |x::r,[],_,_,h=>by have:=(h x).1 VG;cases this
 |x::r,y::s,ha,hb,h=>by
  obtain⟨A,a2⟩:=Wz.1 ha;obtain⟨B,C⟩:=Wz.1 hb;have u:x=y:=by
   rcases VH.1 ((h x).1 VG) with h1|h1
   .exact h1
   .rcases VH.1 ((h y).2 VG) with h2|h2
    .exact h2.symm
    .exact absurd (xt (B x h1) (A y h2)) (mG _)
  subst u;rw[pR a2 C fun z=>?_];constructor
  .intro j;rcases VH.1 ((h z).1 (VE _ j)) with rfl|h3
   .exact absurd (A z j) (mG _)
   .exact h3
  .intro j;rcases VH.1 ((h z).2 (VE _ j)) with rfl|h3
   .exact absurd (B z j) (mG _)
   .exact h3
theorem jK{l:List aq}(h:l.Nodup):yd (dD l):=by
 have h1:=iP (l.map nM);rw[<-rP]at h1;have C:(dD l).Nodup:=by
  have D:((dD l).map nM).Perm (l.map nM):=by rw[rP];exact fE _
  have u:(l.map nM).Nodup:=List.Pairwise.map nM (fun a b j e=>j (yl e)) h;have:=D.nodup_iff.2 u;exact List.Pairwise.of_map nM (fun a b j e=>j (by rw[e])) this
 have x:(dD l).Pairwise fun a b=>nM a<=nM b:=(List.pairwise_map.1 h1).imp fun{a b} j=>zT j;refine(List.Pairwise.and x C).imp fun{a b} j=>?_;obtain⟨y,A⟩:=j;exact WV fun B=>A (yl (YA y (Y6.1 B)))
theorem K6{m:NM}{l:List aq}(hm:(m.map (·.1)).Nodup)(hl:yd l)(h: ∀x,x∈m.map (·.1)↔x∈l):fu m=l:=by
 refine pR (jK hm) hl fun x=>?_;rw[fu,lS];exact h x
theorem GC{occ l:List aq}(hl:yd l)(h: ∀x,x∈occ↔x∈l):fu (aL occ)=l:=
 K6 (eD occ).1 hl fun x=>((eD occ).2 x).trans (h x)
theorem pn{x:aq}: ∀{l:List Term} {a:List aq},x∈l.foldl B3 a↔x∈a∨x∈l.flatMap fun t=>if t.kind=1 then[t.var] else[]
 | [],a=>by simp
 |t::r,a=>by
  rw[Ws,pn,Wt,VM];unfold B3;split
  .rw[dz,Vz,or_assoc]
  .simp
theorem yO{x:aq}{a:Atom}:x∈rI a↔x∈cR a:=by
 unfold rI cR;rw[pn];simp
def Sx(a:List aq×Bool)(l:Lit):List aq×Bool:=if(lh l a.1).2=is then(hZ a.1 (lh l a.1).1,is) else a
def rU(body:List Lit)(k:List aq):List aq×Bool:=body.foldl Sx (k,jp)
def uQ(body:List Lit):Nat->List aq->List aq
 |0,k=>k
 |n+1,k=>if(rU body k).2=is then uQ body n (rU body k).1 else(rU body k).1
theorem AG{body:List Lit}{n:Nat}{k:List aq}:uQ body (n+1) k=if(rU body k).2=is then uQ body n (rU body k).1 else(rU body k).1:=rfl
def lu(r:aw):List aq:=uQ r.body (3*r.body.length+1) (r.body.foldl Fo [])
section
section
variable (stp:List aq->Lit->aq×Bool)
def gS(a:List aq×Bool)(l:Lit):List aq×Bool:=if(stp a.1 l).2=is then(hZ a.1 (stp a.1 l).1,is) else a
def gR(body:List Lit)(k:List aq):List aq×Bool:=body.foldl (gS stp) (k,jp)
def gN(body:List Lit):Nat->List aq->List aq
 |0,k=>k
 |n+1,k=>if(gR stp body k).2=is then gN body n (gR stp body k).1 else(gR stp body k).1
variable {stp}
theorem Eo: ∀(body:List Lit) (k:List aq),(body.foldl (gS stp) (k,is)).2=is
 | [],k=>rfl
 |l::r,k=>by
  rw[Ws];have: ∃j,gS stp (k,is) l=(j,is):=by
   unfold gS;split
   .exact⟨_,rfl⟩
   .exact⟨_,rfl⟩
  obtain⟨j,hk⟩:=this;rw[hk];exact Eo r j
theorem Bx: ∀{body:List Lit} {k:List aq},(body.foldl (gS stp) (k,jp)).2=jp->(body.foldl (gS stp) (k,jp)).1=k∧ ∀l∈body,(stp k l).2=jp
 | [],k,_=>⟨rfl,by simp⟩
 |l::r,k,h=>by
  rw[Ws]at h ⊢;cases hs:(stp k l).2 with
  |true=>
   have:gS stp (k,jp) l=(hZ k (stp k l).1,is):=am hs;rw[this,Eo]at h;cases h
  |false=>
   have:gS stp (k,jp) l=(k,jp):=be (by rw[hs];simp);rw[this]at h ⊢;obtain⟨h1,j⟩:=Bx h
   exact⟨h1,fun x hx=>by
    rcases VH.1 hx with rfl|hx
    .exact hs
    .exact j x hx⟩
theorem C3: ∀(body:List Lit) (a:List aq×Bool),∀x∈a.1,x∈(body.foldl (gS stp) a).1
 | [],a,x,h=>h
 |l::r,a,x,h=>by
  rw[Ws];refine C3 r _ x ?_;unfold gS;split
  .exact dz.2 (.inl h)
  .exact h
theorem IB{body:List Lit}: ∀(n:Nat) (k:List aq),∀x∈k,x∈gN stp body n k
 |0,k,x,h=>h
 |n+1,k,x,h=>by
  unfold gN;split
  .exact IB n _ x (C3 body (k,jp) x h)
  .exact C3 body (k,jp) x h
theorem sw: ∀(body:List Lit) (a:List aq×Bool),yd a.1->yd (body.foldl (gS stp) a).1
 | [],a,h=>h
 |l::r,a,h=>by
  rw[Ws];refine sw r _ ?_;unfold gS;split
  .exact qA h _
  .exact h
theorem xI{body:List Lit}: ∀(n:Nat) (k:List aq),yd k->yd (gN stp body n k)
 |0,k,h=>h
 |n+1,k,h=>by
  unfold gN;split
  .exact xI n _ (sw body (k,jp) h)
  .exact sw body (k,jp) h
variable (hnew: ∀(k:List aq) (l:Lit),(stp k l).2=is->(stp k l).1∈ [l.left.var,l.right.var,l.bE]∧(stp k l).1∉k)
include hnew
theorem Em{c:List aq}: ∀{body:List Lit} {a:List aq×Bool},(∀l∈body,∀v∈ [l.left.var,l.right.var,l.bE],v∈c)->
  cH c (body.foldl (gS stp) a).1<=cH c a.1∧((body.foldl (gS stp) a).2=is->a.2=is∨cH c (body.foldl (gS stp) a).1<cH c a.1)
 | [],a,_=>⟨VA _,fun h=> .inl h⟩
 |l::r,a,hc=>by
  have h1:cH c (gS stp a l).1<=cH c a.1∧((gS stp a l).2=is->a.2=is∨cH c (gS stp a l).1<cH c a.1):=by
   unfold gS;split
   .rename_i h;obtain⟨g1,g2⟩:=hnew _ _ h;have:=qX (hc l VG _ g1) g2;exact⟨by dsimp only;omega,fun _=> .inr this⟩
   .exact⟨VA _,fun h=> .inl h⟩
  obtain⟨g1,g2⟩:=Em (body:=r) (a:=gS stp a l) fun l hl=>hc l (VE _ hl);rw[Ws];refine⟨by omega,fun h=>?_⟩;rcases g2 h with g3|g3
  .rcases h1.2 g3 with g4|g4
   .exact .inl g4
   .exact .inr (by omega)
  .exact .inr (by omega)
theorem IA{body:List Lit}: ∀(n:Nat) (k:List aq),cH (bU body) k<n-> ∀l∈body,(stp (gN stp body n k) l).2=jp
 |0,k,h,_,_=>by omega
 |n+1,k,h,l,hl=>by
  unfold gN;cases hr:(gR stp body k).2 with
  |true=>
   rw[am Z];refine IA n _ ?_ l hl;obtain⟨_,g2⟩:=Em hnew (c:=bU body) (body:=body) (a:=(k,jp)) fun l hl v j=>xY hl j;rcases g2 hr with g3|g3
   .cases g3
   .unfold gR;dsimp only at g3;omega
  |false=>
   rw[be (by simp)];obtain⟨g1,g2⟩:=Bx hr;unfold gR;rw[g1];exact g2 l hl
end
theorem oh{m1:Expr->Bool}{m2:gJ->Bool}{occ:List aq}: ∀{l:List Lit},(∀x∈l,mD m1 m2 occ x=io)->b5 m1 m2 occ l=io
 | [],_=>rfl
 |y::r,h=>by
  simp only[b5,h y VG];exact oh fun x j=>h x (VE _ j)
section
variable {stp:List aq->Lit->aq×Bool} {may:List aq->Expr->Bool} {more:List aq->gJ->Bool} {body:List Lit}
variable (hE: ∀(k:List aq) (l:Lit),mD (may k) (more k) k l=if(stp k l).2=is then co (stp k l).1 else io)
variable (hmay: ∀a b:List aq,(∀x∈a,x∈b)-> ∀e,may a e=is->may b e=is) (hmore: ∀a b:List aq,(∀x∈a,x∈b)-> ∀e,more a e=is->more b e=is)
include hE
theorem Ld(k:List aq)(l:Lit)(h:(stp k l).2=is):(stp k l).1∈ [l.left.var,l.right.var,l.bE]∧(stp k l).1∉k:=by
 have:=hE k l;rw[am h]at this;exact u3 this
include hmay hmore
theorem Iy{C:List aq}(hC: ∀l∈body,mD (may C) (more C) C l=io): ∀(b:List Lit) (a:List aq×Bool),(∀l∈b,l∈body)->(∀x∈a.1,x∈C)-> ∀x∈(b.foldl (gS stp) a).1,x∈C
 | [],a,_,h,x,hx=>h x hx
 |l::r,a,hb,h,x,hx=>by
  rw[Ws]at hx;refine Iy hC r _ (fun l hl=>hb l (VE _ hl)) (fun y j=>?_) x hx;unfold gS at j;split at j
  .rename_i hs;rcases dz.1 j with j|rfl
   .exact h y j
   .have:=hE a.1 l;rw[am hs]at this;exact D0 hmay hmore h this (hC l (hb l VG))
  .exact h y j
theorem Iz{C:List aq}(hC: ∀l∈body,mD (may C) (more C) C l=io): ∀(n:Nat) (k:List aq),(∀x∈k,x∈C)-> ∀x∈gN stp body n k,x∈C
 |0,k,h,x,hx=>h x hx
 |n+1,k,h,x,hx=>by
  unfold gN at hx;have j:=Iy hE hmay hmore hC body (k,jp) (fun _ h=>h) h;split at hx
  .exact Iz hC n _ j x hx
  .exact j x hx
theorem Ae{k occ:List aq}(hk: ∀x,x∈k↔x∈occ++body.flatMap bw)(x:aq):x∈gN stp body (3*body.length+1) k↔x∈b7 may more body occ:=by
 constructor
 .refine Iz hE hmay hmore (C:=b7 may more body occ) (oi (tp occ)) _ _ (fun y j=>?_) x;exact ov _ _ y ((hk y).1 j)
 .refine ou hmay hmore (C:=gN stp body (3*body.length+1) k) (oh fun l hl=>?_) _ _ (fun y j=>IB _ _ y ((hk y).2 j)) x;have h1:=qY (bU body) k;have u:=jZ body;rw[hE,IA (Ld hE) _ _ (by omega) l hl,be (by simp)]
end
theorem A6{x:aq}: ∀{l:List Lit} {a:List aq},x∈l.foldl Fo a↔x∈a∨x∈l.flatMap bw
 | [],a=>by simp
 |t::r,a=>by
  rw[Ws,A6,Wt,VM];by_cases hk:t.kind=1
  .rw[show Fo a t=oD a (rI t.atom) from am hk,show bw t=cR t.atom from am hk,s4,yO,or_assoc]
  .rw[show Fo a t=a from be hk,show bw t=[] from be hk];simp
theorem sW: ∀(l:List Lit) (a:List aq),yd a->yd (l.foldl Fo a)
 | [],a,h=>h
 |t::r,a,h=>by
  rw[Ws];refine sW r _ ?_;unfold Fo;split
  .exact nJ h
  .exact h
theorem HN(k:List aq)(l:Lit):mD (cz k) (fun _=>jp) k l=if(lh l k).2=is then co (lh l k).1 else io:=by
 unfold mD;rw[be (c:=l.kind=4∧_) (fun h=>Bool.noConfusion h.2.2)];have:(if(gv (cz k) k l).2=is then co (gv (cz k) k l).1 else io)=if(lh l k).2=is then co (lh l k).1 else io:=by
  unfold gv lh cz;split
  .rfl
  .by_cases j:l.left.kind=1<;>by_cases a2:l.right.kind=1<;>by_cases a3:l.left.kind=2<;>by_cases a4:l.right.kind=2<;>cases a5:dR k l.left.var<;>cases a6:dR k l.right.var<;>simp_all
 exact this
theorem xh(body:List Lit): ∀(n:Nat) (k:List aq),uQ body n k=gN (fun k l=>lh l k) body n k
 |0,k=>rfl
 |n+1,k=>by
  rw[AG,xh body n];rfl
theorem told_plain(r:aw):fu (aL (ph r))=lu r:=by
 unfold lu;rw[xh];refine GC (xI _ _ (sW _ _ XB)) fun x=>?_;exact(Ae (may:=fun j=>cz j) (more:=fun _=>fun _=>jp) HN AI (fun _ _ _ _ h=>h) (fun y=>by rw[A6];simp) x).symm
end
end Go.Proofs.YtlmhfgbkchnfbaaGreatDoor
namespace Go.Proofs
open Go.Shelf
def Tryz.Bg:Go.Shelf.Ren:=⟨fun|190=>129|125=>108|258=>191|128=>146|129=>147|302=>229|303=>230|304=>231|305=>232|306=>233|307=>234|308=>235|309=>236|310=>237|333=>254|329=>196|330=>197|334=>255|335=>256|336=>257|344=>265|n=>n,fun|31=>199|9=>9|3=>3|46=>140|0=>0|51=>83|53=>104|4=>4|183=>251|182=>250|131=>255|5=>5|218=>296|222=>300|228=>343|229=>344|n=>n,fun|n=>n⟩
theorem Tryz.D7:Go.Proofs.Lays.n190 Tryz.prog Tryz.Bg:={
 mixed:=by kernel_rfl
 f125:=Tryz.func108.trans (congrArg co (by kernel_rfl))
 f128:=Tryz.func146.trans (congrArg co (by kernel_rfl))
 f129:=Tryz.func147.trans (congrArg co (by kernel_rfl))
 f190:=Tryz.func129.trans (congrArg co (by kernel_rfl))
 f258:=Tryz.func191.trans (congrArg co (by kernel_rfl))
 f302:=Tryz.func229.trans (congrArg co (by kernel_rfl))
 f303:=Tryz.func230.trans (congrArg co (by kernel_rfl))
 f304:=Tryz.func231.trans (congrArg co (by kernel_rfl))
 f305:=Tryz.func232.trans (congrArg co (by kernel_rfl))
 f306:=Tryz.func233.trans (congrArg co (by kernel_rfl))
 f307:=Tryz.func234.trans (congrArg co (by kernel_rfl))
 f308:=Tryz.func235.trans (congrArg co (by kernel_rfl))
 f309:=Tryz.func236.trans (congrArg co (by kernel_rfl))
 f310:=Tryz.func237.trans (congrArg co (by kernel_rfl))
 f329:=Tryz.func196.trans (congrArg co (by kernel_rfl))
 f330:=Tryz.func197.trans (congrArg co (by kernel_rfl))
 f333:=Tryz.func254.trans (congrArg co (by kernel_rfl))
 f334:=Tryz.func255.trans (congrArg co (by kernel_rfl))
 f335:=Tryz.func256.trans (congrArg co (by kernel_rfl))
 f336:=Tryz.func257.trans (congrArg co (by kernel_rfl))
 f344:=Tryz.func265.trans (congrArg co (by kernel_rfl))
 t0:=Tryz.underlying0
 a0:=Tryz.isAgg0
 z0:=Tryz.sizeOf0
 v0:=Tryz.zeroValue0
 t3:=Tryz.underlying3
 a3:=Tryz.isAgg3
 z3:=Tryz.sizeOf3
 v3:=Tryz.zeroValue3
 t4:=Tryz.underlying4
 a4:=Tryz.isAgg4
 z4:=Tryz.sizeOf4
 v4:=Tryz.zeroValue4
 t5:=Tryz.underlying5
 a5:=Tryz.isAgg5
 z5:=Tryz.sizeOf5
 v5:=Tryz.zeroValue5
 t9:=Tryz.underlying9
 a9:=Tryz.isAgg9
 z9:=Tryz.sizeOf9
 v9:=Tryz.zeroValue9
 t31:=Tryz.underlying199
 a31:=Tryz.isAgg199
 z31:=Tryz.sizeOf199
 v31:=Tryz.zeroValue199
 t46:=Tryz.underlying140
 a46:=Tryz.isAgg140
 z46:=Tryz.sizeOf140
 v46:=Tryz.zeroValue140
 t51:=Tryz.underlying83
 a51:=Tryz.isAgg83
 z51:=Tryz.sizeOf83
 v51:=Tryz.zeroValue83
 t53:=Tryz.underlying104
 a53:=Tryz.isAgg104
 z53:=Tryz.sizeOf104
 v53:=Tryz.zeroValue104
 t131:=Tryz.underlying255
 a131:=Tryz.isAgg255
 z131:=Tryz.sizeOf255
 v131:=Tryz.zeroValue255
 t182:=Tryz.underlying250
 a182:=Tryz.isAgg250
 z182:=Tryz.sizeOf250
 v182:=Tryz.zeroValue250
 t183:=Tryz.underlying251
 a183:=Tryz.isAgg251
 z183:=Tryz.sizeOf251
 v183:=Tryz.zeroValue251
 t218:=Tryz.underlying296
 a218:=Tryz.isAgg296
 z218:=Tryz.sizeOf296
 v218:=Tryz.zeroValue296
 t222:=Tryz.underlying300
 a222:=Tryz.isAgg300
 z222:=Tryz.sizeOf300
 v222:=Tryz.zeroValue300
 t228:=Tryz.underlying343
 a228:=Tryz.isAgg343
 z228:=Tryz.sizeOf343
 v228:=Tryz.zeroValue343
 t229:=Tryz.underlying344
 a229:=Tryz.isAgg344
 z229:=Tryz.sizeOf344
 v229:=Tryz.zeroValue344}
theorem YtlmhfgbkchnfbaaGreatDoor.OJ:YtlmhfgbkchnfbaaGreatDoor.fx:=
 ⟨fun x b0 a0 y w hH j u=>Any.slices_Sort_string Tryz.D7 x b0 a0 y w hH j u,fun p a0 w=>Any.slices_Sort_string_none Tryz.D7 p a0 w⟩
end Go.Proofs
namespace Go.Proofs.YtlmhfgbkchnfbaaGreatDoor
open Go Go.Al
theorem im{α:Type}[Inhabited α]{f:α->List IV}(h: ∀x,dt ((f x).map .iv)=is)(l:List α):allOnes ((V0 l.length).map fun k=>(f (l.getD k ci)).map PV.iv)=is:=by rw[yq];exact eO h l
def Prog.size(p:Prog):Nat:=p.aD.length+(p.aD.map fun d=>d.types.length).sum+p.rules.length+(p.rules.map aw.size).sum
theorem oG{α:Type}[Inhabited α](f:α->Nat): ∀(l:List α) (i:Nat),i<l.length->f (l.getD i ci)<=(l.map f).sum
 |x::r,0,_=>by simp
 |x::r,i+1,h=>by
  have:=oG f r i (by simpa using h);simp only[WQ,Vy,WU];omega
theorem fG{α:Type}(i sz n u:Nat)(l:List α)(f:α->List IV):(aV u l f).lO i sz n:=by
 intro k e j p A B;rw[Vv,Vw]at A;obtain⟨x,_,rfl⟩:=A;rw[Vv,Vw]at B;obtain⟨y,_,rfl⟩:=B;exact⟨y,rfl⟩
theorem UT(r:aw)(hb:r.size<=10000000):Pure Tryz.prog 102 [ag r.c] (.iv (strs (lu r))):=told_plain r▸c33 OJ r hb
end Go.Proofs.YtlmhfgbkchnfbaaGreatDoor
namespace Go.Proofs.YtlmhfgbkchnfbaaGreatDoor
open Go.Proofs.Tryz
open Go
section
set_option maxHeartbeats 2000000
theorem Ee: ∃j,prog.info? 184=co j∧j.size=2:=by
 have h:(prog.info? 184).map (fun i=>i.size)=co 2:=by kernel_rfl
 rw[Vw]at h;exact h
theorem Mi:liesAt prog prog.depth 186 (4/prog.cellsOf 186) 0 184 1=is:=by kernel_rfl
theorem MS(b:Nat)(w:World)(h0:w.cell? ⟨b,0,io⟩=co (.pointer (co ⟨b,0,io⟩))):
  Calls prog 169 #[.pointer (co ⟨b,0,io⟩)] w fun e x=>e= .returned (.tuple #[])∧x=w:=by
 obtain⟨j,u,_⟩:=Ee
 go_enter func169,ntmps169
 go_wp2
 rw[Lib.run_neq_ptr_same w _ underlying182 u]
 go_wp2
 go_end0
 exact⟨rfl,rfl⟩
theorem Jj(b:Nat)(w:World)(h0:w.cell? ⟨b,0,io⟩=co (.pointer io))(u:w.shape? b=co (186,4))(A:w.frozen? ⟨b,0,io⟩=jp):
  Calls prog 169 #[.pointer (co ⟨b,0,io⟩)] w fun e B=>e= .returned (.tuple #[])∧B=w.setCell ⟨b,0,io⟩ (.pointer (co ⟨b,0,io⟩)):=by
 obtain⟨j,y,x⟩:=Ee
 go_enter func169,ntmps169
 go_wp2
 rw[Lib.run_to_unsafe w ⟨b,0,io⟩ underlying182 underlying309 y (by rw[x];decide) u (by show 0<4;decide)];simp only[Result.andThen];rw[Oper.upon_value]
 go_wp2
 rw[run_callFunc_extern func209 (by kernel_rfl) (by kernel_rfl) (by kernel_rfl) (e:=Extern.AbiNoEscape.same) (by kernel_rfl)];rw[Lib.run_noEscape];simp only[Result.andThen];rw[Oper.upon_value]
 go_wp2
 rw[Lib.run_from_unsafe w ⟨b,0,io⟩ underlying309 underlying182 y u Mi];simp only[Result.andThen];rw[Oper.upon_value]
 go_wp2
 go_end0
 exact⟨rfl,rfl⟩
theorem Rl:prog.cellsOf 5=1:=by kernel_rfl
theorem MW(b g cap:Nat)(p x y:Value)(u:Array Value)(l:List UInt8)(w:World)(D:w.heap[b]? =co (.cells #[p,.slice (co ⟨g,0,io⟩) l.length cap,x,y] 186 (0,0)))(hg:w.heap[g]? =co (.cells u 5 (0,0)))
  (hl:l.length<=u.size) (J:l.length<=cap) (G:cap<=maxLen) (B: ∀(j:Nat) (x:UInt8),l[j]? =co x->u.getD j undef= .int .u8 (x.toNat:Int)) (h0:l≠ []):
  Calls prog 125 #[.pointer (co ⟨b,0,io⟩)] w fun e w'=>e= .returned (.string ⟨l.toArray⟩)∧w'=w.drew.freeze ⟨g,0,io⟩ l.length:=by
 have c0:l.length≠0:=by simpa using h0
 have c1:w.drew.cell? ⟨b,1,io⟩=co (.slice (co ⟨g,0,io⟩) l.length cap):=by
  have:w.drew.heap[b]? =co (.cells #[p,.slice (co ⟨g,0,io⟩) l.length cap,x,y] 186 (0,0)):=D;rw[Lib.cell_of_heap this];rfl
 have a0:(Builtin.unsafeSliceData_ #[38] 275 #[.slice (co ⟨g,0,io⟩) l.length cap]).run prog w.drew= .ok (.pointer (co ⟨g,0,io⟩)) w.drew:=
  Lib.run_unsafeSliceData_row _ _ _ _ _ _ (by omega)
 have b0:(Builtin.unsafeString_ #[275,3] 9 #[.pointer (co ⟨g,0,io⟩),.int .i64 l.length]).run prog w.drew= .ok (.string ⟨l.toArray⟩) (w.drew.freeze ⟨g,0,io⟩ l.length):=by
  refine Lib.run_unsafeString_row w.drew 275 3 9 5 underlying275 Rl g u.size (by have A:w.drew.heap[g]? =co (.cells u 5 (0,0)):=hg;simp[World.shape?,A]) l h0 (by omega) (by unfold maxLen at G;omega) ?_;intro j x Y;have C:j<u.size:=by have:=(Vs.1 Y).1;omega
  have:=B j x Y;rw[Vn,V6 C]at this;show w.drew.cell? _=_;have A:w.drew.heap[g]? =co (.cells u 5 (0,0)):=hg;rw[Al.cY,VL];simp only[World.cell?,A];simpa[C]using this
 have I:prog.follows .mixedOrders=is:=rfl
 go_enter func125,ntmps125
 go_wp2
 go_region_o
 all_goals(go_wp2;go_ret;exact⟨rfl,rfl⟩)
theorem Rn(b:Nat)(p x y:Value)(w:World)(j:w.heap[b]? =co (.cells #[p,.slice io 0 0,x,y] 186 (0,0))):
  Calls prog 125 #[.pointer (co ⟨b,0,io⟩)] w fun e C=>e= .returned (.string ⟨#[]⟩)∧C=w.drew:=by
 have B:(W:World)->(Builtin.unsafeString_ #[275,3] 9 #[.pointer io,.int .i64 0]).run prog W= .ok (.string .empty) W:=fun W=>Lib.run_unsafeString_none W _ _ _ io
 have c1:w.drew.cell? ⟨b,1,io⟩=co (.slice io 0 0):=by
  have:w.drew.heap[b]? =co (.cells #[p,.slice io 0 0,x,y] 186 (0,0)):=j;rw[Lib.cell_of_heap this];rfl
 have A:(Builtin.unsafeSliceData_ #[38] 275 #[.slice io 0 0]).run prog w.drew= .ok (.pointer io) w.drew:=rfl;have u:prog.follows .mixedOrders=is:=rfl
 go_enter func125,ntmps125
 go_wp2
 go_region_o
 all_goals(go_wp2;go_ret;exact⟨rfl,rfl⟩)
end
end Go.Proofs.YtlmhfgbkchnfbaaGreatDoor
namespace Go.Proofs.YtlmhfgbkchnfbaaGreatDoor
open Go Go.Al Go.Proofs.Tryz
def LZ(c:Nat):Bool:=(kw (97<=c)&&kw (c<=122))||((kw (65<=c)&&kw (c<=90))||((kw (48<=c)&&kw (c<=57))||decide (c=95)))
def okB(b:UInt8):Bool:=LZ b.toNat
def hd(s:aq):Int:=((s.data.toList.getD 0 0).toNat:Int)
def qy(s:aq)(j hi:Int):Bool:=!kw (s=⟨#[]⟩)&&(kw (s.size<=32)&&(kw (j<=hd s)&&(kw (hd s<=hi)&&s.data.toList.all okB)))
theorem HH{c:Nat}(h:LZ c=is):c<128:=by
 simp only[LZ,Xz,Wf,decide_eq_true_eq]at h;omega
theorem Lk{s:aq}(h: ¬s=⟨#[]⟩):0<s.size:=by
 refine Nat.pos_of_ne_zero fun j=>h ?_;have:s.data= #[]:=WJ j;cases s;simp_all
theorem U4(c:Nat):Pure prog 208 [.iv (.v (.int .i32 (c:Int)))] (pB (!LZ c)):=by
 refine ah ab func208 Z (by decide) ntmps208 Z (by simp) Z ?_
 repeat' (first|(refine gA Z (zI (fun _=>?_) (fun _=>?_)))|(refine gA Z (zL (.of_eq ?_))))
 all_goals(refine(nV ?_:pB _=pB _))
 all_goals(simp only[XO,Yr,decide_eq_true_eq,decide_eq_false_iff_not] at*;rw[WR];simp[LZ];omega)
theorem I2{s:aq}{i:Nat}(h:i<s.size)(hb:okB (s.data.toList.getD i 0)=is):Utf8.decode s i=((s.data.toList.getD i 0).toNat,1):=by
 have j:(s[i]'h)=s.data.toList.getD i 0:=by
  have:i<s.data.toList.length:=by simpa using h
  rw[Vr,Vt this];simp;rfl
 have:=decode_ascii s i h (by rw[j];exact HH hb);rw[this,j]
theorem Ri{s:aq}{i:Nat}(h:i<s.size)(hb:okB (s.data.toList.getD i 0)=jp):LZ (Utf8.decode s i).1=jp:=by
 by_cases h1:(s.data.toList.getD i 0).toNat<128
 .have j:(s[i]'h)=s.data.toList.getD i 0:=by
   have:i<s.data.toList.length:=by simpa using h
   rw[Vr,Vt this];simp;rfl
  have:=decode_ascii s i h (by rw[j];exact h1);rw[this,j];exact hb
 .have j:(s.get! (i+0)).toNat=(s.data.toList.getD i 0).toNat:=by
   have:i<s.data.toList.length:=by simpa using h
   rw[Vr,Vt this];simp[ByteArray.get!,getElem!_pos,h]
  have:128<=(Utf8.decode s i).1:=by
   simp only[Utf8.decode,j,be h1]
   repeat' split
   all_goals(dsimp only[Utf8.runeError];(try simp only[Wf,decide_eq_true_eq] at*);omega)
  cases hk:LZ (Utf8.decode s i).1 with
  |false=>rfl
  |true=>have:=HH hk;omega
def EI(s:aq):Int:=qk (fun b=>!okB b) s.data.toList
theorem d217(s:aq):bg prog 259 [pS s,.cm (.func 208) [] [],pB is] [] (pI (EI s)) [] 0:=by
 have A:s.data.toList.length=s.size:=by simp
 refine aj ab func259 Z (by decide) ntmps259 Z (by simp) ?_;refine gA Z ?_;refine xG ab Z Z Z Z Z Z Z ?_;refine gA Z ?_;refine aM 0 s.size (VB _) (fun i=>⟨[(0,pS s),(1,.cm (.func 208) [] []),(2,pB is),(10,.ptr 0 0)],[(0,co (.ef s i))],1⟩) (fun i=>(s.data.toList.take i).any (fun b=>!okB b)=jp) [] (by simp)
  (zW ⟨⟨_,rfl,.of_eq Z⟩,Vm Z,ac,ac⟩) fun i B x=>?_
 refine gA Z ?_;refine lY Z Z Z Z Z Z (fun h1=>?_) (fun h1=>?_)
 .have j:s.data.toList.length<=i:=by omega
  rw[EI,gi (any_none x j)];refine gA Z (zD [] Z (zW ac))
 .have u:i<s.data.toList.length:=by omega
  have y:s.data.toList.getD i ci=s.data.toList.getD i 0:=rfl;refine gA Z (zp (U4 (Utf8.decode s i).1) ?_);refine zJ Z Z (fun j=>?_) fun j=>?_
  .have j:LZ (Utf8.decode s i).1=jp:=by simpa using j
   have hb:okB (s.data.toList.getD i 0)=jp:=by
    cases hk:okB (s.data.toList.getD i 0) with
    |false=>rfl
    |true=>
     rw[I2 h1 hk]at j;exact absurd (hk.symm.trans j) (by simp)
   rw[EI,iz x u (by rw[y,hb];rfl)];refine gA Z (zD [] Z (zW ac))
  .have j:LZ (Utf8.decode s i).1=is:=by simpa using j
   have hb:okB (s.data.toList.getD i 0)=is:=by
    cases hk:okB (s.data.toList.getD i 0) with
    |true=>rfl
    |false=>exact absurd ((Ri h1 hk).symm.trans j) (by simp)
   have hd:=I2 h1 hb;refine gA Z ⟨h1,(cW x u).2 (by rw[y,hb];rfl),[],zW ⟨⟨_,rfl,.of_eq (by rw[hd];rfl)⟩,Vm Z,ac,ac⟩⟩
theorem Na(l:List UInt8):(l.any fun b=>!okB b)=!l.all okB:=by
 induction l with
 |nil=>rfl
 |cons x r ih=>simp only[YU,List.all_cons,ih];cases okB x<;>rfl
theorem d203(s:aq):bg prog 242 [pS s,.cm (.func 208) [] []] [] (pI (EI s)) [] 0:=by
 refine aj ab func242 Z (by decide) ntmps242 Z (by simp) ?_;refine gA Z (zq [] (d217 s) ?_);refine gA Z (zD [] Z (zW ac))
theorem d180(s:aq):bg prog 207 [pS s,.cm (.func 208) [] []] [] (pB (!s.data.toList.all okB)) [] 0:=by
 refine aj ab func207 Z (by decide) ntmps207 Z (by simp) ?_;refine gA Z (zq [] (d203 s) ?_);refine gA Z (zD [] Z (zM ⟨.of_eq (nV ((iA _ _).trans (Na _))),rfl,ac⟩ ac))
theorem TR(s:aq)(y hi:Int):Pure prog 168 [pS s,.iv (.v (.int .u8 y)),.iv (.v (.int .u8 hi))] (pB (qy s y hi)):=by
 refine ah ab func168 Z (by decide) ntmps168 Z (by simp) Z ?_;refine zE Z Z (fun h1=>?_) fun h1=>?_
 .have h1:s=⟨#[]⟩:=zT h1;refine gA Z (zL (.of_eq ?_));refine(nV ?_:pB _=pB _);subst h1;rfl
 have h1: ¬s=⟨#[]⟩:=zF h1;have A:=Lk h1;refine zE Z Z (fun j=>?_) fun j=>?_
 .have j:32<s.size:=zN j;refine gA Z (zL (.of_eq ?_));refine(nV ?_:pB _=pB _);have: ¬s.size<=32:=by omega
  simp[qy,this]
 have j:s.size<=32:=by have:=zF j;omega
 refine zE Z Z (fun u=>?_) fun u=>?_
 .have u:hd s<y:=zT u;refine gA Z (zL (.of_eq ?_));refine(nV ?_:pB _=pB _);have: ¬y<=hd s:=by omega
  simp[qy,this]
 have u:y<=hd s:=by have: ¬hd s<y:=zF u;omega
 refine zJ Z Z (fun x=>?_) fun x=>?_
 .have x:hi<hd s:=zT x;refine gA Z (zL (.of_eq ?_));refine(nV ?_:pB _=pB _);have: ¬hd s<=hi:=by omega
  simp[qy,this]
 have x:hd s<=hi:=by have: ¬hd s>hi:=zF x;omega
 refine gA Z (zq [] (d180 s) ?_);refine gA Z (zL (.of_eq ?_));refine(nV ?_:pB _=pB _);simp[qy,h1,j,u,x]
def Tc:List aq:=[⟨#[114,101,108,97,116,105,111,110]⟩,⟨#[110,111,116]⟩,⟨#[110,117,109]⟩,⟨#[115,121,109]⟩,⟨#[109,111,100]⟩,⟨#[99,111,117,110,116]⟩,⟨#[115,117,109]⟩,⟨#[109,105,110]⟩,⟨#[109,97,120]⟩]
def Td(s:aq):Bool:=Tc.any fun x=>kw (s=x)
def fM(s:aq):Bool:=!Td s&&qy s 97 122
def fX(s:aq):Bool:=qy s 65 90
theorem De(s:aq):Pure prog 170 [pS s] (pB (fX s)):=by
 refine ah ab func170 Z (by decide) ntmps170 Z (by simp) Z ?_;refine gA Z (zp (TR s 65 90) ?_);exact zU Z
theorem TP(s:aq):Pure prog 121 [pS s] (pB (fM s)):=by
 refine ah ab func121 Z (by decide) ntmps121 Z (by simp) Z ?_
 repeat' (first|(refine gA Z (zI (fun _=>?_) (fun _=>?_)))|(refine gA Z (zp (TR s 97 122) ?_))|(refine gA Z (zL (.of_eq ?_))))
 all_goals(refine(nV ?_:pB _=pB _))
 all_goals(simp only[fM,Td,Tc,YU,List.any_nil, *];rfl)
theorem U8(v:cN):Pure prog 152 [ag v.c] (pB (!kw (bV v=0))):=by
 refine ah ab func152 Z (by decide) ntmps152 Z (by simp) Z ?_;refine gA Z (zp (TQ v) ?_);exact zU Z
theorem i182(l:List cN):bg prog 202 [.iv (a7 3 l cN.c),.cm (.func 152) [] []] [] (pI (qk (fun x:cN=>!kw (bV x=0)) l)) [] 0:=by
 refine qn (bb func202 Z (by decide)) ⟨_,_,VG⟩ fun u=>?_;simp only[maxLen]at u;refine aj ab func202 Z (by decide) ntmps202 Z (by simp) ?_;refine gA Z ?_
 refine aM 0 l.length (VB _) (fun i=>⟨[(0,.iv (a7 3 l cN.c)),(1,.cm (.func 152) [] []),(7,pI l.length),(8,pI i)],[],0⟩) (fun i=>(l.take i).any (fun x:cN=>!kw (bV x=0))=jp) [] (by simp)
  (zW trivial) fun i A y=>?_
 refine zJ Z Z (fun h1=>?_) fun h1=>?_
 .have h1:i<l.length:=by simpa using h1
  refine gA Z (zp (U8 (l.getD i ci)) ?_);refine zJ Z Z (fun j=>?_) fun j=>?_
  .have j:(fun x:cN=>!kw (bV x=0)) (l.getD i ci)=is:=j;rw[iz y h1 j];refine gA Z (zD [] Z (zW ac))
  .have j:(fun x:cN=>!kw (bV x=0)) (l.getD i ci)=jp:=j;refine gA Z ⟨h1,(cW y h1).2 j,[],zW ac⟩
 .have h1:l.length<=i:=by simpa using h1
  rw[gi (any_none y h1)];refine gA Z (zD [] Z (zW ac))
theorem d141(l:List cN):bg prog 151 [.iv (a7 3 l cN.c),.cm (.func 152) [] []] [] (pB (l.any (fun x:cN=>!kw (bV x=0)))) [] 0:=by
 refine aj ab func151 Z (by decide) ntmps151 Z (by simp) ?_;refine gA Z (zq [] (i182 l) ?_);refine gA Z (zD [] Z (zM ⟨.of_eq (nV (iA _ l)),rfl,ac⟩ ac))
def jF(f:Fact):Bool:=fM f.rel&&(kw (f.args.length<=8)&&f.args.all fun v=>kw (bV v=0))
theorem Jv(l:List cN):(l.any fun x:cN=>!kw (bV x=0))=!l.all fun v=>kw (bV v=0):=by
 induction l with
 |nil=>rfl
 |cons x r ih=>simp only[YU,List.all_cons,ih];cases kw (bV x=0)<;>rfl
theorem c98(l:List cN):Pure prog 112 [.iv (a7 3 l cN.c)] (pB (l.all fun v=>kw (bV v=0))):=by
 refine ah ab func112 Z (by decide) ntmps112 Z (by simp) Z ?_;refine gA Z (zq [] (d141 l) ?_);refine gA Z (zL (.of_eq ?_));refine(nV ?_:pB _=pB _);rw[Jv,Bool.not_not]
theorem c55(f:Fact):Pure prog 115 [ag f.c] (pI (if jF f then 0 else 20)):=by
 refine ah ab func115 Z (by decide) ntmps115 Z (by simp) Z ?_
 repeat' (first|(refine gA Z (zI (fun _=>?_) (fun _=>?_)))|(refine gA Z (zp (TP f.rel) ?_))|(refine gA Z (zp (c98 f.args) ?_))|(refine gA Z (zL (.of_eq ?_))))
 all_goals(refine(Gj ?_:pI _=pI _))
 all_goals(simp only[jF];simp_all)
 all_goals omega
section
theorem Rel.Cx{M:Mem}{N:Nm}{U:Nat->Prop}{h x:AH}{w:World}(hr:Rel M N U h w)(e: ∀i,AH.get x i=h.get i):Rel M N U x w:=
 ⟨hr.dA,fun i o u=>hr.used i o (by rw[<-e];exact u),fun i o u=>hr.dG i o (by rw[<-e];exact u),fun i o u=>hr.obj i o (by rw[<-e];exact u),fun i j o p u y=>hr.inj i j o p (by rw[<-e];exact u) (by rw[<-e];exact y)⟩
theorem Ext.Cx{M u:Mem}{N x:Nm}{U y:Nat->Prop}{h0 h A:AH}{w B:World}(j:Ext M N U h0 w u x y h B)(e: ∀i,AH.get A i=h.get i):Ext M N U h0 w u x y A B:=
 ⟨j.os,j.tape,j.output,j.size,j.gu,j.nZ,j.iq,j.nm,j.ule,fun i o C=>j.gh i o (by rw[<-e];exact C)⟩
structure WS where
 fr:Bool
 l:List UInt8
 bad:Bool
 br:Int
abbrev WS.qt(w:WS)(i j:Nat):AO:= .cells [.eL w.fr i,.sl j 0 w.l.length 1,pB w.bad,pI w.br] (co 186)
abbrev WS.c(w:WS):AO:=w.qt 0 1
abbrev WS.O(w:WS):List AO:=[w.c,.bu w.l 5]
abbrev WS.H(w:WS):AH:=[(0,co (w.qt 0 2)),(2,co (.bu w.l 5))]
theorem d204(w:WS):bg prog 169 [.ptr 0 0] w.O (.aZ []) [(0,co ({w with fr:=jp}:WS).c),(1,co (.bu w.l 5))] 2:=by
 refine⟨bb func169 Z (by decide),fun M N wd vs J A hv=>?_⟩;obtain⟨v,rfl⟩: ∃v,vs=[v]:=by
  cases vs with
  |nil=>cases A
  |cons v r=>cases r with
   |nil=>exact⟨v,rfl⟩
   |cons a b=>simp at A
 have Y:VR M N (· <2) (.ptr 0 0) v:=hv 0 _ Z;have a0:v= .pointer (co ⟨N.az 0,0,io⟩):=by cases Y;rfl
 subst a0;have G:AH.get (cF 0 w.O) 0=co w.c:=rfl;obtain⟨c,T,h1,h2,h3,h4,h5⟩:=J.obj 0 _ G;have hT:=h5 186 Z;subst hT;have B:c.size=4:=h3.symm;have b0:N.az 0<wd.heap.size:=(WC.1 h1).1;have I:c.getD 0 undef= .pointer (bif w.fr then io else co ⟨N.az 0,0,io⟩):=by
  have:=h4 0 _ Z;generalize c.getD 0 undef=x at this;cases this;rfl
 have u:wd.cell? ⟨N.az 0,0,io⟩=co (c.getD 0 undef):=by
  rw[Lib.cell_of_heap h1,Vn,V6 (by omega)];rfl
 rw[I]at u;show Calls prog 169 #[_] wd _;cases hfr:w.fr with
 |false=>
  rw[hfr]at u;refine(MS (N.az 0) wd u).mono ?_;rintro e w' ⟨rfl,rfl⟩;have hw:({w with fr:=jp}:WS)=w:=by cases w;simp_all
  rw[hw];exact⟨_,M,N,.aZ [],_,2,rfl,⟨rfl,rfl,rfl⟩,.refl _ _ _ _ _,J,.aZ [] #[] Z (by simp)⟩
 |true=>
  rw[hfr]at u;refine(Jj (N.az 0) wd u (by simp[World.shape?,h1,B]) (Lib.frozen_of_heap h1 0)).mono ?_;rintro e w' ⟨rfl,rfl⟩;have C:(wd.setCell ⟨N.az 0,0,io⟩ (.pointer (co ⟨N.az 0,0,io⟩))).heap[N.az 0]? =co (.cells (c.setIfInBounds 0 (.pointer (co ⟨N.az 0,0,io⟩))) 186 (0,0)):=by
   simp[World.setCell,VZ,h1]
  obtain⟨g1,g2⟩:=J.write (i:=0) (o0:=w.c) G Z (wd.setCell ⟨N.az 0,0,io⟩ (.pointer (co ⟨N.az 0,0,io⟩))) ({w with fr:=jp}:WS).c Z Z Z (by simp[World.setCell]) (fun b hb=>by
   simp only[World.setCell,VZ]
   rw[be (fun e=>hb e.symm)]) ⟨_,186,C,by simpa using h2,by simp[B],fun j p D=>by
    match j,D with
    |0,D=>
     cases D;rw[Vn,V1];simp only[if_true,B];exact .eL jp 0 (by show 0<2;decide)
    |j+1,D=>
     have:=h4 (j+1) p (by exact D);rw[Vn,V1,be (by omega)];rw[Vn]at this
     exact this,h5⟩
  have y: ∀i,AH.get [(0,co ({w with fr:=jp}:WS).c),(1,co (.bu w.l 5))] i=AH.get ((0,co ({w with fr:=jp}:WS).c)::cF 0 w.O) i:=by
   intro i
   match i with
   |0=>rfl
   |1=>rfl
   |i+2=>rfl
  exact⟨_,M,N,.aZ [],_,2,rfl,⟨rfl,rfl,rfl⟩,Ext.Cx g1 y,Rel.Cx g2 y,.aZ [] #[] Z (by simp)⟩
theorem d150(w:WS):bg prog 125 [.ptr 0 0] w.O (pS ⟨w.l.toArray⟩) [] 2:=by
 refine⟨bb func125 Z (by decide),fun M N wd vs hr D hv=>?_⟩;obtain⟨v,rfl⟩: ∃v,vs=[v]:=by
  cases vs with
  |nil=>cases D
  |cons v r=>cases r with
   |nil=>exact⟨v,rfl⟩
   |cons a b=>simp at D
 have k0:VR M N (· <2) (.ptr 0 0) v:=hv 0 _ Z;have m0:v= .pointer (co ⟨N.az 0,0,io⟩):=by cases k0;rfl
 subst m0;have j0:AH.get (cF 0 w.O) 0=co w.c:=rfl;have G:AH.get (cF 0 w.O) 1=co (.bu w.l 5):=rfl;obtain⟨c,T,h1,h2,h3,h4,h5⟩:=hr.obj 0 _ j0;have hT:=h5 186 Z;subst hT;have f0:c.size=4:=h3.symm;have c0: ∀(x1:Value),c.getD 1 undef=x1-> ∃p x y,c= #[p,x1,x,y]:=by
  intro x1 B;refine⟨c.getD 0 undef,c.getD 2 undef,c.getD 3 undef,?_⟩;apply Array.ext
  .simpa using f0
  .intro i u n0
   match i,u with
   |0,u=>simp[Vn,u]
   |1,u=>rw[<-B];simp[Vn,u]
   |2,u=>simp[Vn,u]
   |3,u=>simp[Vn,u]
   |i+4,u=>omega
 have A:=h4 1 _ Z;have I:=hr.obj 1 _ G;show Calls prog 125 #[_] wd _;by_cases hl:w.l=[]
 .have B:c.getD 1 undef= .slice io 0 0:=by
   generalize c.getD 1 undef=x at A;rw[hl]at A;generalize J:PV.sl 1 0 ([]:List UInt8).length 1=q at A;cases A with
   |sl i off len sz a0 h h0 h1 hc he=>cases J;simp at h0
   |kP i sz h=>rfl
   |_=>cases J
  obtain⟨p,x,y,rfl⟩:=c0 _ B;refine(Rn (N.az 0) p x y wd h1).mono ?_;rintro e w' ⟨rfl,rfl⟩;refine⟨.string ⟨#[]⟩,M,N,pS ⟨w.l.toArray⟩,[],2,rfl,⟨rfl,rfl,rfl⟩,?_,?_,.iv _ _ (by rw[hl];exact .v _)⟩
  .have:=Ext.drew (M:=M) (N:=N) (U:=(· <w.O.length)) (h:=cF 0 w.O) (w:=wd);exact⟨this.os,this.tape,this.output,this.size,this.gu,this.nZ,this.iq,this.nm,this.ule,fun i o u=>(nomatch u)⟩
  .exact⟨hr.drew.dA,fun i o u=>(nomatch u),fun i o u=>(nomatch u),fun i o u=>(nomatch u),fun i j o p u=>(nomatch u)⟩
 .have b0:0<w.l.length:=WD.2 hl;obtain⟨a0,B,Y,g0⟩: ∃a0,c.getD 1 undef= .slice (co ⟨N.az 1,0,io⟩) w.l.length a0∧w.l.length<=a0∧a0<=maxLen:=by
   generalize c.getD 1 undef=x at A;generalize hn:w.l.length=n at A b0;generalize J:PV.sl 1 0 n 1=q at A;cases A with
   |sl i off len sz a0 h h0 hl hc he=>cases J;exact⟨a0,by simp,hl,hc⟩
   |kP i sz h=>cases J;omega
   |_=>cases J
  rcases I with I|⟨e0,q1,q2,q3,q4⟩
  .exact absurd I hl
  obtain⟨p,x,y,rfl⟩:=c0 _ B;refine(MW (N.az 0) (N.az 1) a0 p x y e0 w.l wd h1 q1 q3 Y g0 q4 hl).mono ?_;rintro e w' ⟨rfl,rfl⟩;have d0:(AO.bu w.l 5).real=is:=by cases hll:w.l with
   |nil=>exact absurd hll hl
   |cons=>rfl
  have hk: ∀b,b≠N.az 1->(wd.drew.freeze ⟨N.az 1,0,io⟩ w.l.length).heap[b]? =wd.heap[b]? :=by
   intro b hb;unfold World.freeze;split
   .rfl
   .show(wd.heap.modify _ _)[b]? =_;simp only[VZ];rw[be (fun e=>hb e.symm)]
  have C:(wd.drew.freeze ⟨N.az 1,0,io⟩ w.l.length).os=wd.os∧(wd.drew.freeze ⟨N.az 1,0,io⟩ w.l.length).tape=wd.tape∧(wd.drew.freeze ⟨N.az 1,0,io⟩ w.l.length).output=wd.output∧(wd.drew.freeze ⟨N.az 1,0,io⟩ w.l.length).heap.size=wd.heap.size:=by
   unfold World.freeze;split
   .exact⟨rfl,rfl,rfl,rfl⟩
   .exact⟨rfl,rfl,rfl,by show(wd.heap.modify _ _).size=_;simp⟩
  refine⟨_,M,N,pS ⟨w.l.toArray⟩,[],2,rfl,⟨rfl,rfl,rfl⟩,?_,?_,.iv _ _ (.v _)⟩
  .exact⟨C.1,C.2.1,⟨C.2.2.1,by unfold World.freeze;split<;>exact Xx _⟩,by rw[C.2.2.2];exact VA _,fun b hb hn=>hk b fun e=>hn 1 _ G d0 e.symm,.refl _,fun b c h1 h2=>by simp[h1]at h2,.refl _ _,fun _ h=>h,fun i o u=>(nomatch u)⟩
  .refine⟨fun b d hb=>?_,fun i o u=>(nomatch u),fun i o u=>(nomatch u),fun i o u=>(nomatch u),fun i j o p u=>(nomatch u)⟩;have i0:b≠N.az 1:=fun e=>by
    have:=hr.dG 1 _ G d0;rw[<-e,hb]at this;cases this
   exact(hr.dA b d hb).mono (hk b i0)
section
variable {nt:NT} {Q:AQ} {k:List KI} {s:AS}
def wS(s:AS)(u:WS)(i j:Nat):AS:=match s with|⟨f,h,n⟩=>⟨f,(i,co (u.qt i n))::(n,co (.bu u.l 5))::(i,io)::(j,io)::h,n+1⟩
theorem RO(s:AS)(u:WS)(i j:Nat):wS s u i j=⟨s.f,(i,co (u.qt i s.nx))::(s.nx,co (.bu u.l 5))::(i,io)::(j,io)::s.h,s.nx+1⟩:=by cases s;rfl
def RN(s:AS)(u:WS)(i j m:Nat):AS:=match s with|⟨f,h,n⟩=>⟨f,(i,co (u.qt i n))::(n,co (.bu u.l 5))::(i,io)::(j,io)::(m,io)::h,n+1⟩
theorem Pc(s:AS)(u:WS)(i j m:Nat):RN s u i j m=⟨s.f,(i,co (u.qt i s.nx))::(s.nx,co (.bu u.l 5))::(i,io)::(j,io)::(m,io)::s.h,s.nx+1⟩:=by cases s;rfl
theorem zs{o:Oper}{c:Call}{g:FuncId}{args y:List PV}{w D:WS}{r:PV}{i j:Nat}{s':AS}(hc:bg prog g (.ptr 0 0::args) w.O r D.H 3)(ho:o.op= .call c)(ha:bN s.f c=co (g,.ptr i 0::y))
  (hi:s.h.get i=co (w.qt i j)) (hj:s.h.get j=co (.bu w.l 5)) (hlt:VV i s.nx=is) (hlj:VV j s.nx=is) (hne:VP i j=jp) (has:y=args) (hlow:bp 0 args=is) (hr:r.low 0=is)
  (hp:putDst nt o r (wS s D i j)=co s'):OT prog nt o s (fun t=>t=s'):=by
 have A:i≠j:=fun e=>by subst e;simp at hne
 have B:([i,j]:List Nat).Nodup:=by simp[A]
 have G: ∀x∈ [i,j],x<s.nx:=by
  intro x C;simp only[VH,Yl,or_false]at C;rcases C with rfl|rfl
  .exact Vm hlt
  .exact Vm hlj
 subst has;have u: ∀σ,c7 σ y=y:=fun σ=>ix σ y hlow;refine lj ho ha hc B G ?_ ?_ ?_
 .simp only[Vy,VQ,hi,hj];rfl
 .simp only[c7,u];rfl
 .rintro q I n0 ⟨rfl,rfl,rfl⟩;rw[PV.jN _ _ hr];rw[RO]at hp;exact⟨s',hp,rfl⟩
theorem CW{all rest:List Oper}{o:Oper}{c:Call}{g:FuncId}{args u:List PV}{w x:WS}{r:PV}{i j:Nat}{s':AS}(hc:bg prog g (.ptr 0 0::args) w.O r x.H 3)(ho:o.op= .call c)(hg:o.guard=io)(ha:bN s.f c=co (g,.ptr i 0::u))
  (hi:s.h.get i=co (w.qt i j)) (hj:s.h.get j=co (.bu w.l 5)) (hlt:VV i s.nx=is) (hlj:VV j s.nx=is) (hne:VP i j=jp) (has:u=args) (hlow:bp 0 args=is) (hr:r.low 0=is)
  (hp:putDst nt o r (wS s x i j)=co s') (h:GO prog nt (.ops all rest::k) Q s'):GO prog nt (.ops all (o::rest)::k) Q s:=
 bz hg (zs hc ho ha hi hj hlt hlj hne has hlow hr hp) fun t ht=>by subst ht;exact h
theorem iB{all rest:List Oper}{o:Oper}{c:Call}{g:FuncId}{args u:List PV}{w x:WS}{r:PV}{i j:Nat}{s':AS}(hc:bg prog g (.ptr 0 0::args) w.O r x.H 3)(h:GO prog nt (.ops all rest::k) Q s')(ho:o.op= .call c:=by exact rfl)(hg:o.guard=io:=by exact rfl)(ha:bN s.f c=co (g,.ptr i 0::u):=by exact rfl)(hi:s.h.get i=co (w.qt i j):=by exact rfl)(hj:s.h.get j=co (.bu w.l 5):=by exact rfl)(hlt:VV i s.nx=is:=by exact rfl)(hlj:VV j s.nx=is:=by exact rfl)(hne:VP i j=jp:=by exact rfl)(has:u=args:=by exact rfl)(hlow:bp 0 args=is:=by exact rfl)(hr:r.low 0=is:=by exact rfl)(hp:putDst nt o r (wS s x i j)=co s':=by exact rfl):GO prog nt (.ops all (o::rest)::k) Q s:=CW (hc:=hc) (ho:=ho) (hg:=hg) (ha:=ha) (hi:=hi) (hj:=hj) (hlt:=hlt) (hlj:=hlj) (hne:=hne) (has:=has) (hlow:=hlow) (hr:=hr) (hp:=hp) (h:=h)
theorem Dl{o:Oper}{c:Call}{g:FuncId}{u:List aq}{w y:WS}{i j m n:Nat}{s':AS}(hc:bg prog g [.ptr 0 0,.sl 2 0 u.length 1] [w.c,.bu w.l 5,aV 1 u c9] (.aZ []) [(0,co (y.qt 0 3)),(3,co (.bu y.l 5))] 4)(ho:o.op= .call c)(ha:bN s.f c=co (g,[.ptr i 0,.sl m 0 n 1]))
  (hi:s.h.get i=co (w.qt i j)) (hj:s.h.get j=co (.bu w.l 5)) (hm:s.h.get m=co (aV 1 u c9)) (hn:n=u.length) (hlt:VV i s.nx=is) (hlj:VV j s.nx=is) (hlm:VV m s.nx=is) (hnd:cA [i,j,m]=is)
  (hp:putDst nt o (.aZ []) (RN s y i j m)=co s'):OT prog nt o s (fun t=>t=s'):=by
 have B: ∀x∈ [i,j,m],x<s.nx:=by
  intro x A;simp only[VH,Yl,or_false]at A;rcases A with rfl|rfl|rfl
  .exact Vm hlt
  .exact Vm hlj
  .exact Vm hlm
 subst hn;refine lj ho ha hc (eE hnd) B ?_ Z ?_
 .simp only[Vy,VQ,hi,hj,hm,b3];rfl
 .rintro q C n0 ⟨rfl,rfl,rfl⟩;rw[Pc]at hp;exact⟨s',hp,rfl⟩
theorem go_wp{all rest:List Oper}{o:Oper}{c:Call}{g:FuncId}{u:List aq}{w x:WS}{i j m n:Nat}{s':AS}(hc:bg prog g [.ptr 0 0,.sl 2 0 u.length 1] [w.c,.bu w.l 5,aV 1 u c9] (.aZ []) [(0,co (x.qt 0 3)),(3,co (.bu x.l 5))] 4)(ho:o.op= .call c)(hg:o.guard=io)(ha:bN s.f c=co (g,[.ptr i 0,.sl m 0 n 1]))
  (hi:s.h.get i=co (w.qt i j)) (hj:s.h.get j=co (.bu w.l 5)) (hm:s.h.get m=co (aV 1 u c9)) (hn:n=u.length) (hlt:VV i s.nx=is) (hlj:VV j s.nx=is) (hlm:VV m s.nx=is) (hnd:cA [i,j,m]=is)
  (hp:putDst nt o (.aZ []) (RN s x i j m)=co s')
  (h:GO prog nt (.ops all rest::k) Q s'):GO prog nt (.ops all (o::rest)::k) Q s:=
 bz hg (Dl hc ho ha hi hj hm hn hlt hlj hlm hnd hp) fun t ht=>by subst ht;exact h
theorem jn{all rest:List Oper}{o:Oper}{c:Call}{g:FuncId}{u:List aq}{w x:WS}{i j m n:Nat}{s':AS}(hc:bg prog g [.ptr 0 0,.sl 2 0 u.length 1] [w.c,.bu w.l 5,aV 1 u c9] (.aZ []) [(0,co (x.qt 0 3)),(3,co (.bu x.l 5))] 4)(h:GO prog nt (.ops all rest::k) Q s')(ho:o.op= .call c:=by exact rfl)(hg:o.guard=io:=by exact rfl)(ha:bN s.f c=co (g,[.ptr i 0,.sl m 0 n 1]):=by exact rfl)(hi:s.h.get i=co (w.qt i j):=by exact rfl)(hj:s.h.get j=co (.bu w.l 5):=by exact rfl)(hm:s.h.get m=co (aV 1 u c9):=by exact rfl)(hn:n=u.length:=by exact rfl)(hlt:VV i s.nx=is:=by exact rfl)(hlj:VV j s.nx=is:=by exact rfl)(hlm:VV m s.nx=is:=by exact rfl)(hnd:cA [i,j,m]=is:=by exact rfl)(hp:putDst nt o (.aZ []) (RN s x i j m)=co s':=by exact rfl):GO prog nt (.ops all (o::rest)::k) Q s:=go_wp (hc:=hc) (ho:=ho) (hg:=hg) (ha:=ha) (hi:=hi) (hj:=hj) (hm:=hm) (hn:=hn) (hlt:=hlt) (hlj:=hlj) (hlm:=hlm) (hnd:=hnd) (hp:=hp) (h:=h)
theorem yY{all:List Oper}{todo pend:List (Nat×Oper)}{y:Nat}{C B:Prop}{o:Oper}{c:Call}{g:FuncId}{u:List aq}{w A:WS}{i j m n:Nat}{s':AS}(hc:bg prog g [.ptr 0 0,.sl 2 0 u.length 1] [w.c,.bu w.l 5,aV 1 u c9] (.aZ []) [(0,co (A.qt 0 3)),(3,co (.bu A.l 5))] 4)
  (hrd:dq todo=[(y,o)]) (ho:o.op= .call c) (ha:bN s.f c=co (g,[.ptr i 0,.sl m 0 n 1]))
  (hi:s.h.get i=co (w.qt i j)) (hj:s.h.get j=co (.bu w.l 5)) (hm:s.h.get m=co (aV 1 u c9)) (hn:n=u.length) (hlt:VV i s.nx=is) (hlj:VV j s.nx=is) (hlm:VV m s.nx=is) (hnd:cA [i,j,m]=is)
  (hp:putDst nt o (.aZ []) (RN s A i j m)=co s')
  (hg:bQ nt all s.f o=co is) (hpb:gC all pend o=is) (hE:mW todo [y]=is)
  (hag:lD pJ nt all s todo pend=co C) (hCA:C) (hag2:cX pJ nt all s' (aX pend o)=co B) (hC2:B)
  (h:GO prog nt (.bR all (todo.filter fun x=>!VP x.1 y) (aX pend o)::k) Q s'):GO prog nt (.bR all todo pend::k) Q s:=
 iC ab hrd hg hpb hE hag hCA (Dl hc ho ha hi hj hm hn hlt hlj hlm hnd hp) hag2 hC2 h
theorem Tv{all:List Oper}{todo pend:List (Nat×Oper)}{u:Nat}{A y:Prop}{o:Oper}{c:Call}{g:FuncId}{args B:List PV}{w C:WS}{r:PV}{i j:Nat}{s':AS}(hc:bg prog g (.ptr 0 0::args) w.O r C.H 3)
  (hrd:dq todo=[(u,o)]) (ho:o.op= .call c) (ha:bN s.f c=co (g,.ptr i 0::B))
  (hi:s.h.get i=co (w.qt i j)) (hj:s.h.get j=co (.bu w.l 5)) (hlt:VV i s.nx=is) (hlj:VV j s.nx=is) (hne:VP i j=jp) (has:B=args) (hlow:bp 0 args=is) (hr:r.low 0=is)
  (hp:putDst nt o r (wS s C i j)=co s')
  (hg:bQ nt all s.f o=co is) (hpb:gC all pend o=is) (hE:mW todo [u]=is)
  (hag:lD pJ nt all s todo pend=co A) (hCA:A) (hag2:cX pJ nt all s' (aX pend o)=co y) (hC2:y)
  (h:GO prog nt (.bR all (todo.filter fun x=>!VP x.1 u) (aX pend o)::k) Q s'):GO prog nt (.bR all todo pend::k) Q s:=
 iC ab hrd hg hpb hE hag hCA (zs hc ho ha hi hj hlt hlj hne has hlow hr hp) hag2 hC2 h
theorem wy{all:List Oper}{todo pend:List (Nat×Oper)}{u:Nat}{A y:Prop}{o:Oper}{c:Call}{g:FuncId}{args B:List PV}{w C:WS}{r:PV}{i j:Nat}{s':AS}(hc:bg prog g (.ptr 0 0::args) w.O r C.H 3)(h:GO prog nt (.bR all (todo.filter fun x=>!VP x.1 u) (aX pend o)::k) Q s')(hrd:dq todo=[(u,o)]:=by exact rfl)(ho:o.op= .call c:=by exact rfl)(ha:bN s.f c=co (g,.ptr i 0::B):=by exact rfl)(hi:s.h.get i=co (w.qt i j):=by exact rfl)(hj:s.h.get j=co (.bu w.l 5):=by exact rfl)(hlt:VV i s.nx=is:=by exact rfl)(hlj:VV j s.nx=is:=by exact rfl)(hne:VP i j=jp:=by exact rfl)(has:B=args:=by exact rfl)(hlow:bp 0 args=is:=by exact rfl)(hr:r.low 0=is:=by exact rfl)(hp:putDst nt o r (wS s C i j)=co s':=by exact rfl)(hg:bQ nt all s.f o=co is:=by exact rfl)(hpb:gC all pend o=is:=by exact rfl)(hE:mW todo [u]=is:=by exact rfl)(hag:lD pJ nt all s todo pend=co A:=by exact rfl)(hCA:A:=by(repeat' (first|exact ac|exact rfl|exact ae.refl _|exact ae.bk (by assumption)|apply Vo))<;>first|omega|(simp only[Vu];omega)|(simp;done)|(simp;omega))(hag2:cX pJ nt all s' (aX pend o)=co y:=by exact rfl)(hC2:y:=by(repeat' (first|exact ac|exact rfl|exact ae.refl _|exact ae.bk (by assumption)|apply Vo))<;>first|omega|(simp only[Vu];omega)|(simp;done)|(simp;omega)):GO prog nt (.bR all todo pend::k) Q s:=Tv (hc:=hc) (hrd:=hrd) (ho:=ho) (ha:=ha) (hi:=hi) (hj:=hj) (hlt:=hlt) (hlj:=hlj) (hne:=hne) (has:=has) (hlow:=hlow) (hr:=hr) (hp:=hp) (hg:=hg) (hpb:=hpb) (hE:=hE) (hag:=hag) (hCA:=hCA) (hag2:=hag2) (hC2:=hC2) (h:=h)
theorem xQ{l:List ResultVar}{r r0 a b c d:PV}{e:Exit}{u:WS}{j n:Nat}(he:e= .normal∨e= .ret)(hr:iL pJ s l=co r0)(hi:s.h.get 0=co (.cells [a,b,c,d] (co 186)))(ha:a= .eL u.fr 0)(hb:b= .sl j 0 n 1)(hn:n=u.l.length)(hc:ae c (pB u.bad))(hd:ae d (pI u.br))
  (hj:s.h.get j=co (.bu u.l 5)) (hlj:VV j s.nx=is) (hne:VP 0 j=jp) (hns:Xr 2 s.nx=is)
  (hrl:ae r0 r) (hlow:r.low 0=is) (hlow3:r.low 3=is):Dh pJ l 2 r u.H 3 e s:=by
 subst ha;subst hb;subst hn;refine ar [j] he hr ⟨rfl,Vm hns,fun x y=>?_,⟨?_,hlow3,ac⟩,⟨⟨_,hi,.cells ⟨.refl _,.refl _,hc,hd,ac⟩⟩,Vm Z,rfl,⟨.bu u.l 5,hj,.of_eq Z⟩,Vm Z,ac,ac⟩,?_⟩
 .simp only[Vz]at y;subst y;exact Vm hlj
 .rw[PV.jN _ _ hlow];exact hrl
 .have:(0:Nat)≠j:=fun e=>by subst e;simp at hne
  show([0,j]:List Nat).Nodup;simpa using this
theorem iZ{l:List ResultVar}{r r0 a b c d:PV}{e:Exit}{u:WS}{j n:Nat}(he:e= .normal∨e= .ret:=by first|exact .inr Z|exact .inl Z)(hr:iL pJ s l=co r0:=by exact rfl)(hi:s.h.get 0=co (.cells [a,b,c,d] (co 186)):=by exact rfl)(ha:a= .eL u.fr 0:=by exact rfl)(hb:b= .sl j 0 n 1:=by exact rfl)(hn:n=u.l.length:=by exact rfl)(hc:ae c (pB u.bad):=by first|exact .refl _|exact .kb _)(hd:ae d (pI u.br):=by first|exact .refl _|exact .kb _)(hj:s.h.get j=co (.bu u.l 5):=by exact rfl)(hlj:VV j s.nx=is:=by exact rfl)(hne:VP 0 j=jp:=by exact rfl)(hns:Xr 2 s.nx=is:=by exact rfl)(hrl:ae r0 r:=by exact .refl _)(hlow:r.low 0=is:=by exact rfl)(hlow3:r.low 3=is:=by exact rfl):Dh pJ l 2 r u.H 3 e s:=xQ (he:=he) (hr:=hr) (hi:=hi) (ha:=ha) (hb:=hb) (hn:=hn) (hc:=hc) (hd:=hd) (hj:=hj) (hlj:=hlj) (hne:=hne) (hns:=hns) (hrl:=hrl) (hlow:=hlow) (hlow3:=hlow3)
theorem JE{n0 j m:Nat}{C:AF}{w A:WS}{a b c d:PV}(hw:w=A)(hi:s.h.get 0=co (.cells [a,b,c,d] (co 186)))(ha:a= .eL w.fr 0)(hb:b= .sl j 0 m 1)(hm:m=w.l.length)(hc:ae c (pB w.bad))(hd:ae d (pI w.br))(hj:s.h.get j=co (.bu w.l 5))
  (hlj:VV j s.nx=is) (hne:VP 0 j=jp) (h0:VV 0 n0=is) (hns:Xr n0 s.nx=is) (hf:Gq (n0+1) (sg n0 [j]) s.f C):Wk n0 [j] s ⟨C,[(0,co (A.qt 0 n0)),(n0,co (.bu A.l 5))],n0+1⟩:=by
 subst hw;subst ha;subst hb;subst hm;have u:0<n0:=Vm h0;have s0:sg n0 [j] 0=0:=gm u;have D:VV n0 n0=jp:=Bool.eq_false_iff.2 fun e=>absurd (Vm e) (by omega);have G:VV 0 (n0+1)=is:=Wo (by omega);have I:VV n0 (n0+1)=is:=Wo (by omega);have y:sg n0 [j] n0=j:=by simp[sg,D]
 refine⟨rfl,Vm hns,fun x B=>?_,hf,⟨⟨_,by rw[s0];exact hi,?_⟩,W2 u,?_,⟨.bu w.l 5,by rw[y];exact hj,.of_eq Z⟩,Xa _,ac,ac⟩,?_⟩
 .simp only[Vz]at B;subst B;exact Vm hlj
 .simp only[AO.bY,c7,PV.bY,s0,y];exact .cells ⟨.refl _,.refl _,hc,hd,ac⟩
 .simp[AO.low,bp,PV.low,G,I]
 .have:(0:Nat)≠j:=fun e=>by subst e;simp at hne
  simp only[fg,s0,y];simpa using this
theorem qz{n0 j m:Nat}{x:AF}{w u:WS}{a b c d:PV}(hw:w=u)(hi:s.h.get 0=co (.cells [a,b,c,d] (co 186)):=by exact rfl)(ha:a= .eL w.fr 0:=by exact rfl)(hb:b= .sl j 0 m 1:=by exact rfl)(hm:m=w.l.length:=by exact rfl)(hc:ae c (pB w.bad):=by first|exact .refl _|exact .kb _)(hd:ae d (pI w.br):=by first|exact .refl _|exact .kb _)(hj:s.h.get j=co (.bu w.l 5):=by exact rfl)(hlj:VV j s.nx=is:=by exact rfl)(hne:VP 0 j=jp:=by exact rfl)(h0:VV 0 n0=is:=by exact rfl)(hns:Xr n0 s.nx=is:=by exact rfl)(hf:Gq (n0+1) (sg n0 [j]) s.f x:=by repeat' (first|exact ac|exact ae.refl _|exact rfl|apply Vo)):Wk n0 [j] s ⟨x,[(0,co (u.qt 0 n0)),(n0,co (.bu u.l 5))],n0+1⟩:=JE (hw:=hw) (hi:=hi) (ha:=ha) (hb:=hb) (hm:=hm) (hc:=hc) (hd:=hd) (hj:=hj) (hlj:=hlj) (hne:=hne) (h0:=h0) (hns:=hns) (hf:=hf)
end
end
def Az(w:WS)(s:aq):WS:=⟨jp,w.l++s.data.toList,w.bad,w.br⟩
theorem d183(w:WS)(s:aq)(hb:w.l.length+s.size<=140737488355328):bg prog 122 [.ptr 0 0,pS s] w.O (.aZ [pI s.size,.iv (.v .nilIface)]) (Az w s).H 3:=by
 refine aj ab func122 Z (by decide) ntmps122 Z (by simp) ?_;refine gA Z (zq [0,1] (d204 w) ?_);refine gA Z ?_;refine Mp ab Z Z Z Z Z Z Z Z Z Z Z Z Z Z Z Z hb ?_;refine gA Z iZ
def aU(w:WS)(b:Bool):WS:=⟨w.fr,w.l,w.bad||!b,w.br⟩
theorem L8(w:WS){b:Bool}(h:(!b)=jp):aU w b=w:=by cases w;simp_all [aU]
theorem L9(w:WS){b:Bool}(h:(!b)=is):aU w b=⟨w.fr,w.l,is,w.br⟩:=by cases w;simp_all [aU]
theorem d146(w:WS)(b:Bool):bg prog 120 [.ptr 0 0,pB b] w.O (.aZ []) (aU w b).H 3:=by
 refine aj ab func120 Z (by decide) ntmps120 Z (by simp) ?_;refine zJ Z Z (fun h=>?_) fun h=>?_
 .rw[L9 w h];refine gA Z iZ
 .rw[L8 w h];refine gA Z iZ
def aT(w:WS)(j:List aq):WS:=j.foldl Az w
def eB(j:List aq):Nat:=(j.map YP).sum
theorem Hy(w:WS)(s:aq):(Az w s).l.length=w.l.length+s.size:=by simp[Az]
theorem gB: ∀(j:List aq) (w:WS),(aT w j).l.length=w.l.length+eB j
 | [],w=>by simp[aT,eB]
 |s::r,w=>by
  have:=gB r (Az w s);simp only[aT,Ws]at this ⊢;rw[this,Hy];simp[eB];omega
theorem uC: ∀(j:List aq) (i:Nat),i<j.length->eB (j.take i)+(j.getD i ci).size<=eB j
 | [],i,h=>by simp at h
 |s::r,0,_=>by simp[eB]
 |s::r,i+1,h=>by
  have:=uC r i (by simpa using h);simp[eB]at this ⊢;omega
theorem d147(w:WS)(j:List aq)(hl:j.length<=1000)(hb:w.l.length+eB j<=140737488355328):bg prog 92 [.ptr 0 0,.sl 2 0 j.length 1] [w.c,.bu w.l 5,aV 1 j c9] (.aZ []) [(0,co ((aT w j).qt 0 3)),(3,co (.bu (aT w j).l 5))] 4:=by
 refine aj ab func92 Z (by decide) ntmps92 Z (by simp) ?_;refine gA Z ?_;refine jS 2 (fun k=>c9 (j.getD k ci)) Z (cQ Z) (by simp[AF.lO,PV.ba,mj]) ⟨(by simp[AO.lO,a8,PV.ba]),ac,fG _ _ _ _ _ _,ac⟩ ?_;refine aM 0 j.length (VB _) (fun i=>⟨[(0,.ptr 0 0),(6,.iv (strs j)),(7,pI j.length),(8,pI i)],[(0,co ((aT w (j.take i)).qt 0 3)),(3,co (.bu (aT w (j.take i)).l 5))],4⟩) (fun _=>True) [1] ac
  (zM (bi ⟨.bK Z (fun k _=>by rw[VL]),rfl,bi (bi trivial)⟩) ⟨⟨_,rfl,.of_eq Z⟩,Vm Z,rfl,⟨_,rfl,.of_eq Z⟩,Vm Z,ac,ac⟩) fun i x _=>?_
 refine zJ Z Z (fun h1=>?_) fun h1=>?_
 .have h1:i<j.length:=zN h1;have hs:aT w (j.take (i+1))=Az (aT w (j.take i)) (j.getD i ci):=ie (g:=Az) (b:=w) h1;have u:=gB (j.take i) w;have y:=uC j i h1;refine gA Z (iB (d183 (aT w (j.take i)) (j.getD i ci) (by omega)) ?_);refine gA Z ⟨h1,ac,[4],zW ⟨⟨_,rfl,.of_eq (by rw[hs];rfl)⟩,Vm Z,rfl,⟨_,rfl,.of_eq (by rw[hs];rfl)⟩,Vm Z,ac,ac⟩⟩
 .have h1:j.length<=i:=zG h1;rw[VI h1];refine gA Z (zD [3] Z (zW ⟨⟨_,rfl,.of_eq Z⟩,Vm Z,rfl,⟨_,rfl,.of_eq Z⟩,Vm Z,ac,ac⟩))
end Go.Proofs.YtlmhfgbkchnfbaaGreatDoor
namespace Go.Proofs
open Go.Shelf
def Tryz.yT:Go.Shelf.Ren:=⟨fun|171=>260|243=>267|246=>268|283=>269|284=>270|285=>271|286=>272|129=>147|317=>273|318=>274|319=>275|320=>276|337=>277|338=>278|n=>n,fun|3=>3|9=>9|2=>2|4=>4|171=>363|0=>0|53=>104|37=>38|5=>5|173=>365|212=>368|51=>83|20=>20|213=>369|46=>140|232=>370|233=>371|n=>n,fun|17=>1|18=>2|19=>3|n=>n⟩
theorem Tryz.H4:Go.Proofs.LaysM.n171 Tryz.prog Tryz.yT:={
 mixed:=by kernel_rfl
 f129:=Tryz.func147.trans (congrArg co (by kernel_rfl))
 f171:=Tryz.func260.trans (congrArg co (by kernel_rfl))
 f243:=Tryz.func267.trans (congrArg co (by kernel_rfl))
 f246:=Tryz.func268.trans (congrArg co (by kernel_rfl))
 f283:=Tryz.func269.trans (congrArg co (by kernel_rfl))
 f284:=Tryz.func270.trans (congrArg co (by kernel_rfl))
 f285:=Tryz.func271.trans (congrArg co (by kernel_rfl))
 f286:=Tryz.func272.trans (congrArg co (by kernel_rfl))
 f317:=Tryz.func273.trans (congrArg co (by kernel_rfl))
 f318:=Tryz.func274.trans (congrArg co (by kernel_rfl))
 f319:=Tryz.func275.trans (congrArg co (by kernel_rfl))
 f320:=Tryz.func276.trans (congrArg co (by kernel_rfl))
 f337:=Tryz.func277.trans (congrArg co (by kernel_rfl))
 f338:=Tryz.func278.trans (congrArg co (by kernel_rfl))
 t0:=Tryz.underlying0
 a0:=Tryz.isAgg0
 z0:=Tryz.sizeOf0
 v0:=Tryz.zeroValue0
 t2:=Tryz.underlying2
 a2:=Tryz.isAgg2
 z2:=Tryz.sizeOf2
 v2:=Tryz.zeroValue2
 t3:=Tryz.underlying3
 a3:=Tryz.isAgg3
 z3:=Tryz.sizeOf3
 v3:=Tryz.zeroValue3
 t4:=Tryz.underlying4
 a4:=Tryz.isAgg4
 z4:=Tryz.sizeOf4
 v4:=Tryz.zeroValue4
 t5:=Tryz.underlying5
 a5:=Tryz.isAgg5
 z5:=Tryz.sizeOf5
 v5:=Tryz.zeroValue5
 t9:=Tryz.underlying9
 a9:=Tryz.isAgg9
 z9:=Tryz.sizeOf9
 v9:=Tryz.zeroValue9
 t20:=Tryz.underlying20
 a20:=Tryz.isAgg20
 z20:=Tryz.sizeOf20
 v20:=Tryz.zeroValue20
 t37:=Tryz.underlying38
 a37:=Tryz.isAgg38
 z37:=Tryz.sizeOf38
 v37:=Tryz.zeroValue38
 t46:=Tryz.underlying140
 a46:=Tryz.isAgg140
 z46:=Tryz.sizeOf140
 v46:=Tryz.zeroValue140
 t51:=Tryz.underlying83
 a51:=Tryz.isAgg83
 z51:=Tryz.sizeOf83
 v51:=Tryz.zeroValue83
 t53:=Tryz.underlying104
 a53:=Tryz.isAgg104
 z53:=Tryz.sizeOf104
 v53:=Tryz.zeroValue104
 t171:=Tryz.underlying363
 a171:=Tryz.isAgg363
 z171:=Tryz.sizeOf363
 v171:=Tryz.zeroValue363
 t173:=Tryz.underlying365
 a173:=Tryz.isAgg365
 z173:=Tryz.sizeOf365
 v173:=Tryz.zeroValue365
 t212:=Tryz.underlying368
 a212:=Tryz.isAgg368
 z212:=Tryz.sizeOf368
 v212:=Tryz.zeroValue368
 t213:=Tryz.underlying369
 a213:=Tryz.isAgg369
 z213:=Tryz.sizeOf369
 t232:=Tryz.underlying370
 a232:=Tryz.isAgg370
 z232:=Tryz.sizeOf370
 v232:=Tryz.zeroValue370
 t233:=Tryz.underlying371
 a233:=Tryz.isAgg371
 z233:=Tryz.sizeOf371
 v233:=Tryz.zeroValue371
 g17:=by kernel_rfl
 g18:=by kernel_rfl
 g19:=by kernel_rfl
 i0:=by kernel_rfl
 i2:=by kernel_rfl
 i3:=by kernel_rfl
 i4:=by kernel_rfl
 i5:=by kernel_rfl
 i9:=by kernel_rfl
 i20:=by kernel_rfl
 i37:=by kernel_rfl
 i46:=by kernel_rfl
 i51:=by kernel_rfl
 i53:=by kernel_rfl
 i171:=by kernel_rfl
 i173:=by kernel_rfl
 i212:=by kernel_rfl
 i232:=by kernel_rfl
 i233:=by kernel_rfl
 m17:=by kernel_rfl
 m18:=by kernel_rfl
 m19:=by kernel_rfl}
theorem YtlmhfgbkchnfbaaGreatDoor.Tn (n:Int) (h0: -9223372036854775808<=n) (h1:n<=9223372036854775807) (w:World) (j:Lib.TabIs Tryz.prog w "internal/strconv.uint64pow10" .u64 Lib.pow10Tab):
  Calls Tryz.prog 260 #[.int .i64 n] w fun e u=>e= .returned (.string ⟨(Lib.itoa n).toArray⟩)∧ ∃k os,u=Go.Sort.grow (w.drewN k) os:=Any.strconv_Itoa Tryz.H4 n h0 h1 w j
end Go.Proofs
namespace Go.Proofs.YtlmhfgbkchnfbaaGreatDoor
open Go Go.Al Go.Proofs.Tryz
theorem UG:prog.globalNamed "internal/strconv.uint64pow10" =co 1:=by kernel_rfl
theorem pow_eq:p8=Lib.pow10Tab:=by decide
theorem Um{M:Mem}{N:Nm}{U:Nat->Prop}{h:AH}{w:World}(hr:Rel M N U h w):Lib.TabIs prog w "internal/strconv.uint64pow10" .u64 Lib.pow10Tab:=by
 obtain⟨T,j,h1⟩:=hr.dA 1 _ (M.My 1 _ Z);show World.var? _ _ _=_;simp only[World.var?,UG,XJ,h1,pow_eq]
theorem UX(n:Int)(h0: -9223372036854775808<=n)(h1:n<=9223372036854775807):Pure prog 260 [pI n] (pS ⟨(Lib.itoa n).toArray⟩):=by
 refine⟨bb func260 Z (by decide),fun M N w vs y x D=>?_⟩;obtain⟨v,rfl⟩: ∃v,vs=[v]:=by
  cases vs with
  |nil=>cases x
  |cons v r=>cases r with
   |nil=>exact⟨v,rfl⟩
   |cons a b=>simp at x
 have A:VR M N (· <0) (pI n) v:=D 0 _ Z;have B:v= .int .i64 n:=by
  cases A with
  |iv _ _ h=>cases h;rfl
 subst B;refine(Tn n h0 h1 w (Um y)).mono ?_;rintro e G ⟨rfl,k,os,rfl⟩;have hk: ∀b,b<w.heap.size->(Go.Sort.grow (w.drewN k) os).heap[b]? =w.heap[b]? :=fun b hb=>by
  show(w.heap++os)[b]? =_;rw[V3 hb]
 refine⟨_,M,N,pS ⟨(Lib.itoa n).toArray⟩,[],0,rfl,⟨rfl,rfl,rfl⟩,⟨rfl,rfl,⟨rfl,Yk _ _⟩,?_,fun b hb _=>hk b hb,.refl _,fun b c h1 C=>(nomatch (h1.symm.trans C)),.refl _ _,fun _ h=>h,fun i o u=>(nomatch u)⟩,⟨fun b c hb=>?_,fun i o u=>(nomatch u),fun i o u=>(nomatch u),fun i o u=>(nomatch u),fun i j o p u=>(nomatch u)⟩,.iv _ _ (.v _)⟩
 .show w.heap.size<=(w.heap++os).size;simp
 .exact(y.dA b c hb).mono (hk b (y.dA b c hb).lt)
def UF:aq:=⟨#[48,49,50,51,52,53,54,55,56,57,65,66,67,68,69,70]⟩
def RF(c:UInt8):Int:=(c.toNat:Int).fdiv (2 ^ min (XP 4) IntKind.u8.bits)
def RD(c:UInt8):Int:=IntKind.u8.wrap ((BitVec.ofInt IntKind.u8.bits (c.toNat:Int)&&&BitVec.ofInt IntKind.u8.bits 15).toNat:Int)
theorem QT(c:UInt8):0<=RF c∧RF c<16:=by
 have h:c.toNat<256:=c.toNat_lt;have e:RF c=(c.toNat:Int)/16:=by
  unfold RF;have:(2:Int) ^ min (XP 4) IntKind.u8.bits=16:=by decide
  rw[this];exact WL _ (by decide)
 rw[e];omega
theorem QO: ∀c:UInt8,0<=RD c∧RD c<16:=by
 intro c;have h: ∀n:Fin 256,0<=RD (UInt8.ofNat n.val)∧RD (UInt8.ofNat n.val)<16:=by decide
 have:=h ⟨c.toNat,c.toNat_lt⟩;simpa using this
def Tr(n:Int):UInt8:=UF.data.toList.getD n.toNat 0
def qB(c:UInt8):List UInt8:=if c.toNat=34∨c.toNat=92 then[92,c] else if c.toNat=10 then[92,110] else if c.toNat<32∨126<c.toNat then[92,120,Tr (RF c),Tr (RD c)] else[c]
theorem Qv(c:UInt8):(qB c).length<=4:=by
 unfold qB
 repeat' split
 all_goals simp
def r7(s:aq)(i:Nat):List UInt8:=34::(s.data.toList.take i).flatMap qB
def rY(s:aq):aq:=⟨(34::s.data.toList.flatMap qB++ [34]).toArray⟩
theorem uS(s:aq): ∀i,(r7 s i).length<=1+4*i
 |0=>by simp[r7]
 |i+1=>by
  have h:=uS s i;rcases Wp i s.data.toList.length with hi|hi
  .have:=Qv (s.data.toList.getD i ci);simp only[r7,VX]at h ⊢;rw[bA hi,Vp];omega
  .simp only[r7,VI hi]at h;simp only[r7,VI (by omega:s.data.toList.length<=i+1)];omega
theorem Fs{s:aq}{i:Nat}(h:i<s.data.toList.length):r7 s (i+1)=r7 s i++qB (s.data.toList.getD i ci):=by
 simp only[r7,bA h,VT]
theorem UW(s:aq)(hs:s.size<=1000):Pure prog 261 [pS s] (pS (rY s)):=by
 have hl:s.data.toList.length=s.size:=by simp
 refine ah ab func261 Z (by decide) ntmps261 Z (by simp) Z ?_;refine gA Z ?_;refine oO ab Z Z Z Z Z Z Z Z Z Z Z (by omega) ?_;refine gA Z ?_;refine aM 0 s.data.toList.length (VB _) (fun i=>⟨[(3,.sl 1 0 (r7 s i).length 1),(8,.iv (.bK 1 s.data.toList.length fun k=>aO (s.data.toList.getD k ci))),(9,pI s.data.toList.length),(10,pI i)],[(1,co (aV 1 (r7 s i) aO))],2⟩) (fun _=>True) [0] ac
  (zW (zS trivial)) fun i J _=>?_
 have Y:=uS s i;refine zE Z Z (fun h1=>?_) fun h1=>?_
 .have h1:s.data.toList.length<=i:=zG h1;refine gA Z ?_;refine Mx ab (r7 s i++ [34]) Z Z Z Z Z Z Z Z Z Z Z Z (by rw[VD];rfl) (by rw[Vp];rfl) ?_;refine gA Z (zL (.of_eq ?_));simp only[r7,rY,VI h1];rfl
 have h1:i<s.data.toList.length:=zN h1;have j:=Fs h1;have u:s.data.toList.getD (i:Int).toNat ci=s.data.toList.getD i ci:=rfl;generalize I:s.data.toList.getD i ci=c at j u;refine zJ Z Z (fun B=>?_) fun B=>?_
 .have B:c.toNat=34:=by have:=zT B;rw[u]at this;omega
  rw[qB,am (.inl B)]at j;refine gA Z ⟨h1,ac,[3],zM ⟨.row (by rw[j,Vp];rfl),rfl,bi (bi (bi ac))⟩ (hR Z (by rw[j,VD,<-I];rfl) Z ac)⟩
 have B: ¬c.toNat=34:=by have:=zF B;rw[u]at this;omega
 refine zJ Z Z (fun C=>?_) fun C=>?_
 .have C:c.toNat=92:=by have:=zT C;rw[u]at this;omega
  rw[qB,am (.inr C)]at j;refine gA Z ⟨h1,ac,[3],zM ⟨.row (by rw[j,Vp];rfl),rfl,bi (bi (bi ac))⟩ (hR Z (by rw[j,VD,<-I];rfl) Z ac)⟩
 have C: ¬c.toNat=92:=by have:=zF C;rw[u]at this;omega
 rw[qB,be (by omega)]at j;refine zJ Z Z (fun A=>?_) fun A=>?_
 .have A:c.toNat=10:=by have:=zT A;rw[u]at this;omega
  rw[am A]at j;refine gA Z ⟨h1,ac,[3],zM ⟨.row (by rw[j,Vp];rfl),rfl,bi (bi (bi ac))⟩ (hR Z (by rw[j,VD];rfl) Z ac)⟩
 have A: ¬c.toNat=10:=by have:=zF A;rw[u]at this;omega
 rw[be A]at j;have x:=QT c;have y:=QO c;rw[<-I]at x y;simp only[RF,RD]at x y;refine zJ Z Z (fun D=>?_) fun D=>?_
 .have D:c.toNat<32:=by have:=zT D;rw[u]at this;omega
  rw[am (.inl D)]at j;refine fP Z (by(repeat' (first|exact ac|exact rfl|exact ae.refl _|exact x|exact y|apply Vo))<;>first|omega|exact x.1|exact x.2|exact y.1|exact y.2|simp) ?_;exact⟨h1,ac,[3],zM ⟨.row (by rw[j,Vp];rfl),rfl,bi (bi (bi ac))⟩ (hR Z (by rw[j,VD,<-I];rfl) Z ac)⟩
 have D: ¬c.toNat<32:=by have:=zF D;rw[u]at this;omega
 refine zJ Z Z (fun G=>?_) fun G=>?_
 .have G:126<c.toNat:=by have:=zT G;rw[u]at this;omega
  rw[am (.inr G)]at j;refine fP Z (by(repeat' (first|exact ac|exact rfl|exact ae.refl _|exact x|exact y|apply Vo))<;>first|omega|exact x.1|exact x.2|exact y.1|exact y.2|simp) ?_;exact⟨h1,ac,[3],zM ⟨.row (by rw[j,Vp];rfl),rfl,bi (bi (bi ac))⟩ (hR Z (by rw[j,VD,<-I];rfl) Z ac)⟩
 have G: ¬126<c.toNat:=by have:=zF G;rw[u]at this;omega
 rw[be (by omega)]at j;refine gA Z ⟨h1,ac,[3],zM ⟨.row (by rw[j,Vp];rfl),rfl,bi (bi (bi ac))⟩ (hR Z (by rw[j,VD,<-I];rfl) Z ac)⟩
def wR(v:cN):aq:=if v.kind=1 then⟨(Lib.itoa v.num).toArray⟩ else if fM v.sym then v.sym else rY v.sym
theorem pH{v:cN}(h:bV v=0)(h1:v.kind=1): -2147483647<=v.num∧v.num<=2147483647:=by
 unfold bV at h;rw[am h1]at h;split at h
 .rename_i j;exact j.2
 .cases h
theorem mu{v:cN}(h:bV v=0)(h1: ¬v.kind=1):v.sym.size<=64:=by
 unfold bV at h;rw[be h1]at h;split at h
 .split at h
  .rename_i j;exact j.2
  .cases h
 .cases h
theorem UY(v:cN)(u:bV v=0):Pure prog 243 [ag v.c] (pS (wR v)):=by
 refine ah ab func243 Z (by decide) ntmps243 Z (by simp) Z ?_;refine zJ Z Z (fun h1=>?_) fun h1=>?_
 .have h1:v.kind=1:=by simpa using h1
  have:=pH u h1;refine gA Z (zp (UX v.num (by omega) (by omega)) ?_);refine gA Z (zL (.of_eq ?_));rw[wR,am h1];rfl
 have h1: ¬v.kind=1:=by simpa using h1
 have hs:=mu u h1;refine gA Z (zp (TP v.sym) ?_);refine zJ Z Z (fun j=>?_) fun j=>?_
 .have j:fM v.sym=is:=j;refine gA Z (zL (.of_eq ?_));rw[wR,be h1,am j];rfl
 .have j:fM v.sym=jp:=j;refine gA Z (zp (UW v.sym (by omega)) ?_);refine gA Z (zL (.of_eq ?_));rw[wR,be h1,be (by rw[j];simp)];rfl
def sL(v:cN):aq:=if bV v=0 then wR v else⟨#[]⟩
theorem U3(v:cN):Pure prog 210 [ag v.c] (.aZ [pS (sL v),pI (bV v)]):=by
 refine ah ab func210 Z (by decide) ntmps210 Z (by simp) Z ?_;refine gA Z (zp (TQ v) ?_);refine zJ Z Z (fun h1=>?_) fun h1=>?_
 .have h1: ¬bV v=0:=by simpa using h1
  refine gA Z (zL (.of_eq ?_));rw[sL,be h1];rfl
 .have h1:bV v=0:=by simpa using h1
  refine gA Z (zp (UY v h1) ?_);refine gA Z (zL (.of_eq ?_));rw[sL,am h1,h1];rfl
def nK(w:WS)(v:cN):WS:=aT (aU w (kw (bV v=0))) [sL v]
theorem d149(w:WS)(v:cN)(hb:w.l.length<=1000000000000)(ht:(sL v).size<=1000):bg prog 171 [.ptr 0 0,ag v.c] w.O (.aZ []) (nK w v).H 3:=by
 refine aj ab func171 Z (by decide) ntmps171 Z (by simp) ?_;refine gA Z (zp (U3 v) ?_);refine gA Z (CW (d146 ⟨_,_,_,_⟩ (kw (bV v=0))) Z Z Z Z Z Z Z Z Z Z Z Z ?_);refine gA Z (go_wp (d147 ⟨_,_,_,_⟩ [sL v] (by simp) (by simp[eB,aU];omega)) Z Z Z Z Z Z Z Z Z Z Z Z ?_);refine gA Z iZ
def cE(op:Int):Int:=if op=1∨op=2 then 1 else if op=3∨op=4∨op=5 then 2 else if op=6 then 3 else 0
theorem MT(op:Int):Pure prog 245 [pI op] (pI (cE op)):=by
 refine ah ab func245 Z (by decide) ntmps245 Z (by simp) Z ?_
 repeat' (first|(refine gA Z (zI (fun _=>?_) (fun _=>?_)))|(refine gA Z (zL (.of_eq ?_))))
 all_goals(refine(Gj ?_:pI _=pI _);simp only[XO,Yr,decide_eq_true_eq,decide_eq_false_iff_not] at*;simp_all [cE])
def dX(e:Expr):Int:=if e.kind=4 then cE e.op else 4
theorem F8(e:Expr):Pure prog 263 [ag e.c] (pI (dX e)):=by
 refine ah ab func263 Z (by decide) ntmps263 Z (by simp) Z ?_
 repeat' (first|(refine gA Z (zI (fun _=>?_) (fun _=>?_)))|(refine gA Z (zp (MT e.op) ?_))|(refine gA Z (zL (.of_eq ?_))))
 all_goals(refine(Gj ?_:pI _=pI _);simp_all [dX])
def dY(v:cN):Bool:=kw (v.kind=0)&&(kw (v.num=0)&&(kw (v.sym=Vx)&&is))
def jR(e:Expr):Bool:=kw (e.kind=0)&&(kw (e.var=⟨#[]⟩)&&(dY e.val&&(kw (e.op=0)&&kw ((e.args.length:Int)=0))))
theorem MU(e:Expr):Pure prog 244 [ag e.c] (pB (jR e)):=by
 refine ah ab func244 Z (by decide) ntmps244 Z (by simp) Z ?_
 repeat' (first|(refine gA Z (zI (fun _=>?_) (fun _=>?_)))|(refine gA Z (zL (.of_eq ?_))))
 all_goals(refine(nV ?_:pB _=pB _))
 all_goals(simp only[jR,dY, *];rfl)
def lx(l:Lit):Bool:=
 (kw (l.kind=1)||decide (l.kind=2)||!(!kw (l.atom.rel=⟨#[]⟩)||decide ((l.atom.an.length:Int)>0)))&&
 ((!(!kw (l.kind=3))||!(!kw (l.op=0)||(!jR l.left||!jR l.right)))&&
 (kw (l.kind=4)||(kw (l.dP=0)&&(kw (l.bE=⟨#[]⟩)&&(jR l.jT&&kw ((l.ay.length:Int)=0))))))
set_option maxHeartbeats 4000000 in
theorem U0(l:Lit):Pure prog 211 [ag l.c] (pB (lx l)):=by
 refine ah ab func211 Z (by decide) ntmps211 Z (by simp) Z ?_
 repeat' (first|(refine gA Z (zI (fun _=>?_) (fun _=>?_)))|(refine gA Z (zp (MU l.left) ?_))|(refine gA Z (zp (MU l.right) ?_))|(refine gA Z (zp (MU l.jT) ?_))|(refine gA Z (zL (.of_eq ?_))))
 all_goals(refine(nV ?_:pB _=pB _))
 all_goals(try simp only[XO,Yr] at*)
 all_goals(simp_all [lx])
def nj(op:Int):aq:=if op=1 then⟨#[43]⟩ else if op=2 then⟨#[45]⟩ else if op=3 then⟨#[42]⟩ else if op=4 then⟨#[47]⟩ else⟨#[109,111,100]⟩
def sgL:aq:=⟨#[43,45,42,47]⟩
theorem UU(op:Int):Pure prog 264 [pI op] (pS (nj op)):=by
 refine ah ab func264 Z (by decide) ntmps264 Z (by simp) Z ?_;refine gA Z ?_;refine xG ab Z Z Z Z Z Z Z ?_;refine gA Z ?_;refine aM 0 4 (by decide) (fun i=>⟨[(0,pI op),(5,.ptr 0 0)],[(0,co (.ef sgL i))],1⟩) (fun i=> ∀k:Nat,k<i-> ¬(k:Int)+1=op) [] (by simp)
  (zW ⟨⟨_,rfl,.of_eq Z⟩,Vm Z,ac,ac⟩) fun i C j=>?_
 have x:i=0∨i=1∨i=2∨i=3∨i=4:=by omega
 rcases x with rfl|rfl|rfl|rfl|rfl
 .refine gA Z ?_;refine lY Z Z Z Z Z Z (fun h=>absurd h (by decide)) (fun _=>?_);refine zJ Z Z (fun h=>?_) fun h=>?_
  .have h:op=1:=by have:=zT h;omega
   refine gA Z ?_;refine ua ab Z Z Z Z Z Z Z Z Z ?_;refine gA Z (zL (.of_eq ?_));refine(congrArg pS ?_:pS _=pS _);subst h;decide
  .have h: ¬op=1:=by have:=zF h;omega
   refine gA Z ⟨by decide,fun k hk=>(by rcases(by omega:k<0∨k=0) with u|rfl;exact j k u;omega),[],zW ⟨⟨_,rfl,.of_eq Z⟩,Vm Z,ac,ac⟩⟩
 .refine gA Z ?_;refine lY Z Z Z Z Z Z (fun h=>absurd h (by decide)) (fun _=>?_);refine zJ Z Z (fun h=>?_) fun h=>?_
  .have h:op=2:=by have:=zT h;omega
   refine gA Z ?_;refine ua ab Z Z Z Z Z Z Z Z Z ?_;refine gA Z (zL (.of_eq ?_));refine(congrArg pS ?_:pS _=pS _);subst h;decide
  .have h: ¬op=2:=by have:=zF h;omega
   refine gA Z ⟨by decide,fun k hk=>(by rcases(by omega:k<1∨k=1) with u|rfl;exact j k u;omega),[],zW ⟨⟨_,rfl,.of_eq Z⟩,Vm Z,ac,ac⟩⟩
 .refine gA Z ?_;refine lY Z Z Z Z Z Z (fun h=>absurd h (by decide)) (fun _=>?_);refine zJ Z Z (fun h=>?_) fun h=>?_
  .have h:op=3:=by have:=zT h;omega
   refine gA Z ?_;refine ua ab Z Z Z Z Z Z Z Z Z ?_;refine gA Z (zL (.of_eq ?_));refine(congrArg pS ?_:pS _=pS _);subst h;decide
  .have h: ¬op=3:=by have:=zF h;omega
   refine gA Z ⟨by decide,fun k hk=>(by rcases(by omega:k<2∨k=2) with u|rfl;exact j k u;omega),[],zW ⟨⟨_,rfl,.of_eq Z⟩,Vm Z,ac,ac⟩⟩
 .refine gA Z ?_;refine lY Z Z Z Z Z Z (fun h=>absurd h (by decide)) (fun _=>?_);refine zJ Z Z (fun h=>?_) fun h=>?_
  .have h:op=4:=by have:=zT h;omega
   refine gA Z ?_;refine ua ab Z Z Z Z Z Z Z Z Z ?_;refine gA Z (zL (.of_eq ?_));refine(congrArg pS ?_:pS _=pS _);subst h;decide
  .have h: ¬op=4:=by have:=zF h;omega
   refine gA Z ⟨by decide,fun k hk=>(by rcases(by omega:k<3∨k=3) with u|rfl;exact j k u;omega),[],zW ⟨⟨_,rfl,.of_eq Z⟩,Vm Z,ac,ac⟩⟩
 .refine gA Z ?_;refine lY Z Z Z Z Z Z (fun _=>?_) (fun h=>absurd h (by decide));refine gA Z (zL (.of_eq ?_));have h1:=j 0 (by decide);have y:=j 1 (by decide);have A:=j 2 (by decide);have B:=j 3 (by decide);rw[nj,be (by omega),be (by omega),be (by omega),be (by omega)];rfl
theorem Cu(s:aq):(rY s).size<=2+4*s.size:=by
 have h:=uS s s.data.toList.length;simp only[r7,WG,VX]at h;have e:(rY s).size=(34::s.data.toList.flatMap qB++ [34]).length:=by simp[rY,YP]
 have:s.data.toList.length=s.size:=by simp
 rw[e,Vp,VX,VW];omega
theorem rN(v:cN):(sL v).size<=300:=by
 unfold sL;split
 .rename_i j;unfold wR;split
  .rename_i h1;have:=pH j h1;have u:=Lib.itoa_length_le v.num (by omega) (by omega);have e:(⟨(Lib.itoa v.num).toArray⟩:ByteArray).size=(Lib.itoa v.num).length:=by simp[YP]
   omega
  .rename_i h1;have u:=mu j h1;split
   .omega
   .have:=Cu v.sym;omega
 .decide
mutual
def Expr.ts:Expr->Nat
 | .mk _ v _ _ args=>v.size+400+Expr.mq args
def Expr.mq:List Expr->Nat
 | []=>0
 |e::r=>e.ts+Expr.mq r
end
theorem Expr.sK(e:Expr):e.ts=e.var.size+400+Expr.mq e.args:=by cases e;rfl
theorem Expr.yk: ∀(l:List Expr) (k:Nat),k<l.length->(l.getD k ci).ts<=Expr.mq l
 |e::r,0,_=>by simp[Expr.mq]
 |e::r,k+1,h=>by
  have:=Expr.yk r k (by simpa using h);simp only[WQ,Expr.mq];omega
 | [],k,h=>by simp at h
theorem Expr.Du: ∀(l:List Expr),l.length=2->(l.getD 0 ci).ts+(l.getD 1 ci).ts<=Expr.mq l
 | [a,b],_=>by simp[Expr.mq]
 | [],h=>by simp at h
 | [a],h=>by simp at h
 |a::b::c::r,h=>by simp at h
def sM:aq:=⟨#[45]⟩
def sO:aq:=⟨#[40]⟩
def sC:aq:=⟨#[41]⟩
def DD:aq:=⟨#[32]⟩
def nE(w:WS):WS:=⟨w.fr,w.l,is,w.br⟩
def pj(e:Expr):Bool:=fX e.var&&(dY e.val&&(kw (e.op=0)&&kw ((e.args.length:Int)=0)))
def qR(e:Expr):Bool:=kw (e.var=⟨#[]⟩)&&(kw (e.op=0)&&kw ((e.args.length:Int)=0))
def tB(e:Expr):Bool:=kw (e.var=⟨#[]⟩)&&(dY e.val&&kw (cE e.op>0))
def cj(e:Expr):Expr:=e.args.getD 0 ci
def zg(e:Expr):Expr:=e.args.getD 1 ci
def yL(e:Expr):Bool:=kw (e.kind=2)&&kw (e.val.kind=1)
def nk(a:Expr):Bool:=kw (dX a<3)||(yL a&&kw (a.val.num>0))
def j9(w:WS)(e:Expr)(k:WS):WS:=
 if w.bad=is then nE w else if e.kind=1 then aT (aU w (pj e)) [e.var] else if e.kind=2 then nK (aU w (qR e)) e.val else if e.kind=4 then k else nE w
def lM(a0:Bool->WS->Expr->WS)(w:WS)(e:Expr):WS:=
 if w.bad=is then nE w else if e.op=6 then
  (if e.args.length=1 then a0 (nk (cj e)) (if(yL (cj e)&&kw ((cj e).val.num=0))=is then aT (aT w [sM]) [sM] else aT w [sM]) (cj e) else nE w)
 else if e.args.length=2 then a0 (kw (dX (zg e)<=cE e.op)) (aT (a0 (kw (dX (cj e)<cE e.op)) w (cj e)) [DD,nj e.op,DD]) (zg e) else nE w
def cV:Nat->WS->Expr->WS
 |0,w,_=>nE w
 |1,w,e=>j9 w e (nE (aU w (tB e)))
 |m+2,w,e=>j9 w e (lM (fun j w a=>if j=is then aT (cV m (aT w [sO]) a) [sC] else cV (m+1) w a) (aU w (tB e)) e)
def wF(m:Nat)(j:Bool)(w:WS)(a:Expr):WS:=if j=is then aT (cV m (aT w [sO]) a) [sC] else cV (m+1) w a
theorem aR(w:WS)(b:Bool):(aU w b).l=w.l:=rfl
theorem fj(w:WS):(nE w).l=w.l:=rfl
theorem bt(s:aq):eB [s]=s.size:=by simp[eB]
theorem Ab(op:Int):(nj op).size<=3:=by
 unfold nj
 repeat' split
 all_goals decide
theorem aK(w:WS)(s:aq):(aT w [s]).l.length=w.l.length+s.size:=by rw[gB,bt]
theorem ur(w:WS)(v:cN):(nK w v).l.length<=w.l.length+300:=by
 have:=rN v;rw[nK,aK,aR];omega
theorem xy(w k:WS)(e:Expr)(h:k.l.length<=w.l.length+e.ts):(j9 w e k).l.length<=w.l.length+e.ts:=by
 have:=e.sK;unfold j9
 repeat' split
 .rw[fj];omega
 .rw[aK,aR];omega
 .have:=ur (aU w (qR e)) e.val;rw[aR]at this;omega
 .exact h
 .rw[fj];omega
theorem Fv(a0:Bool->WS->Expr->WS)(j: ∀b w a,(a0 b w a).l.length<=w.l.length+(2+a.ts))(w:WS)(e:Expr):(lM a0 w e).l.length<=w.l.length+e.ts:=by
 have B:=e.sK;unfold lM;split
 .rw[fj];omega
 split
 .split
  .rename_i h1;have y:=Expr.yk e.args 0 (by omega);have u:sM.size=1:=rfl;split
   .have:=j (nk (cj e)) (aT (aT w [sM]) [sM]) (cj e);rw[aK,aK]at this;simp only[cj]at this ⊢;omega
   .have:=j (nk (cj e)) (aT w [sM]) (cj e);rw[aK]at this;simp only[cj]at this ⊢;omega
  .rw[fj];omega
 .split
  .rename_i h1;have y:=Expr.Du e.args h1;have x:=j (kw (dX (zg e)<=cE e.op)) (aT (a0 (kw (dX (cj e)<cE e.op)) w (cj e)) [DD,nj e.op,DD]) (zg e);have C:=j (kw (dX (cj e)<cE e.op)) w (cj e);have D:=Ab e.op;have u:DD.size=1:=rfl;rw[gB]at x;have A:eB [DD,nj e.op,DD]=1+((nj e.op).size+1):=by simp[eB,u]
   simp only[cj,zg] at*;omega
  .rw[fj];omega
theorem di: ∀(n:Nat) (w:WS) (e:Expr),(cV n w e).l.length<=w.l.length+e.ts
 |0,w,e=>by rw[cV,fj];omega
 |1,w,e=>by rw[cV];exact xy _ _ _ (by rw[fj,aR];omega)
 |m+2,w,e=>by
  rw[cV];refine xy _ _ _ ?_
  have:=Fv (fun j w a=>if j=is then aT (cV m (aT w [sO]) a) [sC] else cV (m+1) w a) (fun b w a=>by
   split
   .have h1:=di m (aT w [sO]) a;have u:sO.size=1:=rfl;have x:sC.size=1:=rfl;rw[aK]at h1 ⊢;omega
   .have:=di (m+1) w a
    omega) (aU w (tB e)) e
  rwa[aR]at this
theorem Jq(m:Nat)(b:Bool)(w:WS)(a:Expr):(wF m b w a).l.length<=w.l.length+(2+a.ts):=by
 unfold wF;split
 .have h1:=di m (aT w [sO]) a;have j:sO.size=1:=rfl;have u:sC.size=1:=rfl;rw[aK]at h1 ⊢;omega
 .have:=di (m+1) w a;omega
def PE(n:Nat):Prop:= ∀(d:Int) (w:WS) (e:Expr),d+1=n->w.l.length+e.ts<=1000000000->bg prog 212 [.ptr 0 0,ag e.c,pI d] w.O (.aZ []) (cV n w e).H 3
theorem d225(n:Nat)(hn:n<=1000)(y:PE (n+1))(A:PE n)(j:Bool)(d:Int)(hd:d=n)(w:WS)(e:Expr)(hb:w.l.length+e.ts+2<=1000000000):bg prog 262 [.ptr 0 0,ag e.c,pB j,pI d] w.O (.aZ []) (wF n j w e).H 3:=by
 refine aj ab func262 Z (by decide) ntmps262 Z (by simp) ?_;refine zJ Z Z (fun h=>?_) fun h=>?_
 .have h:j=jp:=by simpa using h
  rw[wF,be (by rw[h];simp)];refine gA Z (iB (y d w e (by omega) (by omega)) ?_);refine gA Z iZ
 .have h:j=is:=by simpa using h
  rw[wF,am h];have u:sO.size=1:=rfl;have x:sC.size=1:=rfl;have hl:=di n (aT w [sO]) e;have B:=aK w sO;refine gA Z (jn (d147 w [sO] (by simp) (by rw[bt,u];omega)) ?_);refine gA Z (iB (A (d-1) (aT w [sO]) e (by omega) (by omega)) ?_);refine gA Z (jn (d147 (cV n (aT w [sO]) e) [sC] (by simp) (by rw[bt,x];omega)) ?_);refine gA Z iZ
theorem TH(d:Int)(hd:d<0)(w:WS)(e:Expr):bg prog 246 [.ptr 0 0,ag e.c,pI d] w.O (.aZ []) (nE w).H 3:=by
 refine aj ab func246 Z (by decide) ntmps246 Z (by simp) ?_
 repeat' (first
  |((rename_i h;exact absurd hd (zF h)))
  |(refine gA Z (zI (fun _=>?_) (fun _=>?_)))
  |(refine gA Z (xQ (by first|exact .inr Z|exact .inl Z) Z Z Z Z Z (by first|exact .refl _|exact .kb _) (by first|exact .refl _|exact .kb _) Z Z Z Z (.refl _) Z Z)))
set_option maxHeartbeats 2000000 in
theorem d213(m:Nat)(hm:m<=900)(I:PE (m+1))(J:PE m)(d:Int)(hd:d=m)(w:WS)(e:Expr)(hb:w.l.length+e.ts<=1000000000):bg prog 246 [.ptr 0 0,ag e.c,pI d] w.O (.aZ []) (lM (wF m) w e).H 3:=by
 refine bg.le (aa:=[.ptr 0 0,ag e.c,pI d]) (args:=[.ptr 0 0,ag e.c1,pI d]) ?_ ⟨.refl _,e.Gl,.refl _,ac⟩;have f0:=e.sK;have G:sM.size=1:=rfl;have y:m<=1000:=by omega
 refine aj ab func246 Z (by decide) ntmps246 Z (by simp) ?_;refine zJ Z Z (fun Y=>?_) fun Y=>?_
 .have Y:e.op=6:=zT Y;refine zE Z Z (fun h1=>?_) fun h1=>?_
  .have h1:w.bad=is:=h1;rw[lM,am h1];refine gA Z iZ
  have h1: ¬w.bad=is:=by rw[show w.bad=jp from h1];simp
  refine zE Z Z (fun C=>?_) fun C=>?_
  .have C: ¬e.args.length=1:=by simp at C;omega
   rw[lM,be h1,am Y,be C];refine gA Z iZ
  have C:e.args.length=1:=by simp at C;omega
  have hg:(cj e).ts<=_:=Expr.yk e.args 0 (by omega);have u:lM (wF m) w e=wF m (nk (cj e)) (if(yL (cj e)&&kw ((cj e).val.num=0))=is then aT (aT w [sM]) [sM] else aT w [sM]) (cj e):=by rw[lM,be h1,am Y,am C]
  have c0:e.args.getD 0 ci=cj e:=rfl;refine zJ Z Z (fun h3=>?_) fun h3=>?_
  .exact absurd (zT h3) (by omega)
  refine zE Z Z (fun h7=>?_) fun h7=>?_
  .exact absurd (zF h7) (by simp)
  have A:=aK w sM;refine zJ Z Z (fun hk=>?_) fun hk=>?_
  .have b0:(cj e).kind=2:=zT hk;refine gA Z (jn (d147 w [sM] (by simp) (by rw[bt,G];omega)) ?_);refine zE Z Z (fun hv=>?_) fun hv=>?_
   .have D: ¬(cj e).val.kind=1:=zF hv;have B:yL (cj e)=jp:=by rw[yL,decide_eq_false D,XV]
    rw[B,Xj,be (by simp)]at u;refine gA Z (Di (F8 (cj e)) ?_);refine zJ Z Z (fun x=>?_) fun x=>?_
    .have j:dX (cj e)<3:=zT x;rw[nk,decide_eq_true j,Yq]at u;rw[u];refine gA Z (wy (d225 m y I J is d hd (aT w [sM]) (cj e) (by rw[A,G];omega)) ?_);refine gA Z iZ
    .have j: ¬dX (cj e)<3:=zF x;refine zJ Z Z (fun hz=>?_) fun hz=>?_
     .exact absurd (zT hz) D
     rw[nk,decide_eq_false j,Xn,B,Xj]at u;rw[u];refine gA Z (wy (d225 m y I J jp d hd (aT w [sM]) (cj e) (by rw[A,G];omega)) ?_);refine gA Z iZ
   .have D:(cj e).val.kind=1:=zT hv;have B:yL (cj e)=is:=by rw[yL,decide_eq_true D,decide_eq_true b0];rfl
    rw[B,X4]at u;refine zJ Z Z (fun h0=>?_) fun h0=>?_
    .have a0:(cj e).val.num=0:=zT h0;rw[am (decide_eq_true a0)]at u;refine gA Z (jn (d147 (aT w [sM]) [sM] (by simp) (by rw[bt,A,G];omega)) ?_);refine gA Z (Di (F8 (cj e)) ?_);refine zJ Z Z (fun x=>?_) fun x=>?_
     .have j:dX (cj e)<3:=zT x;rw[nk,decide_eq_true j,Yq]at u;rw[u];refine gA Z (wy (d225 m y I J is d hd (aT (aT w [sM]) [sM]) (cj e) (by rw[aK,A,G];omega)) ?_);refine gA Z iZ
     .have j: ¬dX (cj e)<3:=zF x;refine zE Z Z (fun hz=>?_) fun hz=>?_
      .exact absurd D (zF hz)
      rw[nk,decide_eq_false j,Xn,B,X4]at u;rw[u];refine gA Z (wy (d225 m y I J (kw ((cj e).val.num>0)) d hd (aT (aT w [sM]) [sM]) (cj e) (by rw[aK,A,G];omega)) ?_);refine gA Z iZ
    .have a0: ¬(cj e).val.num=0:=zF h0;rw[be (by simpa using a0)]at u;refine gA Z (Di (F8 (cj e)) ?_);refine zJ Z Z (fun x=>?_) fun x=>?_
     .have j:dX (cj e)<3:=zT x;rw[nk,decide_eq_true j,Yq]at u;rw[u];refine gA Z (wy (d225 m y I J is d hd (aT w [sM]) (cj e) (by rw[A,G];omega)) ?_);refine gA Z iZ
     .have j: ¬dX (cj e)<3:=zF x;refine zE Z Z (fun hz=>?_) fun hz=>?_
      .exact absurd D (zF hz)
      rw[nk,decide_eq_false j,Xn,B,X4]at u;rw[u];refine gA Z (wy (d225 m y I J (kw ((cj e).val.num>0)) d hd (aT w [sM]) (cj e) (by rw[A,G];omega)) ?_);refine gA Z iZ
  .have b0: ¬(cj e).kind=2:=zF hk;have B:yL (cj e)=jp:=by rw[yL,decide_eq_false b0];rfl
   rw[B,Xj,be (by simp)]at u;refine gA Z (jn (d147 w [sM] (by simp) (by rw[bt,G];omega)) ?_);refine gA Z (Di (F8 (cj e)) ?_);refine zJ Z Z (fun x=>?_) fun x=>?_
   .have j:dX (cj e)<3:=zT x;rw[nk,decide_eq_true j,Yq]at u;rw[u];refine gA Z (wy (d225 m y I J is d hd (aT w [sM]) (cj e) (by rw[A,G];omega)) ?_);refine gA Z iZ
   .have j: ¬dX (cj e)<3:=zF x;rw[nk,decide_eq_false j,Xn,B,Xj]at u;rw[u];refine gA Z (wy (d225 m y I J jp d hd (aT w [sM]) (cj e) (by rw[A,G];omega)) ?_);refine gA Z iZ
 .have Y: ¬e.op=6:=zF Y;refine zE Z Z (fun h1=>?_) fun h1=>?_
  .have h1:w.bad=is:=h1;rw[lM,am h1];refine gA Z iZ
  have h1: ¬w.bad=is:=by rw[show w.bad=jp from h1];simp
  refine zE Z Z (fun C=>?_) fun C=>?_
  .have C: ¬e.args.length=2:=by simp at C;omega
   rw[lM,be h1,be Y,be C];refine gA Z iZ
  have C:e.args.length=2:=by simp at C;omega
  have hg:(cj e).ts+(zg e).ts<=_:=Expr.Du e.args C;rw[lM,be h1,be Y,am C];refine zJ Z Z (fun h3=>?_) fun h3=>?_
  .exact absurd (zT h3) (by omega)
  refine zJ Z Z (fun h7=>?_) fun h7=>?_
  .exact absurd (zT h7) (by simp)
  refine gA Z (Di (F8 (cj e)) ?_);refine gA Z (Di (MT e.op) ?_);refine gA Z (wy (d225 m y I J (kw (dX (cj e)<cE e.op)) d hd w (cj e) (by omega)) ?_);refine gA Z (zp (UU e.op) ?_);have d0:=Jq m (kw (dX (cj e)<cE e.op)) w (cj e);have e0:=Ab e.op;have e2:DD.size=1:=rfl;have e3:eB [DD,nj e.op,DD]=1+((nj e.op).size+1):=by simp[eB,e2]
  refine gA Z (jn (d147 (wF m (kw (dX (cj e)<cE e.op)) w (cj e)) [DD,nj e.op,DD] (by simp) (by rw[e3];omega)) ?_);refine gA Z (Di (F8 (zg e)) ?_);refine gA Z (Di (MT e.op) ?_);refine gA Z (wy (d225 m y I J (kw (dX (zg e)<=cE e.op)) d hd (aT (wF m (kw (dX (cj e)<cE e.op)) w (cj e)) [DD,nj e.op,DD]) (zg e) (by rw[gB,e3];omega)) ?_);refine gA Z iZ
theorem d189(d:Int)(J:0<=d)(Y:d<=1000)(w:WS)(e:Expr)(hb:w.l.length+e.ts<=1000000000)(k:WS)(hk:bg prog 246 [.ptr 0 0,ag e.c,pI (d-1)] (aU w (tB e)).O (.aZ []) k.H 3):bg prog 212 [.ptr 0 0,ag e.c,pI d] w.O (.aZ []) (j9 w e k).H 3:=by
 have a0:=e.sK;refine aj ab func212 Z (by decide) ntmps212 Z (by simp) ?_;refine zE Z Z (fun h1=>?_) fun h1=>?_
 .have h1:w.bad=is:=h1;rw[j9,am h1];refine gA Z iZ
 have B: ¬w.bad=is:=by rw[show w.bad=jp from h1];simp
 refine zJ Z Z (fun I=>?_) fun I=>?_
 .exact absurd (zT I) (by omega)
 refine zJ Z Z (fun C=>?_) fun C=>?_
 .have u:e.kind=1:=zT C;have A:j9 w e k=aT (aU w (pj e)) [e.var]:=by rw[j9,be B,am u]
  rw[A];refine gA Z (zp (De e.var) ?_);refine zE Z Z (fun g0=>?_) fun g0=>?_
  .have j:pj e=jp:=by simp only[pj,dY, *];rfl
   rw[j];refine gA Z (iB (d146 w jp) ?_);refine gA Z (jn (d147 (aU w jp) [e.var] (by simp) (by rw[bt,aR];omega)) ?_);refine gA Z iZ
  refine zE Z Z (fun g1=>?_) fun g1=>?_
  .have j:pj e=jp:=by simp only[pj,dY, *];rfl
   rw[j];refine gA Z (iB (d146 w jp) ?_);refine gA Z (jn (d147 (aU w jp) [e.var] (by simp) (by rw[bt,aR];omega)) ?_);refine gA Z iZ
  refine zE Z Z (fun g2=>?_) fun g2=>?_
  .have j:pj e=jp:=by simp only[pj,dY, *];rfl
   rw[j];refine gA Z (iB (d146 w jp) ?_);refine gA Z (jn (d147 (aU w jp) [e.var] (by simp) (by rw[bt,aR];omega)) ?_);refine gA Z iZ
  have j:pj e=kw ((e.args.length:Int)=0):=by simp only[pj,dY, *];rfl
  rw[j];refine gA Z (iB (d146 w (kw ((e.args.length:Int)=0))) ?_);refine gA Z (jn (d147 (aU w (kw ((e.args.length:Int)=0))) [e.var] (by simp) (by rw[bt,aR];omega)) ?_);refine gA Z iZ
 have u: ¬e.kind=1:=zF C;refine zJ Z Z (fun D=>?_) fun D=>?_
 .have x:e.kind=2:=zT D;have A:j9 w e k=nK (aU w (qR e)) e.val:=by rw[j9,be B,be u,am x]
  rw[A];have b0:=rN e.val;refine zE Z Z (fun g0=>?_) fun g0=>?_
  .have j:qR e=jp:=by simp only[qR,dY, *];rfl
   rw[j];refine gA Z (iB (d146 w jp) ?_);refine gA Z (iB (d149 (aU w jp) e.val (by rw[aR];omega) (by omega)) ?_);refine gA Z iZ
  refine zE Z Z (fun g1=>?_) fun g1=>?_
  .have j:qR e=jp:=by simp only[qR,dY, *];rfl
   rw[j];refine gA Z (iB (d146 w jp) ?_);refine gA Z (iB (d149 (aU w jp) e.val (by rw[aR];omega) (by omega)) ?_);refine gA Z iZ
  have j:qR e=kw ((e.args.length:Int)=0):=by simp only[qR,dY, *];rfl
  rw[j];refine gA Z (iB (d146 w (kw ((e.args.length:Int)=0))) ?_);refine gA Z (iB (d149 (aU w (kw ((e.args.length:Int)=0))) e.val (by rw[aR];omega) (by omega)) ?_);refine gA Z iZ
 have x: ¬e.kind=2:=zF D;refine zJ Z Z (fun G=>?_) fun G=>?_
 .have y:e.kind=4:=zT G;have A:j9 w e k=k:=by rw[j9,be B,be u,be x,am y]
  rw[A];refine zE Z Z (fun g0=>?_) fun g0=>?_
  .have j:tB e=jp:=by simp only[tB,dY, *];rfl
   rw[j]at hk;refine gA Z (iB (d146 w jp) ?_);refine gA Z (iB (hk) ?_);refine gA Z iZ
  refine zE Z Z (fun g1=>?_) fun g1=>?_
  .have j:tB e=jp:=by simp only[tB,dY, *];rfl
   rw[j]at hk;refine gA Z (iB (d146 w jp) ?_);refine gA Z (iB (hk) ?_);refine gA Z iZ
  refine gA Z (zp (MT e.op) ?_);have j:tB e=kw (cE e.op>0):=by simp only[tB,dY, *];rfl
  rw[j]at hk;refine gA Z (iB (d146 w (kw (cE e.op>0))) ?_);refine gA Z (iB (hk) ?_);refine gA Z iZ
 have y: ¬e.kind=4:=zF G;rw[j9,be B,be u,be x,be y];refine gA Z iZ
theorem pe0:PE 0:=fun d w e hd hb=>by
 refine aj ab func212 Z (by decide) ntmps212 Z (by simp) ?_;rw[cV]
 repeat' (first
  |((rename_i h;exact absurd (by omega:d<0) (zF h)))
  |(refine gA Z (zI (fun _=>?_) (fun _=>?_)))
  |(refine gA Z (xQ (by first|exact .inr Z|exact .inl Z) Z Z Z Z Z (by first|exact .refl _|exact .kb _) (by first|exact .refl _|exact .kb _) Z Z Z Z (.refl _) Z Z)))
theorem Cv: ∀n,n<=900->PE n
 |0,_=>pe0
 |1,_=>fun d w e hd hb=>d189 d (by omega) (by omega) w e hb _ (TH (d-1) (by omega) (aU w (tB e)) e)
 |m+2,h=>fun d w e hd hb=>d189 d (by omega) (by omega) w e (by omega) _ (d213 m (by omega) (Cv (m+1) (by omega)) (Cv m (by omega)) (d-1) (by omega) (aU w (tB e)) e (by rw[aR];omega))
theorem pC(w:WS)(e:Expr)(hb:w.l.length+e.ts<=900000000):bg prog 212 [.ptr 0 0,ag e.c,pI 16] w.O (.aZ []) (cV 17 w e).H 3:=Cv 17 (by omega) 16 w e (by omega) (by omega)
def wq:aq:=⟨#[44,32]⟩
def P4:aq:=⟨#[95]⟩
def eV(i:Nat)(w:WS):WS:=if i=0 then w else aT w [wq]
def yJ(t:Term):Bool:=fX t.var&&dY t.val
def yK(t:Term):Bool:=kw (t.var=⟨#[]⟩)&&dY t.val
def kO(w:WS)(t:Term):WS:=
 if t.kind=1 then aT (aU w (yJ t)) [t.var] else if t.kind=2 then nK (aU w (kw (t.var=⟨#[]⟩))) t.val else if t.kind=3 then aT (aU w (yK t)) [P4] else nE w
def gp(l:List Term)(w:WS):Nat->WS
 |0=>w
 |i+1=>kO (eV i (gp l w i)) (l.getD i ci)
def il(w:WS)(a:Atom):WS:=aT (gp a.an (aT (aU w (fM a.rel)) [a.rel,sO]) a.an.length) [sC]
def Term.ts(t:Term):Nat:=t.var.size+310
def Atom.ts(a:Atom):Nat:=a.rel.size+10+(a.an.map Term.ts).sum
theorem iV(i:Nat)(w:WS):(eV i w).l.length<=w.l.length+2:=by
 have e:wq.size=2:=rfl;unfold eV;split
 .omega
 .rw[aK,e];omega
theorem ES(w:WS)(t:Term):(kO w t).l.length<=w.l.length+300+t.var.size:=by
 have e:P4.size=1:=rfl;unfold kO
 repeat' split
 .rw[aK,aR];omega
 .have:=ur (aU w (kw (t.var=⟨#[]⟩))) t.val;rw[aR]at this;omega
 .rw[aK,aR,e];omega
 .rw[fj];omega
theorem wU: ∀(l:List Term) (i:Nat),i<l.length->((l.take i).map Term.ts).sum+(l.getD i ci).ts<=(l.map Term.ts).sum
 | [],i,h=>by simp at h
 |s::r,0,_=>by simp
 |s::r,i+1,h=>by
  have:=wU r i (by simpa using h);simp at this ⊢;omega
theorem Dv: ∀(l:List Term) (i:Nat),((l.take i).map Term.ts).sum<=(l.map Term.ts).sum
 | [],i=>by simp
 |s::r,0=>by simp
 |s::r,i+1=>by have:=Dv r i;simp at this ⊢;omega
theorem pL(l:List Term)(w:WS): ∀i,i<=l.length->(gp l w i).l.length<=w.l.length+((l.take i).map Term.ts).sum
 |0,_=>by simp[gp]
 |i+1,h=>by
  have h1:=pL l w i (by omega);have j:=iV i (gp l w i);have u:=ES (eV i (gp l w i)) (l.getD i ci);have x:(l.getD i ci).ts=(l.getD i ci).var.size+310:=rfl;have y:((l.take (i+1)).map Term.ts).sum=((l.take i).map Term.ts).sum+(l.getD i ci).ts:=by
   rw[bS (by omega),VD,List.sum_append];simp
  rw[gp];omega
theorem oX(w:WS)(a:Atom):(il w a).l.length<=w.l.length+a.ts:=by
 have j:sO.size=1:=rfl;have u:sC.size=1:=rfl;have x:eB [a.rel,sO]=a.rel.size+1:=by simp[eB,j]
 have h1:=pL a.an (aT (aU w (fM a.rel)) [a.rel,sO]) a.an.length (VA _);rw[gB,x,aR,WG]at h1;rw[il,aK,u];unfold Atom.ts;omega
theorem xx: ∀l:List Term,l.length<=(l.map Term.ts).sum
 | []=>by simp
 |t::r=>by have:=xx r;simp[Term.ts]at this ⊢;omega
set_option maxHeartbeats 1000000 in
theorem d104(w:WS)(a:Atom)(hb:w.l.length+a.ts<=900000000):bg prog 123 [.ptr 0 0,ag a.c] w.O (.aZ []) (il w a).H 3:=by
 have Y:sO.size=1:=rfl;have e2:sC.size=1:=rfl;have A:wq.size=2:=rfl;have e5:P4.size=1:=rfl;have J:eB [a.rel,sO]=a.rel.size+1:=by simp[eB,Y]
 have i0:a.ts=a.rel.size+10+(a.an.map Term.ts).sum:=rfl;have d0:=xx a.an;have b0:(aT (aU w (fM a.rel)) [a.rel,sO]).l.length=w.l.length+(a.rel.size+1):=by rw[gB,J,aR]
 refine aj ab func123 Z (by decide) ntmps123 Z (by simp) ?_;refine gA Z (zp (TP a.rel) ?_);refine gA Z (iB (d146 w (fM a.rel)) ?_);refine gA Z (jn (d147 (aU w (fM a.rel)) [a.rel,sO] (by simp) (by rw[J,aR];omega)) ?_);generalize hW:aT (aU w (fM a.rel)) [a.rel,sO]=w1 at*
 refine gA Z ?_;refine aM 0 a.an.length (VB _) (fun i=>⟨[(0,.ptr 0 0),(17,.iv (a7 5 a.an Term.c)),(18,pI a.an.length),(19,pI i)],[(0,co ((gp a.an w1 i).qt 0 6)),(6,co (.bu (gp a.an w1 i).l 5))],7⟩) (fun _=>True) _ ac
  (JE (w:=w1) Z Z Z Z Z (.refl _) (.refl _) Z Z Z Z Z (bi (bi (bi (bi trivial))))) fun i hi _=>?_
 have c0:=pL a.an w1 i hi;have e0:=Dv a.an i;refine zE Z Z (fun h1=>?_) fun h1=>?_
 .have h1:a.an.length<=i:=zG h1;have I:i=a.an.length:=by omega
  subst I;refine gA Z (jn (d147 (gp a.an w1 a.an.length) [sC] (by simp) (by rw[bt,e2];omega)) ?_);rw[il,hW];refine gA Z iZ
 have h1:i<a.an.length:=zN h1;have f0:=wU a.an i h1;have hs:gp a.an w1 (i+1)=kO (eV i (gp a.an w1 i)) (a.an.getD i ci):=rfl;have ht:(a.an.getD i ci).ts=(a.an.getD i ci).var.size+310:=rfl;have j0:=rN (a.an.getD i ci).val;have a0:=iV i (gp a.an w1 i);generalize hT:gp a.an w1 i=w2 at*
 refine zJ Z Z (fun B=>?_) fun B=>?_
 .have B: ¬i=0:=by have:=zT B;omega
  rw[eV,be B]at hs;refine gA Z (jn (d147 w2 [wq] (by simp) (by rw[bt,A];omega)) ?_);refine zJ Z Z (fun C=>?_) fun C=>?_
  .have j:(a.an.getD i ci).kind=1:=zT C;rw[kO,am j]at hs;refine gA Z (zp (De (a.an.getD i ci).var) ?_);refine zE Z Z (fun g0=>?_) fun g0=>?_
   .have x:yJ (a.an.getD i ci)=jp:=by have g:fX (a.an.getD i ci).var=jp:=g0;rw[yJ,g];rfl
    rw[x]at hs;refine gA Z (iB (d146 (aT w2 [wq]) jp) ?_);refine gA Z (jn (d147 (aU (aT w2 [wq]) jp) [(a.an.getD i ci).var] (by simp) (by rw[bt,aR];first|omega|(rw[aK,A];omega))) ?_);refine gA Z ⟨h1,ac,_,qz (hs.symm)⟩
   have x:yJ (a.an.getD i ci)=dY (a.an.getD i ci).val:=by have g:fX (a.an.getD i ci).var=is:=g0;rw[yJ,g];rfl
   rw[x]at hs;refine gA Z (iB (d146 (aT w2 [wq]) (dY (a.an.getD i ci).val)) ?_);refine gA Z (jn (d147 (aU (aT w2 [wq]) (dY (a.an.getD i ci).val)) [(a.an.getD i ci).var] (by simp) (by rw[bt,aR];first|omega|(rw[aK,A];omega))) ?_);refine gA Z ⟨h1,ac,_,qz (hs.symm)⟩
  have j: ¬(a.an.getD i ci).kind=1:=zF C;refine zJ Z Z (fun D=>?_) fun D=>?_
  .have u:(a.an.getD i ci).kind=2:=zT D;rw[kO,be j,am u]at hs;refine gA Z (iB (d146 (aT w2 [wq]) (kw ((a.an.getD i ci).var=⟨#[]⟩))) ?_);refine gA Z (iB (d149 (aU (aT w2 [wq]) (kw ((a.an.getD i ci).var=⟨#[]⟩))) (a.an.getD i ci).val (by rw[aR];first|omega|(rw[aK,A];omega)) (by omega)) ?_);refine gA Z ⟨h1,ac,_,qz (hs.symm)⟩
  have u: ¬(a.an.getD i ci).kind=2:=zF D;refine zJ Z Z (fun G=>?_) fun G=>?_
  .have y:(a.an.getD i ci).kind=3:=zT G;rw[kO,be j,be u,am y]at hs;refine zE Z Z (fun g0=>?_) fun g0=>?_
   .have x:yK (a.an.getD i ci)=jp:=by have g:kw ((a.an.getD i ci).var=⟨#[]⟩)=jp:=g0;rw[yK,g];rfl
    rw[x]at hs;refine gA Z (iB (d146 (aT w2 [wq]) jp) ?_);refine gA Z (jn (d147 (aU (aT w2 [wq]) jp) [P4] (by simp) (by rw[bt,aR];first|omega|(rw[aK,A];omega))) ?_);refine gA Z ⟨h1,ac,_,qz (hs.symm)⟩
   have x:yK (a.an.getD i ci)=dY (a.an.getD i ci).val:=by have g:kw ((a.an.getD i ci).var=⟨#[]⟩)=is:=g0;rw[yK,g];rfl
   rw[x]at hs;refine gA Z (iB (d146 (aT w2 [wq]) (dY (a.an.getD i ci).val)) ?_);refine gA Z (jn (d147 (aU (aT w2 [wq]) (dY (a.an.getD i ci).val)) [P4] (by simp) (by rw[bt,aR];first|omega|(rw[aK,A];omega))) ?_);refine gA Z ⟨h1,ac,_,qz (hs.symm)⟩
  have y: ¬(a.an.getD i ci).kind=3:=zF G;rw[kO,be j,be u,be y]at hs;refine gA Z ⟨h1,ac,_,qz (hs.symm)⟩
 .have B:i=0:=by have:=zF B;omega
  rw[eV,am B]at hs;refine zJ Z Z (fun C=>?_) fun C=>?_
  .have j:(a.an.getD i ci).kind=1:=zT C;rw[kO,am j]at hs;refine gA Z (zp (De (a.an.getD i ci).var) ?_);refine zE Z Z (fun g0=>?_) fun g0=>?_
   .have x:yJ (a.an.getD i ci)=jp:=by have g:fX (a.an.getD i ci).var=jp:=g0;rw[yJ,g];rfl
    rw[x]at hs;refine gA Z (iB (d146 w2 jp) ?_);refine gA Z (jn (d147 (aU w2 jp) [(a.an.getD i ci).var] (by simp) (by rw[bt,aR];first|omega|(rw[aK,A];omega))) ?_);refine gA Z ⟨h1,ac,_,qz (hs.symm)⟩
   have x:yJ (a.an.getD i ci)=dY (a.an.getD i ci).val:=by have g:fX (a.an.getD i ci).var=is:=g0;rw[yJ,g];rfl
   rw[x]at hs;refine gA Z (iB (d146 w2 (dY (a.an.getD i ci).val)) ?_);refine gA Z (jn (d147 (aU w2 (dY (a.an.getD i ci).val)) [(a.an.getD i ci).var] (by simp) (by rw[bt,aR];first|omega|(rw[aK,A];omega))) ?_);refine gA Z ⟨h1,ac,_,qz (hs.symm)⟩
  have j: ¬(a.an.getD i ci).kind=1:=zF C;refine zJ Z Z (fun D=>?_) fun D=>?_
  .have u:(a.an.getD i ci).kind=2:=zT D;rw[kO,be j,am u]at hs;refine gA Z (iB (d146 w2 (kw ((a.an.getD i ci).var=⟨#[]⟩))) ?_);refine gA Z (iB (d149 (aU w2 (kw ((a.an.getD i ci).var=⟨#[]⟩))) (a.an.getD i ci).val (by rw[aR];first|omega|(rw[aK,A];omega)) (by omega)) ?_);refine gA Z ⟨h1,ac,_,qz (hs.symm)⟩
  have u: ¬(a.an.getD i ci).kind=2:=zF D;refine zJ Z Z (fun G=>?_) fun G=>?_
  .have y:(a.an.getD i ci).kind=3:=zT G;rw[kO,be j,be u,am y]at hs;refine zE Z Z (fun g0=>?_) fun g0=>?_
   .have x:yK (a.an.getD i ci)=jp:=by have g:kw ((a.an.getD i ci).var=⟨#[]⟩)=jp:=g0;rw[yK,g];rfl
    rw[x]at hs;refine gA Z (iB (d146 w2 jp) ?_);refine gA Z (jn (d147 (aU w2 jp) [P4] (by simp) (by rw[bt,aR];first|omega|(rw[aK,A];omega))) ?_);refine gA Z ⟨h1,ac,_,qz (hs.symm)⟩
   have x:yK (a.an.getD i ci)=dY (a.an.getD i ci).val:=by have g:kw ((a.an.getD i ci).var=⟨#[]⟩)=is:=g0;rw[yK,g];rfl
   rw[x]at hs;refine gA Z (iB (d146 w2 (dY (a.an.getD i ci).val)) ?_);refine gA Z (jn (d147 (aU w2 (dY (a.an.getD i ci).val)) [P4] (by simp) (by rw[bt,aR];first|omega|(rw[aK,A];omega))) ?_);refine gA Z ⟨h1,ac,_,qz (hs.symm)⟩
  have y: ¬(a.an.getD i ci).kind=3:=zF G;rw[kO,be j,be u,be y]at hs;refine gA Z ⟨h1,ac,_,qz (hs.symm)⟩
end Go.Proofs.YtlmhfgbkchnfbaaGreatDoor
namespace Go.Proofs.YtlmhfgbkchnfbaaGreatDoor
open Go Go.Al
def Ce:aq:=⟨#[110,111,116,32]⟩
def rS:aq:=⟨#[32,61,32]⟩
def rT:aq:=⟨#[32,123,32]⟩
def Gi:aq:=⟨#[32,58,32]⟩
def Ah:aq:=⟨#[32,125]⟩
def vJ(op:Int):aq:=if op=1 then⟨#[32,61,32]⟩ else if op=2 then⟨#[32,33,61,32]⟩ else if op=3 then⟨#[32,60,32]⟩ else if op=4 then⟨#[32,60,61,32]⟩ else if op=5 then⟨#[32,62,32]⟩ else⟨#[32,62,61,32]⟩
def jD(f:Int):aq:=if f=1 then⟨#[99,111,117,110,116]⟩ else if f=2 then⟨#[115,117,109]⟩ else if f=3 then⟨#[109,105,110]⟩ else⟨#[109,97,120]⟩
def we(w:WS)(n:Int):WS:=⟨w.fr,w.l,w.bad,w.br+n⟩
def c8(f:Lit->WS->WS)(l:List Lit)(w:WS):Nat->WS
 |0=>w
 |i+1=>if(c8 f l w i).bad=is then c8 f l w i else f (l.getD i ci) (eV i (c8 f l w i))
def qU(w:WS)(a:gJ):WS:=if a.func=1 then aU w (jR a.j7) else aT (cV 17 w a.j7) [Gi]
def zj(f:Lit->WS->WS)(w:WS)(a:gJ):WS:=
 if a.func<1∨5<=a.func∨16<=w.br∨a.body.length=0 then nE w
 else aT (we (c8 f a.body (we (qU (aT (aU w (fX a.var)) [a.var,rS,jD a.func,rT]) a) 1) a.body.length) (-1)) [Ah]
def CI(f:Lit->WS->WS)(l:Lit)(w:WS):WS:=
 if l.kind=2 then il (aT w [Ce]) l.atom else if l.kind=1 then il w l.atom
 else if l.kind=3 then(if l.op<1∨7<=l.op then nE (cV 17 w l.left) else cV 17 (aT (cV 17 w l.left) [vJ l.op]) l.right)
 else if l.kind=4 then zj f w l.agg else nE w
def dw:Nat->Lit->WS->WS
 |0,_,w=>w
 |n+1,l,w=>CI (dw n) l (aU w (lx l))
theorem bP: ∀(j:List aq) (w:WS),(aT w j).br=w.br
 | [],w=>rfl
 |s::r,w=>bP r (Az w s)
theorem u4(w:WS)(b:Bool):(aU w b).br=w.br:=rfl
theorem M5(w:WS):(nE w).br=w.br:=rfl
theorem wL(w:WS)(v:cN):(nK w v).br=w.br:=by rw[nK,bP];rfl
theorem Bc(w k:WS)(e:Expr)(h:k.br=w.br):(j9 w e k).br=w.br:=by
 unfold j9
 repeat' split
 .rfl
 .rw[bP];rfl
 .rw[wL];rfl
 .exact h
 .rfl
theorem HE(a0:Bool->WS->Expr->WS)(j: ∀b w a,(a0 b w a).br=w.br)(w:WS)(e:Expr):(lM a0 w e).br=w.br:=by
 unfold lM
 repeat' split
 .rfl
 .rw[j,bP,bP]
 .rw[j,bP]
 .rfl
 .rw[j,bP,j]
 .rfl
theorem l9: ∀(n:Nat) (w:WS) (e:Expr),(cV n w e).br=w.br
 |0,w,e=>rfl
 |1,w,e=>by rw[cV];exact Bc _ _ _ Z
 |m+2,w,e=>by
  rw[cV];refine Bc _ _ _ ?_;rw[HE _ (fun b w a=>?_)]
  .rfl
  .split
   .rw[bP,l9 m,bP]
   .exact l9 (m+1) _ _
theorem oT(i:Nat)(w:WS):(eV i w).br=w.br:=by
 unfold eV;split
 .rfl
 .exact bP _ _
theorem GG(w:WS)(t:Term):(kO w t).br=w.br:=by
 unfold kO
 repeat' split
 .rw[bP];rfl
 .rw[wL];rfl
 .rw[bP];rfl
 .rfl
theorem wT(l:List Term)(w:WS): ∀i,(gp l w i).br=w.br
 |0=>rfl
 |i+1=>by rw[gp,GG,oT,wT l w i]
theorem mh(w:WS)(a:Atom):(il w a).br=w.br:=by rw[il,bP,wT,bP];rfl
theorem mf(f:Lit->WS->WS)(hf: ∀l w,(f l w).br=w.br)(l:List Lit)(w:WS): ∀i,(c8 f l w i).br=w.br
 |0=>rfl
 |i+1=>by
  rw[c8];split
  .exact mf f hf l w i
  .rw[hf,oT,mf f hf l w i]
theorem HI(w:WS)(a:gJ):(qU w a).br=w.br:=by
 unfold qU;split
 .rfl
 .rw[bP,l9]
theorem Nc(f:Lit->WS->WS)(hf: ∀l w,(f l w).br=w.br)(w:WS)(a:gJ):(zj f w a).br=w.br:=by
 unfold zj;split
 .rfl
 .rw[bP];show(c8 _ _ _ _).br+ -1=_;rw[mf f hf];show(qU _ _).br+1+ -1=_;rw[HI,bP,u4];omega
theorem Mh(f:Lit->WS->WS)(hf: ∀l w,(f l w).br=w.br)(l:Lit)(w:WS):(CI f l w).br=w.br:=by
 unfold CI
 repeat' split
 .rw[mh,bP]
 .exact mh _ _
 .rw[M5,l9]
 .rw[l9,bP,l9]
 .exact Nc f hf _ _
 .rfl
theorem tU: ∀(n:Nat) (l:Lit) (w:WS),(dw n l w).br=w.br
 |0,_,_=>rfl
 |n+1,l,w=>by rw[dw,Mh (dw n) (tU n)];rfl
mutual
def Lit.ts:Lit->Nat
 | .mk _ a _ l r _ v o b _=>100+a.ts+l.ts+r.ts+v.size+o.ts+Lit.mq b
def Lit.mq:List Lit->Nat
 | []=>0
 |e::r=>e.ts+Lit.mq r
end
theorem Lit.sK(l:Lit):l.ts=100+l.atom.ts+l.left.ts+l.right.ts+l.bE.size+l.jT.ts+Lit.mq l.ay:=by cases l;rfl
theorem Lit.zA: ∀(l:List Lit) (i:Nat),i<l.length->Lit.mq (l.take i)+(l.getD i ci).ts<=Lit.mq l
 | [],i,h=>by simp at h
 |s::r,0,_=>by simp[Lit.mq]
 |s::r,i+1,h=>by
  have:=Lit.zA r i (by simpa using h);simp only[WM,Lit.mq,WQ];omega
theorem Lit.GA: ∀(l:List Lit) (i:Nat),Lit.mq (l.take i)<=Lit.mq l
 | [],i=>by simp
 |s::r,0=>by simp[Lit.mq]
 |s::r,i+1=>by have:=Lit.GA r i;simp only[WM,Lit.mq];omega
theorem Lit.PL(l:Lit):100<=l.ts:=by rw[l.sK];omega
theorem I9(op:Int):(vJ op).size<=4:=by
 unfold vJ
 repeat' split
 all_goals decide
theorem Bz(op:Int):(jD op).size<=5:=by
 unfold jD
 repeat' split
 all_goals decide
def Nf(f:Lit->WS->WS):Prop:= ∀l w,(f l w).l.length+4<=w.l.length+l.ts
theorem me(f:Lit->WS->WS)(hf:Nf f)(l:List Lit)(w:WS): ∀i,i<=l.length->(c8 f l w i).l.length<=w.l.length+Lit.mq (l.take i)
 |0,_=>by simp[c8,Lit.mq]
 |i+1,h=>by
  have h1:=me f hf l w i (by omega);have y:Lit.mq (l.take (i+1))=Lit.mq (l.take i)+(l.getD i ci).ts:=by
   rw[bS (by omega)];have: ∀(a:List Lit) (b:Lit),Lit.mq (a++ [b])=Lit.mq a+b.ts:=by
    intro a b
    induction a with
    |nil=>simp[Lit.mq]
    |cons x r ih=>simp only[VT,Lit.mq,ih];omega
   exact this _ _
  rw[c8];split
  .omega
  .have j:=hf (l.getD i ci) (eV i (c8 f l w i));have u:=iV i (c8 f l w i);omega
theorem DY(w:WS)(a:gJ):(qU w a).l.length<=w.l.length+a.j7.ts+3:=by
 have e:Gi.size=3:=rfl;unfold qU;split
 .rw[aR];omega
 .have:=di 17 w a.j7;rw[aK,e];omega
theorem xC(w:WS)(a:gJ):(aT (aU w (fX a.var)) [a.var,rS,jD a.func,rT]).l.length<=w.l.length+a.var.size+11:=by
 have j:rS.size=3:=rfl;have u:rT.size=3:=rfl;have h:=Bz a.func;have e:eB [a.var,rS,jD a.func,rT]=a.var.size+(3+((jD a.func).size+3)):=by simp[eB,j,u]
 rw[gB,aR,e];omega
theorem Jw(f:Lit->WS->WS)(hf:Nf f)(w:WS)(a:gJ):(zj f w a).l.length<=w.l.length+a.var.size+a.j7.ts+Lit.mq a.body+20:=by
 have e:Ah.size=2:=rfl;unfold zj;split
 .rw[fj];omega
 .rw[aK,e];show(c8 _ _ _ _).l.length+2<=_;have h1:=me f hf a.body (we (qU (aT (aU w (fX a.var)) [a.var,rS,jD a.func,rT]) a) 1) a.body.length (VA _);rw[WG]at h1;have j:=DY (aT (aU w (fX a.var)) [a.var,rS,jD a.func,rT]) a;have u:=xC w a;have x:(we (qU (aT (aU w (fX a.var)) [a.var,rS,jD a.func,rT]) a) 1).l.length=(qU (aT (aU w (fX a.var)) [a.var,rS,jD a.func,rT]) a).l.length:=rfl;omega
theorem H0(f:Lit->WS->WS)(hf:Nf f)(l:Lit)(w:WS):(CI f l w).l.length+4<=w.l.length+l.ts:=by
 have y:=l.sK;have e:Ce.size=4:=rfl;unfold CI
 repeat' split
 .have h1:=oX (aT w [Ce]) l.atom;rw[aK,e]at h1;omega
 .have h1:=oX w l.atom;omega
 .have h1:=di 17 w l.left;rw[fj];omega
 .have h1:=di 17 w l.left;have j:=di 17 (aT (cV 17 w l.left) [vJ l.op]) l.right;have u:=I9 l.op;rw[aK]at j;omega
 .have h1:=Jw f hf w l.agg;have j:l.agg.var=l.bE:=rfl;have u:l.agg.j7=l.jT:=rfl;have x:l.agg.body=l.ay:=rfl;rw[j,u,x]at h1;omega
 .rw[fj];omega
theorem q8: ∀n,Nf (dw n)
 |0=>fun l w=>by have:=l.PL;rw[dw];omega
 |n+1=>fun l w=>H0 (dw n) (q8 n) l (aU w (lx l))
theorem x4{f:Lit->WS->WS}{l:List Lit}{w:WS}{i:Nat}(h:(c8 f l w i).bad=is): ∀k,c8 f l w (i+k)=c8 f l w i
 |0=>rfl
 |k+1=>by
  have:=x4 h k;rw[<-WB,c8,this,am h]
end Go.Proofs.YtlmhfgbkchnfbaaGreatDoor
