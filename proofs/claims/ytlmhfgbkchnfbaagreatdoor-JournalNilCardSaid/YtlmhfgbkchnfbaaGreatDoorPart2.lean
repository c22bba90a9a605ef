/-
  What the proofs of the claims need: part 2 of 5.
-/
import Derived.Test.YtlmhfgbkchnfbaaGreatDoorPart1
import Derived.Maps.RangeRun
import Derived.Deep.Slices
import Derived.ReadAgain
import Derived.ChangeStays
import Derived.ChangeSame
import Derived.WideShapes
import Derived.RowKit
import Derived.Lib.AppendStr
import Derived.Laws.IdiomStrings
import Derived.Laws.BytesArg
import Derived.Laws.MakeOwn
import Derived.Laws.Slices
import Derived.Lib.SliceRun
import Derived.Shelf.GgSortFunc.RowK
import Derived.StillTail
open Array renaming append_assoc→X7,empty_append→YX,eq_empty_of_size_eq_zero→WJ,extract_size→YY,getD_eq_getD_getElem?→Vn,getElem?_append_left→V3,getElem?_append_right→Xi,getElem?_eq_getElem→V6,getElem?_eq_none→XN,getElem?_eq_some_iff→WC,getElem?_map→X6,getElem?_modify→VZ,getElem?_push→XF,getElem?_setIfInBounds→V1,getElem?_toList→VY,getElem_of_mem→YO,length_toList→Xw,mem_filter→Yj,mem_toList_iff→YN,range→Yu,size_append→W1,toArray_toList→W5
open Bool renaming and_eq_true→Wf,false_eq_true→Xe,not_eq_true'→WA,not_true→XO,or_eq_false_iff→Xg,or_eq_true→Xz
open Classical renaming choose→XW,choose_spec→Xm
open Decidable renaming byContradiction→XY
open Int renaming toNat_natCast→Vu
open List.Nodup renaming length_le_of_subset→WK
open List.Pairwise renaming filter→XE
open List renaming all_eq_true→Wc,any_eq_false→Wm,any_eq_true→WN,append_assoc→VF,append_nil→We,cons_append→VT,eq_nil_of_length_eq_zero→V9,ext_getElem→XX,ext_getElem?→XD,filter_congr→Xs,filter_cons→Xh,filter_eq_self→X0,getD_cons_succ→WQ,getD_cons_zero→Xk,getD_eq_getElem?_getD→Vr,getElem?_append_left→VJ,getElem?_append_right→VK,getElem?_drop→Wl,getElem?_eq_getElem→Vt,getElem?_eq_some_iff→Vs,getElem?_map→Vv,getElem?_of_mem→Wh,getElem?_range→XZ,getElem?_set→Xd,getElem?_take→V8,getElem?_toArray→Wd,getElem_map→Xb,getElem_mem→Wj,length_append→Vp,length_cons→VX,length_drop→Wu,length_eq_zero_iff→WT,length_map→VS,length_nil→WH,length_pos_iff→WD,length_singleton→VW,length_take→V7,map_append→VD,map_congr_left→WE,map_cons→Vy,map_map→Wx,map_nil→VQ,mem_append→VM,mem_append_left→Wi,mem_append_right→WY,mem_cons→VH,mem_cons_of_mem→VE,mem_cons_self→VG,mem_filter→V4,mem_map→V5,mem_of_getElem?→V2,mem_range→WX,mem_singleton→Vz,nil_append→VU,nodup_append→W3,nodup_cons→Wb,nodup_nil→Wn,pairwise_cons→Wz,pairwise_iff_getElem→WI,perm_ext_iff_of_nodup→W6,range→V0,replicate→XU,size_toArray→XC,take_append_drop→XR,take_of_length_le→VI,take_succ_eq_append_getElem→Yc
open Nat renaming add_assoc→WB,add_mul→Wg,add_zero→WZ,beq→VP,ble→Xr,ble_eq_true_of_le→Wo,blt→VV,eq_of_beq_eq_true→VN,le_add_right→Yk,le_of_ble_eq_true→Vm,le_of_not_lt→W9,le_refl→VA,le_succ→Xx,le_trans→Wr,lt_irrefl→Yn,lt_of_le_of_lt→YW,lt_of_lt_of_le→W4,lt_or_ge→Wp,lt_succ_of_lt→W2,lt_succ_self→Xa,lt_trichotomy→XA,mod_eq_of_lt→XH,mul_comm→Yd,mul_le_mul_right→VO,mul_one→XT,ne_of_lt→YC,not_lt_zero→Xl,sub_zero→Yb,succ_mul→W8,zero_add→VL,zero_le→VB,zero_mul→W0
open Option renaming getD_some→Wv,map_eq_some_iff→Vw,map_none→Xu,map_some→Ww
open Option.some renaming inj→Wq,injEq→Vq
open Prod.mk renaming injEq→VC
set_option maxRecDepth 100000
open Bool renaming false→jp,true→is
open Decidable renaming decide→kw
open Inhabited renaming default→ci
open Option renaming none→io,some→co
open Nat renaming sub_mul→YM
namespace Go.Al
section
section
variable {P:Program} {ty:Ty} {nt:NT} {s:AS} {Q:AQ} {k:List KI}
def TZ(nt:NT)(o:Oper)(s:AS)(i:Nat)(kc:KC){V:Type}(e:V->IV)(m:List (kc.K×V))(vs:List Nat)(t:AS):Prop:=
 ((∀j,j<m.length->j∈vs)∧putDst nt o (.aZ [.kb jp]) s=co t)∨
 ∃j x,m[j]? =co x∧j∉vs∧putDst nt o (.aZ [.kb is,kc.pk x.1,(e x.2).pv]) ⟨s.f,(i,co (.bX kc e m (j::vs) (co x)))::s.h,s.nx⟩=co t
theorem L4{o:Oper}{it:Operand}(ho:o.op= .next it jp){i:Nat}(s0:ev s.f it= .ptr i 0){kc:KC}{V:Type}{e:V->IV}{m:List (kc.K×V)}{vs:List Nat}{r0:Option (kc.K×V)}
  (hi:s.h.get i=co (.bX kc e m vs r0)) {d:Nat} (hd:o.dst=co d) (hlt:d<nt):OT P nt o s (TZ nt o s i kc e m vs):=by
 intro M N a w hf K Z hk;have hx:=aN hf.2.1 it;rw[s0]at hx;have i0:=hf.1.obj i _ hi;have c0:N.az i<w.heap.size:=OR.lt i0 rfl;have d0:a.eval it= .pointer (co ⟨N.az i,0,io⟩):=by
  generalize a.eval it=y at hx;cases hx;rfl
 have J: ∀p s1,∃t,putDst nt o p s1=co t∧t={s1 with f:=(d,p)::s1.f}:=by
  intro p s1;have hb:VV d nt=is:=Wo hlt;obtain⟨f,h,n⟩:=s1;exact⟨_,by simp only[putDst,hd,hb,cond_true,dB],rfl⟩
 rcases i0 with⟨rfl,rfl,rfl,h0⟩|⟨b,ents,clock,u,h1,h2,G,h4,h5,h6,h7⟩
 .have B:(execOp a.eval o).run P w= .ok (.value (.tuple #[.bool jp])) w:=by
   simp only[execOp,ho,d0];refine aW ?_;simp only[Instr.next,getObj,Sem.run_bind,Sem.run,h0,Result.andThen];rfl
  unfold Oper.wp;rw[B];simp only[Oper.upon];obtain⟨t,ht,C⟩:=J (.aZ [.kb jp]) s
  refine hk M N t _ w (by rw[C];exact .refl _ _ _ _ _) (by
   rw[C,hd]
   exact hf.put d _ _ hlt (.aZ _ _ rfl fun j p D=>by
    match j with
    |0=>simp at D;subst D;exact .kb _
    |j+1=>simp at D)) (.inl ⟨fun j I=>absurd I (Xl _),ht⟩)
 have hb:w.heap[b]? =co (.map ents clock):=hf.1.dA _ _ h2;have z0: ∀j,j<ents.size->ents.getD j ci=ents[j]! :=fun j I=>by simp[Vn,I,getElem!_pos]
 have g0: ∀x∈ents.toList,x.born<clock:=by
  intro x hx;obtain⟨j,I⟩:=Wh hx;exact G.lt j x (by simpa using I)
 unfold Oper.wp;rcases run_next_at (P:=P) w o.type (N.az i) b clock clock u ents clock h1 hb g0 (VA _) with⟨g1,g2⟩|⟨x,q0,w1,p0,g2⟩
 .have B:(execOp a.eval o).run P w= .ok (.value (.tuple #[.bool jp])) w:=by
   simp only[execOp,ho,d0];exact aW g2
  rw[B];simp only[Oper.upon];obtain⟨t,ht,C⟩:=J (.aZ [.kb jp]) s
  refine hk M N t _ w (by rw[C];exact .refl _ _ _ _ _) (by
   rw[C,hd]
   exact hf.put d _ _ hlt (.aZ _ _ rfl fun j p D=>by
    match j with
    |0=>simp at D;subst D;exact .kb _
    |j+1=>simp at D)) (.inl ⟨fun j I=>?_,ht⟩)
  have t0:j<ents.size:=by rw[G.size];exact I
  have f0:(ents[j]).born∈u:=by
   refine XY fun hn=>?_
   have:ents[j]∈leftOf ents u:=by
    simp only[leftOf,Yj];exact⟨by simp,by simpa using hn⟩
   rw[WJ g1]at this;simp at this
  have:(ents[j]).born∈u.toList:=by simpa using f0
  rw[h4,V5]at this;obtain⟨q,hq,n0⟩:=this;have o0:q∈vs:=by simpa using hq
  have m0:q<ents.size:=by rw[G.size];exact h5 q o0
  rw[G.CZ m0]at n0;have:=G.inj q j ents[q] ents[j] (by simp[m0]) (by simp[t0]) n0;rw[<-this];exact o0
 .have B:(execOp a.eval o).run P w= .ok (.value (.tuple #[.bool is,x.key,x.val])) (nR w1 (N.az i) (.mapIter (co b) clock (u.push x.born) clock)):=by
   simp only[execOp,ho,d0];rw[Sem.run_bind,g2];rfl
  rw[B];simp only[Oper.upon];simp only[leftOf,YN,Yj]at q0;obtain⟨w0,x0⟩:=q0;obtain⟨j,I,e0⟩:=YO w0;have j0:j<m.length:=by rw[<-G.size];exact I
  have Y:m[j]? =co m[j]:=Vt j0;have k0:j∉vs:=by
   intro hv;have:(ents[j]).born∈u.toList:=by
    rw[h4,V5];exact⟨j,by simpa using hv,by rw[G.CZ I]⟩
   rw[e0]at this;have:x.born∈u:=by simpa using this
   simp[this]at x0
  obtain⟨t,ht,C⟩:=J (.aZ [.kb is,kc.pk m[j].1,(e m[j].2).pv]) ⟨s.f,(i,co (.bX kc e m (j::vs) (co m[j])))::s.h,s.nx⟩;have A:w1.heap=w.heap∧w1.os=w.os∧w1.tape=w.tape∧w1.output=w.output:=by
   rcases p0 with rfl|rfl<;>exact⟨rfl,rfl,rfl,rfl⟩
  have v0:OR M N (· <s.nx) (nR w1 (N.az i) (.mapIter (co b) clock (u.push x.born) clock)) i (.bX kc e m (j::vs) (co m[j])):=by
   refine .inr ⟨b,ents,clock,u.push x.born,?_,h2,G,?_,?_,?_,?_⟩
   .show(w1.heap.setIfInBounds _ _)[_]? =_;rw[V1,am rfl,A.1,am c0]
   .simp only[Array.toList_push,h4,List.reverse_cons,VD,Vy,VQ];rw[G.CZ I,e0]
   .intro q hq;rcases VH.1 hq with rfl|hq
    .exact j0
    .exact h5 q hq
   .exact Wb.2 ⟨k0,h6⟩
   .intro y hy;simp only[Vq]at hy;subst hy;exact⟨j,vs,rfl,Y⟩
  obtain⟨q1,q2⟩:=hf.1.write hi rfl (nR w1 (N.az i) (.mapIter (co b) clock (u.push x.born) clock)) _ A.2.1 A.2.2.1 A.2.2.2 (by simp[nR,A.1]) (fun c hc=>by
   show(w1.heap.setIfInBounds _ _)[c]? =_
   rw[V1,be (fun e=>hc e.symm),A.1]) v0 (p0.elim (fun e=>e▸VA _) fun e=>e▸Xx _)
  have a0:=G.key j _ Y;have b0:=G.val j _ Y;rw[G.CZ I,e0]at a0 b0
  refine hk M N t _ _ (by rw[C];exact q1) (by
   rw[C,hd];refine Fits.put (s:=⟨s.f,(i,co (.bX kc e m (j::vs) (co m[j])))::s.h,s.nx⟩) ⟨q2,hf.2⟩ d _ _ hlt (.aZ _ _ rfl fun q p D=>?_)
   match q with
   |0=>simp at D;subst D;exact .kb _
   |1=>simp at D;subst D;simp only[Vn];simp;rw[a0];exact xj kc _
   |2=>simp at D;subst D;exact xe b0
   |q+3=>simp at D) (.inr ⟨j,m[j],Y,k0,ht⟩)
theorem dM{all rest:List Oper}{o:Oper}{A:Operand}{i:Nat}{kc:KC}{V:Type}{e:V->IV}{m:List (kc.K×V)}{vs:List Nat}{u:Option (kc.K×V)}{d:Nat}
  (ho:o.op= .next A jp) (hg:o.guard=io) (y:ev s.f A= .ptr i 0) (hi:s.h.get i=co (.bX kc e m vs u)) (hd:o.dst=co d) (hlt:d<nt)
  (h1:(∀j,j<m.length->j∈vs)->GO P nt (.ops all rest::k) Q ⟨(d,.aZ [.kb jp])::s.f,s.h,s.nx⟩)
  (B: ∀j x,m[j]? =co x->j∉vs->GO P nt (.ops all rest::k) Q ⟨(d,.aZ [.kb is,kc.pk x.1,(e x.2).pv])::s.f,(i,co (.bX kc e m (j::vs) (co x)))::s.h,s.nx⟩):
  GO P nt (.ops all (o::rest)::k) Q s:=by
 refine bz hg (L4 ho y hi hd hlt) fun t ht=>?_;have hb:VV d nt=is:=Wo hlt;rcases ht with⟨g1,g2⟩|⟨j,x,g1,g2,g3⟩
 .obtain⟨f,h,n⟩:=s;simp only[putDst,hd,hb,cond_true,dB,Vq]at g2;subst g2;exact h1 g1
 .simp only[putDst,hd,hb,cond_true,dB,Vq]at g3;subst g3;exact B j x g1 g2
mutual
def PV.fQ(i:Nat)(x:IV):PV->PV
 | .iv x=> .iv x
 | .agg cs=> .agg (vp i x cs)
 | .aZ cs=> .aZ (vp i x cs)
 | .sl j off len sz'=> .sl j off len sz'
 | .ptr j o=> .ptr j o
 | .cM j a b c=> .cM j a b c
 | .eL z j=> .eL z j
 | .nI j o n=> .nI j o n
 | .mp j=>bif VP j i then .iv x else .mp j
 | .cm fn a b=> .cm fn a b
 | .kb b=> .kb b
 | .any=> .any
def vp(i:Nat)(x:IV):List PV->List PV
 | []=> []
 |p::r=>PV.fQ i x p::vp i x r
end
theorem iD(i:Nat)(x:IV): ∀l:List PV,vp i x l=l.map (PV.fQ i x)
 | []=>rfl
 |p::r=>by simp[vp,iD i x r]
theorem MA{M:Mem}{N:Nm}{n:Nat}{h:AH}{w:World}(hr:Rel M N (· <n) h w){i:Nat}{kc:KC}{V:Type}{e:V->IV}{z:V}{zv:Value}{dv:PV->V}{m:List (kc.K×V)}(hi:h.get i=co (.map kc e z zv dv m)):
  ∃B,Ext M N (· <n) h w B N (· <n) ((i,io)::h) w∧Rel B N (· <n) ((i,io)::h) w∧M.le B∧
   ∀p x,VR M N (· <n) p x->VR B N (· <n) (p.fQ i (.eG kc e z zv m)) x:=by
 have I:=hr.dG i _ hi Z;obtain⟨ents,clock,h1,C,h3⟩:=hr.obj i _ hi
 let B:Mem:=M.set (N.az i) (.map ents clock) I
 have hM:M.le B:=fun b d hb=>by
  simp only[B,Mem.set];by_cases u:b=N.az i
  .rw[u,I]at hb;cases hb
  .rw[be u];exact hb
 have hnew: ∀b d,M b=io->B b=co d->b=N.az i:=fun b d h1 C=>by
  simp only[B,Mem.set]at C;by_cases u:b=N.az i
  .exact u
  .rw[be u,h1]at C;cases C
 refine⟨B,?_,?_,hM,fun p x hx=>?_⟩
 .exact⟨rfl,rfl,⟨rfl,VA _⟩,VA _,fun _ _ _=>rfl,hM,fun b d h1 C=> .inr ⟨i,_,hi,rfl,(hnew b d h1 C).symm⟩,.refl _ _,fun _ h=>h,fun j o A Y=> .inr ⟨j,o,(bj j o A).2,Y,rfl⟩⟩
 .refine⟨fun b d hb=>?_,fun j o A=>hr.used j o (bj j o A).2,fun j o A D=>?_,fun j o A=>?_,fun j k o p A hk=>hr.inj j k o p (bj j o A).2 (bj k p hk).2⟩
  .simp only[B,Mem.set]at hb;by_cases u:b=N.az i
   .rw[am u]at hb;cases hb;rw[u];exact h1
   .rw[be u]at hb;exact hr.dA b d hb
  .obtain⟨g1,g2⟩:=bj j o A;simp only[B,Mem.set];rw[be fun e=>g1 (hr.inj j i o _ g2 hi D Z e)];exact hr.dG j o g2 D
  .obtain⟨g1,g2⟩:=bj j o A;exact(hr.obj j o g2).mono hM (.refl _ _) (fun _ h=>h) (hr.used j o g2) Z
 .induction hx with
  |iv x y h=>exact .iv _ _ (h.mono hM)
  |agg cs ys hl _ ih=>
   refine .agg _ _ (by simpa[iD]using hl) fun j q J=>?_;rw[iD,Vv,Vw]at J;obtain⟨q0,G,rfl⟩:=J
   exact ih j q0 G
  |aZ cs ys hl _ ih=>
   refine .aZ _ _ (by simpa[iD]using hl) fun j q J=>?_;rw[iD,Vv,Vw]at J;obtain⟨q0,G,rfl⟩:=J
   exact ih j q0 G
  |ptr i off h=>exact .ptr _ _ h
  |cM i sz k off h=>exact .cM _ _ _ _ h
  |eL z i h=>exact .eL _ _ h
  |nI i o n h=>exact .nI _ _ _ h
  |sl j off len sz' cap h h0 hl hc he=>exact .sl _ _ _ _ _ h h0 hl hc he
  |kP j sz' h=>exact .kP _ _ h
  |sle j sz' cap h hc he=>exact .sle _ _ _ h hc he
  |mp j h=>
   simp only[PV.fQ];cases hb:VP j i with
   |true=>
    have A:=VN hb;subst A;exact .iv _ _ (.eG _ _ _ _ _ _ ents clock (by simp[B,Mem.set]) C.size C.key (fun j x hx=>(C.val j x hx).mono hM) (h3.mono hM) C.inj C.lt)
   |false=>exact .mp _ h
  |cm fn first caps f' c' h1 C hr1 hr2 _ _=>exact .cm _ _ _ _ _ h1 C (fun j p A=>(hr1 j p A).mono hM (.refl _ _) (fun _ h=>h)) (fun j p A=>(hr2 j p A).mono hM (.refl _ _) (fun _ h=>h))
  |kb b=>exact .kb _
  |any x=>exact .any _
def AO.fQ(i:Nat)(x:IV):AO->AO
 | .cells cs T=> .cells (vp i x cs) T
 | .row sz es=> .row sz (es.map (vp i x))
 | .bu l T=> .bu l T
 | .fh=> .fh
 | .map kc e z zv dv m=> .map kc e z zv dv m
 | .bX kc e m vs c=> .bX kc e m vs c
 | .ef s p=> .ef s p
 | .hQ kc e z zv dv m bs c=> .hQ kc e z zv dv m bs c
 | .eh q c l=> .eh q c l
 | .n3 l c f=> .n3 l c f
def AH.fQ(i:Nat)(x:IV):AH->AH
 | []=> []
 |(k,io)::r=>(k,io)::AH.fQ i x r
 |(k,co o)::r=>(k,co (o.fQ i x))::AH.fQ i x r
theorem AH.kr(i:Nat)(x:IV): ∀(h:AH) (j:Nat),(AH.fQ i x h).get j=(h.get j).map (AO.fQ i x)
 | [],_=>rfl
 |(k,io)::r,j=>by
  simp only[AH.fQ,AH.ax,AH.kr i x r j];split<;>rfl
 |(k,co o)::r,j=>by
  simp only[AH.fQ,AH.ax,AH.kr i x r j];split<;>rfl
theorem AO.sy(i:Nat)(x:IV)(o:AO):(o.fQ i x).real=o.real:=by
 cases o with
 |row sz es=>cases es<;>rfl
 |bu l T=>cases l<;>rfl
 |_=>rfl
theorem rq{M:Mem}{N:Nm}{n:Nat}{h:AH}{w:World}(hr:Rel M N (· <n) h w){i:Nat}{kc:KC}{V:Type}{e:V->IV}{z:V}{G:Value}{dv:PV->V}{m:List (kc.K×V)}(hi:h.get i=co (.map kc e z G dv m)):
  ∃C,Ext M N (· <n) h w C N (· <n) ((i,io)::h.fQ i (.eG kc e z G m)) w∧Rel C N (· <n) ((i,io)::h.fQ i (.eG kc e z G m)) w∧M.le C∧
   ∀p x,VR M N (· <n) p x->VR C N (· <n) (p.fQ i (.eG kc e z G m)) x:=by
 obtain⟨C,h1,u,h3,h4⟩:=MA hr hi;have D: ∀j o,AH.get ((i,io)::h.fQ i (.eG kc e z G m)) j=co o-> ∃p,AH.get ((i,io)::h) j=co p∧h.get j=co p∧o=p.fQ i (.eG kc e z G m):=by
  intro j o y;obtain⟨g1,g2⟩:=bj j o y;rw[AH.kr,Vw]at g2;obtain⟨p,g3,g4⟩:=g2;exact⟨p,by rw[AH.ax,be g1];exact g3,g3,g4.symm⟩
 refine⟨C,⟨h1.os,h1.tape,h1.output,h1.size,h1.gu,h1.nZ,h1.iq,h1.nm,h1.ule,fun j o y A=>?_⟩,⟨u.dA,fun j o y=>?_,fun j o y A=>?_,fun j o y=>?_,fun j k o p y hk ho hp=>?_⟩,h3,h4⟩
 .obtain⟨p,g1,_,rfl⟩:=D j o y;rw[AO.sy]at A;exact h1.gh j p g1 A
 .obtain⟨p,g1,_,rfl⟩:=D j o y;exact u.used j p g1
 .obtain⟨p,g1,_,rfl⟩:=D j o y;rw[AO.sy]at A;exact u.dG j p g1 A
 .obtain⟨p,g1,g2,rfl⟩:=D j o y;have J:=hr.obj j p g2;cases p with
  |cells cs T0=>
   obtain⟨c,T,q1,q2,q3,q4,q5⟩:=J;refine⟨c,T,q1,q2,by simpa[iD]using q3,fun k q Y=>?_,q5⟩;rw[iD,Vv,Vw]at Y;obtain⟨q0,b0,rfl⟩:=Y;exact h4 _ _ (q4 k q0 b0)
  |row sz es=>
   rcases J with rfl|⟨q0,c,T,q1,q2,q3,q4,q5⟩
   .exact .inl Z
   refine .inr ⟨q0,c,T,q1,q2,by simpa using q3,fun k e I=>?_,fun k e j q I Y=>?_⟩
   .rw[Vv,Vw]at I;obtain⟨e0,B,rfl⟩:=I;rw[iD,VS];exact q4 k e0 B
   .rw[Vv,Vw]at I;obtain⟨e0,B,rfl⟩:=I;rw[iD,Vv,Vw]at Y;obtain⟨q',a0,rfl⟩:=Y;exact h4 _ _ (q5 k e0 j q' B a0)
  |bu=>exact u.obj j _ g1
  |fh=>exact u.obj j _ g1
  |map=>exact u.obj j _ g1
  |bX=>exact u.obj j _ g1
  |ef=>exact u.obj j _ g1
  |hQ=>exact u.obj j _ g1
  |eh=>exact u.obj j _ g1
  |n3=>exact u.obj j _ g1
 .obtain⟨o',g1,_,rfl⟩:=D j o y;obtain⟨p',g2,_,rfl⟩:=D k p hk;rw[AO.sy]at ho hp;exact u.inj j k o' p' g1 g2 ho hp
def AF.fQ(i:Nat)(x:IV):AF->AF
 | []=> []
 |(d,p)::r=>(d,p.fQ i x)::AF.fQ i x r
theorem AF.kr(i:Nat)(x:IV): ∀(f:AF) (d:Nat),(AF.fQ i x f).get d=(f.get d).fQ i x
 | [],_=>rfl
 |(k,p)::r,d=>by
  simp only[AF.fQ,AF.ax,AF.kr i x r d];split<;>rfl
theorem Mr{c:Code}(i:Nat){kc:KC}{V:Type}{e:V->IV}{z:V}{j:Value}{G:PV->V}{m:List (kc.K×V)}(hi:s.h.get i=co (.map kc e z j G m))
  (h:GO P nt (.code c::k) Q ⟨s.f.fQ i (.eG kc e z j m),(i,io)::s.h.fQ i (.eG kc e z j m),s.nx⟩):GO P nt (.code c::k) Q s:=by
 intro M N a w hf;obtain⟨B,h1,I,h3,J⟩:=rq hf.1 hi
 have u:Fits B N ⟨s.f.fQ i (.eG kc e z j m),(i,io)::s.h.fQ i (.eG kc e z j m),s.nx⟩ nt a w:=⟨I,fun d=>by
  rw[AF.kr];exact J _ _ (hf.2.1 d),hf.2.2⟩
 exact AW.then h u fun e a2 w2 C D Y A x y=>⟨C,D,Y,h1.trans A,x,y⟩
end
def Qo(ty:Ty)(s:AS):Op->Option (PV×AS)
 | .range t x=>match ev s.f x with
  | .mp i=>match s.h.get i with
   |some (.map kc e z zv _ m)=>match ty t with
    |some ⟨.aP (.map _ _),_,_,_,_⟩=>match s with
     |⟨f,h,n⟩=>co (.ptr n 0,⟨f.fQ i (.eG kc e z zv m),(n,co (.bX kc e m [] io))::(i,io)::h.fQ i (.eG kc e z zv m),n+1⟩)
    |_=>io
   |_=>io
  |_=>io
 |_=>io
theorem LI{P:Program}{ty:Ty}{nt:NT}{s:AS}(I:bn P ty){o:Oper}{p:PV}{s1 s':AS}(h:Qo ty s o.op=co (p,s1))(hp:putDst nt o p s1=co s'):OT P nt o s (fun t=>t=s'):=by
 unfold Qo at h;split at h
 .rename_i t x ho;split at h
  .rename_i i B;split at h
   .rename_i V kc e z zv dv m A;split at h
    .rename_i kt et _ _ _ _ he;have hu:=(I _ _ he).2.1.1;obtain⟨f,hh,n⟩:=s;simp only[Vq,VC]at h;obtain⟨rfl,rfl⟩:=h;refine OT.value hp fun M N a w hf=>?_;have J:=aN hf.2.1 x;simp only at B A;rw[B]at J;obtain⟨ents,clock,g1,g2,g3⟩:=hf.1.obj i _ A;obtain⟨D,h1,Y,h3,h4⟩:=rq hf.1 A;have j:VR D N (· <n) ((PV.mp i).fQ i (.eG kc e z zv m)) (.map (co (N.az i))):=h4 _ _ (.mp i (hf.1.used i _ A));have hb:VP i i=is:=by simp
     simp only[PV.fQ,hb,cond_true]at j;cases j with
     |iv _ _ j=>cases j with
      |eG _ _ _ _ _ b ents' clock' hb' hs hk hv' hz hi' hc=>
       obtain⟨G,q1,q2,q3,q4,q5⟩:=Y.alloc (.mapIter (co (N.az i)) clock' #[] clock') (.bX kc e m [] io) 0 (fun G r1 r2 r3=>
        .inr ⟨N.az i,ents',clock', #[],by rw[r1];exact heap_alloc_new w _,hb',⟨hs,hk,hv',hi',hc⟩,rfl,by simp,Wn,by simp⟩)
       have u:w.heap[N.az i]? =co (.map ents' clock'):=Y.dA _ _ hb';have C:a.eval x= .map (co (N.az i)):=by
        generalize a.eval x=y at J;cases J;rfl
       refine⟨.pointer (co ⟨w.heap.size,0,io⟩),_,D,G,?_,h1.trans q4,⟨q5,fun d=>?_,hf.2.2⟩,?_⟩
       .simp only[execOp,ho,C];simp[Instr.range,run_underlying hu,getObj,Sem.run,u,Result.andThen]
       .rw[AF.kr];exact(h4 _ _ (hf.2.1 d)).mono (.refl _) q3 (fun i A=>W2 A)
       .have:=VR.ptr (M:=D) (N:=G) (U:=(· <n+1)) n 0 (by omega);rw[q1]at this;exact this
    .cases h
   .cases h
  .cases h
 .cases h
def PY(h:AH)(sz:Nat):PV->Option (List (List PV)×Nat×Prop)
 | .iv (.bK sz' n el)=>match VP sz' sz with
  |true=>co ((V0 n).map fun k=>(el k).map .iv,n,True)
  |false=>io
 | .iv (.v (.slice io 0 0))=>co ([],0,True)
 | .sl j off n sz'=>match VP sz' sz,h.get j with
  |true,co (.row sz2 fs)=>match VP sz2 sz with
   |true=>co ((fs.drop off).take n,n,off+n<=fs.length)
   |_=>io
  |_,_=>io
 |_=>io
theorem Lh{h:AH}{sz n:Nat}{p:PV}{news:List (List PV)}{C:Prop}(hs:PY h sz p=co (news,n,C))(hC:C):Src h sz p news∧news.length=n:=by
 unfold PY at hs;split at hs
 .split at hs
  .rename_i hb;simp only[Vq,VC]at hs;have:=VN hb;obtain⟨rfl,rfl,rfl⟩:=hs;subst this;exact⟨.bK _ _,by simp⟩
  .cases hs
 .simp only[Vq,VC]at hs;obtain⟨rfl,rfl,rfl⟩:=hs;exact⟨.nil,rfl⟩
 .split at hs
  .rename_i j y;split at hs
   .rename_i u;simp only[Vq,VC]at hs;have h1:=VN j;have x:=VN u;subst h1;subst x;obtain⟨rfl,rfl,rfl⟩:=hs;exact⟨.row _ _ _ _ y hC,by simp;omega⟩
   .cases hs
  .cases hs
 .cases hs
def M8(ty:Ty)(s:AS)(op:Op):Option (Prop×PV×AS):=
 match op with
 | .call ⟨.builtin .append,args,tys⟩=>match args.toList,tys.toList with
  | [x,y],[t,t']=>match VP t' t,ty t with
   |true,co ⟨.aP (.slice u),_,_,_,_⟩=>match ty u with
    |some ⟨_,esz,eby,ez,_⟩=>match VP ez.cells.size esz,VV 0 esz,ev s.f x with
     |true,is,.sl i 0 len sz=>match VP esz sz,s.h.get i with
      |true,co (.row sz' es)=>match VP sz' sz,PY s.h sz (ev s.f y) with
       |true,co (news,n,C)=>match s with
        |⟨f,h,nx⟩=>co (es.length=len∧C∧allOnes news=is∧(len+n)*eby<=140737488355328∧len+n<=140737488355328,.sl nx 0 (len+n) sz,⟨f,(nx,co (.row sz (es++news)))::(i,io)::h,nx+1⟩)
       |_,_=>io
      |_,_=>io
     |_,_,_=>io
    |none=>io
   |_,_=>io
  |_,_=>io
 |_=>io
section
variable {P:Program} {ty:Ty} {nt:NT} {s:AS}
theorem EJ(d0:bn P ty){o:Oper}{p:PV}{C:Prop}{s1 s':AS}(h:M8 ty s o.op=co (C,p,s1))(hC:C)(hp:putDst nt o p s1=co s'):OT P nt o s (fun t=>t=s'):=by
 unfold M8 at h;split at h
 .rename_i args A ho;split at h
  .rename_i x y t B ha ht;split at h
   .rename_i u _ _ _ _ I he;split at h
    .rename_i ek g0 G ez f0 hu;split at h
     .rename_i i len sz J Y hx;split at h
      .rename_i i0 es a0 hi;split at h
       .rename_i j n C' b0 hs;have h:co (es.length=len∧C'∧allOnes j=is∧(len+n)*G<=140737488355328∧len+n<=140737488355328,PV.sl s.nx 0 (len+n) sz,ir s i sz es j)=co (C,p,s1):=by
         rw[<-h];cases s;rfl
        simp only[Vq,VC]at h;obtain⟨rfl,rfl,rfl⟩:=h;have e0:=VN I;have e4:=VN b0;have D:=VN a0;subst e0;subst e4;have c0:o.op= .call ⟨.builtin .append, #[x,y], #[B,B]⟩:=by
         rw[ho];have h1:args= #[x,y]:=by rw[<-W5 (xs:=args),ha]
         have h2:A= #[B,B]:=by rw[<-W5 (xs:=A),ht]
         rw[h1,h2]
        obtain⟨g1,g2,g3,g4,g5⟩:=hC;obtain⟨g6,g7⟩:=Lh hs g2;subst g7;exact Rq d0 c0 he Z hu hx hi g1 D (by rw[VN J,D]) (by rw[<-D];exact Vm Y) Z g6 (fW g3) g4 g5 hp
       .cases h
      .cases h
     .cases h
    .cases h
   .cases h
  .cases h
 .cases h
def Js(ty:Ty)(s:AS)(op:Op):Option (Prop×PV×AS):=
 match M8 ty s op with
 |some r=>co r
 |none=>match Cz s op with
  |some (t0,t)=>match ty t with
   |some ⟨.aP (.slice u),_,_,_,_⟩=>match ty u with
    |some ⟨_,esz,_,_,_⟩=>M8 ty (uq s t0 esz) op
    |none=>io
   |_=>io
  |none=>io
theorem Jr(j:bn P ty){o:Oper}{p:PV}{C:Prop}{s1 s':AS}(h:Js ty s o.op=co (C,p,s1))(hC:C)(hp:putDst nt o p s1=co s'):OT P nt o s (fun t=>t=s'):=by
 unfold Js at h;split at h
 .rename_i r x;simp only[Vq]at h;subst h;exact EJ j x hC hp
 .split at h
  .rename_i t0 t u;split at h
   .split at h
    .exact JK (Fy u) (EJ j h hC hp)
    .cases h
   .cases h
  .cases h
def T5(ty:Ty)(s:AS)(op:Op):Option (Prop×PV×AS):=
 match Pg ty s op with
 |some (C,s1)=>co (C,.any,s1)
 |none=>match Qo ty s op with
  |some (p,s1)=>co (True,p,s1)
  |none=>Js ty s op
theorem Gm(j:bn P ty){o:Oper}{p:PV}{C:Prop}{s1 s':AS}(h:T5 ty s o.op=co (C,p,s1))(hC:C)(hp:putDst nt o p s1=co s'):OT P nt o s (fun t=>t=s'):=by
 unfold T5 at h;split at h
 .rename_i y x hu;simp only[Vq,VC]at h;obtain⟨rfl,rfl,rfl⟩:=h;exact JN j hu hC hp
 .split at h
  .rename_i A x u;simp only[Vq,VC]at h;obtain⟨rfl,rfl,rfl⟩:=h;exact LI j u hp
  .exact Jr j h hC hp
end
def AP:Op->Bool
  | .binOp .add _ _ _ _=>is
  | .binOp .sub _ _ _ _=>is
  | .binOp .mul _ _ _ _=>is
  | .binOp .rem _ _ _ _=>is
  | .binOp .quo _ _ _ _=>is
  | .indexAddr ..=>is
  | .index ..=>is
  | .slice ..=>is
  |_=>jp
theorem yG{ty:Ty}{s:AS}{o:Op}{p:PV}{C:Prop}(h:iN ty s o=co (p,C))(ho:AP o=jp):C:=by
  cases o with
  | binOp op t x y t'=>
    simp only[iN]at h;split at h
    · unfold EL at h
      split at h
      · split at h<;>first|(cases h;done)|(simp only[Vq,VC]at h;rw[<-h.2];trivial)
      · split at h<;>first|(cases h;done)|(simp only[Vq,VC]at h;rw[<-h.2];trivial)
      · cases h
    unfold za at h;split at h
    · split at h
      · unfold CQ at h
        split at h
        · unfold sQ at h
          split at h<;>first
            |(cases h;done)
            |(split at h<;>first|(cases h;done)|(simp only[Vq,VC]at h;rw[<-h.2];trivial))
        · unfold sQ at h
          split at h<;>first
            |(cases h;done)
            |(split at h<;>first|(cases h;done)|(simp only[Vq,VC]at h;rw[<-h.2];trivial))
        unfold Ed at h;split at h<;>first|(cases h;done)|(simp[AP]at ho;done)|(simp only[Vq,VC]at h;rw[<-h.2];trivial)
      · unfold sQ at h
        split at h<;>first
          |(cases h;done)
          |(split at h<;>first|(cases h;done)|(simp only[Vq,VC]at h;rw[<-h.2];trivial))
    · unfold Dw at h
      split at h<;>first|(cases h;done)|(simp[AP]at ho;done)|(simp only[Vq,VC]at h;rw[<-h.2];trivial)
    · split at h
      all_goals first
        |(cases h;done)
        | (unfold oy at h
           split at h
           · split at h<;>first|(cases h;done)|(simp only[Vq,VC]at h;rw[<-h.2];trivial)
           · cases h)
    · split at h
      all_goals first
        |(cases h;done)
        | (unfold oy at h
           split at h
           · split at h<;>first|(cases h;done)|(simp only[Vq,VC]at h;rw[<-h.2];trivial)
           · cases h)
    all_goals first
      |(cases h;done)
      | (unfold u2 at h
         split at h
         · split at h<;>first|(cases h;done)|(simp only[Vq,VC]at h;rw[<-h.2];trivial)
         · cases h)
  |indexAddr t x i=>simp[AP]at ho
  |index t x i=>simp[AP]at ho
  |slice t x lo hi mx=>simp[AP]at ho
  | call c=>
    obtain⟨callee,args,j⟩:=c;cases callee with
    | builtin b=>
      cases b with
      | len=>
        simp only[iN]at h;split at h
        · split at h
          · split at h<;>first|(cases h;done)|(simp only[wx,Vq,VC]at h;rw[<-h.2];trivial)
          · split at h<;>first|(cases h;done)|(simp only[wx,Vq,VC]at h;rw[<-h.2];trivial)
          · split at h
            · simp only[Vq,VC]at h;rw[<-h.2];trivial
            · split at h<;>first|(cases h;done)|(simp only[Vq,VC]at h;rw[<-h.2];trivial)
            · cases h
          · cases h
        · cases h
      | max=>
        simp only[iN]at h;split at h
        · split at h<;>first|(cases h;done)|(simp only[Vq,VC]at h;rw[<-h.2];trivial)
        · cases h
      | min=>
        simp only[iN]at h;split at h
        · split at h<;>first|(cases h;done)|(simp only[Vq,VC]at h;rw[<-h.2];trivial)
        · cases h
      |_=>simp[iN]at h
    |_=>simp[iN]at h
  | unOp op t x=>
    cases op with
    |not=>simp only[iN]at h;split at h<;>first|(cases h;done)|(simp only[Vq,VC]at h;rw[<-h.2];trivial)
    |_=>simp[iN]at h
  | lookup t x i ok=>
    have key: ∀{kc:KC} {V:Type} {e:V->IV} {z:V} {u:Value} {m:List (kc.K×V)},vc ty t ok kc e z u m (ev s.f i)=co (p,C)->C:=by
      intro kc V e z u m h;unfold vc at h;split at h
      · split at h
        · split at h
          · split at h<;>(simp only[Vq,VC]at h;rw[<-h.2];trivial)
          · cases h
        · cases h
      · cases h
    simp only[iN]at h;split at h
    · exact key h
    · split at h
      · exact key h
      · cases h
    · cases h
  | _=>
    simp only[iN]at h
    repeat' (first|(cases h;done)|(simp only[force_eq,Vq,VC]at h;rw[<-h.2];trivial)|split at h)
inductive JC where
  |read (i:Nat) (o:Oper) (p:PV) (C:Prop)
  |skip (i:Nat) (o:Oper)
  |split (d:Nat) (t:Bool)
def lL(ty:Ty)(nt:NT)(s:AS)(all:List Oper)(todo pend:List (Nat×Oper)):List (Nat×Oper)->Option JC
  | []=>io
  | (i,o)::r=>match todo.any (fun y=>waits o y.1)||aS o with
    |true=>lL ty nt s all todo pend r
    | false=>match bQ nt all s.f o with
      | some is=>match iN ty s o.op with
        | some (p,C)=>match wI all pend o with
          |true=>co (.read i o p C)
          |false=>lL ty nt s all todo pend r
        |none=>lL ty nt s all todo pend r
      | some jp=>match wI all pend o with
        |true=>co (.skip i o)
        |false=>lL ty nt s all todo pend r
      | none=>match o.guard with
        | some (g,_)=>match guardOf all s.f g with
          |some (d,.iv (.v (.bool t)))=>co (.split d t)
          |_=>lL ty nt s all todo pend r
        |none=>lL ty nt s all todo pend r
def cX(ty:Ty)(nt:NT)(all:List Oper)(s:AS):List (Nat×Oper)->Option Prop
  | []=>co True
  | (_,o)::r=>match cX ty nt all s r with
    |none=>io
    | some R=>match bQ nt all s.f o with
      | some is=>match iN ty s o.op with
        | some (p,C)=>match o.dst with
          |some d=>bif VV d nt then co ((ae p (s.f.get d)∧C)∧R) else io
          |none=>co (C∧R)
        |none=>io
      | some jp=>match o.dst with
        |some d=>co (s.f.get d= .iv (.v (.tuple #[]))∧R)
        |none=>co R
      |none=>io
def dq(todo:List (Nat×Oper)):List (Nat×Oper):=todo.filter fun x=>!(aS x.2||todo.any fun y=>waits x.2 y.1)
def lD(ty:Ty)(nt:NT)(all:List Oper)(s:AS)(todo pend:List (Nat×Oper)):Option Prop:=
  match todo.any fun y=>aS y.2 with
  |true=>cX ty nt all s pend
  |false=>co True
def oz(all:List Oper)(i:Nat)(o:Oper):Nat->List Oper->Bool
  |_,[]=>is
  |k,q::r=>(VP k i||((waits q i||!looks all q o)&&(match o.dst,q.dst with|some d,co e=>!VP d e|_,_=>is)))&&oz all i o (k+1) r
def kD(ty:Ty)(nt:NT)(all:List Oper):Nat->List Oper->Bool
  |_,[]=>is
  | i,o::r=>(match o.op with
    | .alloc t=>match o.guard,o.dst,ty t with
      |none,co d,co _=>VV d nt&&((o.after.toList.all fun e=>!Region.binds .any e)&&oz all i o 0 all)
      |_,_,_=>jp
    |_=>is)&&kD ty nt all (i+1) r
def AK(todo:List (Nat×Oper)):List (Nat×Oper)->Option (Nat×Oper)
  | []=>io
  | (i,o)::r=>match aS o,zh todo i with
    |true,is=>co (i,o)
    |_,_=>AK todo r
inductive Stop where
  |fin (e:Exit) (s:AS)
  |cond (c:Operand) (t:Bool) (x y:Code) (k:List KI) (s:AS)
  |guard (all rest:List Oper) (o:Oper) (d:Nat) (want t:Bool) (k:List KI) (s:AS)
  |op (all rest:List Oper) (o:Oper) (k:List KI) (s:AS)
  |loop (b:Code) (k:List KI) (s:AS)
  |draw (id:Nat) (ops:Array Oper) (k:List KI) (s:AS)
  |again (R:AS->Prop) (s:AS)
  |P0 (all rest:List Oper) (o:Oper) (d:Nat) (want t:Bool) (k:List KI) (s:AS)
  |IS (all:List Oper) (todo pend:List (Nat×Oper)) (d:Nat) (t:Bool) (k:List KI) (s:AS)
  |IW (all:List Oper) (todo pend:List (Nat×Oper)) (k:List KI) (s:AS)
  |bad (why:Nat) (k:List KI) (s:AS)
  |out (k:List KI) (s:AS)
def nU(id:Nat):List KI->Option (List KI)
  | []=>io
  | .az j::k=>bif VP id j then co k else nU id k
  | .code _::k=>nU id k
  | .ops _ _::k=>nU id k
  | .lp _::k=>nU id k
  | .tw _ _::k=>nU id k
  | .bR _ _ _::k=>nU id k
  | .ER _ _::k=>nU id k
  | .Gh::k=>nU id k
  | .MC ..::_=>io
  | .MD ..::_=>io
def gq:List KI->Option (List KI)
  | []=>io
  | .az _::k=>gq k
  | .code _::k=>gq k
  | .ops _ _::k=>gq k
  | .lp _::k=>gq k
  | .tw _ _::k=>gq k
  | .bR _ _ _::k=>gq k
  | .ER _ _::k=>gq k
  | .Gh::k=>gq k
  |k=>co k
structure Vl where
  nt:Nat
  res:List ResultVar
  body:Code
abbrev Ud:=Nat->Option Vl
def JA(P:Program)(j:Ud):Prop:= ∀g e,j g=co e-> ∃fn,P.funcs[g]? =co fn∧fn.body=co e.body∧(fn.name== "runtime.NumGoroutine")=jp∧fn.ntmps=e.nt∧fn.results.toList=e.res
def BU{α:Type _}:Nat->List PV->(AF->α)->α
  |_,[],k=>k []
  |n,p::r,k=>vq p fun j=>BU (n+1) r fun f=>k ((n,j)::f)
theorem vS{α:Type _}: ∀(l:List PV) (n:Nat) (k:AF->α),BU n l k=k (mj n l)
  | [],_,_=>rfl
  |p::r,n,k=>by simp only[BU,dB,vS r,mj]
def callee(j:Ud)(s:AS):Op->Option (Vl×List PV)
  | .call c=>match bN s.f c with
    | some (g,asv)=>match j g with
      | some e=>match Xr asv.length e.nt with
        |true=>co (e,asv)
        |false=>io
      |none=>io
    |none=>io
  |_=>io
structure Way where
  fns:Ud
  un:Nat
  cl:Bool
def bF(ty:Ty)(y:Way):Nat->NT->List KI->AS->Prop->Option (Prop×NT×Stop)
  |0,nt,k,s,C=>co (C,nt,.out k s)
  |_+1,nt,[],s,C=>co (C,nt,.fin .normal s)
  |n+1,nt,.az _::k,s,C=>bF ty y n nt k s C
  |_+1,nt,.lp R::_,s,C=>co (C,nt,.again R s)
  |n+1,nt,.Gh::k,s,C=>bF ty y n nt k s C
  |n+1,nt,.code (.scope b)::k,s,C=>bF ty y n nt (.code b:: .Gh::k) s C
  | n+1,nt,.ER b m::k,s,C=>match m with
    |0=>co (C,nt,.bad 2 k s)
    |m+1=>bF ty y n nt (.code b:: .ER b m::k) s C
  | n+1,_,.MC nt f res o all rest::k,s,C=>match res s with
    |none=>co (C,nt,.bad 3 k s)
    | some r=>match putDst nt o r ⟨f,s.h,s.nx⟩ with
      |none=>co (C,nt,.bad 4 k s)
      |some s'=>bF ty y n nt (.ops all rest::k) s' C
  | n+1,_,.MD nt f res j o all todo pend::k,s,C=>match res s with
    |none=>co (C,nt,.bad 5 k s)
    | some r=>match putDst nt o r ⟨f,s.h,s.nx⟩ with
      |none=>co (C,nt,.bad 6 k s)
      | some s'=>match cX ty nt all s' (aX pend o) with
        |none=>co (C,nt,.bad 7 k s)
        |some C''=>bF ty y n nt (.bR all (todo.filter fun x=>!VP x.1 j) (aX pend o)::k) s' (C∧C'')
  |n+1,nt,.code .skip::k,s,C=>bF ty y n nt k s C
  |n+1,nt,.code (.label _)::k,s,C=>bF ty y n nt k s C
  |n+1,nt,.code (.seq a b)::k,s,C=>bF ty y n nt (.code a:: .code b::k) s C
  |n+1,nt,.code (.block id b)::k,s,C=>bF ty y n nt (.code b:: .az id::k) s C
  | n+1,nt,.code (.region id ops d)::k,s,C=>match d with
    |false=>bF ty y n nt (.ops ops.toList ops.toList::k) s C
    | true=>match u1 ops.toList,iF 0 ops.toList,kD ty nt ops.toList 0 ops.toList with
      |true,is,is=>bF ty y n nt (.bR ops.toList (jj 0 ops.toList) []::k) s C
      |_,_,_=>co (C,nt,.draw id ops k s)
  |n+1,nt,.bR _ [] _::k,s,C=>bF ty y n nt k s C
  | n+1,nt,.bR all (x::todo) pend::k,s,C=>match lL ty nt s all (x::todo) pend (x::todo) with
    | some (.read i o p C')=>match putDst nt o p s with
      |none=>co (C,nt,.bad 8 k s)
      | some s'=>match AP o.op with
        |true=>bF ty y n nt (.bR all ((x::todo).filter fun x=>!VP x.1 i) ((i,o)::pend)::k) s' (C∧C')
        |false=>bF ty y n nt (.bR all ((x::todo).filter fun x=>!VP x.1 i) ((i,o)::pend)::k) s' C
    |some (.skip i o)=>bF ty y n nt (.bR all ((x::todo).filter fun x=>!VP x.1 i) ((i,o)::pend)::k) (gP o s) C
    | some (.split d _)=>match s.f.get d with
      | .iv (.v (.bool t'))=>match y.cl with
        |false=>co (C,nt,.IS all (x::todo) pend d t' k s)
        | true=>match t' with
          |true=>bF ty y n nt (.bR all (x::todo) pend::k) (setBool s (.tmp d) is) C
          |false=>bF ty y n nt (.bR all (x::todo) pend::k) (setBool s (.tmp d) jp) C
      |_=>co (C,nt,.bad 9 k s)
    | none=>match dq (x::todo) with
      | [(j,o)]=>match bQ nt all s.f o,gC all pend o,mW (x::todo) [j] with
        | some is,is,is=>match lD ty nt all s (x::todo) pend with
          |none=>co (C,nt,.bad 101 k s)
          | some CA=>match iN ty s o.op with
            | some (p,C')=>match putDst nt o p s with
              |none=>co (C,nt,.bad 102 k s)
              | some s'=>match cX ty nt all s' (aX pend o) with
                |none=>co (C,nt,.bad 103 k s)
                |some C''=>bF ty y n nt (.bR all ((x::todo).filter fun x=>!VP x.1 j) (aX pend o)::k) s' (C∧(CA∧C'∧C''))
            | none=>match HT ty s o.op with
              | none=>match callee y.fns s o.op with
                | none=>match T5 ty s o.op with
                  |none=>co (C,nt,.IW all (x::todo) pend k s)
                  | some (C',p,s1)=>match putDst nt o p s1 with
                    |none=>co (C,nt,.bad 109 k s)
                    | some s'=>match cX ty nt all s' (aX pend o) with
                      |none=>co (C,nt,.bad 110 k s)
                      |some C''=>bF ty y n nt (.bR all ((x::todo).filter fun x=>!VP x.1 j) (aX pend o)::k) s' (C∧(CA∧C'∧C''))
                |some (e,asv)=>BU 0 asv fun f=>bF ty y n e.nt (.code e.body:: .MD nt s.f (iL ty · e.res) j o all (x::todo) pend::k) ⟨f,s.h,s.nx⟩ (C∧CA)
              | some (p,s1)=>match putDst nt o p s1 with
                |none=>co (C,nt,.bad 104 k s)
                | some s'=>match cX ty nt all s' (aX pend o) with
                  |none=>co (C,nt,.bad 105 k s)
                  |some C''=>bF ty y n nt (.bR all ((x::todo).filter fun x=>!VP x.1 j) (aX pend o)::k) s' (C∧(CA∧C''))
        |_,_,_=>co (C,nt,.IW all (x::todo) pend k s)
      | []=>match AK (x::todo) (x::todo) with
        |none=>co (C,nt,.IW all (x::todo) pend k s)
        | some (i,o)=>match o.op,o.dst with
          | .alloc t,co d=>match ty t with
            |none=>co (C,nt,.bad 106 k s)
            | some e=>force (b4 e.zero) fun A=>match cX ty nt all s pend,cX ty nt all (kE s d A) pend with
              |some C1,co C2=>bF ty y n nt (.bR all ((x::todo).filter fun x=>!VP x.1 i) pend::k) (kE s d A) (C∧(C1∧C2))
              |_,_=>co (C,nt,.bad 107 k s)
          |_,_=>co (C,nt,.bad 108 k s)
      |_=>co (C,nt,.IW all (x::todo) pend k s)
  | n+1,nt,.code (.cond c u v)::k,s,C=>match ev s.f c with
    | .iv (.v (.bool t))=>match y.cl with
      |false=>co (C,nt,.cond c t u v k s)
      | true=>match t with
        |true=>bF ty y n nt (.code u::k) s C
        |false=>bF ty y n nt (.code v::k) s C
    | .kb is=>bF ty y n nt (.code u::k) s C
    | .kb jp=>bF ty y n nt (.code v::k) s C
    |_=>co (C,nt,.bad 14 k s)
  | n+1,nt,.code .ret::k,s,C=>match gq k with
    |some k'=>bF ty y n nt k' s C
    |none=>co (C,nt,.fin .ret s)
  | n+1,nt,.code (.exit id)::k,s,C=>match nU id k with
    |some k'=>bF ty y n nt k' s C
    |none=>co (C,nt,.bad 15 k s)
  | n+1,nt,.code (.loop b)::k,s,C=>match y.un with
    |0=>co (C,nt,.loop b k s)
    |u+1=>bF ty y n nt (.code b:: .ER b u::k) s C
  |_+1,nt,.code _::k,s,C=>co (C,nt,.bad 16 k s)
  |_+1,nt,.tw _ _::k,s,C=>co (C,nt,.bad 17 k s)
  |n+1,nt,.ops _ []::k,s,C=>bF ty y n nt k s C
  | n+1,nt,.ops all (o::r)::k,s,C=>match o.guard with
    | some (j,want)=>match guardOf all s.f j with
      | some (d,.iv (.v (.bool t)))=>bif VV d nt then(match y.cl with
        |false=>co (C,nt,.guard all r o d want t k s)
        | true=>match t with
          |true=>bF ty y n nt (.ops all (o::r)::k) (setBool s (.tmp d) is) C
          |false=>bF ty y n nt (.ops all (o::r)::k) (setBool s (.tmp d) jp) C) else co (C,nt,.bad 18 k s)
      | some (d,.kb t)=>bif VV d nt then(match t,want,o with
        |true,is,⟨a1,a2,a3,a4,a5,_⟩=>bF ty y n nt (.ops all (⟨a1,a2,a3,a4,a5,io⟩::r)::k) s C
        |false,jp,⟨a1,a2,a3,a4,a5,_⟩=>bF ty y n nt (.ops all (⟨a1,a2,a3,a4,a5,io⟩::r)::k) s C
        |_,_,o=>bF ty y n nt (.ops all r::k) (gP o s) C) else co (C,nt,.bad 19 k s)
      |some (_,.iv (.v (.tuple _)))=>bF ty y n nt (.ops all r::k) (gP o s) C
      |_=>co (C,nt,.bad 20 k s)
    | none=>match iN ty s o.op with
      | none=>match HT ty s o.op with
        | none=>match callee y.fns s o.op with
          | none=>match T5 ty s o.op with
            |none=>co (C,nt,.op all r o k s)
            | some (C',p,s1)=>match putDst nt o p s1 with
              |none=>co (C,nt,.bad 111 k s)
              |some s'=>bF ty y n nt (.ops all r::k) s' (C∧C')
          |some (e,asv)=>BU 0 asv fun f=>bF ty y n e.nt (.code e.body:: .MC nt s.f (iL ty · e.res) o all r::k) ⟨f,s.h,s.nx⟩ C
        | some (p,s1)=>match putDst nt o p s1 with
          |none=>co (C,nt,.bad 21 k s)
          |some s'=>bF ty y n nt (.ops all r::k) s' C
      | some (p,C')=>match putDst nt o p s with
        |none=>co (C,nt,.bad 22 k s)
        | some s'=>match AP o.op with
          |true=>bF ty y n nt (.ops all r::k) s' (C∧C')
          |false=>bF ty y n nt (.ops all r::k) s' C
def fk(P:Program)(nt:NT)(Q:AQ):Stop->Prop
  | .fin e s=>Q e s
  | .cond c t x y k s=>(t=is->GO P nt (.code x::k) Q (setBool s c is))∧(t=jp->GO P nt (.code y::k) Q (setBool s c jp))
  | .guard all r o d want t k s=>(t=want->GO P nt (.ops all ({o with guard:=io}::r)::k) Q (setBool s (.tmp d) want))∧(t=!want->GO P nt (.ops all r::k) Q (gP o (setBool s (.tmp d) (!want))))
  | .op all r o k s=>GO P nt (.ops all (o::r)::k) Q s
  | .loop b k s=>GO P nt (.code (.loop b)::k) Q s
  | .draw id ops k s=>GO P nt (.code (.region id ops is)::k) Q s
  | .again R s=>R s
  | .P0 all r o d want t k s=>(t=want->GO P nt (.tw all ({o with guard:=io}::r)::k) Q (setBool s (.tmp d) want))∧(t=!want->GO P nt (.tw all r::k) Q (gP o (setBool s (.tmp d) (!want))))
  | .IS all todo pend d t k s=>(t=is->GO P nt (.bR all todo pend::k) Q (setBool s (.tmp d) is))∧(t=jp->GO P nt (.bR all todo pend::k) Q (setBool s (.tmp d) jp))
  | .IW all todo pend k s=>GO P nt (.bR all todo pend::k) Q s
  | .bad _ _ _=>False
  | .out k s=>GO P nt k Q s
section
variable {P:Program} {ty:Ty} {nt:NT} {Q:AQ}
theorem mN: ∀(k:List KI) {nt:NT} {s:AS},gq k=io->Q .ret s->kp P nt k Q .ret s
  | [],_,_,_,h=>h
  | .code _::k,_,_,g,h=>mN k g h
  | .az _::k,_,_,g,h=>mN k g h
  | .ops _ _::k,_,_,g,h=>mN k g h
  | .lp _::k,_,_,g,h=>mN k g h
  | .tw _ _::k,_,_,g,h=>mN k g h
  | .bR _ _ _::k,_,_,g,h=>mN k g h
  | .ER _ _::k,_,_,g,h=>mN k g h
  | .Gh::k,_,_,g,h=>mN k g h
  | .MC ..::_,_,_,g,_=>by simp[gq]at g
  | .MD ..::_,_,_,g,_=>by simp[gq]at g
theorem dJ: ∀(k:List KI) {nt:NT} {s:AS} {j:List KI},gq k=co j->GO P nt j Q s->kp P nt k Q .ret s
  | [],_,_,_,g,_=>by simp[gq]at g
  | .code _::k,_,_,_,g,h=>dJ k g h
  | .az _::k,_,_,_,g,h=>dJ k g h
  | .ops _ _::k,_,_,_,g,h=>dJ k g h
  | .lp _::k,_,_,_,g,h=>dJ k g h
  | .tw _ _::k,_,_,_,g,h=>dJ k g h
  | .bR _ _ _::k,_,_,_,g,h=>dJ k g h
  | .ER _ _::k,_,_,_,g,h=>dJ k g h
  | .Gh::k,_,_,_,g,h=>dJ k g h
  | .MC ..::_,_,_,_,g,h=>by
    simp only[gq,Vq]at g;subst g;exact⟨.inr Z,h.2⟩
  | .MD ..::_,_,_,_,g,h=>by
    simp only[gq,Vq]at g;subst g;exact⟨.inr Z,h.2⟩
theorem da{id:Nat}: ∀(k:List KI) {nt:NT} {u:List KI} {s:AS},nU id k=co u->GO P nt u Q s->kp P nt k Q (.exit id) s
  | [],_,_,_,h,_=>by cases h
  | .code _::k,_,_,_,h,g=>da k h g
  | .ops _ _::k,_,_,_,h,g=>da k h g
  | .lp _::k,_,_,_,h,g=>da k h g
  | .tw _ _::k,_,_,_,h,g=>da k h g
  | .bR _ _ _::k,_,_,_,h,g=>da k h g
  | .ER _ _::k,_,_,_,h,g=>da k h g
  | .Gh::k,_,_,_,h,g=>da k h g
  | .MC ..::_,_,_,_,h,_=>by cases h
  | .MD ..::_,_,_,_,h,_=>by cases h
  | .az j::k,nt,u,s,h,g=>by
    simp only[nU]at h;show if id=j then _ else _;cases hb:VP id j with
    | true=>
      simp only[hb,cond_true,Vq]at h;subst h;rw[am (VN hb)];exact g
    | false=>
      simp only[hb,cond_false]at h;rw[be (fun e=>by subst e;simp at hb)];exact da k h g
theorem uM(j:bn P ty){s s':AS}{o:Oper}{p:PV}{C:Prop}(h:iN ty s o.op=co (p,C))(hC:C)(hp:putDst nt o p s=co s'):OT P nt o s (fun t=>t=s'):=by
  intro M N a w hf K Z hk;obtain⟨x,y,u⟩:=rV j hf h hC;unfold Oper.wp;rw[y];simp only[Oper.upon];cases hd:o.dst with
  | none=>
    have:=dF hp hd;subst this;exact hk M N s' _ w (.refl _ _ _ _ _) hf rfl
  | some d=>
    obtain⟨h1,rfl⟩:=dE hp hd;exact hk M N {s with f:=(d,p)::s.f} _ w (.refl _ _ _ _ _) (hf.put d p x h1 u) rfl
theorem oL(j:bn P ty){s s':AS}{o:Oper}{p:PV}{C:Prop}(h:iN ty s o.op=co (p,C))(hC:C)(hp:putDst nt o p s=co s'):
    (s'.h=s.h∧s'.nx=s.nx)∧ ∀M N a w,Fits M N s nt a w-> ∃x,(execOp a.eval o).run P w= .ok (.value x) w∧Fits M N s' nt (a.put o.dst x) w:=by
  cases hd:o.dst with
  | none=>
    have:=dF hp hd;subst this;exact⟨⟨rfl,rfl⟩,fun M N a w hf=>let ⟨x,hx,_⟩:=rV j hf h hC;⟨x,hx,hf⟩⟩
  | some d=>
    obtain⟨h1,rfl⟩:=dE hp hd;exact⟨⟨rfl,rfl⟩,fun M N a w hf=>let ⟨x,hx,hv⟩:=rV j hf h hC;⟨x,hx,hf.put d p x h1 hv⟩⟩
theorem uR{s:AS}{all:List Oper}{todo pend:List (Nat×Oper)}: ∀{l:List (Nat×Oper)} {i:Nat} {o:Oper},(∀x∈l,x∈todo)->
    ((∀{p C},lL ty nt s all todo pend l=co (.read i o p C)->(i,o)∈todo∧aS o=jp∧(∀x∈todo,waits o x.1=jp)∧bQ nt all s.f o=co is∧wI all pend o=is∧iN ty s o.op=co (p,C))∧
     (lL ty nt s all todo pend l=co (.skip i o)->(i,o)∈todo∧aS o=jp∧(∀x∈todo,waits o x.1=jp)∧bQ nt all s.f o=co jp∧wI all pend o=is))
  | [],i,o,_=>⟨fun h=>by simp[lL]at h,fun h=>by simp[lL]at h⟩
  | (j,q)::r,i,o,hl=>by
    have u:=uR (s:=s) (all:=all) (todo:=todo) (pend:=pend) (l:=r) (i:=i) (o:=o) (fun x I=>hl x (VE _ I));have A:(todo.any (fun y=>waits q y.1)||aS q)=jp->aS q=jp∧ ∀x∈todo,waits q x.1=jp:=fun h=>by
      simp only[Xg,Wm]at h;exact⟨h.2,fun x I=>by simpa using h.1 x I⟩
    constructor
    · intro p C h
      simp only[lL]at h;split at h
      · exact u.1 h
      · rename_i B
        split at h
        · rename_i G
          split at h
          · rename_i J
            split at h
            · rename_i D
              simp only[Vq,JC.read.injEq]at h;obtain⟨rfl,rfl,rfl,rfl⟩:=h;exact⟨hl _ (by simp),(A B).1,(A B).2,G,D,J⟩
            · exact u.1 h
          · exact u.1 h
        · split at h
          · cases h
          · exact u.1 h
        · split at h
          · split at h
            · cases h
            · exact u.1 h
          · exact u.1 h
    · intro h
      simp only[lL]at h;split at h
      · exact u.2 h
      · rename_i B
        split at h
        · split at h
          · split at h
            · cases h
            · exact u.2 h
          · exact u.2 h
        · rename_i G
          split at h
          · rename_i D
            simp only[Vq,JC.skip.injEq]at h;obtain⟨rfl,rfl⟩:=h;exact⟨hl _ (by simp),(A B).1,(A B).2,G,D⟩
          · exact u.2 h
        · split at h
          · split at h
            · cases h
            · exact u.2 h
          · exact u.2 h
theorem vX{s s1:AS}{o:Oper}{d:Nat}{p:PV}(hd:o.dst=co d)(hs:s1={s with f:=(d,p)::s.f})(hp:ae p (s.f.get d)){M:Mem}{N:Nm}{a:Act}{w:World}(hf:Fits M N s1 nt a w):Fits M N s nt a w:=by
  subst hs;refine⟨hf.1,fun k=>?_,hf.2.2⟩;have:=hf.2.1 k;rw[AF.ax]at this;split at this
  · rename_i hk;subst hk;exact hp _ _ _ _ this
  · exact this
theorem cq(j:bn P ty){all:List Oper}{s:AS}: ∀{l:List (Nat×Oper)} {C:Prop},cX ty nt all s l=co C->C-> ∀x∈l,eQ P nt all s x.2
  | [],_,_,_,x,hx=>(nomatch hx)
  | (i,o)::r,C,h,hC,x,hx=>by
    simp only[cX]at h;split at h
    · cases h
    · rename_i R hR
      have key:R->(∀M N b w,Fits M N s nt b w-> ∃v,YieldsAt P all.toArray w o v b∧Fits M N s nt (b.put o.dst v) w)->eQ P nt all s x.2:=by
        intro A hh;rcases VH.1 hx with rfl|hx
        · exact hh
        · exact cq j hR A x hx
      split at h
      · rename_i u
        split at h
        · rename_i p J A
          split at h
          · rename_i d hd
            cases hb:VV d nt with
            |false=>simp[hb]at h
            | true=>
              simp only[hb,cond_true,Vq]at h;subst h;obtain⟨⟨h1,G⟩,I⟩:=hC;refine key I fun M N b w hf=>?_;obtain⟨v,D,y⟩:=rV j hf A G;refine⟨v,.inl ⟨fN u hf,.inl D⟩,?_⟩;rw[hd];exact vX hd Z h1 (hf.put d p v (Vm hb) y)
          · rename_i hd
            simp only[Vq]at h;subst h;refine key hC.2 fun M N b w hf=>?_;obtain⟨v,D,y⟩:=rV j hf A hC.1;exact⟨v,.inl ⟨fN u hf,.inl D⟩,by rw[hd];exact hf⟩
        · cases h
      · rename_i u
        have B: ∀d,o.dst=co d->s.f.get d= .iv (.v (.tuple #[]))-> ∀M N b w,Fits M N s nt b w-> ∃v,YieldsAt P all.toArray w o v b∧Fits M N s nt (b.put o.dst v) w:=fun d hd h1 M N b w hf=>by
          refine⟨undef,.inr ⟨fN u hf,rfl⟩,?_⟩;have:=hf.skip o;unfold gP at this;rw[hd]at this ⊢;exact vX hd Z (h1▸ae.refl _) this
        split at h
        · rename_i d hd
          simp only[Vq]at h;subst h;exact key hC.2 (B d hd hC.1)
        · rename_i hd
          simp only[Vq]at h;subst h;exact key hC fun M N b w hf=>⟨undef,.inr ⟨fN u hf,rfl⟩,by rw[hd];exact hf⟩
      · cases h
theorem Ek{all:List Oper}{o:Oper}{r:List Oper}{d:Nat}{t:Bool}{k:List KI}{s:AS}{c:Bool}(hc:c=t)(u:s.f.get d= .iv (.v (.bool t)))(h:GO P nt (.ops all (o::r)::k) Q (setBool s (.tmp d) c)):GO P nt (.ops all (o::r)::k) Q s:=by
  subst hc;intro M N a w hf;have j:=hf.setBool (c:= .tmp d) u;exact AL.same (s:=s) h (jL _ _ _) j
theorem vo{c:Operand}{u v:Code}{t:Bool}{k:List KI}{s:AS}(hc:ev s.f c= .iv (.v (.bool t)))(h:GO P nt (.code (bif t then u else v)::k) Q s):GO P nt (.code (.cond c u v)::k) Q s:=by
  intro M N a w hf;refine wp_cond (hf.bool hc) ?_;cases t
  · exact h M N a w hf
  · exact h M N a w hf
theorem s9{all:List Oper}{f:AF}{j d:Nat}{p:PV}(h:guardOf all f j=co (d,p)):f.get d=p:=by
  unfold guardOf at h;split at h
  · split at h
    · simp only[Vq,VC]at h;rw[<-h.1];exact h.2
    · cases h
  · cases h
theorem AJ{todo:List (Nat×Oper)}: ∀{l:List (Nat×Oper)} {i:Nat} {o:Oper},(∀x∈l,x∈todo)->AK todo l=co (i,o)->(i,o)∈todo∧zh todo i=is
  | [],_,_,_,h=>by simp[AK]at h
  | (j,q)::r,i,o,hl,h=>by
    simp only[AK]at h;split at h
    · rename_i u
      simp only[Vq,VC]at h;obtain⟨rfl,rfl⟩:=h;exact⟨hl _ (by simp),u⟩
    · exact AJ (fun x y=>hl x (VE _ y)) h
theorem tq{all:List Oper}{i:Nat}{o:Oper}: ∀{l:List Oper} {n:Nat},oz all i o n l=is-> ∀k q,l[k]? =co q->n+k≠i->(waits q i=is∨looks all q o=jp)∧ ∀d,o.dst=co d->q.dst≠co d
  | [],_,_,k,q,hk,_=>by simp at hk
  | c::l,n,h,k,q,hk,hne=>by
    simp only[oz,Wf,Xz,WA]at h;cases k with
    | zero=>
      simp at hk;subst hk;rcases h.1 with h1|⟨h1,x⟩
      · exact absurd (VN h1) (by simpa using hne)
      · refine⟨h1,fun d j u=>?_⟩
        rw[j,u]at x;simp at x
    |succ k=>exact tq h.2 k q (by simpa using hk) (by omega)
theorem wG(y:bn P ty){all:List Oper}(h:kD ty nt all 0 all=is):jw P nt all:=by
  have key: ∀(l:List Oper) (n:Nat),kD ty nt all n l=is-> ∀k o,l[k]? =co o->aS o=is->
      o.guard=io∧(∃d,o.dst=co d∧d<nt)∧(∃t v,o.op= .alloc t∧ ∀w,(zeroValue t).run P w= .ok v w)∧(∀k,waits o k=jp)∧oz all (n+k) o 0 all=is:=by
    intro l
    induction l with
    |nil=>intro n _ k o hk;simp at hk
    | cons c l ih=>
      intro n h k o hk j;simp only[kD,Wf]at h;cases k with
      | zero=>
        simp at hk;subst hk;have h1:=h.1;split at h1
        · rename_i t ht
          split at h1
          · rename_i d e G hd u
            simp only[Wf]at h1;refine⟨G,⟨d,hd,Vm h1.1⟩,⟨t,_,ht,fun w=>dp (y _ _ u)⟩,fun k=>?_,h1.2.2⟩;unfold waits;refine Wm.2 fun e u=>?_;have:=Wc.1 h1.2.1 e u;simp only[WA]at this;simp[this]
          · cases h1
        · rename_i x
          unfold aS at j;split at j
          · rename_i t ht;exact absurd ht (x t)
          · cases j
      | succ k=>
        have:=ih (n+1) h.2 k o (by simpa using hk) j;rw[show n+(k+1)=n+1+k by omega];exact this
  intro i o J j;obtain⟨h1,B,C,D,A⟩:=key all 0 h i o J j;refine⟨h1,B,C,D,fun k q hk I=>?_⟩;rw[VL]at A;exact tq A k q hk (by omega)
theorem xZ{j:Ud}(u:JA P j){s:AS}{o:Op}{e:Vl}{asv:List PV}(h:callee j s o=co (e,asv)):
    ∃g c fn,o= .call c∧bN s.f c=co (g,asv)∧asv.length<=e.nt∧P.funcs[g]? =co fn∧fn.body=co e.body∧(fn.name== "runtime.NumGoroutine")=jp∧fn.ntmps=e.nt∧fn.results.toList=e.res:=by
  unfold callee at h;split at h
  · rename_i c
    split at h
    · rename_i g x D
      split at h
      · rename_i I G
        split at h
        · rename_i hb
          simp only[Vq,VC]at h;obtain⟨rfl,rfl⟩:=h;obtain⟨fn,h1,y,A,B,C⟩:=u _ _ G;exact⟨g,c,fn,rfl,D,Vm hb,h1,y,A,B,C⟩
        · cases h
      · cases h
    · cases h
  · cases h
theorem Qm(hm:P.follows .mixedOrders=is)(B:bn P ty){y:Way}(x0:JA P y.fns): ∀(n:Nat) (nt:NT) (k:List KI) (s:AS) (C0 C:Prop) (J:NT) (st:Stop),bF ty y n nt k s C0=co (C,J,st)->(C->C0)∧(C->fk P J Q st->GO P nt k Q s):=by
  intro n
  induction n with
  | zero=>
    intro nt k s C0 C J st h;simp only[bF,Vq,VC]at h;obtain⟨rfl,rfl,rfl⟩:=h;exact⟨fun h=>h,fun _ g=>g⟩
  | succ n ih=>
    intro nt k s C0 C J st h;have A: ∀{Y:NT} {k2:List KI} {s2:AS},bF ty y n Y k2 s2 C0=co (C,J,st)->(GO P Y k2 Q s2->GO P nt k Q s)->(C->C0)∧(C->fk P J Q st->GO P nt k Q s):=
      fun h f=>have:=ih _ _ _ _ _ _ _ h;⟨this.1,fun hC g=>f (this.2 hC g)⟩
    have G: ∀{Y:NT} {k2:List KI} {s2:AS} {C1:Prop},bF ty y n Y k2 s2 (C0∧C1)=co (C,J,st)->(C1->GO P Y k2 Q s2->GO P nt k Q s)->(C->C0)∧(C->fk P J Q st->GO P nt k Q s):=
      fun h f=>have:=ih _ _ _ _ _ _ _ h;⟨fun hC=>(this.1 hC).1,fun hC g=>f (this.1 hC).2 (this.2 hC g)⟩
    have D: ∀{v0:Stop},co (C0,nt,v0)=co (C,J,st)->(fk P nt Q v0->GO P nt k Q s)->(C->C0)∧(C->fk P J Q st->GO P nt k Q s):=by
      intro v0 h f;simp only[Vq,VC]at h;obtain⟨rfl,rfl,rfl⟩:=h;exact⟨fun h=>h,fun _ g=>f g⟩
    have a0: ∀{Y:NT} {z0:Nat} {k2:List KI} {s2:AS},co (C0,Y,Stop.bad z0 k2 s2)=co (C,J,st)->(C->C0)∧(C->fk P J Q st->GO P nt k Q s):=by
      intro Y z0 k2 s2 h;simp only[Vq,VC]at h;obtain⟨rfl,rfl,rfl⟩:=h;exact⟨fun h=>h,fun _ g=>g.elim⟩
    cases k with
    |nil=>simp only[bF]at h;exact D h fun g=>g
    | cons i k=>
      cases i with
      |lp R=>simp only[bF]at h;exact D h fun g=>g
      |az id=>simp only[bF]at h;exact A h Q5
      |Gh=>simp only[bF]at h;exact A h fun g=>g
      | ER b m=>
        simp only[bF]at h;split at h
        · exact a0 h
        · exact A h go_round
      | MC Y f res o all rest=>
        simp only[bF]at h;split at h
        · exact a0 h
        · rename_i r hr
          split at h
          · exact a0 h
          · rename_i s' I
            exact A h fun g=>⟨.inl Z,r,s',hr,I,g⟩
      | MD Y f res j o all todo pend=>
        simp only[bF]at h;split at h
        · exact a0 h
        · rename_i r hr
          split at h
          · exact a0 h
          · rename_i s' I
            split at h
            · exact a0 h
            · rename_i n0 d0
              exact G h fun hC g=>⟨.inl Z,r,s',hr,I,cq B d0 hC,g⟩
      | code c=>
        cases c with
        |skip=>simp only[bF]at h;exact A h go_skip
        |scope b=>simp only[bF]at h;exact A h Il
        |label l=>simp only[bF]at h;exact A h Ip
        |seq a b=>simp only[bF]at h;exact A h QZ
        |block id b=>simp only[bF]at h;exact A h Iv
        | region id ops d=>
          cases d with
          |false=>simp only[bF]at h;exact A h go_region
          | true=>
            simp only[bF]at h;split at h
            · rename_i h1 h2 h3
              exact A h (It hm (Fx h1) h2 (wG B h3))
            · exact D h fun g=>g
        | cond c u v=>
          simp only[bF]at h;split at h
          · rename_i t he
            split at h
            · exact D h fun g=>Mw he g.1 g.2
            · split at h
              · exact A h (vo he)
              · exact A h (vo he)
          · rename_i he
            exact A h (vn he)
          · rename_i he
            exact A h (vn he)
          · exact a0 h
        | ret=>
          simp only[bF]at h;split at h
          · rename_i k' I
            exact A h fun g=>go_ret (dJ k I g)
          · rename_i I
            exact D h fun g=>go_ret (mN k I g)
        | exit id=>
          simp only[bF]at h;split at h
          · rename_i k' I
            exact A h fun g=>Mt (da k I g)
          · exact a0 h
        | loop b=>
          simp only[bF]at h;split at h
          · exact D h fun g=>g
          · exact A h mR
        |_=>simp only[bF]at h;exact a0 h
      |tw all rest=>simp only[bF]at h;exact a0 h
      | bR all todo pend=>
        cases todo with
        |nil=>simp only[bF]at h;exact A h Bu
        | cons x todo=>
          have g0: ∀{j:Nat} {o:Oper},dq (x::todo)=[(j,o)]->(j,o)∈(x::todo)∧aS o=jp∧ ∀y∈(x::todo),waits o y.1=jp:=by
            intro j o h1;have h2:(j,o)∈dq (x::todo):=by rw[h1];simp
            obtain⟨h3,h4⟩:=V4.1 h2;simp only[WA,Xg,Wm]at h4;exact⟨h3,h4.1,fun y hy=>by simpa using h4.2 y hy⟩
          have b0: ∀{CA:Prop},lD ty nt all s (x::todo) pend=co CA->CA-> ∀y∈(x::todo),aS y.2=is-> ∀y∈pend,eQ P nt all s y.2:=by
            intro CA h1 f0 y hy k1;unfold lD at h1;split at h1
            · exact cq B h1 f0
            · rename_i h2
              have:=Wm.1 h2 y hy;rw[k1]at this;exact absurd Z this
          have e0: ∀{j:Nat} {o:Oper} {s':AS},dq (x::todo)=[(j,o)]->bQ nt all s.f o=co is->gC all pend o=is->mW (x::todo) [j]=is->(∀y∈(x::todo),aS y.2=is-> ∀y∈pend,eQ P nt all s y.2)->OT P nt o s (fun t=>t=s')->
              (∀y∈aX pend o,eQ P nt all s' y.2)->GO P nt (.bR all ((x::todo).filter fun x=>!VP x.1 j) (aX pend o)::k) Q s'->GO P nt (.bR all (x::todo) pend::k) Q s:=by
            intro j o s' h1 h2 h3 h4 ha h5 h6 h7;obtain⟨c0,r0,t0⟩:=g0 h1;refine oP h4 ⟨_,c0,r0⟩ ha fun j' o' hj _ hu=>?_;simp only[Vz]at hj;subst hj;have:=hu o c0;subst this;exact⟨r0,fun y hy _=>t0 y hy,h3,h2,_,h5,fun t ht=>by subst ht;exact⟨h6,h7⟩⟩
          simp only[bF]at h;split at h
          · rename_i i o p C' s0
            obtain⟨g1,ga,gb,g2,g3,g4⟩:=(uR (fun _ h=>h)).1 s0;split at h
            · exact a0 h
            · rename_i s' I
              split at h
              · exact G h fun hC g=>vm g1 ga gb g2 g3 (oL B g4 hC I).1 (oL B g4 hC I).2 g
              · rename_i ho
                exact A h fun g=>vm g1 ga gb g2 g3 (oL B g4 (yG g4 ho) I).1 (oL B g4 (yG g4 ho) I).2 g
          · rename_i i o s0
            obtain⟨g1,ga,gb,g2,g3⟩:=(uR (fun _ h=>h)).2 s0;exact A h (Is g1 ga gb g2 g3)
          · split at h
            · rename_i t' hy
              split at h
              · exact D h fun g=>sv hy g.1 g.2
              · split at h
                · exact A h fun g=>sv hy (fun _=>g) (fun h=>by cases h)
                · exact A h fun g=>sv hy (fun h=>by cases h) (fun _=>g)
            · exact a0 h
          · split at h
            · rename_i j o m0
              split at h
              · rename_i i0 j0 k0
                split at h
                · exact a0 h
                · rename_i CA f0
                  split at h
                  · rename_i p C' hr
                    split at h
                    · exact a0 h
                    · rename_i s' I
                      split at h
                      · exact a0 h
                      · rename_i n0 d0
                        exact G h fun hC g=>e0 m0 i0 j0 k0 (b0 f0 hC.1) (uM B hr hC.2.1 I) (cq B d0 hC.2.2) g
                  · split at h
                    · split at h
                      · split at h
                        · exact D h fun g=>g
                        · rename_i C' p s1 o0
                          split at h
                          · exact a0 h
                          · rename_i s' I
                            split at h
                            · exact a0 h
                            · rename_i n0 d0
                              exact G h fun hC g=>e0 m0 i0 j0 k0 (b0 f0 hC.1) (Gm B o0 hC.2.1 I) (cq B d0 hC.2.2) g
                      · rename_i e b1 p0
                        rw[vS]at h;obtain⟨g,c,fn,ho,ha,he,h1,h2,h3,h4,h5⟩:=xZ x0 p0;obtain⟨c0,r0,t0⟩:=g0 m0;exact G h fun hC gg=>Mv B c0 k0 t0 (b0 f0 hC) j0 i0 ho ha h1 h2 h3 h4 h5 he gg
                    · rename_i p s1 q0
                      split at h
                      · exact a0 h
                      · rename_i s' I
                        split at h
                        · exact a0 h
                        · rename_i n0 d0
                          exact G h fun hC g=>e0 m0 i0 j0 k0 (b0 f0 hC.1) (CD B q0 I) (cq B d0 hC.2) g
              · exact D h fun g=>g
            · split at h
              · exact D h fun g=>g
              · rename_i i o j1
                split at h
                · rename_i t d i1 f1
                  split at h
                  · exact a0 h
                  · rename_i e he
                    rw[force_eq]at h;split at h
                    · rename_i C1 C2 d1 e1
                      obtain⟨m1,m2⟩:=AJ (fun _ h=>h) j1;exact G h fun hC g=>FX m1 i1 (fun w=>dp (B _ _ he)) f1 m2 (cq B d1 hC.1) (cq B e1 hC.2) g
                    · exact a0 h
                · exact a0 h
            · exact D h fun g=>g
      | ops all rest=>
        cases rest with
        |nil=>simp only[bF]at h;exact A h CY
        | cons o r=>
          simp only[bF]at h;split at h
          · rename_i j w0 hg
            split at h
            · rename_i d t hy
              cases hb:VV d nt with
              |false=>simp only[hb,cond_false]at h;exact a0 h
              | true=>
                simp only[hb,cond_true]at h;split at h
                · exact D h fun g=>Iq hg hy (Vm hb) g.1 g.2
                · split at h
                  · exact A h (Ek Z (s9 hy))
                  · exact A h (Ek Z (s9 hy))
            · rename_i d t hy
              cases hb:VV d nt with
              |false=>simp only[hb,cond_false]at h;exact a0 h
              | true=>
                simp only[hb,cond_true]at h;obtain⟨a1,a2,a3,a4,a5,a6⟩:=o;cases t<;>cases w0<;>simp only at h
                all_goals exact A h fun g=>Bt hg hy (Vm hb) g
            · rename_i d vs hy
              exact A h fun g=>Br hg hy g
            · exact a0 h
          · rename_i hg
            split at h
            · split at h
              · split at h
                · split at h
                  · exact D h fun g=>g
                  · rename_i C' p s1 o0
                    split at h
                    · exact a0 h
                    · rename_i s' I
                      exact G h fun hC g=>bz hg (Gm B o0 hC I) fun t ht=>by subst ht;exact g
                · rename_i e b1 p0
                  rw[vS]at h;obtain⟨g,c,fn,ho,ha,he,h1,h2,h3,h4,h5⟩:=xZ x0 p0;exact A h fun gg=>Q3 B hg ho ha h1 h2 h3 h4 h5 he gg
              · rename_i p s1 q0
                split at h
                · exact a0 h
                · rename_i s' I
                  exact A h fun g=>bz hg (CD B q0 I) fun t ht=>by subst ht;exact g
            · rename_i p C' hr
              split at h
              · exact a0 h
              · rename_i s' I
                split at h
                · exact G h fun hC g=>bz hg (uM B hr hC I) fun t ht=>by subst ht;exact g
                · rename_i ho
                  exact A h fun g=>bz hg (uM B hr (yG hr ho) I) fun t ht=>by subst ht;exact g
theorem QE:JA P (fun _=>io):=fun _ _ h=>nomatch h
theorem CX(hm:P.follows .mixedOrders=is)(u:bn P ty)(n:Nat){k:List KI}{s:AS}{C:Prop}{j:NT}{st:Stop}(h:bF ty ⟨fun _=>io,0,jp⟩ n nt k s True=co (C,j,st))(hC:C)(hg:fk P j Q st):GO P nt k Q s:=
  (Qm hm u QE n nt k s True C j st h).2 hC hg
end
mutual
def PV.low(n:Nat):PV->Bool
 | .iv _=>is
 | .agg cs=>bp n cs
 | .aZ cs=>bp n cs
 | .ptr i _=>VV i n
 | .cM i _ _ _=>VV i n
 | .eL _ i=>VV i n
 | .nI i _ _=>VV i n
 | .sl i _ _ _=>VV i n
 | .mp i=>VV i n
 | .cm _ first caps=>match bp n first with
  |true=>bp n caps
  |false=>jp
 | .kb _=>is
 | .any=>is
def bp(n:Nat):List PV->Bool
 | []=>is
 |p::r=>match PV.low n p with
  |true=>bp n r
  |false=>jp
end
theorem fV{n:Nat}: ∀{l:List PV},bp n l=is-> ∀(j:Nat) (p:PV),l[j]? =co p->p.low n=is
 | [],_,j,p,h=>by simp at h
 |c::l,hb,j,p,h=>by
  simp only[bp]at hb;split at hb
  .rename_i u;cases j with
   |zero=>simp at h;subst h;exact u
   |succ j=>exact fV hb j p (by simpa using h)
  .cases hb
def AO.low(n:Nat):AO->Prop
 | .cells cs _=>bp n cs=is
 | .row _ es=> ∀(k:Nat) (e:List PV),es[k]? =co e->bp n e=is
 | .bu _ _=>True
 | .fh=>True
 | .map ..=>True
 | .bX ..=>True
 | .ef _ _=>True
 | .hQ ..=>True
 | .eh q _ _=>q.low n=is
 | .n3 _ _ f=> ∀d,(AF.get f d).low n=is
section
variable {M:Mem} {N:Nm} {U:Nat->Prop} {n:Nat}
theorem VR.down{p:PV}{x:Value}(h:VR M N U p x):p.low n=is->VR M N (· <n) p x:=by
 induction h with
 |iv x y h=>exact fun _=> .iv x y h
 |agg cs ys hl hr ih=>exact fun hb=> .agg _ _ hl fun j p u=>ih j p u (fV hb j p u)
 |aZ cs ys hl hr ih=>exact fun hb=> .aZ _ _ hl fun j p u=>ih j p u (fV hb j p u)
 |ptr i off h=>exact fun hb=> .ptr i off (Vm hb)
 |cM i sz k off h=>exact fun hb=> .cM i sz k off (Vm hb)
 |eL z i h=>exact fun hb=> .eL z i (Vm hb)
 |nI i o m h=>exact fun hb=> .nI i o m (Vm hb)
 |sl i off len sz cap h A hl hc he=>exact fun hb=> .sl i off len sz cap (Vm hb) A hl hc he
 |kP i sz h=>exact fun hb=> .kP i sz (Vm hb)
 |sle i sz cap h hc he=>exact fun hb=> .sle i sz cap (Vm hb) hc he
 |mp i h=>exact fun hb=> .mp i (Vm hb)
 |cm fn first caps f' c' h1 h2 hr1 hr2 ih1 ih2=>
  intro hb;simp only[PV.low]at hb;split at hb
  .rename_i A;exact .cm _ _ _ _ _ h1 h2 (fun j p u=>ih1 j p u (fV A j p u)) (fun j p u=>ih2 j p u (fV hb j p u))
  .cases hb
 |kb b=>exact fun _=> .kb b
 |any x=>exact fun _=> .any x
theorem OR.down{w:World}{i:Nat}{o:AO}(h:OR M N U w i o)(hb:o.low n):OR M N (· <n) w i o:=by
 cases o with
 |cells cs T0=>obtain⟨c,T,h1,u,x,y,A⟩:=h;exact⟨c,T,h1,u,x,fun j p D=>(y j p D).down (fV hb j p D),A⟩
 |row sz es=>
  rcases h with h|⟨B,c,T,h1,u,x,y,A⟩
  .exact .inl h
  exact .inr ⟨B,c,T,h1,u,x,y,fun k e j p C G=>(A k e j p C G).down (fV (hb k e C) j p G)⟩
 |bu l T=>exact h
 |fh=>exact h
 |map kc ev z zv dv m=>exact h
 |bX kc ev m l cu=>exact h
 |ef s p=>exact h
 |hQ kc ev z zv dv m bs c=>exact h
 |eh q c l=>obtain⟨b,h1,u⟩:=h;exact⟨b,h1.down hb,u⟩
 |n3 l c f=>
  obtain⟨B,r,h1,u,x,y,A,I,J,Y⟩:=h;exact⟨B,r,h1,u,x,y,A,I,J,fun d=>(Y d).down (hb d)⟩
end
def Nj(n:Nat)(f:AF):AF->Prop
 | []=>True
 |(d,p)::r=>f.get d=p∧p.low n=is∧Nj n f r
def Dn(n:Nat)(h:AH):AH->Prop
 | []=>True
 |(_,io)::r=>Dn n h r
 |(i,co o)::r=>h.get i=co o∧i<n∧o.low n∧Dn n h r
structure TY (s t:AS):Prop where
 nx:t.nx<=s.nx
 f:Nj t.nx s.f t.f
 h:Dn t.nx s.h t.h
theorem rL{n:Nat}{h:AH}: ∀{g:AH},Dn n h g-> ∀i o,g.get i=co o->h.get i=co o∧i<n∧o.low n
 | [],_,i,o,hi=>by simp[AH.get]at hi
 |(k,io)::r,hw,i,o,hi=>by
  rw[AH.ax]at hi;split at hi
  .cases hi
  .exact rL (g:=r) hw i o hi
 |(k,co p)::r,hw,i,o,hi=>by
  obtain⟨h1,j,u,x⟩:=hw;rw[AH.ax]at hi;split at hi
  .rename_i e;subst e;simp only[Vq]at hi;subst hi;exact⟨h1,j,u⟩
  .exact rL x i o hi
theorem TY.ext{s t:AS}(hw:TY s t){M y:Mem}{N A:Nm}{n:Nat}{h:AH}{w B:World}(j:Ext M N (· <n) h w y A (· <s.nx) s.h B)(hn:n<=t.nx):Ext M N (· <n) h w y A (· <t.nx) t.h B:=
 ⟨j.os,j.tape,j.output,j.size,j.gu,j.nZ,j.iq,j.nm,fun _ u=>W4 u hn,fun i o u x=>j.gh i o (rL hw.h i o u).1 x⟩
theorem c5{p:Nat->Prop}(h: ∃n,p n): ∃n,p n∧ ∀m,p m->n<=m:=by
 obtain⟨n,x⟩:=h
 induction n using Nat.strongRecOn with
 |_ n ih=>
  by_cases u: ∃m,m<n∧p m
  .obtain⟨m,h1,j⟩:=u;exact ih m h1 j
  .exact⟨n,x,fun m j=>W9 fun h1=>u ⟨m,h1,j⟩⟩
section
variable {P:Program} {nt:NT} {Q:AQ} {k:List KI} {s:AS}
end
section
variable {P:Program}
def Pure(P:Program)(k:FuncId)(args:List PV)(r:PV):Prop:=Fn P k args [] fun q h n=>q=r∧h=[]∧n=0
end
mutual
theorem PV.jN(σ:Nat->Nat): ∀p:PV,p.low 0=is->p.bY σ=p
 | .iv _,_=>rfl
 | .agg cs,h=>by simp only[PV.bY];rw[ix σ cs (by simpa[PV.low]using h)]
 | .aZ cs,h=>by simp only[PV.bY];rw[ix σ cs (by simpa[PV.low]using h)]
 | .ptr i o,h=>by simp[PV.low,VV]at h
 | .cM i _ _ o,h=>by simp[PV.low,VV]at h
 | .eL _ i,h=>by simp[PV.low,VV]at h
 | .nI i _ _,h=>by simp[PV.low,VV]at h
 | .sl i _ _ _,h=>by simp[PV.low,VV]at h
 | .mp i,h=>by simp[PV.low,VV]at h
 | .cm fn a b,h=>by
  simp only[PV.low]at h;simp only[PV.bY];split at h
  .rename_i j;rw[ix σ a j,ix σ b h]
  .cases h
 | .kb _,_=>rfl
 | .any,_=>rfl
theorem ix(σ:Nat->Nat): ∀l:List PV,bp 0 l=is->c7 σ l=l
 | [],_=>rfl
 |p::r,h=>by
  simp only[bp]at h;split at h
  .rename_i j;simp only[c7];rw[PV.jN σ p j,ix σ r h]
  .cases h
end
section
variable {P:Program} {nt:NT} {Q:AQ} {k:List KI} {s:AS}
theorem aB{all rest:List Oper}{o:Oper}{c:Call}{g:FuncId}{args:List PV}{r:PV}{s':AS}(hc:Pure P g args r)(ho:o.op= .call c)(hg:o.guard=io)(ha:bN s.f c=co (g,args))(hl:bp 0 args=is)
  (hr:r.low 0=is) (hp:putDst nt o r s=co s') (h:GO P nt (.ops all rest::k) Q s'):GO P nt (.ops all (o::rest)::k) Q s:=by
 refine bz (R:=fun t=>t=s') hg ?_ (fun t ht=>by subst ht;exact h);refine lj ho ha hc (L:=[]) (by simp) (by simp) Z (ix _ _ hl).symm ?_;rintro q j u ⟨rfl,rfl,rfl⟩;exact⟨s',by rw[PV.jN _ _ hr];exact hp,rfl⟩
end
def eJ(o q:AO):Prop:=(q.real=is->o.real=is)∧ ∀(M:Mem) (N:Nm) (U:Nat->Prop) (w:World) (i:Nat),OR M N U w i o->OR M N U w i q
theorem ae.of_eq{p q:PV}(h:p=q):ae p q:=h▸ .refl p
theorem jV.refl(p:IV):jV p p:=fun _ _ h=>h
theorem jV.of_eq{p q:IV}(h:p=q):jV p q:=h▸ .refl p
theorem eJ.refl(o:AO):eJ o o:=⟨id,fun _ _ _ _ _ h=>h⟩
theorem eJ.of_eq{o q:AO}(h:o=q):eJ o q:=h▸ .refl o
theorem eJ.trans{o q r:AO}(a:eJ o q)(b:eJ q r):eJ o r:=⟨fun h=>a.1 (b.1 h),fun M N U w i h=>b.2 M N U w i (a.2 M N U w i h)⟩
theorem ae.iv{p q:IV}(h:jV p q):ae (.iv p) (.iv q):=fun M N U x j=>by
 cases j with
 |iv _ _ hi=>exact .iv _ _ (h M x hi)
theorem jV.nil(sz:Nat)(el:Nat->List IV):jV (.v (.slice io 0 0)) (.bK sz 0 el):=fun M x h=>by
 cases h;exact .fz _ _ _ _
theorem ae.nil(sz:Nat)(el:Nat->List IV):ae (.iv (.v (.slice io 0 0))) (.iv (.bK sz 0 el)):= .iv (.nil sz el)
theorem ae.kb(b:Bool):ae (.kb b) (.iv (.v (.bool b))):=fun M N U x h=>by
 cases h;exact .iv _ _ (.v _)
theorem jV.bK{sz n y:Nat}{el u:Nat->List IV}(hn:n=y)(h: ∀k,k<n->el k=u k):jV (.bK sz n el) (.bK sz y u):=by
 subst hn;intro M x B;cases B with
 |fz=>exact .fz _ _ _ _
 |bK _ _ _ b off cap hn hc hl hm hr=>
  exact .bK _ _ _ _ _ _ hn hc (fun k hk=>by rw[<-h k hk];exact hl k hk) hm (fun k j p hk A=>hr k j p hk (by rw[h k hk];exact A))
theorem ae.bK{sz n u:Nat}{el j:Nat->List IV}(hn:n=u)(h: ∀k,k<n->el k=j k):ae (.iv (.bK sz n el)) (.iv (.bK sz u j)):= .iv (.bK hn h)
def gF:List PV->List PV->Prop
 | [],[]=>True
 |p::r,q::s=>ae p q∧gF r s
 |_,_=>False
theorem gF.length: ∀{a b:List PV},gF a b->a.length=b.length
 | [],[],_=>rfl
 |_::_,_::_,h=>congrArg (· +1) (gF.length h.2)
 | [],_::_,h=>h.elim
 |_::_,[],h=>h.elim
theorem gF.get: ∀{a b:List PV},gF a b-> ∀(j:Nat) (q:PV),b[j]? =co q-> ∃p,a[j]? =co p∧ae p q
 | [],[],_,j,q,h=>by simp at h
 |p::r,q0::s,hh,j,q,h=>by
  cases j with
  |zero=>simp at h;subst h;exact⟨p,rfl,hh.1⟩
  |succ j=>simpa using gF.get hh.2 j q (by simpa using h)
 | [],_::_,hh,_,_,_=>hh.elim
 |_::_,[],hh,_,_,_=>hh.elim
theorem ae.agg{a b:List PV}(h:gF a b):ae (.agg a) (.agg b):=fun M N U x y=>by
 cases y with
 |agg _ ys hl hr=>exact .agg _ _ (h.length▸hl) fun j q u=>let ⟨p,hp,hle⟩:=h.get j q u;hle M N U _ (hr j p hp)
theorem ae.aZ{a b:List PV}(h:gF a b):ae (.aZ a) (.aZ b):=fun M N U x y=>by
 cases y with
 |aZ _ ys hl hr=>exact .aZ _ _ (h.length▸hl) fun j q u=>let ⟨p,hp,hle⟩:=h.get j q u;hle M N U _ (hr j p hp)
theorem eJ.cells{a b:List PV}{u:Option TypeId}(h:gF a b):eJ (.cells a u) (.cells b u):=⟨fun h=>h,fun M N U w i ⟨c,T,h1,h2,h3,h4,h5⟩=>
 ⟨c,T,h1,h2,h.length▸h3,fun j q x=>let ⟨p,hp,hle⟩:=h.get j q x;hle M N U _ (h4 j p hp),h5⟩⟩
theorem eJ.RU(a:List PV)(j:Option TypeId):eJ (.cells a j) (.cells a):=⟨fun h=>h,fun M N U w i ⟨c,T,h1,h2,h3,h4,_⟩=>⟨c,T,h1,h2,h3,h4,.none _⟩⟩
theorem Fn.le{P:Program}{k:FuncId}{aa args:List PV}{os:List AO}{R:PV->AH->Nat->Prop}(h:Fn P k args os R)(u:gF aa args):Fn P k aa os R:=
 ⟨h.1,fun M N w vs y hl A=>h.2 M N w vs y (by rw[<-u.length];exact hl) fun j q x=>let ⟨p,hp,hpq⟩:=u.get j q x;hpq M N _ _ (A j p hp)⟩
theorem Pure.le{P:Program}{k:FuncId}{aa args:List PV}{r:PV}(h:Pure P k args r)(j:gF aa args):Pure P k aa r:=Fn.le h j
def sg(n0:Nat)(L:List Nat)(i:Nat):Nat:=bif VV i n0 then i else L.getD (i-n0) 0
theorem gm{n0:Nat}{L:List Nat}{i:Nat}(h:i<n0):sg n0 L i=i:=by
 have:VV i n0=is:=Wo h;simp[sg,this]
def Gq(n:Nat)(σ:Nat->Nat)(f:AF):AF->Prop
 | []=>True
 |(d,p)::r=>ae (f.get d) (p.bY σ)∧p.low n=is∧Gq n σ f r
def oC(n:Nat)(σ:Nat->Nat)(h:AH):AH->Prop
 | []=>True
 |(_,io)::r=>oC n σ h r
 |(i,co o)::r=>(∃j,h.get (σ i)=co j∧eJ j (o.bY σ))∧i<n∧o.low n∧oC n σ h r
def fg(σ:Nat->Nat):AH->List Nat
 | []=> []
 |(_,io)::r=>fg σ r
 |(i,co _)::r=>σ i::fg σ r
structure Wk (n0:Nat) (L:List Nat) (s t:AS):Prop where
 nx:t.nx=n0+L.length
 ns:n0<=s.nx
 lt: ∀j∈L,j<s.nx
 f:Gq t.nx (sg n0 L) s.f t.f
 h:oC t.nx (sg n0 L) s.h t.h
 inj:(fg (sg n0 L) t.h).Nodup
theorem Dm{n:Nat}{σ:Nat->Nat}{f:AF}: ∀{g:AF},Gq n σ f g-> ∀d,g.get d= .any∨(ae (f.get d) ((g.get d).bY σ)∧(g.get d).low n=is)
 | [],_,_=> .inl Z
 |(k,p)::r,h,d=>by
  obtain⟨h1,j,u⟩:=h;rw[AF.ax];by_cases hd:d=k
  .subst hd;rw[am Z];exact .inr ⟨h1,j⟩
  .rw[be hd];exact Dm u d
theorem iY{n:Nat}{σ:Nat->Nat}{h:AH}: ∀{g:AH},oC n σ h g-> ∀i o,g.get i=co o->(∃j,h.get (σ i)=co j∧eJ j (o.bY σ))∧i<n∧o.low n
 | [],_,i,o,hi=>by simp[AH.get]at hi
 |(k,io)::r,hw,i,o,hi=>by
  rw[AH.ax]at hi;split at hi
  .cases hi
  .exact iY (g:=r) hw i o hi
 |(k,co p)::r,hw,i,o,hi=>by
  obtain⟨h1,u,x,y⟩:=hw;rw[AH.ax]at hi;split at hi
  .rename_i e;subst e;simp only[Vq]at hi;subst hi;exact⟨h1,u,x⟩
  .exact iY y i o hi
theorem jQ{σ:Nat->Nat}: ∀{g:AH} {i:Nat} {o:AO},g.get i=co o->σ i∈fg σ g
 | [],i,o,h=>by simp[AH.get]at h
 |(k,io)::r,i,o,h=>by
  rw[AH.ax]at h;split at h
  .cases h
  .exact jQ (g:=r) h
 |(k,co p)::r,i,o,h=>by
  rw[AH.ax]at h;split at h
  .rename_i e;subst e;simp[fg]
  .exact VE _ (jQ h)
theorem mA{σ:Nat->Nat}: ∀{g:AH},(fg σ g).Nodup-> ∀i j o p,g.get i=co o->g.get j=co p->σ i=σ j->i=j
 | [],_,i,j,o,p,h,_,_=>by simp[AH.get]at h
 |(k,io)::r,hn,i,j,o,p,hi,hj,he=>by
  rw[AH.ax]at hi hj;split at hi
  .cases hi
  .split at hj
   .cases hj
   .exact mA (g:=r) hn i j o p hi hj he
 |(k,co q)::r,hn,i,j,o,p,hi,hj,he=>by
  rw[AH.ax]at hi hj;simp only[fg,Wb]at hn;split at hi
  .rename_i x;split at hj
   .rename_i u;rw[x,u]
   .subst x;exact absurd (he▸jQ hj) hn.1
  .split at hj
   .rename_i u;subst u;exact absurd (he▸jQ hi) hn.1
   .exact mA hn.2 i j o p hi hj he
section
variable {n0:Nat} {L:List Nat} {s t:AS} {M:Mem} {N:Nm} {w:World}
theorem eJ.real{o q:AO}(h:eJ o q)(j:q.real=is):o.real=is:=h.1 j
theorem Wk.fits(hw:Wk n0 L s t){nt:NT}{a:Act}(hf:Fits M N s nt a w):Fits M (N.comp (sg n0 L)) t nt a w:=by
 refine⟨⟨hf.1.dA,fun i o u=>(iY hw.h i o u).2.1,fun i o u B=>?_,fun i o u=>?_,fun i j o p u D I J G=>?_⟩,fun d=>?_,hf.2.2⟩
 .obtain⟨⟨C,h1,x⟩,A,y⟩:=iY hw.h i o u;exact hf.1.dG _ C h1 (x.real ((AO.cg _ o).trans B))
 .obtain⟨⟨C,h1,x⟩,A,y⟩:=iY hw.h i o u;exact(OR.qC (x.2 M N _ w _ (hf.1.obj _ _ h1))).down y
 .obtain⟨⟨C,h1,x⟩,_⟩:=iY hw.h i o u;obtain⟨⟨Y,A,y⟩,_⟩:=iY hw.h j p D;have:=hf.1.inj _ _ _ _ h1 A (x.real ((AO.cg _ o).trans I)) (y.real ((AO.cg _ p).trans J)) G;exact mA hw.inj i j o p u D this
 .rcases Dm hw.f d with h|⟨h1,x⟩
  .rw[h];exact .any _
  .exact((h1 M N _ _ (hf.2.1 d)).qC Z).down x
theorem Wk.ext(hw:Wk n0 L s t){y:Mem}{A:Nm}{h0:AH}{B:World}(j:Ext y A (· <n0) h0 B M N (· <s.nx) s.h w):Ext y A (· <n0) h0 B M (N.comp (sg n0 L)) (· <t.nx) t.h w:=by
 refine⟨j.os,j.tape,j.output,j.size,j.gu,j.nZ,j.iq,⟨fun i u=>?_,fun i u=>?_⟩,fun i u=>by have:=hw.nx;omega,fun i o u x=>?_⟩
 .simp only[Nm.comp,gm u];exact j.nm.az i u
 .simp only[Nm.comp,gm u];exact j.nm.ext i u
 .obtain⟨⟨D,h1,C⟩,_⟩:=iY hw.h i o u;exact j.gh _ D h1 (C.real ((AO.cg _ o).trans x))
end
theorem mO{P:Program}{nt:NT}{Q:AQ}{k:List KI}{s:AS}{c:Code}{R u:AS->Prop}(h: ∀t,R t->u t)(hg:GO P nt (.code c:: .lp R::k) Q s):GO P nt (.code c:: .lp u::k) Q s:=by
 intro M N a w hf;refine AW.then hg hf fun e C D y A s' B j x=>⟨y,A,s',B,j,?_⟩
 cases e with
 |normal=>exact h _ x
 |_=>exact x
section
variable {P:Program} {nt:NT} {Q:AQ} {k:List KI} {s:AS}
theorem cP{L:List Nat}{t:AS}{c:Code}(hw:Wk s.nx L s t)(h:GO P nt (.code c::k) Q t):GO P nt (.code c::k) Q s:=by
 intro M N a w hf;exact AW.then h (hw.fits hf) fun e a2 C y A B x j u=>⟨y,A,B,(hw.ext (.refl _ _ _ _ _)).trans x,j,u⟩
theorem ic{body:Code}{σ:Type}(I:σ->AS)(μ:σ->Nat)(i0:σ)(Y:List Nat)(h0:Wk s.nx Y s (I i0))
  (u: ∀i,GO P nt (.code body:: .lp (fun t=> ∃j L,μ j<μ i∧Wk s.nx L t (I j))::k) Q (I i)):GO P nt (.code (.loop body)::k) Q s:=by
 intro M0 N0 a0 w0 D
 let J:Act->World->Nat->Prop:=fun a w n=> ∃i M N,μ i=n∧Ext M0 N0 (· <s.nx) s.h w0 M N (· <(I i).nx) (I i).h w∧Fits M N (I i) nt a w
 have C:J a0 w0 (μ i0):=⟨i0,M0,N0.comp (sg s.nx Y),rfl,h0.ext (.refl _ _ _ _ _),h0.fits D⟩
 refine wp_loop (fun a w=> ∃n,J a w n) (fun a w=>by classical exact if h: ∃n,J a w n then XW (c5 h) else 0) ⟨_,C⟩ fun a w b0=>?_;obtain⟨⟨i,M,N,hi,hx,hf⟩,c0⟩:=Xm (c5 b0);refine AW.then (u i) hf fun e B G M' N' s' y x hr=>?_
 cases e with
 |normal=>
  obtain⟨j,L,hj,hw⟩:=hr;have A:J B G (μ j):=⟨j,M',N'.comp (sg s.nx L),rfl,hw.ext (hx.trans y),hw.fits x⟩
  refine⟨⟨_,A⟩,?_⟩;simp only[dif_pos b0,dif_pos (⟨_,A⟩: ∃n,J B G n)];rw[<-hi];exact YW ((Xm (c5 (⟨_,A⟩: ∃n,J B G n))).2 _ A) hj
 |_=>exact⟨M',N',s',hx.trans y,x,hr⟩
end
section
variable {P:Program} {nt:NT} {Q:AQ} {k:List KI} {s:AS}
theorem aM{body:Code}(i0 n:Nat)(u:i0<=n)(I:Nat->AS)(J:Nat->Prop)(x:List Nat)(A:J i0)(h0:Wk s.nx x s (I i0))
  (j: ∀i,i<=n->J i->GO P nt (.code body:: .lp (fun t=>i<n∧J (i+1)∧ ∃L,Wk s.nx L t (I (i+1)))::k) Q (I i)):GO P nt (.code (.loop body)::k) Q s:=by
 refine ic (σ:={i:Nat//i<=n∧J i}) (fun i=>I i.1) (fun i=>n-i.1) ⟨i0,u,A⟩ x h0 fun i=>?_;obtain⟨i,h1,y⟩:=i;have:=j i h1 y;refine mO ?_ this
 rintro t ⟨h3,h4,L,h5⟩;exact⟨⟨i+1,h3,h4⟩,L,by show n-(i+1)<n-i;omega,h5⟩
end
theorem jc{P:Program}{nt:NT}{Q:AQ}{k:List KI}{s:AS}{c:Code}(t sz:Nat)(ht:s.f.get t= .iv (.v (.slice io 0 0)))(h:GO P nt (.code c::k) Q (uq s t sz)):GO P nt (.code c::k) Q s:=by
 intro M N a w hf;obtain⟨J,Y,sn⟩:=s;obtain⟨h1,D⟩:=hf.1.B1 sz;have j:Fits M N (uq ⟨J,Y,sn⟩ t sz) nt a w:=by
  refine⟨D,fun k=>?_,hf.2.2⟩;simp only[uq];rw[AF.ax];split
  .rename_i x;subst x;have:=hf.2.1 k;simp only at ht this;rw[ht]at this;generalize a.tmps.getD k undef=v at this;cases this with
   |iv _ _ h=>cases h with
    |v=>exact .kP _ _ (Xa _)
  .exact(hf.2.1 k).mono (.refl _) (.refl _ _) (fun i G=>W2 G)
 exact AW.then h j fun e a2 w2 B C I A u y=>⟨B,C,I,h1.trans A,u,y⟩
mutual
def PV.dA(i sz:Nat)(el:Nat->List IV):PV->PV
 | .iv x=> .iv x
 | .agg cs=> .agg (nD i sz el cs)
 | .aZ cs=> .aZ (nD i sz el cs)
 | .sl j off len sz'=>bif VP j i then .iv (.bK sz len (fun k=>el (off+k))) else .sl j off len sz'
 | .ptr j o=> .ptr j o
 | .cM j a b c=> .cM j a b c
 | .eL z j=> .eL z j
 | .nI j o n=> .nI j o n
 | .mp j=> .mp j
 | .cm fn a b=> .cm fn a b
 | .kb b=> .kb b
 | .any=> .any
def nD(i sz:Nat)(el:Nat->List IV):List PV->List PV
 | []=> []
 |p::r=>PV.dA i sz el p::nD i sz el r
end
theorem ej(i sz:Nat)(el:Nat->List IV): ∀l:List PV,nD i sz el l=l.map (PV.dA i sz el)
 | []=>rfl
 |p::r=>by simp[nD,ej i sz el r]
mutual
def PV.ba(i sz n:Nat):PV->Prop
 | .agg cs=>a8 i sz n cs
 | .aZ cs=>a8 i sz n cs
 | .sl j off len sz'=>if j=i then sz'=sz∧off+len<=n else True
 |_=>True
def a8(i sz n:Nat):List PV->Prop
 | []=>True
 |p::r=>PV.ba i sz n p∧a8 i sz n r
end
theorem eR{i sz n:Nat}: ∀{l:List PV},a8 i sz n l-> ∀(j:Nat) (p:PV),l[j]? =co p->p.ba i sz n
 | [],_,j,p,h=>by simp at h
 |c::l,hh,j,p,h=>by
  cases j with
  |zero=>simp at h;subst h;exact hh.1
  |succ j=>exact eR hh.2 j p (by simpa using h)
theorem oQ{M:Mem}{N:Nm}{n:Nat}{h:AH}{w:World}(hr:Rel M N (· <n) h w){i sz:Nat}{es:List (List PV)}(hi:h.get i=co (.row sz es)){el:Nat->List IV}
  (i0: ∀k e,es[k]? =co e->e=(el k).map .iv): ∃A,Ext M N (· <n) h w A N (· <n) ((i,io)::h) w∧Rel A N (· <n) ((i,io)::h) w∧
   ∀p x,VR M N (· <n) p x->p.ba i sz es.length->VR A N (· <n) (p.dA i sz el) x:=by
 have key: ∀A:Mem,M.le A->(∀a0 len b0 b,a0+len<=es.length->0<len->len<=b0->b0<=maxLen->b=N.az i->IR A (.bK sz len (fun k=>el (a0+k))) (.slice (co ⟨b,a0*sz,io⟩) len b0))->
   ∀p x,VR M N (· <n) p x->p.ba i sz es.length->VR A N (· <n) (p.dA i sz el) x:=by
  intro A hM hs p x hx
  induction hx with
  |iv x y h=>exact fun _=> .iv _ _ (h.mono hM)
  |agg cs ys hl hr ih=>
   intro C;refine .agg _ _ (by simpa[ej]using hl) fun j q hq=>?_;rw[ej,Vv,Vw]at hq;obtain⟨q0,G,rfl⟩:=hq
   exact ih j q0 G (eR (by simpa[PV.ba]using C) j q0 G)
  |aZ cs ys hl hr ih=>
   intro C;refine .aZ _ _ (by simpa[ej]using hl) fun j q hq=>?_;rw[ej,Vv,Vw]at hq;obtain⟨q0,G,rfl⟩:=hq
   exact ih j q0 G (eR (by simpa[PV.ba]using C) j q0 G)
  |ptr i a0 h=>exact fun _=> .ptr _ _ h
  |cM i sz k a0 h=>exact fun _=> .cM _ _ _ _ h
  |eL z i h=>exact fun _=> .eL _ _ h
  |nI i o n h=>exact fun _=> .nI _ _ _ h
  |sl j a0 len sz' b0 h h0 hl hc Y=>
   intro C;simp only[PV.ba]at C;simp only[PV.dA];by_cases u:j=i
   .subst u;rw[am Z]at C;obtain⟨rfl,C⟩:=C;have:VP j j=is:=by simp
    rw[this,cond_true];exact .iv _ _ (hs a0 len b0 _ C h0 hl hc Z)
   .have:VP j i=jp:=Bool.eq_false_iff.2 (fun e=>u (VN e));rw[this,cond_false];exact .sl _ _ _ _ _ h h0 hl hc Y
  |kP j sz' h=>
   intro C;simp only[PV.dA];cases hb:VP j i with
   |true=>exact .iv _ _ (.fz _ _ _ _)
   |false=>exact .kP _ _ h
  |sle j sz' b0 h hc Y=>
   intro C;simp only[PV.dA];cases hb:VP j i with
   |true=>exact .iv _ _ (.fz _ _ _ _)
   |false=>exact .sle _ _ _ h hc Y
  |mp i h=>exact fun _=> .mp _ h
  |cm fn first caps f' c' h1 J hr1 hr2 ih1 ih2=>exact fun _=> .cm _ _ _ _ _ h1 J (fun j p u=>(hr1 j p u).mono hM (.refl _ _) (fun _ h=>h)) (fun j p u=>(hr2 j p u).mono hM (.refl _ _) (fun _ h=>h))
  |kb b=>exact fun _=> .kb _
  |any x=>exact fun _=> .any _
 rcases hr.obj i _ hi with h0|⟨h0,c,T,h1,J,h3,h4,h5⟩
 .subst h0;exact⟨M,(Ext.refl _ _ _ _ _).del i,hr.del i,key M (.refl _) fun a0 len b0 b h1 J=>by simp at h1;omega⟩
 .have d0:es≠ []∨es=[]:=by cases es<;>simp
  rcases d0 with d0|rfl;rotate_left
  .exact⟨M,(Ext.refl _ _ _ _ _).del i,hr.del i,key M (.refl _) fun a0 len b0 b h1 J=>by simp at h1;omega⟩
  have I:(AO.row sz es).real=is:=by cases es with
   |nil=>exact absurd Z d0
   |cons=>rfl
  have f0:=hr.dG i _ hi I
  let A:Mem:=M.set (N.az i) (.cells c) f0
  have hM:M.le A:=fun b d hb=>by
   simp only[A,Mem.set];by_cases B:b=N.az i
   .rw[B,f0]at hb;cases hb
   .rw[be B];exact hb
  have hnew: ∀b d,M b=io->A b=co d->b=N.az i:=fun b d h1 J=>by
   simp only[A,Mem.set]at J;by_cases B:b=N.az i
   .exact B
   .rw[be B,h1]at J;cases J
  refine⟨A,?_,?_,key A hM fun a0 len b0 b hb h6 h7 h8 j0=>?_⟩
  .exact⟨rfl,rfl,⟨rfl,VA _⟩,VA _,fun _ _ _=>rfl,hM,fun b d h1 J=> .inr ⟨i,_,hi,I,(hnew b d h1 J).symm⟩,.refl _ _,fun _ h=>h,fun j o u I=> .inr ⟨j,o,(bj j o u).2,I,rfl⟩⟩
  .refine⟨fun b d hb=>?_,fun j o u=>hr.used j o (bj j o u).2,fun j o u c0=>?_,fun j o u=>?_,fun j k o p u hk=>hr.inj j k o p (bj j o u).2 (bj k p hk).2⟩
   .simp only[A,Mem.set]at hb;by_cases B:b=N.az i
    .rw[am B]at hb;cases hb;exact⟨T,(0,0),by rw[B,h1]⟩
    .rw[be B]at hb;exact hr.dA b d hb
   .obtain⟨g1,g2⟩:=bj j o u;simp only[A,Mem.set];rw[be fun e=>g1 (hr.inj j i o _ g2 hi c0 I e)];exact hr.dG j o g2 c0
   .obtain⟨g1,g2⟩:=bj j o u;exact(hr.obj j o g2).mono hM (.refl _ _) (fun _ h=>h) (hr.used j o g2) Z
  .subst j0;have D: ∀o,A.cell (N.az i) o=c[o]? :=fun o=>by simp[Mem.cell,A,Mem.set]
   have k0: ∀k j,k<len->j<sz->a0*sz+k*sz+j<c.size:=by
    intro k j hk u;have:(a0+k+1)*sz<=es.length*sz:=VO _ (by omega);rw[Wg,Wg]at this;omega
   have g0: ∀k,k<len-> ∃e,es[a0+k]? =co e:=fun k hk=>⟨_,Vt (by omega)⟩
   refine .bK _ _ _ _ _ _ h7 h8 (fun k hk=>?_) (fun k j hk u=>?_) (fun k j p hk C=>?_)
   .obtain⟨e,Y⟩:=g0 k hk;have:=h4 _ e Y;rw[i0 _ e Y]at this;simpa using this
   .rw[D];simp[k0 k j hk u]
   .obtain⟨e,Y⟩:=g0 k hk;have h9:=h4 _ e Y;have e0:=i0 _ e Y;have u:j<sz:=by rw[<-h9,e0,VS];exact(Vs.1 C).1
    have:=h5 _ e j (.iv p) Y (by rw[e0,Vv,C];rfl);rw[D];have e2:a0*sz+k*sz+j=(a0+k)*sz+j:=by rw[Wg]
    rw[e2];rw[Vn]at this;cases this with
    |iv _ _ h=>exact h.mono hM
def ft(h:AH)(n:Nat)(r:PV)(K:AH->PV->Prop):Prop:= ∀M N w,Rel M N (· <n) h w-> ∃j u y,Ext M N (· <n) h w j N (· <n) u w∧Rel j N (· <n) u w∧(∀x,VR M N (· <n) r x->VR j N (· <n) y x)∧K u y
theorem ft.done{h:AH}{n:Nat}{r:PV}{K:AH->PV->Prop}(hk:K h r):ft h n r K:=fun M N w j=>⟨M,h,r,.refl _ _ _ _ _,j,fun _ h=>h,hk⟩
theorem ft.row{h:AH}{n:Nat}{r:PV}{K:AH->PV->Prop}(i:Nat){sz:Nat}{es:List (List PV)}(el:Nat->List IV)(hi:h.get i=co (.row sz es))(j: ∀k e,es[k]? =co e->e=(el k).map .iv)
  (u:r.ba i sz es.length) (hk:ft ((i,io)::h) n (r.dA i sz el) K):ft h n r K:=by
 intro M N w G;obtain⟨y,h1,C,D⟩:=oQ G hi j;obtain⟨A,B,J,g1,g2,g3,g4⟩:=hk y N w C;exact⟨A,B,J,h1.trans g1,g2,fun x I=>g3 x (D _ _ I u),g4⟩
def Nh(ty:Ty)(l:List ResultVar)(m:Nat)(R:PV->AH->Nat->Prop):AQ:=fun e s=>
 (e= .normal∨e= .ret)∧ ∃x,iL ty s l=co x∧ft s.h s.nx x fun y A=> ∃r j u L,R r j u∧Wk m L ⟨[(0,A)],y,s.nx⟩ ⟨[(0,r)],j,u⟩
section
variable {P:Program}
theorem kv {ty:Ty} (a0:bn P ty) {k:FuncId} {fn:Func} {c:Code} (hf:P.funcs[k]? =co fn) (hb:fn.body=co c) (hn:(fn.name== "runtime.NumGoroutine")=jp) {nt:Nat} (Y:fn.ntmps=nt)
  {l:List ResultVar} (hl:fn.results.toList=l) {args:List PV} (J:args.length<=nt) {os:List AO} {R:PV->AH->Nat->Prop}
  (h:GO P nt [.code c] (Nh ty l os.length R) ⟨mj 0 args,cF 0 os,os.length⟩):Fn P k args os R:=by
 have key:Fn P k args os (fun r0 h0 n0=>ft h0 n0 r0 fun j r2=> ∃r C D L,R r C D∧Wk os.length L ⟨[(0,r2)],j,n0⟩ ⟨[(0,r)],C,D⟩):=by
  refine C4 a0 hf hb hn Y hl J ?_;intro M N a w y;refine wp_mono (h M N a w y) fun e a' w' hp=>?_;obtain⟨G,B,s',h1,j,h3⟩:=hp;refine⟨G,B,s',h1,j,?_⟩;simp only[kp]at h3 ⊢;obtain⟨he,r,g1,g2⟩:=h3;exact⟨he,r,g1,g2⟩
 refine⟨key.1,fun M N w vs hr A hv=>(key.2 M N w vs hr A hv).mono ?_⟩;rintro e w' ⟨x,G,B,r0,h0,n0,rfl,hF,hx,hr',hvr⟩;obtain⟨M2,j,r2,g1,g2,g3,r,C,D,L,hR,hw⟩:=hF G B w' hr'
 have I:Fits M2 B ⟨[(0,r2)],j,n0⟩ ⟨1,[]⟩ ⟨#[x],[]⟩ w':=⟨g2,fun d=>by
  rw[AF.ax];by_cases hd:d=0
  .subst hd;rw[am Z];exact g3 x hvr
  .rw[be hd];exact .any _,rfl,rfl⟩
 have u:=hw.fits I;refine⟨x,M2,_,r,C,D,rfl,hR,hw.ext (hx.trans g1),u.1,?_⟩;have:=u.2.1 0;exact this
def Gf(ty:Ty)(l:List ResultVar)(r:PV):AQ:=fun e s=>
 (e= .normal∨e= .ret)∧ ∃j,iL ty s l=co j∧ft s.h s.nx j fun _ u=>ae u r
theorem ah {ty:Ty} (A:bn P ty) {k:FuncId} {fn:Func} {c:Code} (hf:P.funcs[k]? =co fn) (hb:fn.body=co c) (hn:(fn.name== "runtime.NumGoroutine")=jp) {nt:Nat} (y:fn.ntmps=nt)
  {l:List ResultVar} (hl:fn.results.toList=l) {args:List PV} (x:args.length<=nt) {r:PV} (hlow:r.low 0=is)
  (h:GO P nt [.code c] (Gf ty l r) ⟨mj 0 args,[],0⟩):Pure P k args r:=by
 refine kv A hf hb hn y hl x ?_;intro M N a w j;refine wp_mono (h M N a w j) fun e a' w' J=>?_;obtain⟨C,G,s',h1,u,B⟩:=J;refine⟨C,G,s',h1,u,?_⟩;simp only[kp]at B ⊢;obtain⟨I,r0,g1,g2⟩:=B;refine⟨I,r0,g1,fun M N w Y=>?_⟩;obtain⟨D,u,r2,q1,q2,q3,q4⟩:=g2 M N w Y;refine⟨D,u,r2,q1,q2,q3,r,[],0,[],⟨rfl,rfl,rfl⟩,rfl,VB _,by simp,⟨?_,hlow,ac⟩,ac,Wn⟩;rw[PV.jN _ _ hlow];exact q4
theorem aI{ty:Ty}{l:List ResultVar}{r r0:PV}{e:Exit}{s:AS}(he:e= .normal∨e= .ret)(h:iL ty s l=co r0)(j:ae r0 r):Gf ty l r e s:=⟨he,r0,h,.done j⟩
end
section
variable {P:Program}
theorem IF{k:FuncId}{args:List PV}{os:List AO}{R:PV->AH->Nat->Prop}(hc:fm P k){n:Nat}(hn: ∃sz x,PV.iv (.bK sz n x)∈args)(h:n<=maxLen->Fn P k args os R):Fn P k args os R:=by
 refine⟨hc,fun M N w vs B hl y=>?_⟩;obtain⟨sz,x,hn⟩:=hn;obtain⟨j,A⟩:=Wh hn;have:=y j _ A;have u:n<=maxLen:=by
  generalize vs.getD j undef=v at this;cases this with
  |iv _ _ hi=>cases hi with
   |fz=>exact VB _
   |bK=>omega
 exact(h u).2 M N w vs B hl y
theorem Hz{k:FuncId}{args:List PV}{r:PV}(hc:fm P k){n:Nat}(hn: ∃sz j,PV.iv (.bK sz n j)∈args)(h:n<=maxLen->Pure P k args r):Pure P k args r:=IF hc hn h
end
abbrev iI(n:Int):IV:= .v (.int .i64 n)
abbrev iS(s:ByteArray):IV:= .v (.string s)
abbrev pI(n:Int):PV:= .iv (iI n)
abbrev pS(s:ByteArray):PV:= .iv (iS s)
abbrev pB(b:Bool):PV:= .iv (.v (.bool b))
abbrev ag(l:List IV):PV:= .agg (l.map .iv)
abbrev a7{α:Type}[Inhabited α](sz:Nat)(l:List α)(f:α->List IV):IV:= .bK sz l.length (fun k=>f (l.getD k ci))
def aV{α:Type}(sz:Nat)(l:List α)(f:α->List IV):AO:= .row sz (l.map fun x=>(f x).map .iv)
theorem ja(σ:Nat->Nat): ∀l:List IV,c7 σ (l.map .iv)=l.map .iv
 | []=>rfl
 |x::r=>by simp only[Vy,c7,PV.bY,ja σ r]
theorem sH(n:Nat): ∀l:List IV,bp n (l.map .iv)=is
 | []=>rfl
 |x::r=>by simp only[Vy,bp,PV.low,sH n r]
section
variable {α:Type} {sz:Nat} {l:List α} {f:α->List IV}
theorem b3(σ:Nat->Nat):(aV sz l f).bY σ=aV sz l f:=by
 simp only[aV,AO.bY,Wx];congr 1;exact WE fun x _=>ja σ _
theorem eC(n:Nat):(aV sz l f).low n:=by
 intro k e j;rw[Vv,Vw]at j;obtain⟨x,_,rfl⟩:=j;exact sH n _
theorem DT{es:List (List PV)}(σ:Nat->Nat)(h:es=l.map fun x=>(f x).map .iv):eJ (.row sz es) ((aV sz l f).bY σ):=by
 rw[b3];exact .of_eq (by rw[h];rfl)
theorem cQ[Inhabited α]{es:List (List PV)}(h:es=l.map fun x=>(f x).map .iv): ∀k e,es[k]? =co e->e=(f (l.getD k ci)).map .iv:=by
 subst h;intro k e j;rw[Vv,Vw]at j;obtain⟨x,u,rfl⟩:=j;rw[Vr,u];rfl
theorem yq[Inhabited α](l:List α)(f:α->List IV):(V0 l.length).map (fun k=>(f (l.getD k ci)).map PV.iv)=l.map fun x=>(f x).map .iv:=by
 apply XD;intro k;rw[Vv,Vv];rcases Wp k l.length with h|h
 .rw[XZ h,Vt h];simp[Vr,h]
 .simp[h]
theorem eO(h: ∀x,dt ((f x).map .iv)=is)(l:List α):allOnes (l.map fun x=>(f x).map .iv)=is:=by
 induction l with
 |nil=>rfl
 |cons x r ih=>simp only[Vy,allOnes,h x,ih]
theorem im[Inhabited α](h: ∀x,dt ((f x).map .iv)=is)(l:List α):allOnes ((V0 l.length).map (fun k=>(f (l.getD k ci)).map PV.iv))=is:=by
 rw[yq];exact eO h l
end
def aG(l:List IV):AO:= .cells (l.map .iv)
theorem Dd(σ:Nat->Nat)(l:List IV):(aG l).bY σ=aG l:=by
 simp only[aG,AO.bY,ja]
theorem F7{cs:List PV}{j:Option TypeId}{l:List IV}(σ:Nat->Nat)(h:cs=l.map .iv):eJ (.cells cs j) ((aG l).bY σ):=by
 rw[Dd];exact .trans (.RU cs j) (.of_eq (by rw[h];rfl))
def cA:List Nat->Bool
 | []=>is
 |x::r=>!r.elem x&&cA r
theorem eE: ∀{l:List Nat},cA l=is->l.Nodup
 | [],_=>Wn
 |x::r,h=>by
  simp only[cA,Wf,WA,List.elem_eq_mem,decide_eq_false_iff_not]at h;exact Wb.2 ⟨h.1,eE h.2⟩
theorem wk{n0:Nat}{L:List Nat}{s t:AS}(h1:VP t.nx (n0+L.length)=is)(u:Xr n0 s.nx=is)(x:L.all (fun j=>VV j s.nx)=is)(hf:Gq t.nx (sg n0 L) s.f t.f)(hh:oC t.nx (sg n0 L) s.h t.h)
  (y:cA (fg (sg n0 L) t.h)=is):Wk n0 L s t:=
 ⟨VN h1,Vm u,fun j A=>Vm (Wc.1 x j A),hf,hh,eE y⟩
theorem wk0{n0:Nat}{s t:AS}(h1:t.nx=n0)(j:Xr n0 s.nx=is)(hf:Gq t.nx (sg n0 []) s.f t.f)(hh:t.h=[]):Wk n0 [] s t:=
 ⟨by simpa using h1,Vm j,by simp,hf,by rw[hh];trivial,by rw[hh];exact Wn⟩
section
variable {n i:Nat} {σ:Nat->Nat} {h r:AH}
theorem hC{cs:List PV}{j:Option TypeId}{c:List IV}(ho:h.get (σ i)=co (.cells cs j))(he:cs=c.map .iv)(hi:VV i n=is)(hr:oC n σ h r):oC n σ h ((i,co (aG c))::r):=
 ⟨⟨_,ho,F7 σ he⟩,Vm hi,sH n c,hr⟩
theorem hR{α:Type}{sz:Nat}{es:List (List PV)}{l:List α}{f:α->List IV}(ho:h.get (σ i)=co (.row sz es))(he:es=l.map fun x=>(f x).map .iv)(hi:VV i n=is)(hr:oC n σ h r):oC n σ h ((i,co (aV sz l f))::r):=
 ⟨⟨_,ho,DT σ he⟩,Vm hi,eC n,hr⟩
theorem hM{V:Type}{kc:KC}{ev:V->IV}{z:V}{x:Value}{j:PV->V}{m u:List (kc.K×V)}(ho:h.get (σ i)=co (.map kc ev z x j m))(he:m=u)(hi:VV i n=is)(hr:oC n σ h r):oC n σ h ((i,co (.map kc ev z x j u))::r):=
 ⟨⟨_,ho,.of_eq (by rw[he];rfl)⟩,Vm hi,ac,hr⟩
theorem QU{V:Type}{kc:KC}{ev:V->IV}{z:V}{u:Value}{x:PV->V}(ho:h.get (σ i)=co .fh)(A: ∀M,IR M (ev z) u)(hi:VV i n=is)(hr:oC n σ h r):oC n σ h ((i,co (.map kc ev z u x []))::r):=
 ⟨⟨_,ho,id,fun M N U w j y=>⟨#[],0,y,⟨rfl,by simp,by simp,by simp,by simp⟩,A M⟩⟩,Vm hi,ac,hr⟩
theorem hI{V:Type}{kc:KC}{ev:V->IV}{m:List (kc.K×V)}{vs y:List Nat}{C u:Option (kc.K×V)}(ho:h.get (σ i)=co (.bX kc ev m vs C))(he:vs=y)(hc:u=C∨u=io)(hi:VV i n=is)(hr:oC n σ h r):oC n σ h ((i,co (.bX kc ev m y u))::r):=by
 refine⟨⟨_,ho,id,fun M N U w j D=>?_⟩,Vm hi,ac,hr⟩;subst he;rcases hc with rfl|rfl
 .exact D
 .rcases D with⟨h1,A,_,B⟩|⟨b,ents,clock,x,h1,A,G,B,I,J,Y⟩
  .exact .inl ⟨h1,A,rfl,B⟩
  .exact .inr ⟨b,ents,clock,x,h1,A,G,B,I,J,by simp⟩
end
theorem du{ty:Ty}{j:List ResultVar}{e:Exit}{s:AS}{α:Type}[Inhabited α]{i n sz:Nat}{es:List (List PV)}{L:List α}{f:α->List IV}(he:e= .normal∨e= .ret)(h:iL ty s j=co (.sl i 0 n sz))(hi:s.h.get i=co (.row sz es))
  (hes:es=L.map fun x=>(f x).map .iv) (hn:n=L.length):Gf ty j (.iv (a7 sz L f)) e s:=by
 refine⟨he,_,h,.row i (fun k=>f (L.getD k ci)) hi (cQ hes) ?_ (.done ?_)⟩
 .subst hes;subst hn;simp[PV.ba]
 .have:VP i i=is:=by simp
  simp only[PV.dA,this,cond_true,VL];subst hn;exact .refl _
theorem ae.bk{b c:Bool}(h:b=c):ae (pB b) (.kb c):=fun _ _ _ _ j=>by
 subst h;cases j with
 |iv _ _ h=>cases h;exact .kb _
theorem ae.row{i n m sz:Nat}(h:n=m):ae (.sl i 0 n sz) (.sl i 0 m sz):= .of_eq (by rw[h])
section
variable {α:Type} [Inhabited α] {l:List α} {f:α->Bool} {i:Nat}
theorem cW(h:(l.take i).any f=jp)(hi:i<l.length):((l.take (i+1)).any f=jp↔f (l.getD i ci)=jp):=by
 rw[Yc hi,List.any_append,h,Vr,Vt hi];simp
theorem EK(hi:i<l.length)(h:f (l.getD i ci)=is):l.any f=is:=by
 rw[Vr,Vt hi]at h;exact WN.2 ⟨_,Wj hi,h⟩
omit [Inhabited α] in
theorem any_none(h:(l.take i).any f=jp)(hi:l.length<=i):l.any f=jp:=by
 rwa[VI hi]at h
theorem bS(hi:i<l.length):l.take (i+1)=l.take i++ [l.getD i ci]:=by
 rw[Yc hi,Vr,Vt hi];rfl
theorem ie{β:Type}{g:β->α->β}{b:β}(hi:i<l.length):(l.take (i+1)).foldl g b=g ((l.take i).foldl g b) (l.getD i ci):=by
 rw[bS hi,List.foldl_append];rfl
end
theorem fO{P:Program}{nt:NT}{Q:AQ}{k:List KI}{s:AS}{body:Code}{K:Type}(m:List K)(I:List Nat->AS)(J:List Nat->Prop)(C:List Nat)(j0:J [])(h0:Wk s.nx C s (I []))
  (y: ∀vs:List Nat,J vs->GO P nt (.code body:: .lp (fun t=> ∃j x,m[j]? =co x∧j∉vs∧J (j::vs)∧ ∃L,Wk s.nx L t (I (j::vs)))::k) Q (I vs)):GO P nt (.code (.loop body)::k) Q s:=by
 refine ic (σ:={vs:List Nat//vs.Nodup∧(∀j∈vs,j<m.length)∧J vs}) (fun v=>I v.1) (fun v=>m.length-v.1.length) ⟨[],Wn,by simp,j0⟩ C h0 fun v=>?_;obtain⟨vs,h1,D,G⟩:=v;refine mO ?_ (y vs G)
 rintro t ⟨j,x,g1,g2,g3,L,g4⟩;have Y:j<m.length:=(Vs.1 g1).1;have u: ∀i∈j::vs,i<m.length:=by
  intro i hi;rcases VH.1 hi with rfl|hi
  .exact Y
  .exact D i hi
 have B:(j::vs).Nodup:=Wb.2 ⟨g2,h1⟩;have A:(j::vs).length<=m.length:=by
  have:=WK B (l₂:=V0 m.length) (fun i hi=>WX.2 (u i hi));simpa using this
 refine⟨⟨j::vs,B,u,g3⟩,L,?_,g4⟩;show m.length-(j::vs).length<m.length-vs.length;simp only[VX]at A ⊢;omega
def bg(P:Program)(k:FuncId)(args:List PV)(os:List AO)(r:PV)(h:AH)(n:Nat):Prop:=Fn P k args os fun q j u=>q=r∧j=h∧u=n
def rJ:List AO->List AO->Prop
 | [],[]=>True
 |p::r,q::s=>eJ p q∧rJ r s
 |_,_=>False
theorem rJ.length: ∀{a b:List AO},rJ a b->a.length=b.length
 | [],[],_=>rfl
 |_::_,_::_,h=>congrArg (· +1) (rJ.length h.2)
 | [],_::_,h=>h.elim
 |_::_,[],h=>h.elim
theorem rJ.get: ∀{a b:List AO},rJ a b-> ∀(j:Nat) (q:AO),b[j]? =co q-> ∃p,a[j]? =co p∧eJ p q
 | [],[],_,j,q,h=>by simp at h
 |p::r,q0::s,hh,j,q,h=>by
  cases j with
  |zero=>simp at h;subst h;exact⟨p,rfl,hh.1⟩
  |succ j=>simpa using rJ.get hh.2 j q (by simpa using h)
 | [],_::_,hh,_,_,_=>hh.elim
 |_::_,[],hh,_,_,_=>hh.elim
theorem Fn.OS{P:Program}{k:FuncId}{args:List PV}{os ps:List AO}{R:PV->AH->Nat->Prop}(h:Fn P k args os R)(G:rJ ps os):Fn P k args ps R:=by
 have I:=G.length;have u: ∀i o,(cF 0 os).get i=co o-> ∃p,(cF 0 ps).get i=co p∧eJ p o:=by
  intro i o y;rw[su,am (VB _)]at y ⊢;exact G.get _ _ y
 refine⟨h.1,fun M N w vs C hl hv=>?_⟩;rw[I]at C hv ⊢;have a0:Rel M N (· <os.length) (cF 0 os) w:=by
  refine⟨C.dA,fun i o y=>?_,fun i o y b0=>?_,fun i o y=>?_,fun i j o p y hj J hp he=>?_⟩
  .obtain⟨p,h1,A⟩:=u i o y;exact C.used i p h1
  .obtain⟨p,h1,A⟩:=u i o y;exact C.dG i p h1 (A.1 b0)
  .obtain⟨p,h1,A⟩:=u i o y;exact A.2 _ _ _ _ _ (C.obj i p h1)
  .obtain⟨o',h1,A⟩:=u i o y;obtain⟨p',B,D⟩:=u j p hj;exact C.inj i j o' p' h1 B (A.1 J) (D.1 hp) he
 refine(h.2 M N w vs a0 hl hv).mono ?_;rintro e w' ⟨x,M',N',r,h',n',rfl,hR,hx,hrr,hvr⟩;refine⟨x,M',N',r,h',n',rfl,hR,⟨hx.os,hx.tape,hx.output,hx.size,fun b hb hn=>hx.gu b hb fun i o y J=>?_,hx.nZ,fun b c h1 A=>?_,hx.nm,hx.ule,fun i o y J=>?_⟩,hrr,hvr⟩
 .obtain⟨p,h1,A⟩:=u i o y;exact hn i p h1 (A.1 J)
 .rcases hx.iq b c h1 A with B|⟨i,o,B,D,Y⟩
  .exact .inl B
  .obtain⟨p,g1,g2⟩:=u i o B;exact .inr ⟨i,p,g1,g2.1 D,Y⟩
 .rcases hx.gh i o y J with B|⟨j,q,B,D,Y⟩
  .exact .inl B
  .obtain⟨p,g1,g2⟩:=u j q B;exact .inr ⟨j,p,g1,g2.1 D,Y⟩
theorem bg.OS{P:Program}{k:FuncId}{args:List PV}{os u:List AO}{r:PV}{h:AH}{n:Nat}(hc:bg P k args os r h n)(j:rJ u os):bg P k args u r h n:=Fn.OS hc j
theorem bg.le{P:Program}{k:FuncId}{aa args:List PV}{os:List AO}{r:PV}{h:AH}{n:Nat}(hc:bg P k args os r h n)(j:gF aa args):bg P k aa os r h n:=Fn.le hc j
theorem Pure.nv{P:Program}{k:FuncId}{args:List PV}{r:PV}(h:Pure P k args r):bg P k args [] r [] 0:=h
section
variable {P:Program} {ty:Ty} {nt:NT} {Q:AQ} {k:List KI} {s:AS}
theorem y5{o:Oper}{c:Call}{g:FuncId}{asv args:List PV}{os:List AO}{r:PV}{y:AH}{A:Nat}{s':AS}(L:List Nat)(hc:bg P g args os r y A)(ho:o.op= .call c)(ha:bN s.f c=co (g,asv))
  (hn:cA L=is) (hl:L.all (fun j=>VV j s.nx)=is) (x:L.map s.h.get=os.map fun o=>co (o.bY (sig L s.nx))) (u:asv=c7 (sig L s.nx) args) (hp:putDst nt o (r.bY (sig L s.nx)) (aA s L y A)=co s'):
  OT P nt o s (fun t=>t=s'):=
 lj ho ha hc (eE hn) (fun j B=>Vm (Wc.1 hl j B)) x u (by rintro q C n0 ⟨rfl,rfl,rfl⟩;exact⟨s',hp,rfl⟩)
theorem ak{all rest:List Oper}{o:Oper}{c:Call}{g:FuncId}{asv args:List PV}{os:List AO}{r:PV}{y:AH}{A:Nat}{s':AS}(L:List Nat)(hc:bg P g args os r y A)(ho:o.op= .call c)(hg:o.guard=io)(ha:bN s.f c=co (g,asv))
  (hn:cA L=is) (hl:L.all (fun j=>VV j s.nx)=is) (x:L.map s.h.get=os.map fun o=>co (o.bY (sig L s.nx))) (u:asv=c7 (sig L s.nx) args) (hp:putDst nt o (r.bY (sig L s.nx)) (aA s L y A)=co s')
  (h:GO P nt (.ops all rest::k) Q s'):GO P nt (.ops all (o::rest)::k) Q s:=
 bz hg (y5 L hc ho ha hn hl x u hp) fun t ht=>by subst ht;exact h
theorem iC(B:bn P ty){all:List Oper}{todo pend:List (Nat×Oper)}{j:Nat}{o:Oper}{s':AS}{Y J:Prop}(hrd:dq todo=[(j,o)])(hg:bQ nt all s.f o=co is)(hpb:gC all pend o=is)(hE:mW todo [j]=is)
  (hag:lD ty nt all s todo pend=co Y) (hCA:Y) (D:OT P nt o s (fun t=>t=s')) (hag2:cX ty nt all s' (aX pend o)=co J) (hC2:J)
  (h:GO P nt (.bR all (todo.filter fun x=>!VP x.1 j) (aX pend o)::k) Q s'):GO P nt (.bR all todo pend::k) Q s:=by
 have A:(j,o)∈dq todo:=by rw[hrd];simp
 obtain⟨h3,C⟩:=V4.1 A;simp only[WA,Xg,Wm]at C;have u: ∀y∈todo,aS y.2=is-> ∀y∈pend,eQ P nt all s y.2:=by
  intro y G I;unfold lD at hag;split at hag
  .exact cq B hag hCA
  .rename_i h2;have:=Wm.1 h2 y G;rw[I]at this;exact absurd Z this
 refine oP hE ⟨_,h3,C.1⟩ u fun j' o' hj _ hu=>?_;simp only[Vz]at hj;subst hj;have:=hu o h3;subst this;exact⟨C.1,fun y G _=>by simpa using C.2 y G,hpb,hg,_,D,fun t ht=>by subst ht;exact⟨cq B hag2 hC2,h⟩⟩
theorem bc(A:bn P ty){all:List Oper}{todo pend:List (Nat×Oper)}{j:Nat}{o:Oper}{c:Call}{g:FuncId}{asv args:List PV}{os:List AO}{r:PV}{D:AH}{G:Nat}{s':AS}{C B:Prop}(L:List Nat)(hc:bg P g args os r D G)
  (hrd:dq todo=[(j,o)]) (ho:o.op= .call c) (ha:bN s.f c=co (g,asv))
  (hn:cA L=is) (hl:L.all (fun j=>VV j s.nx)=is) (y:L.map s.h.get=os.map fun o=>co (o.bY (sig L s.nx))) (u:asv=c7 (sig L s.nx) args) (hp:putDst nt o (r.bY (sig L s.nx)) (aA s L D G)=co s')
  (hg:bQ nt all s.f o=co is) (hpb:gC all pend o=is) (hE:mW todo [j]=is)
  (hag:lD ty nt all s todo pend=co C) (hCA:C) (hag2:cX ty nt all s' (aX pend o)=co B) (hC2:B)
  (h:GO P nt (.bR all (todo.filter fun x=>!VP x.1 j) (aX pend o)::k) Q s'):GO P nt (.bR all todo pend::k) Q s:=
 iC A hrd hg hpb hE hag hCA (y5 L hc ho ha hn hl y u hp) hag2 hC2 h
def Dh(ty:Ty)(l:List ResultVar)(m:Nat)(r:PV)(h:AH)(n:Nat):AQ:=Nh ty l m fun q j u=>q=r∧j=h∧u=n
theorem aj {nt:Nat} (y:bn P ty) {g:FuncId} {fn:Func} {c:Code} (hf:P.funcs[g]? =co fn) (hb:fn.body=co c) (hn:(fn.name== "runtime.NumGoroutine")=jp) (x:fn.ntmps=nt)
  {l:List ResultVar} (hl:fn.results.toList=l) {args:List PV} (u:args.length<=nt) {os:List AO} {r:PV} {h:AH} {n:Nat}
  (j:GO P nt [.code c] (Dh ty l os.length r h n) ⟨mj 0 args,cF 0 os,os.length⟩):bg P g args os r h n:=kv y hf hb hn x hl u j
theorem ar{l:List ResultVar}{m:Nat}{r r0:PV}{h:AH}{n:Nat}{e:Exit}(L:List Nat)(he:e= .normal∨e= .ret)(hr:iL ty s l=co r0)(hw:Wk m L ⟨[(0,r0)],s.h,s.nx⟩ ⟨[(0,r)],h,n⟩):Dh ty l m r h n e s:=
 ⟨he,r0,hr,.done ⟨r,h,n,L,⟨rfl,rfl,rfl⟩,hw⟩⟩
end
theorem ft.map{h:AH}{n:Nat}{r:PV}{K:AH->PV->Prop}(i:Nat){kc:KC}{V:Type}{e:V->IV}{z:V}{j:Value}{A:PV->V}{m:List (kc.K×V)}(hi:h.get i=co (.map kc e z j A m))
  (hk:ft ((i,io)::h.fQ i (.eG kc e z j m)) n (r.fQ i (.eG kc e z j m)) K):ft h n r K:=by
 intro M N w G;obtain⟨u,h1,C,_,D⟩:=rq G hi;obtain⟨y,B,J,g1,g2,g3,g4⟩:=hk u N w C;exact⟨y,B,J,h1.trans g1,g2,fun x I=>g3 x (D _ _ I),g4⟩
mutual
def PV.IC(i:Nat)(l:List IV):PV->PV
 | .iv x=> .iv x
 | .agg cs=> .agg (BA i l cs)
 | .aZ cs=> .aZ (BA i l cs)
 | .ptr j o=>bif VP j i then .iv (.kK (l.drop o)) else .ptr j o
 | .sl j off len sz'=> .sl j off len sz'
 | .cM j a b c=> .cM j a b c
 | .eL z j=> .eL z j
 | .nI j o n=> .nI j o n
 | .mp j=> .mp j
 | .cm fn a b=> .cm fn a b
 | .kb b=> .kb b
 | .any=> .any
def BA(i:Nat)(l:List IV):List PV->List PV
 | []=> []
 |p::r=>PV.IC i l p::BA i l r
end
theorem og(i:Nat)(x:List IV): ∀l:List PV,BA i x l=l.map (PV.IC i x)
 | []=>rfl
 |p::r=>by simp[BA,og i x r]
theorem FZ{M:Mem}{N:Nm}{n:Nat}{h:AH}{w:World}(hr:Rel M N (· <n) h w){i:Nat}{l:List IV}{cs:List PV}{T0:Option TypeId}(hi:h.get i=co (.cells cs T0))(b0:cs=l.map .iv):
  ∃B,Ext M N (· <n) h w B N (· <n) ((i,io)::h) w∧Rel B N (· <n) ((i,io)::h) w∧ ∀p x,VR M N (· <n) p x->VR B N (· <n) (p.IC i l) x:=by
 subst b0;have Y:=hr.dG i _ hi Z;obtain⟨c,T,h1,G,h3,h4,h5⟩:=hr.obj i _ hi
 let B:Mem:=M.set (N.az i) (.cells c) Y
 have hM:M.le B:=fun b d hb=>by
  simp only[B,Mem.set];by_cases u:b=N.az i
  .rw[u,Y]at hb;cases hb
  .rw[be u];exact hb
 have hnew: ∀b d,M b=io->B b=co d->b=N.az i:=fun b d h1 G=>by
  simp only[B,Mem.set]at G;by_cases u:b=N.az i
  .exact u
  .rw[be u,h1]at G;cases G
 have C: ∀o,B.cell (N.az i) o=c[o]? :=fun o=>by simp[Mem.cell,B,Mem.set]
 refine⟨B,?_,?_,fun p x hx=>?_⟩
 .exact⟨rfl,rfl,⟨rfl,VA _⟩,VA _,fun _ _ _=>rfl,hM,fun b d h1 G=> .inr ⟨i,_,hi,rfl,(hnew b d h1 G).symm⟩,.refl _ _,fun _ h=>h,fun j o A c0=> .inr ⟨j,o,(bj j o A).2,c0,rfl⟩⟩
 .refine⟨fun b d hb=>?_,fun j o A=>hr.used j o (bj j o A).2,fun j o A I=>?_,fun j o A=>?_,fun j k o p A hk=>hr.inj j k o p (bj j o A).2 (bj k p hk).2⟩
  .simp only[B,Mem.set]at hb;by_cases u:b=N.az i
   .rw[am u]at hb;cases hb;exact⟨T,(0,0),by rw[u];exact h1⟩
   .rw[be u]at hb;exact hr.dA b d hb
  .obtain⟨g1,g2⟩:=bj j o A;simp only[B,Mem.set];rw[be fun e=>g1 (hr.inj j i o _ g2 hi I Z e)];exact hr.dG j o g2 I
  .obtain⟨g1,g2⟩:=bj j o A;exact(hr.obj j o g2).mono hM (.refl _ _) (fun _ h=>h) (hr.used j o g2) Z
 .induction hx with
  |iv x y h=>exact .iv _ _ (h.mono hM)
  |agg cs ys hl _ ih=>
   refine .agg _ _ (by simpa[og]using hl) fun j q D=>?_;rw[og,Vv,Vw]at D;obtain⟨q0,J,rfl⟩:=D
   exact ih j q0 J
  |aZ cs ys hl _ ih=>
   refine .aZ _ _ (by simpa[og]using hl) fun j q D=>?_;rw[og,Vv,Vw]at D;obtain⟨q0,J,rfl⟩:=D
   exact ih j q0 J
  |ptr j off h=>
   simp only[PV.IC];cases hb:VP j i with
   |true=>
    have A:=VN hb;subst A;have a0:l.length=c.size:=by simpa using h3
    refine .iv _ _ (.kK _ _ _ (fun k hk=>?_) fun k q D=>?_)
    .rw[Wu]at hk;rw[C];simp[show off+k<c.size by omega]
    .rw[Wl]at D;have d0:off+k<c.size:=by rw[<-a0];exact(Vs.1 D).1
     have:=h4 (off+k) (.iv q) (by rw[Vv,D];rfl);rw[C];rw[Vn]at this;cases this with
     |iv _ _ h=>exact h.mono hM
   |false=>exact .ptr _ _ h
  |cM i sz k off h=>exact .cM _ _ _ _ h
  |eL z i h=>exact .eL _ _ h
  |nI i o n h=>exact .nI _ _ _ h
  |sl j off len sz' cap h h0 hl hc he=>exact .sl _ _ _ _ _ h h0 hl hc he
  |kP j sz' h=>exact .kP _ _ h
  |sle j sz' cap h hc he=>exact .sle _ _ _ h hc he
  |mp j h=>exact .mp _ h
  |cm fn first caps f' c' h1 G hr1 hr2 _ _=>exact .cm _ _ _ _ _ h1 G (fun j p A=>(hr1 j p A).mono hM (.refl _ _) (fun _ h=>h)) (fun j p A=>(hr2 j p A).mono hM (.refl _ _) (fun _ h=>h))
  |kb b=>exact .kb _
  |any x=>exact .any _
theorem ft.cells{h:AH}{n:Nat}{r:PV}{K:AH->PV->Prop}(i:Nat)(l:List IV){cs:List PV}{A:Option TypeId}(hi:h.get i=co (.cells cs A))(j:cs=l.map .iv)(hk:ft ((i,io)::h) n (r.IC i l) K):ft h n r K:=by
 intro M N w G;obtain⟨u,h1,C,D⟩:=FZ G hi j;obtain⟨y,B,J,g1,g2,g3,g4⟩:=hk u N w C;exact⟨y,B,J,h1.trans g1,g2,fun x I=>g3 x (D _ _ I),g4⟩
theorem gj{ty:Ty}{l:List ResultVar}{r r0:PV}{e:Exit}{s:AS}(he:e= .normal∨e= .ret)(h:iL ty s l=co r0)(hk:ft s.h s.nx r0 fun _ j=>ae j r):Gf ty l r e s:=⟨he,r0,h,hk⟩
section
variable {P:Program} {ty:Ty} {nt:NT} {Q:AQ} {k:List KI} {s:AS}
theorem nr{all rest:List Oper}{o:Oper}{c:Call}{g:FuncId}{asv args:List PV}{os:List AO}{R:PV->AH->Nat->Prop}(L:List Nat)(hc:Fn P g args os R)(ho:o.op= .call c)(hg:o.guard=io)(ha:bN s.f c=co (g,asv))
  (hn:cA L=is) (hl:L.all (fun j=>VV j s.nx)=is) (x:L.map s.h.get=os.map fun o=>co (o.bY (sig L s.nx))) (u:asv=c7 (sig L s.nx) args)
  (h: ∀r y A,R r y A-> ∃s',putDst nt o (r.bY (sig L s.nx)) (aA s L y A)=co s'∧GO P nt (.ops all rest::k) Q s'):GO P nt (.ops all (o::rest)::k) Q s:=
 bz (R:=fun t=>GO P nt (.ops all rest::k) Q t) hg (lj ho ha hc (eE hn) (fun j B=>Vm (Wc.1 hl j B)) x u h) fun t ht=>ht
theorem db{R:PV->AH->Nat->Prop}{l:List ResultVar}{m:Nat}{r r0:PV}{h:AH}{n:Nat}{e:Exit}(L:List Nat)(he:e= .normal∨e= .ret)(hr:iL ty s l=co r0)(hR:R r h n)(hw:Wk m L ⟨[(0,r0)],s.h,s.nx⟩ ⟨[(0,r)],h,n⟩):Nh ty l m R e s:=
 ⟨he,r0,hr,.done ⟨r,h,n,L,hR,hw⟩⟩
end
theorem km{P:Program}{nt:NT}{Q:AQ}{k:List KI}{s:AS}{c:Code}(i j sz:Nat){cs:List PV}{x:Option TypeId}(hi:s.h.get i=co (.cells cs x))(hj:cs[j]? =co (.iv (.v (.slice io 0 0))))
  (h:GO P nt (.code c::k) Q ⟨s.f,(i,co (.cells (cs.set j (.sl s.nx 0 0 sz)) x))::(s.nx,co (.row sz []))::s.h,s.nx+1⟩):GO P nt (.code c::k) Q s:=by
 intro M N a w hf;obtain⟨sf,sh,A⟩:=s;obtain⟨h1,h2⟩:=hf.1.B1 sz;have D:i≠A:=fun e=>by have:=hf.1.used i _ hi;simp only at this;omega
 have u:AH.get ((A,co (AO.row sz []))::sh) i=co (.cells cs x):=by
  rw[AH.ax,be D];exact hi
 obtain⟨J,T,e1,e2,e3,Y,e5⟩:=h2.obj i _ u
 obtain⟨g1,g2⟩:=h2.write (i:=i) (o0:= .cells cs x) u Z w (.cells (cs.set j (.sl A 0 0 sz)) x) Z Z Z Z (fun _ _=>rfl) ⟨J,T,e1,e2,by rw[List.length_set];exact e3,fun k p y=>by
  rw[Xd]at y;split at y
  .rename_i hk;subst hk;split at y
   .cases y;have:=Y j _ hj;generalize J.getD j undef=v at this ⊢;cases this with
    |iv _ _ h=>cases h with
     |v=>exact .kP _ _ (Xa _)
   .cases y
  .exact Y k p y,e5⟩
 have B:Fits M N ⟨sf,(i,co (.cells (cs.set j (.sl A 0 0 sz)) x))::(A,co (.row sz []))::sh,A+1⟩ nt a w:=
  ⟨g2,fun k=>(hf.2.1 k).mono (.refl _) (.refl _ _) (fun i hi=>W2 hi),hf.2.2⟩
 exact AW.then h B fun e a2 w2 M2 N2 s2 I C G=>⟨M2,N2,s2,(h1.trans g1).trans I,C,G⟩
theorem ft.gd{h:AH}{n:Nat}{r:PV}{K:AH->PV->Prop}{α:Type}[Inhabited α](i:Nat){sz:Nat}{es:List (List PV)}(L:List α)(f:α->List IV)(hi:h.get i=co (.row sz es))(hes:es=L.map fun x=>(f x).map .iv)
  (j:r.ba i sz L.length) (hk:ft ((i,io)::h) n (r.dA i sz fun k=>f (L.getD k ci)) K):ft h n r K:=
 .row i (fun k=>f (L.getD k ci)) hi (cQ hes) (by subst hes;simpa using j) hk
def AO.jE(i sz:Nat)(el:Nat->List IV):AO->AO
 | .cells cs T=> .cells (nD i sz el cs) T
 |o=>o
def AO.lO(i sz n:Nat):AO->Prop
 | .cells cs _=>a8 i sz n cs
 | .row _ es=> ∀(k:Nat) (e:List PV) (j:Nat) (p:PV),es[k]? =co e->e[j]? =co p-> ∃y,p= .iv y
 |_=>True
def AH.jE(i sz:Nat)(el:Nat->List IV):AH->AH
 | []=> []
 |(k,io)::r=>(k,io)::AH.jE i sz el r
 |(k,co o)::r=>(k,co (o.jE i sz el))::AH.jE i sz el r
def AH.lO(i sz n:Nat):AH->Prop
 | []=>True
 |(_,io)::r=>AH.lO i sz n r
 |(_,co o)::r=>o.lO i sz n∧AH.lO i sz n r
def AF.jE(i sz:Nat)(el:Nat->List IV):AF->AF
 | []=> []
 |(d,p)::r=>(d,p.dA i sz el)::AF.jE i sz el r
def AF.lO(i sz n:Nat):AF->Prop
 | []=>True
 |(_,p)::r=>p.ba i sz n∧AF.lO i sz n r
theorem AH.jq(i sz:Nat)(el:Nat->List IV): ∀(h:AH) (j:Nat),(AH.jE i sz el h).get j=(h.get j).map (AO.jE i sz el)
 | [],_=>rfl
 |(k,io)::r,j=>by
  simp only[AH.jE,AH.ax,AH.jq i sz el r j];split<;>rfl
 |(k,co o)::r,j=>by
  simp only[AH.jE,AH.ax,AH.jq i sz el r j];split<;>rfl
theorem AH.kT{i sz n:Nat}: ∀{h:AH} (_:h.lO i sz n) (j:Nat) (o:AO),h.get j=co o->o.lO i sz n
 | [],_,j,o,ho=>nomatch ho
 |(k,io)::r,hh,j,o,ho=>by
  rw[AH.ax]at ho;split at ho
  .cases ho
  .exact AH.kT (h:=r) hh j o ho
 |(k,co q)::r,hh,j,o,ho=>by
  rw[AH.ax]at ho;split at ho
  .cases ho;exact hh.1
  .exact AH.kT (h:=r) hh.2 j o ho
theorem AF.jq(i sz:Nat)(el:Nat->List IV): ∀(f:AF) (d:Nat),(AF.jE i sz el f).get d=(f.get d).dA i sz el
 | [],_=>rfl
 |(k,p)::r,d=>by
  simp only[AF.jE,AF.ax,AF.jq i sz el r d];split<;>rfl
theorem AF.kT{i sz n:Nat}: ∀{f:AF} (_:f.lO i sz n) (d:Nat),(f.get d).ba i sz n
 | [],_,d=>trivial
 |(k,p)::r,h,d=>by
  rw[AF.ax];split
  .exact h.1
  .exact AF.kT (f:=r) h.2 d
theorem AO.sx(i sz:Nat)(el:Nat->List IV)(o:AO):(o.jE i sz el).real=o.real:=by
 cases o<;>rfl
theorem jS{P:Program}{nt:NT}{Q:AQ}{k:List KI}{s:AS}{c:Code}(i:Nat){sz:Nat}{es:List (List PV)}(el:Nat->List IV)(hi:s.h.get i=co (.row sz es))(G: ∀k e,es[k]? =co e->e=(el k).map .iv)
  (hf:s.f.lO i sz es.length) (hh:s.h.lO i sz es.length) (h:GO P nt (.code c::k) Q ⟨s.f.jE i sz el,(i,io)::s.h.jE i sz el,s.nx⟩):GO P nt (.code c::k) Q s:=by
 intro M N a w u;obtain⟨D,h1,x,h4⟩:=oQ u.1 hi G;have hM:M.le D:=h1.nZ;have B: ∀j o,AH.get ((i,io)::s.h.jE i sz el) j=co o-> ∃p,AH.get ((i,io)::s.h) j=co p∧s.h.get j=co p∧o=p.jE i sz el:=by
  intro j o y;obtain⟨g1,g2⟩:=bj j o y;rw[AH.jq,Vw]at g2;obtain⟨p,g3,g4⟩:=g2;exact⟨p,by rw[AH.ax,be g1];exact g3,g3,g4.symm⟩
 have hE:Ext M N (· <s.nx) s.h w D N (· <s.nx) ((i,io)::s.h.jE i sz el) w:=⟨h1.os,h1.tape,h1.output,h1.size,h1.gu,h1.nZ,h1.iq,h1.nm,h1.ule,fun j o y A=>by
  obtain⟨p,g1,_,rfl⟩:=B j o y;rw[AO.sx]at A
  exact h1.gh j p g1 A⟩
 have hR:Rel D N (· <s.nx) ((i,io)::s.h.jE i sz el) w:=by
  refine⟨x.dA,fun j o y=>?_,fun j o y A=>?_,fun j o y=>?_,fun j k o p y hk ho hp=>?_⟩
  .obtain⟨p,g1,_,rfl⟩:=B j o y;exact x.used j p g1
  .obtain⟨p,g1,_,rfl⟩:=B j o y;rw[AO.sx]at A;exact x.dG j p g1 A
  .obtain⟨p,g1,g2,rfl⟩:=B j o y;cases p with
   |cells cs T0=>
    obtain⟨c,T,q1,q2,q3,q4,q5⟩:=u.1.obj j _ g2;have hok:=AH.kT hh j _ g2;refine⟨c,T,q1,q2,by simpa[ej]using q3,fun k q hq=>?_,q5⟩;rw[ej,Vv,Vw]at hq;obtain⟨q0,C,rfl⟩:=hq;exact h4 _ _ (q4 k q0 C) (eR hok k q0 C)
   |row=>exact x.obj j _ g1
   |bu=>exact x.obj j _ g1
   |fh=>exact x.obj j _ g1
   |map=>exact x.obj j _ g1
   |bX=>exact x.obj j _ g1
   |ef=>exact x.obj j _ g1
   |hQ=>exact x.obj j _ g1
   |eh=>exact x.obj j _ g1
   |n3=>exact x.obj j _ g1
  .obtain⟨o',g1,_,rfl⟩:=B j o y;obtain⟨p',g2,_,rfl⟩:=B k p hk;rw[AO.sx]at ho hp;exact x.inj j k o' p' g1 g2 ho hp
 have I:Fits D N ⟨s.f.jE i sz el,(i,io)::s.h.jE i sz el,s.nx⟩ nt a w:=⟨hR,fun d=>by
  rw[AF.jq];exact h4 _ _ (u.2.1 d) (AF.kT hf d),u.2.2⟩
 exact AW.then h I fun e a2 w2 M2 N2 s2 a0 J Y=>⟨M2,N2,s2,hE.trans a0,J,Y⟩
def AO.gE(i sz:Nat)(el:Nat->List IV):AO->AO
 | .cells cs T=> .cells (nD i sz el cs) T
 | .row s es=> .row s (es.map (nD i sz el))
 |o=>o
def AO.uW(i sz n:Nat):AO->Prop
 | .cells cs _=>a8 i sz n cs
 | .row _ es=> ∀e∈es,a8 i sz n e
 |_=>True
def AH.gE(i sz:Nat)(el:Nat->List IV):AH->AH
 | []=> []
 |(k,io)::r=>(k,io)::AH.gE i sz el r
 |(k,co o)::r=>(k,co (o.gE i sz el))::AH.gE i sz el r
def AH.uW(i sz n:Nat):AH->Prop
 | []=>True
 |(_,io)::r=>AH.uW i sz n r
 |(_,co o)::r=>o.uW i sz n∧AH.uW i sz n r
theorem AH.oR(i sz:Nat)(el:Nat->List IV): ∀(h:AH) (j:Nat),(AH.gE i sz el h).get j=(h.get j).map (AO.gE i sz el)
 | [],_=>rfl
 |(k,io)::r,j=>by
  simp only[AH.gE,AH.ax,AH.oR i sz el r j];split<;>rfl
 |(k,co o)::r,j=>by
  simp only[AH.gE,AH.ax,AH.oR i sz el r j];split<;>rfl
theorem AH.lN{i sz n:Nat}: ∀{h:AH} (_:h.uW i sz n) (j:Nat) (o:AO),h.get j=co o->o.uW i sz n
 | [],_,j,o,ho=>nomatch ho
 |(k,io)::r,hh,j,o,ho=>by
  rw[AH.ax]at ho;split at ho
  .cases ho
  .exact AH.lN (h:=r) hh j o ho
 |(k,co q)::r,hh,j,o,ho=>by
  rw[AH.ax]at ho;split at ho
  .cases ho;exact hh.1
  .exact AH.lN (h:=r) hh.2 j o ho
theorem AO.iT(i sz:Nat)(el:Nat->List IV)(o:AO):(o.gE i sz el).real=o.real:=by
 cases o with
 |row s es=>cases es<;>rfl
 |_=>rfl
def P2:List Code->Code->Code
 | [],r=>r
 |c::l,r=> .seq c (P2 l r)
def ym:Nat->Code->List Code
 |n+1,.seq a b=>a::ym n b
 |_,_=> []
def ud:Nat->Code->Code
 |n+1,.seq _ b=>ud n b
 |_,c=>c
theorem D9{P:Program}{nt:NT}{R:AQ}: ∀{l:List Code} {e:Exit} {s:AS},e≠ .normal->kp P nt (l.map KI.code) R e s->R e s
 | [],_,_,_,h=>h
 |c::l,e,s,he,h=>by
  cases e with
  |normal=>exact absurd Z he
  |_=>exact D9 (l:=l) he h
mutual
def x9:PV->Bool
 | .iv (.v _)=>is
 | .iv _=>jp
 | .agg cs=>rG cs
 | .aZ cs=>rG cs
 | .cm _ _ _=>jp
 |_=>is
def rG:List PV->Bool
 | []=>is
 |p::r=>x9 p&&rG r
end
theorem mg: ∀{l:List PV},rG l=is-> ∀(j:Nat) (p:PV),l[j]? =co p->x9 p=is
 | [],_,j,p,h=>by simp at h
 |c::l,hh,j,p,h=>by
  simp only[rG,Wf]at hh;cases j with
  |zero=>simp at h;subst h;exact hh.1
  |succ j=>exact mg hh.2 j p (by simpa using h)
theorem vQ{M A:Mem}{N:Nm}{U:Nat->Prop}{p:PV}{x:Value}(h:VR M N U p x):x9 p=is->VR A N U p x:=by
 induction h with
 |iv x y h=>
  intro hb;cases h with
  |v=>exact .iv _ _ (.v _)
  |_=>cases hb
 |agg cs ys hl hr ih=>exact fun hb=> .agg _ _ hl fun j p u=>ih j p u (mg hb j p u)
 |aZ cs ys hl hr ih=>exact fun hb=> .aZ _ _ hl fun j p u=>ih j p u (mg hb j p u)
 |ptr i off h=>exact fun _=> .ptr _ _ h
 |cM i sz k off h=>exact fun _=> .cM _ _ _ _ h
 |eL z i h=>exact fun _=> .eL _ _ h
 |nI i off n h=>exact fun _=> .nI _ _ _ h
 |sl i off len sz cap h h0 hl hc he=>exact fun _=> .sl _ _ _ _ _ h h0 hl hc he
 |kP i sz h=>exact fun _=> .kP _ _ h
 |sle i sz cap h hc he=>exact fun _=> .sle _ _ _ h hc he
 |mp i h=>exact fun _=> .mp _ h
 |cm=>intro hb;cases hb
 |kb b=>exact fun _=> .kb _
 |any=>exact fun _=> .any _
def BS:AO->Prop
 | .row _ es=> ∀e∈es,rG e=is
 | .cells cs _=>rG cs=is
 |_=>False
theorem Jo{M D:Mem}{N:Nm}{U:Nat->Prop}{w:World}{i:Nat}{o:AO}(hb:BS o)(h:OR M N U w i o):OR D N U w i o:=by
 cases o with
 |row sz es=>
  rcases h with h|⟨G,c,T,h1,x,y,A,B⟩
  .exact .inl h
  .exact .inr ⟨G,c,T,h1,x,y,A,fun k e j p C u=>vQ (B k e j p C u) (mg (hb e (V2 C)) j p u)⟩
 |cells cs T0=>
  obtain⟨c,T,h1,x,y,A,B⟩:=h;exact⟨c,T,h1,x,y,fun j p u=>vQ (A j p u) (mg hb j p u),B⟩
 |_=>exact hb.elim
section
variable {P:Program} {nt:NT} {Q:AQ} {k:List KI} {s:AS}
theorem BQ{o:Oper}{c:Call}{g:FuncId}{asv args:List PV}(ho:o.op= .call c)(ha:bN s.f c=co (g,asv)){r:PV}{h':AH}{n':Nat}(hc:bg P g args [] r h' n')
  (i0:args.length=asv.length) (hlow:bp 0 args=is)
  (f0: ∀M N w,Rel M N (· <s.nx) s.h w-> ∃M1:Mem,M.le M1∧Rel M1 N (· <s.nx) [] w∧ ∀(j:Nat) (p:PV) (x:Value),args[j]? =co p->(∀q,asv[j]? =co q->VR M N (· <s.nx) q x)->VR M1 N (· <s.nx) p x)
  (e0:x9 (r.bY (sig [] s.nx))=is) (d0: ∀j o,(nA (sig [] s.nx) h').get j=co o->BS o)
  {s':AS} (hp:putDst nt o (r.bY (sig [] s.nx)) (aA s [] h' n')=co s'):OT P nt o s (fun t=>t=s'):=by
 intro M N a w hf K Z hk;obtain⟨vs,a0,hl,hv⟩:=vB hf ho ha hc.1;unfold Oper.wp;rw[a0];simp only[Oper.upon];obtain⟨M1,m0,j0,k0⟩:=f0 M N w hf.1
 have J:=Fn.calls (s:=⟨s.f,[],s.nx⟩) (L:=[]) hc Wn (by simp) rfl (M:=M1) (N:=N) (w:=w) j0 (vs:=vs) (by omega) (fun j p A=>by
  rw[PV.jN _ _ (fV hlow j p A)]
  exact k0 j p _ A fun q hq=>hv j q hq)
 refine J.mono ?_;rintro e w' ⟨x,M',N',r',h2,n2,rfl,⟨rfl,rfl,rfl⟩,hx,hr,hvr⟩;have B:N.agree N' (· <s.nx):=hx.nm;have D: ∀i,i<s.nx->i<s.nx+(n2-0):=fun i Y=>hx.ule i Y;have C: ∀b,b<w.heap.size->w'.heap[b]? =w.heap[b]? :=fun b hb=>hx.gu b hb fun i o Y=>(nomatch Y)
 have g0:(aA ⟨s.f,[],s.nx⟩ [] h2 n2).h=nA (sig [] s.nx) h2:=by simp[aA,BG]
 have y: ∀j o,(aA s [] h2 n2).h.get j=co o->(nA (sig [] s.nx) h2).get j=co o∨s.h.get j=co o:=by
  intro j o A;simp only[aA,BG,VU]at A;rw[AH.get_append]at A;split at A
  .exact .inl A
  .exact .inr A
 rw[g0]at hr hx;have hnew: ∀j o,(nA (sig [] s.nx) h2).get j=co o->o.real=is->w.heap.size<=N'.az j:=by
  intro j o A u;rcases hx.gh j o A u with h|⟨i,p,Y,_⟩
  .exact h
  .exact nomatch Y
 have hR:Rel M N' (· <s.nx+(n2-0)) (aA s [] h2 n2).h w':=by
  refine⟨fun b d hb=>(hf.1.dA b d hb).mono (C b (hf.1.dA b d hb).lt),fun j o A=>?_,fun j o A u=>?_,fun j o A=>?_,fun i j o p Y A G I e=>?_⟩
  .rcases y j o A with h|h
   .exact hr.used j o h
   .exact D j (hf.1.used j o h)
  .rcases y j o A with h|h
   .have:=hnew j o h u;cases hm:M (N'.az j) with
    |none=>rfl
    |some d=>have:=(hf.1.dA _ d hm).lt;omega
   .rw[B.az j (hf.1.used j o h)];exact hf.1.dG j o h u
  .rcases y j o A with h|h
   .exact Jo (d0 j o h) (hr.obj j o h)
   .cases u:o.real with
    |true=>exact(hf.1.obj j o h).mono (.refl _) B D (hf.1.used j o h) (C _ ((hf.1.obj j o h).lt u))
    |false=>
     cases o with
     |row sz es=>cases es with
      |nil=>exact .inl rfl
      |cons=>cases u
     |bu l T=>cases l with
      |nil=>exact .inl rfl
      |cons=>cases u
     |_=>cases u
  .rcases y i o Y with h1|h1<;>rcases y j p A with h2'|h2'
   .exact hr.inj i j o p h1 h2' G I e
   .have:=hnew i o h1 G;rw[e,B.az j (hf.1.used j p h2')]at this;have:=(hf.1.obj j p h2').lt I;omega
   .have:=hnew j p h2' I;rw[<-e,B.az i (hf.1.used i o h1)]at this;have:=(hf.1.obj i o h1).lt G;omega
   .rw[B.az i (hf.1.used i o h1),B.az j (hf.1.used j p h2')]at e;exact hf.1.inj i j o p h1 h2' G I e
 have hX:Ext M N (· <s.nx) s.h w M N' (· <s.nx+(n2-0)) (aA s [] h2 n2).h w':=
  ⟨hx.os,hx.tape,hx.output,hx.size,fun b hb _=>C b hb,.refl _,fun b d g1 g2=>absurd (g1.symm.trans g2) (by simp),B,D,fun j o A u=>by
   rcases y j o A with h|h
   .exact .inl (hnew j o h u)
   .exact .inr ⟨j,o,h,u,(B.az j (hf.1.used j o h)).symm⟩⟩
 have c0:Fits M N' (aA s [] h2 n2) nt a w':=⟨hR,hf.2.1.ext hX,hf.2.2⟩
 have b0:VR M N' (· <(aA s [] h2 n2).nx) (r'.bY (sig [] s.nx)) x:=vQ hvr e0;show K (a.put o.dst x) w';cases hd:o.dst with
 |none=>
  have:=dF hp hd;subst this;exact hk M N' _ _ w' hX c0 rfl
 |some d=>
  obtain⟨h1,rfl⟩:=dE hp hd;exact hk M N' {aA s [] h2 n2 with f:=(d,r'.bY (sig [] s.nx))::(aA s [] h2 n2).f} _ w' hX (c0.put d _ x h1 b0) rfl
theorem rn{all rest:List Oper}{o:Oper}{c:Call}{g:FuncId}{asv args:List PV}{r:PV}{A:AH}{G:Nat}{s':AS}(hc:bg P g args [] r A G)(ho:o.op= .call c)(hg:o.guard=io)(ha:bN s.f c=co (g,asv))
  (u:args.length=asv.length) (hlow:bp 0 args=is)
  (D: ∀M N w,Rel M N (· <s.nx) s.h w-> ∃y:Mem,M.le y∧Rel y N (· <s.nx) [] w∧ ∀(j:Nat) (p:PV) (x:Value),args[j]? =co p->(∀q,asv[j]? =co q->VR M N (· <s.nx) q x)->VR y N (· <s.nx) p x)
  (C:x9 (r.bY (sig [] s.nx))=is) (B: ∀j o,(nA (sig [] s.nx) A).get j=co o->BS o) (hp:putDst nt o (r.bY (sig [] s.nx)) (aA s [] A G)=co s')
  (h:GO P nt (.ops all rest::k) Q s'):GO P nt (.ops all (o::rest)::k) Q s:=
 bz hg (BQ ho ha hc u hlow D C B hp) fun t ht=>by subst ht;exact h
end
end
end Go.Al
namespace Go.Al
open Go.ChangeShapes Go.WideShapes Go.RowKit
section
def xJ(W:World)(b:Nat):Option MB:=match W.heap[b]? with
 |some (.cells c _ _)=>co (.cells c)
 |some (.map es cl)=>co (.map es cl)
 |_=>io
def oA(W:World):Prop:= ∀b c,QW b=co c-> ∃T j,W.heap[b]? =co (.cells c T j)
def Mem.qU(W:World)(h:oA W):Mem:=⟨xJ W,fun b c hb=>by obtain⟨T,j,e⟩:=h b c hb;simp[xJ,e]⟩
def T8:Nm:=⟨fun _=>0,fun _=>0⟩
theorem LK(W:World)(h:oA W):Rel (Mem.qU W h) T8 (· <0) [] W:=by
 refine⟨fun b c hb=>?_,fun i o x=>by simp[AH.get]at x,fun i o x=>by simp[AH.get]at x,fun i o x=>by simp[AH.get]at x,fun i j o p x=>by simp[AH.get]at x⟩;have u:xJ W b=co c:=hb;unfold xJ at u;split at u
 .rename_i A T y e;obtain rfl:=Wq u;exact⟨T,y,e⟩
 .rename_i es cl e;obtain rfl:=Wq u;exact e
 .cases u
theorem BO{W:World}{h:oA W}{b o:Nat}{v:Value}(hc:W.cell? ⟨b,o,io⟩=co v):(Mem.qU W h).cell b o=co v:=by
 show(match xJ W b with|some (.cells c)=>c[o]? |_=>io)=co v;unfold World.cell? at hc;unfold xJ;split at hc
 .rename_i c T j e;simp only at e;rw[e];simpa using hc
 .cases hc
def CR(M:Mem)(l:List IV)(cs:List Value):Prop:=l.length=cs.length∧ ∀j p,l[j]? =co p->IR M p (cs.getD j undef)
theorem CR.nil(M:Mem):CR M [] []:=⟨rfl,fun j p h=>by simp at h⟩
theorem CR.one{M:Mem}{p:IV}{v:Value}(h:IR M p v):CR M [p] [v]:=⟨rfl,fun j q u=>by
 cases j with
 |zero=>simp at u;subst u;simpa using h
 |succ j=>simp at u⟩
theorem CR.append{M:Mem}{l y:List IV}{cs u:List Value}(h:CR M l cs)(k:CR M y u):CR M (l++y) (cs++u):=by
 refine⟨by simp[h.1,k.1],fun j p x=>?_⟩;rcases Wp j l.length with hj|hj
 .rw[VJ hj]at x;have:=h.2 j p x;rw[Vr]at this ⊢;rwa[VJ (by rw[<-h.1];exact hj)]
 .rw[VK hj]at x;have:=k.2 _ p x;rw[Vr]at this ⊢;rw[VK (by rw[<-h.1];exact hj),<-h.1];exact this
theorem CR.B4{M:Mem}{l r:List IV}{cs:List Value}{o n o':Nat}(h:CR M l ((cs.drop o).take n))(e:o'=o+n)(k:CR M r (cs.drop o')):CR M (l++r) (cs.drop o):=by
 subst e;have:=h.append k;rwa[<-List.drop_drop,XR]at this
theorem CR.end_{M:Mem}{cs:List Value}{o:Nat}(h:cs.length=o):CR M [] (cs.drop o):=by
 rw[List.drop_eq_nil_of_le (by omega)];exact .nil M
section
variable {H:Type} {enc:TypeId×Value->H} {P:Program} {W:World} {hT:oA W} {sp:Nat->Bool} {held:Bool}
def Rd(enc:TypeId×Value->H)(P:Program)(W:World)(hT:oA W)(sp:Nat->Bool)(held:Bool)(t:TypeId){α:Type}(c:α->List IV)(Q:α->DataW H->Prop)(n:Nat):Prop:=
 ∀m,m<=n-> ∀j y,DataW.trod enc P W 0 sp held m t j=co y-> ∃x,CR (Mem.qU W hT) (c x) j∧Q x y.1
theorem Rd.mono{t:TypeId}{α:Type}{c:α->List IV}{Q:α->DataW H->Prop}{n m:Nat}(h:Rd enc P W hT sp held t c Q n)(hm:m<=n):Rd enc P W hT sp held t c Q m:=fun k hk=>h k (Wr hk hm)
theorem Hw{t:TypeId}{k:IntKind}(ht:P.underlying t=co (.int k))(n:Nat):Rd enc P W hT sp held t (fun z=> [.v (.int k z)]) (fun z d=>d= .lit (.int k z)∧(Lit.int k z).wf=is) n:=by
 intro m _ u y h;cases m with
 |zero=>simp[DataW.trod]at h
 |succ m=>
  unfold DataW.trod at h;rw[ht]at h;split at h<;>simp_all;obtain⟨⟨rfl,j⟩,rfl⟩:=h;exact⟨_,.one (.v _),rfl,j⟩
theorem xc{t:TypeId}(ht:P.underlying t=co .string)(n:Nat):Rd enc P W hT sp held t (fun s=> [.v (.string s)]) (fun s d=>d= .lit (.string s.data.toList)∧s.size<=maxLen) n:=by
 intro m _ u y h;cases m with
 |zero=>simp[DataW.trod]at h
 |succ m=>
  unfold DataW.trod at h;rw[ht]at h;split at h<;>simp_all;rename_i s;obtain⟨j,rfl⟩:=h;exact⟨s,.one (.v _),rfl,j⟩
def QL{α:Type}(Q:α->DataW H->Prop)(l:List α)(d:DataW H):Prop:=
 ∃j:List (DataW H),(d= .nil∧j=[]∨ ∃sp,d= .slice j sp)∧l.length=j.length∧ ∀(i:Nat) (x:α) (e:DataW H),l[i]? =co x->j[i]? =co e->Q x e
theorem Av{α:Type}[Inhabited α]{t e:TypeId}{sz:Nat}{c:α->List IV}{Q:α->DataW H->Prop}{n:Nat}(ht:P.underlying t=co (.slice e))(hc:P.cellsOf e=sz)(D:0<sz)(hl: ∀x,(c x).length=sz)
  (he:Rd enc P W hT sp held e c Q n):Rd enc P W hT sp held t (fun l:List α=> [a7 sz l c]) (QL Q) (n+1):=by
 intro m hm cs y h;rcases DataW.trod_slice ht h with⟨rfl,rfl⟩|⟨a,len,i0,B,rest,k,rfl,rfl,rfl,_,h1,h2,h3,h4,_⟩
 .exact⟨[],.one (.fz ..),[],.inl ⟨rfl,rfl⟩,rfl,fun i x e h=>by simp at h⟩
 have key: ∀i,i<len-> ∃x,(∃A,W.cells? 0 (a.add (i*sz)) sz=co A∧CR (Mem.qU W hT) (c x) A)∧ ∃y,B[i]? =co y∧Q x y.1:=by
  intro i G;have h5:=h4 i G;rw[hc,Vt (by omega)]at h5;obtain⟨A,h6,h7⟩:=Option.bind_eq_some_iff.1 h5;obtain⟨x,h8,h9⟩:=he k (by omega) _ _ h7;exact⟨x,⟨A,h6,h8⟩,_,Vt (by omega),h9⟩
 obtain⟨f,hf⟩:=Deep.choose_lt key;refine⟨(V0 len).map f,.one ?_,B.map (·.1),.inr ⟨_,rfl⟩,by simp[h3],fun i x e hx b0=>?_⟩
 .cases len with
  |zero=>exact .fz ..
  |succ len=>
   have k0: ∀i,i<len+1-> ∀j,j<sz->W.cell? ((a.add (i*sz)).add j)=((c (f i))[j]?).bind fun _=>(W.cell? ((a.add (i*sz)).add j)):=by
    intro i G j C;rw[Vt (by rw[hl];exact C)];rfl
   have u: ∀i,i<len+1-> ∀j,j<sz-> ∃v,W.cell? ⟨a.block,a.off+i*sz+j,io⟩=co v∧(∀p,(c (f i))[j]? =co p->IR (Mem.qU W hT) p v)∧a.spot=io:=by
    intro i G j C;obtain⟨⟨A,h6,h8⟩,_⟩:=hf i G;obtain⟨_,h9,I⟩:=World.cells?_some h6;have J:=I j C;rw[Vt (by omega)]at J;have hs: ∀j,j<sz->(a.add (i*sz+j)).spot=io:=fun j C=>by
     have Y:=I j C;rw[Vt (by omega),Deep.add_add]at Y;exact World.cell?_spot Y
    have a0:a.add (i*sz+j)=⟨a.block,a.off+i*sz+j,io⟩:=by
     have:=hs j C;unfold Addr.add at this ⊢;split
     .rename_i h0;rw[am h0]at this;cases a;simp_all
     .rw[WB]
    refine⟨A[j]'(by omega),?_,fun p hp=>?_,?_⟩
    .rw[<-a0,<-Deep.add_add];exact J
    .have:=h8.2 j p hp;rwa[Vr,Vt (by omega)]at this
    .obtain⟨⟨j0,g6,_⟩,_⟩:=hf 0 (by omega);obtain⟨_,g9,f0⟩:=World.cells?_some g6;have e0:=f0 0 D;rw[Vt (by omega),Deep.add_add]at e0;have:=World.cell?_spot e0;simpa[Addr.add]using this
   have ha:co a=co (⟨a.block,a.off,io⟩:Addr):=by
    obtain⟨_,_,_,hs⟩:=u 0 (by omega) 0 D;cases a;simp_all
   rw[ha];have d0:((V0 (len+1)).map f).length=len+1:=by simp
   have c0: ∀k,k<len+1->((V0 (len+1)).map f).getD k ci=f k:=fun k hk=>by
    simp[Vr,XZ hk]
   unfold a7;rw[d0];refine .bK _ _ _ _ _ _ h1 h2 (fun k _=>hl _) (fun k j hk C=>?_) (fun k j p hk hp=>?_)
   .obtain⟨v,hv,_⟩:=u k hk j C;rw[BO hv];rfl
   .rw[c0 k hk]at hp;have C:j<sz:=by rw[<-hl (f k)];exact(Vs.1 hp).1
    obtain⟨v,hv,g0,_⟩:=u k hk j C;rw[BO hv];exact g0 p hp
 .have G:i<len:=by simpa using(Vs.1 hx).1
  obtain⟨_,y,hy,hq⟩:=hf i G;rw[Vv,hy]at b0;rw[Vv,XZ G]at hx;simp at b0 hx;subst b0;subst hx;exact hq
theorem Q6{n:Nat}{j:Array Field}{cs:List Value}{xs:List (DataW H×List MemPlace)}(hf: ∀(i:Nat) (f:Field),j[i]? =co f->DataW.trod enc P W 0 sp held n f.type ((cs.drop f.offset).take (P.cellsOf f.type))=xs[i]?)
  (i:Nat) {f:Field} (h1:j[i]? =co f) {t o sz:Nat} (u:f.type=t) (y:f.offset=o) (A:P.cellsOf t=sz) {x:DataW H×List MemPlace} (B:xs[i]? =co x):DataW.trod enc P W 0 sp held n t ((cs.drop o).take sz)=co x:=by
 subst u;subst y;subst A;rw[hf i f h1,B]
end
section
variable {H:Type} {enc:TypeId×Value->H} {P:Program} {W W':World} {T:TypeId->Prop}
theorem E5{W W':World}(hk: ∀b,b<W.heap.size->W'.heap[b]? =W.heap[b]?){p:MemPlace}(hp:p.block<W.heap.size):W.sameAt W' p:=by
 cases p with
 |cell b o=>exact World.cell?_of_block (a:=⟨b,o,io⟩) (hk b hp)
 |map b=>exact hk b hp
theorem pe(K:Kids P T)(A: ∀{t e},T t->P.underlying t=co (.slice e)->0<P.cellsOf e)(hk: ∀b,b<W.heap.size->W'.heap[b]? =W.heap[b]?){sp:Nat->Bool}:
  ∀{ts:List TypeId} {vs:List Value} {y:List (DataW H)} {u:List MemPlace},(∀t∈ts,T t)->DataW.TrodAll enc P W 0 (fun _=>is) is ts vs y u->(∀p∈u,p.block<W.heap.size)->(∀p∈u,sp p.block=is)->
   DataW.TrodAll enc P W' 0 sp is ts vs y u
 | [],vs,y,u,_,h,_,_=>by
  obtain⟨rfl,rfl,rfl⟩:=trodAll_nil h;exact trodAll_mk0
 |t::ts,vs,y,u,hT,h,hlt,hsp=>by
  obtain⟨v,D,d,B,p,q,rfl,rfl,rfl,⟨n,h1⟩,C⟩:=trodAll_cons h;refine⟨p,q,⟨n,DataW.trod_stays K A (fun h=>by cases h) (hT t (by simp)) h1 (fun x j=>E5 hk (hlt x (Wi _ j))) (fun x j=>hsp x (Wi _ j))⟩,?_,rfl⟩;exact pe K A hk (fun t ht=>hT t (VE _ ht)) C (fun x j=>hlt x (WY _ j)) (fun x j=>hsp x (WY _ j))
theorem Ml{W W':World}(u:W'.os=W.os)(j:W'.output=W.output)(hk: ∀b,b<W.heap.size->W'.heap[b]? =W.heap[b]?)(may:MemPlace->Prop):W.keptBut W' may:=by
 refine World.keptBut_mono (fun p x=>(x:False).elim) (World.keptBut_none_iff.2 ⟨u,j,hk⟩)
theorem yD{f:Func}{s:ChangeSpec}{y I A again:Bool}{args:Array Value}{v:Value}{C gs:List (DataW H)}{u:List MemPlace}
  (K:Kids P T) (hz: ∀{t e},T t->P.underlying t=co (.slice e)->0<P.cellsOf e) (e0: ∀t∈f.params.toList,T t) (B:s.vars=[])
  (hW:DataW.Whole enc P f.params.toList s.vars y W args.toList C gs u) (i0:W'.os=W.os) (a0:W'.output=W.output) (hk: ∀b,b<W.heap.size->W'.heap[b]? =W.heap[b]?)
  (G: ∀(b:Nat) (sp:Nat->Bool) (hd:Bool),DataW.TrodAll enc P W' b sp hd f.resultTypes.toList (v.resultList f.resultTypes.size) (s.fn H (C++gs)).results [])
  (J:(s.fn H (C++gs)).args=C) (k0:(s.fn H (C++gs)).vars=[])
  (hok: ∀(j:Nat) (t:TypeId) (r:Value),f.resultTypes[j]? =co t->(v.resultList f.resultTypes.size)[j]? =co r->Value.okWide P W' .any 0 t r):
  s.post enc P f y I A again W args v W':=by
 have Y: ∀p∈u,p.block<W.heap.size:=fun p hp=>by simpa using hW.lt p hp
 have D: ∀p∈u,(fun b=>kw (b<W.heap.size)) p.block=is:=fun p hp=>by simpa using hW.lt p hp
 obtain⟨pa,pv,hA,hV,rfl,f0,g0⟩:=id hW;rw[B]at hV;obtain⟨rfl,rfl⟩:gs=[]∧pv=[]:=by
  cases gs with
  |nil=>exact⟨rfl,hV⟩
  |cons _ _=>exact hV.elim
 rw[We]at Y D;have x: ∀sp:Nat->Bool,(∀p∈pa,sp p.block=is)->DataW.TrodAll enc P W' 0 sp is f.params.toList args.toList (s.fn H (C++ [])).args pa:=fun sp j0=>by
  rw[J];exact pe K hz hk e0 hA Y j0
 have c0: ∀sp:Nat->Bool,DataW.TrodVars enc P W' sp s.vars (s.fn H (C++ [])).vars []:=fun sp=>by
  rw[k0,B];rfl
 refine⟨C,[],pa++ [],[],pa,[],hW,G _ _ _,x _ D,c0 _,?_,fun _=>⟨hok,_,_,([]++pa)++ [],⟨[]++pa,[],trodAll_append (x _ (fun _ _=>rfl)) (G _ _ _),c0 _,rfl,?_,?_⟩,?_⟩⟩
 .exact Ml i0 a0 hk _
 .intro b d0 hp;have b0:MemPlace.cell b d0∈pa:=by simpa using hp
  have hb:=Y _ b0;have:=f0 b d0 (by simpa using b0);rw[<-this];simp only[World.frozen?];rw[hk b hb]
 .intro ha;have:=g0 ha;simpa using this
 .intro p hp _;simpa using hp
end
section
variable {P:Program} {ty:Ty} {nt:NT} {s:AS} {Q:AQ} {k:List KI}
def aO(c:UInt8):List IV:=[.v (.int .u8 (c.toNat:Int))]
theorem lK(w:World)(t u G e:TypeId)(i:TypeInfo)(ht:P.underlying t=co (.slice e))(hu:P.underlying u=co .string)(hi:P.info? e=co i)(D:i.size=1)(T:TypeId)
  (g j y:Nat) (x:Array Value) (hg:w.heap[g]? =co (.cells x T (0,0))) (b:ByteArray)
  (A:j+b.size<=y) (B:j+b.size<=x.size):
  (Builtin.append_ #[t,u] G #[.slice (co ⟨g,0,io⟩) j y,.string b]).run P w=
   .ok (.slice (co ⟨g,0,io⟩) (j+b.size) y) (w.setRow g (x.toList.take j++Lib.strCells b++x.toList.drop (j+b.size)).toArray):=by
 have hf:=Lib.run_firstCells_string (P:=P) w 1 b;have C:=run_storeCells_at P g j T (Lib.strCells b) 0 x w hg (by simpa[Lib.strCells_length]using B) (Lib.strCells_oneCell b);simp only[WZ,Lib.strCells_length]at C;simp[Builtin.append_,run_underlying ht,run_underlying hu,sizeOf,typeInfo,hi,D,Builtin.lenOf,A,hf,Addr.add_lit,C]
theorem fZ(w:World)(t u B e:TypeId)(i:TypeInfo)(ht:P.underlying t=co (.slice e))(hu:P.underlying u=co .string)(hi:P.info? e=co i)(A:Option Addr)(x j:Nat)(y:x<=j)(b:ByteArray)(hb:b.size=0)(hs:A=io∨ ∃b o,A=co ⟨b,o,io⟩):
  (Builtin.append_ #[t,u] B #[.slice A x j,.string b]).run P w= .ok (.slice A x j) w:=by
 have hf:=Lib.run_firstCells_string (P:=P) w i.size b;have C:Lib.strCells b=[]:=V9 (by rw[Lib.strCells_length];exact hb);rw[hb,C]at hf;rcases hs with rfl|⟨g,o,rfl⟩
 .simp[Builtin.append_,run_underlying ht,run_underlying hu,sizeOf,typeInfo,hi,Builtin.lenOf,hb,y,hf]
 .simp[Builtin.append_,run_underlying ht,run_underlying hu,sizeOf,typeInfo,hi,Builtin.lenOf,hb,y,hf,storeCells]
def tx(s:AS)(i:Nat)(l:List UInt8)(u:TypeId):AS:=⟨s.f,(s.nx,co (.bu l u))::(i,io)::s.h,s.nx+1⟩
theorem qJ{i:Nat}{l:List UInt8}{u:TypeId}{M j:Mem}{N x:Nm}{a:Act}{w y:World}(hf:Fits M N s nt a w)(A:Ext M N (· <s.nx) s.h w j x (· <s.nx+1) ((s.nx,co (.bu l u))::(i,io)::s.h) y)
  (hr:Rel j x (· <s.nx+1) ((s.nx,co (.bu l u))::(i,io)::s.h) y):
  Ext M N (· <s.nx) s.h w j x (· <(tx s i l u).nx) (tx s i l u).h y∧Fits j x (tx s i l u) nt a y:=
 ⟨A,hr,hf.2.1.ext A,hf.2.2⟩
theorem Rel.Nk{M:Mem}{N:Nm}{w:World}{n:Nat}{h:AH}(hr:Rel M N (· <n) h w)(T:TypeId):Ext M N (· <n) h w M N (· <n+1) ((n,co (.bu [] T))::h) w∧Rel M N (· <n+1) ((n,co (.bu [] T))::h) w:=by
 have u: ∀i p,AH.get ((n,co (.bu [] T))::h) i=co p->(i=n∧p= .bu [] T)∨(i<n∧h.get i=co p):=by
  intro i p x;rw[AH.ax]at x;split at x
  .rename_i C;exact .inl ⟨C,by simpa using x.symm⟩
  .exact .inr ⟨hr.used i p x,x⟩
 refine⟨⟨rfl,rfl,⟨rfl,VA _⟩,VA _,fun _ _ _=>rfl,.refl _,fun b c h1 A=>by simp[h1]at A,.refl _ _,fun i x=>by omega,fun i p x y=>?_⟩,⟨hr.dA,fun i p x=>?_,fun i p x y=>?_,fun i p x=>?_,fun i j p q x J D G B=>?_⟩⟩
 .rcases u i p x with⟨rfl,rfl⟩|⟨h1,A⟩
  .cases y
  .exact .inr ⟨i,p,A,y,rfl⟩
 .rcases u i p x with⟨rfl,rfl⟩|⟨h1,A⟩<;>omega
 .rcases u i p x with⟨rfl,rfl⟩|⟨h1,A⟩
  .cases y
  .exact hr.dG i p A y
 .rcases u i p x with⟨rfl,rfl⟩|⟨h1,A⟩
  .exact .inl Z
  .exact(hr.obj i p A).mono (.refl _) (.refl _ _) (fun i x=>by omega) h1 Z
 .rcases u i p x with⟨rfl,rfl⟩|⟨h1,A⟩<;>rcases u j q J with⟨rfl,rfl⟩|⟨Y,I⟩
  .rfl
  .cases D
  .cases G
  .exact hr.inj i j p q A I D G B
theorem Ll(x0:bn P ty){o:Oper}{x y:Operand}{t tu u:TypeId}(ho:o.op= .call ⟨.builtin .append, #[x,y], #[t,tu]⟩){e et eu:bC}(ht:ty t=co e)(hk:e.k= .aP (.slice u))(t1:ty tu=co et)(n1:et.k= .aP .string)(hu:ty u=co eu)
  {i len:Nat} {l:List UInt8} {b:ByteArray} (hx:ev s.f x= .sl i 0 len 1) (hi:s.h.get i=co (.bu l u)) (C:l.length=len) (s1:eu.size=1) (k1:eu.bytes=1) (hz:eu.zero= .int .u8 0)
  (p1:ev s.f y= .iv (.v (.string b))) (a2:len+b.size<=140737488355328)
  {s':AS} (hp:putDst nt o (.sl s.nx 0 (len+b.size) 1) (tx s i (l++b.data.toList) u)=co s'):OT P nt o s (fun t=>t=s'):=by
 refine OT.value hp fun M N a w hf=>?_;obtain⟨⟨ii,g0,r0,q0,s0⟩,_⟩:=x0 u _ hu;rw[s1]at r0;rw[k1]at q0;rw[hz]at s0
 have k0:P.underlying t=co (.slice u):=by
  have:=(x0 t _ ht).2.1;rw[hk]at this;exact this.1
 have j0:P.underlying tu=co .string:=by
  have:=(x0 tu _ t1).2.1;rw[n1]at this;exact this.1
 have z0:=aN hf.2.1 x;rw[hx]at z0;have a1:=aN hf.2.1 y;rw[p1]at a1;have x1:a.eval y= .string b:=by
  generalize a.eval y=v at a1;cases a1 with
  |iv _ _ h=>cases h;rfl
 have A: ∀v w',(Builtin.append_ #[t,tu] o.type #[a.eval x,a.eval y]).run P w= .ok v w'->(execOp a.eval o).run P w= .ok (.value v) w':=by
  intro v w' h;simp only[execOp,ho,resolve];simp[invoke,builtin,h]
 rw[x1]at A;have b2:i<s.nx:=hf.1.used i _ hi;have m0:s.nx≠i:=by omega
 have o1:=hf.1.obj i _ hi;have f0:b.data.toList.length=b.size:=by simp
 have e0: ∀(j:Nat) (x:UInt8),b.data.toList[j]? =co x->(Lib.strCells b).getD j undef= .int .u8 (x.toNat:Int):=by
  intro j x hx;simp only[Lib.strCells,Vr,Vv,hx,Ww,Wv]
 have b0: ∀z:Array Value,(∀(j:Nat) (x:UInt8),l[j]? =co x->z.getD j undef= .int .u8 (x.toNat:Int))->(∀j,j<b.size->z.getD (len+j) undef=(Lib.strCells b).getD j undef)->
   ∀(j:Nat) (x:UInt8),(l++b.data.toList)[j]? =co x->z.getD j undef= .int .u8 (x.toNat:Int):=by
  intro z h1 h2 j x D;rcases Wp j l.length with hk|hk
  .rw[VJ hk]at D;exact h1 j x D
  .rw[VK hk]at D;have t0:j-l.length<b.size:=by rw[<-f0];exact(Vs.1 D).1
   have:=h2 _ t0;rw[e0 _ _ D,show len+(j-l.length)=j by omega]at this;exact this
 have Y: ∀(G:List Value) (a0:Nat),G.length=len->(∀(j:Nat) (x:UInt8),l[j]? =co x->G.getD j undef= .int .u8 (x.toNat:Int))->len+b.size<=a0->a0<=maxLen->0<len+b.size->
   ∀z:Array Value,z=G.toArray++(Lib.strCells b).toArray++Builtin.zeroCells (Value.int .u8 0).cells (a0-(len+b.size))->
   ∃M' J,Ext M N (· <s.nx) s.h w M' J (· <(tx s i (l++b.data.toList) u).nx) (tx s i (l++b.data.toList) u).h (w.drew.alloc (.cells z u))∧Fits M' J (tx s i (l++b.data.toList) u) nt a (w.drew.alloc (.cells z u))∧
    VR M' J (· <(tx s i (l++b.data.toList) u).nx) (.sl s.nx 0 (len+b.size) 1) (.slice (co ⟨w.heap.size,0,io⟩) (len+b.size) a0):=by
  intro G a0 f1 v1 o0 m1 v0 z b1;have z1:(Value.int IntKind.u8 0).cells.size=1:=rfl;have I:z.size=a0:=by
   rw[b1,W1,W1,size_zeroCells,z1];simp only[XC,f1,Lib.strCells_length];omega
  obtain⟨J,h1,h2,h3,h4,h5⟩:=hf.1.drew.alloc (.cells z u) (.bu (l++b.data.toList) u) z.size (fun J g1 g2 g3=>by
   refine .inr ⟨z,by rw[g1];exact heap_alloc_new _ _,g2.symm,by rw[I,Vp,C,f0];omega,b0 z (fun j x D=>?_) (fun j D=>?_)⟩
   .have c2:=(Vs.1 D).1;have e1:z.getD j undef=G.getD j undef:=by
     rw[b1,Vn,X7,V3 (by simp;omega),Vr];simp
    rw[e1];exact v1 j x D
   .rw[b1,Vn,V3 (by simp[Lib.strCells_length];omega),Xi (by simp;omega),Vr]
    simp[f1])
  have r1:=(h5.del i).swap (Ne.symm m0);have w1:=(((Ext.drew (M:=M) (N:=N) (U:=(· <s.nx)) (h:=s.h) (w:=w)).trans h4).del i).swap (Ne.symm m0);obtain⟨g1,g2⟩:=qJ hf w1 r1;refine⟨M,J,g1,g2,?_⟩;have:=VR.sl (M:=M) (N:=J) (U:=(· <s.nx+1)) s.nx 0 (len+b.size) 1 a0 (by omega) v0 o0 m1 (by rw[h2,I];simp);rw[h1,W0]at this;exact this
 generalize a.eval x=vx at z0 A;cases z0 with
 |kP _ _ hU=>
  have he:l=[]:=V9 C;subst he;by_cases hm:b.size=0
  .have n0:b.data.toList=[]:=V9 (by rw[f0];exact hm);have B:=fZ (P:=P) w t tu o.type u ii k0 j0 g0 io 0 0 (VA _) b hm (.inl Z);obtain⟨h1,h2⟩:=hf.1.Nk u;obtain⟨g1,g2⟩:=qJ (i:=i) (l:=[]) (u:=u) hf ((h1.del i).swap (Ne.symm m0)) ((h2.del i).swap (Ne.symm m0));rw[n0,hm];exact⟨_,w,M,N,A _ _ B,g1,g2,.kP _ _ (by simp only[tx];omega)⟩
  .have B:=run_append_nil_string (P:=P) w t tu o.type u ii (.int .u8 0) k0 j0 g0 s0 b (by omega) (by omega) (by rw[q0];omega);have e1:(b.data.map fun b=>Value.int .u8 b.toNat)=(Lib.strCells b).toArray:=by
    apply Array.ext';simp[Lib.strCells]
   rw[e1]at B;obtain⟨M',J,g1,g2,g3⟩:=Y [] (grownCap w b.size 0 u) Z (by simp) (by simpa using grownCap_ge w b.size 0 u) (grownCap_le_maxLen w _ _ _ (by simp only[maxLen];omega)) (by omega) _ Z;simp only[VL,VU,YX] at*
   exact⟨_,_,M',J,A _ _ B,by simpa using g1,by simpa using g2,by simpa using g3⟩
 |sl _ _ _ _ a0 hU h0 hl hc hext=>
  rcases o1 with rfl|⟨cur,q1,q2,q3,q4⟩
  .simp at C;omega
  have c0:(AO.bu l u).real=is:=by cases l with
   |nil=>simp at C;omega
   |cons=>rfl
  rw[W0]at A;have p0:cur.size=a0:=by rw[q2,<-hext];omega
  by_cases hm:b.size=0
  .have n0:b.data.toList=[]:=V9 (by rw[f0];exact hm);have B:=fZ (P:=P) w t tu o.type u ii k0 j0 g0 (co ⟨N.az i,0,io⟩) len a0 hl b hm (.inr ⟨_,_,rfl⟩)
   obtain⟨h1,h2⟩:=hf.1.move hi c0 w (.bu (l++ []) u) Z Z Z Z (fun _ _=>rfl) (by
    rw[We]
    exact .inr ⟨cur,by simpa using q1,by simpa using q2,q3,q4⟩)
   obtain⟨g1,g2⟩:=qJ (i:=i) hf h1 h2;rw[n0,hm];refine⟨_,w,M,_,A _ _ B,g1,g2,?_⟩;have:=VR.sl (M:=M) (N:=N.with s.nx (N.az i) (N.ext i)) (U:=(· <s.nx+1)) s.nx 0 len 1 a0 (by omega) h0 hl hc (by simpa using hext);simpa[tx]using this
  .by_cases d0:len+b.size<=a0
   .have B:=lK (P:=P) w t tu o.type u ii k0 j0 g0 r0 u (N.az i) len a0 cur q1 b d0 (by omega);generalize hL:(cur.toList.take len++Lib.strCells b++cur.toList.drop (len+b.size)).toArray=L at B;have d1:L.size=cur.size:=by rw[<-hL];simp[Lib.strCells_length];omega
    have w0:=setRow_heap w (N.az i) cur L u (0,0) q1;have j1: ∀j,j<len->L.getD j undef=cur.getD j undef:=by
     intro j D;rw[<-hL,Vn,Vn];simp only[Wd];rw[VF,VJ (by simp;omega),V8,am D,VY]
    have i1: ∀j,j<b.size->L.getD (len+j) undef=(Lib.strCells b).getD j undef:=by
     intro j D;rw[<-hL,Vn,Vr];simp only[Wd];rw[VJ (by simp[Lib.strCells_length];omega),VK (by simp;omega)];congr 2;simp;omega
    obtain⟨h1,h2⟩:=hf.1.move hi c0 (w.setRow (N.az i) L) (.bu (l++b.data.toList) u) Z Z Z (by simp) (fun b hb=>by
      simp only[World.setRow,VZ]
      rw[be (fun e=>hb e.symm)]) (by
     refine .inr ⟨L,by simpa using w0,by rw[d1];simpa using q2,by rw[d1,p0,Vp,C,f0];omega,b0 L (fun j x D=>?_) i1⟩;rw[j1 j (by rw[<-C];exact(Vs.1 D).1)]
     exact q4 j x D)
    obtain⟨g1,g2⟩:=qJ (i:=i) hf h1 h2;refine⟨_,_,M,_,A _ _ B,g1,g2,?_⟩;have:=VR.sl (M:=M) (N:=N.with s.nx (N.az i) (N.ext i)) (U:=(· <s.nx+1)) s.nx 0 (len+b.size) 1 a0 (by omega) (by omega) d0 hc (by simpa using hext);simpa[tx]using this
   .have i0: ∀(j:Nat) (v:Value),(cur.toList.take len)[j]? =co v->w.cell? ((⟨N.az i,0,io⟩:Addr).add j)=co v:=by
     intro j v hv;rw[V8]at hv;split at hv
     .rw[cY,VL];simp only[World.cell?,q1];simpa using hv
     .cases hv
    have B:=Lib.run_append_grow_string (P:=P) w t tu o.type u ii (.int .u8 0) k0 j0 g0 s0 ⟨N.az i,0,io⟩ len a0 (cur.toList.take len) (by rw[r0];simp;omega) i0 b (by omega) (by omega)
     (by rw[q0];exact growslice_fits (by omega) (by omega))
    obtain⟨M',J,g1,g2,g3⟩:=Y (cur.toList.take len) (grownCap w (len+b.size) a0 u) (by simp;omega) (fun j x D=>by
      have:=q4 j x D;have t0:j<len:=by rw[<-C];exact(Vs.1 D).1
      rw[Vr,V8,am t0,VY]
      rw[Vn]at this;exact this) (grownCap_ge w _ _ _) (grownCap_le_maxLen w _ _ _ (by simp only[maxLen];omega)) (by omega) _ Z
    exact⟨_,_,M',J,A _ _ B,g1,g2,g3⟩
theorem Mp(J:bn P ty){all rest:List Oper}{o:Oper}{x y:Operand}{t tu u d:Nat}{e Y eu:bC}{i len:Nat}{l:List UInt8}{b:ByteArray}(ho:o.op= .call ⟨.builtin .append, #[x,y], #[t,tu]⟩)(hg:o.guard=io)(ht:ty t=co e)(hk:e.k= .aP (.slice u))(I:ty tu=co Y)(C:Y.k= .aP .string)(hu:ty u=co eu)
  (hx:ev s.f x= .sl i 0 len 1) (hi:s.h.get i=co (.bu l u)) (G:eu.size=1) (B:eu.bytes=1) (hz:eu.zero= .int .u8 0)
  (D:ev s.f y= .iv (.v (.string b))) (hd:o.dst=co d) (hlt:VV d nt=is) (j:l.length=len) (A:len+b.size<=140737488355328)
  (h:GO P nt (.ops all rest::k) Q ⟨(d,.sl s.nx 0 (l++b.data.toList).length 1)::s.f,(s.nx,co (.bu (l++b.data.toList) u))::(i,io)::s.h,s.nx+1⟩):GO P nt (.ops all (o::rest)::k) Q s:=by
 have e:(l++b.data.toList).length=len+b.size:=by rw[Vp,j];simp
 rw[e]at h
 exact bz hg (Ll J ho ht hk I C hu hx hi j G B hz D A (s':=⟨(d,.sl s.nx 0 (len+b.size) 1)::s.f,(s.nx,co (.bu (l++b.data.toList) u))::(i,io)::s.h,s.nx+1⟩) (by
  simp only[putDst,tx,hd,hlt,cond_true,dB])) fun t ht=>by subst ht;exact h
theorem GY{o:Oper}{G:Operand}(ho:o.op= .next G is){i:Nat}(I:ev s.f G= .ptr i 0){b:ByteArray}{a0:Nat}(hi:s.h.get i=co (.ef b a0)){d:Nat}(hd:o.dst=co d)(hlt:VV d nt=is):
  OT P nt o s (fun t=>(b.size<=a0∧t=⟨(d,.aZ [.kb jp])::s.f,s.h,s.nx⟩)∨
   (a0<b.size∧t=⟨(d,.aZ [.kb is,.iv (.v (.int .i64 (a0:Nat))),.iv (.v (.int .i32 (Utf8.decode b a0).1))])::s.f,(i,co (.ef b (a0+(Utf8.decode b a0).2)))::s.h,s.nx⟩)):=by
 intro M N a w hf K Z hk;have J:=aN hf.2.1 G;rw[I]at J;have A:w.heap[N.az i]? =co (.stringIter b a0):=hf.1.obj i _ hi;have B:N.az i<w.heap.size:=(WC.1 A).1;have C:d<nt:=Vm hlt;have D:a.eval G= .pointer (co ⟨N.az i,0,io⟩):=by
  generalize a.eval G=y at J;cases J;rfl
 unfold Oper.wp;by_cases u:a0<b.size
 .have x:(execOp a.eval o).run P w= .ok (.value (.tuple #[.bool is,.int .i64 (a0:Nat),.int .i32 (Utf8.decode b a0).1])) {w with heap:=w.heap.setIfInBounds (N.az i) (.stringIter b (a0+(Utf8.decode b a0).2))}:=by
   simp only[execOp,ho,D];simp[Instr.next,getObj,setObj,Sem.run,A,u,Result.andThen,goInt]
  rw[x];simp only[Oper.upon]
  obtain⟨q1,q2⟩:=hf.1.write hi rfl {w with heap:=w.heap.setIfInBounds (N.az i) (.stringIter b (a0+(Utf8.decode b a0).2))} (.ef b (a0+(Utf8.decode b a0).2)) rfl rfl rfl (by simp) (fun c Y=>by
   show(w.heap.setIfInBounds _ _)[c]? =_
   rw[V1,be (fun e=>Y e.symm)]) (by
   show(w.heap.setIfInBounds _ _)[_]? =_
   rw[V1,am rfl,am B])
  refine hk M N _ _ _ q1 ?_ (.inr ⟨u,rfl⟩);rw[hd];refine Fits.put (s:=⟨s.f,(i,co (.ef b (a0+(Utf8.decode b a0).2)))::s.h,s.nx⟩) ⟨q2,hf.2⟩ d _ _ C (.aZ _ _ rfl fun q p u=>?_)
  match q with
  |0=>simp at u;subst u;exact .kb _
  |1=>simp at u;subst u;exact .iv _ _ (.v _)
  |2=>simp at u;subst u;exact .iv _ _ (.v _)
  |q+3=>simp at u
 .have x:(execOp a.eval o).run P w= .ok (.value (.tuple #[.bool jp])) w:=by
   simp only[execOp,ho,D];simp[Instr.next,getObj,Sem.run,A,u,Result.andThen]
  rw[x];simp only[Oper.upon];refine hk M N ⟨(d,.aZ [.kb jp])::s.f,s.h,s.nx⟩ _ w (.refl _ _ _ _ _) ?_ (.inl ⟨by omega,rfl⟩);rw[hd]
  exact hf.put d _ _ C (.aZ _ _ rfl fun j p u=>by
    match j with
    |0=>simp at u;subst u;exact .kb _
    |j+1=>simp at u)
theorem lY{all rest:List Oper}{o:Oper}{u:Operand}{i:Nat}{b:ByteArray}{a0 d:Nat}(ho:o.op= .next u is)(hg:o.guard=io)(j:ev s.f u= .ptr i 0)(hi:s.h.get i=co (.ef b a0))(hd:o.dst=co d)(hlt:VV d nt=is)
  (h1:b.size<=a0->GO P nt (.ops all rest::k) Q ⟨(d,.aZ [.kb jp])::s.f,s.h,s.nx⟩)
  (x:a0<b.size->GO P nt (.ops all rest::k) Q ⟨(d,.aZ [.kb is,.iv (.v (.int .i64 (a0:Nat))),.iv (.v (.int .i32 (Utf8.decode b a0).1))])::s.f,(i,co (.ef b (a0+(Utf8.decode b a0).2)))::s.h,s.nx⟩):
  GO P nt (.ops all (o::rest)::k) Q s:=by
 refine bz hg (GY ho j hi hd hlt) fun t ht=>?_;rcases ht with⟨g1,rfl⟩|⟨g1,rfl⟩
 .exact h1 g1
 .exact x g1
theorem xG(y:bn P ty){all rest:List Oper}{o:Oper}{x:Operand}{t d:Nat}{b:ByteArray}{e:bC}(ho:o.op= .range t x)(hg:o.guard=io)(ht:ty t=co e)(hk:e.k= .aP .string)(G:ev s.f x= .iv (.v (.string b)))(hd:o.dst=co d)(hlt:VV d nt=is)
  (h:GO P nt (.ops all rest::k) Q ⟨(d,.ptr s.nx 0)::s.f,(s.nx,co (.ef b 0))::s.h,s.nx+1⟩):GO P nt (.ops all (o::rest)::k) Q s:=by
 have A:P.underlying t=co .string:=by
  have:=(y t _ ht).2.1;rw[hk]at this;exact this.1
 refine bz (R:=fun t=>t=⟨(d,.ptr s.nx 0)::s.f,(s.nx,co (.ef b 0))::s.h,s.nx+1⟩) hg (OT.value (s1:=newObj s (.ef b 0)) (p:= .ptr s.nx 0) (by cases s;simp only[putDst,newObj,hd,hlt,cond_true,dB]) fun M N a w hf=>?_) fun t ht=>by subst ht;exact h
 have j:=aN hf.2.1 x;rw[G]at j;have B:a.eval x= .string b:=by
  generalize a.eval x=v at j;cases j with
  |iv _ _ h=>cases h;rfl
 obtain⟨u,h1,I,J,C,D⟩:=hf.1.alloc (.stringIter b 0) (.ef b 0) 0 (fun u g1 g2 g3=>by
  show(w.alloc _).heap[u.az s.nx]? =_
  rw[g1];exact heap_alloc_new w _)
 refine⟨.pointer (co ⟨w.heap.size,0,io⟩),_,M,u,?_,C,dW hf C D,?_⟩
 .simp only[execOp,ho,B];simp[Instr.range,run_underlying A]
 .have:=VR.ptr (M:=M) (N:=u) (U:=(· <s.nx+1)) s.nx 0 (by omega);rw[h1]at this;exact this
end
section
variable {P:Program} {ty:Ty} {nt:NT} {s:AS} {Q:AQ} {k:List KI}
theorem oO(b0:bn P ty){all rest:List Oper}{o:Oper}{x:Operand}{t t' u d:Nat}{b:ByteArray}{et d0 eu:bC}(ho:o.op= .convert t t' x)(hg:o.guard=io)(ht:ty t=co et)(hk:et.k= .aP .string)(m0:ty t'=co d0)(i0:d0.k= .aP (.slice u))(hu:ty u=co eu)(j0:eu.k= .aP (.int .u8))
  (hx:ev s.f x= .iv (.v (.string b))) (hd:o.dst=co d) (hlt:VV d nt=is) (hb:b.size<=1000000000)
  (h:GO P nt (.ops all rest::k) Q ⟨(d,.iv (.bK 1 b.data.toList.length fun k=>aO (b.data.toList.getD k ci)))::s.f,s.h,s.nx⟩):GO P nt (.ops all (o::rest)::k) Q s:=by
 have hs:P.underlying t=co .string:=by have:=(b0 t _ ht).2.1;rw[hk]at this;exact this.1
 have k0:P.underlying t'=co (.slice u):=by have:=(b0 t' _ m0).2.1;rw[i0]at this;exact this.1
 have n0:P.underlying u=co (.int .u8):=by have:=(b0 u _ hu).2.1;rw[j0]at this;exact this.1
 refine bz (R:=fun t=>t=⟨(d,.iv (.bK 1 b.data.toList.length fun k=>aO (b.data.toList.getD k ci)))::s.f,s.h,s.nx⟩) hg (OT.value (s1:=s) (p:= .iv (.bK 1 b.data.toList.length fun k=>aO (b.data.toList.getD k ci))) (by cases s;simp only[putDst,hd,hlt,cond_true,dB]) fun M N a w hf=>?_) fun t ht=>by subst ht;exact h
 have c0:=aN hf.2.1 x;rw[hx]at c0;have o0:a.eval x= .string b:=by
  generalize a.eval x=v at c0;cases c0 with
  |iv _ _ h=>cases h;rfl
 have J:=Go.run_bytes_of_string (P:=P) w t t' u b hs k0 n0;generalize hC:bytesRow b (grownCap w b.size 0 u)=C at J;have B:M w.heap.size=io:=by
  cases hm:M w.heap.size with
  |none=>rfl
  |some c=>exact absurd (hf.1.dA _ _ hm).lt (Yn _)
 have D: ∀c,c<w.heap.size->(w.drew.alloc (.cells C u (C.size,C.size+1))).heap[c]? =w.heap[c]? :=fun c A=>by
  show(w.heap.push _)[c]? =_;rw[XF,be (by omega)]
 have hnew:(w.drew.alloc (.cells C u (C.size,C.size+1))).heap[w.heap.size]? =co (.cells C u (C.size,C.size+1)):=by
  show(w.heap.push _)[w.heap.size]? =_;simp
 have e0: ∀j,j<b.data.toList.length->C[j]? =co (.int .u8 ((b.data.toList.getD j ci).toNat:Int)):=by
  intro j hj;have Y:j<b.data.size:=by simpa using hj
  rw[<-hC];simp only[bytesRow];rw[V3 (by simpa using Y)];simp[Vr];exact⟨b.data[j],V6 Y,by rw[V6 Y];rfl⟩
 have G:=grownCap_ge w b.size 0 u;refine⟨.slice (co ⟨w.heap.size,0,io⟩) b.size (grownCap w b.size 0 u),w.drew.alloc (.cells C u (C.size,C.size+1)),M.set w.heap.size (.cells C) B,N,?_,?_,?_,?_⟩
 .simp only[execOp,ho,o0];rw[Sem.run_bind,J];rfl
 .have q1:M.le (M.set w.heap.size (.cells C) B):=fun c e A=>by
   simp only[Mem.set];rw[be fun e2=>by rw[e2,B]at A;cases A];exact A
  have q2: ∀c e,M c=io->(M.set w.heap.size (.cells C) B) c=co e->w.heap.size<=c∨ ∃i o,s.h.get i=co o∧o.real=is∧N.az i=c:=fun c e h1 h2=>by
   simp only[Mem.set]at h2;by_cases he:c=w.heap.size
   .exact .inl (by omega)
   .rw[be he,h1]at h2;cases h2
  exact⟨rfl,rfl,⟨rfl,Xx _⟩,(by show w.heap.size<=(w.heap.push _).size;simp),fun c A _=>D c A,q1,q2,.refl _ _,fun _ h=>h,fun i o I y=> .inr ⟨i,o,I,y,rfl⟩⟩
 .have f0:M.le (M.set w.heap.size (.cells C) B):=fun c e A=>by
   simp only[Mem.set];rw[be fun e2=>by rw[e2,B]at A;cases A];exact A
  refine⟨⟨fun c e A=>?_,hf.1.used,fun i o I y=>?_,fun i o I=>?_,hf.1.inj⟩,fun i=>(hf.2.1 i).mono f0 (.refl _ _) fun _ h=>h,hf.2.2⟩
  .simp only[Mem.set]at A;by_cases he:c=w.heap.size
   .rw[am he]at A;cases A;exact⟨u,(C.size,C.size+1),by rw[he];exact hnew⟩
   .rw[be he]at A;exact(hf.1.dA c e A).mono (D c (hf.1.dA c e A).lt)
  .simp only[Mem.set];have:=hf.1.lt I y;rw[be (by omega)];exact hf.1.dG i o I y
  .cases y:o.real with
   |true=>exact(hf.1.obj i o I).mono f0 (.refl _ _) (fun _ h=>h) (hf.1.used i o I) (D _ (hf.1.lt I y))
   |false=>
    cases o with
    |row sz es=>cases es with
     |nil=>exact .inl Z
     |cons=>cases y
    |bu l T=>cases l with
     |nil=>exact .inl Z
     |cons=>cases y
    |_=>cases y
 .have g0:b.data.toList.length=b.size:=by simp
  rw[<-g0]at G ⊢;by_cases h0:b.data.toList.length=0
  .rw[h0];exact .iv _ _ (.fz _ _ _ _)
  .refine .iv _ _ (.bK _ _ _ _ _ _ (by omega) (grownCap_le_maxLen w _ _ _ (by simp only[maxLen];omega)) (fun _ _=>rfl) (fun k j hk hj=>?_) (fun k j p hk hp=>?_))
   .have a0:j=0:=by omega
    subst a0;have:=e0 k hk;simp only[Mem.cell,Mem.set,if_true,VL,XT,WZ,this,Option.isSome_some]
   .have a0:j=0:=by
     have:=(Vs.1 hp).1;simp[aO]at this;exact this
    subst a0;cases hp;have:=e0 k hk;simp only[Mem.cell,Mem.set,if_true,VL,XT,WZ,this,Wv];exact .v _
theorem Mx(C:bn P ty)(l:List UInt8){all rest:List Oper}{o:Oper}{x:Operand}{t D u d i n:Nat}{es:List (List PV)}{et I eu:bC}(ho:o.op= .convert t D x)(hg:o.guard=io)(ht:ty t=co et)(hk:et.k= .aP (.slice u))(i0:ty D=co I)(e0:I.k= .aP .string)(hu:ty u=co eu)(f0:eu.k= .aP (.int .u8))
  (hx:ev s.f x= .sl i 0 n 1) (hi:s.h.get i=co (.row 1 es)) (hd:o.dst=co d) (hlt:VV d nt=is) (hes:es=l.map fun x=>(aO x).map .iv) (hn:n=l.length)
  (h:GO P nt (.ops all rest::k) Q ⟨(d,.iv (.v (.string ⟨l.toArray⟩)))::s.f,s.h,s.nx⟩):GO P nt (.ops all (o::rest)::k) Q s:=by
 have hs:P.underlying D=co .string:=by have:=(C D _ i0).2.1;rw[e0]at this;exact this.1
 have b0:P.underlying t=co (.slice u):=by have:=(C t _ ht).2.1;rw[hk]at this;exact this.1
 have c0:P.underlying u=co (.int .u8):=by have:=(C u _ hu).2.1;rw[f0]at this;exact this.1
 subst hn;subst hes;refine bz (R:=fun t=>t=⟨(d,.iv (.v (.string ⟨l.toArray⟩)))::s.f,s.h,s.nx⟩) hg (OT.value (s1:=s) (p:= .iv (.v (.string ⟨l.toArray⟩))) (by cases s;simp only[putDst,hd,hlt,cond_true,dB]) fun M N a w hf=>?_) fun t ht=>by subst ht;exact h
 have A:=aN hf.2.1 x;rw[hx]at A;have a0:(convert t D (a.eval x)).run P w= .ok (.string ⟨l.toArray⟩) w:=by
  generalize a.eval x=v at A;cases hor:l with
  |nil=>
   rw[hor]at A;generalize G:PV.sl i 0 ([]:List UInt8).length 1=q at A;cases A with
   |sl _ _ _ _ _ _ h0=>cases G;simp at h0
   |kP _ _ _=>
    have:=run_convert_bytes_nil (P:=P) w t u b0 c0 0 0 D hs;exact this
   |_=>cases G
  |cons x0 r0=>
   rw[<-hor];have Y:0<l.length:=by rw[hor];simp
   generalize g0:l.length=n at A Y;generalize G:PV.sl i 0 n 1=q at A;cases A with
   |sl _ _ _ _ cap hU h0 hl hc he=>
    cases G;rcases hf.1.obj i _ hi with B|⟨_,c,T,q1,q2,q3,q4,q5⟩
    .rw[hor]at B;cases B
    rw[W0,<-g0];refine run_convert_bytes_back (P:=P) w t D u ⟨N.az i,0,io⟩ cap l b0 c0 hs fun j hj=>?_;rw[cY,VL];have J:j<c.size:=by rw[VS]at q3;omega
    have:=q5 j [.iv (.v (.int .u8 (l[j].toNat:Int)))] 0 _ (by rw[Vv,Vt hj];rfl) Z;rw[XT,WZ,Vn,V6 J,Wv]at this;simp only[World.cell?,q1];generalize d0:c[j]=y at this;cases this with
    |iv _ _ h=>cases h;simp[J,d0]
   |kP _ _ _=>cases G;omega
   |_=>cases G
 exact⟨_,w,M,N,by simp only[execOp,ho];exact aW a0,.refl _ _ _ _ _,hf,.iv _ _ (.v _)⟩
theorem ua(y:bn P ty){all rest:List Oper}{o:Oper}{x:Operand}{t A d:Nat}{q I:IntKind}{n:Int}{G u:bC}(ho:o.op= .convert t A x)(hg:o.guard=io)(ht:ty t=co G)(hk:G.k= .aP (.int q))(C:ty A=co u)(B:u.k= .aP .string)
  (Y:ev s.f x= .iv (.v (.int I n))) (hd:o.dst=co d) (hlt:VV d nt=is)
  (h:GO P nt (.ops all rest::k) Q ⟨(d,.iv (.v (.string (Utf8.encode n))))::s.f,s.h,s.nx⟩):GO P nt (.ops all (o::rest)::k) Q s:=by
 have hs:P.underlying A=co .string:=by have:=(y A _ C).2.1;rw[B]at this;exact this.1
 have J:P.underlying t=co (.int q):=by have:=(y t _ ht).2.1;rw[hk]at this;exact this.1
 refine bz (R:=fun t=>t=⟨(d,.iv (.v (.string (Utf8.encode n))))::s.f,s.h,s.nx⟩) hg (OT.value (s1:=s) (p:= .iv (.v (.string (Utf8.encode n)))) (by cases s;simp only[putDst,hd,hlt,cond_true,dB]) fun M N a w hf=>?_) fun t ht=>by subst ht;exact h
 have j:=aN hf.2.1 x;rw[Y]at j;have D:a.eval x= .int I n:=by
  generalize a.eval x=v at j;cases j with
  |iv _ _ h=>cases h;rfl
 refine⟨_,w,M,N,?_,.refl _ _ _ _ _,hf,.iv _ _ (.v _)⟩;simp only[execOp,ho,D];refine aW ?_;simp[convert,run_underlying J,run_underlying hs,Conv.intToString]
end
def b8{kc:KC}{V:Type}(key:V->kc.K)(m:List (kc.K×V))(S:List V):Prop:= ∃T:List V,T.Perm S∧m=T.map fun v=>(key v,v)
section
variable {kc:KC} {V:Type} {key:V->kc.K}
theorem Ih(T:List V)(f:V)(j: ∀u∈T,key u=key f->u=f):dr kc (T.map fun v=>(key v,v)) (key f)=is↔f∈T:=by
 induction T with
 |nil=>simp[dr]
 |cons v r ih=>
  simp only[Vy,dr];have x:=ih fun u hu=>j u (VE _ hu);by_cases e:key v=key f
  .have:=j v (VG ..) e;subst this;simp
  .rw[be e,x,VH];exact⟨.inr,fun q=>q.resolve_left fun q=>e (by rw[q])⟩
theorem yB(T:List V)(f:V)(hn: ∀u∈T,key u≠key f):cJ kc (T.map fun v=>(key v,v)) (key f) f=(T++ [f]).map fun v=>(key v,v):=by
 induction T with
 |nil=>rfl
 |cons v r ih=>
  simp only[Vy,cJ,VT];rw[be (hn v (VG ..)),ih fun u hu=>hn u (VE _ hu)]
theorem IU[DecidableEq V](T:List V)(f:V)(j: ∀u∈T,key u=key f->u=f):kL kc (T.map fun v=>(key v,v)) (key f)=(T.erase f).map fun v=>(key v,v):=by
 induction T with
 |nil=>rfl
 |cons v r ih=>
  simp only[Vy,kL];by_cases e:key v=key f
  .have:=j v (VG ..) e;subst this;rw[am Z,List.erase_cons_head]
  .have x: ¬v=f:=fun q=>e (by rw[q])
   rw[be e,ih fun u hu=>j u (VE _ hu),List.erase_cons_tail (by simpa using x),Vy]
theorem b8.perm{m:List (kc.K×V)}{S j:List V}(h:b8 key m S)(p:S.Perm j):b8 key m j:=by
 obtain⟨T,h1,u⟩:=h;exact⟨T,h1.trans p,u⟩
theorem b8.nil:b8 key ([]:List (kc.K×V)) []:=⟨[],.nil,rfl⟩
theorem b8.len{m:List (kc.K×V)}{S:List V}(h:b8 key m S):m.length=S.length:=by
 obtain⟨T,h1,rfl⟩:=h;rw[VS,h1.length_eq]
theorem b8.has{m:List (kc.K×V)}{S:List V}(h:b8 key m S){f:V}(j: ∀u∈S,key u=key f->u=f):dr kc m (key f)=is↔f∈S:=by
 obtain⟨T,h1,rfl⟩:=h;rw[Ih T f fun u hu=>j u (h1.mem_iff.1 hu),h1.mem_iff]
theorem b8.put{m:List (kc.K×V)}{S:List V}(h:b8 key m S){f:V}(j: ∀u∈S,key u=key f->u=f)(hf:f∉S):b8 key (cJ kc m (key f) f) (f::S):=by
 obtain⟨T,h1,rfl⟩:=h;refine⟨T++ [f],?_,yB T f fun u hu e=>hf (j u (h1.mem_iff.1 hu) e▸h1.mem_iff.1 hu)⟩;exact(List.perm_append_comm).trans ((List.Perm.cons f h1))
theorem b8.del[DecidableEq V]{m:List (kc.K×V)}{S:List V}(h:b8 key m S){f:V}(j: ∀u∈S,key u=key f->u=f):b8 key (kL kc m (key f)) (S.erase f):=by
 obtain⟨T,h1,rfl⟩:=h;exact⟨T.erase f,h1.erase f,IU T f fun u hu=>j u (h1.mem_iff.1 hu)⟩
theorem b8.zt{m:List (kc.K×V)}{S:List V}(h:b8 key m S):(m.map (·.2)).Perm S:=by
 obtain⟨T,h1,rfl⟩:=h;rw[Wx];show(T.map id).Perm S;rw[List.map_id];exact h1
end
section
variable {P:Program} {ty:Ty} {nt:NT} {Q:AQ} {k:List KI} {s:AS}
theorem MG{o:Oper}{g:FuncId}{x y:Operand}{ts:Array TypeId}{j u v:Value}(ho:o.op= .call ⟨.value (.func g), #[x,y],ts⟩)(D:ev s.f x= .iv (.v j))(G:ev s.f y= .iv (.v u))
  (hc: ∀w,(callFunc g #[j,u]).run P w= .ok (.value v) w) {s':AS} (hp:putDst nt o (.iv (.v v)) s=co s'):OT P nt o s fun t=>t=s':=by
 refine OT.value hp fun M N a w hf=>⟨v,w,M,N,?_,.refl _ _ _ _ _,hf,.iv _ _ (.v _)⟩
 have h1:=aN hf.2.1 x;have A:=aN hf.2.1 y;rw[D]at h1;rw[G]at A;have B:a.eval x=j:=by
  generalize a.eval x=z at h1;cases h1 with
  |iv _ _ h=>cases h;rfl
 have C:a.eval y=u:=by
  generalize a.eval y=z at A;cases A with
  |iv _ _ h=>cases h;rfl
 simp only[execOp,ho,resolve,Act.eval,Deferred.ofValue,pure_bind,invoke];have: #[]++Array.map a.eval #[x,y]++ #[]= #[j,u]:=by simp[B,C]
 first
  |(rw[this];exact hc w)
  |(simp only[Act.eval] at*;simpa[B,C]using hc w)
theorem Ms{all rest:List Oper}{o:Oper}{g:FuncId}{x y:Operand}{ts:Array TypeId}{j u:Value}(v:Value)(ho:o.op= .call ⟨.value (.func g), #[x,y],ts⟩)(hg:o.guard=io)(A:ev s.f x= .iv (.v j))(B:ev s.f y= .iv (.v u))
  (hc: ∀w,(callFunc g #[j,u]).run P w= .ok (.value v) w) {s':AS} (hp:putDst nt o (.iv (.v v)) s=co s') (h:GO P nt (.ops all rest::k) Q s'):GO P nt (.ops all (o::rest)::k) Q s:=
 bz hg (MG ho A B hc hp) fun t ht=>by subst ht;exact h
end
theorem HG(i sz n:Nat): ∀l:List IV,a8 i sz n (l.map .iv)
 | []=>trivial
 |_::r=>⟨ac,HG i sz n r⟩
theorem DW{α:Type}(i sz n u:Nat)(l:List α)(f:α->List IV):(aV u l f).lO i sz n:=by
 intro k e j p A B;rw[Vv,Vw]at A;obtain⟨x,_,rfl⟩:=A;rw[Vv,Vw]at B;obtain⟨y,_,rfl⟩:=B;exact⟨y,rfl⟩
section
variable {P:Program} {ty:Ty} {nt:NT} {s:AS}
theorem qi{M:Mem}{N:Nm}{a:Act}{w:World}(hf:Fits M N s nt a w){x:Operand}{k:IntKind}{n:Int}(h:ev s.f x= .iv (.v (.int k n))):a.eval x= .int k n:=by
 have j:=aN hf.2.1 x;rw[h]at j;generalize a.eval x=v at j;cases j with
 |iv _ _ j=>cases j with
  |v=>rfl
theorem Tk(D:bn P ty){o:Oper}{t u:TypeId}{l c:Operand}(ho:o.op= .makeSlice t l c){e eu:bC}(ht:ty t=co e)(hk:e.k= .aP (.slice u))(hu:ty u=co eu)
  {n m sz:Nat} {kl kc:IntKind} {ml nc:Int} (hl:ev s.f l= .iv (.v (.int kl ml))) (hc:ev s.f c= .iv (.v (.int kc nc))) (i0:ml=(m:Int)) (j0:nc=(n:Int)) (hn:0<n) (q0:n<=100000000000) (hb:eu.bytes*n<=281474976710656) (n0:eu.size=sz) (G:eu.zero.cells.size=sz) (m0:0<sz)
  {z:List PV} (hz:z=b4 eu.zero) {p:PV} (C:(m=0∧p= .sl s.nx 1 0 sz)∨(m=n∧p= .sl s.nx 0 n sz))
  {s':AS} (hp:putDst nt o p (newObj s (.row sz (XU n z)))=co s'):OT P nt o s (fun t=>t=s'):=by
 refine OT.value hp fun M N a w hf=>?_;subst hz n0 i0 j0;obtain⟨⟨ii,b0,c0,a0,d0⟩,_⟩:=D u _ hu
 have o0:P.underlying t=co (.slice u):=by
  have:=(D t _ ht).2.1;rw[hk]at this;exact this.1
 have p0:m<=n:=by rcases C with⟨h,_⟩|⟨h,_⟩<;>omega
 have B:=run_make w t u ii eu.zero o0 b0 d0 kl kc (m:Int) (n:Int) (by omega) (by omega) (by rw[a0];omega) (by omega);rw[Vu,Vu,c0]at B;have I:(b4 eu.zero).length=eu.size:=by rw[(fo (M:=M) (N:=N) (U:=(· <s.nx)) eu.zero).1,G]
 have A: ∀(k:Nat) (e:List PV),(XU n (b4 eu.zero))[k]? =co e->k<n∧e=b4 eu.zero:=by
  intro k e x;rw[List.getElem?_replicate]at x;split at x
  .exact⟨by assumption,by simpa using x.symm⟩
  .cases x
 obtain⟨J,h1,h2,h8,h9,Y⟩:=hf.1.alloc (.cells (madeCells eu.zero.cells (n*eu.size)) u) (.row eu.size (XU n (b4 eu.zero))) (n*eu.size) (fun J g1 g2 g3=>
  .inr ⟨m0,_,u,by rw[g1];exact heap_alloc_new w _,by rw[size_madeCells,g2],by rw[size_madeCells,List.length_replicate];exact VA _,fun k e x=>by rw[(A k e x).2,I],fun k e j p x hj=>by
   obtain⟨f0,rfl⟩:=A k e x;have e0:j<eu.size:=by rw[<-I];exact(Vs.1 hj).1
   have g0:k*eu.size+j<n*eu.size:=by
    have:(k+1)*eu.size<=n*eu.size:=VO _ f0;rw[Wg]at this;omega
   have h7:(madeCells eu.zero.cells (n*eu.size)).getD (k*eu.size+j) undef=eu.zero.cells.getD j undef:=by
    have hx:(Yu (n*eu.size))[k*eu.size+j]? =co (k*eu.size+j):=by simp[g0]
    have hm:(k*eu.size+j) % eu.zero.cells.size=j:=by rw[G,Nat.add_comm,Nat.add_mul_mod_self_right,XH e0]
    rw[madeCells,Vn,X6,hx];simp only[Ww,Wv,hm];rw[Vn,getElem!_pos eu.zero.cells j (by omega),V6 (by omega)];rfl
   rw[h7];exact(fo eu.zero).2 j p hj⟩)
 refine⟨.slice (co ⟨w.heap.size,0,io⟩) m n,_,M,J,?_,h9,dW hf h9 Y,?_⟩
 .simp only[execOp,ho,qi hf hl,qi hf hc];rw[Sem.run_bind,B];rfl
 .have k0:(newObj s (.row eu.size (XU n (b4 eu.zero)))).nx=s.nx+1:=by cases s;rfl
  rw[k0];have y:n<=maxLen:=by simp only[maxLen];omega
  rcases C with⟨rfl,rfl⟩|⟨rfl,rfl⟩
  .have:=VR.sle (M:=M) (N:=J) (U:=(· <s.nx+1)) s.nx eu.size n (by omega) y (by rw[h2]);rw[h1]at this;exact this
  .have:=VR.sl (M:=M) (N:=J) (U:=(· <s.nx+1)) s.nx 0 m eu.size m (by omega) hn (VA _) y (by rw[h2,VL]);rw[h1,W0]at this;exact this
theorem QJ(x:bn P ty){o:Oper}{t u:TypeId}{l c:Operand}(ho:o.op= .makeSlice t l c){e eu:bC}(ht:ty t=co e)(hk:e.k= .aP (.slice u))(hu:ty u=co eu)
  {sz:Nat} (el:Nat->List IV) {kl kc:IntKind} {ml nc:Int} (hl:ev s.f l= .iv (.v (.int kl ml))) (hc:ev s.f c= .iv (.v (.int kc nc))) (C:ml=0) (D:nc=0)
  {s':AS} (hp:putDst nt o (.iv (.bK sz 0 el)) (newObj s (.row sz []))=co s'):OT P nt o s (fun t=>t=s'):=by
 refine OT.value hp fun M N a w hf=>?_;subst C D;obtain⟨⟨Y,A,b0,a0,B⟩,_⟩:=x u _ hu
 have G:P.underlying t=co (.slice u):=by
  have:=(x t _ ht).2.1;rw[hk]at this;exact this.1
 have j:=run_make w t u Y eu.zero G A B kl kc 0 0 (by omega) (by omega) (by omega) (by omega);obtain⟨I,h1,h2,h8,J,y⟩:=hf.1.alloc (.cells (madeCells eu.zero.cells ((0:Int).toNat*Y.size)) u) (.row sz []) 0 (fun I g1 g2 g3=> .inl Z);refine⟨.slice (co ⟨w.heap.size,0,io⟩) 0 0,_,M,I,?_,J,dW hf J y,.iv _ _ (.fz _ _ _ _)⟩;simp only[execOp,ho,qi hf hl,qi hf hc];rw[Sem.run_bind,j];rfl
theorem Rj(C:bn P ty){o:Oper}{t u:TypeId}{x hi:Operand}(ho:o.op= .slice t x io (co hi) io){e eu:bC}(ht:ty t=co e)(hk:e.k= .aP (.slice u))(hu:ty u=co eu)
  {i n m sz:Nat} {kc:IntKind} {I:Int} (hx:ev s.f x= .sl i 0 n sz) (hh:ev s.f hi= .iv (.v (.int kc I))) (D:I=(m:Int)) (Y:m<=n) (hn:0<n)
  {p:PV} (G:(m=0∧p= .sl i 1 0 sz)∨(0<m∧p= .sl i 0 m sz)) {s':AS} (hp:putDst nt o p s=co s'):OT P nt o s (fun t=>t=s'):=by
 refine OT.value hp fun M N a w hf=>?_;subst D
 have A:P.underlying t=co (.slice u):=by
  have:=(C t _ ht).2.1;rw[hk]at this;exact this.1
 have y:P.elem t=u:=by simp[Program.elem,A]
 have B:=aN hf.2.1 x;rw[hx]at B;generalize hv:a.eval x=vx at B;cases B with
 |kP=>omega
 |sl _ _ _ _ cap hU h0 hl hc hext=>
  have j:=run_slice_h (P:=P) (w:=w) t (co ⟨N.az i,0*sz,io⟩) n cap (by rw[y];exact A) kc (m:Int) (by omega) (by omega);rw[y,aQ (C u _ hu)]at j;refine⟨sliced (co ⟨N.az i,0*sz,io⟩) 0 m cap eu.size,w,M,N,?_,.refl _ _ _ _ _,hf,?_⟩
  .simp only[execOp,ho,hv,Ww,Xu,qi hf hh];refine aW ?_;rw[run_sliceAt_slice w t _ _ _ _ (by rw[y];exact A),j];rfl
  .rcases G with⟨rfl,rfl⟩|⟨J,rfl⟩
   .have:=VR.sle (M:=M) (N:=N) (U:=(· <s.nx)) i sz cap hU hc (by rw[<-hext,VL]);simpa[sliced,Addr.add]using this
   .have:=VR.sl (M:=M) (N:=N) (U:=(· <s.nx)) i 0 m sz cap hU J (by omega) hc hext;simpa[sliced,Addr.add]using this
theorem M9(j0:bn P ty){o:Oper}{x y:Operand}{t u:TypeId}(ho:o.op= .call ⟨.builtin .append, #[x,y], #[t,t]⟩){e eu:bC}(ht:ty t=co e)(hk:e.k= .aP (.slice u))(hu:ty u=co eu)
  {i sz:Nat} {es news:List (List PV)} {py:PV} (hx:ev s.f x= .sl i 1 0 sz) (hi:s.h.get i=co (.row sz es)) (x0:eu.size=sz) (b0:news.length<=es.length) (hm:0<news.length)
  (w0:ev s.f y=py) (hy:Src s.h sz py news) (e0: ∀e∈news,dt e=is)
  {s':AS} (hp:putDst nt o (.sl s.nx 0 news.length sz) (ir s i sz [] news)=co s'):OT P nt o s (fun t=>t=s'):=by
 refine OT.value hp fun M N a w hf=>?_;subst x0;obtain⟨⟨ii,r0,d0,e1,f1⟩,_⟩:=j0 u _ hu
 have z0:P.underlying t=co (.slice u):=by
  have:=(j0 t _ ht).2.1;rw[hk]at this;exact this.1
 have g0:=aN hf.2.1 x;rw[hx]at g0;have n0:=aN hf.2.1 y;rw[w0]at n0;obtain⟨G,ao,c,b1,Y⟩:=hy.ok hf n0;have B: ∀v w',(Builtin.append_ #[t,t] o.type #[a.eval x,a.eval y]).run P w= .ok v w'->(execOp a.eval o).run P w= .ok (.value v) w':=by
  intro v w' h;simp only[execOp,ho,resolve];simp[invoke,builtin,h]
 rw[b1]at B;have I:(AO.row eu.size es).real=is:=by cases es with
  |nil=>exact absurd b0 (by simp only[WH];omega)
  |cons=>rfl
 rcases hf.1.obj i _ hi with rfl|⟨hsz0,cur,T,q1,q2,q3,q4,q5⟩
 .cases I
 generalize a.eval x=vx at g0 B;cases g0 with
 |sl _ _ _ _ _ _ h0=>exact absurd h0 (Yn _)
 |sle _ _ cap hU hc hext=>
  have D:cur.size=cap*eu.size:=by rw[q2,<-hext]
  have A:news.length<=cap:=by
   have:es.length*eu.size<=cap*eu.size:=by rw[<-D];exact q3
   have:=Nat.le_of_mul_le_mul_right this hsz0;omega
  obtain⟨b2,d1,p0,a0⟩:=Y (List.ne_nil_of_length_pos hm);subst p0;obtain⟨vs,k0,a1,m0⟩:=kN (s:=s) a0;have J:vs.length=news.length*eu.size:=by rw[k0,fi G]
  have q0:vs.length<=cur.size:=by rw[J,D];exact VO _ A
  have c0: ∀v∈vs,v.oneCell'=is:=by
   intro v hv;obtain⟨j,hj⟩:=Wh hv;have s0:j<news.flatten.length:=by rw[<-k0];exact(Vs.1 hj).1
   have hp:=Vt s0;obtain⟨k,e,i',h1,h2,_⟩:=js G j _ hp;have:=(m0 j _ hp).one (gk (e0 e (V2 h1)) i' _ h2);rw[Vr,hj]at this;exact this
  have C:=iQ (P:=P) (w:=w) t o.type u ii z0 r0 T (N.az i) 0 cap cur q1 ⟨b2,d1,io⟩ news.length c vs (by rw[J,d0]) a1 c0 (by omega) (by rw[d0];omega);rw[d0]at C;generalize hL:(cur.toList.take (0*eu.size)++vs++cur.toList.drop (0*eu.size+vs.length)).toArray=L at C;rw[VL]at C;have i0:L.size=cur.size:=by rw[<-hL];simp;omega
  have f0:=setRow_heap w (N.az i) cur L T (0,0) q1;have o0: ∀j,j<vs.length->L.getD j undef=vs.getD j undef:=by
   intro j hj;rw[<-hL,Vn,Vr];simp only[Wd];rw[VJ (by simp;omega),VK (by simp)];simp
  obtain⟨h1,h2⟩:=hf.1.move hi I (w.setRow (N.az i) L) (.row eu.size ([]++news)) Z Z Z (by simp) (fun b hb=>by
    simp only[World.setRow,VZ]
    rw[be (fun e=>hb e.symm)]) (by
   refine .inr ⟨hsz0,L,T,by simpa using f0,by rw[i0];simpa using q2,by rw[i0,D];exact VO _ A,fun k e he=>G _ e he,fun k e j p he hj=>?_⟩;have i1:j<eu.size:=by rw[<-G _ e he];exact(Vs.1 hj).1
   have t0:k<news.length:=(Vs.1 he).1;have v0:k*eu.size+j<vs.length:=by
    rw[J];have:(k+1)*eu.size<=news.length*eu.size:=VO _ t0;rw[Wg]at this;omega
   rw[o0 _ v0]
   exact(m0 _ p (jr G _ e j p he hj)).mono (.refl _) (N.dm _ _ _) (fun i hi=>by omega))
  obtain⟨g1,g2⟩:=iJ (es:=[]) (news:=news) (i:=i) hf h1 h2;refine⟨_,_,M,_,B _ _ C,g1,g2,?_⟩;have:=VR.sl (M:=M) (N:=N.with s.nx (N.az i) (N.ext i)) (U:=(· <s.nx+1)) s.nx 0 news.length eu.size cap (by omega) hm A hc (by simpa using hext);rw[gI];simpa using this
section
variable {Q:AQ} {k:List KI} {all rest:List Oper} {o:Oper} {s':AS}
theorem Io(C:bn P ty){t u:TypeId}{l c:Operand}(n m:Nat)(hg:o.guard=io)(ho:o.op= .makeSlice t l c){e eu:bC}(ht:ty t=co e)(hk:e.k= .aP (.slice u))(hu:ty u=co eu)
  {J kc:IntKind} {G nc:Int} (hl:ev s.f l= .iv (.v (.int J G))) (hc:ev s.f c= .iv (.v (.int kc nc))) (j:G=(m:Int)) (y:nc=(n:Int)) (hn:0<n) (x:n<=100000000000) (hb:eu.bytes*n<=281474976710656) (D:eu.zero.cells.size=eu.size) (B:0<eu.size)
  {z:List PV} (I:z=b4 eu.zero) {p:PV} (A:(m=0∧p= .sl s.nx 1 0 eu.size)∨(m=n∧p= .sl s.nx 0 n eu.size))
  (hp:putDst nt o p (newObj s (.row eu.size (XU n z)))=co s') (h:GO P nt (.ops all rest::k) Q s'):GO P nt (.ops all (o::rest)::k) Q s:=
 bz hg (Tk C ho ht hk hu hl hc j y hn x hb Z D B I A hp) fun t ht=>by subst ht;exact h
theorem Im(y:bn P ty){t u:TypeId}{l c:Operand}(sz:Nat)(el:Nat->List IV)(hg:o.guard=io)(ho:o.op= .makeSlice t l c){e eu:bC}(ht:ty t=co e)(hk:e.k= .aP (.slice u))(hu:ty u=co eu)
  {B kc:IntKind} {A nc:Int} (hl:ev s.f l= .iv (.v (.int B A))) (hc:ev s.f c= .iv (.v (.int kc nc))) (j:A=0) (x:nc=0)
  (hp:putDst nt o (.iv (.bK sz 0 el)) (newObj s (.row sz []))=co s') (h:GO P nt (.ops all rest::k) Q s'):GO P nt (.ops all (o::rest)::k) Q s:=
 bz hg (QJ y ho ht hk hu el hl hc j x hp) fun t ht=>by subst ht;exact h
theorem yZ(B:bn P ty){t u:TypeId}{x hi:Operand}{i n sz:Nat}(m:Nat)(hg:o.guard=io)(ho:o.op= .slice t x io (co hi) io){e eu:bC}(ht:ty t=co e)(hk:e.k= .aP (.slice u))(hu:ty u=co eu)
  {kc:IntKind} {C:Int} (D:ev s.f x= .sl i 0 n sz) (hh:ev s.f hi= .iv (.v (.int kc C))) (j:C=(m:Int)) (y:m<=n) (hn:0<n)
  {p:PV} (A:(m=0∧p= .sl i 1 0 sz)∨(0<m∧p= .sl i 0 m sz)) (hp:putDst nt o p s=co s') (h:GO P nt (.ops all rest::k) Q s'):GO P nt (.ops all (o::rest)::k) Q s:=
 bz hg (Rj B ho ht hk hu D hh j y hn A hp) fun t ht=>by subst ht;exact h
theorem y0(C:bn P ty){x y:Operand}{t u:TypeId}(hg:o.guard=io)(ho:o.op= .call ⟨.builtin .append, #[x,y], #[t,t]⟩){e eu:bC}(ht:ty t=co e)(hk:e.k= .aP (.slice u))(hu:ty u=co eu)
  {i:Nat} {es news:List (List PV)} {py:PV} (D:ev s.f x= .sl i 1 0 eu.size) (hi:s.h.get i=co (.row eu.size es))
  (B:ev s.f y=py) (G:wo s.h eu.size py=co news) (j:news.length<=es.length) (hm:0<news.length) (A: ∀e∈news,dt e=is)
  (hp:putDst nt o (.sl s.nx 0 news.length eu.size) (ir s i eu.size [] news)=co s') (h:GO P nt (.ops all rest::k) Q s'):GO P nt (.ops all (o::rest)::k) Q s:=
 bz hg (M9 C ho ht hk hu D hi Z j hm B (gG G) A hp) fun t ht=>by subst ht;exact h
end
section
variable {Q:AQ} {k:List KI} {all rest:List Oper} {o:Oper} {s':AS}
end
end
theorem eJ.take{sz n:Nat}{es:List (List PV)}:eJ (.row sz es) (.row sz (es.take n)):=by
 refine⟨fun h=>?_,fun M N U w i h=>?_⟩
 .cases es with
  |nil=>rw[List.take_nil]at h;exact h
  |cons=>rfl
 .rcases h with h|⟨x,c,T,h1,y,A,B,C⟩
  .exact .inl (by rw[h,List.take_nil])
  .refine .inr ⟨x,c,T,h1,y,Wr (VO _ (by rw[V7];omega)) A,fun k e u=>?_,fun k e j p u D=>?_⟩
   .rw[V8]at u;split at u
    .exact B k e u
    .cases u
   .rw[V8]at u;split at u
    .exact C k e j p u D
    .cases u
theorem kY{P:Program}{nt:NT}{Q:AQ}{k:List KI}{s:AS}{body:Code}{σ:Type}(i0 n:Nat)(y:i0<=n)(I:Nat->σ->AS)(J:Nat->σ->Prop)(A:σ)(B:List Nat)(D:J i0 A)(h0:Wk s.nx B s (I i0 A))
  (j: ∀i x,i<=n->J i x->GO P nt (.code body:: .lp (fun t=>i<n∧ ∃u L,J (i+1) u∧Wk s.nx L t (I (i+1) u))::k) Q (I i x)):GO P nt (.code (.loop body)::k) Q s:=by
 refine ic (σ:={p:Nat×σ//p.1<=n∧J p.1 p.2}) (fun p=>I p.1.1 p.1.2) (fun p=>n-p.1.1) ⟨(i0,A),y,D⟩ B h0 fun p=>?_;obtain⟨⟨i,x⟩,h1,C⟩:=p;refine mO ?_ (j i x h1 C)
 rintro t ⟨h3,u,L,h4,h5⟩;exact⟨⟨(i+1,u),h3,h4⟩,L,by show n-(i+1)<n-i;omega,h5⟩
theorem OX{P:Program}{nt:NT}{Q:AQ}{k:List KI}{s:AS}{all rest:List Oper}(d:Nat){p:PV}(j:ae (s.f.get d) p)(h:GO P nt (.ops all rest::k) Q ⟨(d,p)::s.f,s.h,s.nx⟩):GO P nt (.ops all rest::k) Q s:=by
 intro M N a w hf;refine h M N a w ⟨hf.1,fun e=>?_,hf.2.2⟩;rw[AF.ax];split
 .rename_i u;subst u;exact j M N _ _ (hf.2.1 e)
 .exact hf.2.1 e
theorem Mq{P:Program}{ty:Ty}{nt:NT}{Q:AQ}{k:List KI}{s:AS}(y:bn P ty){all rest:List Oper}{o:Oper}{t:TypeId}{x i:Operand}(p:PV)(ho:o.op= .lookup t x i jp)(hg:o.guard=io)
  {kc:KC} {V:Type} {e:V->IV} {z:V} {A:Value} {m:List (kc.K×V)} (C:ev s.f x= .iv (.eG kc e z A m)) {q:PV} (hl:vc ty t jp kc e z A m (ev s.f i)=co (q,True)) (B:q=p)
  {s':AS} (hp:putDst nt o p s=co s') (h:GO P nt (.ops all rest::k) Q s'):GO P nt (.ops all (o::rest)::k) Q s:=by
 have j:iN ty s o.op=co (p,True):=by
  rw[ho,<-B];simp only[iN,C];exact hl
 exact bz hg (uM y j ac hp) fun u hu=>by subst hu;exact h
section
variable {P:Program} {ty:Ty} {nt:NT} {s:AS}
theorem GR{o:Oper}{p:PV}{s':AS}(hp:putDst nt o p s=co s')(h: ∀M N a w,Fits M N s nt a w-> ∃x,(execOp a.eval o).run P w= .ok (.value x) w∧VR M N (· <s.nx) p x):
  (s'.h=s.h∧s'.nx=s.nx)∧ ∀M N a w,Fits M N s nt a w-> ∃x,(execOp a.eval o).run P w= .ok (.value x) w∧Fits M N s' nt (a.put o.dst x) w:=by
 cases hd:o.dst with
 |none=>
  have:=dF hp hd;subst this;exact⟨⟨rfl,rfl⟩,fun M N a w hf=>let ⟨x,hx,_⟩:=h M N a w hf;⟨x,hx,hf⟩⟩
 |some d=>
  obtain⟨h1,rfl⟩:=dE hp hd;exact⟨⟨rfl,rfl⟩,fun M N a w hf=>let ⟨x,hx,hv⟩:=h M N a w hf;⟨x,hx,hf.put d p x h1 hv⟩⟩
theorem kq{Q:AQ}{k:List KI}{all:List Oper}{todo pend:List (Nat×Oper)}{o:Oper}{s':AS}{p:PV}(i:Nat)(u:todo.find? (fun x=>VP x.1 i)=co (i,o))(y:aS o=jp)(A:todo.all (fun x=>!waits o x.1)=is)(hg:bQ nt all s.f o=co is)(j:wI all pend o=is)
  (hp:putDst nt o p s=co s') (B: ∀M N a w,Fits M N s nt a w-> ∃x,(execOp a.eval o).run P w= .ok (.value x) w∧VR M N (· <s.nx) p x)
  (h:GO P nt (.bR all (todo.filter fun x=>!VP x.1 i) ((i,o)::pend)::k) Q s'):GO P nt (.bR all todo pend::k) Q s:=
 have g:=GR hp B
 vm (List.mem_of_find?_eq_some u) y (fun x C=>by simpa using Wc.1 A x C) hg j g.1 g.2 h
end
end
end Go.Al
namespace Go.Al
open Go
section
section
variable {P:Program} {ty:Ty} {nt:NT} {s:AS}
theorem I5(C:bn P ty){o:Oper}{t u:TypeId}{x hi:Operand}(ho:o.op= .slice t x io (co hi) io){e eu:bC}(ht:ty t=co e)(hk:e.k= .aP (.slice u))(hu:ty u=co eu)
  {n m sz:Nat} {el:Nat->List IV} {kc:IntKind} {J:Int} (hx:ev s.f x= .iv (.bK sz n el)) (hh:ev s.f hi= .iv (.v (.int kc J))) (G:J=(m:Int)) (Y:m<=n):
  ∀M N a w,Fits M N s nt a w-> ∃x,(execOp a.eval o).run P w= .ok (.value x) w∧VR M N (· <s.nx) (.iv (.bK sz m el)) x:=by
 intro M N a w hf;subst G;have B:P.underlying t=co (.slice u):=by
  have:=(C t _ ht).2.1;rw[hk]at this;exact this.1
 have A:P.elem t=u:=by simp[Program.elem,B]
 have D:=aN hf.2.1 x;rw[hx]at D;generalize I:a.eval x=vx at D;cases D with
 |iv _ _ hir=>
  cases hir with
  |fz _ _ a0 cap=>
   obtain rfl:m=0:=by omega
   have y:=run_slice_h (P:=P) (w:=w) t a0 0 cap (by rw[A];exact B) kc ((0:Nat):Int) (by omega) (by omega);rw[A,aQ (C u _ hu)]at y;refine⟨sliced a0 0 0 cap eu.size,?_,?_⟩
   .simp only[execOp,ho,I,Ww,Xu,qi hf hh];refine aW ?_;rw[run_sliceAt_slice w t _ _ _ _ (by rw[A];exact B),y];rfl
   .exact .iv _ _ (.fz _ _ _ _)
  |bK _ _ _ b off cap hn hc hl hm hr=>
   have y:=run_slice_h (P:=P) (w:=w) t (co ⟨b,off,io⟩) n cap (by rw[A];exact B) kc (m:Int) (by omega) (by omega);rw[A,aQ (C u _ hu)]at y;refine⟨sliced (co ⟨b,off,io⟩) 0 m cap eu.size,?_,?_⟩
   .simp only[execOp,ho,I,Ww,Xu,qi hf hh];refine aW ?_;rw[run_sliceAt_slice w t _ _ _ _ (by rw[A];exact B),y];rfl
   .have h:=IR.bK sz m el b off cap (by omega) hc (fun k hk=>hl k (by omega)) (fun k j hk=>hm k j (by omega)) (fun k j p hk=>hr k j p (by omega));exact .iv _ _ (by simpa[sliced,Addr.add]using h)
end
section
variable {P:Program} {nt:NT} {Q:AQ} {k:List KI} {s s':AS}
theorem lk{o:Oper}{p:PV}(j: ∀M N a w,Fits M N s nt a w-> ∃x,(execOp a.eval o).run P w= .ok (.value x) w∧VR M N (· <s.nx) p x)(hp:putDst nt o p s=co s'):OT P nt o s (fun t=>t=s'):=by
 intro M N a w hf K Z hk;obtain⟨x,u,j⟩:=j M N a w hf;unfold Oper.wp;rw[u];simp only[Oper.upon];cases hd:o.dst with
 |none=>
  have:=dF hp hd;subst this;exact hk M N s' _ w (.refl _ _ _ _ _) hf rfl
 |some d=>
  obtain⟨h1,rfl⟩:=dE hp hd;exact hk M N {s with f:=(d,p)::s.f} _ w (.refl _ _ _ _ _) (hf.put d p x h1 j) rfl
theorem go_neg{all rest:List Oper}{o:Oper}{t:TypeId}{x:Operand}{c:Int}(hg:o.guard=io)(ho:o.op= .unOp .neg t x)(A:ev s.f x= .iv (.v (.int .i64 c)))(h1: -9223372036854775807<=c)(B:c<=9223372036854775807)
  (hp:putDst nt o (.iv (.v (.int .i64 (-c)))) s=co s') (h:GO P nt (.ops all rest::k) Q s'):GO P nt (.ops all (o::rest)::k) Q s:=by
 refine bz hg (lk (p:= .iv (.v (.int .i64 (-c)))) (fun M N a w hf=>?_) hp) fun t ht=>by subst ht;exact h
 have j:=aN hf.2.1 x;rw[A]at j;generalize u:a.eval x=v at j;cases j with
 |iv _ _ hi=>cases hi with
  |v=>
   refine⟨.int .i64 (-c),?_,.iv _ _ (.v _)⟩;unfold execOp;rw[ho];simp only[u];have y:IntKind.i64.wrap (0-c)= -c:=by rw[Int.zero_sub];exact IntWalk.i64_in _ (by constructor<;>omega)
   have e:(Op.unary UnOp.neg (.int .i64 c)).run P w= .ok (.int .i64 (IntKind.i64.wrap (0-c))) w:=rfl;rw[<-y];exact aW e
end
section
variable {P:Program} {ty:Ty} {nt:NT} {Q:AQ} {k:List KI} {s:AS}
theorem jo{all rest:List Oper}{o:Oper}{t e:TypeId}{x:Operand}{d sz n:Nat}{el:Nat->List IV}(hg:o.guard=io)(ho:o.op= .binOp .eql t x (.const (.slice io 0 0)) t)(hd:o.dst=co d)(A:VV d nt=is)(ht:P.underlying t=co (.slice e))(D:ev s.f x= .iv (.bK sz n el))
  (h: ∀b:Bool,(b=is->n=0)->GO P nt (.ops all rest::k) Q ⟨(d,pB b)::s.f,s.h,s.nx⟩):GO P nt (.ops all (o::rest)::k) Q s:=by
 refine bz (R:=fun u=> ∃b:Bool,(b=is->n=0)∧u=⟨(d,pB b)::s.f,s.h,s.nx⟩) hg (fun M N a w hf K Z hk=>?_) fun u ⟨b,hb,hu⟩=>by subst hu;exact h b hb
 have y:=aN hf.2.1 x;rw[D]at y;generalize B:a.eval x=v at y;have j: ∀(a0:Option Addr) (l c:Nat),v= .slice a0 l c->(execOp a.eval o).run P w= .ok (.value (.bool a0.isNone)) w:=fun a0 l c y=>by
  unfold execOp;rw[ho];simp only[B,y];exact aW (Lib.run_eql_slice_nil w t e a0 l c 0 0 ht)
 have b0: ∀(b:Bool),(b=is->n=0)->(execOp a.eval o).run P w= .ok (.value (.bool b)) w->o.wp P a w K Z:=fun b hb C=>by
  unfold Oper.wp;rw[C];simp only[Oper.upon];rw[hd];exact hk M N ⟨(d,pB b)::s.f,s.h,s.nx⟩ _ w (.refl _ _ _ _ _) (hf.put d (pB b) (.bool b) (Vm A) (.iv _ _ (.v _))) ⟨b,hb,rfl⟩
 cases y with
 |iv _ _ hi=>cases hi with
  |fz _ _ a0 cap=>exact b0 _ (fun _=>rfl) (j a0 0 cap rfl)
  |bK _ _ _ b off cap hn hc hl hm C=>exact b0 jp (fun h=>by cases h) (j _ n cap rfl)
theorem kZ(j:bn P ty){all rest:List Oper}{o:Oper}{t u:TypeId}{d:Nat}(hg:o.guard=io)(ho:o.op= .buildSlice t 0 #[])(hd:o.dst=co d)(y:VV d nt=is){e eu:bC}(ht:ty t=co e)(hk:e.k= .aP (.slice u))(hu:ty u=co eu)
  (h: ∀b:Nat,GO P nt (.ops all rest::k) Q ⟨(d,.iv (.v (.slice (co ⟨b,0,io⟩) 0 0)))::s.f,(s.nx,co (.row 1 []))::s.h,s.nx+1⟩):GO P nt (.ops all (o::rest)::k) Q s:=by
 refine bz (R:=fun v=> ∃b:Nat,v=⟨(d,.iv (.v (.slice (co ⟨b,0,io⟩) 0 0)))::s.f,(s.nx,co (.row 1 []))::s.h,s.nx+1⟩) hg (fun M N a w hf K Z B=>?_) fun v ⟨b,hv⟩=>by subst hv;exact h b
 have D:P.underlying t=co (.slice u):=by
  have:=(j t _ ht).2.1;rw[hk]at this;exact this.1
 obtain⟨G,h1,Y,h8,I,x⟩:=hf.1.alloc (.cells #[] u) (.row 1 []) 0 (fun G g1 g2 g3=> .inl rfl);have J:(execOp a.eval o).run P w= .ok (.value (.slice (co ⟨w.heap.size,0,io⟩) 0 0)) (w.alloc (.cells #[] u)):=by
  have C:=aQ (w:=w) (j u eu hu);simp[execOp,ho,Instr.buildSlice,Sem.run_bind,run_underlying D,Result.andThen_ok,C,newRow,Instr.fill,show Yu 0= #[] from rfl]
 have A:=dW hf I x;unfold Oper.wp;rw[J];simp only[Oper.upon];rw[hd];exact B M G ⟨(d,.iv (.v (.slice (co ⟨w.heap.size,0,io⟩) 0 0)))::s.f,(s.nx,co (.row 1 []))::s.h,s.nx+1⟩ _ _ I (Fits.put (s:=⟨s.f,(s.nx,co (.row 1 []))::s.h,s.nx+1⟩) A d _ _ (Vm y) (.iv _ _ (.v _))) ⟨_,rfl⟩
theorem k9(d0:bn P ty){all rest:List Oper}{o:Oper}{x y:Operand}{t u:TypeId}(hg:o.guard=io)(ho:o.op= .call ⟨.builtin .append, #[x,y], #[t,t]⟩){e eu:bC}(ht:ty t=co e)(hk:e.k= .aP (.slice u))(hu:ty u=co eu)
  {b0 sz:Nat} {news:List (List PV)} {py:PV} (hx:ev s.f x= .iv (.v (.slice (co ⟨b0,0,io⟩) 0 0))) (v0:eu.size=sz) (hz:eu.zero.cells.size=sz) (t0:0<sz)
  (s0:ev s.f y=py) (hy:Src s.h sz py news) (hm:news≠ []) (hb:news.length*eu.bytes<=140737488355328) (d1:news.length<=140737488355328)
  {s':AS} (hp:putDst nt o (.sl s.nx 0 news.length sz) (newObj s (.row sz news))=co s') (h:GO P nt (.ops all rest::k) Q s'):GO P nt (.ops all (o::rest)::k) Q s:=by
 refine bz hg (OT.value hp fun M N a w hf=>?_) fun v hv=>by subst hv;exact h
 subst v0;obtain⟨⟨ii,o0,p0,n0,q0⟩,_⟩:=d0 u _ hu;have w0:P.underlying t=co (.slice u):=by
  have:=(d0 t _ ht).2.1;rw[hk]at this;exact this.1
 have Y:=aN hf.2.1 x;rw[hx]at Y;have f0:=aN hf.2.1 y;rw[s0]at f0;obtain⟨C,ao,c,a1,D⟩:=hy.ok hf f0;have A: ∀v w',(Builtin.append_ #[t,t] o.type #[a.eval x,a.eval y]).run P w= .ok v w'->(execOp a.eval o).run P w= .ok (.value v) w':=by
  intro v w' h;simp only[execOp,ho,resolve];simp[invoke,builtin,h]
 rw[a1]at A;have a0: ∀vs:List Value,vs.length=news.flatten.length->vs.length=news.length*ii.size:=fun vs h=>by rw[h,fi C,p0]
 generalize a.eval x=vx at Y A;cases Y with
 |iv _ _ hi=>cases hi with
  |v=>
   obtain⟨b,b1,j0,G⟩:=D hm;subst j0;obtain⟨vs,e0,x0,z0⟩:=kN (s:=s) G;have j1:0<news.length:=WD.2 hm;have I:=run_append_grow (P:=P) w t o.type u ii eu.zero w0 o0 q0 ⟨b0,0,io⟩ 0 0 [] (by simp) (fun j v hj=>by simp at hj) ⟨b,b1,io⟩ news.length c vs (a0 vs e0) x0 (by omega) (by omega) (growslice_fits (by omega) (by rw[n0,VL];exact hb));have J:vs.length=news.length*eu.size:=by rw[e0,fi C]
   have c0:=grownCap_ge w (0+news.length) 0 u;have k0:=grownCap_le_maxLen w (0+news.length) 0 u (by simp only[maxLen];omega);generalize grownCap w (0+news.length) 0 u=cap at*
   generalize i0:([]:List Value).toArray++vs.toArray++Builtin.zeroCells eu.zero.cells (cap-(0+news.length))=z at I;have B:z.size=cap*eu.size:=by
    rw[<-i0,W1,W1,size_zeroCells,hz];simp only[XC,J,WH,VL] at*
    rw[<-Wg,Nat.add_sub_cancel' c0]
   obtain⟨N',h1,h2,h3,h4,h5⟩:=hf.1.drew.alloc (.cells z u) (.row eu.size news) z.size (fun N' g1 g2 g3=>by
    refine .inr ⟨t0,z,u,by rw[g1];exact heap_alloc_new _ _,g2.symm,?_,fun k e he=>C _ e he,fun k e j p he hj=>?_⟩
    .rw[B];exact VO _ (by omega)
    .have f1:j<eu.size:=by rw[<-C _ e he];exact(Vs.1 hj).1
     have r0:k<news.length:=(Vs.1 he).1;have m0:=jr C _ e j p he hj;have i1:k*eu.size+j<vs.length:=by
      rw[J];have:(k+1)*eu.size<=news.length*eu.size:=VO _ r0;rw[Wg]at this;omega
     have:=z0 _ p m0;have e1:z.getD (k*eu.size+j) undef=vs.getD (k*eu.size+j) undef:=by
      rw[<-i0,Vn,V3 (by simp;omega),Vr];simp
     rw[e1];exact this.mono (.refl _) g3 (fun i hi=>by omega))
   have g0:=(Ext.drew (M:=M) (N:=N) (U:=(· <s.nx)) (h:=s.h) (w:=w)).trans h4;refine⟨_,_,M,N',A _ _ I,g0,⟨h5,hf.2.1.ext g0,hf.2.2⟩,?_⟩;have:=VR.sl (M:=M) (N:=N') (U:=(· <s.nx+1)) s.nx 0 (0+news.length) eu.size cap (by omega) (by omega) c0 k0 (by rw[h2,B];simp);rw[h1,W0,show PV.sl s.nx 0 (0+news.length) eu.size=PV.sl s.nx 0 news.length eu.size by rw[VL]]at this;exact(show(newObj s (.row eu.size news)).nx=s.nx+1 from rfl)▸this
theorem lZ(I:bn P ty){all rest:List Oper}{o:Oper}{x y:Operand}{t u:TypeId}(hg:o.guard=io)(ho:o.op= .call ⟨.builtin .append, #[x,y], #[t,t]⟩){e eu:bC}(ht:ty t=co e)(hk:e.k= .aP (.slice u))(hu:ty u=co eu)
  {b0 sz:Nat} (hx:ev s.f x= .iv (.v (.slice (co ⟨b0,0,io⟩) 0 0))) (d0:eu.size=sz)
  {el:Nat->List IV} (c0:ev s.f y= .iv (.bK sz 0 el)) {el2:Nat->List IV}
  {s':AS} (hp:putDst nt o (.iv (.bK sz 0 el2)) s=co s') (h:GO P nt (.ops all rest::k) Q s'):GO P nt (.ops all (o::rest)::k) Q s:=by
 refine bz hg (OT.value hp fun M N a w hf=>?_) fun v hv=>by subst hv;exact h
 subst d0;obtain⟨⟨ii,a0,g0,f0,i0⟩,_⟩:=I u _ hu;have e0:P.underlying t=co (.slice u):=by
  have:=(I t _ ht).2.1;rw[hk]at this;exact this.1
 have B:=aN hf.2.1 x;rw[hx]at B;have C:=aN hf.2.1 y;rw[c0]at C;have j: ∀v D,(Builtin.append_ #[t,t] o.type #[a.eval x,a.eval y]).run P w= .ok v D->(execOp a.eval o).run P w= .ok (.value v) D:=by
  intro v D h;simp only[execOp,ho,resolve];simp[invoke,builtin,h]
 generalize a.eval x=vx at B j;generalize a.eval y=vy at C j;have A: ∀(G:Option Addr) (c:Nat),vx= .slice (co ⟨b0,0,io⟩) 0 0->vy= .slice G 0 c-> ∃v D J Y,(execOp a.eval o).run P w= .ok (.value v) D∧Ext M N (· <s.nx) s.h w J Y (· <s.nx) s.h D∧Fits J Y s nt a D∧VR J Y (· <s.nx) (.iv (.bK eu.size 0 el2)) v:=fun G c e1 e2=>by
  subst e1 e2;exact⟨_,w,M,N,j _ _ (ff (P:=P) (w:=w) t o.type u ii e0 a0 (co ⟨b0,0,io⟩) 0 0 (VA _) G c (.inr ⟨_,_,rfl⟩)),.refl _ _ _ _ _,hf,.iv _ _ (.fz _ _ _ _)⟩
 cases B with
 |iv _ _ hi=>cases hi with
  |v=>cases C with
   |iv _ _ hi=>cases hi with
    |fz _ _ G c=>exact A G c Z Z
    |bK _ _ _ b off cap=>exact A _ _ Z Z
end
section
variable {P:Program} {ty:Ty} {nt:NT} {Q:AQ} {k:List KI} {s:AS}
theorem uz(r0:bn P ty){o:Oper}{t:TypeId}{a x:Operand}(ho:o.op= .store t a x)(hd:o.dst=io){i sz q:Nat}{e:bC}(he:ty t=co e)(z0:e.size=sz){es:List (List PV)}{xs:List PV}
  (ha:ev s.f a= .cM i sz q 0) (hi:s.h.get i=co (.row sz es)) (hq:q<es.length) (v0:(ev s.f x).cells=co xs) (f0:xs.length=sz) (b0:dt xs=is):
  OT P nt o s (fun u=>u=⟨s.f,(i,co (.row sz (es.set q xs)))::s.h,s.nx⟩):=by
 have hp:putDst nt o .any ⟨s.f,(i,co (.row sz (es.set q xs)))::s.h,s.nx⟩=co ⟨s.f,(i,co (.row sz (es.set q xs)))::s.h,s.nx⟩:=by simp only[putDst,hd]
 refine OT.skip hp fun M N b w hf=>?_;have hu:=aN hf.2.1 a;have hy:=aN hf.2.1 x;rw[ha]at hu;generalize s0:b.eval a=u at hu;generalize w0:b.eval x=y at hy
 have key: ∃w',(Instr.storeAt t u y).run P w= .ok () w'∧Ext M N (· <s.nx) s.h w M N (· <s.nx) ((i,co (.row sz (es.set q xs)))::s.h) w'∧Fits M N ⟨s.f,(i,co (.row sz (es.set q xs)))::s.h,s.nx⟩ nt b w':=by
  cases hu with
  |cM _ _ _ _ hU=>
   obtain⟨hl,hv⟩:=ow hy v0;have a1:y.cells.size=sz:=by omega
   rcases hf.1.obj i _ hi with h0|⟨h0,c,T,g1,g2,g3,g4,g5⟩
   .rw[h0]at hq;simp at hq
   have a0:(q+1)*sz<=es.length*sz:=VO _ hq;have x0:q*sz+sz<=c.size:=by rw[W8]at a0;omega
   have C: ∀z∈y.cells.toList,z.oneCell'=is:=by
    intro v t0;obtain⟨j,hj⟩:=Wh t0;have k0:j<y.cells.toList.length:=(Vs.1 hj).1;have e0:xs[j]? =co (xs[j]'(by simp at k0;omega)):=Vt _;have:=(hv j _ e0).one (gk b0 j _ e0);rw[Vn]at this;have i0:y.cells[j]? =co v:=by simpa using hj
    rw[i0]at this;exact this
   have d0:=run_storeCells_at P (N.az i) (q*sz) T y.cells.toList 0 c w g1 (by simp;omega) C;refine⟨w.setRow (N.az i) (c.toList.take (q*sz+0)++y.cells.toList++c.toList.drop (q*sz+0+y.cells.toList.length)).toArray,?_,?_⟩
   .have D:=aQ (w:=w) (r0 t e he);have q0:y.cells.size=e.size:=by omega
    simp only[Instr.storeAt,Instr.sureAddr,pure_bind,storeVar,Sem.run_bind,D,Result.andThen_ok,q0,ne_eq,not_true_eq_false,if_false];exact d0
   .have c0:=setRow_heap w (N.az i) c (c.toList.take (q*sz+0)++y.cells.toList++c.toList.drop (q*sz+0+y.cells.toList.length)).toArray T (0,0) g1;have o0: ∀b,b≠N.az i->(w.setRow (N.az i) (c.toList.take (q*sz+0)++y.cells.toList++c.toList.drop (q*sz+0+y.cells.toList.length)).toArray).heap[b]? =w.heap[b]? :=by
     intro b hb;simp only[World.setRow,VZ];rw[be (fun e=>hb e.symm)]
    have p0:(AO.row sz es).real=is:=by cases es with
     |nil=>simp at hq
     |cons=>rfl
    have g0: ∀m,(c.toList.take (q*sz+0)++y.cells.toList++c.toList.drop (q*sz+0+y.cells.toList.length)).toArray.getD m undef=if q*sz<=m∧m<q*sz+sz then y.cells.getD (m-q*sz) undef else c.getD m undef:=by
     intro m;rw[Vn,Vn,Vn];have m0:y.cells.toList.length=sz:=by simp;omega
     split
     .rename_i hm;have e1:(c.toList.take (q*sz+0)++y.cells.toList++c.toList.drop (q*sz+0+y.cells.toList.length)).toArray[m]? =y.cells[m-q*sz]? :=by
       simp only[Wd];rw[VJ (by simp;omega),VK (by simp;omega)];simp only[V7,Xw,VY];congr 1;omega
      rw[e1]
     .rename_i hm;have e1:(c.toList.take (q*sz+0)++y.cells.toList++c.toList.drop (q*sz+0+y.cells.toList.length)).toArray[m]? =c[m]? :=by
       simp only[Wd];rcases Wp m (q*sz) with k1|k1
       .rw[VF,VJ (by simp;omega),V8,am (by omega),VY]
       .rw[VK (by simp;omega),Wl,VY];congr 1;simp;omega
      rw[e1]
    have:=hf.1.write hi p0 (w.setRow (N.az i) (c.toList.take (q*sz+0)++y.cells.toList++c.toList.drop (q*sz+0+y.cells.toList.length)).toArray) (.row sz (es.set q xs)) Z Z Z (by simp) o0
     (.inr ⟨h0,_,T,c0,by simp;omega,by simp;omega,fun G Y A=>?_,fun G Y J p2 A I=>?_⟩)
    .exact⟨this.1,this.2,hf.2.1,hf.2.2⟩
    .rw[Xd]at A;split at A
     .cases A;exact f0
     .exact g4 G Y A
    .rw[g0];rw[Xd]at A;split at A
     .rename_i B;subst B;cases A;have j0:J<sz:=by rw[<-f0];exact(Vs.1 I).1
      rw[am (by omega),show q*sz+J-q*sz=J by omega];exact hv J p2 I
     .rename_i B;have j0:J<sz:=by rw[<-g4 G Y A];exact(Vs.1 I).1
      rw[be ?_]
      .exact g5 G Y J p2 A I
      .intro⟨e1,Y⟩;rcases XA q G with n0|heq|hgt
       .have:(q+1)*sz<=G*sz:=VO _ n0;rw[W8]at this;omega
       .exact B heq
       .have:(G+1)*sz<=q*sz:=VO _ hgt;rw[W8]at this;omega
 obtain⟨w',h1,A,I⟩:=key;refine⟨w',M,N,?_,A,I⟩;simp only[execOp,ho];simp[s0,w0,h1]
end
def Rz{σ:Type}(P:Program)(nt:NT)(k:List KI)(Q:AQ)(n0:Nat)(t:σ->AS):AQ:=fun e u=>(e= .normal∧ ∃i L,Wk n0 L u (t i))∨(e≠ .normal∧kp P nt k Q e u)
theorem go_cut{P:Program}{nt:NT}{Q:AQ}{k:List KI}{s:AS}{c:Code}{σ:Type}(n:Nat)(t:σ->AS)(B:c=P2 (ym n c) (ud n c))
  (h1:GO P nt ((ym n c).map KI.code) (Rz P nt k Q s.nx t) s) (h2: ∀i,GO P nt (.code (ud n c)::k) Q (t i)):GO P nt (.code c::k) Q s:=by
 intro M N a w hf;rw[B];have key: ∀(l:List Code) (u:AS) D I Y C,Ext M N (· <s.nx) s.h w D I (· <u.nx) u.h C->Fits D I u nt Y C->
   kp P nt (l.map KI.code) (Rz P nt k Q s.nx t) .normal u->(P2 l (ud n c)).wp P (ny nt M N s w (kp P nt k Q)) Y C:=by
  intro l
  induction l with
  |nil=>
   intro u D I Y C hx A hk;rcases hk with⟨_,i,L,hw⟩|⟨he,_⟩
   .exact AW.then (h2 i) (hw.fits A) fun e a2 w2 G J s2 y j x=>⟨G,J,s2,(hw.ext hx).trans y,j,x⟩
   .exact absurd Z he
  |cons c l ih=>
   intro u D I Y C hx A hk;refine wp_seq (AW.then hk A fun e a2 w2 G J s2 y j x=>?_);cases e with
   |normal=>exact ih s2 G J a2 w2 (hx.trans y) j x
   |_=>
    rcases D9 (l:=l) (by simp) x with⟨he,_⟩|⟨_,hq⟩
    .cases he
    .exact⟨G,J,s2,hx.trans y,j,hq⟩
 exact key _ s M N a w (.refl _ _ _ _ _) hf h1
theorem y7{P:Program}{nt:NT}{k:List KI}{Q:AQ}{n0:Nat}{σ:Type}{t:σ->AS}{u:AS}(i:σ)(L:List Nat)(h:Wk n0 L u (t i)):Rz P nt k Q n0 t .normal u:= .inl ⟨rfl,i,L,h⟩
section
variable {P:Program} {ty:Ty} {nt:NT} {Q:AQ} {k:List KI} {s:AS}
theorem kn(x:bn P ty){all rest:List Oper}{o:Oper}{t:TypeId}{a:Operand}(ho:o.op= .load t a)(hg:o.guard=io){e:bC}(he:ty t=co e){i sz q off:Nat}{es:List (List PV)}{row:List PV}{v:PV}
  (ha:ev s.f a= .cM i sz q off) (hi:s.h.get i=co (.row sz es)) (y:es[q]? =co row) (hr:gU e (row.drop off)=co v)
  {s':AS} (hp:putDst nt o v s=co s') (h:GO P nt (.ops all rest::k) Q s'):GO P nt (.ops all (o::rest)::k) Q s:=by
 have hb:behind s.h (.cM i sz q off)=co (row.drop off):=by
  simp only[behind,hi,y,Nat.beq_refl]
 have j:iN ty s o.op=co (v,True):=by
  rw[ho];simp only[iN,he,ha,hb,hr]
 exact bz hg (uM x j ac hp) fun u hu=>by subst hu;exact h
end
section
variable {P:Program} {ty:Ty} {nt:NT} {Q:AQ} {k:List KI} {s:AS}
theorem mw(t0:bn P ty){o:Oper}{t:TypeId}{a x:Operand}(ho:o.op= .store t a x)(hd:o.dst=io){i sz q off:Nat}{e:bC}(he:ty t=co e){es:List (List PV)}{row xs:List PV}
  (ha:ev s.f a= .cM i sz q off) (hi:s.h.get i=co (.row sz es)) (Y:es[q]? =co row) (x0:(ev s.f x).cells=co xs) (d1:xs.length=e.size) (g0:off+e.size<=sz) (b0:dt xs=is):
  OT P nt o s (fun u=>u=⟨s.f,(i,co (.row sz (es.set q (setCells row off xs))))::s.h,s.nx⟩):=by
 have hp:putDst nt o .any ⟨s.f,(i,co (.row sz (es.set q (setCells row off xs))))::s.h,s.nx⟩=co ⟨s.f,(i,co (.row sz (es.set q (setCells row off xs))))::s.h,s.nx⟩:=by simp only[putDst,hd]
 refine OT.skip hp fun M N b w hf=>?_;have hu:=aN hf.2.1 a;have hy:=aN hf.2.1 x;rw[ha]at hu;generalize v0:b.eval a=u at hu;generalize z0:b.eval x=y at hy
 have key: ∃w',(Instr.storeAt t u y).run P w= .ok () w'∧Ext M N (· <s.nx) s.h w M N (· <s.nx) ((i,co (.row sz (es.set q (setCells row off xs))))::s.h) w'∧Fits M N ⟨s.f,(i,co (.row sz (es.set q (setCells row off xs))))::s.h,s.nx⟩ nt b w':=by
  cases hu with
  |cM _ _ _ _ hU=>
   obtain⟨hl,hv⟩:=ow hy x0;have f1:y.cells.size=e.size:=by omega
   have q0:q<es.length:=(Vs.1 Y).1;rcases hf.1.obj i _ hi with h0|⟨h0,c,T,g1,g2,g3,g4,g5⟩
   .rw[h0]at Y;simp at Y
   have f0:row.length=sz:=g4 q row Y;have a0:(q+1)*sz<=es.length*sz:=VO _ q0;have b1:q*sz+off+e.size<=c.size:=by rw[W8]at a0;omega
   have D: ∀z∈y.cells.toList,z.oneCell'=is:=by
    intro v w0;obtain⟨j,hj⟩:=Wh w0;have m0:j<y.cells.toList.length:=(Vs.1 hj).1;have e0:xs[j]? =co (xs[j]'(by simp at m0;omega)):=Vt _;have:=(hv j _ e0).one (gk b0 j _ e0);rw[Vn]at this;have j0:y.cells[j]? =co v:=by simpa using hj
    rw[j0]at this;exact this
   have d0:=run_storeCells_at P (N.az i) (q*sz+off) T y.cells.toList 0 c w g1 (by simp;omega) D;refine⟨w.setRow (N.az i) (c.toList.take ((q*sz+off)+0)++y.cells.toList++c.toList.drop ((q*sz+off)+0+y.cells.toList.length)).toArray,?_,?_⟩
   .have G:=aQ (w:=w) (t0 t e he);have s0:y.cells.size=e.size:=by omega
    simp only[Instr.storeAt,Instr.sureAddr,pure_bind,storeVar,Sem.run_bind,G,Result.andThen_ok,s0,ne_eq,not_true_eq_false,if_false];exact d0
   .have c0:=setRow_heap w (N.az i) c (c.toList.take ((q*sz+off)+0)++y.cells.toList++c.toList.drop ((q*sz+off)+0+y.cells.toList.length)).toArray T (0,0) g1;have p0: ∀b,b≠N.az i->(w.setRow (N.az i) (c.toList.take ((q*sz+off)+0)++y.cells.toList++c.toList.drop ((q*sz+off)+0+y.cells.toList.length)).toArray).heap[b]? =w.heap[b]? :=by
     intro b hb;simp only[World.setRow,VZ];rw[be (fun e=>hb e.symm)]
    have r0:(AO.row sz es).real=is:=by cases es with
     |nil=>simp at Y
     |cons=>rfl
    have i0: ∀m,(c.toList.take ((q*sz+off)+0)++y.cells.toList++c.toList.drop ((q*sz+off)+0+y.cells.toList.length)).toArray.getD m undef=if q*sz+off<=m∧m<q*sz+off+e.size then y.cells.getD (m-(q*sz+off)) undef else c.getD m undef:=by
     intro m;rw[Vn,Vn,Vn];have n0:y.cells.toList.length=e.size:=by simp;omega
     split
     .rename_i hm;have e1:(c.toList.take ((q*sz+off)+0)++y.cells.toList++c.toList.drop ((q*sz+off)+0+y.cells.toList.length)).toArray[m]? =y.cells[m-(q*sz+off)]? :=by
       simp only[Wd];rw[VJ (by simp;omega),VK (by simp;omega)];simp only[V7,Xw,VY];congr 1;omega
      rw[e1]
     .rename_i hm;have e1:(c.toList.take ((q*sz+off)+0)++y.cells.toList++c.toList.drop ((q*sz+off)+0+y.cells.toList.length)).toArray[m]? =c[m]? :=by
       simp only[Wd];rcases Wp m (q*sz+off) with k1|k1
       .rw[VF,VJ (by simp;omega),V8,am (by omega),VY]
       .rw[VK (by simp;omega),Wl,VY];congr 1;simp;omega
      rw[e1]
    have:=hf.1.write hi r0 (w.setRow (N.az i) (c.toList.take ((q*sz+off)+0)++y.cells.toList++c.toList.drop ((q*sz+off)+0+y.cells.toList.length)).toArray) (.row sz (es.set q (setCells row off xs))) Z Z Z (by simp) p0
     (.inr ⟨h0,_,T,c0,by simp;omega,by simp;omega,fun I e2 A=>?_,fun I e2 B p2 A J=>?_⟩)
    .exact⟨this.1,this.2,hf.2.1,hf.2.2⟩
    .rw[Xd]at A;split at A
     .cases A;rw[cZ];exact f0
     .exact g4 I e2 A
    .rw[i0];rw[Xd]at A;split at A
     .rename_i C;subst C;cases A;have k0:B<sz:=by rw[<-f0,<-cZ row off xs];exact(Vs.1 J).1
      rcases iw row off xs B p2 J with⟨k1,k3⟩|⟨k1,k3⟩
      .have a1:B-off<xs.length:=(Vs.1 k3).1;rw[am (by omega),show q*sz+B-(q*sz+off)=B-off by omega];exact hv _ p2 k3
      .rw[be (by omega)];exact g5 q row B p2 Y k3
     .rename_i C;have k0:B<sz:=by rw[<-g4 I e2 A];exact(Vs.1 J).1
      rw[be ?_]
      .exact g5 I e2 B p2 A J
      .intro⟨e1,e3⟩;rcases XA q I with o0|heq|hgt
       .have:(q+1)*sz<=I*sz:=VO _ o0;rw[W8]at this;omega
       .exact C heq
       .have:(I+1)*sz<=q*sz:=VO _ hgt;rw[W8]at this;omega
 obtain⟨w',h1,A,J⟩:=key;refine⟨w',M,N,?_,A,J⟩;simp only[execOp,ho];simp[v0,z0,h1]
theorem xl{es:List (List PV)}{q off:Nat}{row xs:List PV}(j:es[q]? =co row)(h:setCells row off xs=row):es.set q (setCells row off xs)=es:=by
 rw[h];refine XD fun i=>?_;rw[Xd];split
 .rename_i e;subst e;split
  .exact j.symm
  .rename_i g;rw[List.getElem?_eq_none (by omega)]
 .rfl
theorem mS(B:bn P ty){all rest:List Oper}{o:Oper}{t:TypeId}{a x:Operand}(ho:o.op= .store t a x)(hd:o.dst=io)(hg:o.guard=io){i sz q off:Nat}{e:bC}(he:ty t=co e){es:List (List PV)}{row xs:List PV}
  (ha:ev s.f a= .cM i sz q off) (hi:s.h.get i=co (.row sz es)) (G:es[q]? =co row) (D:(ev s.f x).cells=co xs) (C:xs.length=e.size) (y:off+e.size<=sz) (A:dt xs=is) (j:setCells row off xs=row)
  (h:GO P nt (.ops all rest::k) Q ⟨s.f,(i,co (.row sz es))::s.h,s.nx⟩):GO P nt (.ops all (o::rest)::k) Q s:=
 bz hg (mw B ho hd he ha hi G D C y A) fun u hu=>by subst hu;rw[xl G j];exact h
theorem fY(B:bn P ty){o:Oper}{t:TypeId}{a x:Operand}(ho:o.op= .store t a x)(hd:o.dst=io){i sz q off:Nat}{e:bC}(he:ty t=co e){es:List (List PV)}{row xs:List PV}
  (ha:ev s.f a= .cM i sz q off) (hi:s.h.get i=co (.row sz es)) (G:es[q]? =co row) (D:(ev s.f x).cells=co xs) (C:xs.length=e.size) (y:off+e.size<=sz) (A:dt xs=is) (j:setCells row off xs=row):
  OT P nt o s fun u=>u=⟨s.f,(i,co (.row sz es))::s.h,s.nx⟩:=by
 have:=mw (P:=P) (nt:=nt) B ho hd he ha hi G D C y A;rwa[xl G j]at this
theorem dd(u:bn P ty){o:Oper}{t:TypeId}{a:Operand}(ho:o.op= .load t a){e:bC}(he:ty t=co e){i sz q off:Nat}{es:List (List PV)}{row:List PV}{v:PV}
  (ha:ev s.f a= .cM i sz q off) (hi:s.h.get i=co (.row sz es)) (y:es[q]? =co row) (hr:gU e (row.drop off)=co v):
  ∀M N b w,Fits M N s nt b w-> ∃x,(execOp b.eval o).run P w= .ok (.value x) w∧VR M N (· <s.nx) v x:=by
 have hb:behind s.h (.cM i sz q off)=co (row.drop off):=by
  simp only[behind,hi,y,Nat.beq_refl]
 have j:iN ty s o.op=co (v,True):=by
  rw[ho];simp only[iN,he,ha,hb,hr]
 intro M N b w hf;exact rV u hf j ac
def HL(P:Program)(nt:NT)(all:List Oper)(s:AS):List (Nat×Oper)->Prop
 | []=>True
 |x::r=>eQ P nt all s x.2∧HL P nt all s r
theorem HL.mem{all:List Oper}{l:List (Nat×Oper)}(h:HL P nt all s l): ∀x∈l,eQ P nt all s x.2:=by
 induction l with
 |nil=>intro x j;cases j
 |cons y r ih=>
  intro x j;rcases VH.1 j with e|m
  .rw[e];exact h.1
  .exact ih h.2 x m
theorem mn(u:bn P ty){all:List Oper}{o:Oper}{t:TypeId}{a:Operand}(ho:o.op= .load t a)(hg:bQ nt all s.f o=co is){d:Nat}(hd:o.dst=co d)(j:VV d nt=is){e:bC}(he:ty t=co e){i sz q off:Nat}{es:List (List PV)}{row:List PV}{v:PV}
  (ha:ev s.f a= .cM i sz q off) (hi:s.h.get i=co (.row sz es)) (y:es[q]? =co row) (hr:gU e (row.drop off)=co v) (hs:ae v (s.f.get d)):eQ P nt all s o:=fun M N b w hf=>by
 obtain⟨x,B,A⟩:=dd u ho he ha hi y hr M N b w hf;refine⟨x,.inl ⟨fN hg hf,.inl B⟩,?_⟩;rw[hd];exact vX hd Z hs (hf.put d v x (Vm j) A)
theorem Mu(B:bn P ty)(H:List Nat){all:List Oper}{todo pend:List (Nat×Oper)}{j:Nat}{o:Oper}{s':AS}{Y J:Prop}(hrd:dq todo=[(j,o)])(hg:bQ nt all s.f o=co is)(hpb:gC all pend o=is)(hE:mW todo [j]=is)
  (hag:lD ty nt all s todo pend=co Y) (hCA:Y) (D:OT P nt o s (fun t=>t=s')) (hag2:cX ty nt all s' ((aX pend o).filter fun x=>!H.any (VP x.1))=co J) (hC2:J) (hH:HL P nt all s' ((aX pend o).filter fun x=>H.any (VP x.1)))
  (h:GO P nt (.bR all (todo.filter fun x=>!VP x.1 j) (aX pend o)::k) Q s'):GO P nt (.bR all todo pend::k) Q s:=by
 have A:(j,o)∈dq todo:=by rw[hrd];simp
 obtain⟨h3,C⟩:=V4.1 A;simp only[WA,Xg,Wm]at C;have u: ∀y∈todo,aS y.2=is-> ∀y∈pend,eQ P nt all s y.2:=by
  intro y G I;unfold lD at hag;split at hag
  .exact cq B hag hCA
  .rename_i h2;have:=Wm.1 h2 y G;rw[I]at this;exact absurd Z this
 refine oP hE ⟨_,h3,C.1⟩ u fun j' o' hj _ hu=>?_;simp only[Vz]at hj;subst hj;have:=hu o h3;subst this
 refine⟨C.1,fun y G _=>by simpa using C.2 y G,hpb,hg,_,D,fun t ht=>by
  subst ht;refine⟨fun x hx=>?_,h⟩;cases hb:H.any (VP x.1) with
  |true=>exact hH.mem x (V4.2 ⟨hx,hb⟩)
  |false=>exact cq B hag2 hC2 x (V4.2 ⟨hx,by simp only[hb];rfl⟩)⟩
theorem rm(A:bn P ty)(H:List Nat){all:List Oper}{todo pend:List (Nat×Oper)}{j:Nat}{o:Oper}{c:Call}{g:FuncId}{asv args:List PV}{os:List AO}{r:PV}{D:AH}{G:Nat}{s':AS}{C B:Prop}(L:List Nat)(hc:bg P g args os r D G)
  (hrd:dq todo=[(j,o)]) (ho:o.op= .call c) (ha:bN s.f c=co (g,asv))
  (hn:cA L=is) (hl:L.all (fun j=>VV j s.nx)=is) (y:L.map s.h.get=os.map fun o=>co (o.bY (sig L s.nx))) (u:asv=c7 (sig L s.nx) args) (hp:putDst nt o (r.bY (sig L s.nx)) (aA s L D G)=co s')
  (hg:bQ nt all s.f o=co is) (hpb:gC all pend o=is) (hE:mW todo [j]=is)
  (hag:lD ty nt all s todo pend=co C) (hCA:C) (hag2:cX ty nt all s' ((aX pend o).filter fun x=>!H.any (VP x.1))=co B) (hC2:B) (hH:HL P nt all s' ((aX pend o).filter fun x=>H.any (VP x.1)))
  (h:GO P nt (.bR all (todo.filter fun x=>!VP x.1 j) (aX pend o)::k) Q s'):GO P nt (.bR all todo pend::k) Q s:=
 Mu A H hrd hg hpb hE hag hCA (y5 L hc ho ha hn hl y u hp) hag2 hC2 hH h
end
theorem eJ.Ta{sz:Nat}{es x:List (List PV)}(hl:es.length=x.length)(h: ∀(k:Nat) (e A:List PV),es[k]? =co e->x[k]? =co A->gF e A):eJ (.row sz es) (.row sz x):=by
 have y:x=[]↔es=[]:=by rw[<-WT,<-WT,hl]
 refine⟨fun D=>?_,fun M N U w i G=>?_⟩
 .cases es with
  |nil=>rw[y.2 Z]at D;cases D
  |cons=>rfl
 .rcases G with B|⟨B,c,T,g1,g2,g3,g4,g5⟩
  .exact .inl (y.2 B)
  .refine .inr ⟨B,c,T,g1,g2,by rw[<-hl];exact g3,fun k A u=>?_,fun k A j p u I=>?_⟩
   .have hk:k<es.length:=by rw[hl];exact(Vs.1 u).1
    have:=h k _ A (Vt hk) u;rw[<-this.length];exact g4 k _ (Vt hk)
   .have hk:k<es.length:=by rw[hl];exact(Vs.1 u).1
    obtain⟨q,J,C⟩:=(h k _ A (Vt hk) u).get j p I;exact C _ _ _ _ (g5 k _ j q (Vt hk) J)
def dx:List (List PV)->List (List PV)->Prop
 | [],[]=>True
 |p::r,q::s=>gF p q∧dx r s
 |_,_=>False
theorem dx.length: ∀{a b:List (List PV)},dx a b->a.length=b.length
 | [],[],_=>rfl
 |_::_,_::_,h=>congrArg (· +1) (dx.length h.2)
 | [],_::_,h=>h.elim
 |_::_,[],h=>h.elim
theorem dx.get: ∀{a b:List (List PV)},dx a b-> ∀(k:Nat) (e j:List PV),a[k]? =co e->b[k]? =co j->gF e j
 | [],[],_,_,_,_,h,_=>by simp at h
 |p::r,q::s,hh,k,e,j,h,g=>by
  cases k with
  |zero=>simp at h g;subst h;subst g;exact hh.1
  |succ k=>exact dx.get hh.2 k e j (by simpa using h) (by simpa using g)
 | [],_::_,hh,_,_,_,_,_=>hh.elim
 |_::_,[],hh,_,_,_,_,_=>hh.elim
theorem gF.refl: ∀a:List PV,gF a a
 | []=>trivial
 |p::r=>⟨.refl p,gF.refl r⟩
theorem dx.refl: ∀a:List (List PV),dx a a
 | []=>trivial
 |p::r=>⟨gF.refl p,dx.refl r⟩
theorem dx.app: ∀{a b c d:List (List PV)},dx a b->dx c d->dx (a++c) (b++d)
 | [],[],_,_,_,h=>h
 |_::_,_::_,_,_,h,g=>⟨h.1,dx.app h.2 g⟩
 | [],_::_,_,_,h,_=>h.elim
 |_::_,[],_,_,h,_=>h.elim
theorem RG{n i:Nat}{σ:Nat->Nat}{h r:AH}{α:Type}{sz:Nat}{es:List (List PV)}{l:List α}{f:α->List IV}(ho:h.get (σ i)=co (.row sz es))(he:dx es (l.map fun x=>(f x).map .iv))(hi:VV i n=is)(hr:oC n σ h r):oC n σ h ((i,co (aV sz l f))::r):=
 ⟨⟨_,ho,(eJ.Ta he.length he.get).trans (DT σ Z)⟩,Vm hi,eC n,hr⟩
section
variable {P:Program} {ty:Ty} {nt:NT} {s:AS}
theorem M6(A:bn P ty){o:Oper}{u v:TypeId}{x:Operand}(ho:o.op= .slice u x io io io){D G:bC}(hu:ty u=co D){n:Nat}(B:D.k= .arr n v)(J:ty v=co G)
  {i off:Nat} (Y:ev s.f x= .ptr i off): ∀M N a w,Fits M N s nt a w-> ∃x,(execOp a.eval o).run P w= .ok (.value x) w∧VR M N (· <s.nx) (.nI i off n) x:=by
 intro M N a w hf;have C:P.underlying u=co (.array n v):=by
  have:=(A u _ hu).2.1;rw[B]at this;exact this
 have j:=aN hf.2.1 x;rw[Y]at j;generalize hy:a.eval x=y at j;cases j with
 |ptr _ _ hU=>
  refine⟨.slice (co ⟨N.az i,off,io⟩) n n,?_,.nI _ _ _ hU⟩;simp only[execOp,ho,hy,Xu];refine aW ?_;have I:(⟨N.az i,off,io⟩:Addr).add 0=⟨N.az i,off,io⟩:=by rw[cY,WZ]
  simp[Instr.sliceAt,run_underlying C,Instr.sliceBounds,aQ (A v _ J),Instr.sureAddr,I]
theorem I8(Y:bn P ty){o:Oper}{x y:Operand}{t t' u:TypeId}(ho:o.op= .call ⟨.builtin .copy, #[x,y], #[t,t']⟩){e eu:bC}(ht:ty t=co e)(hk:e.k= .aP (.slice u))(hu:ty u=co eu)
  {i off n:Nat} {cs:List PV} {T:Option TypeId} {news:List (List PV)} {py:PV} (hx:ev s.f x= .nI i off n) (hi:s.h.get i=co (.cells cs T)) (w0:ev s.f y=py) (hy:Src s.h eu.size py news) (c0: ∀e∈news,dt e=is)
  (hn:news.length<=n) (t0:off+news.length*eu.size<=cs.length)
  {s':AS} (hp:putDst nt o (.iv (.v (.int .i64 news.length))) ⟨s.f,(i,co (.cells (cs.take off++news.flatten++cs.drop (off+news.length*eu.size)) T))::s.h,s.nx⟩=co s'):OT P nt o s (fun t=>t=s'):=by
 refine OT.value hp fun M N a w hf=>?_
 have n0:P.underlying t=co (.slice u):=by
  have:=(Y t _ ht).2.1;rw[hk]at this;exact this.1
 have f0:=aN hf.2.1 x;rw[hx]at f0;have p0:=aN hf.2.1 y;rw[w0]at p0;obtain⟨k0,ao,c,r0,D⟩:=hy.ok hf p0;have G:=fi k0;obtain⟨B,CT,g1,g2,g3,g4,g5⟩:=hf.1.obj i _ hi;have q0:a.eval x= .slice (co ⟨N.az i,off,io⟩) n n:=by
  generalize a.eval x=z at f0;cases f0;rfl
 have C: ∀v w',(Builtin.copy_ #[t,t'] o.type #[a.eval x,a.eval y]).run P w= .ok v w'->(execOp a.eval o).run P w= .ok (.value v) w':=by
  intro v w' h;simp only[execOp,ho,resolve];simp[invoke,builtin,h]
 have a0:Nat.min news.length n=news.length:=Nat.min_eq_left hn;by_cases j0:news=[]
 .subst j0;have s0:cs.take off++([]:List (List PV)).flatten++cs.drop (off+([]:List (List PV)).length*eu.size)=cs:=by simp
  rw[s0];obtain⟨q1,q2⟩:=hf.1.write hi Z w (.cells cs T) Z Z Z Z (fun _ _=>rfl) ⟨B,CT,g1,g2,g3,g4,g5⟩;refine⟨.int .i64 0,w,M,N,C _ _ ?_,q1,⟨q2,hf.2⟩,.iv _ _ (.v _)⟩;rw[q0,r0];have hl:(Builtin.firstCells eu.size 0 (.slice ao 0 c)).run P w= .ok #[] w:=by
   cases ao with
   |none=>simp[Builtin.firstCells]
   |some a=>simp[Builtin.firstCells,loadCells,loadCellsFrom]
  simp[Builtin.copy_,run_underlying n0,Builtin.lenOf,aQ (Y u _ hu),hl,storeCells,goInt]
 .obtain⟨b,g0,rfl,I⟩:=D j0;obtain⟨vs,v1,v2,v3⟩:=kN (s:=s) I;have o0:vs.length=news.length*eu.size:=by rw[v1,G]
  have J: ∀z∈vs,z.oneCell'=is:=by
   intro z hz;obtain⟨j,A⟩:=Wh hz;have i0:j<news.flatten.length:=by rw[<-v1];exact(Vs.1 A).1
   obtain⟨k,e,i2,h1,h2,_⟩:=js k0 j _ (Vt i0);have h3:=v3 j _ (Vt i0);have h4:=h3.one (gk (c0 e (V2 h1)) i2 _ h2);rw[Vr,A]at h4;exact h4
  have hl:=run_firstCells_some (P:=P) w eu.size news.length ⟨b,g0,io⟩ news.length c vs o0 v2;have m0:=run_storeCells_at P (N.az i) off CT vs 0 B w g1 (by omega) J;simp only[WZ]at m0;have d0:=setRow_heap w (N.az i) B (B.toList.take off++vs++B.toList.drop (off+vs.length)).toArray CT (0,0) g1;have b0: ∀b,b≠N.az i->(w.setRow (N.az i) (B.toList.take off++vs++B.toList.drop (off+vs.length)).toArray).heap[b]? =w.heap[b]? :=by
   intro b hb;simp only[World.setRow,VZ];rw[be (fun e=>hb e.symm)]
  have v0: ∀(j:Nat) (p:PV),(cs.take off++news.flatten++cs.drop (off+news.length*eu.size))[j]? =co p->VR M N (· <s.nx) p ((B.toList.take off++vs++B.toList.drop (off+vs.length)).toArray.getD j undef):=by
   intro j p A;rw[Vn,Wd];have x0:(cs.take off).length=off:=by rw[V7];omega
   have e0:(B.toList.take off).length=off:=by rw[V7,Xw];omega
   rw[VF]at A ⊢;rcases Wp j off with h1|h1
   .rw[VJ (by omega)]at A ⊢;rw[V8,am h1]at A ⊢;rw[VY,<-Vn];exact g4 j p A
   .rw[VK (by omega),x0]at A;rw[VK (by omega),e0];rcases Wp (j-off) news.flatten.length with h2|h2
    .rw[VJ h2]at A;rw[VJ (by rw[v1];exact h2),<-Vr];exact v3 _ p A
    .rw[VK h2,Wl,G]at A;rw[VK (by rw[v1];exact h2),Wl,o0,VY,<-Vn];rw[G]at h2;have e1:off+news.length*eu.size+(j-off-news.length*eu.size)=j:=by omega
     rw[e1]at A;rw[e1];exact g4 j p A
  obtain⟨q1,q2⟩:=hf.1.write hi Z (w.setRow (N.az i) (B.toList.take off++vs++B.toList.drop (off+vs.length)).toArray) (.cells (cs.take off++news.flatten++cs.drop (off+news.length*eu.size)) T) Z Z Z (by simp) b0
   ⟨_,CT,d0,by simp;omega,by simp[G];omega,v0,g5⟩
  refine⟨.int .i64 news.length,_,M,N,C _ _ ?_,q1,⟨q2,hf.2⟩,.iv _ _ (.v _)⟩;rw[q0,r0];simp[Builtin.copy_,run_underlying n0,Builtin.lenOf,aQ (Y u _ hu),a0,hl,m0,goInt]
end
end
end Go.Al
namespace Go.Al
open Go.Sort Go.RowKit
def Dg(P:Program)(G k:Nat):Prop:=
 (∀{α:Type} [Inhabited α] (enc:α->List Value) (_: ∀x,(enc x).length=k) (_: ∀x,∀v∈enc x,v.oneCell'=is) (A:α->α->Int) (_:SWO fun x y=>kw (A x y<0)) (g:Nat) (D:Array Value) (j a0 b0:Nat) (d:Array α) (w:World)
  (_: ∀args w,(callFunc g args).run P w= .ok (.enter g args) w)
  (_: ∀(m:Nat) (os:Array Obj) (dk:Array α),dk.size=d.size-> ∀x y:α,
   Calls P g (#[.agg (enc x).toArray,.agg (enc y).toArray]++D) (grow (putRowK enc k (Sort.ahead w m) j a0 dk) os) fun e u=>e= .returned (.int .i64 (A x y))∧ ∃q C,u=grow ((grow (putRowK enc k (Sort.ahead w m) j a0 dk) os).drewN q) C)
  (_:HoldsK enc k w j a0 d) (_:j<w.heap.size) (_:d.size<4611686018427387904),
  Calls P G #[.slice (co ⟨j,a0,io⟩) d.size b0,.func (.func g) #[] D] w fun e u=>
   e= .returned (.tuple #[])∧ ∃B n os,PermIn 0 d.size d B∧SortedIn (fun x y=>kw (A x y<0)) 0 d.size B∧u=grow (putRowK enc k (Sort.ahead w n) j a0 B) os)∧
 ∀(p:Option Addr) (b0:Nat) (I:Value) (w:World),Calls P G #[.slice p 0 b0,I] w fun e u=>e= .returned (.tuple #[])∧u=w
def IV.flat:IV->Bool
 | .agg _=>jp
 | .v x=>x.oneCell'
 |_=>is
theorem IR.one{M:Mem}{c:IV}{v:Value}(h:IR M c v)(hf:c.flat=is):v.oneCell'=is:=by
 cases h with
 |v=>exact hf
 |agg=>cases hf
 |_=>rfl
theorem xk{β:Type}{R:β->β->Prop}: ∀{a b:List β},a.Perm b->a.Pairwise R->b.Pairwise R->(∀x∈a,∀y∈a,R x y->R y x->x=y)->a=b
 | [],b,h,_,_,_=>h.nil_eq
 |x::a,[],h,_,_,_=>absurd h.length_eq (by simp)
 |x::a,y::b,h,h1,h2,h3=>by
  rw[Wz]at h1 h2;have e:x=y:=by
   have hx:x∈y::b:=h.mem_iff.1 (VG ..);have j:y∈x::a:=h.mem_iff.2 (VG ..);rcases VH.1 hx with hx|hx
   .exact hx
   .rcases VH.1 j with hy'|hy'
    .exact hy'.symm
    .exact h3 x (VG ..) y j (h1.1 y hy') (h2.1 x hx)
  subst e;rw[xk (h.cons_inv) h1.2 h2.2 fun u hu v A=>h3 u (VE _ hu) v (VE _ A)]
theorem Mo{M x:Mem}{N y:Nm}{A:Nat->Prop}{G:AH}{U:Nat->Prop}{w j:World}(u:Ext M N U [] w x y A G j): ∃q os,j=grow (w.drewN q) os:=by
 refine⟨j.drawn-w.drawn,j.heap.extract w.heap.size j.heap.size,?_⟩;have hh:j.heap=w.heap++j.heap.extract w.heap.size j.heap.size:=by
  refine Array.ext_getElem? fun b=>?_;by_cases hb:b<w.heap.size
  .rw[V3 hb];exact u.gu b hb fun i o I=>nomatch I
  .rw[Xi (by omega),Array.getElem?_extract];have:=u.size;split
   .congr 1;omega
   .rw[XN];omega
 have hd:=u.output.drawn;have B:=u.os;have C:=u.tape;have D:=u.output.out;cases j;cases w;simp only[grow,World.drewN] at*
 subst B C D;simp only[World.mk.injEq,and_true,true_and];exact⟨hh,by omega⟩
def BW{β:Type}(M:Mem)(ev:β->List IV)(ok:β->Prop)(k:Nat):Type:=
 {p:β×List Value//ok p.1∧p.2.length=k∧(∀v∈p.2,v.oneCell'=is)∧ ∀j c,(ev p.1)[j]? =co c->IR M c (p.2.getD j undef)}
theorem w9{β:Type}{l:List β}{f:β->List IV}{i:Nat}{e:List PV}(h:(l.map fun x=>(f x).map PV.iv)[i]? =co e): ∃s,l[i]? =co s∧e=(f s).map PV.iv:=by
 rw[Vv,Vw]at h;obtain⟨s,h1,rfl⟩:=h;exact⟨s,h1,rfl⟩
set_option maxHeartbeats 1000000 in
theorem wX{P:Program}{fs g k:Nat}{β:Type}(hS:Dg P fs k)(m1:fm P fs)(k1:fm P g)(t0:0<k)(ev:β->List IV)(a0:β->β->Int)(ok:β->Prop)
  (n1: ∀x y,ok x->ok y->Pure P g [ag (ev x),ag (ev y)] (pI (a0 x y))) (f0: ∀x,(ev x).length=k) (p1: ∀x,∀c∈ev x,c.flat=is)
  (QS: ∀x,ok x-> ¬a0 x x<0) (tr: ∀x y z,ok x->ok y->ok z->a0 x y<0->a0 y z<0->a0 x z<0) (T7: ∀x y z,ok x->ok y->ok z-> ¬a0 x y<0-> ¬a0 y z<0-> ¬a0 x z<0)
  (l l':List β) (hl: ∀x∈l,ok x) (RA: ∀x∈l,∀y∈l,¬a0 x y<0-> ¬a0 y x<0->x=y) (hp:l.Perm l') (hs:l'.Pairwise fun x y=> ¬a0 y x<0) (t1:l.length<=1000000000000)
  (pv:PV) (a2: ∀M N U v,VR M N U pv v->v= .func (.func g) #[] #[]):
  bg P fs [.sl 0 0 l.length k,pv] [aV k l ev] (.aZ []) [(0,co (aV k l' ev))] 1:=by
 refine⟨m1,fun M N w vs hr i0 hv=>?_⟩;obtain⟨v,v1,rfl⟩: ∃v v1,vs=[v,v1]:=by
  match vs,i0 with
  | [v,v1],_=>exact⟨v,v1,rfl⟩
 have J:=hv 0 _ Z;have i1:=a2 _ _ _ _ (hv 1 _ Z);simp only[Xk]at J;simp only[WQ,Xk]at i1;subst i1;have z1:=hr.obj 0 _ Z;cases l with
 |nil=>
  have s1:l'=[]:=(hp.nil_eq).symm;subst s1;obtain⟨p,b0,rfl⟩: ∃p b0,v= .slice p 0 b0:=by
   generalize B:PV.sl 0 0 ([]:List β).length k=q at J;cases J with
   |sl i off len sz b0 h h0 h1 hc he=>cases B;simp at h0
   |kP i sz h=>exact⟨_,_,rfl⟩
   |sle i sz b0 h hc he=>cases B
   |_=>cases B
  refine(hS.2 p b0 _ w).mono ?_;rintro e w' ⟨rfl,rfl⟩;exact⟨_,M,N,.aZ [],_,1,rfl,⟨rfl,rfl,rfl⟩,.refl _ _ _ _ _,hr,.aZ [] #[] Z (by simp)⟩
 |cons s0 r=>
  generalize hL:s0::r=L at*
  have m0:0<L.length:=by rw[<-hL];simp
  obtain⟨b0,b2⟩: ∃b0,v= .slice (co ⟨N.az 0,0,io⟩) L.length b0:=by
   generalize hn:L.length=n at J m0;generalize B:PV.sl 0 0 n k=q at J;cases J with
   |sl i off len sz b0 h h0 h1 hc he=>cases B;exact⟨b0,by simp⟩
   |kP i sz h=>cases B;omega
   |_=>cases B
  subst b2;rcases z1 with h0|⟨_,c,T,h1,h2,h3,h4,h5⟩
  .rw[<-hL]at h0;cases h0
  rw[VS]at h3;have v0:(aV k L ev).real=is:=by rw[<-hL];rfl
  have x1:=hr.lt (i:=0) Z v0;have n0: ∀(i:Nat) (x:β),L[i]? =co x-> ∀j q,(ev x)[j]? =co q->IR M q (c.getD (i*k+j) undef):=fun i x u j q B=>by
   have:=h5 i ((ev x).map .iv) j (.iv q) (by rw[Vv,u];rfl) (by rw[Vv,B];rfl);cases this with
   |iv _ _ h=>exact h
  let z0:(i:Nat)->(h:i<L.length)->BW M ev ok k:=fun i h=>⟨(L[i],(V0 k).map fun j=>c.getD (i*k+j) undef),by
   have hg: ∀j,j<k-> ∃q,(ev L[i])[j]? =co q:=fun j A=>⟨_,Vt (by rw[f0];exact A)⟩
   refine⟨hl _ (Wj h),by simp,fun v hv=>?_,fun j q B=>?_⟩
   .rw[V5]at hv;obtain⟨j,A,rfl⟩:=hv;obtain⟨q,B⟩:=hg j (WX.1 A);exact(n0 i _ (Vt h) j q B).one (p1 _ q (V2 B))
   .have A:j<k:=by rw[<-f0 L[i]];exact(Vs.1 B).1
    have:=n0 i _ (Vt h) j q B;rw[Vr,Vv,XZ A]
    exact this⟩
  haveI:Inhabited (BW M ev ok k):=⟨z0 0 m0⟩
  let d:Array (BW M ev ok k):=Array.ofFn (n:=L.length) fun i=>z0 i.1 i.2
  have D:d.size=L.length:=by simp[d]
  let enc:BW M ev ok k->List Value:=fun x=>x.1.2
  have I: ∀x,(enc x).length=k:=fun x=>x.2.2.1
  have a1: ∀i (h:i<L.length),d[i]! =z0 i h:=fun i h=>by
   rw[getElem!_pos d i (by rw[D];exact h)];simp[d]
  have hH:HoldsK enc k w (N.az 0) 0 d:=by
   intro t ht;rw[size_flatK,D]at ht;have B:t/k<L.length:=Nat.div_lt_of_lt_mul (by rw[Yd];exact ht);have hm:t % k<k:=Nat.mod_lt _ t0;have hb:t/k*k+t % k=t:=Nat.div_add_mod' t k;have g1:t<c.size:=by omega
   constructor
   .simp only[World.cell?,h1,VL,Option.isSome_none,Xe,if_false];rw[get_flatK _ _ _ _ (by rw[D];exact ht),a1 _ B];show c[t]? =co (((V0 k).map fun j=>c.getD (t/k*k+j) undef)[t % k]!);rw[getElem!_pos _ _ (by simpa using hm)];simp only[Xb,List.getElem_range,hb];rw[V6 g1,Vn,V6 g1];rfl
   .simp[World.frozen?,h1]
  have hO:SWO fun x y:BW M ev ok k=>kw (a0 x.1.1 y.1.1<0):=
   ⟨fun x=>decide_eq_false (QS _ x.2.1),fun x y z a b=>decide_eq_true (tr _ _ _ x.2.1 y.2.1 z.2.1 (of_decide_eq_true a) (of_decide_eq_true b)),
    fun x y z a b=>decide_eq_false (T7 _ _ _ x.2.1 y.2.1 z.2.1 (of_decide_eq_false a) (of_decide_eq_false b))⟩
  have Y: ∀x:BW M ev ok k,VR M N (· <0) (ag (ev x.1.1)) (.agg (enc x).toArray):=fun x=>by
   refine .agg _ _ (by simp[I,f0]) fun j p A=>?_;rw[Vv,Vw]at A;obtain⟨q,B,rfl⟩:=A;refine .iv _ _ ?_;have:=x.2.2.2.2 j q B;rw[Vn,Wd,<-Vr];exact this
  have q0: ∀(m:Nat) (os:Array Obj) (dk:Array (BW M ev ok k)),dk.size=d.size-> ∀x y:BW M ev ok k,
    Calls P g (#[.agg (enc x).toArray,.agg (enc y).toArray]++ #[]) (grow (putRowK enc k (Sort.ahead w m) (N.az 0) 0 dk) os) fun e w'=>
     e= .returned (.int .i64 (a0 x.1.1 y.1.1))∧ ∃q c2,w'=grow ((grow (putRowK enc k (Sort.ahead w m) (N.az 0) 0 dk) os).drewN q) c2:=by
   intro m os dk _ x y;generalize hW:grow (putRowK enc k (Sort.ahead w m) (N.az 0) 0 dk) os=W;have g0: ∀b,b<w.heap.size->b≠N.az 0->W.heap[b]? =w.heap[b]? :=fun b hb hn=>by
    rw[<-hW];show((w.heap.modify (N.az 0) _)++os)[b]? =_;rw[V3 (by simpa using hb),VZ,be fun e=>hn e.symm]
   have w0:Rel M N (· <([]:List AO).length) (cF 0 []) W:=
    ⟨fun b c hb=>(hr.dA b c hb).mono (g0 b (hr.dA b c hb).lt fun e=>by
      have:=hr.dG 0 _ Z v0
      rw[e]at hb;rw[hb]at this;cases this),
     fun i o u=>(nomatch u),fun i o u=>(nomatch u),fun i o u=>(nomatch u),fun i j o p u=>(nomatch u)⟩
   refine((n1 x.1.1 y.1.1 x.2.1 y.2.1).2 M N W [.agg (enc x).toArray,.agg (enc y).toArray] w0 Z fun j p A=>?_).mono ?_
   .match j with
    |0=>cases A;exact Y x
    |1=>cases A;exact Y y
    |j+2=>simp at A
   .rintro e w' ⟨v,M',N',r,h',n',rfl,⟨rfl,rfl,rfl⟩,hx,_,hv⟩;cases hv with
    |iv _ _ h=>cases h;exact⟨rfl,Mo hx⟩
  have c0:=hS.1 enc I (fun x=>x.2.2.2.1) (fun x y=>a0 x.1.1 y.1.1) hO g #[] (N.az 0) 0 b0 d w k1 q0 hH x1 (by omega);rw[D]at c0;refine c0.mono ?_;rintro e w' ⟨rfl,d',n,os,hpm,hst,rfl⟩;have d0:d'.size=L.length:=hpm.1.trans D;have j1:(d'.toList.map fun x=>x.1.1)=l':=by
   have b1:(d.toList.map fun x=>x.1.1)=L:=by
    refine XX (by simpa using D) fun i h1 h2=>?_;have h3:i<L.length:=h2;have:=a1 i h3;rw[getElem!_pos d i (by omega)]at this;rw[Xb,Array.getElem_toList,this]
   have k0:d'.toList.Perm d.toList:=by
    have:=hpm.2.2;rw[show d'.extract 0 L.length=d' by rw[<-d0,YY],show d.extract 0 L.length=d by rw[<-D,YY]]at this;exact this
   refine xk ((k0.map _).trans (by rw[b1];exact hp)) ?_ hs fun x hx y hy a b=>?_
   .rw[WI];intro i j u A r1;simp only[VS,Xw]at u A;have:=of_decide_eq_false (hst i j (VB _) r1 (by omega));rw[getElem!_pos d' i u,getElem!_pos d' j A]at this;simpa using this
   .have hm: ∀z,z∈(d'.toList.map fun x=>x.1.1)->z∈L:=fun z hz=>by
     rw[<-b1];exact((k0.map _).mem_iff).1 hz
    exact RA x (hm x hx) y (hm y hy) b a
  subst j1;generalize hW:putRowK enc k (Sort.ahead w n) (N.az 0) 0 d'=w1;have r0:w1.heap=w.heap.modify (N.az 0) (onCells (putCells id 0 (flatK enc k d'))):=by rw[<-hW];rfl
  have f1:w1.heap.size=w.heap.size:=by rw[r0];simp
  have x0:OR M N (· <1) w1 0 (aV k (d'.toList.map fun x=>x.1.1) ev):=by
   refine .inr ⟨t0,putCells id 0 (flatK enc k d') c,T,?_,?_,?_,?_,?_⟩
   .rw[r0,VZ,am Z,h1];rfl
   .simp[putCells,h2]
   .simp only[VS,Xw,d0,putCells,Array.size_mapIdx];omega
   .intro i e he;obtain⟨s,_,rfl⟩:=w9 he;simp[f0]
   .intro i e j p he A;obtain⟨s,d1,rfl⟩:=w9 he;rw[Vv,Vw]at A;obtain⟨q,B,rfl⟩:=A;rw[Vv,Vw]at d1;obtain⟨y,hy,rfl⟩:=d1;have u:i<d'.size:=by
     have:=(Vs.1 hy).1;simpa using this
    have A:j<k:=by rw[<-f0 y.1.1];exact(Vs.1 B).1
    have j0:=VO k (show i+1<=d'.size from u);rw[Wg,Nat.one_mul]at j0;have o1:d'[i]! =y:=by
     rw[getElem!_pos d' i u];rw[VY,V6 u]at hy;exact Wq hy
    have e0:(putCells id 0 (flatK enc k d') c).getD (i*k+j) undef=(enc y).getD j undef:=by
     have q1:i*k+j<c.size:=by rw[d0]at j0;omega
     rw[Vn];simp only[putCells,Array.getElem?_mapIdx];rw[V6 q1,Ww,Wv,am ⟨VB _,by rw[size_flatK];omega⟩,Yb,id,get_flatK _ _ _ _ (by omega)];have e1:(i*k+j)/k=i:=by rw[Yd,Nat.mul_add_div t0,Nat.div_eq_of_lt A];rfl
     have e2:(i*k+j) % k=j:=by rw[Yd,Nat.mul_add_mod,XH A]
     rw[e1,e2,o1,getElem!_pos _ j (by rw[I];exact A),Vr,Vt (by rw[I];exact A)];rfl
    rw[e0];exact .iv _ _ (y.2.2.2.2 j q B)
  have G:=hr.write (i:=0) (o0:=aV k L ev) Z v0 w1 (aV k (d'.toList.map fun x=>x.1.1) ev) (by rw[<-hW];rfl) (by rw[<-hW];rfl) (by rw[<-hW];rfl) f1 (fun b hb=>by
   rw[r0,VZ,be fun e=>hb e.symm]) x0 (by rw[<-hW];exact Yk _ _)
  have p0:Rel M N (· <1) ((0,co (aV k (d'.toList.map fun x=>x.1.1) ev))::cF 0 [aV k L ev]) (grow w1 os):=G.2.more fun b hb=>by
   show(w1.heap++os)[b]? =_;rw[V3 hb]
  have C: ∀i o,AH.get [(0,co (aV k (d'.toList.map fun x=>x.1.1) ev))] i=co o->AH.get ((0,co (aV k (d'.toList.map fun x=>x.1.1) ev))::cF 0 [aV k L ev]) i=co o:=by
   intro i o h;rw[AH.ax]at h ⊢;split at h
   .rename_i h6;rw[am h6];exact h
   .simp[AH.get]at h
  refine⟨_,M,N,.aZ [],_,1,rfl,⟨rfl,rfl,rfl⟩,⟨G.1.os,G.1.tape,⟨G.1.output.out,G.1.output.drawn⟩,?_,?_,.refl _,fun b c h1 h2=>(nomatch (h1.symm.trans h2)),.refl _ _,fun _ h=>h,fun i o u=>G.1.gh i o (C i o u)⟩,?_,.aZ [] #[] Z (by simp)⟩
  .show w.heap.size<=(grow w1 os).heap.size;rw[size_grow,f1];omega
  .intro b hb hn;have h7:=G.1.gu b hb hn;show(w1.heap++os)[b]? =_;rw[V3 (by omega)];exact h7
  .exact⟨p0.dA,fun i o u=>p0.used i o (C i o u),fun i o u=>p0.dG i o (C i o u),fun i o u=>p0.obj i o (C i o u),fun i j o p u A=>p0.inj i j o p (C i o u) (C j p A)⟩
def JD(P:Program)(f:Nat):Prop:=
 ∀(b:Nat) (es:Array MapEntry) (clock:Nat) (w:World),w.heap[b]? =co (.map es clock)->Calls P f #[.map (co b)] w fun e j=>e= .returned (.map (co w.heap.size))∧j=w.alloc (.map es clock)
def AO.isMap:AO->Bool
 | .fh=>is
 | .map ..=>is
 | .hQ ..=>is
 |_=>jp
theorem OR.isMap{M:Mem}{N:Nm}{U:Nat->Prop}{w:World}{i:Nat}{o:AO}(h:OR M N U w i o)(ho:o.isMap=is): ∃es clock,w.heap[N.az i]? =co (.map es clock):=by
 cases o with
 |fh=>exact⟨_,_,h⟩
 |map=>obtain⟨es,clock,h1,_⟩:=h;exact⟨_,_,h1⟩
 |hQ=>obtain⟨es,h1,_⟩:=h;exact⟨_,_,h1⟩
 |_=>cases ho
theorem OR.TX{M:Mem}{N x:Nm}{U A:Nat->Prop}{w y:World}{i j:Nat}{o:AO}(h:OR M N U w i o)(ho:o.isMap=is)(e:y.heap[x.az j]? =w.heap[N.az i]?):OR M x A y j o:=by
 cases o with
 |fh=>exact e.trans h
 |map=>obtain⟨es,clock,h1,u⟩:=h;exact⟨es,clock,e.trans h1,u⟩
 |hQ=>obtain⟨es,h1,u⟩:=h;exact⟨es,e.trans h1,u⟩
 |_=>cases ho
theorem Jb{P:Program}{f:Nat}(hS:JD P f)(hc:fm P f){o:AO}(ho:o.isMap=is):bg P f [.mp 0] [o] (.mp 1) [(1,co o),(0,co o)] 2:=by
 refine⟨hc,fun M N w vs A j B=>?_⟩;obtain⟨v,rfl⟩: ∃v,vs=[v]:=by
  match vs,j with
  | [v],_=>exact⟨v,rfl⟩
 have x:=B 0 _ Z;simp only[Xk]at x;obtain rfl:v= .map (co (N.az 0)):=by cases x;rfl
 have u:=A.obj 0 _ Z;obtain⟨es,clock,h1⟩:=u.isMap ho;refine(hS (N.az 0) es clock w h1).mono ?_;rintro e Y ⟨rfl,rfl⟩;obtain⟨y,C,I,J,D,G⟩:=A.alloc (n:=1) (.map es clock) o 0 fun y g1 g2 g3=>u.TX ho (by rw[g1,h1];exact heap_alloc_new w _);refine⟨_,M,y,.mp 1,_,2,rfl,⟨rfl,rfl,rfl⟩,D,G,?_⟩;have:=VR.mp (M:=M) (N:=y) (U:=(· <2)) 1 (by decide);rw[C]at this;exact this
end Go.Al
namespace Go.Al
open Go.MapKept
section
section
variable {P:Program} {ty:Ty} {nt:NT} {s:AS} {Q:AQ} {k:List KI}
theorem xd(Y:bn P ty){o:Oper}{t:TypeId}{x:Operand}(ho:o.op= .range t x){i:Nat}{kc:KC}{V:Type}{e:V->IV}{z:V}{G:Value}{D:PV->V}{m:List (kc.K×V)}(hx:ev s.f x= .mp i)(hi:s.h.get i=co (.map kc e z G D m))
  {te:bC} (ht:ty t=co te) {kt et:TypeId} (J:te.k= .aP (.map kt et)) {d:Nat} (hd:o.dst=co d) (hlt:d<nt):
  OT P nt o s fun u=> ∃bs clock,bs.length=m.length∧bs.Nodup∧(∀b∈bs,b<clock)∧u=⟨(d,.ptr s.nx 0)::s.f,(s.nx,co (.eh (.mp i) clock []))::(i,co (.hQ kc e z G D m bs clock))::s.h,s.nx+1⟩:=by
 have hu:P.underlying t=co (.map kt et):=by
  have:=(Y _ _ ht).2.1;rw[J]at this;exact this.1
 intro M N a w hf K Z hk;have A:=aN hf.2.1 x;rw[hx]at A;have I:a.eval x= .map (co (N.az i)):=by
  generalize a.eval x=y at A;cases A;rfl
 obtain⟨ents,clock,g1,g2,g3⟩:=hf.1.obj i _ hi;obtain⟨q1,q2⟩:=hf.1.write hi rfl w (.hQ kc e z G D m (ents.toList.map MapEntry.born) clock) rfl rfl rfl rfl (fun _ _=>rfl) ⟨ents,g1,g2,g3,rfl⟩
 obtain⟨C,r1,r2,r3,r4,r5⟩:=q2.alloc (.mapIter (co (N.az i)) clock #[] clock) (.eh (.mp i) clock []) 0 (fun C h1 h2 h3=>
  ⟨N.az i,by have:=VR.mp (M:=M) (N:=C) (U:=(· <s.nx+1)) i (W2 (hf.1.used i _ hi));rwa[h3.az i (hf.1.used i _ hi)]at this,by rw[h1];exact heap_alloc_new w _⟩)
 have B:(execOp a.eval o).run P w= .ok (.value (.pointer (co ⟨w.heap.size,0,io⟩))) (w.alloc (.mapIter (co (N.az i)) clock #[] clock)):=by
  simp only[execOp,ho,I];simp[Instr.range,run_underlying hu,getObj,Sem.run,g1,Result.andThen]
 unfold Oper.wp;rw[B];simp only[Oper.upon];refine hk M C _ _ _ (q1.trans r4) ?_ ⟨_,clock,by simp[g2.size],?_,fun b hb=>?_,rfl⟩
 .rw[hd];refine Fits.put (s:=⟨s.f,(s.nx,co (.eh (.mp i) clock []))::(i,co (.hQ kc e z G D m (ents.toList.map MapEntry.born) clock))::s.h,s.nx+1⟩) ⟨r5,fun d=>(hf.2.1 d).mono (.refl _) r3 (fun i hi=>W2 hi),hf.2.2⟩ d _ _ hlt ?_;have:=VR.ptr (M:=M) (N:=C) (U:=(· <s.nx+1)) s.nx 0 (by omega);rw[r1]at this;exact this
 .rw[List.Nodup,List.pairwise_map,WI];intro p q hp hq b0 he;have:=g2.inj p q _ _ (by rw[<-VY,Vt hp]) (by rw[<-VY,Vt hq]) he;omega
 .obtain⟨x,a0,rfl⟩:=V5.1 hb;obtain⟨j,hj⟩:=Wh a0;exact g2.lt j x (by simpa using hj)
theorem A3{o:Oper}{it:Operand}(ho:o.op= .next it jp){i j:Nat}(o0:ev s.f it= .ptr i 0){kc:KC}{V:Type}{e:V->IV}{z:V}{zv:Value}{dv:PV->V}{m:List (kc.K×V)}{bs A:List Nat}{clock:Nat}
  (hi:s.h.get i=co (.eh (.mp j) clock A)) (hj:s.h.get j=co (.hQ kc e z zv dv m bs clock)) {d:Nat} (hd:o.dst=co d) (hlt:d<nt):
  OT P nt o s fun u=>((∀(q b:Nat),bs[q]? =co b->b∈A)∧u=⟨(d,.aZ [.kb jp])::s.f,s.h,s.nx⟩)∨
   ∃(q:Nat) (x:kc.K×V) (b:Nat),m[q]? =co x∧bs[q]? =co b∧b∉A∧u=⟨(d,.aZ [.kb is,kc.pk x.1,(e x.2).pv])::s.f,(i,co (.eh (.mp j) clock (A++ [b])))::s.h,s.nx⟩:=by
 intro M N a w hf K Z hk;have hx:=aN hf.2.1 it;rw[o0]at hx;have i0:=hf.1.obj i _ hi;have a0:N.az i<w.heap.size:=OR.lt i0 rfl;have g0:a.eval it= .pointer (co ⟨N.az i,0,io⟩):=by
  generalize a.eval it=y at hx;cases hx;rfl
 obtain⟨b0,e0,h1⟩:=i0;have n0:b0=N.az j:=by cases e0;rfl
 subst n0;obtain⟨ents,hb,h3,h4,h5⟩:=hf.1.obj j _ hj;have d0: ∀x∈ents.toList,x.born<clock:=by
  intro x hx;obtain⟨j,hj⟩:=Wh hx;exact h3.lt j x (by simpa using hj)
 have f0: ∀q (G:q<ents.size),bs[q]? =co ents[q].born:=fun q G=>by
  rw[<-h5,Vv,VY,V6 G];rfl
 unfold Oper.wp;rcases run_next_at (P:=P) w o.type (N.az i) (N.az j) clock clock A.toArray ents clock h1 hb d0 (VA _) with⟨g1,g2⟩|⟨x,m0,I,k0,g2⟩
 .have D:(execOp a.eval o).run P w= .ok (.value (.tuple #[.bool jp])) w:=by
   simp only[execOp,ho,g0];exact aW g2
  rw[D];simp only[Oper.upon]
  refine hk M N ⟨(d,.aZ [.kb jp])::s.f,s.h,s.nx⟩ _ w (.refl _ _ _ _ _) (by
   rw[hd]
   exact hf.put d _ _ hlt (.aZ _ _ rfl fun j p C=>by
    match j with
    |0=>simp at C;subst C;exact .kb _
    |j+1=>simp at C)) (.inl ⟨fun q b G=>?_,rfl⟩)
  have q0:q<ents.size:=by
   have:=(Vs.1 G).1;rw[<-h5]at this;simpa using this
  rw[f0 q q0]at G;cases G;refine XY fun hn=>?_
  have:ents[q]∈leftOf ents A.toArray:=by
   simp only[leftOf,Yj];exact⟨by simp,by simpa using hn⟩
  rw[WJ g1]at this;simp at this
 .have D:(execOp a.eval o).run P w= .ok (.value (.tuple #[.bool is,x.key,x.val])) (nR I (N.az i) (.mapIter (co (N.az j)) clock (A.toArray.push x.born) clock)):=by
   simp only[execOp,ho,g0];rw[Sem.run_bind,g2];rfl
  rw[D];simp only[Oper.upon];simp only[leftOf,YN,Yj]at m0;obtain⟨s0,t0⟩:=m0;obtain⟨q,G,j0⟩:=YO s0;have r0:q<m.length:=by rw[<-h3.size];exact G
  have c0:m[q]? =co m[q]:=Vt r0;have B:I.heap=w.heap∧I.os=w.os∧I.tape=w.tape∧I.output=w.output:=by
   rcases k0 with rfl|rfl<;>exact⟨rfl,rfl,rfl,rfl⟩
  have p0:OR M N (· <s.nx) (nR I (N.az i) (.mapIter (co (N.az j)) clock (A.toArray.push x.born) clock)) i (.eh (.mp j) clock (A++ [x.born])):=by
   refine⟨N.az j,e0,?_⟩;show(I.heap.setIfInBounds _ _)[_]? =_;rw[V1,am rfl,B.1,am a0];simp
  obtain⟨q1,q2⟩:=hf.1.write hi rfl (nR I (N.az i) (.mapIter (co (N.az j)) clock (A.toArray.push x.born) clock)) _ B.2.1 B.2.2.1 B.2.2.2 (by simp[nR,B.1]) (fun c hc=>by
   show(I.heap.setIfInBounds _ _)[c]? =_
   rw[V1,be (fun e=>hc e.symm),B.1]) p0 (k0.elim (fun e=>e▸VA _) fun e=>e▸Xx _)
  have J:=h3.key q _ c0;have Y:=h3.val q _ c0;rw[h3.CZ G,j0]at J Y
  refine hk M N ⟨(d,.aZ [.kb is,kc.pk m[q].1,(e m[q].2).pv])::s.f,(i,co (.eh (.mp j) clock (A++ [x.born])))::s.h,s.nx⟩ _ _ q1 (by
   rw[hd];refine Fits.put (s:=⟨s.f,(i,co (.eh (.mp j) clock (A++ [x.born])))::s.h,s.nx⟩) ⟨q2,hf.2⟩ d _ _ hlt (.aZ _ _ rfl fun q p C=>?_)
   match q with
   |0=>simp at C;subst C;exact .kb _
   |1=>simp at C;subst C;simp only[Vn];simp;rw[J];exact xj kc _
   |2=>simp at C;subst C;exact xe Y
   |q+3=>simp at C) (.inr ⟨q,m[q],x.born,c0,by rw[f0 q G,j0],by simpa using t0,rfl⟩)
theorem xP{o:Oper}{it:Operand}(ho:o.op= .entry it){i j:Nat}(e0:ev s.f it= .ptr i 0){kc:KC}{V:Type}{e:V->IV}{z:V}{zv:Value}{dv:PV->V}{m:List (kc.K×V)}{bs A:List Nat}{clock:Nat}
  (hi:s.h.get i=co (.eh (.mp j) clock A)) (hj:s.h.get j=co (.hQ kc e z zv dv m bs clock)) {q:Nat} {x:kc.K×V} {b:Nat} (hl:A.getLast? =co b) (hq:bs[q]? =co b) (hm:m[q]? =co x) {s':AS}
  (hp:putDst nt o (.aZ [kc.pk x.1,(e x.2).pv]) s=co s'):OT P nt o s fun u=>u=s':=by
 refine OT.value hp fun M N a w hf=>?_;have hx:=aN hf.2.1 it;rw[e0]at hx
 have d0:a.eval it= .pointer (co ⟨N.az i,0,io⟩):=by
  generalize a.eval it=y at hx;cases hx;rfl
 obtain⟨b0,a0,h1⟩:=hf.1.obj i _ hi;have c0:b0=N.az j:=by cases a0;rfl
 subst c0;obtain⟨ents,hb,h3,h4,h5⟩:=hf.1.obj j _ hj;have I:q<ents.size:=by
  have:=(Vs.1 hq).1;rw[<-h5]at this;simpa using this
 have J:ents[q].born=b:=by
  rw[<-h5,Vv,VY,V6 I]at hq;simpa using hq
 have B:=h3.key q _ hm;have C:=h3.val q _ hm;rw[h3.CZ I]at B C;have G:ents.find? (fun e=>e.born==b)=co ents[q]:=by
  rw[Array.find?_eq_some_iff_getElem];refine⟨by simp[J],q,I,rfl,fun p f0=>?_⟩;simp only[WA,beq_eq_false_iff_ne];intro he;have:=h3.inj p q ents[p] ents[q] (by simp) (by simp) (he.trans J.symm);omega
 refine⟨.tuple #[ents[q].key,ents[q].val],w,M,N,?_,.refl _ _ _ _ _,hf,?_⟩
 .simp only[execOp,ho,d0];refine aW ?_;have D:A.toArray.back? =co b:=by simpa using hl
  simp[Instr.entry,getObj,Sem.run,h1,hb,D,G,Result.andThen]
 .refine .aZ _ _ Z fun p r Y=>?_
  match p with
  |0=>simp at Y;subst Y;simp only[Vn];simp;rw[B];exact xj kc _
  |1=>simp at Y;subst Y;exact xe C
  |p+2=>simp at Y
theorem Da(B:bn P ty){o:Oper}{I ko:Operand}{t t':TypeId}(ho:o.op= .call ⟨.builtin .delete, #[I,ko], #[t,t']⟩){j:Nat}(hm:ev s.f I= .mp j){kc:KC}{V:Type}{e:V->IV}{z:V}{zv:Value}{Y:PV->V}{m:List (kc.K×V)}{bs:List Nat}{clock:Nat}
  (hj:s.h.get j=co (.hQ kc e z zv Y m bs clock)) {te:bC} (ht:ty t=co te) {kt et:TypeId} (d0:te.k= .aP (.map kt et)) (G:dK ty kt=co kc) {J:kc.K} (b0:kc.dk (ev s.f ko)=co J) {q:Nat} (C:kz kc m J=co q) {s':AS}
  (hp:putDst nt o .any ⟨s.f,(j,co (.hQ kc e z zv Y (m.eraseIdx q) (bs.eraseIdx q) clock))::s.h,s.nx⟩=co s'):OT P nt o s fun u=>u=s':=by
 have hu:P.underlying t=co (.map kt et):=by
  have:=(B _ _ ht).2.1;rw[d0]at this;exact this.1
 refine OT.value hp fun M N a w hf=>?_;have e0:=Ex b0 (aN hf.2.1 ko);have A:=aN hf.2.1 I;rw[hm]at A
 have i0:a.eval I= .map (co (N.az j)):=by
  generalize a.eval I=y at A;cases A;rfl
 obtain⟨ents,h1,h2,h3,h4⟩:=hf.1.obj j _ hj;have f0:=OR.lt (hf.1.obj j _ hj) Z;have a0:=kX (P:=P) (w:=w) B G J ents.isEmpty 9994;have D:=mU (P:=P) (w:=w) B G J h2.keys;rw[C]at D;have hg:(getObj (N.az j)).run P w= .ok (.map ents clock) w:=by simp[getObj,Sem.run,h1]
 obtain⟨v,g0,_⟩:=l4 C;have j0:=(Vs.1 g0).1;have c0:=h2.erase j0
 obtain⟨g3,g4⟩:=hf.1.write hj Z (nR w (N.az j) (.map (ents.eraseIdxIfInBounds q) clock)) (.hQ kc e z zv Y (m.eraseIdx q) (bs.eraseIdx q) clock) Z Z Z (by simp[nR]) (fun b hb=>by
  show(w.heap.setIfInBounds _ _)[b]? =_
  rw[V1,be (fun e=>hb e.symm)]) ⟨ents.eraseIdxIfInBounds q,by
   show(w.heap.setIfInBounds _ _)[_]? =_;rw[V1,am Z,am f0],c0,h3,by
   rw[<-h4];have key: ∀(l:List MapEntry) (n:Nat),(l.eraseIdx n).map MapEntry.born=(l.map MapEntry.born).eraseIdx n:=by
    intro l
    induction l with
    |nil=>intro n;rfl
    |cons x l ih=>intro n;cases n with
     |zero=>rfl
     |succ n=>simp[List.eraseIdx,ih n]
   simp[key]⟩
 refine⟨.tuple #[],_,M,N,?_,g3,⟨g4,hf.2.1,hf.2.2⟩,.any _⟩;simp only[execOp,ho,resolve];simp[invoke,builtin,i0,e0,Builtin.delete_,run_underlying hu,hg,a0,D,jf (P:=P) _ h1]
theorem MX{kc:KC}{V:Type}{e:V->IV}{z:V}{u:Value}{j:PV->V}{m:List (kc.K×V)}{bs:List Nat}{clock:Nat}:eJ (.hQ kc e z u j m bs clock) (.map kc e z u j m):=
 ⟨fun _=>rfl,fun _ _ _ _ _ ⟨ents,h1,h2,h3,_⟩=>⟨ents,clock,h1,h2,h3⟩⟩
end
def lr(bs vs:List Nat):List Nat:=vs.map fun j=>bs.getD j 0
theorem uE{bs vs:List Nat}{q b:Nat}(hb:bs[q]? =co b)(h:b∉lr bs vs):q∉vs:=fun m=>h (V5.2 ⟨q,m,by rw[Vr,hb];rfl⟩)
theorem G1{bs vs:List Nat}(hn:bs.Nodup)(C: ∀j∈vs,j<bs.length)(h: ∀(q b:Nat),bs[q]? =co b->b∈lr bs vs): ∀q,q<bs.length->q∈vs:=by
 intro q y;obtain⟨j,A,x⟩:=V5.1 (h q _ (Vt y));have u:=C j A;rw[Vr,Vt u,Wv]at x;have:j=q:=by
  have B:=WI.1 hn;rcases XA j q with g|g|g
  .exact absurd x (B j q u y g)
  .exact g
  .exact absurd x.symm (B q j y u g)
 exact this▸A
theorem yg{n:Nat}{vs:List Nat}(hn:vs.Nodup)(u: ∀j∈vs,j<n)(h: ∀q,q<n->q∈vs):vs.Perm (V0 n):=
 (W6 hn List.nodup_range).2 fun q=>⟨fun m=>WX.2 (u q m),fun m=>h q (WX.1 m)⟩
theorem BZ{n:Nat}{vs:List Nat}(hn:vs.Nodup)(x: ∀j∈vs,j<n):vs.length<=n:=by
 have:=WK hn (l₂:=V0 n) (fun i u=>WX.2 (x i u));simpa using this
theorem cy{α:Type}(m:List α)(d:α):(V0 m.length).map (fun j=>m.getD j d)=m:=by
 refine XX (by simp) fun i h1 u=>?_;simp[Vt u]
theorem HV{α:Type}{m:List α}{d:α}{bs vs:List Nat}(hl:bs.length=m.length)(hn:bs.Nodup)(h1:vs.Nodup)(x: ∀j∈vs,j<m.length)(h: ∀(q b:Nat),bs[q]? =co b->b∈lr bs vs):(vs.map fun j=>m.getD j d).Perm m:=by
 have:=(yg h1 (fun j u=>x j u) fun q y=>G1 hn (fun j u=>by rw[hl];exact x j u) h q (by rw[hl];exact y)).map fun j=>m.getD j d;rwa[cy]at this
theorem wZ{bs vs:List Nat}{b:Nat}:(lr bs vs++ [b]).getLast? =co b:=by simp
theorem rQ{bs vs:List Nat}{q b:Nat}(hb:bs[q]? =co b):lr bs (vs++ [q])=lr bs vs++ [b]:=by
 unfold lr;rw[VD,List.map_singleton,Vr,hb];rfl
section
variable {P:Program} {nt:NT} {Q:AQ} {k:List KI} {s:AS}
theorem Ej{body:Code}(n:Nat)(I:List Nat->AS)(J:List Nat->Prop)(B:List Nat)(Y:J [])(h0:Wk s.nx B s (I []))
  (x: ∀vs:List Nat,vs.Nodup->(∀j∈vs,j<n)->J vs->GO P nt (.code body:: .lp (fun t=> ∃j,j<n∧j∉vs∧J (vs++ [j])∧ ∃L,Wk s.nx L t (I (vs++ [j])))::k) Q (I vs)):GO P nt (.code (.loop body)::k) Q s:=by
 refine ic (σ:={vs:List Nat//vs.Nodup∧(∀j∈vs,j<n)∧J vs}) (fun v=>I v.1) (fun v=>n-v.1.length) ⟨[],Wn,by simp,Y⟩ B h0 fun v=>?_;obtain⟨vs,h1,C,D⟩:=v;refine mO ?_ (x vs h1 C D)
 rintro t ⟨j,g1,g2,g3,L,g4⟩;have u: ∀i∈vs++ [j],i<n:=by
  intro i hi;rcases VM.1 hi with hi|hi
  .exact C i hi
  .rw[Vz.1 hi];exact g1
 have A:(vs++ [j]).Nodup:=by
  rw[W3];refine⟨h1,by simp,fun a G b hb=>?_⟩;rw[Vz.1 hb];intro e;exact g2 (e▸G)
 have y:(vs++ [j]).length<=n:=by
  have:=WK A (l₂:=V0 n) (fun i hi=>WX.2 (u i hi));simpa using this
 refine⟨⟨vs++ [j],A,u,g3⟩,L,?_,g4⟩;show n-(vs++ [j]).length<n-vs.length;simp only[Vp,VW]at y ⊢;omega
end
section
variable {n i:Nat} {σ:Nat->Nat} {h r:AH}
theorem hMb{V:Type}{kc:KC}{ev:V->IV}{z:V}{x:Value}{j:PV->V}{m u:List (kc.K×V)}{bs:List Nat}{clock:Nat}(ho:h.get (σ i)=co (.hQ kc ev z x j m bs clock))(he:m=u)(hi:VV i n=is)(hr:oC n σ h r):oC n σ h ((i,co (.map kc ev z x j u))::r):=
 ⟨⟨_,ho,by subst he;exact MX⟩,Vm hi,ac,hr⟩
end
theorem tE{l:List Nat}(hn:l.Nodup){q j:Nat}(h:l[q]? =co j):l.eraseIdx q=l.filter fun x=>!(x==j):=by
 induction l generalizing q with
 |nil=>simp at h
 |cons y r ih=>
  rw[Wb]at hn;cases q with
  |zero=>
   simp at h;subst h;rw[List.eraseIdx_zero,List.tail_cons,Xh];simp only[beq_self_eq_true,XO,Xe,if_false]
   symm
   rw[X0];intro x B;have: ¬x=y:=fun e=>hn.1 (e▸B)
   simpa using this
  |succ q=>
   have u:r[q]? =co j:=by simpa using h
   have A:j∈r:=V2 u;have: ¬y=j:=fun e=>hn.1 (e▸A);rw[List.eraseIdx_cons_succ,ih hn.2 u,Xh,am (by simpa using this)]
theorem lC{α β:Type}(f:α->β): ∀(l:List α) (q:Nat),(l.map f).eraseIdx q=(l.eraseIdx q).map f
 | [],_=>rfl
 |_::_,0=>rfl
 |x::r,q+1=>by simp[List.eraseIdx,lC f r q]
def ib(n:Nat)(dl:Nat->Bool)(vs:List Nat):List Nat:=(V0 n).filter fun j=>!(kw (j∈vs)&&dl j)
section
variable {n:Nat} {dl:Nat->Bool} {vs:List Nat}
theorem xA:ib n dl []=V0 n:=by
 unfold ib;rw[X0];intro j _;simp
theorem Bj:(ib n dl vs).Nodup:=XE _ List.nodup_range
theorem Bk: ∀j∈ib n dl vs,j<n:=fun _ u=>WX.1 (V4.1 u).1
theorem CO{j:Nat}(h:dl j=jp):ib n dl (vs++ [j])=ib n dl vs:=by
 unfold ib;refine Xs fun i _=>?_;by_cases e:i=j
 .subst e;simp[h]
 .simp[e]
theorem FT{j q:Nat}(h:dl j=is)(u:(ib n dl vs)[q]? =co j):ib n dl (vs++ [j])=(ib n dl vs).eraseIdx q:=by
 rw[tE Bj u];unfold ib;rw[List.filter_filter];refine Xs fun i _=>?_;by_cases e:i=j
 .subst e;simp[h]
 .simp[e]
theorem FU(h: ∀j∈ib n dl vs,j∈vs):ib n dl vs=(V0 n).filter fun j=>!dl j:=by
 unfold ib at*
 refine Xs fun i u=>?_;by_cases e:i∈vs
 .simp[e]
 .have:i∈(V0 n).filter fun j=>!(kw (j∈vs)&&dl j):=V4.2 ⟨u,by simp[e]⟩
  exact absurd (h i this) e
end
abbrev od{α:Type}(m:List α)(d:α)(dl:Nat->Bool)(vs:List Nat):List α:=(ib m.length dl vs).map fun j=>m.getD j d
abbrev po(n:Nat)(bs:List Nat)(dl:Nat->Bool)(vs:List Nat):List Nat:=(ib n dl vs).map fun j=>bs.getD j 0
section
variable {α:Type} {m:List α} {d:α} {dl:Nat->Bool} {vs:List Nat} {bs:List Nat}
theorem FH:od m d dl []=m:=by unfold od;rw[xA,cy]
theorem FG:(od m d dl vs).Sublist m:=by
 have h:((ib m.length dl vs).map fun j=>m.getD j d).Sublist ((V0 m.length).map fun j=>m.getD j d):=List.Sublist.map _ List.filter_sublist;rwa[cy]at h
theorem FI(h:bs.length=m.length):po m.length bs dl []=bs:=by unfold po;rw[xA,<-h,cy]
theorem left_at{q b:Nat}{x:α}(hl:bs.length=m.length)(h1:(od m d dl vs)[q]? =co x)(y:(po m.length bs dl vs)[q]? =co b): ∃j,(ib m.length dl vs)[q]? =co j∧m[j]? =co x∧bs[j]? =co b∧j<m.length:=by
 rw[Vv,Vw]at h1 y;obtain⟨j,g1,g2⟩:=h1;obtain⟨A,g3,g4⟩:=y;rw[g1]at g3;cases g3;have u:=Bk j (V2 g1);refine⟨j,g1,?_,?_,u⟩
 .rw[<-g2,Vr,Vt u];rfl
 .rw[<-g4,Vr,Vt (by rw[hl];exact u)];rfl
theorem H2{q j:Nat}(h:dl j=is)(u:(ib m.length dl vs)[q]? =co j):od m d dl (vs++ [j])=(od m d dl vs).eraseIdx q∧po m.length bs dl (vs++ [j])=(po m.length bs dl vs).eraseIdx q:=by
 unfold od po;rw[FT h u,lC,lC];exact⟨rfl,rfl⟩
theorem H3(hl:bs.length=m.length)(hn:bs.Nodup)(J: ∀j∈vs,j<m.length)(D:α->Bool)(B: ∀j,dl j=D (m.getD j d))(h: ∀(q b:Nat),(po m.length bs dl vs)[q]? =co b->b∈lr bs vs):od m d dl vs=m.filter fun e=>!D e:=by
 have key: ∀j∈ib m.length dl vs,j∈vs:=by
  intro j y;obtain⟨q,I⟩:=Wh y;have G:=Bk j y;have hb:=h q (bs.getD j 0) (by unfold po;rw[Vv,I];rfl);obtain⟨i,x,u⟩:=V5.1 hb;have C:=J i x;rw[Vr,Vr,Vt (by omega:i<bs.length),Vt (by omega:j<bs.length),Wv,Wv]at u;have A:=WI.1 hn;rcases XA i j with g|g|g
  .exact absurd u (A i j (by omega) (by omega) g)
  .exact g▸x
  .exact absurd u.symm (A j i (by omega) (by omega) g)
 unfold od;rw[FU key];have:=congrArg (List.filter fun e=>!D e) (cy m d);rw[<-this,List.filter_map];congr 1;refine Xs fun i _=>?_;simp[B]
end
theorem Et{kc:KC}{V:Type}: ∀{m:List (kc.K×V)} {q:Nat} {x:kc.K×V},(m.map (·.1)).Nodup->m[q]? =co x->kz kc m x.1=co q
 | [],q,x,_,h=>by simp at h
 |(a,b)::r,0,x,_,h=>by
  simp at h;subst h;simp[kz]
 |(a,b)::r,q+1,x,hn,h=>by
  rw[Vy,Wb]at hn;have j:r[q]? =co x:=by simpa using h
  have: ¬a=x.1:=fun e=>hn.1 (V5.2 ⟨x,V2 j,e.symm⟩);simp[kz,this,Et hn.2 j]
theorem Ir{P:Program}{nt:NT}{Q:AQ}{k:List KI}{s:AS}{c:Code}(i:Nat){sz:Nat}{es:List (List PV)}(el:Nat->List IV)(hi:s.h.get i=co (.row sz es))(a0: ∀k e,es[k]? =co e->e=(el k).map .iv)
  (hf:s.f.lO i sz es.length) (hh:s.h.uW i sz es.length) (h:GO P nt (.code c::k) Q ⟨s.f.jE i sz el,(i,io)::s.h.gE i sz el,s.nx⟩):GO P nt (.code c::k) Q s:=by
 intro M N a w u;obtain⟨M',h1,x,h4⟩:=oQ u.1 hi a0;have C: ∀j o,AH.get ((i,io)::s.h.gE i sz el) j=co o-> ∃p,AH.get ((i,io)::s.h) j=co p∧s.h.get j=co p∧o=p.gE i sz el:=by
  intro j o y;obtain⟨g1,g2⟩:=bj j o y;rw[AH.oR,Vw]at g2;obtain⟨p,g3,g4⟩:=g2;exact⟨p,by rw[AH.ax,be g1];exact g3,g3,g4.symm⟩
 have hE:Ext M N (· <s.nx) s.h w M' N (· <s.nx) ((i,io)::s.h.gE i sz el) w:=⟨h1.os,h1.tape,h1.output,h1.size,h1.gu,h1.nZ,h1.iq,h1.nm,h1.ule,fun j o y A=>by
  obtain⟨p,g1,_,rfl⟩:=C j o y;rw[AO.iT]at A
  exact h1.gh j p g1 A⟩
 have hR:Rel M' N (· <s.nx) ((i,io)::s.h.gE i sz el) w:=by
  refine⟨x.dA,fun j o y=>?_,fun j o y A=>?_,fun j o y=>?_,fun j k o p y hk ho G=>?_⟩
  .obtain⟨p,g1,_,rfl⟩:=C j o y;exact x.used j p g1
  .obtain⟨p,g1,_,rfl⟩:=C j o y;rw[AO.iT]at A;exact x.dG j p g1 A
  .obtain⟨p,g1,g2,rfl⟩:=C j o y;cases p with
   |cells cs T0=>
    obtain⟨c,T,q1,q2,q3,q4,q5⟩:=u.1.obj j _ g2;have hok:=AH.lN hh j _ g2;refine⟨c,T,q1,q2,by simpa[ej]using q3,fun k q hq=>?_,q5⟩;rw[ej,Vv,Vw]at hq;obtain⟨q0,J,rfl⟩:=hq;exact h4 _ _ (q4 k q0 J) (eR hok k q0 J)
   |row s2 es2=>
    have hok:=AH.lN hh j _ g2;rcases u.1.obj j _ g2 with rfl|⟨q0,c,T,q1,q2,q3,q4,q5⟩
    .exact .inl Z
    .refine .inr ⟨q0,c,T,q1,q2,by simpa using q3,fun k e D=>?_,fun k e j2 p D G=>?_⟩
     .rw[Vv,Vw]at D;obtain⟨Y,B,rfl⟩:=D;rw[ej,VS];exact q4 k Y B
     .rw[Vv,Vw]at D;obtain⟨Y,B,rfl⟩:=D;rw[ej,Vv,Vw]at G;obtain⟨p0,I,rfl⟩:=G;exact h4 _ _ (q5 k Y j2 p0 B I) (eR (hok Y (V2 B)) j2 p0 I)
   |bu=>exact x.obj j _ g1
   |fh=>exact x.obj j _ g1
   |map=>exact x.obj j _ g1
   |bX=>exact x.obj j _ g1
   |ef=>exact x.obj j _ g1
   |hQ=>exact x.obj j _ g1
   |eh=>exact x.obj j _ g1
   |n3=>exact x.obj j _ g1
  .obtain⟨o',g1,_,rfl⟩:=C j o y;obtain⟨p',g2,_,rfl⟩:=C k p hk;rw[AO.iT]at ho G;exact x.inj j k o' p' g1 g2 ho G
 have b0:Fits M' N ⟨s.f.jE i sz el,(i,io)::s.h.gE i sz el,s.nx⟩ nt a w:=⟨hR,fun d=>by
  rw[AF.jq];exact h4 _ _ (u.2.1 d) (AF.kT hf d),u.2.2⟩
 exact AW.then h b0 fun e a2 w2 M2 N2 s2 f0 c0 d0=>⟨M2,N2,s2,hE.trans f0,c0,d0⟩
def Nm.one(b e:Nat):Nm:=⟨fun _=>b,fun _=>e⟩
inductive SB:Type 1 where
 |obj (o:AO) (e:Nat)
 |out (i e:Nat)
abbrev bB:=Nat->Option SB
def bB.nil:bB:=fun _=>io
def bB.put(X:bB)(b:Nat)(x:SB):bB:=fun c=>if c=b then co x else X c
def bB.still(X:bB):Prop:= ∀b i e,X b≠co (.out i e)
theorem bB.fJ(X:bB)(b:Nat)(x:SB):X.put b x b=co x:=by simp[bB.put]
theorem bB.jA(X:bB){b c:Nat}(x:SB)(h:c≠b):X.put b x c=X c:=by simp[bB.put,h]
theorem bB.LR(X:bB)(b:Nat)(x y:SB):(X.put b x).put b y=X.put b y:=by
 funext c;simp only[bB.put];split<;>rfl
structure fc (M:Mem) (N:Nm) (n:Nat) (h:AH) (X:bB) (w:World):Prop where
 real: ∀b o e,X b=co (.obj o e)->o.real=is
 obj: ∀b o e,X b=co (.obj o e)->OR M (Nm.one b e) (fun _=>False) w 0 o
 dA: ∀b o e,X b=co (.obj o e)->M b=io
 apart: ∀b o e,X b=co (.obj o e)-> ∀i p,h.get i=co p->p.real=is->N.az i≠b
 out: ∀b i e,X b=co (.out i e)->i<n∧N.az i=b∧N.ext i=e
def AO.all(G:PV->Prop):AO->Prop
 | .cells cs _=> ∀p∈cs,G p
 | .row _ es=> ∀e∈es,∀p∈e,G p
 | .eh q _ _=>G q
 | .n3 _ _ f=> ∀d,G (AF.get f d)
 |_=>True
theorem AO.all_true(o:AO):o.all fun _=>True:=by cases o<;>simp[AO.all]
theorem OR.move{M M':Mem}{N B:Nm}{U U':Nat->Prop}{w w':World}{i I:Nat}{o:AO}{G:PV->Prop}(hM:M.le M')(J:o.all G)(Y: ∀p x,G p->VR M N U p x->VR M' B U' p x)
  (hb:B.az I=N.az i) (he:B.ext I=N.ext i) (hw:w'.heap[N.az i]? =w.heap[N.az i]?) (h:OR M N U w i o):OR M' B U' w' I o:=by
 cases o with
 |cells cs T0=>
  obtain⟨c,T,h1,u,y,A,C⟩:=h;exact⟨c,T,by rw[hb,hw,h1],by rw[he,u],y,fun j p D=>Y _ _ (J p (V2 D)) (A j p D),C⟩
 |row sz es=>
  rcases h with h|⟨h0,c,T,h1,u,y,A,C⟩
  .exact .inl h
  exact .inr ⟨h0,c,T,by rw[hb,hw,h1],by rw[he,u],y,A,fun k e j p hk D=>Y _ _ (J e (V2 hk) p (V2 D)) (C k e j p hk D)⟩
 |bu l T=>
  rcases h with h|⟨c,h1,u,y,A⟩
  .exact .inl h
  exact .inr ⟨c,by rw[hb,hw,h1],by rw[he,u],y,A⟩
 |fh=>show w'.heap[B.az I]? =_;rw[hb,hw];exact h
 |map kc ev z zv dv m=>
  obtain⟨e,cl,h1,u,y⟩:=h;exact⟨e,cl,by rw[hb,hw,h1],u.mono hM,y.mono hM⟩
 |bX kc ev m l cu=>
  rcases h with⟨h1,u,y,A⟩|⟨b,e,cl,se,h1,u,y,A⟩
  .exact .inl ⟨h1,u,y,by rw[hb,hw,A]⟩
  .exact .inr ⟨b,e,cl,se,by rw[hb,hw,h1],hM _ _ u,y.mono hM,A⟩
 |ef s p=>show w'.heap[B.az I]? =_;rw[hb,hw];exact h
 |hQ kc ev z zv dv m bs c=>
  obtain⟨e,h1,u,y,A⟩:=h;exact⟨e,by rw[hb,hw,h1],u.mono hM,y.mono hM,A⟩
 |eh q c l=>
  obtain⟨b,h1,u⟩:=h;exact⟨b,Y _ _ J h1,by rw[hb,hw,u]⟩
 |n3 l c f=>
  obtain⟨rfl,r,h1,u,y,A,C,h6,h7,h8⟩:=h;exact⟨hb,r,by rw[hw];exact h1,u,y,A,C,h6,h7,fun d=>Y _ _ (J d) (h8 d)⟩
theorem VR.DX{M j:Mem}{N u:Nm}{y:Nat->Prop}(hM:M.le j){p:PV}{x:Value}(h:VR M N (fun _=>False) p x):VR j u y p x:=
 h.mono hM ⟨fun _ h=>h.elim,fun _ h=>h.elim⟩ (fun _ h=>h.elim)
def PV.flat:PV->Prop
 | .iv _=>True
 | .kb _=>True
 | .any=>True
 |_=>False
theorem VR.K7{M:Mem}{N j:Nm}{U u:Nat->Prop}{p:PV}{x:Value}(hp:p.flat)(h:VR M N U p x):VR M j u p x:=by
 cases h with
 |iv x y h=>exact .iv _ _ h
 |kb b=>exact .kb _
 |any x=>exact .any _
 |_=>exact hp.elim
def Own(N:Nm)(h:AH)(X:bB)(b:Nat):Prop:=(∃i o,h.get i=co o∧o.real=is∧N.az i=b)∨ ∃o e,X b=co (.obj o e)
structure kI (M:Mem) (N:Nm) (n:Nat) (h:AH) (X:bB) (w:World) (M':Mem) (N':Nm) (n':Nat) (h':AH) (X':bB) (w':World):Prop where
 os:w'.os=w.os
 tape:w'.tape=w.tape
 output:tv w w'
 size:w.heap.size<=w'.heap.size
 gu: ∀b,b<w.heap.size-> ¬Own N h X b->w'.heap[b]? =w.heap[b]?
 nZ:M.le M'
 iq: ∀b c,M b=io->M' b=co c->w.heap.size<=b∨Own N h X b
 nm:N.agree N' (· <n)
 ule:n<=n'
 gh: ∀b,Own N' h' X' b->w.heap.size<=b∨Own N h X b
theorem kI.refl(M:Mem)(N:Nm)(n:Nat)(h:AH)(X:bB)(w:World):kI M N n h X w M N n h X w:=
 ⟨rfl,rfl,⟨rfl,VA _⟩,VA _,fun _ _ _=>rfl,.refl _,fun b c h1 j=>by simp[h1]at j,.refl _ _,VA _,fun _ h=> .inr h⟩
theorem kI.trans{M u x:Mem}{N y A:Nm}{n I J:Nat}{h h1 D:AH}{X B C:bB}{w Y w2:World}
  (a:kI M N n h X w u y I h1 B Y) (b:kI u y I h1 B Y x A J D C w2):kI M N n h X w x A J D C w2 where
 os:=b.os.trans a.os
 tape:=b.tape.trans a.tape
 output:=b.output.trans a.output
 size:=Wr a.size b.size
 gu:=fun k hk G=>by
  rw[b.gu k (W4 hk a.size) (fun ho=>?_),a.gu k hk G];rcases a.gh k ho with h3|h3
  .omega
  .exact G h3
 nZ:=a.nZ.trans b.nZ
 iq:=fun k c h3 h4=>by
  cases h5:u k with
  |some c'=>exact a.iq k c' h3 h5
  |none=>
   rcases b.iq k c h5 h4 with h6|h6
   .exact .inl (Wr a.size h6)
   .exact a.gh k h6
 nm:=⟨fun i j=>(b.nm.az i (W4 j a.ule)).trans (a.nm.az i j),fun i j=>(b.nm.ext i (W4 j a.ule)).trans (a.nm.ext i j)⟩
 ule:=Wr a.ule b.ule
 gh:=fun k hk=>by
  rcases b.gh k hk with h3|h3
  .exact .inl (Wr a.size h3)
  .exact a.gh k h3
theorem kI.frame{M Y:Mem}{N N':Nm}{n J:Nat}{h h':AH}{X:bB}{w w':World}(x:Ext M N (· <n) h w Y N' (· <J) h' w')(hs:fc M N n h X w):
  kI M N n h X w Y N' J h' X w'∧fc Y N' J h' X w':=by
 have D: ∀b o e,X b=co (.obj o e)->b<w.heap.size:=fun b o e hb=>(hs.obj b o e hb).lt (hs.real b o e hb);have B:n<=J:=W9 fun hh=>absurd (x.ule J hh) (Yn _);refine⟨⟨x.os,x.tape,x.output,x.size,fun b hb hn=>x.gu b hb fun i o hi I he=>hn (.inl ⟨i,o,hi,I,he⟩),x.nZ,fun b c h1 h2=>?_,x.nm,B,fun b hb=>?_⟩,hs.real,fun b o e hb=>?_,fun b o e hb=>?_,fun b o e hb i p hi I a0=>?_,fun b i e hb=>?_⟩
 .rcases x.iq b c h1 h2 with u|⟨i,o,u,C,A⟩
  .exact .inl u
  .exact .inr (.inl ⟨i,o,u,C,A⟩)
 .rcases hb with⟨i,o,u,C,A⟩|hb
  .rcases x.gh i o u C with h6|⟨j,p,h6,h7,h8⟩
   .exact .inl (A▸h6)
   .exact .inr (.inl ⟨j,p,h6,h7,h8.trans A⟩)
  .exact .inr (.inr hb)
 .refine OR.move (G:=fun _=>True) x.nZ (AO.all_true o) (fun p y _ hv=>hv.DX x.nZ) Z Z ?_ (hs.obj b o e hb);exact x.gu b (D b o e hb) (hs.apart b o e hb)
 .cases hM:Y b with
  |none=>rfl
  |some c=>
   rcases x.iq b c (hs.dA b o e hb) hM with u|⟨i,p,u,C,A⟩
   .have:=D b o e hb;omega
   .exact absurd A (hs.apart b o e hb i p u C)
 .rcases x.gh i p hi I with u|⟨j,q,u,C,A⟩
  .have:=D b o e hb;omega
  .exact hs.apart b o e hb j q u C (A.trans a0)
 .obtain⟨h1,h2,u⟩:=hs.out b i e hb;exact⟨W4 h1 B,(x.nm.az i h1).trans h2,(x.nm.ext i h1).trans u⟩
theorem kI.PM{M B:Mem}{N C:Nm}{n G:Nat}{h D:AH}{J:bB}{w I:World}(x:kI M N n h bB.nil w B C G D J I):Ext M N (· <n) h w B C (· <G) D I:=by
 have j: ∀b,Own N h bB.nil b-> ∃i o,h.get i=co o∧o.real=is∧N.az i=b:=fun b hb=>by
  rcases hb with hb|⟨o,e,hb⟩
  .exact hb
  .cases hb
 refine⟨x.os,x.tape,x.output,x.size,fun b hb hn=>x.gu b hb fun ho=>?_,x.nZ,fun b c h1 u=>?_,x.nm,fun i y=>W4 y x.ule,fun i o y A=>?_⟩
 .obtain⟨i,o,h1,u,Y⟩:=j b ho;exact hn i o h1 u Y
 .exact(x.iq b c h1 u).imp id (j b)
 .exact(x.gh _ (.inl ⟨i,o,y,A,rfl⟩)).imp id (j _)
theorem fc.nil(M:Mem)(N:Nm)(n:Nat)(h:AH)(w:World):fc M N n h bB.nil w:=⟨nofun,nofun,nofun,nofun,nofun⟩
abbrev XQ:=Exit->AS->bB->Prop
def oB(nt:NT)(M:Mem)(N:Nm)(s:AS)(X:bB)(w:World)(R:XQ):Exit->Act->World->Prop:=fun e A y=>
 ∃j u s' x,kI M N s.nx s.h X w j u s'.nx s'.h x y∧Fits j u s' nt A y∧fc j u s'.nx s'.h x y∧R e s' x
theorem oB.later{nt:NT}{M j:Mem}{N u:Nm}{s s':AS}{X y:bB}{w A:World}{R:XQ}{e:Exit}{a:Act}{B:World}
  (x:kI M N s.nx s.h X w j u s'.nx s'.h y A) (h:oB nt j u s' y A R e a B):oB nt M N s X w R e a B:=by
 obtain⟨C,D,J,G,h1,I⟩:=h;exact⟨C,D,J,G,x.trans h1,I⟩
theorem oB.now{nt:NT}{M:Mem}{N:Nm}{s:AS}{X:bB}{w:World}{R:XQ}{e:Exit}{a:Act}(hf:Fits M N s nt a w)(hs:fc M N s.nx s.h X w)(h:R e s X):oB nt M N s X w R e a w:=
 ⟨M,N,s,X,.refl _ _ _ _ _ _,hf,hs,h⟩
def AX(P:Program)(nt:NT)(c:Code)(R:XQ)(s:AS)(X:bB):Prop:= ∀M N a w,Fits M N s nt a w->fc M N s.nx s.h X w->c.wp P (oB nt M N s X w R) a w
def ALX(P:Program)(nt:NT)(all rest:List Oper)(R:XQ)(s:AS)(X:bB):Prop:= ∀M N a w,Fits M N s nt a w->fc M N s.nx s.h X w->wpList P all.toArray (oB nt M N s X w R) rest a w
def SLX(P:Program)(nt:NT)(all rest:List Oper)(R:XQ)(s:AS)(X:bB):Prop:= ∀M N a w,Fits M N s nt a w->fc M N s.nx s.h X w->
 wpStill P all.toArray w (fun j=>oB nt M N s X w R .normal j w) rest a
inductive XI where
 |tw (all rest:List Oper)
 |code (c:Code)
 |az (id:Nat)
 |ops (all rest:List Oper)
 |lp (R:AS->bB->Prop)
 |Gh
def kx(P:Program)(nt:NT):List XI->XQ->XQ
 | [],Q=>Q
 | .code c::k,Q=>fun e s X=>match e with| .normal=>AX P nt c (kx P nt k Q) s X|e=>kx P nt k Q e s X
 | .ops all rest::k,Q=>fun e s X=>match e with| .normal=>ALX P nt all rest (kx P nt k Q) s X|e=>kx P nt k Q e s X
 | .tw all rest::k,Q=>fun e s X=>match e with| .normal=>SLX P nt all rest (kx P nt k Q) s X|e=>kx P nt k Q e s X
 | .lp R::k,Q=>fun e s X=>match e with| .normal=>R s X|e=>kx P nt k Q e s X
 | .az id::k,Q=>fun e s X=>match e with| .exit j=>if j=id then kx P nt k Q .normal s X else kx P nt k Q (.exit j) s X|e=>kx P nt k Q e s X
 | .Gh::k,Q=>fun e s X=>match e with| .goto _=>False|e=>kx P nt k Q e s X
def GX(P:Program)(nt:NT)(k:List XI)(Q:XQ)(s:AS)(X:bB):Prop:=kx P nt k Q .normal s X
section
variable {P:Program} {nt:NT} {Q:XQ} {k:List XI} {s:AS} {X:bB}
theorem AX.then{c:Code}{R:XQ}(h:AX P nt c R s X){M:Mem}{N:Nm}{a:Act}{w:World}(hf:Fits M N s nt a w)(hs:fc M N s.nx s.h X w){Z:Exit->Act->World->Prop}
  (B: ∀e A j u x s' y,kI M N s.nx s.h X w u x s'.nx s'.h y j->Fits u x s' nt A j->fc u x s'.nx s'.h y j->R e s' y->Z e A j):c.wp P Z a w:=
 wp_mono (h M N a w hf hs) fun e A j ⟨u,x,s',y,h1,h2,h3,h4⟩=>B e A j u x s' y h1 h2 h3 h4
theorem Tu{u:AQ}{k0:List KI}{c:Code}(h:GX P nt [.code c] (fun e t _=>kp P nt k0 u e t) s bB.nil):GO P nt (.code c::k0) u s:=by
 intro M N a w hf;exact AX.then h hf (.nil ..) fun e D G x y s' C B j _ A=>⟨x,y,s',B.PM,j,A⟩
theorem kj{c:Code}(h:GO P nt [.code c] (fun e u=>kx P nt k Q e u X) s):GX P nt (.code c::k) Q s X:=by
 intro M N a w hf hs;refine AW.then h hf fun e D G x y s' C j B=>?_;obtain⟨h1,A⟩:=kI.frame C hs;exact⟨x,y,s',X,h1,j,A,B⟩
theorem c4{x y:Code}(h:GX P nt (.code x:: .code y::k) Q s X):GX P nt (.code (.seq x y)::k) Q s X:=by
 intro M N a w hf hs;refine wp_seq (AX.then h hf hs fun e a' w' J N' s' X' I j u G=>?_);cases e with
 |normal=>exact AX.then G j u fun e a2 w2 Y N2 s2 X2 D A C B=>⟨Y,N2,s2,X2,I.trans D,A,C,B⟩
 |_=>exact⟨J,N',s',X',I,j,u,G⟩
theorem tW(h:GX P nt k Q s X):GX P nt (.code .skip::k) Q s X:=fun _ _ _ _ hf hs=>wp_skip (.now hf hs h)
theorem tY{id:Nat}(h:kx P nt k Q (.exit id) s X):GX P nt (.code (.exit id)::k) Q s X:=fun _ _ _ _ hf hs=>wp_exit (.now hf hs h)
theorem Ii{id:Nat}(h:GX P nt k Q s X):GX P nt (.az id::k) Q s X:=h
theorem jm{id:Nat}{x:Code}(h:GX P nt (.code x:: .az id::k) Q s X):GX P nt (.code (.block id x)::k) Q s X:=by
 intro M N a w hf hs;refine wp_block (AX.then h hf hs fun e J Y B C s' D I u y A=>?_);cases e with
 |exit j=>
  simp only[kx]at A;simp only[Exit.inBlock];split
  .rename_i G;rw[am G]at A;exact⟨B,C,s',D,I,u,y,A⟩
  .rename_i G;rw[be G]at A;exact⟨B,C,s',D,I,u,y,A⟩
 |_=>exact⟨B,C,s',D,I,u,y,A⟩
theorem xE{id:Nat}{ops:Array Oper}(h:GX P nt (.ops ops.toList ops.toList::k) Q s X):GX P nt (.code (.region id ops jp)::k) Q s X:=by
 intro M N a w hf hs;refine wp_region_list ?_;have:=h M N a w hf hs;simpa using this
theorem vi{all:List Oper}(h:GX P nt k Q s X):GX P nt (.ops all []::k) Q s X:=fun _ _ _ _ hf hs=>wpList_nil (oB.now hf hs h)
theorem tZ{c:Operand}{x y:Code}{t:Bool}(hc:ev s.f c= .iv (.v (.bool t)))(h1:t=is->GX P nt (.code x::k) Q s X)(j:t=jp->GX P nt (.code y::k) Q s X):
  GX P nt (.code (.cond c x y)::k) Q s X:=by
 intro M N a w hf hs;refine wp_cond_split (hf.bool hc) (fun ht=>?_) (fun ht=>?_)
 .exact h1 ht M N a w hf hs
 .exact j ht M N a w hf hs
theorem yI{o:Oper}{a:Act}{w:World}{K K':Act->World->Prop}{Q u:Exit->Act->World->Prop}(h: ∀a w,K a w->K' a w)(y: ∀e a w,e≠ .normal->Q e a w->u e a w)(hh:o.wp P a w K Q):o.wp P a w K' u:=by
 have hl:LetsOut Q->LetsOut u:=fun⟨a,w,x⟩=>⟨a,w,y _ _ _ (by simp) x⟩
 unfold Oper.wp at*
 generalize(execOp a.eval o).run P w=r at*
 cases r with
 |ok n w'=>
  cases n<;>simp only[Oper.upon]at hh ⊢ <;>
   first
    |exact h _ _ hh
    |exact Calls.mono hh (fun e A j=>by cases e<;>first|exact h _ _ j|exact hl j|exact y _ _ _ (by simp) j)
    |exact Rows.mono hh (fun _ _ j=>h _ _ j)
 |halt x w'=>cases x<;>simp only[Oper.upon]at hh ⊢ <;>exact y _ _ _ (by simp) hh
theorem mr{ops:Array Oper}{x y:Exit->Act->World->Prop}(u:List Oper)(A: ∀a w,x .normal a w->wpList P ops y u a w)(j: ∀e a w,e≠ .normal->x e a w->y e a w): ∀(l:List Oper) (a:Act) (w:World),wpList P ops x l a w->wpList P ops y (l++u) a w
 | [],a,w,h=>A _ _ h
 |o::r,a,w,h=>by
  rw[VT];rw[wpList]at h ⊢;split
  .rename_i B;rw[am B]at h;exact h.imp (yI (mr u A j r) j) (fun⟨h3,a1,w1,h4⟩=>⟨h3,a1,w1,j _ _ _ (by simp) h4⟩)
  .rename_i B;rw[be B]at h;exact mr u A j r _ _ h
theorem FW{all I r2:List Oper}(h:GO P nt [.ops all I] (fun e u=>kx P nt (.ops all r2::k) Q e u X) s):GX P nt (.ops all (I++r2)::k) Q s X:=by
 intro M N a w hf hs;refine mr r2 (fun A J C=>?_) (fun e A J Y C=>?_) I a w (h M N a w hf)
 .obtain⟨x,y,s',G,j,D⟩:=C;obtain⟨h1,B⟩:=kI.frame G hs;have:=D x y A J j B;exact fC (fun _ _ _=>oB.later h1) r2 A J this
 .obtain⟨x,y,s',G,j,D⟩:=C;obtain⟨h1,B⟩:=kI.frame G hs;refine⟨x,y,s',X,h1,j,B,?_⟩;cases e with
  |normal=>exact absurd Z Y
  |_=>exact D
theorem tX{all rest:List Oper}(m:Nat)(h:GO P nt [.ops all (rest.take m)] (fun e u=>kx P nt (.ops all (rest.drop m)::k) Q e u X) s):GX P nt (.ops all rest::k) Q s X:=by
 have:=FW h;rwa[XR]at this
def SX(nt:NT)(s:AS)(X:bB)(T:AS->bB->Prop):Prop:= ∀M N a w,Fits M N s nt a w->fc M N s.nx s.h X w->
 ∃j u t Y,kI M N s.nx s.h X w j u t.nx t.h Y w∧Fits j u t nt a w∧fc j u t.nx t.h Y w∧T t Y
theorem OW{c:Code}{T:AS->bB->Prop}(h:SX nt s X T)(hk: ∀t Y,T t Y->GX P nt (.code c::k) Q t Y):GX P nt (.code c::k) Q s X:=by
 intro M N a w hf hs;obtain⟨M',N',t,Y,h1,D,G,I⟩:=h M N a w hf hs;exact AX.then (hk t Y I) D G fun e a2 w2 A B J C y j x u=>⟨A,B,J,C,h1.trans y,j,x,u⟩
theorem yV{all rest:List Oper}{T:AS->bB->Prop}(h:SX nt s X T)(hk: ∀t Y,T t Y->GX P nt (.ops all rest::k) Q t Y):GX P nt (.ops all rest::k) Q s X:=by
 intro M N a w hf hs;obtain⟨j,u,t,Y,h1,x,y,A⟩:=h M N a w hf hs;exact fC (fun _ _ _=>oB.later h1) rest a w (hk t Y A j u a w x y)
theorem Tt{body:Code}{σ:Type 1}(I:σ->AS)(J:σ->bB)(μ:σ->Nat)(i0:σ)(L0:List Nat)(h0:Wk s.nx L0 s (I i0))(A:J i0=X)(j0: ∀i,(J i).still)
  (B: ∀i,GX P nt (.code body:: .lp (fun t Y=> ∃j L,μ j<μ i∧Wk s.nx L t (I j)∧Y=J j)::k) Q (I i) (J i)):GX P nt (.code (.loop body)::k) Q s X:=by
 intro M0 N0 a0 w0 d0 g0
 let K:Act->World->Nat->Prop:=fun a w n=> ∃i M N,μ i=n∧kI M0 N0 s.nx s.h X w0 M N (I i).nx (I i).h (J i) w∧Fits M N (I i) nt a w∧fc M N (I i).nx (I i).h (J i) w
 have c0:K a0 w0 (μ i0):=by
  obtain⟨h1,h2⟩:=kI.frame (h0.ext (.refl M0 N0 (· <s.nx) s.h w0)) g0;exact⟨i0,M0,N0.comp (sg s.nx L0),rfl,by rw[A];exact h1,h0.fits d0,by rw[A];exact h2⟩
 refine wp_loop (fun a w=> ∃n,K a w n) (fun a w=>by classical exact if h: ∃n,K a w n then XW (c5 h) else 0) ⟨_,c0⟩ fun a w b0=>?_;obtain⟨⟨i,M,N,y,hx,hf,hs⟩,e0⟩:=Xm (c5 b0);refine AX.then (B i) hf hs fun e a' w' M' N' s' X' D C x hr=>?_
 cases e with
 |normal=>
  obtain⟨j,L,hj,G,hY⟩:=hr
  have A:K a' w' (μ j):=⟨j,M',N'.comp (sg s.nx L),rfl,by
   have u:=hx.trans D;rw[hY]at u x;refine⟨u.os,u.tape,u.output,u.size,u.gu,u.nZ,u.iq,⟨fun i y=>?_,fun i y=>?_⟩,by have:=G.nx;omega,fun b hb=>u.gh b ?_⟩
   .simp only[Nm.comp,gm y];exact u.nm.az i y
   .simp only[Nm.comp,gm y];exact u.nm.ext i y
   .rcases hb with⟨i,o,h3,h4,h5⟩|hb
    .obtain⟨⟨o',g1,g2⟩,_⟩:=iY G.h i o h3;exact .inl ⟨_,o',g1,g2.real ((AO.cg _ o).trans h4),h5⟩
    .exact .inr hb,G.fits C,by
   rw[hY]at x;refine⟨x.real,x.obj,x.dA,fun b o e hb i p y f0=>?_,fun b i e hb=>?_⟩
   .obtain⟨⟨o',g1,g2⟩,_⟩:=iY G.h i p y;exact x.apart b o e hb _ o' g1 (g2.real ((AO.cg _ p).trans f0))
   .exact absurd hb (j0 j b i e)⟩
  refine⟨⟨_,A⟩,?_⟩;simp only[dif_pos b0,dif_pos (⟨_,A⟩: ∃n,K a' w' n)];rw[<-y];exact YW ((Xm (c5 (⟨_,A⟩: ∃n,K a' w' n))).2 _ A) hj
 |_=>exact⟨M',N',s',X',hx.trans D,C,x,hr⟩
theorem PS{b e d:Nat}{o:AO}{p:PV}(hX:X b=co (.obj o e))(hp: ∀(M:Mem) (N:Nm) (U:Nat->Prop) (x:Value),U s.nx->N.az s.nx=b->N.ext s.nx=e->VR M N U (s.f.get d) x->VR M N U p x):
  SX nt s X (fun t Y=>t=⟨(d,p)::s.f,(s.nx,co o)::s.h,s.nx+1⟩∧Y=X.put b (.out s.nx e)):=by
 intro M N a w hf hs;obtain⟨f,h,n⟩:=s
 let N':Nm:=⟨fun j=>if j=n then b else N.az j,fun j=>if j=n then e else N.ext j⟩
 have A:N.agree N' (· <n):=⟨fun i D=>be (YC D),fun i D=>be (YC D)⟩
 have I:N'.az n=b:=am Z;have a0:N'.ext n=e:=am Z;have hU: ∀i,i<n->i<n+1:=fun i D=>W2 D;have c0:=hs.real b o e hX
 have C: ∀i q,AH.get ((n,co o)::h) i=co q->(i=n∧q=o)∨(i<n∧h.get i=co q):=by
  intro i q D;rw[AH.ax]at D;split at D
  .rename_i b0;exact .inl ⟨b0,by simpa using D.symm⟩
  .exact .inr ⟨hf.1.used i q D,D⟩
 refine⟨M,N',⟨(d,p)::f,(n,co o)::h,n+1⟩,X.put b (.out n e),⟨rfl,rfl,⟨rfl,VA _⟩,VA _,fun _ _ _=>rfl,.refl _,fun c m h1 h2=>by simp[h1]at h2,A,Xx _,fun c B=> .inr ?_⟩,⟨⟨hf.1.dA,fun i q D=>?_,fun i q D hr=>?_,fun i q D=>?_,fun i j q r D hj hq hr he=>?_⟩,fun k=>?_,hf.2.2⟩,⟨fun c q g B=>?_,fun c q g B=>?_,fun c q g B=>?_,fun c q g B i r D hr=>?_,fun c i g B=>?_⟩,rfl,rfl⟩
 .rcases B with⟨i,q,h1,h2,h3⟩|⟨q,g,h1⟩
  .rcases C i q h1 with⟨rfl,rfl⟩|⟨J,h5⟩
   .rw[I]at h3;subst h3;exact .inr ⟨_,_,hX⟩
   .exact .inl ⟨i,q,h5,h2,by rw[<-h3];exact(A.az i J).symm⟩
  .by_cases u:c=b
   .subst u;rw[bB.fJ]at h1;cases h1
   .rw[bB.jA _ _ u]at h1;exact .inr ⟨q,g,h1⟩
 .rcases C i q D with⟨rfl,rfl⟩|⟨J,_⟩
  .exact Xa _
  .exact hU i J
 .rcases C i q D with⟨rfl,rfl⟩|⟨J,h5⟩
  .rw[I];exact hs.dA _ _ _ hX
  .rw[A.az i J];exact hf.1.dG i q h5 hr
 .rcases C i q D with⟨rfl,rfl⟩|⟨J,h5⟩
  .exact OR.move (G:=fun _=>True) (.refl _) (AO.all_true _) (fun p y _ hv=>hv.DX (.refl _)) I a0 Z (hs.obj b _ e hX)
  .exact(hf.1.obj i q h5).mono (.refl _) A hU J Z
 .rcases C i q D with⟨rfl,rfl⟩|⟨J,h5⟩<;>rcases C j r hj with⟨h6,rfl⟩|⟨h6,h7⟩
  .exact h6.symm
  .rw[I,A.az j h6]at he;exact absurd he.symm (hs.apart b _ e hX j r h7 hr)
  .subst h6;rw[I,A.az i J]at he;exact absurd he (hs.apart b _ e hX i q h5 hq)
  .rw[A.az i J,A.az j h6]at he;exact hf.1.inj i j q r h5 h7 hq hr he
 .rw[AF.ax];split
  .rename_i hk;subst hk;exact hp M N' _ _ (Xa _) I a0 ((hf.2.1 k).mono (.refl _) A hU)
  .exact(hf.2.1 k).mono (.refl _) A hU
 all_goals by_cases u:c=b
 .subst u;rw[bB.fJ]at B;cases B
 .rw[bB.jA _ _ u]at B;exact hs.real c q g B
 .subst u;rw[bB.fJ]at B;cases B
 .rw[bB.jA _ _ u]at B;exact hs.obj c q g B
 .subst u;rw[bB.fJ]at B;cases B
 .rw[bB.jA _ _ u]at B;exact hs.dA c q g B
 .subst u;rw[bB.fJ]at B;cases B
 .rw[bB.jA _ _ u]at B;rcases C i r D with⟨rfl,rfl⟩|⟨J,h5⟩
  .rw[I];exact fun e=>u e.symm
  .rw[A.az i J];exact hs.apart c q g B i r h5 hr
 .subst u;rw[bB.fJ]at B;cases B;exact⟨Xa _,I,a0⟩
 .rw[bB.jA _ _ u]at B;obtain⟨h1,h2,h3⟩:=hs.out c i g B;exact⟨hU i h1,(A.az i h1).trans h2,(A.ext i h1).trans h3⟩
theorem ET{b e d:Nat}{o:AO}(u:X b=co (.obj o e))(hd:s.f.get d= .iv (.v (.map (co b)))):
  SX nt s X (fun t Y=>t=⟨(d,.mp s.nx)::s.f,(s.nx,co o)::s.h,s.nx+1⟩∧Y=X.put b (.out s.nx e)):=
 PS u fun M N U x hu hb hE j=>by
  rw[hd]at j;cases j with
  |iv _ _ hi=>cases hi with
   |v=>
    have:=VR.mp (M:=M) (N:=N) s.nx hu;rw[hb]at this;exact this
theorem Rel.drop{M:Mem}{N:Nm}{n:Nat}{h:AH}{w:World}(hr:Rel M N (· <n) h w)(i:Nat):Rel M N (· <n) ((i,io)::h) w:=
 ⟨hr.dA,fun j o u=>hr.used j o (bj j o u).2,fun j o u x=>hr.dG j o (bj j o u).2 x,fun j o u=>hr.obj j o (bj j o u).2,fun j l o p u hl A B y=>hr.inj j l o p (bj j o u).2 (bj l p hl).2 A B y⟩
theorem DA{M:Mem}{N:Nm}{n:Nat}{h:AH}{w:World}(hr:Rel M N (· <n) h w)(hs:fc M N n h X w){i:Nat}{o:AO}(hi:h.get i=co o)(A:o.real=is)(D:o.all PV.flat):
  kI M N n h X w M N n ((i,io)::h) (X.put (N.az i) (.obj o (N.ext i))) w∧fc M N n ((i,io)::h) (X.put (N.az i) (.obj o (N.ext i))) w:=by
 refine⟨⟨rfl,rfl,⟨rfl,VA _⟩,VA _,fun _ _ _=>rfl,.refl _,fun b c h1 B=>by simp[h1]at B,.refl _ _,VA _,fun c y=> .inr ?_⟩,fun c q g y=>?_,fun c q g y=>?_,fun c q g y=>?_,fun c q g y j r I C=>?_,fun c j g y=>?_⟩
 .rcases y with⟨j,q,h1,B,J⟩|⟨q,g,h1⟩
  .exact .inl ⟨j,q,(bj j q h1).2,B,J⟩
  .by_cases u:c=N.az i
   .exact .inl ⟨i,o,hi,A,u.symm⟩
   .rw[bB.jA _ _ u]at h1;exact .inr ⟨q,g,h1⟩
 all_goals by_cases u:c=N.az i
 .subst u;rw[bB.fJ]at y;cases y;exact A
 .rw[bB.jA _ _ u]at y;exact hs.real c q g y
 .subst u;rw[bB.fJ]at y;cases y;exact OR.move (G:=PV.flat) (N:=N) (i:=i) (.refl _) D (fun p x Y hv=>hv.K7 Y) Z Z Z (hr.obj i o hi)
 .rw[bB.jA _ _ u]at y;exact hs.obj c q g y
 .subst u;exact hr.dG i o hi A
 .rw[bB.jA _ _ u]at y;exact hs.dA c q g y
 .obtain⟨h1,B⟩:=bj j r I;subst u;exact fun e=>h1 (hr.inj j i r o B hi C A e)
 .rw[bB.jA _ _ u]at y;exact hs.apart c q g y j r (bj j r I).2 C
 .subst u;rw[bB.fJ]at y;cases y
 .rw[bB.jA _ _ u]at y;exact hs.out c j g y
theorem Sw{b e i:Nat}{o:AO}(A:X b=co (.out i e))(hi:s.h.get i=co o)(u:o.real=is)(j:o.all PV.flat):
  SX nt s X (fun t Y=>t=⟨s.f,(i,io)::s.h,s.nx⟩∧Y=X.put b (.obj o e)):=by
 intro M N a w hf hs;obtain⟨h1,rfl,rfl⟩:=hs.out b i e A;obtain⟨x,y⟩:=DA hf.1 hs hi u j;exact⟨M,N,⟨s.f,(i,io)::s.h,s.nx⟩,_,x,⟨hf.1.drop i,hf.2⟩,y,rfl,rfl⟩
theorem PU{i d:Nat}{o:AO}{G:Nat->Nat->PV->Prop}(B:X.still)(hi:s.h.get i=co o)(u:o.real=is)(A:o.all PV.flat)
  (hq: ∀(M:Mem) (N:Nm) (U:Nat->Prop) (x:Value),VR M N U (s.f.get d) x-> ∃q,G (N.az i) (N.ext i) q∧VR M N U q x):
  SX nt s X (fun t Y=> ∃b e q,X b=io∧G b e q∧t=⟨(d,q)::s.f,(i,io)::s.h,s.nx⟩∧Y=X.put b (.obj o e)):=by
 intro M N a w hf hs;obtain⟨C,D⟩:=DA hf.1 hs hi u A;obtain⟨q,I,J⟩:=hq M N _ _ (hf.2.1 d);refine⟨M,N,⟨(d,q)::s.f,(i,io)::s.h,s.nx⟩,_,C,⟨hf.1.drop i,fun k=>?_,hf.2.2⟩,D,N.az i,N.ext i,q,?_,I,rfl,rfl⟩
 .rw[AF.ax];split
  .rename_i hk;subst hk;exact J
  .exact hf.2.1 k
 .cases hx:X (N.az i) with
  |none=>rfl
  |some y=>
   cases y with
   |obj p g=>exact absurd Z (hs.apart _ p g hx i o hi u)
   |out j g=>exact absurd hx (B _ _ _)
theorem EU{i d:Nat}{o:AO}(y:X.still)(hi:s.h.get i=co o)(u:o.real=is)(j:o.all PV.flat)(hd:s.f.get d= .mp i):
  SX nt s X (fun t Y=> ∃b e,X b=io∧t=⟨(d,.iv (.v (.map (co b))))::s.f,(i,io)::s.h,s.nx⟩∧Y=X.put b (.obj o e)):=by
 intro M N a w hf hs
 obtain⟨B,C,t,Y,h1,D,I,b,e,q,J,rfl,h8,h9⟩:=PU (G:=fun b e q=>q= .iv (.v (.map (co b)))) (d:=d) y hi u j (fun M N U x A=>by
  rw[hd]at A;cases A with
  |mp _ hu=>exact⟨_,rfl,.iv _ _ (.v _)⟩) M N a w hf hs
 exact⟨B,C,t,Y,h1,D,I,b,e,J,h8,h9⟩
inductive Up (X:bB):Value->IV->Prop
 | row (b len cap sz e:Nat) (es:List (List PV)) (el:Nat->List IV) (hX:X b=co (.obj (.row sz es) e)) (hn:len=es.length) (hl:len<=cap) (hc:cap<=maxLen) (hel: ∀k e,es[k]? =co e->e=(el k).map .iv):
   Up X (.slice (co ⟨b,0,io⟩) len cap) (.bK sz len el)
 |map {V:Type} (b e:Nat) (kc:KC) (ev:V->IV) (z:V) (zv:Value) (dv:PV->V) (m:List (kc.K×V)) (hX:X b=co (.obj (.map kc ev z zv dv m) e)):Up X (.map (co b)) (.eG kc ev z zv m)
 |fh {V:Type} (b e:Nat) (kc:KC) (ev:V->IV) (z:V) (zv:Value) (hX:X b=co (.obj .fh e)) (hz: ∀M,IR M (ev z) zv):Up X (.map (co b)) (.eG kc ev z zv [])
 |Ti (y:Value):Up X y (.v y)
 |nil (sz:Nat) (el:Nat->List IV) (a:Option Addr) (cap:Nat):Up X (.slice a 0 cap) (.bK sz 0 el)
theorem G0{M:Mem}{N:Nm}{n:Nat}{h:AH}{w:World}(hr:Rel M N (· <n) h w)(hs:fc M N n h X w):
  ∃x:Mem,M.le x∧kI M N n h X w x N n h bB.nil w∧Rel x N (· <n) h w∧ ∀y p,Up X y p->IR x p y:=by
 let x:Mem:=⟨fun b=>match X b with
  |some (.obj _ _)=>(match w.heap[b]? with|some (.cells c _ _)=>co (.cells c)|some (.map es cl)=>co (.map es cl)|_=>io)
  |_=>M.fn b,fun b c hb=>by
   have:=M.My b c hb;cases u:X b with
   |none=>simpa using this
   |some y=>cases y with
    |obj o e=>exact absurd (this.symm.trans (hs.dA b o e u)) (by simp)
    |out i e=>simpa using this⟩
 have A: ∀b,(∀o e,X b≠co (.obj o e))->x b=M b:=fun b hb=>by
  show(match X b with|some (.obj _ _)=>_|_=>M.fn b)=M.fn b;cases u:X b with
  |none=>rfl
  |some y=>cases y with
   |obj o e=>exact absurd u (hb o e)
   |out i e=>rfl
 have D: ∀b o e,X b=co (.obj o e)->x b=(match w.heap[b]? with|some (.cells c _ _)=>co (MB.cells c)|some (.map es cl)=>co (MB.map es cl)|_=>io):=fun b o e hb=>by
  show(match X b with|some (.obj _ _)=>_|_=>M.fn b)=_;rw[hb]
 have B:M.le x:=fun b c hb=>by
  rw[A b fun o e u=>absurd (hb.symm.trans (hs.dA b o e u)) (by simp)];exact hb
 refine⟨x,B,⟨rfl,rfl,⟨rfl,VA _⟩,VA _,fun _ _ _=>rfl,B,fun b c h1 G=>?_,.refl _ _,VA _,fun c I=> .inr ?_⟩,⟨fun b c hb=>?_,hr.used,fun i o hi b0=>?_,fun i o hi=>(hr.obj i o hi).mono B (.refl _ _) (fun _ h=>h) (hr.used i o hi) Z,hr.inj⟩,fun y p hu=>?_⟩
 .cases u:X b with
  |none=>rw[A b (by simp[u]),h1]at G;cases G
  |some y=>cases y with
   |obj o e=>exact .inr (.inr ⟨o,e,u⟩)
   |out i e=>rw[A b (by simp[u]),h1]at G;cases G
 .rcases I with I|⟨o,e,I⟩
  .exact .inl I
  .cases I
 .cases u:X b with
  |none=>rw[A b (by simp[u])]at hb;exact hr.dA b c hb
  |some y=>cases y with
   |out i e=>rw[A b (by simp[u])]at hb;exact hr.dA b c hb
   |obj o e=>
    rw[D b o e u]at hb;split at hb
    .rename_i hh;cases hb;exact⟨_,_,hh⟩
    .rename_i hh;cases hb;exact hh
    .cases hb
 .rw[A _ fun q e u=>hs.apart _ q e u i o hi b0 Z];exact hr.dG i o hi b0
 .cases hu with
  |Ti=>exact .v _
  |nil=>exact .fz _ _ _ _
  |fh b e kc ev z zv hX hz=>
   have h1:=hs.obj b _ e hX;have G:x b=co (.map #[] 0):=by rw[D b _ e hX];rw[show w.heap[b]? =co (.map #[] 0) from h1]
   exact .eG _ _ _ _ _ b #[] 0 G Z (by simp) (by simp) (hz x) (by simp) (by simp)
  |map b e kc ev z zv dv m hX=>
   obtain⟨ents,cl,h1,G,h3⟩:=hs.obj b _ e hX;have h4:x b=co (.map ents cl):=by rw[D b _ e hX];rw[show w.heap[b]? =co (.map ents cl) from h1]
   have h5:=G.mono B;exact .eG _ _ _ _ _ b ents cl h4 h5.size h5.key h5.val (h3.mono B) h5.inj h5.lt
  |row b len cap sz e es el hX hn hl I hel=>
   rcases hs.obj b _ e hX with h0|⟨h0,c,T,g1,g2,g3,g4,g5⟩
   .have:=hs.real b _ e hX;rw[h0]at this;cases this
   have h4:x b=co (.cells c):=by rw[D b _ e hX];rw[show w.heap[b]? =co (.cells c T (0,0)) from g1]
   have C: ∀o,x.cell b o=c[o]? :=fun o=>by simp only[Mem.cell,h4]
   have a0: ∀k,k<len-> ∃e,es[k]? =co e:=fun k hk=>⟨_,Vt (by omega)⟩
   have c0: ∀k j,k<len->j<sz->k*sz+j<c.size:=fun k j hk hj=>by
    have:(k+1)*sz<=es.length*sz:=VO _ (by omega);rw[Wg]at this;omega
   refine .bK _ _ _ _ _ _ hl I (fun k hk=>?_) (fun k j hk hj=>?_) (fun k j p hk hp=>?_)
   .obtain⟨e,J⟩:=a0 k hk;have:=g4 _ e J;rw[hel _ e J]at this;simpa using this
   .rw[C,VL];simp[c0 k j hk hj]
   .obtain⟨e,J⟩:=a0 k hk;have h9:=g4 _ e J;have Y:=hel _ e J;have hj:j<sz:=by rw[<-h9,Y,VS];exact(Vs.1 hp).1
    have:=g5 _ e j (.iv p) J (by rw[Y,Vv,hp];rfl);rw[C,VL];rw[Vn]at this;cases this with
    |iv _ _ h=>exact h.mono B
def Up1(X:bB)(p j:PV):Prop:=j=p∨ ∃y q,p= .iv (.v y)∧j= .iv q∧Up X y q
inductive O8 (X:bB):AO->AO->Prop
 | row (sz:Nat) (es es':List (List PV)) (hl:es'.length=es.length) (h: ∀(k:Nat) (e':List PV),es'[k]? =co e'-> ∃e,es[k]? =co e∧e'.length=e.length∧ ∀(j:Nat) (p':PV),e'[j]? =co p'-> ∃p,e[j]? =co p∧Up1 X p p'):
   O8 X (.row sz es) (.row sz es')
 | map {V V':Type} (kc:KC) (ev:V->IV) (z:V) (zv:Value) (dv:PV->V) (m:List (kc.K×V)) (ev':V'->IV) (z':V') (dv':PV->V') (m':List (kc.K×V')) (hl:m'.length=m.length)
   (h: ∀(j:Nat) (x':kc.K×V'),m'[j]? =co x'-> ∃x y,m[j]? =co x∧x'.1=x.1∧ev x.2= .v y∧Up X y (ev' x'.2)) (hz: ∀M,IR M (ev' z') zv):O8 X (.map kc ev z zv dv m) (.map kc ev' z' zv dv' m')
theorem O8.or{M B:Mem}{N:Nm}{U:Nat->Prop}{w:World}{i:Nat}{o o':AO}(Y:M.le B)(hu: ∀y p,Up X y p->IR B p y)(h:O8 X o o')(ho:OR M N U w i o):OR B N U w i o':=by
 have hv: ∀p D x,Up1 X p D->VR M N U p x->VR B N U D x:=by
  rintro p D x (rfl|⟨y,q,rfl,rfl,C⟩) hx
  .exact hx.mono Y (.refl _ _) (fun _ h=>h)
  .cases hx with
   |iv _ _ hi=>cases hi with
    |v=>exact .iv _ _ (hu _ _ C)
 cases h with
 |row sz es es' hl h=>
  rcases ho with rfl|⟨h0,c,T,g1,g2,g3,g4,g5⟩
  .left;exact WT.1 hl
  .refine .inr ⟨h0,c,T,g1,g2,by rw[hl];exact g3,fun k G u=>?_,fun k G j D u a0=>?_⟩
   .obtain⟨e,h1,I,_⟩:=h k G u;rw[I];exact g4 k e h1
   .obtain⟨e,h1,_,C⟩:=h k G u;obtain⟨p,J,h5⟩:=C j D a0;exact hv _ _ _ h5 (g5 k e j p h1 J)
 |map kc ev z zv dv m ev' z' dv' m' hl h hz=>
  obtain⟨ents,cl,g1,g2,g3⟩:=ho;refine⟨ents,cl,g1,⟨g2.size.trans hl.symm,fun j x' A=>?_,fun j x' A=>?_,g2.inj,g2.lt⟩,hz B⟩
  .obtain⟨x,y,h1,I,_⟩:=h j x' A;rw[I];exact g2.key j x h1
  .obtain⟨x,y,h1,_,C,J⟩:=h j x' A;have:=g2.val j x h1;rw[C]at this;generalize(ents.getD j ci).val=v at this ⊢;cases this with
   |v=>exact hu _ _ J
theorem O8.real{o o':AO}(h:O8 X o o'):o'.real=o.real:=by
 cases h with
 |row sz es es' hl h=>cases es<;>cases es'<;>first|rfl|simp at hl
 |map=>rfl
theorem PX{i:Nat}{o o':AO}(hi:s.h.get i=co o)(hu:O8 X o o'):SX nt s X (fun t Y=>t=⟨s.f,(i,co o')::s.h,s.nx⟩∧Y=bB.nil):=by
 intro M N a w hf hs;obtain⟨G,h1,A,B,I⟩:=G0 hf.1 hs;have u: ∀j q,AH.get ((i,co o')::s.h) j=co q-> ∃y,s.h.get j=co y∧q.real=y.real∧(q=y∨(j=i∧q=o')):=by
  intro j q x;rw[AH.ax]at x;split at x
  .rename_i C;subst C;cases x;exact⟨o,hi,hu.real,.inr ⟨rfl,rfl⟩⟩
  .exact⟨q,x,rfl,.inl Z⟩
 refine⟨G,N,⟨s.f,(i,co o')::s.h,s.nx⟩,bB.nil,?_,⟨⟨B.dA,fun j q x=>?_,fun j q x D=>?_,fun j q x=>?_,fun j k q r x hk hq D J=>?_⟩,fun k=>(hf.2.1 k).mono h1 (.refl _ _) (fun _ h=>h),hf.2.2⟩,.nil ..,rfl,rfl⟩
 .exact⟨A.os,A.tape,A.output,A.size,A.gu,A.nZ,A.iq,A.nm,A.ule,fun b hb=> .inr<|by
   rcases hb with⟨j,q,g1,g2,g3⟩|⟨q,g,g1⟩
   .obtain⟨y,g4,g5,_⟩:=u j q g1;exact .inl ⟨j,y,g4,g5▸g2,g3⟩
   .cases g1⟩
 .obtain⟨y,g4,_⟩:=u j q x;exact hf.1.used j y g4
 .obtain⟨y,g4,g5,_⟩:=u j q x;exact B.dG j y g4 (g5▸D)
 .obtain⟨y,g4,_,rfl|⟨rfl,rfl⟩⟩:=u j q x
  .exact B.obj j _ g4
  .exact hu.or h1 I (hf.1.obj j o hi)
 .obtain⟨y,g4,g5,_⟩:=u j q x;obtain⟨r',g6,g7,_⟩:=u k r hk;exact hf.1.inj j k y r' g4 g6 (g5▸hq) (g7▸D) J
end
section
variable {P:Program}
section
variable {nt:NT} {Q:XQ} {k0:List XI} {s:AS} {X:bB}
theorem Lb{t:AS}(hh:t.h=s.h)(hn:t.nx=s.nx)(h: ∀M N a w,Fits M N s nt a w->fc M N s.nx s.h X w->FR M N (· <s.nx) t.f a.tmps):SX nt s X (fun j Y=>j=t∧Y=X):=by
 intro M N a w hf hs;obtain⟨f,u,n⟩:=t;simp only at hh hn;subst hh;subst hn;exact⟨M,N,⟨f,s.h,s.nx⟩,X,.refl _ _ _ _ _ _,⟨hf.1,h M N a w hf hs,hf.2.2⟩,hs,rfl,rfl⟩
theorem GL{b j e d:Nat}{p:PV}(A:X b=co (.out j e))(hp: ∀(M:Mem) (N:Nm) (U:Nat->Prop) (x:Value),U j->N.az j=b->N.ext j=e->VR M N U (s.f.get d) x->VR M N U p x):
  SX nt s X (fun t Y=>t=⟨(d,p)::s.f,s.h,s.nx⟩∧Y=X):=
 Lb Z Z fun M N a w hf hs k=>by
  obtain⟨h1,u,y⟩:=hs.out b j e A;rw[AF.ax];split
  .rename_i hk;subst hk;exact hp M N _ _ h1 u y (hf.2.1 k)
  .exact hf.2.1 k
theorem Cs{M:Mem}{N:Nm}{n:Nat}{h:AH}{w:World}(hr:Rel M N (· <n) h w){i:Nat}{o o':AO}(hi:h.get i=co o)(C:o'.real=is->o.real=is)(ho:OR M N (· <n) w i o'):Rel M N (· <n) ((i,co o')::h) w:=by
 have u: ∀j q,AH.get ((i,co o')::h) j=co q->(j=i∧q=o')∨(j≠i∧h.get j=co q):=by
  intro j q y;rw[AH.ax]at y;split at y
  .rename_i B;exact .inl ⟨B,by simpa using y.symm⟩
  .rename_i B;exact .inr ⟨B,y⟩
 refine⟨hr.dA,fun j q y=>?_,fun j q y x=>?_,fun j q y=>?_,fun j k q r y hk I x G=>?_⟩
 .rcases u j q y with⟨rfl,rfl⟩|⟨_,A⟩
  .exact hr.used j o hi
  .exact hr.used j q A
 .rcases u j q y with⟨rfl,rfl⟩|⟨_,A⟩
  .exact hr.dG j o hi (C x)
  .exact hr.dG j q A x
 .rcases u j q y with⟨rfl,rfl⟩|⟨_,A⟩
  .exact ho
  .exact hr.obj j q A
 .rcases u j q y with⟨rfl,rfl⟩|⟨g1,A⟩<;>rcases u k r hk with⟨g2,D⟩|⟨g2,D⟩
  .exact g2.symm
  .exact hr.inj j k o r hi D (C I) x G
  .subst g2;subst D;exact hr.inj j k q o A hi I (C x) G
  .exact hr.inj j k q r A D I x G
theorem PT{i:Nat}{o o':AO}(hi:s.h.get i=co o)(A:o'.real=is->o.real=is)(ho: ∀M N w,fc M N s.nx s.h X w->OR M N (· <s.nx) w i o->OR M N (· <s.nx) w i o'):
  SX nt s X (fun t Y=>t=⟨s.f,(i,co o')::s.h,s.nx⟩∧Y=X):=by
 intro M N a w hf hs;have u: ∀j q,AH.get ((i,co o')::s.h) j=co q->q.real=is-> ∃y,s.h.get j=co y∧y.real=is:=by
  intro j q x B;rw[AH.ax]at x;split at x
  .rename_i D;subst D;cases x;exact⟨o,hi,A B⟩
  .exact⟨q,x,B⟩
 refine⟨M,N,⟨s.f,(i,co o')::s.h,s.nx⟩,X,⟨rfl,rfl,⟨rfl,VA _⟩,VA _,fun _ _ _=>rfl,.refl _,fun b c h1 C=>by simp[h1]at C,.refl _ _,VA _,fun b hb=> .inr ?_⟩,
  ⟨Cs hf.1 hi A (ho M N w hs (hf.1.obj i o hi)),hf.2⟩,⟨hs.real,hs.obj,hs.dA,fun b p e hb j q x B=>?_,hs.out⟩,rfl,rfl⟩
 .rcases hb with⟨j,q,h1,C,G⟩|hb
  .obtain⟨y,g1,g2⟩:=u j q h1 C;exact .inl ⟨j,y,g1,g2,G⟩
  .exact .inr hb
 .obtain⟨y,g1,g2⟩:=u j q x B;exact hs.apart b p e hb j y g1 g2
theorem PW{i:Nat}{o o':AO}(hi:s.h.get i=co o)(j:eJ o o'):SX nt s X (fun t Y=>t=⟨s.f,(i,co o')::s.h,s.nx⟩∧Y=X):=
 PT hi j.1 fun M N w _ h=>j.2 M N _ w i h
end
end
section
variable {P:Program} {nt:NT} {Q:XQ} {k0:List XI} {s:AS} {X:bB} {ty:Ty}
theorem CN{c:Code}{R x:AS->bB->Prop}(h: ∀t Y,R t Y->x t Y)(hg:GX P nt (.code c:: .lp R::k0) Q s X):GX P nt (.code c:: .lp x::k0) Q s X:=by
 intro M N a w hf hs;refine AX.then hg hf hs fun e G I A B s' C D j u y=>⟨A,B,s',C,D,j,u,?_⟩
 cases e with
 |normal=>exact h _ _ y
 |_=>exact y
theorem yW{body:Code}{σ:Type 1}(i0 n:Nat)(A:i0<=n)(I:Nat->σ->AS)(J:Nat->σ->bB->Prop)(C:σ)(D:List Nat)(j0:J i0 C X)(h0:Wk s.nx D s (I i0 C))(B: ∀i x Y,J i x Y->Y.still)
  (j: ∀i x Y,i<=n->J i x Y->GX P nt (.code body:: .lp (fun t y=>i<n∧ ∃u L,J (i+1) u y∧Wk s.nx L t (I (i+1) u))::k0) Q (I i x) Y):GX P nt (.code (.loop body)::k0) Q s X:=by
 refine Tt (σ:={p:Nat×σ×bB//p.1<=n∧J p.1 p.2.1 p.2.2}) (fun p=>I p.1.1 p.1.2.1) (fun p=>p.1.2.2) (fun p=>n-p.1.1) ⟨(i0,C,X),A,j0⟩ D h0 Z (fun p=>B _ _ _ p.2.2) fun p=>?_;obtain⟨⟨i,x,Y⟩,h1,G⟩:=p;refine CN ?_ (j i x Y h1 G)
 rintro t y ⟨h3,u,L,h4,h5⟩;exact⟨⟨(i+1,u,y),h3,h4⟩,L,by show n-(i+1)<n-i;omega,h5,rfl⟩
end
section
variable {P:Program} {nt:NT} {Q:XQ} {k:List XI} {s:AS} {X:bB}
def GoW(P:Program)(nt:NT)(k:List XI)(Q:XQ)(X:bB)(n0:Nat)(t:AS):AQ:=fun e u=>(e= .normal∧ ∃L,Wk n0 L u t)∨(e≠ .normal∧kx P nt k Q e u X)
theorem xF{n0:Nat}{t u:AS}(L:List Nat)(h:Wk n0 L u t):GoW P nt k Q X n0 t .normal u:= .inl ⟨rfl,L,h⟩
theorem vj{c:Code}(t:AS)(h1:GO P nt [.code c] (GoW P nt k Q X s.nx t) s)(D:GX P nt k Q t X):GX P nt (.code c::k) Q s X:=by
 intro M N a w hf hs;refine AW.then h1 hf fun e G I y C u B j x=>?_;rcases x with⟨rfl,L,A⟩|⟨_,x⟩
 .obtain⟨g1,g2⟩:=kI.frame (A.ext B) hs;exact⟨y,_,t,X,g1,A.fits j,g2,D⟩
 .obtain⟨g1,g2⟩:=kI.frame B hs;exact⟨y,C,u,X,g1,j,g2,x⟩
end
def To(s t:AS):Prop:= ∀M N (nt:NT) a w,Fits M N s nt a w-> ∃j u,Ext M N (· <s.nx) s.h w j u (· <t.nx) t.h w∧Fits j u t nt a w
theorem To.refl(s:AS):To s s:=fun M N _ _ _ hf=>⟨M,N,.refl _ _ _ _ _,hf⟩
theorem To.trans{s t u:AS}(h:To s t)(g:To t u):To s u:=fun M N nt a w hf=>by
 obtain⟨j,y,B,f1⟩:=h M N nt a w hf;obtain⟨x,A,C,f2⟩:=g j y nt a w f1;exact⟨x,A,B.trans C,f2⟩
theorem To.wk{s t:AS}{L:List Nat}(hw:Wk s.nx L s t):To s t:=fun M N _ _ _ hf=>⟨M,_,hw.ext (.refl _ _ _ _ _),hw.fits hf⟩
theorem To.row{s:AS}(i:Nat){sz:Nat}{es:List (List PV)}(el:Nat->List IV)(hi:s.h.get i=co (.row sz es))(a0: ∀k e,es[k]? =co e->e=(el k).map .iv)
  (hf:s.f.lO i sz es.length) (hh:s.h.uW i sz es.length):To s ⟨s.f.jE i sz el,(i,io)::s.h.gE i sz el,s.nx⟩:=by
 intro M N nt a w u;obtain⟨Y,h1,x,h4⟩:=oQ u.1 hi a0;have C: ∀j o,AH.get ((i,io)::s.h.gE i sz el) j=co o-> ∃p,AH.get ((i,io)::s.h) j=co p∧s.h.get j=co p∧o=p.gE i sz el:=by
  intro j o y;obtain⟨g1,g2⟩:=bj j o y;rw[AH.oR,Vw]at g2;obtain⟨p,g3,g4⟩:=g2;exact⟨p,by rw[AH.ax,be g1];exact g3,g3,g4.symm⟩
 have hE:Ext M N (· <s.nx) s.h w Y N (· <s.nx) ((i,io)::s.h.gE i sz el) w:=⟨h1.os,h1.tape,h1.output,h1.size,h1.gu,h1.nZ,h1.iq,h1.nm,h1.ule,fun j o y A=>by
  obtain⟨p,g1,_,rfl⟩:=C j o y;rw[AO.iT]at A
  exact h1.gh j p g1 A⟩
 have hR:Rel Y N (· <s.nx) ((i,io)::s.h.gE i sz el) w:=by
  refine⟨x.dA,fun j o y=>?_,fun j o y A=>?_,fun j o y=>?_,fun j k o p y hk ho G=>?_⟩
  .obtain⟨p,g1,_,rfl⟩:=C j o y;exact x.used j p g1
  .obtain⟨p,g1,_,rfl⟩:=C j o y;rw[AO.iT]at A;exact x.dG j p g1 A
  .obtain⟨p,g1,g2,rfl⟩:=C j o y;cases p with
   |cells cs T0=>
    obtain⟨c,T,q1,q2,q3,q4,q5⟩:=u.1.obj j _ g2;have hok:=AH.lN hh j _ g2;refine⟨c,T,q1,q2,by simpa[ej]using q3,fun k q hq=>?_,q5⟩;rw[ej,Vv,Vw]at hq;obtain⟨q0,J,rfl⟩:=hq;exact h4 _ _ (q4 k q0 J) (eR hok k q0 J)
   |row s2 es2=>
    have hok:=AH.lN hh j _ g2;rcases u.1.obj j _ g2 with rfl|⟨q0,c,T,q1,q2,q3,q4,q5⟩
    .exact .inl Z
    .refine .inr ⟨q0,c,T,q1,q2,by simpa using q3,fun k e D=>?_,fun k e j2 p D G=>?_⟩
     .rw[Vv,Vw]at D;obtain⟨e0,B,rfl⟩:=D;rw[ej,VS];exact q4 k e0 B
     .rw[Vv,Vw]at D;obtain⟨e0,B,rfl⟩:=D;rw[ej,Vv,Vw]at G;obtain⟨p0,I,rfl⟩:=G;exact h4 _ _ (q5 k e0 j2 p0 B I) (eR (hok e0 (V2 B)) j2 p0 I)
   |bu=>exact x.obj j _ g1
   |fh=>exact x.obj j _ g1
   |map=>exact x.obj j _ g1
   |bX=>exact x.obj j _ g1
   |ef=>exact x.obj j _ g1
   |hQ=>exact x.obj j _ g1
   |eh=>exact x.obj j _ g1
   |n3=>exact x.obj j _ g1
  .obtain⟨o',g1,_,rfl⟩:=C j o y;obtain⟨p',g2,_,rfl⟩:=C k p hk;rw[AO.iT]at ho G;exact x.inj j k o' p' g1 g2 ho G
 have b0:Fits Y N ⟨s.f.jE i sz el,(i,io)::s.h.gE i sz el,s.nx⟩ nt a w:=⟨hR,fun d=>by
  rw[AF.jq];exact h4 _ _ (u.2.1 d) (AF.kT hf d),u.2.2⟩
 exact⟨Y,N,hE,b0⟩
section
variable {P:Program} {nt:NT} {Q:AQ} {k:List KI} {s t:AS}
theorem QY{all rest:List Oper}(ht:To s t)(h:GO P nt (.ops all rest::k) Q t):GO P nt (.ops all rest::k) Q s:=by
 intro M N a w hf;obtain⟨u,x,y,j⟩:=ht M N nt a w hf;exact fC (fun e a2 A ⟨M2,N2,s2,hx2,hf2,hr2⟩=>⟨M2,N2,s2,y.trans hx2,hf2,hr2⟩) _ _ _ (h u x a w j)
end
section
variable {P:Program} {ty:Ty} {nt:NT} {s:AS} {Q:AQ} {k:List KI}
theorem vl(B:bn P ty)(j:List (List PV)){all rest:List Oper}{o:Oper}{t:TypeId}{a x:Operand}(hg:o.guard=io)(ho:o.op= .store t a x)(hd:o.dst=io){i sz q off:Nat}{e:bC}(he:ty t=co e){es:List (List PV)}{row xs:List PV}
  (ha:ev s.f a= .cM i sz q off) (hi:s.h.get i=co (.row sz es)) (G:es[q]? =co row) (D:(ev s.f x).cells=co xs) (C:xs.length=e.size) (y:off+e.size<=sz) (A:dt xs=is) (hes:es.set q (setCells row off xs)=j)
  (h:GO P nt (.ops all rest::k) Q ⟨s.f,(i,co (.row sz j))::s.h,s.nx⟩):GO P nt (.ops all (o::rest)::k) Q s:=
 bz hg (mw B ho hd he ha hi G D C y A) fun u hu=>by subst hu;rw[hes];exact h
end
abbrev c6(l:List UInt8):List (List PV):=l.map fun c=>(aO c).map .iv
theorem Jm(a b:List UInt8):c6 (a++b)=c6 a++c6 b:=VD
section
variable {P:Program} {ty:Ty} {nt:NT} {s:AS} {Q:AQ} {k:List KI}
theorem LH{M:Mem}{N:Nm}{U:Nat->Prop}{w:World}{i:Nat}{l:List UInt8}:OR M N U w i (.row 1 (c6 l))↔(l=[]∨ ∃c T,w.heap[N.az i]? =co (.cells c T (0,0))∧c.size=N.ext i∧l.length<=c.size∧ ∀(j:Nat) (x:UInt8),l[j]? =co x->c.getD j undef= .int .u8 (x.toNat:Int)):=by
 constructor
 .rintro(h|⟨_,c,T,h1,h2,h3,h4,h5⟩)
  .exact .inl (by simpa using h)
  .refine .inr ⟨c,T,h1,h2,by simpa using h3,fun j x B=>?_⟩;have:=h5 j _ 0 _ (by rw[Vv,B];rfl) Z;rw[XT,WZ]at this;generalize c.getD j undef=y at this;cases this with
   |iv _ _ h=>cases h;rfl
 .rintro(h|⟨c,T,h1,h2,h3,h4⟩)
  .exact .inl (by simp[h])
  .refine .inr ⟨by decide,c,T,h1,h2,by simpa using h3,fun k e u=>?_,fun k e j p u A=>?_⟩
   .rw[Vv,Vw]at u;obtain⟨x,_,rfl⟩:=u;rfl
   .rw[Vv,Vw]at u;obtain⟨x,B,rfl⟩:=u
    match j,A with
    |0,A=>
     cases A;rw[XT,WZ,h4 k x B];exact .iv _ _ (.v _)
theorem oJ{i:Nat}{l m:List UInt8}{M j:Mem}{N u:Nm}{a:Act}{w x:World}(hf:Fits M N s nt a w)(y:Ext M N (· <s.nx) s.h w j u (· <s.nx+1) ((s.nx,co (.row 1 (c6 (l++m))))::(i,io)::s.h) x)
  (hr:Rel j u (· <s.nx+1) ((s.nx,co (.row 1 (c6 (l++m))))::(i,io)::s.h) x):
  Ext M N (· <s.nx) s.h w j u (· <(ir s i 1 (c6 l) (c6 m)).nx) (ir s i 1 (c6 l) (c6 m)).h x∧Fits j u (ir s i 1 (c6 l) (c6 m)) nt a x:=by
 rw[Jm]at y hr;exact⟨y,hr,hf.2.1.ext y,hf.2.2⟩
theorem Lm(x0:bn P ty){o:Oper}{x y:Operand}{t tu u:TypeId}(ho:o.op= .call ⟨.builtin .append, #[x,y], #[t,tu]⟩){e et eu:bC}(ht:ty t=co e)(hk:e.k= .aP (.slice u))(t1:ty tu=co et)(n1:et.k= .aP .string)(hu:ty u=co eu)
  {i len:Nat} {l:List UInt8} {b:ByteArray} (hx:ev s.f x= .sl i 0 len 1) (hi:s.h.get i=co (.row 1 (c6 l))) (C:l.length=len) (s1:eu.size=1) (k1:eu.bytes=1) (hz:eu.zero= .int .u8 0)
  (p1:ev s.f y= .iv (.v (.string b))) (a2:len+b.size<=140737488355328)
  {s':AS} (hp:putDst nt o (.sl s.nx 0 (len+b.size) 1) (ir s i 1 (c6 l) (c6 b.data.toList))=co s'):OT P nt o s (fun t=>t=s'):=by
 refine OT.value hp fun M N a w hf=>?_;obtain⟨⟨ii,g0,r0,q0,s0⟩,_⟩:=x0 u _ hu;rw[s1]at r0;rw[k1]at q0;rw[hz]at s0
 have k0:P.underlying t=co (.slice u):=by
  have:=(x0 t _ ht).2.1;rw[hk]at this;exact this.1
 have j0:P.underlying tu=co .string:=by
  have:=(x0 tu _ t1).2.1;rw[n1]at this;exact this.1
 have z0:=aN hf.2.1 x;rw[hx]at z0;have a1:=aN hf.2.1 y;rw[p1]at a1;have x1:a.eval y= .string b:=by
  generalize a.eval y=v at a1;cases a1 with
  |iv _ _ h=>cases h;rfl
 have A: ∀v w',(Builtin.append_ #[t,tu] o.type #[a.eval x,a.eval y]).run P w= .ok v w'->(execOp a.eval o).run P w= .ok (.value v) w':=by
  intro v w' h;simp only[execOp,ho,resolve];simp[invoke,builtin,h]
 rw[x1]at A;have b2:i<s.nx:=hf.1.used i _ hi;have m0:s.nx≠i:=by omega
 have o1:=LH.1 (hf.1.obj i _ hi);have f0:b.data.toList.length=b.size:=by simp
 have e0: ∀(j:Nat) (x:UInt8),b.data.toList[j]? =co x->(Lib.strCells b).getD j undef= .int .u8 (x.toNat:Int):=by
  intro j x hx;simp only[Lib.strCells,Vr,Vv,hx,Ww,Wv]
 have b0: ∀z:Array Value,(∀(j:Nat) (x:UInt8),l[j]? =co x->z.getD j undef= .int .u8 (x.toNat:Int))->(∀j,j<b.size->z.getD (len+j) undef=(Lib.strCells b).getD j undef)->
   ∀(j:Nat) (x:UInt8),(l++b.data.toList)[j]? =co x->z.getD j undef= .int .u8 (x.toNat:Int):=by
  intro z h1 h2 j x D;rcases Wp j l.length with hk|hk
  .rw[VJ hk]at D;exact h1 j x D
  .rw[VK hk]at D;have t0:j-l.length<b.size:=by rw[<-f0];exact(Vs.1 D).1
   have:=h2 _ t0;rw[e0 _ _ D,show len+(j-l.length)=j by omega]at this;exact this
 have Y: ∀(G:List Value) (a0:Nat),G.length=len->(∀(j:Nat) (x:UInt8),l[j]? =co x->G.getD j undef= .int .u8 (x.toNat:Int))->len+b.size<=a0->a0<=maxLen->0<len+b.size->
   ∀z:Array Value,z=G.toArray++(Lib.strCells b).toArray++Builtin.zeroCells (Value.int .u8 0).cells (a0-(len+b.size))->
   ∃M' J,Ext M N (· <s.nx) s.h w M' J (· <(ir s i 1 (c6 l) (c6 b.data.toList)).nx) (ir s i 1 (c6 l) (c6 b.data.toList)).h (w.drew.alloc (.cells z u))∧Fits M' J (ir s i 1 (c6 l) (c6 b.data.toList)) nt a (w.drew.alloc (.cells z u))∧
    VR M' J (· <(ir s i 1 (c6 l) (c6 b.data.toList)).nx) (.sl s.nx 0 (len+b.size) 1) (.slice (co ⟨w.heap.size,0,io⟩) (len+b.size) a0):=by
  intro G a0 f1 v1 o0 m1 v0 z b1;have z1:(Value.int IntKind.u8 0).cells.size=1:=rfl;have I:z.size=a0:=by
   rw[b1,W1,W1,size_zeroCells,z1];simp only[XC,f1,Lib.strCells_length];omega
  obtain⟨J,h1,h2,h3,h4,h5⟩:=hf.1.drew.alloc (.cells z u) (.row 1 (c6 (l++b.data.toList))) z.size (fun J g1 g2 g3=>by
   refine LH.2 (.inr ⟨z,u,by rw[g1];exact heap_alloc_new _ _,g2.symm,by rw[I,Vp,C,f0];omega,b0 z (fun j x D=>?_) (fun j D=>?_)⟩)
   .have c2:=(Vs.1 D).1;have e1:z.getD j undef=G.getD j undef:=by
     rw[b1,Vn,X7,V3 (by simp;omega),Vr];simp
    rw[e1];exact v1 j x D
   .rw[b1,Vn,V3 (by simp[Lib.strCells_length];omega),Xi (by simp;omega),Vr]
    simp[f1])
  have r1:=(h5.del i).swap (Ne.symm m0);have w1:=(((Ext.drew (M:=M) (N:=N) (U:=(· <s.nx)) (h:=s.h) (w:=w)).trans h4).del i).swap (Ne.symm m0);obtain⟨g1,g2⟩:=oJ (l:=l) (m:=b.data.toList) hf w1 r1;refine⟨M,J,g1,g2,?_⟩;have:=VR.sl (M:=M) (N:=J) (U:=(· <s.nx+1)) s.nx 0 (len+b.size) 1 a0 (by omega) v0 o0 m1 (by rw[h2,I];simp);rw[h1,W0]at this;exact this
 generalize a.eval x=vx at z0 A;cases z0 with
 |kP _ _ hU=>
  have he:l=[]:=V9 C;subst he;by_cases hm:b.size=0
  .have n0:b.data.toList=[]:=V9 (by rw[f0];exact hm);have B:=fZ (P:=P) w t tu o.type u ii k0 j0 g0 io 0 0 (VA _) b hm (.inl Z);obtain⟨h1,h2⟩:=hf.1.B1 1;obtain⟨g1,g2⟩:=oJ (i:=i) (l:=[]) (m:=[]) hf ((h1.del i).swap (Ne.symm m0)) ((h2.del i).swap (Ne.symm m0));rw[n0,hm];exact⟨_,w,M,N,A _ _ B,g1,g2,.kP _ _ (by simp only[ir];omega)⟩
  .have B:=run_append_nil_string (P:=P) w t tu o.type u ii (.int .u8 0) k0 j0 g0 s0 b (by omega) (by omega) (by rw[q0];omega);have e1:(b.data.map fun b=>Value.int .u8 b.toNat)=(Lib.strCells b).toArray:=by
    apply Array.ext';simp[Lib.strCells]
   rw[e1]at B;obtain⟨M',J,g1,g2,g3⟩:=Y [] (grownCap w b.size 0 u) Z (by simp) (by simpa using grownCap_ge w b.size 0 u) (grownCap_le_maxLen w _ _ _ (by simp only[maxLen];omega)) (by omega) _ Z;simp only[VL,VU,YX] at*
   exact⟨_,_,M',J,A _ _ B,by simpa using g1,by simpa using g2,by simpa using g3⟩
 |sl _ _ _ _ a0 hU h0 hl hc hext=>
  rcases o1 with rfl|⟨cur,CT,q1,q2,q3,q4⟩
  .simp at C;omega
  have c0:(AO.row 1 (c6 l)).real=is:=by cases l with
   |nil=>simp at C;omega
   |cons=>rfl
  rw[W0]at A;have p0:cur.size=a0:=by rw[q2,<-hext];omega
  by_cases hm:b.size=0
  .have n0:b.data.toList=[]:=V9 (by rw[f0];exact hm);have B:=fZ (P:=P) w t tu o.type u ii k0 j0 g0 (co ⟨N.az i,0,io⟩) len a0 hl b hm (.inr ⟨_,_,rfl⟩)
   obtain⟨h1,h2⟩:=hf.1.move hi c0 w (.row 1 (c6 (l++ []))) Z Z Z Z (fun _ _=>rfl) (by
    rw[We]
    exact LH.2 (.inr ⟨cur,CT,by simpa using q1,by simpa using q2,q3,q4⟩))
   obtain⟨g1,g2⟩:=oJ (l:=l) (m:=[]) (i:=i) hf h1 h2;rw[n0,hm];refine⟨_,w,M,_,A _ _ B,g1,g2,?_⟩;have:=VR.sl (M:=M) (N:=N.with s.nx (N.az i) (N.ext i)) (U:=(· <s.nx+1)) s.nx 0 len 1 a0 (by omega) h0 hl hc (by simpa using hext);simpa[ir]using this
  .by_cases d0:len+b.size<=a0
   .have B:=lK (P:=P) w t tu o.type u ii k0 j0 g0 r0 CT (N.az i) len a0 cur q1 b d0 (by omega);generalize hL:(cur.toList.take len++Lib.strCells b++cur.toList.drop (len+b.size)).toArray=L at B;have d1:L.size=cur.size:=by rw[<-hL];simp[Lib.strCells_length];omega
    have w0:=setRow_heap w (N.az i) cur L CT (0,0) q1;have j1: ∀j,j<len->L.getD j undef=cur.getD j undef:=by
     intro j D;rw[<-hL,Vn,Vn];simp only[Wd];rw[VF,VJ (by simp;omega),V8,am D,VY]
    have i1: ∀j,j<b.size->L.getD (len+j) undef=(Lib.strCells b).getD j undef:=by
     intro j D;rw[<-hL,Vn,Vr];simp only[Wd];rw[VJ (by simp[Lib.strCells_length];omega),VK (by simp;omega)];congr 2;simp;omega
    obtain⟨h1,h2⟩:=hf.1.move hi c0 (w.setRow (N.az i) L) (.row 1 (c6 (l++b.data.toList))) Z Z Z (by simp) (fun b hb=>by
      simp only[World.setRow,VZ]
      rw[be (fun e=>hb e.symm)]) (by
     refine LH.2 (.inr ⟨L,CT,by simpa using w0,by rw[d1];simpa using q2,by rw[d1,p0,Vp,C,f0];omega,b0 L (fun j x D=>?_) i1⟩);rw[j1 j (by rw[<-C];exact(Vs.1 D).1)]
     exact q4 j x D)
    obtain⟨g1,g2⟩:=oJ (l:=l) (m:=b.data.toList) (i:=i) hf h1 h2;refine⟨_,_,M,_,A _ _ B,g1,g2,?_⟩;have:=VR.sl (M:=M) (N:=N.with s.nx (N.az i) (N.ext i)) (U:=(· <s.nx+1)) s.nx 0 (len+b.size) 1 a0 (by omega) (by omega) d0 hc (by simpa using hext);simpa[ir]using this
   .have i0: ∀(j:Nat) (v:Value),(cur.toList.take len)[j]? =co v->w.cell? ((⟨N.az i,0,io⟩:Addr).add j)=co v:=by
     intro j v hv;rw[V8]at hv;split at hv
     .rw[cY,VL];simp only[World.cell?,q1];simpa using hv
     .cases hv
    have B:=Lib.run_append_grow_string (P:=P) w t tu o.type u ii (.int .u8 0) k0 j0 g0 s0 ⟨N.az i,0,io⟩ len a0 (cur.toList.take len) (by rw[r0];simp;omega) i0 b (by omega) (by omega)
     (by rw[q0];exact growslice_fits (by omega) (by omega))
    obtain⟨M',J,g1,g2,g3⟩:=Y (cur.toList.take len) (grownCap w (len+b.size) a0 u) (by simp;omega) (fun j x D=>by
      have:=q4 j x D;have t0:j<len:=by rw[<-C];exact(Vs.1 D).1
      rw[Vr,V8,am t0,VY]
      rw[Vn]at this;exact this) (grownCap_ge w _ _ _) (grownCap_le_maxLen w _ _ _ (by simp only[maxLen];omega)) (by omega) _ Z
    exact⟨_,_,M',J,A _ _ B,g1,g2,g3⟩
end
section
variable {P:Program} {ty:Ty} {nt:NT} {s:AS}
theorem mb(B:bn P ty)(l:List UInt8){o:Oper}{x:Operand}{t y u:TypeId}{el:Nat->List IV}{et G eu:bC}(ho:o.op= .convert t y x)(ht:ty t=co et)(hk:et.k= .aP (.slice u))(f0:ty y=co G)(c0:G.k= .aP .string)(hu:ty u=co eu)(d0:eu.k= .aP (.int .u8))
  {n:Nat} (hx:ev s.f x= .iv (.bK 1 n el)) (hn:n=l.length) (b0: ∀j,j<l.length->el j=aO (l.getD j 0)): ∀M N a w,Fits M N s nt a w-> ∃x,(execOp a.eval o).run P w= .ok (.value x) w∧VR M N (· <s.nx) (.iv (.v (.string ⟨l.toArray⟩))) x:=by
 intro M N a w hf;have hs:P.underlying y=co .string:=by have:=(B y _ f0).2.1;rw[c0]at this;exact this.1
 have A:P.underlying t=co (.slice u):=by have:=(B t _ ht).2.1;rw[hk]at this;exact this.1
 have C:P.underlying u=co (.int .u8):=by have:=(B u _ hu).2.1;rw[d0]at this;exact this.1
 subst hn;have D:=aN hf.2.1 x;rw[hx]at D;have J:(convert t y (a.eval x)).run P w= .ok (.string ⟨l.toArray⟩) w:=by
  generalize a.eval x=v at D;cases D with
  |iv _ _ hir=>
   generalize I:l.length=n at hir;cases hir with
   |fz _ _ a0 cap=>
    have e0:l=[]:=V9 I;subst e0;cases a0 with
    |none=>exact run_convert_bytes_nil (P:=P) w t u A C 0 cap y hs
    |some a1=>
     have h0:=run_convert_bytes_back (P:=P) w t y u a1 cap [] A C hs (fun j Y=>absurd Y (by simp));exact h0
   |bK _ _ _ b off cap hn hc hl hm hr=>
    rw[<-I];refine run_convert_bytes_back (P:=P) w t y u ⟨b,off,io⟩ cap l A C hs fun j Y=>?_;have h1:=hr j 0 (.v (.int .u8 ((l.getD j 0).toNat:Int))) (by omega) (by rw[b0 j Y];rfl);have h2:=hm j 0 (by omega) (by omega);rw[XT,WZ]at h1 h2;have hg:l.getD j 0=l[j]:=by rw[Vr,Vt Y];rfl
    rw[hg]at h1;cases hcl:M.cell b (off+j) with
    |none=>rw[hcl]at h2;cases h2
    |some v=>
     rw[hcl]at h1;cases h1 with
     |v=>
      rw[cY];exact hf.1.HX hcl
 exact⟨_,by simp only[execOp,ho];exact aW J,.iv _ _ (.v _)⟩
theorem MM{o:Oper}{t:TypeId}{x:Operand}{k:IntKind}{a:Int}(ho:o.op= .unOp .xor t x)(y:ev s.f x= .iv (.v (.int k a))):
  ∀M N c w,Fits M N s nt c w-> ∃x,(execOp c.eval o).run P w= .ok (.value x) w∧VR M N (· <s.nx) (.iv (.v (.int k (k.wrap ((BitVec.ofInt k.bits (if k.signed then-1 else k.max) ^^^ BitVec.ofInt k.bits a).toNat:Int))))) x:=by
 intro M N c w hf;have j:=aN hf.2.1 x;rw[y]at j;generalize u:c.eval x=vx at j;cases j with
 |iv _ _ h1=>cases h1 with
  |v=>
   refine⟨_,?_,.iv _ _ (.v _)⟩;simp only[execOp,ho,u];refine aW ?_;rfl
end
end
end Go.Al
