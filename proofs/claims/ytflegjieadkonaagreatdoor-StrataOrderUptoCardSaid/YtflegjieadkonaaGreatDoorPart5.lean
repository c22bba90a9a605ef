/-
  What the proofs of the claims need: part 5 of 6.
-/
import Derived.Test.YtflegjieadkonaaGreatDoorPart4
import Derived.KernelRfl
import Derived.Test.YtflegjieadkonaaGreatDoorRows
import Derived.WalkKit
import Derived.ProofKit
import Derived.OpenShut
import Derived.Deep.DeepHandedRow
import Derived.Lib.LaidTab
import Derived.LaidSub
import Derived.MakeChecks
import Derived.Test.YtflegjieadkonaaGreatDoorCards
import Derived.Test.YtflegjieadkonaaGreatDoorTie
import Derived.Laws.MakeOwn
import Derived.Laws.Slices
import Derived.StillTail
open And renaming intro→VJ
open Array renaming getD_eq_getD_getElem?→VK,getElem?_eq_getElem→Wx,getElem?_map→XS,getElem?_modify→WG,range→YN
open Bool renaming and_eq_false_iff→Xl,and_eq_true→Wc,eq_false_iff→W2,eq_iff_iff→WK,false_eq_true→Xn,not_eq_false'→Xg,not_eq_true'→Ws,or_eq_false_iff→Xf,or_eq_true→Wy
open ByteArray renaming empty→VT
open Classical renaming byContradiction→Xa,choose→X3,choose_spec→Xv
open Int renaming le_refl→XB,ofNat_lt→Wz,toNat_natCast→VQ
open List.Pairwise renaming imp→YV
open List renaming all_eq_false→XW,all_eq_true→Wl,any_eq_false→WA,any_eq_true→WU,append_assoc→VU,append_eq_nil_iff→XT,append_nil→WL,cons_append→W7,countP_cons→Yj,countP_eq_length→YK,countP_le_length→XV,countP_mono_left→Yg,countP_pos_iff→Ym,filter_cons→Xp,find?_cons→X9,find?_eq_none→W3,find?_some→Ya,flatMap_append→XM,flatMap_cons→WT,foldl_append→Xe,foldl_cons→Wm,getD_cons_succ→Xj,getD_eq_getElem?_getD→VP,getElem?_append_left→V9,getElem?_append_right→Wb,getElem?_cons_succ→W5,getElem?_cons_zero→XN,getElem?_eq_getElem→VS,getElem?_eq_some_iff→VO,getElem?_map→VV,getElem?_of_mem→WE,getElem?_replicate→YA,getElem?_take→WN,getElem?_toArray→Xd,getElem_inj→X4,getElem_mem→WI,length_append→VL,length_cons→Wu,length_eq_zero_iff→XP,length_filter_le→WR,length_map→Wr,length_nil→XH,length_range→Xt,length_singleton→WM,length_take→Xc,map_append→VN,map_cons→V6,map_nil→Wv,mem_append→V3,mem_append_left→Wp,mem_append_right→Xk,mem_cons→V4,mem_cons_of_mem→V2,mem_cons_self→V8,mem_filter→Wi,mem_flatMap→WY,mem_iff_getElem→Xh,mem_map→Wo,mem_map_of_mem→WD,mem_of_find?_eq_some→Xu,mem_of_getElem?→Wj,mem_range→Wf,mem_singleton→VX,mem_singleton_self→XD,nil_append→XJ,nodup_append→W8,nodup_cons→WC,nodup_nil→WB,pairwise_append→XY,pairwise_cons→Xb,range→V5,replicate→XZ,sum_cons→Xy,take_length→Xx,take_of_length_le→VY,take_succ_cons→W4
open Nat renaming add_assoc→Xq,add_le_add_right→Yk,add_mul→WX,beq→Wd,ble→X0,ble_eq_true_of_le→WH,blt→Wg,eq_of_beq_eq_true→V7,le_antisymm→Yl,le_of_ble_eq_true→VI,le_of_not_lt→Ww,le_refl→VZ,le_succ→XX,le_trans→Wh,lt_irrefl→Yx,lt_of_lt_of_le→Xw,lt_succ_iff_lt_or_eq→Yy,lt_succ_of_lt→Xs,lt_succ_self→Xo,max_eq_right→Y1,mul_le_mul_right→Wt,ne_of_lt→YC,not_lt_zero→X7,zero_add→Wn,zero_le→V1,zero_mul→XF
open Option renaming bind_some→Xi,getD_some→W6,map_eq_some_iff→VW,map_none→YH,map_some→W1
open Option.some renaming inj→WQ
open Prod renaming fst→We
open Prod.mk renaming injEq→V0
namespace Go.Proofs.YtflegjieadkonaaGreatDoor
open Go Go.Al
set_option maxRecDepth 10000
theorem sv {P:Program} {nt:Nat} {Q:AQ} {k:List KI} {s t:AS} {c:Code} (L:List Nat) (h0:Wk s.nx L s t) (h:GO P nt (.code c::k) Q t):GO P nt (.code c::k) Q s:=by
 intro M N a w hf;exact AW.then h (h0.fits hf) fun e a' w' M' N' s' hx hf' hr=>⟨M',N',s',(h0.ext (.refl _ _ _ _ _)).trans hx,hf',hr⟩
theorem Jw:eP .ej (oY []):=⟨id,fun M N U w j hj=>⟨#[],0,hj,⟨rfl,by simp,by simp,by simp,by simp⟩, .agg _ _ rfl fun j p hj=>by
 match j,hj with
 |0,hj=>cases hj;exact .v _
 |1,hj=>cases hj;exact .v _
 |j+2,hj=>simp[bY.c] at hj⟩⟩
theorem Jx:eP .ej (pA []):=⟨id,fun M N U w j hj=>⟨#[],0,hj,⟨rfl,by simp,by simp,by simp,by simp⟩,eL M⟩⟩
def mO (s:ah):Expr:= .mk 1 s ⟨0,0,VT⟩ 0 []
abbrev Em (s:ah):PV:= .agg [pI 1,pS s,pI 0,pI 0,pS VT,pI 0, .iv (.v (.slice none 0 0))]
theorem uR (s:ah):ak (Em s) (ag (mO s).c):= .agg ⟨.refl _, .refl _, .refl _, .refl _, .refl _, .refl _, .nil _ _,trivial⟩
theorem jW (s:ah):(mO s).size=1:=rfl
def tg (r:aw) (i:Int) (t:TS) (f:Int) (v:ah) (o:Expr):TS:=
 if f=2 then(t.add (fg r i i o)).add (fg r i i (mO v)) else if f=1 then t.add (fg r i i (mO v)) else gC r i i t (mO v) o
def nS (p:Prog) (r:aw) (i:Int) (t:TS) (ls:List Lit):Nat→TS
 |0=>t
 |k+1=>mQ p r i i (nS p r i t ls k) (ls.getD k default)
def stepT (p:Prog) (r:aw) (i:Int) (t:TS) (l:Lit):TS:=
 if l.kind=4 then nS p r i (tg r i t l.dC l.bs l.jV) l.ar l.ar.length else mQ p r i (-1) t l
def TS.o:TS:=⟨[],[],[]⟩
def dJ (p:Prog) (r:aw):Nat→TS
 |0=>TS.o.add (fk p r r.head (-1) (-1) r.head.an.length)
 |k+1=>stepT p r k (dJ p r k) (r.body.getD k default)
def cm (up:UM) (m:KM) (w:Want):KM:=if w.has=0∧bF (.si .i64) m (bD up w.at_) 0=0 then bQ (.si .i64) m (bD up w.at_) w.kind else m
def lE (p:Prog) (r:aw):TS:=⟨(dJ p r r.body.length).up,(dJ p r r.body.length).ws,(dJ p r r.body.length).ws.foldl (cm (dJ p r r.body.length).up) []⟩
theorem BM (r:aw) (i:Int) {t:TS} (ok:gl t.up) (f:Int) (v:ah) (o:Expr):gl (tg r i t f v o).up:=by
 unfold tg
 repeat' split
 ·exact ok
 ·exact ok
 ·exact x7 r i i ok _ _
theorem xv (p:Prog) (r:aw) (i:Int) {t:TS} (ok:gl t.up) (ls:List Lit): ∀k,gl (nS p r i t ls k).up
 |0=>ok
 |k+1=>CY p r i i (xv p r i ok ls k) _
theorem IP (p:Prog) (r:aw) (i:Int) {t:TS} (ok:gl t.up) (l:Lit):gl (stepT p r i t l).up:=by
 unfold stepT;split
 ·exact xv p r i (BM r i ok _ _ _) _ _
 ·exact CY p r i (-1) ok l
theorem vW (p:Prog) (r:aw): ∀k,gl (dJ p r k).up
 |0=>trivial
 |k+1=>IP p r k (vW p r k) _
theorem s4 (r:aw) (lit w:Int) (t:TS) (a b:Expr):(gC r lit w t a b).kind=t.kind:=by
 have h1: ∀(t:TS) u v,(th t u v).kind=t.kind:=fun t u v=>by unfold th;split<;>rfl
 have h2: ∀(t:TS) x y,(fm r lit w t x y).kind=t.kind:=fun t x y=>by
  unfold fm;split
  ·exact h1 _ _ _
  ·rfl
 unfold gC;split<;>exact h2 _ _ _
theorem xo (p:Prog) (r:aw) (lit w:Int) (t:TS) (l:Lit):(mQ p r lit w t l).kind=t.kind:=by
 unfold mQ
 repeat' split
 ·rfl
 ·exact s4 r lit w t _ _
 ·rfl
 ·rfl
theorem zM (p:Prog) (r:aw) (i:Int) (t:TS) (ls:List Lit): ∀k,(nS p r i t ls k).kind=t.kind
 |0=>rfl
 |k+1=>by rw[nS,xo,zM p r i t ls k]
theorem Aw (p:Prog) (r:aw) (i:Int) (t:TS) (l:Lit):(stepT p r i t l).kind=t.kind:=by
 unfold stepT;split
 ·rw[zM]
  unfold tg
  repeat' split
  ·rfl
  ·rfl
  ·exact s4 r i i t _ _
 ·exact xo p r i (-1) t l
theorem uK (p:Prog) (r:aw): ∀k,(dJ p r k).kind=[]
 |0=>rfl
 |k+1=>by rw[dJ,Aw,uK p r k]
theorem za (r:aw) (i:Int) (t:TS) (f:Int) (v:ah) (o:Expr):(tg r i t f v o).ws.length≤t.ws.length+o.size+2:=by
 have h1:=fY r i i o;have h2:=fY r i i (mO v);have h3:=uN r i i t (mO v) o;rw[jW] at h2 h3;unfold tg
 repeat' split
 ·show((t.ws++_)++_).length≤_
  rw[VL,VL];omega
 ·show(t.ws++_).length≤_
  rw[VL];omega
 ·omega
theorem gG: ∀(l:List Lit) (i:Nat),i<l.length→Lit.aB (l.take i)+(l.getD i default).size≤Lit.aB l
 | [],i,h=>by simp at h
 |s::r,0,_=>by simp[Lit.aB]
 |s::r,i+1,h=>by
  have:=gG r i (by simpa using h);simp only[W4,Xj,Lit.aB];omega
theorem Lit.kK (l:List Lit) (i:Nat) (h:i<l.length):Lit.aB (l.take (i+1))=Lit.aB (l.take i)+(l.getD i default).size:=by
 rw[aY h]
 have: ∀(a:List Lit) (b:Lit),Lit.aB (a++ [b])=Lit.aB a+b.size:=by
  intro a b
  induction a with
  |nil=>simp[Lit.aB]
  |cons x r ih=>simp only[W7,Lit.aB,ih];omega
 exact this _ _
theorem sj (p:Prog) (r:aw) (i:Int) (t:TS) (ls:List Lit): ∀k,k≤ls.length→(nS p r i t ls k).ws.length≤t.ws.length+Lit.aB (ls.take k)
 |0,_=>by simp[nS,Lit.aB]
 |k+1,h=>by
  have h1:=sj p r i t ls k (by omega);have h2:=zD p r i i (nS p r i t ls k) (ls.getD k default);rw[nS,Lit.kK ls k (by omega)];omega
theorem Ca (p:Prog) (r:aw) (i:Int) (t:TS) (l:Lit):(stepT p r i t l).ws.length≤t.ws.length+l.size:=by
 have hsz:=l.size_eq;unfold stepT;split
 ·have h1:=sj p r i (tg r i t l.dC l.bs l.jV) l.ar l.ar.length (VZ _)
  have h2:=za r i t l.dC l.bs l.jV;rw[Xx] at h1;omega
 ·exact zD p r i (-1) t l
theorem sS (p:Prog) (r:aw): ∀k,k≤r.body.length→(dJ p r k).ws.length≤r.head.an.length+Lit.aB (r.body.take k)
 |0,_=>by
  have:=ll p r r.head (-1) (-1) r.head.an.length;show([]++_).length≤_
  simp only[XJ];omega
 |k+1,h=>by
  have h1:=sS p r k (by omega);have h2:=Ca p r k (dJ p r k) (r.body.getD k default);rw[dJ,Lit.kK r.body k (by omega)];omega
theorem Vg (r:aw) (up:UM) (kd:KM) (W:IV) (v0:bY) (ok:gl up):b8 Tryz.prog 201 [.ptr 0 0,ag v0.c] [.cells [.iv (b6 r), .mp 1, .iv W, .mp 2],oY up,pA kd] (ag (bD up v0).c) [(0,some (.cells [.iv (b6 r), .mp 1, .iv W, .mp 2])),(1,some (oY up)),(2,some (pA kd))] 3:=by
 refine aF ae Tryz.func201 rfl (by decide) Tryz.ntmps201 rfl (by simp) ?_;refine gA rfl ?_
 refine lZ (σ:={v:bY//bD up v=bD up v0}) (fun v=>⟨[(0, .ptr 0 0),(3, .ptr 3 0),(4, .ptr 4 0)],
  [(0,some (.cells [.iv (b6 r), .mp 1, .iv W, .mp 2])),(1,some (oY up)),(2,some (pA kd)),(3,some (.cells [pS v.1.1,pI v.1.2])),(4,some (.cells [pS ⟨#[]⟩,pI 0]))],5⟩) (fun v=>An up v.1) ⟨v0,rfl⟩ []
  (wk rfl rfl rfl ⟨.refl _,rfl, .refl _,rfl, .refl _,rfl,trivial⟩ ⟨⟨_,rfl, .of_eq rfl⟩,VI rfl,rfl,hM rfl rfl rfl (hM rfl rfl rfl ⟨⟨_,rfl, .of_eq rfl⟩,VI rfl,rfl,⟨_,rfl, .of_eq rfl⟩,VI rfl,rfl,trivial⟩)⟩ rfl) fun v=>?_
 obtain⟨v,hv⟩:=v;refine gA rfl ?_;refine VJ (fun g=>?_) (fun g=>?_)
 ·have h:eI (.si .i64) up v=false:=by simpa using g
  have e:bD up v0=v:=by rw[←hv];exact oe up v h
  refine gA rfl (ax [] (by first|exact .inr rfl|exact .inl rfl) rfl (wk rfl rfl rfl ⟨.of_eq (congrArg (fun x:bY=>ag x.c) e.symm),rfl,trivial⟩ ⟨⟨_,rfl, .of_eq rfl⟩,VI rfl,rfl,hM rfl rfl rfl (hM rfl rfl rfl trivial)⟩ rfl))
 ·have h:eI (.si .i64) up v=true:=by simpa using g
  obtain⟨h1,h2⟩:=lK up v ok h;refine gA rfl ?_;exact⟨⟨bF (.si .i64) up v bY.z,h1.trans hv⟩,[],h2,wk rfl rfl rfl ⟨.refl _,rfl, .refl _,rfl, .refl _,rfl,trivial⟩ ⟨⟨_,rfl, .of_eq rfl⟩,VI rfl,rfl,hM rfl rfl rfl (hM rfl rfl rfl ⟨⟨_,rfl, .of_eq rfl⟩,VI rfl,rfl,⟨_,rfl, .of_eq rfl⟩,VI rfl,rfl,trivial⟩)⟩ rfl⟩
set_option maxHeartbeats 2000000 in
theorem c49 (p:Prog) (r:aw) (hb:r.size≤100000000):Pure Tryz.prog 168 [.iv (ct p), .iv (b6 r)] (.iv (QN r (lE p r))):=by
 unfold aw.size at hb;have hal:=Lit.aI r.body;have hbs:r.body.length≤Lit.aB r.body:=hal;refine az ae Tryz.func168 rfl (by decide) Tryz.ntmps168 rfl (by simp) rfl ?_;refine gM 14 rfl (xC 2 2 5 rfl rfl ?_)
 refine sv [] (t:=⟨[(0, .iv (ct p)),(1, .iv (b6 r)),(5, .ptr 2 0)],[(2,some (TS.cell r 0 3 TS.o.ws.length 1)),(0,some (oY TS.o.up)),(3,some (a7 5 TS.o.ws Want.c)),(1,some (pA TS.o.kind))],4⟩)
  (wk rfl rfl rfl ⟨.refl _,rfl, .refl _,rfl, .refl _,rfl,trivial⟩ ⟨⟨_,rfl, .of_eq rfl⟩,VI rfl,rfl,⟨_,rfl,Jw⟩,VI rfl,trivial,⟨_,rfl, .of_eq rfl⟩,VI rfl,dT _,⟨_,rfl,Jx⟩,VI rfl,trivial,trivial⟩ rfl) ?_
 refine gA rfl (jT (d90 p r TS.o r.head (-1) (-1) (by show 0+_≤_;omega)) rfl rfl rfl rfl rfl rfl rfl (by first|rfl|(rw[VL];rfl)|simp) (by first|rfl|(rw[VN];rfl)|(simp only[VN,VU];rfl)) rfl rfl rfl rfl rfl rfl ?_);refine gA rfl ?_
 refine aL 0 r.body.length (V1 _) (fun i=>⟨[(0, .iv (ct p)),(1, .iv (b6 r)),(5, .ptr 2 0),(31, .iv (lits r.body)),(32,pI r.body.length),(33,pI i)],
  [(2,some (TS.cell r 0 5 (dJ p r i).ws.length 1)),(0,some (oY (dJ p r i).up)),(5,some (a7 5 (dJ p r i).ws Want.c)),(1,some (pA (dJ p r i).kind))],6⟩) (fun _=>True) _ trivial
  (tc (t:=dJ p r 0) rfl rfl rfl rfl rfl rfl rfl rfl rfl rfl rfl ⟨.refl _,rfl, .refl _,rfl, .refl _,rfl, .refl _,rfl, .refl _,rfl, .refl _,rfl,trivial⟩) fun i hi _=>?_
 have hln:=sS p r i hi;have hok:=vW p r i;refine gA rfl ?_;refine VJ (fun h1=>?_) (fun h1=>?_)
 ·have h1:i<r.body.length:=by simpa using h1
  have hst:=gG r.body i h1;have hs:dJ p r (i+1)=stepT p r i (dJ p r i) (r.body.getD i default):=rfl;generalize dJ p r i=t1 at*
  have hsz:=(r.body.getD i default).size_eq;refine gA rfl ?_;refine VJ (fun k4=>?_) (fun k4=>?_)
  ·have k4: ¬(r.body.getD i default).kind=4:=by have g:(!decide ((r.body.getD i default).kind=4))=true:=k4;simpa only[Ws,decide_eq_false_iff_not] using g
   have hS:stepT p r i t1 (r.body.getD i default)=mQ p r i (-1) t1 (r.body.getD i default):=if_neg k4;rw[hS] at hs;refine gA rfl (jT (d91 p r t1 (r.body.getD i default) i (-1) hok (by omega)) rfl rfl rfl rfl rfl rfl rfl (by first|rfl|(rw[VL];rfl)|simp) (by first|rfl|(rw[VN];rfl)|(simp only[VN,VU];rfl)) rfl rfl rfl rfl rfl rfl ?_);refine gA rfl ⟨h1,trivial,_,tc (hs.symm) rfl rfl rfl rfl (by first|rfl|(rw[VL];rfl)|simp) (by first|rfl|(rw[VN];rfl)|(simp only[VN,VU];rfl)) rfl rfl rfl rfl ⟨.refl _,rfl, .refl _,rfl, .refl _,rfl, .refl _,rfl, .refl _,rfl, .refl _,rfl,trivial⟩⟩
  have k4:(r.body.getD i default).kind=4:=by have g:(!decide ((r.body.getD i default).kind=4))=false:=k4;simpa only[Xg,decide_eq_true_eq] using g
  have hS:stepT p r i t1 (r.body.getD i default)=nS p r i (tg r i t1 (r.body.getD i default).dC (r.body.getD i default).bs (r.body.getD i default).jV) (r.body.getD i default).ar (r.body.getD i default).ar.length:=if_pos k4;rw[hS] at hs;have hV:tg r i t1 (r.body.getD i default).dC (r.body.getD i default).bs (r.body.getD i default).jV=if(r.body.getD i default).dC=2 then(t1.add (fg r i i (r.body.getD i default).jV)).add (fg r i i (mO (r.body.getD i default).bs)) else if(r.body.getD i default).dC=1 then t1.add (fg r i i (mO (r.body.getD i default).bs)) else gC r i i t1 (mO (r.body.getD i default).bs) (r.body.getD i default).jV:=rfl;have hVo:=BM r i hok (r.body.getD i default).dC (r.body.getD i default).bs (r.body.getD i default).jV;have hVl:=za r i t1 (r.body.getD i default).dC (r.body.getD i default).bs (r.body.getD i default).jV;have habl:=Lit.aI (r.body.getD i default).ar;have hvs:=jW (r.body.getD i default).bs;have hol:=fY r i i (r.body.getD i default).jV;generalize tg r i t1 (r.body.getD i default).dC (r.body.getD i default).bs (r.body.getD i default).jV=V at*
  refine gA rfl ?_;refine VJ (fun f2=>?_) (fun f2=>?_)
  ·have f2:(r.body.getD i default).dC=2:=of_decide_eq_true f2
   have hv:V=(t1.add (fg r i i (r.body.getD i default).jV)).add (fg r i i (mO (r.body.getD i default).bs)):=by rw[hV,if_pos f2]
   refine gA rfl (jT (DQ r t1 (r.body.getD i default).jV i i (by omega)) rfl rfl rfl rfl rfl rfl rfl (by first|rfl|(rw[VL];rfl)|simp) (by first|rfl|(rw[VN];rfl)|(simp only[VN,VU];rfl)) rfl rfl rfl rfl rfl rfl ?_);refine gA rfl (jT (b8.le (aa:=[.ptr 0 0,Em (r.body.getD i default).bs,pI i,pI i]) (DQ r (t1.add (fg r i i (r.body.getD i default).jV)) (mO (r.body.getD i default).bs) i i (by show(t1.ws++_).length+_≤_;rw[VL,jW];omega)) ⟨.refl _,uR _, .refl _, .refl _,trivial⟩) rfl rfl rfl rfl rfl rfl rfl (by first|rfl|(rw[VL];rfl)|simp) (by first|rfl|(rw[VN];rfl)|(simp only[VN,VU];rfl)) rfl rfl rfl rfl rfl rfl ?_);refine gA rfl ?_
   refine aL 0 (r.body.getD i default).ar.length (V1 _) (fun k=>⟨[(0, .iv (ct p)),(1, .iv (b6 r)),(5, .ptr 2 0),(6,pI i),(31, .iv (lits r.body)),(32,pI r.body.length),(33,pI i),(79, .iv (lits (r.body.getD i default).ar)),(80,pI (r.body.getD i default).ar.length),(81,pI k)],[(2,some (TS.cell r 0 10 (nS p r i V (r.body.getD i default).ar k).ws.length 1)),(0,some (oY (nS p r i V (r.body.getD i default).ar k).up)),(10,some (a7 5 (nS p r i V (r.body.getD i default).ar k).ws Want.c)),(1,some (pA (nS p r i V (r.body.getD i default).ar k).kind))],11⟩) (fun _=>True) _ trivial
    (tc hv.symm rfl rfl rfl rfl rfl rfl rfl rfl rfl rfl ⟨.refl _,rfl, .refl _,rfl, .refl _,rfl, .refl _,rfl, .refl _,rfl, .refl _,rfl, .refl _,rfl, .iv (nO _),rfl, .refl _,rfl, .refl _,rfl,trivial⟩) fun k hk _=>?_
   have hil:=sj p r i V (r.body.getD i default).ar k hk;have hio:=xv p r i hVo (r.body.getD i default).ar k;have his:nS p r i V (r.body.getD i default).ar (k+1)=mQ p r i i (nS p r i V (r.body.getD i default).ar k) ((r.body.getD i default).ar.getD k default):=rfl;refine gA rfl ?_;refine VJ (fun h2=>?_) (fun h2=>?_)
   ·have h2:k<(r.body.getD i default).ar.length:=Wz.1 (of_decide_eq_true h2)
    have hkt:=gG (r.body.getD i default).ar k h2;refine gA rfl (jT (d91 p r (nS p r i V (r.body.getD i default).ar k) ((r.body.getD i default).ar.getD k default) i i hio (by omega)) rfl rfl rfl rfl rfl rfl rfl (by first|rfl|(rw[VL];rfl)|simp) (by first|rfl|(rw[VN];rfl)|(simp only[VN,VU];rfl)) rfl rfl rfl rfl rfl rfl ?_);refine gA rfl ⟨h2,trivial,_,tc (rfl) rfl rfl rfl rfl (by first|rfl|(rw[VL];rfl)|simp) (by first|rfl|(rw[VN];rfl)|(simp only[VN,VU];rfl)) rfl rfl rfl rfl ⟨.refl _,rfl, .refl _,rfl, .refl _,rfl, .refl _,rfl, .refl _,rfl, .refl _,rfl, .refl _,rfl, .refl _,rfl, .refl _,rfl, .refl _,rfl,trivial⟩⟩
   ·have h2:(r.body.getD i default).ar.length≤k:=Ww fun hh=>absurd (Wz.2 hh) (of_decide_eq_false h2)
    have hke:k=(r.body.getD i default).ar.length:=by omega
    subst hke;refine gA rfl ⟨h1,trivial,_,tc (hs.symm) rfl rfl rfl rfl (by first|rfl|(rw[VL];rfl)|simp) (by first|rfl|(rw[VN];rfl)|(simp only[VN,VU];rfl)) rfl rfl rfl rfl ⟨.refl _,rfl, .refl _,rfl, .refl _,rfl, .refl _,rfl, .refl _,rfl, .refl _,rfl,trivial⟩⟩
  have f2: ¬(r.body.getD i default).dC=2:=of_decide_eq_false f2;rw[if_neg f2] at hV;refine gA rfl ?_;refine VJ (fun f1=>?_) (fun f1=>?_)
  ·have f1:(r.body.getD i default).dC=1:=of_decide_eq_true f1
   have hv:V=t1.add (fg r i i (mO (r.body.getD i default).bs)):=by rw[hV,if_pos f1]
   refine gA rfl (jT (b8.le (aa:=[.ptr 0 0,Em (r.body.getD i default).bs,pI i,pI i]) (DQ r t1 (mO (r.body.getD i default).bs) i i (by rw[jW];omega)) ⟨.refl _,uR _, .refl _, .refl _,trivial⟩) rfl rfl rfl rfl rfl rfl rfl (by first|rfl|(rw[VL];rfl)|simp) (by first|rfl|(rw[VN];rfl)|(simp only[VN,VU];rfl)) rfl rfl rfl rfl rfl rfl ?_);refine gA rfl ?_
   refine aL 0 (r.body.getD i default).ar.length (V1 _) (fun k=>⟨[(0, .iv (ct p)),(1, .iv (b6 r)),(5, .ptr 2 0),(6,pI i),(31, .iv (lits r.body)),(32,pI r.body.length),(33,pI i),(79, .iv (lits (r.body.getD i default).ar)),(80,pI (r.body.getD i default).ar.length),(81,pI k)],[(2,some (TS.cell r 0 9 (nS p r i V (r.body.getD i default).ar k).ws.length 1)),(0,some (oY (nS p r i V (r.body.getD i default).ar k).up)),(9,some (a7 5 (nS p r i V (r.body.getD i default).ar k).ws Want.c)),(1,some (pA (nS p r i V (r.body.getD i default).ar k).kind))],10⟩) (fun _=>True) _ trivial
    (tc hv.symm rfl rfl rfl rfl rfl rfl rfl rfl rfl rfl ⟨.refl _,rfl, .refl _,rfl, .refl _,rfl, .refl _,rfl, .refl _,rfl, .refl _,rfl, .refl _,rfl, .iv (nO _),rfl, .refl _,rfl, .refl _,rfl,trivial⟩) fun k hk _=>?_
   have hil:=sj p r i V (r.body.getD i default).ar k hk;have hio:=xv p r i hVo (r.body.getD i default).ar k;have his:nS p r i V (r.body.getD i default).ar (k+1)=mQ p r i i (nS p r i V (r.body.getD i default).ar k) ((r.body.getD i default).ar.getD k default):=rfl;refine gA rfl ?_;refine VJ (fun h2=>?_) (fun h2=>?_)
   ·have h2:k<(r.body.getD i default).ar.length:=Wz.1 (of_decide_eq_true h2)
    have hkt:=gG (r.body.getD i default).ar k h2;refine gA rfl (jT (d91 p r (nS p r i V (r.body.getD i default).ar k) ((r.body.getD i default).ar.getD k default) i i hio (by omega)) rfl rfl rfl rfl rfl rfl rfl (by first|rfl|(rw[VL];rfl)|simp) (by first|rfl|(rw[VN];rfl)|(simp only[VN,VU];rfl)) rfl rfl rfl rfl rfl rfl ?_);refine gA rfl ⟨h2,trivial,_,tc (rfl) rfl rfl rfl rfl (by first|rfl|(rw[VL];rfl)|simp) (by first|rfl|(rw[VN];rfl)|(simp only[VN,VU];rfl)) rfl rfl rfl rfl ⟨.refl _,rfl, .refl _,rfl, .refl _,rfl, .refl _,rfl, .refl _,rfl, .refl _,rfl, .refl _,rfl, .refl _,rfl, .refl _,rfl, .refl _,rfl,trivial⟩⟩
   ·have h2:(r.body.getD i default).ar.length≤k:=Ww fun hh=>absurd (Wz.2 hh) (of_decide_eq_false h2)
    have hke:k=(r.body.getD i default).ar.length:=by omega
    subst hke;refine gA rfl ⟨h1,trivial,_,tc (hs.symm) rfl rfl rfl rfl (by first|rfl|(rw[VL];rfl)|simp) (by first|rfl|(rw[VN];rfl)|(simp only[VN,VU];rfl)) rfl rfl rfl rfl ⟨.refl _,rfl, .refl _,rfl, .refl _,rfl, .refl _,rfl, .refl _,rfl, .refl _,rfl,trivial⟩⟩
  ·have f1: ¬(r.body.getD i default).dC=1:=of_decide_eq_false f1
   have hv:V=gC r i i t1 (mO (r.body.getD i default).bs) (r.body.getD i default).jV:=by rw[hV,if_neg f1]
   refine gA rfl (jT (b8.le (aa:=[.ptr 0 0,Em (r.body.getD i default).bs,ag (r.body.getD i default).jV.c,pI i,pI i]) (d93 r t1 (mO (r.body.getD i default).bs) (r.body.getD i default).jV i i hok (by rw[jW];omega)) ⟨.refl _,uR _, .refl _, .refl _, .refl _,trivial⟩) rfl rfl rfl rfl rfl rfl rfl (by first|rfl|(rw[VL];rfl)|simp) (by first|rfl|(rw[VN];rfl)|(simp only[VN,VU];rfl)) rfl rfl rfl rfl rfl rfl ?_);refine gA rfl ?_
   refine aL 0 (r.body.getD i default).ar.length (V1 _) (fun k=>⟨[(0, .iv (ct p)),(1, .iv (b6 r)),(5, .ptr 2 0),(6,pI i),(31, .iv (lits r.body)),(32,pI r.body.length),(33,pI i),(79, .iv (lits (r.body.getD i default).ar)),(80,pI (r.body.getD i default).ar.length),(81,pI k)],[(2,some (TS.cell r 0 9 (nS p r i V (r.body.getD i default).ar k).ws.length 1)),(0,some (oY (nS p r i V (r.body.getD i default).ar k).up)),(9,some (a7 5 (nS p r i V (r.body.getD i default).ar k).ws Want.c)),(1,some (pA (nS p r i V (r.body.getD i default).ar k).kind))],10⟩) (fun _=>True) _ trivial
    (tc hv.symm rfl rfl rfl rfl rfl rfl rfl rfl rfl rfl ⟨.refl _,rfl, .refl _,rfl, .refl _,rfl, .refl _,rfl, .refl _,rfl, .refl _,rfl, .refl _,rfl, .iv (nO _),rfl, .refl _,rfl, .refl _,rfl,trivial⟩) fun k hk _=>?_
   have hil:=sj p r i V (r.body.getD i default).ar k hk;have hio:=xv p r i hVo (r.body.getD i default).ar k;have his:nS p r i V (r.body.getD i default).ar (k+1)=mQ p r i i (nS p r i V (r.body.getD i default).ar k) ((r.body.getD i default).ar.getD k default):=rfl;refine gA rfl ?_;refine VJ (fun h2=>?_) (fun h2=>?_)
   ·have h2:k<(r.body.getD i default).ar.length:=Wz.1 (of_decide_eq_true h2)
    have hkt:=gG (r.body.getD i default).ar k h2;refine gA rfl (jT (d91 p r (nS p r i V (r.body.getD i default).ar k) ((r.body.getD i default).ar.getD k default) i i hio (by omega)) rfl rfl rfl rfl rfl rfl rfl (by first|rfl|(rw[VL];rfl)|simp) (by first|rfl|(rw[VN];rfl)|(simp only[VN,VU];rfl)) rfl rfl rfl rfl rfl rfl ?_);refine gA rfl ⟨h2,trivial,_,tc (rfl) rfl rfl rfl rfl (by first|rfl|(rw[VL];rfl)|simp) (by first|rfl|(rw[VN];rfl)|(simp only[VN,VU];rfl)) rfl rfl rfl rfl ⟨.refl _,rfl, .refl _,rfl, .refl _,rfl, .refl _,rfl, .refl _,rfl, .refl _,rfl, .refl _,rfl, .refl _,rfl, .refl _,rfl, .refl _,rfl,trivial⟩⟩
   ·have h2:(r.body.getD i default).ar.length≤k:=Ww fun hh=>absurd (Wz.2 hh) (of_decide_eq_false h2)
    have hke:k=(r.body.getD i default).ar.length:=by omega
    subst hke;refine gA rfl ⟨h1,trivial,_,tc (hs.symm) rfl rfl rfl rfl (by first|rfl|(rw[VL];rfl)|simp) (by first|rfl|(rw[VN];rfl)|(simp only[VN,VU];rfl)) rfl rfl rfl rfl ⟨.refl _,rfl, .refl _,rfl, .refl _,rfl, .refl _,rfl, .refl _,rfl, .refl _,rfl,trivial⟩⟩
 ·have h1:r.body.length≤i:=by simpa using h1
  have hie:i=r.body.length:=by omega
  subst hie;have hT:lE p r=⟨(dJ p r r.body.length).up,(dJ p r r.body.length).ws,(dJ p r r.body.length).ws.foldl (cm (dJ p r r.body.length).up) []⟩:=rfl;rw[hT];rw[Xx] at hln;have hkd:(dJ p r r.body.length).kind=[]:=uK p r _;generalize dJ p r r.body.length=t1 at*
  have hK0:t1.kind=(t1.ws.take 0).foldl (cm t1.up) []:=hkd;refine gA rfl ?_;refine zR 5 (fun k=>Want.c (t1.ws.getD k default)) rfl (cZ rfl) (by simp[AF.oq,PV.bW,my]) ⟨(by simp[AO.oq,fD,PV.bW]),trivial,wO _ _ _ _ _ _,trivial,trivial⟩ ?_
  refine aL 0 t1.ws.length (V1 _) (fun i=>⟨[(5, .ptr 2 0),(96, .iv (cV 5 t1.ws Want.c)),(97,pI t1.ws.length),(98,pI i)],
   [(2,some (.cells [.iv (b6 r), .mp 0, .iv (cV 5 t1.ws Want.c), .mp 1])),(0,some (oY t1.up)),(1,some (pA ((t1.ws.take i).foldl (cm t1.up) [])))],6⟩) (fun _=>True) [] trivial
   (wk rfl rfl rfl ⟨.refl _,rfl, .cK rfl (fun k _=>by rw[Wn]),rfl, .refl _,rfl, .refl _,rfl,trivial⟩ ⟨⟨_,rfl, .cells ⟨.refl _, .refl _, .cK rfl (fun k _=>by rw[Wn]), .refl _,trivial⟩⟩,VI rfl,rfl,hM rfl rfl rfl (hM rfl hK0 rfl trivial)⟩ rfl) fun i hi _=>?_
  refine gA rfl ?_;refine VJ (fun h2=>?_) (fun h2=>?_)
  ·have h2:i<t1.ws.length:=Wz.1 (of_decide_eq_true h2)
   have hf:=c8 (g:=cm t1.up) (b:=[]) h2;refine gA rfl (aK [2,0,1] (Vg r t1.up ((t1.ws.take i).foldl (cm t1.up) []) (cV 5 t1.ws Want.c) (t1.ws.getD i default).at_ hok) rfl rfl rfl rfl rfl rfl rfl rfl ?_);refine gA rfl ?_;refine VJ (fun g1=>?_) (fun g1=>?_)
   ·have g1:(t1.ws.getD i default).has=0:=of_decide_eq_true g1
    refine gA rfl ?_;refine VJ (fun g2=>?_) (fun g2=>?_)
    ·have g2:bF (.si .i64) ((t1.ws.take i).foldl (cm t1.up) []) (bD t1.up (t1.ws.getD i default).at_) 0=0:=of_decide_eq_true g2
     have hk:cm t1.up ((t1.ws.take i).foldl (cm t1.up) []) (t1.ws.getD i default)=bQ (.si .i64) ((t1.ws.take i).foldl (cm t1.up) []) (bD t1.up (t1.ws.getD i default).at_) (t1.ws.getD i default).kind:=if_pos ⟨g1,g2⟩;rw[hk] at hf;refine gA rfl ?_;exact⟨h2,trivial,[],wk rfl rfl rfl ⟨.refl _,rfl, .refl _,rfl, .refl _,rfl, .refl _,rfl,trivial⟩ ⟨⟨_,rfl, .of_eq rfl⟩,VI rfl,rfl,hM rfl rfl rfl (hM rfl (by first|exact hf.symm|(rw[hf];rfl)) rfl trivial)⟩ rfl⟩
    ·have g2: ¬bF (.si .i64) ((t1.ws.take i).foldl (cm t1.up) []) (bD t1.up (t1.ws.getD i default).at_) 0=0:=of_decide_eq_false g2
     have hk:cm t1.up ((t1.ws.take i).foldl (cm t1.up) []) (t1.ws.getD i default)=(t1.ws.take i).foldl (cm t1.up) []:=if_neg fun h=>g2 h.2;rw[hk] at hf;refine gA rfl ?_;exact⟨h2,trivial,[],wk rfl rfl rfl ⟨.refl _,rfl, .refl _,rfl, .refl _,rfl, .refl _,rfl,trivial⟩ ⟨⟨_,rfl, .of_eq rfl⟩,VI rfl,rfl,hM rfl rfl rfl (hM rfl (by first|exact hf.symm|(rw[hf];rfl)) rfl trivial)⟩ rfl⟩
   ·have g1: ¬(t1.ws.getD i default).has=0:=of_decide_eq_false g1
    have hk:cm t1.up ((t1.ws.take i).foldl (cm t1.up) []) (t1.ws.getD i default)=(t1.ws.take i).foldl (cm t1.up) []:=if_neg fun h=>g1 h.1;rw[hk] at hf;refine gA rfl ?_;exact⟨h2,trivial,[],wk rfl rfl rfl ⟨.refl _,rfl, .refl _,rfl, .refl _,rfl, .refl _,rfl,trivial⟩ ⟨⟨_,rfl, .of_eq rfl⟩,VI rfl,rfl,hM rfl rfl rfl (hM rfl (by first|exact hf.symm|(rw[hf];rfl)) rfl trivial)⟩ rfl⟩
  ·have h2:t1.ws.length≤i:=Ww fun hh=>absurd (Wz.2 hh) (of_decide_eq_false h2)
   have e0:t1.ws.take i=t1.ws:=VY h2;refine lB rfl trivial (oO (.inr rfl) rfl (.map 0 rfl (.map 1 rfl (.cells 2 _ rfl (show _=List.map PV.iv [b6 r,upI t1.up,cV 5 t1.ws Want.c,kdI (t1.ws.foldl (cm t1.up) [])] by rw[e0];rfl) (.done (.of_eq rfl))))))
def q8 (a:Atom):Bool:=(jo WS.o a).bad
def lV (l:Lit):Bool:=(cX l.size l WS.o).bad
def rj (l:Lit):Bool:=decide (l.kind=4)&&decide ((l.ar.length:Int)>12)
def gn (n:Nat):List Int:=(V5 (n+1)).map fun k:Nat=>(k:Int)-1
theorem px (n:Nat):(gn n).length=n+1:=by simp[gn]
theorem ui (n k:Nat) (h:k<n+1):(gn n).getD k default=(k:Int)-1:=by simp[gn,h]
def yU (f:Int→Bool) (n:Nat):Option Int:=(gn n).find? f
abbrev dE:=Int×Pos
def dE.c (d:dE):List IV:=[iI d.1,iI d.2.line,iI d.2.BH]
def lT (r:aw) (e:Int) (f:Int→Bool) (k:dE):dE:=match yU f r.body.length with
 |some lit=>(e,pn r lit)
 |none=>k
def vv (p:Prog) (r:aw):dE:=
 lT r 61 (fun lit=>(dZ r lit).any fun x=>s7 p x)<|lT r 62 (fun lit=>(dZ r lit).any fun x=>vY p x)<|lT r 65 (kL r)<|lT r 63 (oW (lE p r))<|lT r 64 (jR r) (0,⟨0,0⟩)
def oc (p:Prog) (r:aw) (n:Int):dE:=
 if q8 r.head=true then(1,r.at_) else match r.body.find? lV with
 |some l=>(1,l.at)
 |none=>if n>256∨(r.body.length:Int)>12 then(66,r.at_) else if(Cd r:Int)>24 then(66,r.at_) else match r.body.find? rj with
  |some l=>(66,l.at)
  |none=>vv p r
def aw.fit (r:aw):Prop:=r.size≤10000000∧r.head.ts≤900000000∧ ∀l∈r.body,l.ts≤900000000
theorem iJ {α:Type} {p:α→Bool} {l:List α} (h:l.any p=false):l.find? p=none:=by
 rw[W3];intro x hx;have:=WA.1 h x hx;simpa using this
theorem jj {α:Type} [Inhabited α] {p:α→Bool} {l:List α} {i:Nat} (h:(l.take i).any p=false) (hi:i<l.length) (hp:p (l.getD i default)=true):l.find? p=some (l.getD i default):=by
 have hg:l.getD i default=l[i]:=by simp[hi]
 rw[hg] at hp ⊢;rw[List.find?_eq_some_iff_getElem];refine⟨hp,i,hi,rfl,fun j hj=>?_⟩;have:=WA.1 h l[j] (List.mem_iff_getElem?.2 ⟨j,by rw[WN,if_pos hj,VS (by omega)]⟩);simpa using this
def gP (p:Prog) (r:aw):List (List PV):=[[pI 61, .cH (.func 160) [] [.ptr 1 0, .ptr 0 0]],[pI 62, .cH (.func 164) [] [.ptr 1 0, .ptr 0 0]],[pI 65, .cH (.func 166) [] [.ptr 1 0]],[pI 63, .cH (.func 169) [.iv (QN r (lE p r))] []],[pI 64, .cH (.func 170) [.iv (b6 r)] []]]
theorem b4 (p:Prog) (r:aw) (n:Nat) (h:Wg 1 n=true):(AO.row 2 (gP p r)).low n:=by
 have h0:Wg 0 n=true:=WH (by have:=VI h;omega);intro k e hk
 match k,hk with
 |0,hk=>cases hk;simp[bz,PV.low,h,h0]
 |1,hk=>cases hk;simp[bz,PV.low,h,h0]
 |2,hk=>cases hk;simp[bz,PV.low,h,h0]
 |3,hk=>cases hk;simp[bz,PV.low,h,h0]
 |4,hk=>cases hk;simp[bz,PV.low,h,h0]
 |k+5,hk=>simp[gP] at hk
theorem lS {r:aw} {e:Int} {f:Int→Bool} {k:dE} {i:Nat} (hJ:((gn r.body.length).take i).any f=false) (hi:i<r.body.length+1) (h:f ((i:Int)-1)=true):lT r e f k=(e,pn r ((i:Int)-1)):=by
 have h1:=ui r.body.length i hi;have:=jj hJ (by rw[px];exact hi) (by rw[h1];exact h);rw[h1] at this;rw[lT,yU,this]
theorem kg {r:aw} {e:Int} {f:Int→Bool} {k:dE} {i:Nat} (hJ:((gn r.body.length).take i).any f=false) (hi:r.body.length+1≤i):lT r e f k=k:=by
 rw[VY (by rw[px];exact hi)] at hJ;rw[lT,yU,iJ hJ]
theorem kf {r:aw} {f:Int→Bool} {i:Nat} (hJ:((gn r.body.length).take i).any f=false) (hi:i<r.body.length+1) (h:f ((i:Int)-1)=false):((gn r.body.length).take (i+1)).any f=false:=by
 refine(cG hJ (by rw[px];exact hi)).2 ?_;rw[ui _ _ hi];exact h
set_option maxHeartbeats 4000000 in
theorem c65 (p:Prog) (r:aw) (n:Int) (hb:r.fit):Pure Tryz.prog 125 [.iv (ct p),ag r.c,pI n] (ag (oc p r n).c):=by
 obtain⟨hb,hb2,hb3⟩:=hb;have hsz:r.size=r.head.an.length+Lit.aB r.body:=rfl;have hal:=Lit.aI r.body;refine az ae Tryz.func125 rfl (by decide) Tryz.ntmps125 rfl (by simp) rfl ?_;refine gA rfl (aj (c61 r.head hb2) rfl rfl rfl rfl rfl rfl ?_);refine gA rfl ?_;refine VJ (fun g1=>?_) (fun g1=>?_)
 ·have g1:q8 r.head=true:=by
   cases h:q8 r.head with
   |true=>rfl
   |false=>
    have h:(jo WS.o r.head).bad=false:=h;rw[h] at g1;simp at g1
  rw[oc,if_pos g1];refine gA rfl (au (by first|exact .inr rfl|exact .inl rfl) rfl (.of_eq ?_));rfl
 have g1: ¬q8 r.head=true:=by
  intro h;have h:(jo WS.o r.head).bad=true:=h;rw[h] at g1;simp at g1
 rw[oc,if_neg g1];refine gA rfl ?_
 refine aL 0 r.body.length (V1 _) (fun i=>⟨[(2,pI n),(3, .ptr 0 0),(4, .ptr 1 0),(6, .ptr 2 0),(32, .iv (lits r.body)),(33,pI r.body.length),(34,pI i)],[(0,some (.cells [.iv (ct p)])),(1,some (aE r.c)),(2,some (.cells [pI 0,pI 0,pI 0]))],3⟩) (fun i=>(r.body.take i).any lV=false) [] (by simp)
  (wk rfl rfl rfl ⟨.refl _,rfl, .refl _,rfl, .refl _,rfl, .refl _,rfl, .refl _,rfl, .refl _,rfl, .refl _,rfl,trivial⟩ ⟨⟨_,rfl, .of_eq rfl⟩,VI rfl,rfl,⟨_,rfl, .of_eq rfl⟩,VI rfl,rfl,⟨_,rfl, .of_eq rfl⟩,VI rfl,rfl,trivial⟩ rfl) fun i hi hJ=>?_
 refine gA rfl ?_;refine VJ (fun h1=>?_) (fun h1=>?_)
 ·have h1:i<r.body.length:=Wz.1 (of_decide_eq_true h1)
  have hA:=cG hJ h1;have hm:r.body.getD i default∈r.body:=by rw[VP,VS h1];exact WI h1
  have hsg:=Lit.bS r.body i h1;refine gA rfl (aj (VA (r.body.getD i default) (hb3 _ hm) (by omega)) rfl rfl rfl rfl rfl rfl ?_);refine gA rfl ?_;refine VJ (fun h2=>?_) (fun h2=>?_)
  ·have h2:lV (r.body.getD i default)=true:=by
    cases h:lV (r.body.getD i default) with
    |true=>rfl
    |false=>
     have h:(cX (r.body.getD i default).size (r.body.getD i default) WS.o).bad=false:=h;have g:(!decide ((if(cX (r.body.getD i default).size (r.body.getD i default) WS.o).bad=true then(50:Int) else 0)=0))=true:=h2;rw[h] at g;simp at g
   rw[jj hJ h1 h2];refine gA rfl (au (by first|exact .inr rfl|exact .inl rfl) rfl (.of_eq ?_));rfl
  ·have h2:lV (r.body.getD i default)=false:=by
    cases h:lV (r.body.getD i default) with
    |false=>rfl
    |true=>
     have h:(cX (r.body.getD i default).size (r.body.getD i default) WS.o).bad=true:=h;have g:(!decide ((if(cX (r.body.getD i default).size (r.body.getD i default) WS.o).bad=true then(50:Int) else 0)=0))=false:=h2;rw[h] at g;simp at g
   refine gA rfl ?_;exact⟨h1,hA.2 h2,[],wk rfl rfl rfl ⟨.refl _,rfl, .refl _,rfl, .refl _,rfl, .refl _,rfl, .refl _,rfl, .refl _,rfl, .refl _,rfl,trivial⟩ ⟨⟨_,rfl, .of_eq rfl⟩,VI rfl,rfl,⟨_,rfl, .of_eq rfl⟩,VI rfl,rfl,⟨_,rfl, .of_eq rfl⟩,VI rfl,rfl,trivial⟩ rfl⟩
 have h1:r.body.length≤i:=Ww fun hh=>absurd (Wz.2 hh) (of_decide_eq_false h1);rw[VY h1] at hJ;rw[iJ hJ];refine gA rfl ?_;refine VJ (fun g2=>?_) (fun g2=>?_);rotate_left
 ·have g2:n>256:=by simpa using g2
  rw[if_pos (.inl g2)];refine gA rfl (au (by first|exact .inr rfl|exact .inl rfl) rfl (.of_eq ?_));rfl
 have g2: ¬n>256:=of_decide_eq_false g2;refine gA rfl ?_;refine VJ (fun g3=>?_) (fun g3=>?_)
 ·rw[if_pos (.inr (of_decide_eq_true g3))]
  refine gA rfl (au (by first|exact .inr rfl|exact .inl rfl) rfl (.of_eq ?_));rfl
 have g3: ¬(r.body.length:Int)>12:=of_decide_eq_false g3;rw[if_neg (by rintro(h|h);exact g2 h;exact g3 h)];refine gA rfl (aj (c48 r (by omega)) rfl rfl rfl rfl rfl rfl ?_);refine gA rfl (aj (Vz r (by omega)) rfl rfl rfl rfl rfl rfl ?_);refine gA rfl ?_;refine VJ (fun g4=>?_) (fun g4=>?_)
 ·rw[if_pos (of_decide_eq_true g4)]
  refine gA rfl (au (by first|exact .inr rfl|exact .inl rfl) rfl (.of_eq ?_));rfl
 have g4: ¬(Cd r:Int)>24:=of_decide_eq_false g4;rw[if_neg g4];refine gA rfl ?_
 refine aL 0 r.body.length (V1 _) (fun i=>⟨[(3, .ptr 0 0),(4, .ptr 1 0),(6, .ptr 2 0),(13, .iv (b6 r)),(69, .iv (lits r.body)),(70,pI r.body.length),(71,pI i)],[(0,some (.cells [.iv (ct p)])),(1,some (aE r.c)),(2,some (.cells [pI 0,pI 0,pI 0]))],3⟩) (fun i=>(r.body.take i).any rj=false) [] (by simp)
  (wk rfl rfl rfl ⟨.refl _,rfl, .refl _,rfl, .refl _,rfl, .refl _,rfl, .refl _,rfl, .refl _,rfl, .refl _,rfl,trivial⟩ ⟨⟨_,rfl, .of_eq rfl⟩,VI rfl,rfl,⟨_,rfl, .of_eq rfl⟩,VI rfl,rfl,⟨_,rfl, .of_eq rfl⟩,VI rfl,rfl,trivial⟩ rfl) fun i hi hJ=>?_
 refine gA rfl ?_;refine VJ (fun h2=>?_) (fun h2=>?_)
 ·have h2:i<r.body.length:=Wz.1 (of_decide_eq_true h2)
  have hA:=cG hJ h2;refine gA rfl ?_;refine VJ (fun k1=>?_) (fun k1=>?_)
  ·have k1:(r.body.getD i default).kind=4:=of_decide_eq_true k1
   refine gA rfl ?_;refine VJ (fun k2=>?_) (fun k2=>?_)
   ·have k2:rj (r.body.getD i default)=true:=by rw[rj,decide_eq_true k1];exact k2
    rw[jj hJ h2 k2];refine gA rfl (au (by first|exact .inr rfl|exact .inl rfl) rfl (.of_eq ?_));rfl
   ·have k2:rj (r.body.getD i default)=false:=by rw[rj,decide_eq_true k1];exact k2
    refine gA rfl ?_;exact⟨h2,hA.2 k2,[],wk rfl rfl rfl ⟨.refl _,rfl, .refl _,rfl, .refl _,rfl, .refl _,rfl, .refl _,rfl, .refl _,rfl, .refl _,rfl,trivial⟩ ⟨⟨_,rfl, .of_eq rfl⟩,VI rfl,rfl,⟨_,rfl, .of_eq rfl⟩,VI rfl,rfl,⟨_,rfl, .of_eq rfl⟩,VI rfl,rfl,trivial⟩ rfl⟩
  ·have k1: ¬(r.body.getD i default).kind=4:=of_decide_eq_false (by have g:decide ((r.body.getD i default).kind=4)=false:=k1;exact g)
   refine gA rfl ?_;exact⟨h2,hA.2 (by rw[rj,decide_eq_false k1];rfl),[],wk rfl rfl rfl ⟨.refl _,rfl, .refl _,rfl, .refl _,rfl, .refl _,rfl, .refl _,rfl, .refl _,rfl, .refl _,rfl,trivial⟩ ⟨⟨_,rfl, .of_eq rfl⟩,VI rfl,rfl,⟨_,rfl, .of_eq rfl⟩,VI rfl,rfl,⟨_,rfl, .of_eq rfl⟩,VI rfl,rfl,trivial⟩ rfl⟩
 have h2:r.body.length≤i:=Ww fun hh=>absurd (Wz.2 hh) (of_decide_eq_false h2);rw[VY h2] at hJ;rw[iJ hJ];refine gA rfl (aj (c49 p r (by omega)) rfl rfl rfl rfl rfl rfl ?_);refine gA rfl ?_
 refine sv [] (t:=⟨[(3, .ptr 0 0),(4, .ptr 1 0),(6, .ptr 2 0),(104, .sl 3 0 5 2),(105,pI 5),(106,pI 0)],[(0,some (.cells [.iv (ct p)])),(1,some (aE r.c)),(2,some (.cells [pI 0,pI 0,pI 0])),(3,some (.row 2 (gP p r)))],4⟩)
  (wk rfl rfl rfl ⟨.refl _,rfl, .refl _,rfl, .refl _,rfl, .refl _,rfl, .refl _,rfl, .refl _,rfl,trivial⟩ ⟨⟨_,rfl, .of_eq rfl⟩,VI rfl,rfl,⟨⟨_,rfl, .of_eq rfl⟩,VI rfl,rfl,⟨⟨_,rfl, .of_eq rfl⟩,VI rfl,rfl,⟨⟨_,rfl, .of_eq rfl⟩,VI rfl,b4 p r _ rfl,trivial⟩⟩⟩⟩ rfl) ?_
 have hwl:(lE p r).ws.length≤1000000000000:=by have:=sS p r r.body.length (VZ _);rw[Xx] at this;show(dJ p r r.body.length).ws.length≤_;omega
 rw[vv];refine Dg (n:=6) ?_;refine gA rfl ?_;refine VJ (fun q=>?_) (fun q=>?_);rotate_left
 ·exact absurd (show true=false from q) (by decide)
 refine gA rfl ?_
 refine aL 0 (r.body.length+1) (V1 _) (fun k=>⟨[(3, .ptr 0 0),(4, .ptr 1 0),(6, .ptr 2 0),(18, .ptr 4 0),(19,pI ((k:Int)-1)),(104, .sl 3 0 5 2),(105,pI 5),(106,pI 0)],[(0,some (.cells [.iv (ct p)])),(1,some (aE r.c)),(2,some (.cells [pI 0,pI 0,pI 0])),(3,some (.row 2 (gP p r))),(4,some (.cells [pI 61, .cH (.func 160) [] [.ptr 1 0, .ptr 0 0]]))],5⟩) (fun k=>((gn r.body.length).take k).any (fun lit=>(dZ r lit).any fun x=>s7 p x)=false) [] rfl
  (wk rfl rfl rfl ⟨.refl _,rfl, .refl _,rfl, .refl _,rfl, .refl _,rfl, .refl _,rfl, .refl _,rfl, .refl _,rfl, .refl _,rfl,trivial⟩ ⟨⟨_,rfl, .of_eq rfl⟩,VI rfl,rfl,⟨⟨_,rfl, .of_eq rfl⟩,VI rfl,rfl,⟨⟨_,rfl, .of_eq rfl⟩,VI rfl,rfl,⟨⟨_,rfl, .of_eq rfl⟩,VI rfl,b4 p r _ rfl,⟨⟨_,rfl, .of_eq rfl⟩,VI rfl,rfl,trivial⟩⟩⟩⟩⟩ rfl) fun k hk hJ=>?_
 refine gA rfl ?_;refine VJ (fun q1=>?_) (fun q1=>?_)
 ·have q1:(k:Int)-1<r.body.length:=of_decide_eq_true q1
  have hk1:k<r.body.length+1:=by omega
  refine gA rfl (aK [1,0] (d110 p r ((k:Int)-1) (by omega) (by omega)) rfl rfl rfl rfl rfl rfl rfl rfl ?_);refine gA rfl ?_;refine VJ (fun q2=>?_) (fun q2=>?_)
  ·rw[lS hJ hk1 q2]
   refine gA rfl (cz ae [] (Pure.xO (D2 r ((k:Int)-1) q1)) rfl rfl rfl rfl rfl rfl rfl rfl rfl rfl rfl rfl (by(repeat' (first|exact trivial|exact rfl|exact ak.refl _|exact ak.bk (by assumption)|apply VJ))<;>first|omega|(simp only[VQ];omega)|(simp;done)|(simp;omega)) rfl (by(repeat' (first|exact trivial|exact rfl|exact ak.refl _|exact ak.bk (by assumption)|apply VJ))<;>first|omega|(simp only[VQ];omega)|(simp;done)|(simp;omega)) ?_);refine gA rfl (au (by first|exact .inr rfl|exact .inl rfl) rfl (.of_eq ?_));rfl
  ·refine gA rfl ?_
   exact⟨hk1,kf hJ hk1 q2,[],wk rfl rfl rfl ⟨.refl _,rfl, .refl _,rfl, .refl _,rfl, .refl _,rfl, .of_eq (CG (by omega)),rfl, .refl _,rfl, .refl _,rfl, .refl _,rfl,trivial⟩ ⟨⟨_,rfl, .of_eq rfl⟩,VI rfl,rfl,⟨⟨_,rfl, .of_eq rfl⟩,VI rfl,rfl,⟨⟨_,rfl, .of_eq rfl⟩,VI rfl,rfl,⟨⟨_,rfl, .of_eq rfl⟩,VI rfl,b4 p r _ rfl,⟨⟨_,rfl, .of_eq rfl⟩,VI rfl,rfl,trivial⟩⟩⟩⟩⟩ rfl⟩
 have q1: ¬(k:Int)-1<r.body.length:=of_decide_eq_false q1;rw[kg hJ (by omega)]
 clear hJ hk q1
 refine gA rfl ?_;refine VJ (fun q=>?_) (fun q=>?_);rotate_left
 ·exact absurd (show true=false from q) (by decide)
 refine gA rfl ?_
 refine aL 0 (r.body.length+1) (V1 _) (fun k=>⟨[(3, .ptr 0 0),(4, .ptr 1 0),(6, .ptr 2 0),(18, .ptr 5 0),(19,pI ((k:Int)-1)),(104, .sl 3 0 5 2),(105,pI 5),(106,pI 1)],[(0,some (.cells [.iv (ct p)])),(1,some (aE r.c)),(2,some (.cells [pI 0,pI 0,pI 0])),(3,some (.row 2 (gP p r))),(5,some (.cells [pI 62, .cH (.func 164) [] [.ptr 1 0, .ptr 0 0]]))],6⟩) (fun k=>((gn r.body.length).take k).any (fun lit=>(dZ r lit).any fun x=>vY p x)=false) [] rfl
  (wk rfl rfl rfl ⟨.refl _,rfl, .refl _,rfl, .refl _,rfl, .refl _,rfl, .refl _,rfl, .refl _,rfl, .refl _,rfl, .refl _,rfl,trivial⟩ ⟨⟨_,rfl, .of_eq rfl⟩,VI rfl,rfl,⟨⟨_,rfl, .of_eq rfl⟩,VI rfl,rfl,⟨⟨_,rfl, .of_eq rfl⟩,VI rfl,rfl,⟨⟨_,rfl, .of_eq rfl⟩,VI rfl,b4 p r _ rfl,⟨⟨_,rfl, .of_eq rfl⟩,VI rfl,rfl,trivial⟩⟩⟩⟩⟩ rfl) fun k hk hJ=>?_
 refine gA rfl ?_;refine VJ (fun q1=>?_) (fun q1=>?_)
 ·have q1:(k:Int)-1<r.body.length:=of_decide_eq_true q1
  have hk1:k<r.body.length+1:=by omega
  refine gA rfl (aK [1,0] (d114 p r ((k:Int)-1) (by omega) (by omega)) rfl rfl rfl rfl rfl rfl rfl rfl ?_);refine gA rfl ?_;refine VJ (fun q2=>?_) (fun q2=>?_)
  ·rw[lS hJ hk1 q2]
   refine gA rfl (cz ae [] (Pure.xO (D2 r ((k:Int)-1) q1)) rfl rfl rfl rfl rfl rfl rfl rfl rfl rfl rfl rfl (by(repeat' (first|exact trivial|exact rfl|exact ak.refl _|exact ak.bk (by assumption)|apply VJ))<;>first|omega|(simp only[VQ];omega)|(simp;done)|(simp;omega)) rfl (by(repeat' (first|exact trivial|exact rfl|exact ak.refl _|exact ak.bk (by assumption)|apply VJ))<;>first|omega|(simp only[VQ];omega)|(simp;done)|(simp;omega)) ?_);refine gA rfl (au (by first|exact .inr rfl|exact .inl rfl) rfl (.of_eq ?_));rfl
  ·refine gA rfl ?_
   exact⟨hk1,kf hJ hk1 q2,[],wk rfl rfl rfl ⟨.refl _,rfl, .refl _,rfl, .refl _,rfl, .refl _,rfl, .of_eq (CG (by omega)),rfl, .refl _,rfl, .refl _,rfl, .refl _,rfl,trivial⟩ ⟨⟨_,rfl, .of_eq rfl⟩,VI rfl,rfl,⟨⟨_,rfl, .of_eq rfl⟩,VI rfl,rfl,⟨⟨_,rfl, .of_eq rfl⟩,VI rfl,rfl,⟨⟨_,rfl, .of_eq rfl⟩,VI rfl,b4 p r _ rfl,⟨⟨_,rfl, .of_eq rfl⟩,VI rfl,rfl,trivial⟩⟩⟩⟩⟩ rfl⟩
 have q1: ¬(k:Int)-1<r.body.length:=of_decide_eq_false q1;rw[kg hJ (by omega)]
 clear hJ hk q1
 refine gA rfl ?_;refine VJ (fun q=>?_) (fun q=>?_);rotate_left
 ·exact absurd (show true=false from q) (by decide)
 refine gA rfl ?_
 refine aL 0 (r.body.length+1) (V1 _) (fun k=>⟨[(3, .ptr 0 0),(4, .ptr 1 0),(6, .ptr 2 0),(18, .ptr 6 0),(19,pI ((k:Int)-1)),(104, .sl 3 0 5 2),(105,pI 5),(106,pI 2)],[(0,some (.cells [.iv (ct p)])),(1,some (aE r.c)),(2,some (.cells [pI 0,pI 0,pI 0])),(3,some (.row 2 (gP p r))),(6,some (.cells [pI 65, .cH (.func 166) [] [.ptr 1 0]]))],7⟩) (fun k=>((gn r.body.length).take k).any (kL r)=false) [] rfl
  (wk rfl rfl rfl ⟨.refl _,rfl, .refl _,rfl, .refl _,rfl, .refl _,rfl, .refl _,rfl, .refl _,rfl, .refl _,rfl, .refl _,rfl,trivial⟩ ⟨⟨_,rfl, .of_eq rfl⟩,VI rfl,rfl,⟨⟨_,rfl, .of_eq rfl⟩,VI rfl,rfl,⟨⟨_,rfl, .of_eq rfl⟩,VI rfl,rfl,⟨⟨_,rfl, .of_eq rfl⟩,VI rfl,b4 p r _ rfl,⟨⟨_,rfl, .of_eq rfl⟩,VI rfl,rfl,trivial⟩⟩⟩⟩⟩ rfl) fun k hk hJ=>?_
 refine gA rfl ?_;refine VJ (fun q1=>?_) (fun q1=>?_)
 ·have q1:(k:Int)-1<r.body.length:=of_decide_eq_true q1
  have hk1:k<r.body.length+1:=by omega
  refine gA rfl (aK [1] (d116 r ((k:Int)-1) (by omega) (by omega)) rfl rfl rfl rfl rfl rfl rfl rfl ?_);refine gA rfl ?_;refine VJ (fun q2=>?_) (fun q2=>?_)
  ·rw[lS hJ hk1 q2]
   refine gA rfl (cz ae [] (Pure.xO (D2 r ((k:Int)-1) q1)) rfl rfl rfl rfl rfl rfl rfl rfl rfl rfl rfl rfl (by(repeat' (first|exact trivial|exact rfl|exact ak.refl _|exact ak.bk (by assumption)|apply VJ))<;>first|omega|(simp only[VQ];omega)|(simp;done)|(simp;omega)) rfl (by(repeat' (first|exact trivial|exact rfl|exact ak.refl _|exact ak.bk (by assumption)|apply VJ))<;>first|omega|(simp only[VQ];omega)|(simp;done)|(simp;omega)) ?_);refine gA rfl (au (by first|exact .inr rfl|exact .inl rfl) rfl (.of_eq ?_));rfl
  ·refine gA rfl ?_
   exact⟨hk1,kf hJ hk1 q2,[],wk rfl rfl rfl ⟨.refl _,rfl, .refl _,rfl, .refl _,rfl, .refl _,rfl, .of_eq (CG (by omega)),rfl, .refl _,rfl, .refl _,rfl, .refl _,rfl,trivial⟩ ⟨⟨_,rfl, .of_eq rfl⟩,VI rfl,rfl,⟨⟨_,rfl, .of_eq rfl⟩,VI rfl,rfl,⟨⟨_,rfl, .of_eq rfl⟩,VI rfl,rfl,⟨⟨_,rfl, .of_eq rfl⟩,VI rfl,b4 p r _ rfl,⟨⟨_,rfl, .of_eq rfl⟩,VI rfl,rfl,trivial⟩⟩⟩⟩⟩ rfl⟩
 have q1: ¬(k:Int)-1<r.body.length:=of_decide_eq_false q1;rw[kg hJ (by omega)]
 clear hJ hk q1
 refine gA rfl ?_;refine VJ (fun q=>?_) (fun q=>?_);rotate_left
 ·exact absurd (show true=false from q) (by decide)
 refine gA rfl ?_
 refine aL 0 (r.body.length+1) (V1 _) (fun k=>⟨[(3, .ptr 0 0),(4, .ptr 1 0),(6, .ptr 2 0),(18, .ptr 7 0),(19,pI ((k:Int)-1)),(104, .sl 3 0 5 2),(105,pI 5),(106,pI 3)],[(0,some (.cells [.iv (ct p)])),(1,some (aE r.c)),(2,some (.cells [pI 0,pI 0,pI 0])),(3,some (.row 2 (gP p r))),(7,some (.cells [pI 63, .cH (.func 169) [.iv (QN r (lE p r))] []]))],8⟩) (fun k=>((gn r.body.length).take k).any (oW (lE p r))=false) [] rfl
  (wk rfl rfl rfl ⟨.refl _,rfl, .refl _,rfl, .refl _,rfl, .refl _,rfl, .refl _,rfl, .refl _,rfl, .refl _,rfl, .refl _,rfl,trivial⟩ ⟨⟨_,rfl, .of_eq rfl⟩,VI rfl,rfl,⟨⟨_,rfl, .of_eq rfl⟩,VI rfl,rfl,⟨⟨_,rfl, .of_eq rfl⟩,VI rfl,rfl,⟨⟨_,rfl, .of_eq rfl⟩,VI rfl,b4 p r _ rfl,⟨⟨_,rfl, .of_eq rfl⟩,VI rfl,rfl,trivial⟩⟩⟩⟩⟩ rfl) fun k hk hJ=>?_
 refine gA rfl ?_;refine VJ (fun q1=>?_) (fun q1=>?_)
 ·have q1:(k:Int)-1<r.body.length:=of_decide_eq_true q1
  have hk1:k<r.body.length+1:=by omega
  refine gA rfl (aj (Vx r (lE p r) ((k:Int)-1) (vW p r _) hwl) rfl rfl rfl rfl rfl rfl ?_);refine gA rfl ?_;refine VJ (fun q2=>?_) (fun q2=>?_)
  ·rw[lS hJ hk1 q2]
   refine gA rfl (cz ae [] (Pure.xO (D2 r ((k:Int)-1) q1)) rfl rfl rfl rfl rfl rfl rfl rfl rfl rfl rfl rfl (by(repeat' (first|exact trivial|exact rfl|exact ak.refl _|exact ak.bk (by assumption)|apply VJ))<;>first|omega|(simp only[VQ];omega)|(simp;done)|(simp;omega)) rfl (by(repeat' (first|exact trivial|exact rfl|exact ak.refl _|exact ak.bk (by assumption)|apply VJ))<;>first|omega|(simp only[VQ];omega)|(simp;done)|(simp;omega)) ?_);refine gA rfl (au (by first|exact .inr rfl|exact .inl rfl) rfl (.of_eq ?_));rfl
  ·refine gA rfl ?_
   exact⟨hk1,kf hJ hk1 q2,[],wk rfl rfl rfl ⟨.refl _,rfl, .refl _,rfl, .refl _,rfl, .refl _,rfl, .of_eq (CG (by omega)),rfl, .refl _,rfl, .refl _,rfl, .refl _,rfl,trivial⟩ ⟨⟨_,rfl, .of_eq rfl⟩,VI rfl,rfl,⟨⟨_,rfl, .of_eq rfl⟩,VI rfl,rfl,⟨⟨_,rfl, .of_eq rfl⟩,VI rfl,rfl,⟨⟨_,rfl, .of_eq rfl⟩,VI rfl,b4 p r _ rfl,⟨⟨_,rfl, .of_eq rfl⟩,VI rfl,rfl,trivial⟩⟩⟩⟩⟩ rfl⟩
 have q1: ¬(k:Int)-1<r.body.length:=of_decide_eq_false q1;rw[kg hJ (by omega)]
 clear hJ hk q1
 refine gA rfl ?_;refine VJ (fun q=>?_) (fun q=>?_);rotate_left
 ·exact absurd (show true=false from q) (by decide)
 refine gA rfl ?_
 refine aL 0 (r.body.length+1) (V1 _) (fun k=>⟨[(3, .ptr 0 0),(4, .ptr 1 0),(6, .ptr 2 0),(18, .ptr 8 0),(19,pI ((k:Int)-1)),(104, .sl 3 0 5 2),(105,pI 5),(106,pI 4)],[(0,some (.cells [.iv (ct p)])),(1,some (aE r.c)),(2,some (.cells [pI 0,pI 0,pI 0])),(3,some (.row 2 (gP p r))),(8,some (.cells [pI 64, .cH (.func 170) [.iv (b6 r)] []]))],9⟩) (fun k=>((gn r.body.length).take k).any (jR r)=false) [] rfl
  (wk rfl rfl rfl ⟨.refl _,rfl, .refl _,rfl, .refl _,rfl, .refl _,rfl, .refl _,rfl, .refl _,rfl, .refl _,rfl, .refl _,rfl,trivial⟩ ⟨⟨_,rfl, .of_eq rfl⟩,VI rfl,rfl,⟨⟨_,rfl, .of_eq rfl⟩,VI rfl,rfl,⟨⟨_,rfl, .of_eq rfl⟩,VI rfl,rfl,⟨⟨_,rfl, .of_eq rfl⟩,VI rfl,b4 p r _ rfl,⟨⟨_,rfl, .of_eq rfl⟩,VI rfl,rfl,trivial⟩⟩⟩⟩⟩ rfl) fun k hk hJ=>?_
 refine gA rfl ?_;refine VJ (fun q1=>?_) (fun q1=>?_)
 ·have q1:(k:Int)-1<r.body.length:=of_decide_eq_true q1
  have hk1:k<r.body.length+1:=by omega
  refine gA rfl (aj (Vw r ((k:Int)-1) (by omega) (by omega)) rfl rfl rfl rfl rfl rfl ?_);refine gA rfl ?_;refine VJ (fun q2=>?_) (fun q2=>?_)
  ·rw[lS hJ hk1 q2]
   refine gA rfl (cz ae [] (Pure.xO (D2 r ((k:Int)-1) q1)) rfl rfl rfl rfl rfl rfl rfl rfl rfl rfl rfl rfl (by(repeat' (first|exact trivial|exact rfl|exact ak.refl _|exact ak.bk (by assumption)|apply VJ))<;>first|omega|(simp only[VQ];omega)|(simp;done)|(simp;omega)) rfl (by(repeat' (first|exact trivial|exact rfl|exact ak.refl _|exact ak.bk (by assumption)|apply VJ))<;>first|omega|(simp only[VQ];omega)|(simp;done)|(simp;omega)) ?_);refine gA rfl (au (by first|exact .inr rfl|exact .inl rfl) rfl (.of_eq ?_));rfl
  ·refine gA rfl ?_
   exact⟨hk1,kf hJ hk1 q2,[],wk rfl rfl rfl ⟨.refl _,rfl, .refl _,rfl, .refl _,rfl, .refl _,rfl, .of_eq (CG (by omega)),rfl, .refl _,rfl, .refl _,rfl, .refl _,rfl,trivial⟩ ⟨⟨_,rfl, .of_eq rfl⟩,VI rfl,rfl,⟨⟨_,rfl, .of_eq rfl⟩,VI rfl,rfl,⟨⟨_,rfl, .of_eq rfl⟩,VI rfl,rfl,⟨⟨_,rfl, .of_eq rfl⟩,VI rfl,b4 p r _ rfl,⟨⟨_,rfl, .of_eq rfl⟩,VI rfl,rfl,trivial⟩⟩⟩⟩⟩ rfl⟩
 have q1: ¬(k:Int)-1<r.body.length:=of_decide_eq_false q1;rw[kg hJ (by omega)]
 clear hJ hk q1
 refine gA rfl ?_;refine VJ (fun q=>?_) (fun q=>?_)
 ·exact absurd (show false=true from q) (by decide)
 refine gA rfl (au (by first|exact .inr rfl|exact .inl rfl) rfl (.of_eq ?_));rfl
end Go.Proofs.YtflegjieadkonaaGreatDoor
namespace Go.Proofs.YtflegjieadkonaaGreatDoor
open Go Go.Al
set_option maxRecDepth 10000
theorem jm:Tryz.prog.cellsOf 3=1:=by kernel_rfl
theorem pU:Tryz.prog.cellsOf 9=1:=by kernel_rfl
theorem vU:Tryz.prog.cellsOf 98=3:=by kernel_rfl
theorem xU:Tryz.prog.cellsOf 143=5:=by kernel_rfl
theorem JZ:Tryz.prog.cellsOf 71=1:=by kernel_rfl
theorem vV:Tryz.prog.cellsOf 73=2:=by kernel_rfl
theorem JY:Tryz.prog.cellsOf 99=1:=by kernel_rfl
theorem mr:Tryz.prog.cellsOf 101=7:=by kernel_rfl
theorem xV:Tryz.prog.cellsOf 103=10:=by kernel_rfl
theorem Ad:Tryz.prog.cellsOf 74=1:=by kernel_rfl
theorem sN:Tryz.prog.cellsOf 105=30:=by kernel_rfl
theorem qZ:Tryz.prog.cellsOf 35=2:=by kernel_rfl
theorem Ac:Tryz.prog.cellsOf 76=5:=by kernel_rfl
theorem J0:Tryz.prog.cellsOf 47=1:=by kernel_rfl
theorem Ae:Tryz.prog.cellsOf 49=4:=by kernel_rfl
theorem J3:Tryz.prog.cellsOf 22=1:=by kernel_rfl
theorem J2:Tryz.prog.cellsOf 23=1:=by kernel_rfl
theorem J1:Tryz.prog.cellsOf 25=2:=by kernel_rfl
section
variable {H:Type}
abbrev bk (d:DataW H):Nat:=Rows.uptoBulk d
theorem y3 (d:DataW H):1≤bk d:=by
 cases d with
 |lit l=>cases l<;>simp[bk,Rows.uptoBulk]
 |nil=>simp[bk,Rows.uptoBulk]
 |ptr d=>simp[bk,Rows.uptoBulk]
 |slice elems spare=>simp[bk,Rows.uptoBulk]
 |agg parts=>simp[bk,Rows.uptoBulk]
 |iface t d=>simp[bk,Rows.uptoBulk]
 |map entries=>simp[bk,Rows.uptoBulk]
 |held h=>simp[bk,Rows.uptoBulk]
theorem sT (s:ByteArray):bk (DataW.lit (H:=H) (.string s.data.toList))=s.size+1:=by
 simp[bk,Rows.uptoBulk]
theorem _root_.Go.Al.QL.sum {α:Type} {Q:α→DataW H→Prop} {l:List α} {d:DataW H} (h:QL Q l d) {f:α→Nat} {c:Nat} (hf: ∀x e,Q x e→f x≤c*bk e):(l.map f).sum≤c*bk d:=by
 obtain⟨el,hd,hlen,hq⟩:=h
 have key: ∀(l:List α) (el:List (DataW H)),l.length=el.length→(∀(i:Nat) (x:α) (e:DataW H),l[i]? =some x→el[i]? =some e→Q x e)→(l.map f).sum≤c*Rows.uptoBulkAll el:=by
  intro l
  induction l with
  |nil=>intro el _ _;simp
  |cons x r ih=>
   intro el hl hq
   cases el with
   |nil=>simp at hl
   |cons e el=>
    have h1:=hf x e (hq 0 x e rfl rfl);have h2:=ih el (by simpa using hl) fun i x e hx he=>hq (i+1) x e (by simpa using hx) (by simpa using he);simp only[V6,Xy,Rows.uptoBulkAll,Nat.mul_add];simp only[bk] at h1;omega
 have h1:=key l el hlen hq;rcases hd with⟨rfl,rfl⟩|⟨sp,rfl⟩
 ·simp[Rows.uptoBulkAll] at h1;omega
 ·refine Wh h1 (Nat.mul_le_mul_left c ?_)
  simp only[bk,Rows.uptoBulk];omega
theorem wu {α:Type}: ∀l:List α,(l.map fun _=>1).sum=l.length
 | []=>rfl
 |x::r=>by simp only[V6,Xy,Wu,wu r];omega
theorem _root_.Go.Al.QL.len {α:Type} {Q:α→DataW H→Prop} {l:List α} {d:DataW H} (h:QL Q l d):l.length≤bk d:=by
 have:=h.sum (f:=fun _=>1) (c:=1) fun x e _=>by have:=y3 e;omega
 have e:=wu l;omega
theorem _root_.Go.Al.QL.all {α:Type} {Q:α→DataW H→Prop} {l:List α} {d:DataW H} (h:QL Q l d): ∀x∈l,∃e,Q x e∧bk e≤bk d:=by
 intro x hx;obtain⟨el,hd,hlen,hq⟩:=h;obtain⟨i,hi,rfl⟩:=Xh.1 hx;have hie:i<el.length:=by omega
 refine⟨el[i],hq i _ _ (VS hi) (VS hie),?_⟩
 have key: ∀(el:List (DataW H)),∀e∈el,bk e≤Rows.uptoBulkAll el:=by
  intro el
  induction el with
  |nil=>intro e he;cases he
  |cons y r ih=>
   intro e he;simp only[Rows.uptoBulkAll];rcases V4.1 he with rfl|he
   ·simp only[bk];omega
   ·have:=ih e he;omega
 have h1:=key el el[i] (WI hie);rcases hd with⟨rfl,rfl⟩|⟨sp,rfl⟩
 ·simp at hie
 ·refine Wh h1 ?_
  simp only[bk,Rows.uptoBulk];omega
end
theorem Expr.eS: ∀l:List Expr,Expr.aB l=(l.map Expr.size).sum
 | []=>rfl
 |e::r=>by simp only[Expr.aB,V6,Xy,Expr.eS r]
theorem Expr.n5: ∀l:List Expr,Expr.ln l=(l.map Expr.ts).sum
 | []=>rfl
 |e::r=>by simp only[Expr.ln,V6,Xy,Expr.n5 r]
theorem Lit.eS: ∀l:List Lit,Lit.aB l=(l.map Lit.size).sum
 | []=>rfl
 |e::r=>by simp only[Lit.aB,V6,Xy,Lit.eS r]
theorem Lit.n5: ∀l:List Lit,Lit.ln l=(l.map Lit.ts).sum
 | []=>rfl
 |e::r=>by simp only[Lit.ln,V6,Xy,Lit.n5 r]
section
variable {H:Type} {enc:TypeId×Value→H} {W:World} {hT:np W} {sp:Nat→Bool} {held:Bool}
def QV (v:s8) (d:DataW H):Prop:=v.sym.size≤bk d
def QT (t:Term) (d:DataW H):Prop:=t.ts≤400*bk d
def QA (a:Atom) (d:DataW H):Prop:=a.ts≤400*bk d∧a.an.length≤bk d
def QE (e:Expr) (d:DataW H):Prop:=e.ts≤400*bk d∧e.size≤bk d
def QP (_:Pos) (_:DataW H):Prop:=True
def Pos.c (p:Pos):List IV:=[iI p.line,iI p.BH]
def QG (g:eZ) (d:DataW H):Prop:=g.var.size+g.ig.ts+Lit.ln g.body≤400*bk d∧g.ig.size+Lit.aB g.body≤bk d
def QB (l:Lit) (d:DataW H):Prop:=l.ts≤400*bk d∧l.size≤bk d
theorem rd_val (n:Nat):Rd enc Tryz.prog W hT sp held 98 s8.c QV n:=by
 intro m _ cs y h;obtain⟨xs,k,rfl,rfl,hl,hx,hf⟩:=DataW.trod_struct Tryz.underlying98 h
 match xs,hx with
 | [x0,x1,x2],_=>
  obtain⟨a,ca,qa,_⟩:=iU (hT:=hT) Tryz.underlying3 k k (VZ _) _ _ (mH hf 0 rfl rfl rfl jm rfl);obtain⟨b,cb,qb,_⟩:=iU (hT:=hT) Tryz.underlying3 k k (VZ _) _ _ (mH hf 1 rfl rfl rfl jm rfl);obtain⟨c,cc,qc,_⟩:=iH (hT:=hT) Tryz.underlying9 k k (VZ _) _ _ (mH hf 2 rfl rfl rfl pU rfl);refine⟨⟨a,b,c⟩,ca.eR (o':=1) rfl (cb.eR (o':=2) rfl (cc.eR (o':=3) rfl (.end_ (hl.trans vU)))),?_⟩;simp only[QV,bk,V6,Wv,Rows.uptoBulk,Rows.uptoBulkAll];have:=sT (H:=H) c;rw[←qc] at this;simp only[bk] at this;omega
theorem yt (n:Nat):Rd enc Tryz.prog W hT sp held 35 Pos.c QP n:=by
 intro m _ cs y h;obtain⟨xs,k,rfl,rfl,hl,hx,hf⟩:=DataW.trod_struct Tryz.underlying35 h
 match xs,hx with
 | [x0,x1],_=>
  obtain⟨a,ca,qa,_⟩:=iU (hT:=hT) Tryz.underlying3 k k (VZ _) _ _ (mH hf 0 rfl rfl rfl jm rfl);obtain⟨b,cb,qb,_⟩:=iU (hT:=hT) Tryz.underlying3 k k (VZ _) _ _ (mH hf 1 rfl rfl rfl jm rfl);exact⟨⟨a,b⟩,ca.eR (o':=1) rfl (cb.eR (o':=2) rfl (.end_ (hl.trans qZ))),trivial⟩
theorem Ja (n:Nat):Rd enc Tryz.prog W hT sp held 143 Term.c QT n:=by
 intro m _ cs y h;obtain⟨xs,k,rfl,rfl,hl,hx,hf⟩:=DataW.trod_struct Tryz.underlying143 h
 match xs,hx with
 | [x0,x1,x2],_=>
  obtain⟨a,ca,qa,_⟩:=iU (hT:=hT) Tryz.underlying3 k k (VZ _) _ _ (mH hf 0 rfl rfl rfl jm rfl);obtain⟨b,cb,qb,_⟩:=iH (hT:=hT) Tryz.underlying9 k k (VZ _) _ _ (mH hf 1 rfl rfl rfl pU rfl);obtain⟨c,cc,qc⟩:=rd_val (hT:=hT) k k (VZ _) _ _ (mH hf 2 rfl rfl rfl vU rfl);refine⟨⟨a,b,c⟩,ca.eR (o':=1) rfl (cb.eR (o':=2) rfl (cc.eR (o':=5) rfl (.end_ (hl.trans xU)))),?_⟩;simp only[QT,Term.ts,bk,V6,Wv,Rows.uptoBulk,Rows.uptoBulkAll];have:=sT (H:=H) b;rw[←qb] at this;simp only[bk] at this;omega
theorem zu (n:Nat):Rd enc Tryz.prog W hT sp held 73 Atom.c QA n:=by
 intro m _ cs y h;obtain⟨xs,k,rfl,rfl,hl,hx,hf⟩:=DataW.trod_struct Tryz.underlying73 h
 match xs,hx with
 | [x0,x1],_=>
  obtain⟨a,ca,qa,_⟩:=iH (hT:=hT) Tryz.underlying9 k k (VZ _) _ _ (mH hf 0 rfl rfl rfl pU rfl);obtain⟨b,cb,qb⟩:=(iT (hT:=hT) Tryz.underlying71 xU (by decide) (fun _=>rfl) (Ja k)).mono (XX k) k (VZ _) _ _ (mH hf 1 rfl rfl rfl JZ rfl);refine⟨⟨a,b⟩,ca.eR (o':=1) rfl (cb.eR (o':=2) rfl (.end_ (hl.trans vV))),?_⟩;have h1:=sT (H:=H) a;rw[←qa] at h1;have h2:=qb.sum (f:=Term.ts) (c:=400) fun _ _ h=>h;have h3:=qb.len;simp only[bk] at h1 h2 h3;simp only[QA,Atom.ts,bk,V6,Wv,Rows.uptoBulk,Rows.uptoBulkAll];omega
theorem qO: ∀n:Nat,Rd enc Tryz.prog W hT sp held 101 Expr.c QE n
 |0=>fun m hm cs y h=>by
  obtain rfl:m=0:=by omega
  simp[DataW.trod] at h
 |n+1=>fun m hm cs y h=>by
  obtain⟨xs,k,rfl,rfl,hl,hx,hf⟩:=DataW.trod_struct Tryz.underlying101 h;have hs:=iT (hT:=hT) Tryz.underlying99 mr (by decide) (fun _=>rfl) (qO n)
  match xs,hx with
  | [x0,x1,x2,x3,x4],_=>
   obtain⟨a,ca,qa,_⟩:=iU (hT:=hT) Tryz.underlying3 k k (VZ _) _ _ (mH hf 0 rfl rfl rfl jm rfl);obtain⟨b,cb,qb,_⟩:=iH (hT:=hT) Tryz.underlying9 k k (VZ _) _ _ (mH hf 1 rfl rfl rfl pU rfl);obtain⟨c,cc,qc⟩:=rd_val (hT:=hT) k k (VZ _) _ _ (mH hf 2 rfl rfl rfl vU rfl);obtain⟨d,cd,qd,_⟩:=iU (hT:=hT) Tryz.underlying3 k k (VZ _) _ _ (mH hf 3 rfl rfl rfl jm rfl);obtain⟨e,ce,qe⟩:=hs k (by omega) _ _ (mH hf 4 rfl rfl rfl JY rfl);refine⟨.mk a b c d e,ca.eR (o':=1) rfl (cb.eR (o':=2) rfl (cc.eR (o':=5) rfl (cd.eR (o':=6) rfl ((ce.zE (z6 (.mk a b c d e))).eR (o':=7) rfl (.end_ (hl.trans mr)))))),?_⟩;have h1:=sT (H:=H) b;rw[←qb] at h1;have h2:=qe.sum (f:=Expr.ts) (c:=400) fun _ _ h=>h.1;have h3:=qe.sum (f:=Expr.size) (c:=1) fun _ _ h=>by have:=h.2;omega
   rw[←Expr.n5] at h2;rw[←Expr.eS] at h3;simp only[bk] at h1 h2 h3;simp only[QE,Expr.ts,Expr.size,bk,V6,Wv,Rows.uptoBulk,Rows.uptoBulkAll];omega
theorem Rk {n:Nat} (hb:Rd enc Tryz.prog W hT sp held 74 (fun l:List Lit=> [cV 30 l Lit.c]) (QL QB) n):Rd enc Tryz.prog W hT sp held 103 eZ.c QG (n+1):=by
 intro m hm cs y h;obtain⟨xs,k,rfl,rfl,hl,hx,hf⟩:=DataW.trod_struct Tryz.underlying103 h
 match xs,hx with
 | [x0,x1,x2,x3],_=>
  obtain⟨a,ca,qa,_⟩:=iU (hT:=hT) Tryz.underlying3 k k (VZ _) _ _ (mH hf 0 rfl rfl rfl jm rfl);obtain⟨b,cb,qb,_⟩:=iH (hT:=hT) Tryz.underlying9 k k (VZ _) _ _ (mH hf 1 rfl rfl rfl pU rfl);obtain⟨c,cc,qc⟩:=qO (hT:=hT) k k (VZ _) _ _ (mH hf 2 rfl rfl rfl mr rfl);obtain⟨d,cd,qd⟩:=hb k (by omega) _ _ (mH hf 3 rfl rfl rfl Ad rfl);refine⟨⟨a,b,c,d⟩,ca.eR (o':=1) rfl (cb.eR (o':=2) rfl (cc.eR (o':=9) rfl ((cd.zE (CX d)).eR (o':=10) rfl (.end_ (hl.trans xV))))),?_⟩;have h1:=sT (H:=H) b;rw[←qb] at h1;have h2:=qd.sum (f:=Lit.ts) (c:=400) fun _ _ h=>h.1;have h3:=qd.sum (f:=Lit.size) (c:=1) fun _ _ h=>by have:=h.2;omega
  rw[←Lit.n5] at h2;rw[←Lit.eS] at h3;obtain⟨h4,h5⟩:=qc;simp only[bk] at h1 h2 h3 h4 h5;simp only[QG,bk,V6,Wv,Rows.uptoBulk,Rows.uptoBulkAll];omega
theorem Cz: ∀n:Nat,Rd enc Tryz.prog W hT sp held 105 Lit.c QB n
 |0=>fun m hm cs y h=>by
  obtain rfl:m=0:=by omega
  simp[DataW.trod] at h
 |n+1=>fun m hm cs y h=>by
  obtain⟨xs,k,rfl,rfl,hl,hx,hf⟩:=DataW.trod_struct Tryz.underlying105 h;have hs:=Rk (iT (hT:=hT) Tryz.underlying74 sN (by decide) (fun _=>rfl) (Cz n))
  match xs,hx with
  | [x0,x1,x2,x3,x4,x5,x6],_=>
   obtain⟨a,ca,qa,_⟩:=iU (hT:=hT) Tryz.underlying3 k k (VZ _) _ _ (mH hf 0 rfl rfl rfl jm rfl);obtain⟨b,cb,qb⟩:=zu (hT:=hT) k k (VZ _) _ _ (mH hf 1 rfl rfl rfl vV rfl);obtain⟨c,cc,qc,_⟩:=iU (hT:=hT) Tryz.underlying3 k k (VZ _) _ _ (mH hf 2 rfl rfl rfl jm rfl);obtain⟨d,cd,qd⟩:=qO (hT:=hT) k k (VZ _) _ _ (mH hf 3 rfl rfl rfl mr rfl);obtain⟨e,ce,qe⟩:=qO (hT:=hT) k k (VZ _) _ _ (mH hf 4 rfl rfl rfl mr rfl);obtain⟨g,cg,qg⟩:=hs k (by omega) _ _ (mH hf 5 rfl rfl rfl xV rfl);obtain⟨p,cp,_⟩:=yt (hT:=hT) k k (VZ _) _ _ (mH hf 6 rfl rfl rfl qZ rfl);refine⟨.mk a b c d e g.func g.var g.ig g.body p,ca.eR (o':=1) rfl (cb.eR (o':=3) rfl (cc.eR (o':=4) rfl (cd.eR (o':=11) rfl (ce.eR (o':=18) rfl (cg.eR (o':=28) rfl (cp.eR (o':=30) rfl (.end_ (hl.trans sN)))))))),?_⟩;obtain⟨h1,h2⟩:=qb;obtain⟨h3,h4⟩:=qd;obtain⟨h5,h6⟩:=qe;obtain⟨h7,h8⟩:=qg;have h9:=y3 x0.1;have h10:=y3 x2.1;simp only[bk] at h1 h2 h3 h4 h5 h6 h7 h8 h9 h10;simp only[QB,Lit.ts,Lit.size,bk,V6,Wv,Rows.uptoBulk,Rows.uptoBulkAll];omega
theorem Jc (n:Nat):Rd enc Tryz.prog W hT sp held 74 (fun l:List Lit=> [lits l]) (QL QB) n:=
 (iT (hT:=hT) Tryz.underlying74 sN (by decide) (fun _=>rfl) (Cz n)).mono (XX n)
end
end Go.Proofs.YtflegjieadkonaaGreatDoor
namespace Go.Proofs.YtflegjieadkonaaGreatDoor
open Go Go.Al Go.ChangeShapes Go.WideShapes Go.RowKit
set_option maxRecDepth 100000
theorem own:ownKnob Tryz.prog.godebug=none:=by kernel_rfl
theorem Uo:Tryz.prog.globalNamed "internal/strconv.uint64pow10" =some 0:=by kernel_rfl
theorem Dp:(Tryz.prog.globals[0]?).map (·.type)=some 343:=by kernel_rfl
theorem DY:Tryz.prog.cellsOf 343=20:=by kernel_rfl
theorem DZ:Tryz.prog.cellsOf 205=1:=by kernel_rfl
theorem BP:Tryz.prog.underlying 343=some (.array 20 205):=by kernel_rfl
theorem BQ:Tryz.prog.underlying 205=some (.int .u64):=by kernel_rfl
abbrev C7:List (String×DataW Unit):=[("math/bits.deBruijn32tab",Rows.laid_math_bits_deBruijn32tab),("math/bits.deBruijn64tab",Rows.laid_math_bits_deBruijn64tab),("internal/strconv.uint64pow10",Rows.laid_internal_strconv_uint64pow10)]
theorem B1 {W:World} (h:laidMetH Tryz.prog C7 W):np W:=by
 have h2:=laidMetH.filter (fun x=>x.1== "internal/strconv.uint64pow10") h
 have h3:laidMet Tryz.prog [("internal/strconv.uint64pow10",Lib.tabData .u64 nK)] W:=by
  rw[show C7.filter (fun x=>x.1== "internal/strconv.uint64pow10")=[("internal/strconv.uint64pow10",Lib.tabData .u64 nK)] by kernel_rfl] at h2;rwa[MakeChecks.laidMetH_plain _ _ _ (by kernel_rfl)] at h2
 have h4:Lib.TabIs Tryz.prog W "internal/strconv.uint64pow10" .u64 nK:=Lib.tabIs_of_head (rest:=[]) Uo Dp BP BQ DZ DY h3;intro b c hb;unfold Lib.TabIs World.var? at h4;rw[Uo] at h4
 match b with
 |0=>
  have hc:(nK.map fun z=>Value.int .u64 z).toArray=c:=WQ hb;rw[hc] at h4;simp only[Xi] at h4;split at h4
  ·rename_i cs T fr e
   exact⟨T,fr,by rw[e,WQ h4]⟩
  ·cases h4
 |b+1=>exact nomatch hb
theorem kids:Kids Tryz.prog (· <Tryz.prog.types.size):=kids_rows (by kernel_rfl) (by kernel_rfl)
theorem full: ∀{t e},t<Tryz.prog.types.size→Tryz.prog.underlying t=some (.slice e)→0<Tryz.prog.cellsOf e:=fun{t e}=>slices_full_of Tryz.prog (by kernel_rfl) t e
theorem vd {H:Type} {enc:TypeId×Value→H} {W:World} (hT:np W) {k:FuncId} {f:Func} {s:ChangeSpec} {args:List PV} {vs:List Value} {ds gs:List (DataW H)} {before:List MemPlace}
  (hp:Al.Pure Tryz.prog k args (pB true)) (hlen:args.length=vs.length) (hv: ∀(j:Nat) (p:PV),args[j]? =some p→VR (Mem.ot W hT) UP (· <0) p (vs.getD j undef))
  (hTs: ∀t∈f.params.toList,t<Tryz.prog.types.size) (hvars:s.vars=[]) (hres:f.resultTypes= #[4])
  (hW:DataW.Whole enc Tryz.prog f.params.toList s.vars false W vs.toArray.toList ds gs before)
  (hs1:(s.fn H (ds++gs)).results=[.lit (.bool true)]) (hs2:(s.fn H (ds++gs)).args=ds) (hs3:(s.fn H (ds++gs)).vars=[]):
  Calls Tryz.prog k vs.toArray W fun e W'=> ∃v,e= .returned v∧s.post enc Tryz.prog f false true false false W vs.toArray v W':=by
 refine(hp.2 (Mem.ot W hT) UP W vs (I9 W hT) hlen hv).mono ?_
 rintro e W' ⟨x,M',N',r,h',n',rfl,⟨rfl,rfl,rfl⟩,hx,hr,hvr⟩
 have hxt:x= .bool true:=by
  cases hvr with
  |iv _ _ h=>cases h;rfl
 subst hxt;refine⟨_,rfl,ve kids full hTs hvars hW hx.os hx.output (fun b hb=>hx.gd b hb fun i o hi=>(nomatch hi)) (fun b sp hd=>?_) hs2 hs3 ?_⟩
 ·rw[hs1,hres]
  exact trodAll_cons_mk (shut_bool Tryz.underlying4 _) trodAll_mk0
 ·intro j t r h1 h2
  rw[hres] at h1 h2
  match j,h1,h2 with
  |0,h1,h2=>
   cases h1;cases h2
   exact okWide_bool_mk Tryz.underlying4 _
  |j+1,h1,h2=>simp at h1
theorem bound {H:Type} {l:List (DataW H)} (hk:Rows.uptoSmall H l=true):Rows.uptoBulkAll l≤1048576:=of_decide_eq_true hk
def C6 (b:Nat) (cs:Array Value) (h:Array Obj):Array Obj:=h.modify b fun
 | .cells _ t frozen=> .cells cs t frozen
 |o=>o
noncomputable def pz (os:Os):World:=
 {World.holding Tryz.prog os ⟨#[], #[],[]⟩ with
  heap:=C6 2 #[.int .u8 0, .int .u8 1, .int .u8 56, .int .u8 2, .int .u8 57, .int .u8 49, .int .u8 28, .int .u8 3, .int .u8 61, .int .u8 58, .int .u8 42, .int .u8 50, .int .u8 38, .int .u8 29, .int .u8 17, .int .u8 4, .int .u8 62, .int .u8 47, .int .u8 59, .int .u8 36, .int .u8 45, .int .u8 43, .int .u8 51, .int .u8 22, .int .u8 53, .int .u8 39, .int .u8 33, .int .u8 30, .int .u8 24, .int .u8 18, .int .u8 12, .int .u8 5, .int .u8 63, .int .u8 55, .int .u8 48, .int .u8 27, .int .u8 60, .int .u8 41, .int .u8 37, .int .u8 16, .int .u8 46, .int .u8 35, .int .u8 44, .int .u8 21, .int .u8 52, .int .u8 32, .int .u8 23, .int .u8 11, .int .u8 54, .int .u8 26, .int .u8 40, .int .u8 15, .int .u8 34, .int .u8 20, .int .u8 31, .int .u8 10, .int .u8 25, .int .u8 14, .int .u8 19, .int .u8 9, .int .u8 13, .int .u8 8, .int .u8 7, .int .u8 6] (C6 1 #[.int .u8 0, .int .u8 1, .int .u8 28, .int .u8 2, .int .u8 29, .int .u8 14, .int .u8 24, .int .u8 3, .int .u8 30, .int .u8 22, .int .u8 20, .int .u8 15, .int .u8 25, .int .u8 17, .int .u8 4, .int .u8 8, .int .u8 31, .int .u8 27, .int .u8 13, .int .u8 23, .int .u8 21, .int .u8 19, .int .u8 16, .int .u8 7, .int .u8 26, .int .u8 12, .int .u8 18, .int .u8 6, .int .u8 11, .int .u8 5, .int .u8 10, .int .u8 9] (C6 0 (nK.map fun z=>Value.int .u64 z).toArray (World.holding Tryz.prog os ⟨#[], #[],[]⟩).heap))}
end Go.Proofs.YtflegjieadkonaaGreatDoor
namespace Go.Proofs.YtflegjieadkonaaGreatDoor
open Go Go.Al
set_option maxRecDepth 10000
def dE.z:dE:=(0,⟨0,0⟩)
theorem d64 (d e:dE):b8 Tryz.prog 97 [ag d.c, .ptr 0 0] [aE e.c] (pB false) [(0,some (aE d.c))] 1:=by
 refine aF ae Tryz.func97 rfl (by decide) Tryz.ntmps97 rfl (by simp) ?_;refine gA rfl (ax [] (by first|exact .inr rfl|exact .inl rfl) rfl (wk rfl rfl rfl ⟨.refl _,rfl,trivial⟩ ⟨⟨_,rfl, .of_eq rfl⟩,VI rfl,rfl,trivial⟩ rfl))
def eT (p:Prog) (i:Nat):List ah:=(p.aS.take i).map Decl.name
def fo (p:Prog) (i:Nat):Int:=nI (p.aS.getD i default) i (bF .str (aG (eT p i)) (p.aS.getD i default).name 0)
def nH (p:Prog):Nat→List dE
 |0=> []
 |i+1=>nH p i++(if fo p i=0 then[] else[(fo p i,(p.aS.getD i default).at_)])
def qF (p:Prog) (i:Nat):dE:=oc p (p.rules.getD i default) ((i:Int)+1)
def od (p:Prog):Nat→List dE
 |0=> []
 |i+1=>od p i++(if(qF p i).1=0 then[] else[qF p i])
def iE (p:Prog):List dE:=nH p p.aS.length++od p p.rules.length
def bm (p:Prog):dE:=(iE p).headD dE.z
theorem wV (p:Prog) (i:Nat): ∀k,∃t,nH p (i+k)=nH p i++t
 |0=>⟨[],by simp⟩
 |k+1=>by
  obtain⟨t,h⟩:=wV p i k;exact⟨_,by rw[←Xq,nH,h,VU]⟩
theorem wL (p:Prog) (i:Nat): ∀k,∃t,od p (i+k)=od p i++t
 |0=>⟨[],by simp⟩
 |k+1=>by
  obtain⟨t,h⟩:=wL p i k;exact⟨_,by rw[←Xq,od,h,VU]⟩
theorem Bx {p:Prog} {i:Nat} (hJ:nH p i=[]) (hi:i<p.aS.length) (h: ¬fo p i=0):bm p=(fo p i,(p.aS.getD i default).at_):=by
 obtain⟨t,ht⟩:=wV p (i+1) (p.aS.length-(i+1));have e:i+1+(p.aS.length-(i+1))=p.aS.length:=by omega
 rw[e,nH,hJ,if_neg h] at ht;rw[bm,iE,ht];rfl
theorem Bw {p:Prog} {i:Nat} (h0:nH p p.aS.length=[]) (hJ:od p i=[]) (hi:i<p.rules.length) (h: ¬(qF p i).1=0):bm p=qF p i:=by
 obtain⟨t,ht⟩:=wL p (i+1) (p.rules.length-(i+1));have e:i+1+(p.rules.length-(i+1))=p.rules.length:=by omega
 rw[e,od,hJ,if_neg h] at ht;rw[bm,iE,ht,h0];rfl
theorem DX {p:Prog} (h0:nH p p.aS.length=[]) (h1:od p p.rules.length=[]):bm p=dE.z:=by
 rw[bm,iE,h0,h1];rfl
theorem vb {p:Prog} {i:Nat} (h:i<p.aS.length):aG (eT p (i+1))=bump (aG (eT p i)) (p.aS.getD i default).name:=by
 rw[eT,aY h,VN];exact cS _ _
theorem yr (p:Prog) (i:Nat) (s:ah):0≤bF .str (aG (eT p i)) s 0∧bF .str (aG (eT p i)) s 0≤i:=by
 have h:=fx (eT p i) s;have h2:(eT p i).length≤i:=by simp[eT];omega
 rw[bu];omega
def Prog.fit (p:Prog):Prop:=p.aS.length≤1000000000∧p.rules.length≤1000000000∧ ∀r∈p.rules,r.fit
theorem Vf (p:Prog) (hb:p.fit):b8 Tryz.prog 96 [ag p.c, .cH (.func 97) [] [.ptr 0 0]] [aE dE.z.c] (.bM []) [(0,some (aE (bm p).c))] 1:=by
 obtain⟨hb1,hb2,hb3⟩:=hb;refine aF ae Tryz.func96 rfl (by decide) Tryz.ntmps96 rfl (by simp) ?_;refine gA rfl ?_
 refine aL 0 p.aS.length (V1 _) (fun i=>⟨[(1, .cH (.func 97) [] [.ptr 0 0]),(2, .ptr 1 0),(4, .mp 2),(13, .iv (cV 4 p.aS Decl.c)),(14,pI p.aS.length),(15,pI i)],[(0,some (aE dE.z.c)),(1,some (aE p.c)),(2,some (cf (aG (eT p i))))],3⟩) (fun i=>nH p i=[]) [] rfl
  (wk rfl rfl rfl ⟨.refl _,rfl, .refl _,rfl, .refl _,rfl, .refl _,rfl, .refl _,rfl, .refl _,rfl,trivial⟩ ⟨⟨_,rfl, .of_eq rfl⟩,VI rfl,rfl,⟨_,rfl, .of_eq rfl⟩,VI rfl,rfl,Dc rfl eL rfl trivial⟩ rfl) fun i hi hJ=>?_
 refine gA rfl ?_;refine VJ (fun h1=>?_) (fun h1=>?_)
 ·have h1:i<p.aS.length:=Wz.1 (of_decide_eq_true h1)
  have hl:=yr p i (p.aS.getD i default).name;have hn:=vb h1;refine gA rfl (aj (VB (p.aS.getD i default) i (bF .str (aG (eT p i)) (p.aS.getD i default).name 0)) rfl rfl rfl rfl rfl rfl ?_);refine gA rfl ?_;refine VJ (fun g=>?_) (fun g=>?_)
  ·have g: ¬fo p i=0:=by
    have g:(!decide (fo p i=0))=true:=g;simpa only[Ws,decide_eq_false_iff_not] using g
   rw[Bx hJ h1 g];refine gA rfl (aK [0] (d64 (fo p i,(p.aS.getD i default).at_) dE.z) rfl rfl rfl rfl rfl rfl rfl rfl ?_);refine gA rfl ?_;refine VJ (fun q=>?_) (fun q=>?_);rotate_left
   ·exact absurd (show true=false from q) (by decide)
   refine gA rfl (ax [] (by first|exact .inr rfl|exact .inl rfl) rfl (wk rfl rfl rfl ⟨.refl _,rfl,trivial⟩ ⟨⟨_,rfl, .of_eq rfl⟩,VI rfl,rfl,trivial⟩ rfl))
  ·have g:fo p i=0:=by
    have g:(!decide (fo p i=0))=false:=g;simpa only[Xg,decide_eq_true_eq] using g
   refine gA rfl ?_;exact⟨h1,by rw[nH,hJ,if_pos g];rfl,[],wk rfl rfl rfl ⟨.refl _,rfl, .refl _,rfl, .refl _,rfl, .refl _,rfl, .refl _,rfl, .refl _,rfl,trivial⟩ ⟨⟨_,rfl, .of_eq rfl⟩,VI rfl,rfl,⟨⟨_,rfl, .of_eq rfl⟩,VI rfl,rfl,hM rfl (by rw[hn];rfl) rfl trivial⟩⟩ rfl⟩
 have h1:p.aS.length≤i:=Ww fun hh=>absurd (Wz.2 hh) (of_decide_eq_false h1);have hie:i=p.aS.length:=by omega
 subst hie;refine gA rfl (aK [] (d50 p (by omega)) rfl rfl rfl rfl rfl rfl rfl rfl ?_);refine gA rfl ?_;refine JL 3 rfl ?_
 refine aL 0 p.rules.length (V1 _) (fun i=>⟨[(1, .cH (.func 97) [] [.ptr 0 0]),(2, .ptr 1 0),(8, .iv (ct p)),(47, .iv (cV 5 p.rules aw.c)),(48,pI p.rules.length),(49,pI i)],[(0,some (aE dE.z.c)),(1,some (aE p.c))],4⟩) (fun i=>od p i=[]) [] rfl
  (wk rfl rfl rfl ⟨.refl _,rfl, .refl _,rfl, .refl _,rfl, .refl _,rfl, .refl _,rfl, .refl _,rfl,trivial⟩ ⟨⟨_,rfl, .of_eq rfl⟩,VI rfl,rfl,⟨⟨_,rfl, .of_eq rfl⟩,VI rfl,rfl,trivial⟩⟩ rfl) fun i hi hK=>?_
 refine gA rfl ?_;refine VJ (fun h2=>?_) (fun h2=>?_)
 ·have h2:i<p.rules.length:=Wz.1 (of_decide_eq_true h2)
  have hm:p.rules.getD i default∈p.rules:=by rw[VP,VS h2];exact WI h2
  refine gA rfl (aj (c65 p (p.rules.getD i default) ((i:Int)+1) (hb3 _ hm)) rfl rfl rfl rfl rfl rfl ?_);refine gA rfl ?_;refine VJ (fun g=>?_) (fun g=>?_)
  ·have g: ¬(qF p i).1=0:=by
    have g:(!decide ((qF p i).1=0))=true:=g;simpa only[Ws,decide_eq_false_iff_not] using g
   rw[Bw hJ hK h2 g];refine gA rfl (aK [0] (d64 (qF p i) dE.z) rfl rfl rfl rfl rfl rfl rfl rfl ?_);refine gA rfl ?_;refine VJ (fun q=>?_) (fun q=>?_);rotate_left
   ·exact absurd (show true=false from q) (by decide)
   refine gA rfl (ax [] (by first|exact .inr rfl|exact .inl rfl) rfl (wk rfl rfl rfl ⟨.refl _,rfl,trivial⟩ ⟨⟨_,rfl, .of_eq rfl⟩,VI rfl,rfl,trivial⟩ rfl))
  ·have g:(qF p i).1=0:=by
    have g:(!decide ((qF p i).1=0))=false:=g;simpa only[Xg,decide_eq_true_eq] using g
   refine gA rfl ?_;exact⟨h2,by rw[od,hK,if_pos g];rfl,[],wk rfl rfl rfl ⟨.refl _,rfl, .refl _,rfl, .refl _,rfl, .refl _,rfl, .refl _,rfl, .refl _,rfl,trivial⟩ ⟨⟨_,rfl, .of_eq rfl⟩,VI rfl,rfl,⟨⟨_,rfl, .of_eq rfl⟩,VI rfl,rfl,trivial⟩⟩ rfl⟩
 have h2:p.rules.length≤i:=Ww fun hh=>absurd (Wz.2 hh) (of_decide_eq_false h2);have hie:i=p.rules.length:=by omega
 subst hie;rw[DX hJ hK];refine gA rfl (ax [] (by first|exact .inr rfl|exact .inl rfl) rfl (wk rfl rfl rfl ⟨.refl _,rfl,trivial⟩ ⟨⟨_,rfl, .of_eq rfl⟩,VI rfl,rfl,trivial⟩ rfl))
theorem c24 (p:Prog) (hb:p.fit):Pure Tryz.prog 56 [ag p.c] (ag (bm p).c):=by
 refine az ae Tryz.func56 rfl (by decide) Tryz.ntmps56 rfl (by simp) rfl ?_;refine gA rfl (aK [2] (Vf p hb) rfl rfl rfl rfl rfl rfl rfl rfl ?_);refine gA rfl (au (by first|exact .inr rfl|exact .inl rfl) rfl (.of_eq ?_));rfl
end Go.Proofs.YtflegjieadkonaaGreatDoor
namespace Go.Proofs.YtflegjieadkonaaGreatDoor
open Go Go.Al Go.ChangeShapes Go.WideShapes Go.RowKit
set_option maxRecDepth 100000
theorem wq {α:Type} (f:α→Nat): ∀l:List α,(l.map fun x=>f x+1).sum=(l.map f).sum+l.length
 | []=>rfl
 |x::r=>by simp only[V6,Xy,Wu,wq f r];omega
section
variable {H:Type} {enc:TypeId×Value→H} {W:World} {hT:np W} {sp:Nat→Bool} {held:Bool}
def QD (x:Decl) (d:DataW H):Prop:=x.types.length+1≤bk d
def QR1 (r:aw) (d:DataW H):Prop:=r.size+1≤bk d∧r.head.ts≤400*bk d∧ ∀l∈r.body,l.ts≤400*bk d
def VE (p:Prog) (d:DataW H):Prop:=p.size≤bk d∧p.aS.length≤bk d∧p.rules.length≤bk d∧ ∀r∈p.rules,r.size≤bk d∧r.head.ts≤400*bk d∧ ∀l∈r.body,l.ts≤400*bk d
theorem Cy (n:Nat):Rd enc Tryz.prog W hT sp held 76 aw.c QR1 n:=by
 intro m _ cs y h;obtain⟨xs,k,rfl,rfl,hl,hx,hf⟩:=DataW.trod_struct Tryz.underlying76 h
 match xs,hx with
 | [x0,x1,x2],_=>
  obtain⟨a,ca,qa⟩:=zu (hT:=hT) k k (VZ _) _ _ (mH hf 0 rfl rfl rfl vV rfl);obtain⟨b,cb,qb⟩:=Jc (hT:=hT) k k (VZ _) _ _ (mH hf 1 rfl rfl rfl Ad rfl);obtain⟨c,cc,qc⟩:=yt (hT:=hT) k k (VZ _) _ _ (mH hf 2 rfl rfl rfl qZ rfl);refine⟨⟨a,b,c⟩,ca.eR (o':=2) rfl (cb.eR (o':=3) rfl (cc.eR (o':=5) rfl (.end_ (hl.trans Ac)))),?_⟩;have h3:=qb.sum (f:=Lit.size) (c:=1) fun _ _ h=>by have:=h.2;omega
  rw[←Lit.eS] at h3;obtain⟨h4,h5⟩:=qa;simp only[bk] at h3 h4 h5;refine⟨?_,?_,fun l hl=>?_⟩
  ·simp only[aw.size,bk,V6,Wv,Rows.uptoBulk,Rows.uptoBulkAll];omega
  ·simp only[bk,V6,Wv,Rows.uptoBulk,Rows.uptoBulkAll];omega
  ·obtain⟨e,⟨h6,_⟩,h7⟩:=qb.all l hl
   simp only[bk] at h6 h7;simp only[bk,V6,Wv,Rows.uptoBulk,Rows.uptoBulkAll];omega
theorem Jd (n:Nat):Rd enc Tryz.prog W hT sp held 3 gx (fun _ _=>True) n:=by
 intro m hm cs y h;obtain⟨z,hz,_⟩:=iU (hT:=hT) Tryz.underlying3 n m hm cs y h;exact⟨z,hz,trivial⟩
theorem Je (n:Nat):Rd enc Tryz.prog W hT sp held 49 Decl.c QD n:=by
 intro m _ cs y h;obtain⟨xs,k,rfl,rfl,hl,hx,hf⟩:=DataW.trod_struct Tryz.underlying49 h
 match xs,hx with
 | [x0,x1,x2],_=>
  obtain⟨a,ca,qa,_⟩:=iH (hT:=hT) Tryz.underlying9 k k (VZ _) _ _ (mH hf 0 rfl rfl rfl pU rfl);obtain⟨b,cb,qb⟩:=(iT (hT:=hT) Tryz.underlying47 jm (by decide) (fun _=>rfl) (Jd k)).mono (XX k) k (VZ _) _ _ (mH hf 1 rfl rfl rfl J0 rfl);obtain⟨c,cc,qc⟩:=yt (hT:=hT) k k (VZ _) _ _ (mH hf 2 rfl rfl rfl qZ rfl);refine⟨⟨a,b,c⟩,ca.eR (o':=1) rfl (cb.eR (o':=2) rfl (cc.eR (o':=4) rfl (.end_ (hl.trans Ae)))),?_⟩;have h3:=qb.len;simp only[bk] at h3;simp only[QD,bk,V6,Wv,Rows.uptoBulk,Rows.uptoBulkAll];omega
theorem Jb (n:Nat):Rd enc Tryz.prog W hT sp held 25 Prog.c VE n:=by
 intro m _ cs y h;obtain⟨xs,k,rfl,rfl,hl,hx,hf⟩:=DataW.trod_struct Tryz.underlying25 h
 match xs,hx with
 | [x0,x1],_=>
  obtain⟨a,ca,qa⟩:=(iT (hT:=hT) Tryz.underlying22 Ae (by decide) (fun _=>rfl) (Je k)).mono (XX k) k (VZ _) _ _ (mH hf 0 rfl rfl rfl J3 rfl);obtain⟨b,cb,qb⟩:=(iT (hT:=hT) Tryz.underlying23 Ac (by decide) (fun _=>rfl) (Cy k)).mono (XX k) k (VZ _) _ _ (mH hf 1 rfl rfl rfl J2 rfl);refine⟨⟨a,b⟩,ca.eR (o':=1) rfl (cb.eR (o':=2) rfl (.end_ (hl.trans J1))),?_⟩
  have h1:=qa.sum (f:=fun d=>d.types.length+1) (c:=1) fun _ _ h=>by
   simp only[QD] at h;omega
  have h2:=qb.sum (f:=fun r=>r.size+1) (c:=1) fun _ _ h=>by have:=h.1;omega
  rw[wq] at h1 h2;simp only[bk] at h1 h2;refine⟨?_,?_,?_,fun r hr=>?_⟩
  ·simp only[Prog.size,bk,V6,Wv,Rows.uptoBulk,Rows.uptoBulkAll];omega
  ·simp only[bk,V6,Wv,Rows.uptoBulk,Rows.uptoBulkAll];omega
  ·simp only[bk,V6,Wv,Rows.uptoBulk,Rows.uptoBulkAll];omega
  ·obtain⟨e,⟨h3,h4,h5⟩,h6⟩:=qb.all r hr
   simp only[bk] at h3 h4 h5 h6;refine⟨?_,?_,fun l hl=>?_⟩
   ·simp only[bk,V6,Wv,Rows.uptoBulk,Rows.uptoBulkAll];omega
   ·simp only[bk,V6,Wv,Rows.uptoBulk,Rows.uptoBulkAll];omega
   ·have:=h5 l hl
    simp only[bk,V6,Wv,Rows.uptoBulk,Rows.uptoBulkAll];omega
end
theorem RI {H:Type} {p:Prog} {d:DataW H} (h:VE p d) (hb:bk d≤1048576):p.fit:=by
 obtain⟨h1,h2,h3,h4⟩:=h;refine⟨by omega,by omega,fun r hr=>?_⟩;obtain⟨h5,h6,h7⟩:=h4 r hr;exact⟨by omega,by omega,fun l hl=>by have:=h7 l hl;omega⟩
theorem D4 {H:Type} {enc:TypeId×Value→H} {W:World} (hT:np W) {v:Value} {d:DataW H} {p:List MemPlace} (hval: ∃base,Value.okWide Tryz.prog W .any base 25 v) (h:DataW.Trod enc Tryz.prog W 0 (fun _=>true) true 25 v d p):
  ∃x:Prog,VE x d∧VR (Mem.ot W hT) UP (· <0) (ag x.c) v:=by
 obtain⟨base,hval⟩:=hval;obtain⟨cs,rfl,_⟩:=okWide_struct Tryz.underlying25 hval;obtain⟨n,hn⟩:=h;obtain⟨r,h1,h2⟩:=Jb (hT:=hT) n n (VZ _) _ _ hn;exact⟨r,h2,h1.agg⟩
end Go.Proofs.YtflegjieadkonaaGreatDoor
namespace Go.Proofs.YtflegjieadkonaaGreatDoor
open Go Go.Al Go.ChangeShapes Go.WideShapes Go.RowKit
set_option maxRecDepth 100000
theorem gv:Tryz.prog.closure 5=[5,11,47,88,15,17,50,56,97,96,123,154,186,155,156,187,214,242,259,215,124,125,157,188,216,217,243,260,272,218,219,244,261,262,273,285,297,302,303,153,307,308,304,305,309,310,311,312,274,189,220,158,190,221,245,222,246,247,264,263,265,223,248,113,135,136,178,159,191,196,160,162,163,161,192,164,165,166,167,193,224,194,101,130,195,168,197,225,198,200,226,199,201,169,170,202,227,228,126,172,203,229,171,90,53,92,52,91,122,152,121,143,149,185,144,180,145,181,182,146,183,184,213,147,148,150,151,51,57,98,127,128,112,99,129,60,102,14,13,20,18,29,67,31,30]:=by kernel_rfl
theorem oT:joinedFacts Tryz.prog 5 Tryz.f5 (Rows.OpenSpec.upto Rows.strataOrderSpec).bare Rows.strataOrderUptoRow=true:=by
 have h1:Tryz.prog.inPlace 5=Rows.strataOrderUptoRow.inPlace:=by unfold Program.inPlace;rw[gv];kernel_rfl
 have h2:Tryz.prog.unfollowed 5=true:=by unfold Program.unfollowed;rw[gv];kernel_rfl
 have h3:Tryz.prog.varsNamed 5=Rows.strataOrderUptoRow.named:=by unfold Program.varsNamed;rw[gv];kernel_rfl
 have h4:Tryz.prog.recurses 5=true:=by unfold Program.recurses;rw[h2];rfl
 unfold joinedFacts;rw[h1,h2,h3,h4];show(_:Bool)=true
 kernel_rfl
end Go.Proofs.YtflegjieadkonaaGreatDoor
namespace Go.Tj
section
variable {α:Type}
inductive ky (succ:α→List α):α→α→Prop
 |refl (a:α):ky succ a a
 |step {a b c:α}:ky succ a b→c∈succ b→ky succ a c
theorem ky.trans {succ:α→List α} {a b c:α} (h:ky succ a b) (g:ky succ b c):ky succ a c:=by
 induction g with
 |refl=>exact h
 |step _ he ih=>exact .step ih he
theorem ky.one {succ:α→List α} {a b:α} (h:b∈succ a):ky succ a b:= .step (.refl a) h
structure St (α:Type) where
 low:α→Int
 on:α→Int
 ring:α→Int
 n:Nat
 stack:List α
section
variable [DecidableEq α]
def uS (f:α→Int) (a:α) (v:Int):α→Int:=fun x=>if x=a then v else f x
theorem iO (f:α→Int) (a:α) (v:Int):uS f a v a=v:=if_pos rfl
theorem jO {f:α→Int} {a x:α} {v:Int} (h: ¬x=a):uS f a v x=f x:=if_neg h
def push (s:St α) (a:α):St α:=⟨uS s.low a ((s.n:Int)+1),uS s.on a 1,s.ring,s.n+1,s.stack++ [a]⟩
def vg (mine:Int) (s:St α):St α:=match s.stack.getLast? with
 |some b=>⟨s.low,uS s.on b 2,uS s.ring b mine,s.n,s.stack.dropLast⟩
 |none=>s
def eF (a:α) (mine:Int):Nat→St α→St α
 |0,s=>s
 |k+1,s=>if s.on a=1 then eF a mine k (vg mine s) else s
def n7 (visit:α→St α→Int×St α) (q:Int×St α) (b:α):Int×St α:=
 if q.2.low b=0 then(min q.1 (visit b q.2).1,(visit b q.2).2) else if q.2.on b=1 then(min q.1 (q.2.low b),q.2) else q
def qK (a:α) (mine:Int) (q:Int×St α):Int×St α:=if q.1=mine then(q.1,eF a mine q.2.stack.length q.2) else q
def dx (succ:α→List α):Nat→α→St α→Int×St α
 |0,_,s=>(0,s)
 |f+1,a,s=>qK a ((s.n:Int)+1) ((succ a).foldl (n7 (dx succ f)) ((s.n:Int)+1,push s a))
def fz (succ:α→List α) (f:Nat) (V:List α) (s:St α):St α:=V.foldl (fun s a=>if s.low a=0 then(dx succ f a s).2 else s) s
end
def St.o:St α:=⟨fun _=>0,fun _=>0,fun _=>0,0,[]⟩
structure Inv (succ:α→List α) (path:List α) (s:St α):Prop where
 lv: ∀a,0≤s.low a∧s.low a≤s.n
 inj: ∀a b,s.low a=s.low b→s.low a≠0→a=b
 Eg: ∀a,s.on a=0↔s.low a=0
 A1: ∀a,s.on a=0∨s.on a=1∨s.on a=2
 tK: ∀a,s.on a=1↔a∈s.stack
 R5:s.stack.Pairwise fun x y=>s.low x<s.low y
 JV: ∀a,s.on a=2→ ∀b∈succ a,s.on b=2
 Ro: ∀g∈path,s.on g=1
 up: ∀y,s.on y=1→ ∃g∈path,s.low g≤s.low y∧ky succ y g
 dn: ∀g∈path,∀y,s.on y=1→s.low g≤s.low y→ky succ g y
 aH: ∀y,s.low y≠0→y∉path→ ∀z∈succ y,s.low z≠0
 T6: ∀a,s.on a=2→ ∃r,s.on r=2∧s.low r=s.ring a∧ky succ a r∧ky succ r a
 cmp: ∀a b,s.on a=2→s.on b=2→ky succ a b→ky succ b a→s.ring a=s.ring b
structure Le (s s':St α):Prop where
 low: ∀x,s.low x≠0→s'.low x=s.low x
 JV: ∀x,s.on x=2→s'.on x=2
 n:s.n≤s'.n
theorem Le.refl (s:St α):Le s s:=⟨fun _ _=>rfl,fun _ h=>h,VZ _⟩
theorem Le.trans {s t u:St α} (h:Le s t) (g:Le t u):Le s u:=
 ⟨fun x hx=>by rw[g.low x (by rw[h.low x hx];exact hx),h.low x hx],fun x hx=>g.JV x (h.JV x hx),Wh h.n g.n⟩
structure x9 (succ:α→List α) (path:List α) (a:α) (s:St α) (least:Int) (s':St α) (t:List α):Prop where
 inv:Inv succ path s'
 le:Le s s'
 stack:s'.stack=s.stack++t
 new: ∀y∈t,s.low y=0
 at_:(s.n:Int)<s'.low a
 Ry:least≤s'.low a
 l1: ∀y∈t,∀z∈succ y,s'.on z=1→least≤s'.low z
 l2:(s'.on a=2∧least=s'.low a)∨ ∃z∈s.stack,s'.low z=least∧ky succ a z
theorem rN {succ:α→List α} {path:List α} {s:St α} (h:Inv succ path s) {x:α} (hx:s.on x=1):s.low x≠0:=fun g=>by
 have:=(h.Eg x).2 g;omega
theorem CK {succ:α→List α} {p:List α} {s s':St α} (h:Inv succ p s) (hl:Le s s') {x:α} (hx:s.low x≠0) (ho:s'.on x=1):s.on x=1:=by
 rcases h.A1 x with g|g|g
 ·exact absurd ((h.Eg x).1 g) hx
 ·exact g
 ·have:=hl.JV x g;omega
section
variable [DecidableEq α]
theorem w6 {succ:α→List α} {path:List α} {s:St α} {a:α} (h:Inv succ path s) (ha:s.low a=0) (hp: ∀g∈path,ky succ g a):Inv succ (path++ [a]) (push s a):=by
 have hon:s.on a=0:=(h.Eg a).2 ha;have hst:a∉s.stack:=fun g=>by have:=(h.tK a).2 g;omega
 have lo: ∀x,¬x=a→(push s a).low x=s.low x:=fun x hx=>jO hx;have la:(push s a).low a=(s.n:Int)+1:=iO _ _ _;have oo: ∀x,¬x=a→(push s a).on x=s.on x:=fun x hx=>jO hx;have oa:(push s a).on a=1:=iO _ _ _;have hn:((push s a).n:Int)=(s.n:Int)+1:=by show((s.n+1:Nat):Int)=_;omega
 refine⟨fun x=>?_,fun x y hxy hx=>?_,fun x=>?_,fun x=>?_,fun x=>?_,?_,fun x hx b hb=>?_,fun g hg=>?_,fun y hy=>?_,fun g hg y hy hle=>?_,fun y hy hyp z hz=>?_,fun x hx=>?_,fun x y hx hy h1 h2=>?_⟩
 ·have:=h.lv x
  by_cases e:x=a
  ·subst e;rw[la,hn];omega
  ·rw[lo x e,hn];omega
 ·have h1:=h.lv x;have h2:=h.lv y
  by_cases e:x=a
  ·by_cases e2:y=a
   ·rw[e,e2]
   ·rw[e,la,lo y e2] at hxy;omega
  ·by_cases e2:y=a
   ·rw[e2,la,lo x e] at hxy;omega
   ·rw[lo x e,lo y e2] at hxy
    rw[lo x e] at hx;exact h.inj x y hxy hx
 ·by_cases e:x=a
  ·subst e;rw[oa,la];constructor<;>intro g<;>omega
  ·rw[oo x e,lo x e];exact h.Eg x
 ·by_cases e:x=a
  ·subst e;exact .inr (.inl oa)
  ·rw[oo x e];exact h.A1 x
 ·show _↔x∈s.stack++ [a]
  rw[V3,VX];by_cases e:x=a
  ·subst e;simp[oa]
  ·rw[oo x e,h.tK x];simp[e]
 ·show(s.stack++ [a]).Pairwise _
  rw[XY];refine⟨h.R5.imp_of_mem ?_,List.pairwise_singleton _ _,fun x hx y hy=>?_⟩
  ·intro x y hx hy hxy
   rw[lo x (fun e=>hst (e▸hx)),lo y (fun e=>hst (e▸hy))];exact hxy
  ·rw[VX] at hy;subst hy
   rw[la,lo x (fun e=>hst (e▸hx))];have:=h.lv x;omega
 ·have e: ¬x=a:=fun e=>by subst e;rw[oa] at hx;omega
  rw[oo x e] at hx;have hb2:=h.JV x hx b hb;have e2: ¬b=a:=fun e=>by subst e;omega
  rw[oo b e2];exact hb2
 ·rcases V3.1 hg with g1|g1
  ·have:=h.Ro g g1
   rw[oo g (fun e=>by subst e;omega)];exact this
  ·rw[VX] at g1;subst g1;exact oa
 ·by_cases e:y=a
  ·subst e;exact⟨y,Xk _ V8,XB _, .refl _⟩
  ·rw[oo y e] at hy
   obtain⟨g,g1,g2,g3⟩:=h.up y hy;have e2: ¬g=a:=fun e=>by have:=h.Ro g g1;subst e;omega
   exact⟨g,Wp _ g1,by rw[lo g e2,lo y e];exact g2,g3⟩
 ·rcases V3.1 hg with g1|g1
  ·have e2: ¬g=a:=fun e=>by have:=h.Ro g g1;subst e;omega
   by_cases e:y=a
   ·subst e;exact hp g g1
   ·rw[lo g e2,lo y e] at hle
    rw[oo y e] at hy;exact h.dn g g1 y hy hle
  ·rw[VX] at g1;subst g1
   by_cases e:y=g
   ·subst e;exact .refl _
   ·rw[la,lo y e] at hle
    have:=h.lv y;omega
 ·have e: ¬y=a:=fun e=>hyp (Xk _ (by rw[e];exact V8))
  rw[lo y e] at hy;have:=h.aH y hy (fun g=>hyp (Wp _ g)) z hz;by_cases e2:z=a
  ·rw[e2,la];omega
  ·rw[lo z e2];exact this
 ·have e: ¬x=a:=fun e=>by subst e;rw[oa] at hx;omega
  rw[oo x e] at hx;obtain⟨r,r1,r2,r3⟩:=h.T6 x hx;have e2: ¬r=a:=fun e=>by subst e;omega
  exact⟨r,by rw[oo r e2];exact r1,by rw[lo r e2];exact r2,r3⟩
 ·have e: ¬x=a:=fun e=>by subst e;rw[oa] at hx;omega
  have e2: ¬y=a:=fun e=>by subst e;rw[oa] at hy;omega
  rw[oo x e] at hx;rw[oo y e2] at hy;exact h.cmp x y hx hy h1 h2
theorem Jk {succ:α→List α} {path:List α} {s:St α} {a:α} (h:Inv succ path s) (ha:s.low a=0):Le s (push s a):=by
 have hon:s.on a=0:=(h.Eg a).2 ha;refine⟨fun x hx=>jO fun e=>hx (e▸ha),fun x hx=>?_,by show s.n≤s.n+1;omega⟩;have: ¬x=a:=fun e=>by subst e;omega
 show uS s.on a 1 x=2;rw[jO this];exact hx
def vf (s:St α) (u c:List α) (mine:Int):St α:=⟨s.low,fun x=>if x∈c then 2 else s.on x,fun x=>if x∈c then mine else s.ring x,s.n,u⟩
theorem w8 {a:α} {mine:Int} {s:St α} (h: ¬s.on a=1): ∀k,eF a mine k s=s
 |0=>rfl
 |k+1=>if_neg h
theorem tU (a:α) (mine:Int) (u:List α): ∀(k:Nat) (t:List α) (s:St α),t.length<k→s.stack=u++a::t→a∉t→s.on a=1→(eF a mine k s).low=s.low∧(eF a mine k s).n=s.n∧(eF a mine k s).stack=u∧(∀x,(eF a mine k s).on x=if x∈a::t then 2 else s.on x)∧ ∀x,(eF a mine k s).ring x=if x∈a::t then mine else s.ring x
 |0,t,s,h,_,_,_=>absurd h (X7 _)
 |k+1,t,s,hk,hs,hn,ho=>by
  rw[eF,if_pos ho];rcases t.eq_nil_or_concat with e|⟨t0,b,e⟩
  ·subst e
   have hl:s.stack.getLast? =some a:=by rw[hs];simp
   have hd:s.stack.dropLast=u:=by rw[hs];simp
   have hp:vg mine s=⟨s.low,uS s.on a 2,uS s.ring a mine,s.n,u⟩:=by unfold vg;rw[hl,hd]
   rw[hp,w8 (by show¬uS s.on a 2 a=1;rw[iO];decide)];exact⟨rfl,rfl,rfl,fun x=>by simp[uS],fun x=>by simp[uS]⟩
  ·rw[List.concat_eq_append] at e
   subst e;have hs2:s.stack=(u++a::t0)++ [b]:=by rw[hs];simp
   have hl:s.stack.getLast? =some b:=by rw[hs2];exact List.getLast?_concat
   have hd:s.stack.dropLast=u++a::t0:=by rw[hs2];exact List.dropLast_concat
   have hp:vg mine s=⟨s.low,uS s.on b 2,uS s.ring b mine,s.n,u++a::t0⟩:=by unfold vg;rw[hl,hd]
   have hab: ¬a=b:=fun e=>hn (by rw[e];simp);have ih:=tU a mine u k t0 ⟨s.low,uS s.on b 2,uS s.ring b mine,s.n,u++a::t0⟩ (by simp at hk;omega) rfl (fun g=>hn (Wp _ g)) (by show uS s.on b 2 a=1;rw[jO hab];exact ho);rw[hp];refine⟨ih.1,ih.2.1,ih.2.2.1,fun x=>?_,fun x=>?_⟩
   ·rw[ih.2.2.2.1 x]
    by_cases e1:x∈a::t0
    ·rw[if_pos e1,if_pos (by rw[←W7];exact Wp _ e1)]
    ·rw[if_neg e1]
     by_cases e2:x=b
     ·subst e2;rw[if_pos (by simp)];exact iO _ _ _
     ·rw[if_neg (by rw[←W7,V3,VX];exact fun g=>g.elim e1 e2)];exact jO e2
   ·rw[ih.2.2.2.2 x]
    by_cases e1:x∈a::t0
    ·rw[if_pos e1,if_pos (by rw[←W7];exact Wp _ e1)]
    ·rw[if_neg e1]
     by_cases e2:x=b
     ·subst e2;rw[if_pos (by simp)];exact iO _ _ _
     ·rw[if_neg (by rw[←W7,V3,VX];exact fun g=>g.elim e1 e2)];exact jO e2
theorem St.eq {β:Type} {s t:St β} (h1:s.low=t.low) (h2:s.on=t.on) (h3:s.ring=t.ring) (h4:s.n=t.n) (h5:s.stack=t.stack):s=t:=by
 cases s;cases t;simp_all
theorem ph {a:α} {mine:Int} {u t:List α} {k:Nat} {s:St α} (hk:t.length<k) (hs:s.stack=u++a::t) (hn:a∉t) (ho:s.on a=1):eF a mine k s=vf s u (a::t) mine:=by
 obtain⟨h1,h2,h3,h4,h5⟩:=tU a mine u k t s hk hs hn ho;exact St.eq h1 (funext h4) (funext h5) h2 h3
theorem uE {β:Type} {succ:β→List β} {path:List β} {s:St β} (h:Inv succ path s) {a b:β} (ha:s.on a=2) (hr:ky succ a b):s.on b=2:=by
 induction hr with
 |refl=>exact ha
 |step _ he ih=>exact h.JV _ ih _ he
theorem Jl {succ:α→List α} {path:List α} {s:St α} {a:α} {u t:List α} (h:Inv succ (path++ [a]) s) (hs:s.stack=u++a::t) (hpa: ∀g∈path,s.low g<s.low a) (hsa: ∀z∈succ a,s.low z≠0)
  (hcl: ∀y∈a::t,∀z∈succ y,s.on z=1→s.low a≤s.low z):Inv succ path (vf s u (a::t) (s.low a)):=by
 have hsrt:=h.R5;rw[hs,XY] at hsrt;obtain⟨hu,hc,huc⟩:=hsrt;have hct:=(Xb.1 hc).1;have hoa:s.on a=1:=(h.tK a).2 (by rw[hs];simp)
 have hC: ∀x,x∈a::t↔(s.on x=1∧s.low a≤s.low x):=by
  intro x;constructor
  ·intro hx
   refine⟨(h.tK x).2 (by rw[hs];exact Xk _ hx),?_⟩;rcases V4.1 hx with e|e
   ·rw[e];exact XB _
   ·have:=hct x e;omega
  ·rintro⟨h1,h2⟩
   have:=(h.tK x).1 h1;rw[hs] at this;rcases V3.1 this with g|g
   ·have:=huc x g a V8;omega
   ·exact g
 have haC:a∈a::t:=V8;have yes: ∀x,x∈a::t→(vf s u (a::t) (s.low a)).on x=2:=fun x hx=>if_pos hx;have no: ∀x,x∉a::t→(vf s u (a::t) (s.low a)).on x=s.on x:=fun x hx=>if_neg hx
 have hback: ∀x,x∈a::t→ky succ x a:=by
  intro x hx;obtain⟨h1,h2⟩:=(hC x).1 hx;obtain⟨g,g1,g2,g3⟩:=h.up x h1;refine g3.trans (h.dn g g1 a hoa ?_);rcases V3.1 g1 with e|e
  ·have:=hpa g e;omega
  ·rw[VX] at e;rw[e];exact XB _
 have hforth: ∀x,x∈a::t→ky succ a x:=by
  intro x hx;obtain⟨h1,h2⟩:=(hC x).1 hx;exact h.dn a (by simp) x h1 h2
 have hnz: ∀y,s.low y≠0→y∉path→ ∀z∈succ y,s.low z≠0:=by
  intro y hy hyp z hz;by_cases e:y=a
  ·rw[e] at hz;exact hsa z hz
  ·exact h.aH y hy (by rw[V3,VX];exact fun g=>g.elim hyp e) z hz
 refine⟨h.lv,h.inj,fun x=>?_,fun x=>?_,fun x=>?_,hu,fun x hx b hb=>?_,fun g hg=>?_,fun y hy=>?_,fun g hg y hy hle=>?_,hnz,fun x hx=>?_,fun x y hx hy h1 h2=>?_⟩
 ·by_cases e:x∈a::t
  ·rw[yes x e]
   have:=rN h ((hC x).1 e).1;exact⟨fun g=>by omega,fun g=>absurd g this⟩
  ·rw[no x e];exact h.Eg x
 ·by_cases e:x∈a::t
  ·exact .inr (.inr (yes x e))
  ·rw[no x e];exact h.A1 x
 ·show _↔x∈u
  by_cases e:x∈a::t
  ·rw[yes x e]
   refine⟨fun g=>by omega,fun g=>?_⟩;have h1:=huc x g a haC;have h2:=((hC x).1 e).2;omega
  ·rw[no x e,h.tK x,hs,V3]
   exact⟨fun g=>g.elim id fun q=>absurd q e, .inl⟩
 ·by_cases e:x∈a::t
  ·obtain⟨h1,h2⟩:=(hC x).1 e
   have hb0:s.low b≠0:=hnz x (rN h h1) (fun g=>by have:=hpa x g;omega) b hb;rcases h.A1 b with g|g|g
   ·exact absurd ((h.Eg b).1 g) hb0
   ·exact yes b ((hC b).2 ⟨g,hcl x e b hb g⟩)
   ·by_cases e2:b∈a::t
    ·exact yes b e2
    ·rw[no b e2];exact g
  ·rw[no x e] at hx
   have g:=h.JV x hx b hb;by_cases e2:b∈a::t
   ·exact yes b e2
   ·rw[no b e2];exact g
 ·have h1:=h.Ro g (Wp _ hg)
  have h2:=hpa g hg;rw[no g (fun e=>by have:=((hC g).1 e).2;omega)];exact h1
 ·by_cases e:y∈a::t
  ·rw[yes y e] at hy;omega
  ·rw[no y e] at hy
   obtain⟨g,g1,g2,g3⟩:=h.up y hy;rcases V3.1 g1 with q|q
   ·exact⟨g,q,g2,g3⟩
   ·rw[VX] at q
    rw[q] at g2;exact absurd ((hC y).2 ⟨hy,g2⟩) e
 ·by_cases e:y∈a::t
  ·rw[yes y e] at hy;omega
  ·rw[no y e] at hy
   exact h.dn g (Wp _ hg) y hy hle
 ·by_cases e:x∈a::t
  ·exact⟨a,yes a haC,(if_pos e).symm,hback x e,hforth x e⟩
  ·rw[no x e] at hx
   obtain⟨r,r1,r2,r3⟩:=h.T6 x hx;have e2:r∉a::t:=fun g=>by have:=((hC r).1 g).1;omega
   refine⟨r,by rw[no r e2];exact r1,?_,r3⟩;show s.low r=if x∈a::t then s.low a else s.ring x;rw[if_neg e];exact r2
 ·show(if x∈a::t then s.low a else s.ring x)=if y∈a::t then s.low a else s.ring y
  by_cases e:x∈a::t
  ·by_cases e2:y∈a::t
   ·rw[if_pos e,if_pos e2]
   ·rw[no y e2] at hy
    have:=uE h hy h2;have:=((hC x).1 e).1;omega
  ·rw[no x e] at hx
   by_cases e2:y∈a::t
   ·have:=uE h hx h1
    have:=((hC y).1 e2).1;omega
   ·rw[no y e2] at hy
    rw[if_neg e,if_neg e2];exact h.cmp x y hx hy h1 h2
theorem Be {succ:α→List α} {path:List α} {s:St α} {a z:α} (h:Inv succ (path++ [a]) s) (hsa: ∀z∈succ a,s.low z≠0) (hz:s.on z=1) (hlz:s.low z<s.low a) (hr:ky succ a z):Inv succ path s:=by
 refine⟨h.lv,h.inj,h.Eg,h.A1,h.tK,h.R5,h.JV,fun g hg=>h.Ro g (Wp _ hg),fun y hy=>?_,fun g hg=>h.dn g (Wp _ hg),fun y hy hyp w hw=>?_,h.T6,h.cmp⟩
 ·obtain⟨g,g1,g2,g3⟩:=h.up y hy
  rcases V3.1 g1 with q|q
  ·exact⟨g,q,g2,g3⟩
  ·rw[VX] at q
   subst q;obtain⟨k,k1,k2,k3⟩:=h.up z hz;rcases V3.1 k1 with q|q
   ·exact⟨k,q,by omega,(g3.trans hr).trans k3⟩
   ·rw[VX] at q;subst q;omega
 ·by_cases e:y=a
  ·rw[e] at hw;exact hsa w hw
  ·exact h.aH y hy (by rw[V3,VX];exact fun g=>g.elim hyp e) w hw
def iN (V:List α) (s:St α):Nat:=(V.filter fun x=>decide (s.low x=0)).length
theorem filter_le {β:Type} {p q:β→Bool}: ∀(l:List β),(∀x∈l,p x=true→q x=true)→(l.filter p).length≤(l.filter q).length
 | [],_=>VZ _
 |x::r,h=>by
  have ih:=filter_le r fun y hy=>h y (V2 _ hy);have hx:=h x V8;rw[Xp,Xp];split
  ·rename_i g;rw[if_pos (hx g)];simp only[Wu];omega
  ·split
   ·simp only[Wu];omega
   ·exact ih
theorem filter_lt {β:Type} {p q:β→Bool} {a:β}: ∀(l:List β),(∀x∈l,p x=true→q x=true)→a∈l→p a=false→q a=true→(l.filter p).length<(l.filter q).length
 | [],_,h,_,_=>nomatch h
 |x::r,h,ha,h1,h2=>by
  have hle:=filter_le r fun y hy=>h y (V2 _ hy);have hx:=h x V8;rw[Xp,Xp];rcases V4.1 ha with e|e
  ·subst e
   rw[h1,h2];simp only[Xn,if_false,if_true,Wu];omega
  ·have ih:=filter_lt r (fun y hy=>h y (V2 _ hy)) e h1 h2
   split
   ·rename_i g;rw[if_pos (hx g)];simp only[Wu];omega
   ·split
    ·simp only[Wu];omega
    ·exact ih
theorem tA {β:Type} {V:List β} {s s':St β} (h:Le s s'):iN V s'≤iN V s:=
 filter_le V fun x _ hx=>by
  refine decide_eq_true (Xa fun g=>?_);have:=of_decide_eq_true hx;rw[h.low x g] at this;exact g this
theorem jw {V:List α} {s:St α} {a:α} (hn: ∀x,0≤s.low x∧s.low x≤s.n) (ha:a∈V) (h0:s.low a=0):iN V (push s a)<iN V s:=by
 have la:(push s a).low a=(s.n:Int)+1:=iO _ _ _;refine filter_lt V (fun x _ hx=>?_) ha (decide_eq_false (by rw[la];omega)) (decide_eq_true h0);have:=of_decide_eq_true hx;by_cases e:x=a
 ·rw[e];exact decide_eq_true h0
 ·refine decide_eq_true ?_
  rwa[show(push s a).low x=s.low x from jO e] at this
structure eh (succ:α→List α) (path:List α) (a:α) (s0:St α) (done:List α) (q:Int×St α) (t:List α):Prop where
 inv:Inv succ (path++ [a]) q.2
 le:Le (push s0 a) q.2
 stack:q.2.stack=s0.stack++a::t
 new: ∀y∈t,s0.low y=0
 Ry:q.1≤(s0.n:Int)+1
 l1: ∀y∈t,∀z∈succ y,q.2.on z=1→q.1≤q.2.low z
 Uh: ∀z∈done,q.2.on z=1→q.1≤q.2.low z
 proc: ∀z∈done,q.2.low z≠0
 l2: ∃z,q.2.on z=1∧q.2.low z=q.1∧ky succ a z
section
variable {succ:α→List α} {path:List α} {a:α} {s0:St α} {done:List α} {q:Int×St α} {t:List α}
theorem eh.la (h:eh succ path a s0 done q t):q.2.low a=(s0.n:Int)+1:=by
 have e:(push s0 a).low a=(s0.n:Int)+1:=iO _ _ _;rw[h.le.low a (by rw[e];omega),e]
theorem eh.pa (h:eh succ path a s0 done q t) (h0:Inv succ path s0) (ha:s0.low a=0): ∀g∈path,q.2.low g<q.2.low a:=by
 intro g hg;have h1:=h0.Ro g hg;have h2:=rN h0 h1;have e:(push s0 a).low g=s0.low g:=jO fun e=>h2 (by rw[e];exact ha);rw[h.la,h.le.low g (by rw[e];exact h2),e];have:=h0.lv g;omega
theorem eh.at_ (h:eh succ path a s0 done q t):a∉t:=fun g=>by
 have:=h.inv.R5;rw[h.stack,XY] at this;have:=(Xb.1 this.2.1).1 a g;omega
theorem eh.step {V:List α} {visit:α→St α→Int×St α} {f:Nat} (hV: ∀a∈V,∀b∈succ a,b∈V)
  (ih: ∀(path:List α) (b:α) (s:St α),Inv succ path s→s.low b=0→b∈V→(∀g∈path,ky succ g b)→iN V s≤f→ ∃t,x9 succ path b s (visit b s).1 (visit b s).2 t)
  (h:eh succ path a s0 done q t) (h0:Inv succ path s0) (ha:s0.low a=0) (haV:a∈V) {b:α} (hb:b∈succ a) (hw:iN V q.2≤f): ∃t',eh succ path a s0 (done++ [b]) (n7 visit q b) t':=by
 have hla:=h.la;have hpa:=h.pa h0 ha;have hat:=h.at_;have hoa:q.2.on a=1:=(h.inv.tK a).2 (by rw[h.stack];simp);unfold n7;by_cases hw0:q.2.low b=0
 ·rw[if_pos hw0]
  have hreach: ∀g∈path++ [a],ky succ g b:=by
   intro g hg;refine .step (h.inv.dn g hg a hoa ?_) hb;rcases V3.1 hg with e|e
   ·have:=hpa g e;omega
   ·rw[VX] at e;rw[e];exact XB _
  obtain⟨tb,hp⟩:=ih (path++ [a]) b q.2 h.inv hw0 (hV a haV b hb) hreach hw;generalize visit b q.2=w at hp ⊢;obtain⟨lb,s'⟩:=w;have hmono: ∀z,q.2.on z=1→s'.on z=1:=fun z hz=>(hp.inv.tK z).2 (by rw[hp.stack];exact Wp _ ((h.inv.tK z).1 hz));have hnn:=h.le.n;have hn1:(push s0 a).n=s0.n+1:=rfl;refine⟨t++tb,hp.inv,h.le.trans hp.le,?_,fun y hy=>?_,?_,fun y hy z hz ho=>?_,fun z hz ho=>?_,fun z hz=>?_,?_⟩
  ·show s'.stack=_
   rw[hp.stack,h.stack];simp
  ·rcases V3.1 hy with g|g
   ·exact h.new y g
   ·refine Xa fun hc=>?_
    have e:(push s0 a).low y=s0.low y:=jO fun e=>hc (by rw[e];exact ha);have:=h.le.low y (by rw[e];exact hc);rw[hp.new y g,e] at this;exact hc this.symm
  ·have:=h.Ry
   show min q.1 lb≤_;omega
  ·show min q.1 lb≤s'.low z
   rcases V3.1 hy with g|g
   ·have hys:q.2.on y=1:=(h.inv.tK y).2 (by rw[h.stack];simp[g])
    have hyp:y∉path++ [a]:=by
     rw[V3,VX]
     rintro(e|e)
     ·have h1:=rN h0 (h0.Ro y e)
      exact h1 (h.new y g)
     ·rw[e] at g;exact hat g
    have hz0:=h.inv.aH y (rN h.inv hys) hyp z hz;have ho1:=CK h.inv hp.le hz0 ho;have:=h.l1 y g z hz ho1;rw[hp.le.low z hz0];omega
   ·have:lb≤s'.low z:=hp.l1 y g z hz ho
    omega
  ·show min q.1 lb≤s'.low z
   rcases V3.1 hz with g|g
   ·have hz0:=h.proc z g
    have:=h.Uh z g (CK h.inv hp.le hz0 ho);rw[hp.le.low z hz0];omega
   ·rw[VX] at g;subst g
    have:lb≤s'.low z:=hp.Ry;omega
  ·show s'.low z≠0
   rcases V3.1 hz with g|g
   ·have hz0:=h.proc z g
    rw[hp.le.low z hz0];exact hz0
   ·rw[VX] at g;subst g
    have:(q.2.n:Int)<s'.low z:=hp.at_;omega
  ·obtain⟨z,z1,z2,z3⟩:=h.l2
   by_cases hle:q.1≤lb
   ·exact⟨z,hmono z z1,by show s'.low z=min q.1 lb;rw[hp.le.low z (rN h.inv z1)];omega,z3⟩
   ·rcases hp.l2 with⟨_,g⟩|⟨w,w1,w2,w3⟩
    ·have h1:lb=s'.low b:=g
     have h2:(q.2.n:Int)<s'.low b:=hp.at_;have h3:=h.Ry;omega
    ·have w2:s'.low w=lb:=w2
     exact⟨w,hmono w ((h.inv.tK w).2 w1),by show s'.low w=min q.1 lb;omega,(ky.one hb).trans w3⟩
 ·rw[if_neg hw0]
  by_cases ho1:q.2.on b=1
  ·rw[if_pos ho1]
   refine⟨t,h.inv,h.le,h.stack,h.new,?_,fun y hy z hz ho=>?_,fun z hz ho=>?_,fun z hz=>?_,?_⟩
   ·have:=h.Ry
    show min q.1 (q.2.low b)≤_;omega
   ·have:=h.l1 y hy z hz ho
    show min q.1 (q.2.low b)≤q.2.low z;omega
   ·show min q.1 (q.2.low b)≤q.2.low z
    rcases V3.1 hz with g|g
    ·have:=h.Uh z g ho;omega
    ·rw[VX] at g;subst g;omega
   ·rcases V3.1 hz with g|g
    ·exact h.proc z g
    ·rw[VX] at g;subst g;exact hw0
   ·obtain⟨z,z1,z2,z3⟩:=h.l2
    by_cases hle:q.1≤q.2.low b
    ·exact⟨z,z1,by show q.2.low z=min q.1 (q.2.low b);omega,z3⟩
    ·exact⟨b,ho1,by show q.2.low b=min q.1 (q.2.low b);omega, .one hb⟩
  ·rw[if_neg ho1]
   refine⟨t,h.inv,h.le,h.stack,h.new,h.Ry,h.l1,fun z hz ho=>?_,fun z hz=>?_,h.l2⟩
   ·rcases V3.1 hz with g|g
    ·exact h.Uh z g ho
    ·rw[VX] at g;subst g;exact absurd ho ho1
   ·rcases V3.1 hz with g|g
    ·exact h.proc z g
    ·rw[VX] at g;subst g;exact hw0
end
theorem pt {succ:α→List α} {path:List α} {a:α} {s0:St α} {V:List α} {visit:α→St α→Int×St α} {f:Nat} (hV: ∀a∈V,∀b∈succ a,b∈V)
  (ih: ∀(path:List α) (b:α) (s:St α),Inv succ path s→s.low b=0→b∈V→(∀g∈path,ky succ g b)→iN V s≤f→ ∃t,x9 succ path b s (visit b s).1 (visit b s).2 t)
  (h0:Inv succ path s0) (ha:s0.low a=0) (haV:a∈V) (hw0:iN V (push s0 a)≤f):
  ∀(l done:List α) (q:Int×St α) (t:List α),eh succ path a s0 done q t→(∀b∈l,b∈succ a)→ ∃t',eh succ path a s0 (done++l) (l.foldl (n7 visit) q) t'
 | [],done,q,t,h,_=>⟨t,by rw[WL];exact h⟩
 |b::l,done,q,t,h,hl=>by
  obtain⟨t1,h1⟩:=h.step hV ih h0 ha haV (hl b V8) (Wh (tA h.le) hw0);obtain⟨t2,h2⟩:=pt hV ih h0 ha haV hw0 l (done++ [b]) _ t1 h1 fun x hx=>hl x (V2 _ hx);exact⟨t2,by rw[VU] at h2;exact h2⟩
theorem nu {succ:α→List α} {V:List α} (hV: ∀a∈V,∀b∈succ a,b∈V): ∀(f:Nat) (path:List α) (a:α) (s:St α),Inv succ path s→s.low a=0→a∈V→(∀g∈path,ky succ g a)→iN V s≤f→ ∃t,x9 succ path a s (dx succ f a s).1 (dx succ f a s).2 t
 |0,path,a,s,h,ha,haV,_,hw=>by
  have:=jw h.lv haV ha
  omega
 |f+1,path,a,s,h,ha,haV,hp,hw=>by
  have hwp:=jw h.lv haV ha;have hi:=w6 h ha hp;have la:(push s a).low a=(s.n:Int)+1:=iO _ _ _;have oa:(push s a).on a=1:=iO _ _ _
  have hL0:eh succ path a s [] ((s.n:Int)+1,push s a) []:=
   ⟨hi, .refl _,rfl,fun y hy=>(nomatch hy),XB _,fun y hy=>(nomatch hy),fun z hz=>(nomatch hz),fun z hz=>(nomatch hz),⟨a,oa,la, .refl _⟩⟩
  obtain⟨t,hL⟩:=pt hV (fun p b s'=>nu hV f p b s') h ha haV (by omega) (succ a) [] _ [] hL0 fun b hb=>hb;rw[XJ] at hL;rw[dx];generalize(succ a).foldl (n7 (dx succ f)) ((s.n:Int)+1,push s a)=q at hL ⊢;have hla:=hL.la;have hpa:=hL.pa h ha;have hat:=hL.at_;have hoa:q.2.on a=1:=(hL.inv.tK a).2 (by rw[hL.stack];simp);have hle:Le s q.2:=(Jk h ha).trans hL.le;unfold qK;by_cases hm:q.1=(s.n:Int)+1
  ·rw[if_pos hm,ph (by rw[hL.stack];simp;omega) hL.stack hat hoa,←hla]
   refine⟨[],Jl hL.inv hL.stack hpa hL.proc fun y hy z hz ho=>?_,⟨hle.low,fun x hx=>?_,hle.n⟩,by rw[WL];rfl,fun y hy=>(nomatch hy),?_,?_,fun y hy=>(nomatch hy), .inl ⟨if_pos V8,?_⟩⟩
   ·rw[hla,←hm]
    rcases V4.1 hy with e|e
    ·rw[e] at hz;exact hL.Uh z hz ho
    ·exact hL.l1 y e z hz ho
   ·show(if x∈a::t then(2:Int) else q.2.on x)=2
    split
    ·rfl
    ·exact hle.JV x hx
   ·show(s.n:Int)<q.2.low a;omega
   ·show q.1≤q.2.low a;omega
   ·show q.1=q.2.low a;omega
  ·rw[if_neg hm]
   have hlt:q.1<q.2.low a:=by have:=hL.Ry;omega
   obtain⟨z,z1,z2,z3⟩:=hL.l2;have hsr:=hL.inv.R5;rw[hL.stack,XY] at hsr;refine⟨a::t,Be hL.inv hL.proc z1 (by omega) z3,hle,hL.stack,fun y hy=>?_,by omega,by omega,fun y hy w hw2 ho=>?_, .inr ⟨z,?_,z2,z3⟩⟩
   ·rcases V4.1 hy with e|e
    ·rw[e];exact ha
    ·exact hL.new y e
   ·rcases V4.1 hy with e|e
    ·rw[e] at hw2;exact hL.Uh w hw2 ho
    ·exact hL.l1 y e w hw2 ho
   ·have:=(hL.inv.tK z).1 z1
    rw[hL.stack] at this;rcases V3.1 this with g|g
    ·exact g
    ·rcases V4.1 g with e|e
     ·rw[e] at z2;omega
     ·have:=(Xb.1 hsr.2.1).1 z e;omega
theorem OS {β:Type} (succ:β→List β):Inv succ [] (St.o:St β):=
 ⟨fun _=>⟨XB _,XB _⟩,fun _ _ _ h=>absurd rfl h,fun _=>Iff.rfl,fun _=> .inl rfl,fun _=>⟨fun h=>(nomatch h),fun h=>(nomatch h)⟩, .nil,fun _ h=>(nomatch h),fun _ h=>(nomatch h),fun _ h=>(nomatch h),fun _ h=>(nomatch h),fun _ h=>absurd rfl h,fun _ h=>(nomatch h),fun _ _ h=>(nomatch h)⟩
theorem pd {succ:α→List α} {V:List α} (hV: ∀a∈V,∀b∈succ a,b∈V) {f:Nat} (hf:V.length≤f): ∀(l:List α) (s:St α),(∀a∈l,a∈V)→Inv succ [] s→Inv succ [] (fz succ f l s)∧(∀x,s.low x≠0→(fz succ f l s).low x≠0)∧ ∀a∈l,(fz succ f l s).low a≠0
 | [],s,_,h=>⟨h,fun _ hx=>hx,fun _ ha=>(nomatch ha)⟩
 |b::l,s,hl,h=>by
  have key: ∃s',(if s.low b=0 then(dx succ f b s).2 else s)=s'∧Inv succ [] s'∧(∀x,s.low x≠0→s'.low x≠0)∧s'.low b≠0:=by
   by_cases e:s.low b=0
   ·obtain⟨t,hp⟩:=nu hV f [] b s h e (hl b V8) (fun g hg=>nomatch hg) (Wh (WR _ _) hf)
    refine⟨_,if_pos e,hp.inv,fun x hx=>by rw[hp.le.low x hx];exact hx,?_⟩;have:=hp.at_;omega
   ·exact⟨s,if_neg e,h,fun _ hx=>hx,e⟩
  obtain⟨s',e,k1,k2,k3⟩:=key;obtain⟨i1,i2,i3⟩:=pd hV hf l s' (fun a ha=>hl a (V2 _ ha)) k1
  have he:fz succ f (b::l) s=fz succ f l s':=by
   show fz succ f l (if s.low b=0 then(dx succ f b s).2 else s)=_;rw[e]
  rw[he];refine⟨i1,fun x hx=>i2 x (k2 x hx),fun a ha=>?_⟩;rcases V4.1 ha with q|q
  ·rw[q];exact i2 b k3
  ·exact i3 a q
theorem AM {succ:α→List α} {V:List α} (hV: ∀a∈V,∀b∈succ a,b∈V) {f:Nat} (hf:V.length≤f) {a b:α} (ha:a∈V) (hb:b∈V):
  (fz succ f V St.o).ring a=(fz succ f V St.o).ring b↔ky succ a b∧ky succ b a:=by
 obtain⟨h,_,h3⟩:=pd hV hf V St.o (fun _ h=>h) (OS succ);generalize fz succ f V St.o=s at h h3 ⊢
 have hon: ∀x∈V,s.on x=2:=by
  intro x hx;rcases h.A1 x with g|g|g
  ·exact absurd ((h.Eg x).1 g) (h3 x hx)
  ·obtain⟨k,k1,_⟩:=h.up x g
   exact nomatch k1
  ·exact g
 constructor
 ·intro e
  obtain⟨r,r1,r2,r3,r4⟩:=h.T6 a (hon a ha);obtain⟨q,q1,q2,q3,q4⟩:=h.T6 b (hon b hb);have hr0:s.low r≠0:=fun g=>by have:=(h.Eg r).2 g;omega
  have:r=q:=h.inj r q (by omega) hr0;subst this;exact⟨r3.trans q4,q3.trans r4⟩
 ·rintro⟨h1,h2⟩
  exact h.cmp a b (hon a ha) (hon b hb) h1 h2
end
end
end Go.Tj
namespace Go.Wa
inductive mU (R:Nat→Nat→Prop):Nat→Nat→Prop
 |refl (a:Nat):mU R a a
 |step {a b c:Nat} (h:R a b) (t:mU R b c):mU R a c
theorem mU.trans {R:Nat→Nat→Prop} {a b c:Nat} (h:mU R a b) (k:mU R b c):mU R a c:=by
 induction h with
 |refl=>exact k
 |step h _ ih=>exact .step h (ih k)
def W (E:Nat→Nat→Bool):Nat→Nat→Nat→Bool
 |0,a,b=>E a b||a==b
 |m+1,a,b=>W E m a b||(W E m a m&&W E m m b)
variable {E:Nat→Nat→Bool}
theorem W.mono (m a b:Nat) (h:W E m a b=true):W E (m+1) a b=true:=by simp[W,h]
theorem W.OU {m k a b:Nat} (hk:m≤k) (h:W E m a b=true):W E k a b=true:=by
 induction hk with
 |refl=>exact h
 |step _ ih=>exact W.mono _ _ _ ih
theorem W.self (m a:Nat):W E m a a=true:=W.OU (V1 m) (by simp[W])
theorem W.trans: ∀(m a k b:Nat),k<m→W E m a k=true→W E m k b=true→W E m a b=true
 |m+1,a,k,b,hk,h1,h2=>by
  simp only[W,Wy,Wc] at h1 h2 ⊢;by_cases hkm:k=m
  ·subst hkm
   have h3:W E k a k=true:=by rcases h1 with h|h;exact h;exact h.1
   have h4:W E k k b=true:=by rcases h2 with h|h;exact h;exact h.2
   exact .inr ⟨h3,h4⟩
  ·have hlt:k<m:=by omega
   rcases h1 with h1|⟨h1,h1'⟩<;>rcases h2 with h2|⟨h2,h2'⟩
   ·exact .inl (W.trans m a k b hlt h1 h2)
   ·exact .inr ⟨W.trans m a k m hlt h1 h2,h2'⟩
   ·exact .inr ⟨h1,W.trans m m k b hlt h1' h2⟩
   ·exact .inr ⟨h1,h2'⟩
theorem W.sound: ∀(m a b:Nat),W E m a b=true→mU (fun a b=>E a b=true) a b
 |0,a,b,h=>by
  simp only[W,Wy,beq_iff_eq] at h;rcases h with h|h
  ·exact .step h (.refl _)
  ·subst h;exact .refl _
 |m+1,a,b,h=>by
  simp only[W,Wy,Wc] at h;rcases h with h|⟨h1,h2⟩
  ·exact W.sound m a b h
  ·exact(W.sound m a m h1).trans (W.sound m m b h2)
theorem W.iff {n:Nat} (hE: ∀a b,a<n→E a b=true→b<n) {a b:Nat} (ha:a<n):W E n a b=true↔mU (fun a b=>E a b=true) a b:=by
 refine⟨W.sound n a b,fun h=>?_⟩
 induction h with
 |refl a=>exact W.self n a
 |step h _ ih=>
  have hb:=hE _ _ ha h;exact W.trans n _ _ _ hb (W.OU (V1 n) (by simp[W,h])) (ih hb)
def V (E:Nat→Nat→Bool) (m a b x y:Nat):Bool:=if x<a∨x=a∧y<b then W E (m+1) x y else W E m x y
theorem V.BH (m a b x:Nat):V E m a b x m=W E m x m:=by
 unfold V;split
 ·simp only[W];cases W E m x m<;>simp
 ·rfl
theorem V.row (m a b y:Nat):V E m a b m y=W E m m y:=by
 unfold V;split
 ·simp only[W];cases W E m m y<;>simp
 ·rfl
theorem V.here (m a b:Nat):V E m a b a b=W E m a b:=by unfold V;rw[if_neg (by omega)]
theorem V.next (m a b x y:Nat):V E m a (b+1) x y=if x=a∧y=b then(V E m a b x y||(V E m a b a m&&V E m a b m b)) else V E m a b x y:=by
 by_cases h:x=a∧y=b
 ·obtain⟨rfl,rfl⟩:=h
  rw[if_pos ⟨rfl,rfl⟩,V.BH,V.row,V.here];unfold V;rw[if_pos (by omega)];rfl
 ·rw[if_neg h]
  unfold V;by_cases h2:x<a∨x=a∧y<b
  ·rw[if_pos h2,if_pos (by omega)]
  ·rw[if_neg h2,if_neg (by omega)]
theorem V.line (m a n x y:Nat) (hy:y<n):V E m a n x y=V E m (a+1) 0 x y:=by
 unfold V;by_cases h:x<a∨x=a∧y<n
 ·rw[if_pos h,if_pos (by omega)]
 ·rw[if_neg h,if_neg (by omega)]
theorem V.zero (m x y:Nat):V E m 0 0 x y=W E m x y:=by unfold V;rw[if_neg (by omega)]
theorem V.full (m n x y:Nat) (hx:x<n):V E m n 0 x y=W E (m+1) x y:=by unfold V;rw[if_pos (.inl hx)]
end Go.Wa
namespace Go.Co
def cE (n:Nat) (free:(Nat→Bool)→Nat→Bool) (cls:Nat→Nat→Bool):Nat→(Nat→Bool)→List (List Nat)
 |0,_=> []
 |f+1,done=>match(V5 n).find? (fun a=>!done a&&free done a) with
  |none=> []
  |some a=>(V5 n).filter (cls a)::cE n free cls f (fun b=>done b||cls a b)
section
variable {n:Nat} {bg:Nat→Nat→Bool} {e:Nat→Nat→Bool}
def dI (n:Nat) (bg:Nat→Nat→Bool) (done:Nat→Bool) (a:Nat):Bool:=(V5 n).all fun b=>!(bg a b&&!bg b a)||done b
def iq (n:Nat) (bg e:Nat→Nat→Bool) (done:Nat→Bool) (a:Nat):Bool:=(V5 n).all fun b=>!(bg a b&&bg b a)||(V5 n).all fun c=>!e b c||(bg c a&&bg a c)||done c
structure Ee (n:Nat) (e bg:Nat→Nat→Bool):Prop where
 refl: ∀a,a<n→bg a a=true
 trans: ∀a b c,bg a b=true→bg b c=true→bg a c=true
 oQ: ∀a b,a<n→e a b=true→bg a b=true
 lt: ∀a b,a<n→bg a b=true→b<n
 UQ: ∀a b,a<n→e a b=true→b<n
 split: ∀a b (p:Nat→Prop),a<n→bg a b=true→p a→ ¬p b→ ∃x y,x<n∧bg a x=true∧p x∧e x y=true∧ ¬p y∧bg y b=true
def closed (n:Nat) (bg:Nat→Nat→Bool) (done:Nat→Bool):Prop:= ∀a b,a<n→done a=true→bg a b=true→done b=true
theorem vN (hf:Ee n e bg) {done:Nat→Bool} (hd:closed n bg done) {a:Nat} (ha:a<n):dI n bg done a=iq n bg e done a:=by
 rw[WK];simp only[dI,iq,Wl,Wf,Wy,Ws,Xl,Wc,Xg];constructor
 ·intro h b hb
  by_cases hab:bg a b=true∧bg b a=true
  ·refine .inr fun c hc=>?_
   by_cases hbc:e b c=true
   ·have h1:bg a c=true:=hf.trans _ _ _ hab.1 (hf.oQ _ _ hb hbc)
    by_cases h2:bg c a=true
    ·exact .inl (.inr ⟨h2,h1⟩)
    ·rcases h c hc with(h3|h3)|h3
     ·rw[h1] at h3;cases h3
     ·exact absurd h3 h2
     ·exact .inr h3
   ·exact .inl (.inl (W2.2 hbc))
  ·by_cases h1:bg a b=true
   ·exact .inl (.inr (W2.2 fun h2=>hab ⟨h1,h2⟩))
   ·exact .inl (.inl (W2.2 h1))
 ·intro h b hb
  by_cases hab:bg a b=true
  ·by_cases hba:bg b a=true
   ·exact .inl (.inr hba)
   ·refine .inr ?_
    obtain⟨x,y,hx,h1,h2,h3,h4,h5⟩:=hf.split a b (fun x=>bg x a=true) ha hab (hf.refl a ha) hba;have hy:y<n:=hf.UQ _ _ hx h3;rcases h x hx with(h6|h6)|h6
    ·rw[h1] at h6;cases h6
    ·rw[h2] at h6;cases h6
    ·rcases h6 y hy with(h7|h7)|h7
     ·rw[h3] at h7;cases h7
     ·exact absurd h7.1 h4
     ·exact hd y b hy h7 h5
  ·exact .inl (.inl (W2.2 hab))
def cls (bg:Nat→Nat→Bool) (a b:Nat):Bool:=bg a b&&bg b a
theorem jK (hf:Ee n e bg) {done:Nat→Bool} (hd:closed n bg done) {a:Nat} (ha:a<n) (hfree:dI n bg done a=true):closed n bg (fun b=>done b||cls bg a b):=by
 intro x y hx h1 h2;simp only[cls,Wy,Wc] at h1 ⊢;rcases h1 with h1|⟨h1,h3⟩
 ·exact .inl (hd x y hx h1 h2)
 ·have hay:=hf.trans _ _ _ h1 h2
  by_cases hya:bg y a=true
  ·exact .inr ⟨hay,hya⟩
  ·left
   simp only[dI,Wl,Wf,Wy,Ws,Xl,Xg] at hfree;rcases hfree y (hf.lt _ _ ha hay) with(h4|h4)|h4
   ·rw[hay] at h4;cases h4
   ·exact absurd h4 hya
   ·exact h4
theorem find_congr {α:Type} {p q:α→Bool}: ∀{l:List α},(∀x∈l,p x=q x)→l.find? p=l.find? q
 | [],_=>rfl
 |x::l,h=>by
  rw[X9,X9,h x (by simp),find_congr fun y hy=>h y (V2 _ hy)]
theorem uw (hf:Ee n e bg): ∀(f:Nat) (done:Nat→Bool),closed n bg done→cE n (dI n bg) (cls bg) f done=cE n (iq n bg e) (cls bg) f done
 |0,_,_=>rfl
 |f+1,done,hd=>by
  have h1:(V5 n).find? (fun a=>!done a&&dI n bg done a)=(V5 n).find? (fun a=>!done a&&iq n bg e done a):=
   find_congr fun a ha=>by rw[vN hf hd (Wf.1 ha)]
  unfold cE;rw[←h1];split
  ·rfl
  ·rename_i a ha
   have h2:=Ya ha;have h3:=Wf.1 (Xu ha);simp only[Wc] at h2;rw[uw hf f _ (jK hf hd h3 h2.2)]
theorem me (hf:Ee n e bg) {done:Nat→Bool} (hex: ∃a,a<n∧done a=false): ∃a,a<n∧done a=false∧dI n bg done a=true:=by
 have key: ∀(m:Nat) (a:Nat),a<n→done a=false→(V5 n).countP (bg a)≤m→ ∃a,a<n∧done a=false∧dI n bg done a=true:=by
  intro m
  induction m with
  |zero=>
   intro a ha _ hc;have:0<(V5 n).countP (bg a):=Ym.2 ⟨a,Wf.2 ha,hf.refl a ha⟩
   omega
  |succ m ih=>
   intro a ha hda hc;by_cases h:dI n bg done a=true
   ·exact⟨a,ha,hda,h⟩
   ·have h1: ∃b,b<n∧bg a b=true∧bg b a=false∧done b=false:=by
     simp only[dI,Bool.not_eq_true,XW,Wf,Wy,Ws,Xl,Xg,not_or] at h;obtain⟨b,hb,⟨h2,h3⟩,h4⟩:=h;exact⟨b,hb,by simpa using h2,by simpa using h3,by simpa using h4⟩
    obtain⟨b,hb,h2,h3,h4⟩:=h1;refine ih b hb h4 ?_
    have hlt:(V5 n).countP (bg b)<(V5 n).countP (bg a):=by
     have hsub: ∀x∈V5 n,bg b x=true→bg a x=true:=fun x _ hx=>hf.trans _ _ _ h2 hx
     have: ∀l:List Nat,(∀x∈l,bg b x=true→bg a x=true)→a∈l→l.countP (bg b)<l.countP (bg a):=by
      intro l
      induction l with
      |nil=>intro _ h;cases h
      |cons x l ihl=>
       intro hs hm;have hle:l.countP (bg b)≤l.countP (bg a):=Yg fun y hy=>hs y (V2 _ hy);rw[Yj,Yj];by_cases hxa:a=x
       ·subst hxa
        rw[h3,hf.refl a ha];simp;omega
       ·have hm':a∈l:=by
         rcases V4.1 hm with h|h
         ·exact absurd h hxa
         ·exact h
        have:=ihl (fun y hy=>hs y (V2 _ hy)) hm';have hx:=hs x (by simp)
        cases hbx:bg b x with
        |false=>simp;split<;>omega
        |true=>rw[hx hbx];simp;omega
     exact this _ hsub (Wf.2 ha)
    omega
 obtain⟨a,ha,hda⟩:=hex;exact key _ a ha hda (VZ _)
theorem yS {d d':Nat→Bool} (h: ∀j,j<n→d j=d' j) (a:Nat):iq n bg e d a=iq n bg e d' a:=by
 unfold iq;rw[WK];simp only[Wl,Wf];constructor
 ·intro g b hb
  have:=g b hb;rw[Wy] at this ⊢;refine this.imp id fun g2=>?_;simp only[Wl,Wf] at g2 ⊢;exact fun c hc=>by rw[←h c hc];exact g2 c hc
 ·intro g b hb
  have:=g b hb;rw[Wy] at this ⊢;refine this.imp id fun g2=>?_;simp only[Wl,Wf] at g2 ⊢;exact fun c hc=>by rw[h c hc];exact g2 c hc
theorem qo {K:Nat→Nat→Bool}: ∀{f:Nat} {d d':Nat→Bool},(∀j,j<n→d j=d' j)→cE n (iq n bg e) K f d=cE n (iq n bg e) K f d'
 |0,_,_,_=>rfl
 |f+1,d,d',h=>by
  have h1:(V5 n).find? (fun a=>!d a&&iq n bg e d a)=(V5 n).find? (fun a=>!d' a&&iq n bg e d' a):=
   find_congr fun a ha=>by rw[yS h,h a (Wf.1 ha)]
  unfold cE;rw[h1];split
  ·rfl
  ·rename_i a _
   rw[qo fun j hj=>by rw[h j hj]]
end
end Go.Co
namespace Go.Fa
open Go.Wa Go.Co
theorem Am {R:Nat→Nat→Prop} {a b:Nat} (h:mU R a b) (p:Nat→Prop):p a→ ¬p b→ ∃x y,mU R a x∧p x∧R x y∧ ¬p y∧mU R y b:=by
 induction h with
 |refl a=>exact fun h1 h2=>absurd h1 h2
 | @step a c b h t ih=>
  intro h1 h2;by_cases hc:p c
  ·obtain⟨x,y,g1,g2,g3,g4,g5⟩:=ih hc h2
   exact⟨x,y, .step h g1,g2,g3,g4,g5⟩
  ·exact⟨a,c, .refl a,h1,h,hc,t⟩
theorem Ur {n:Nat} {E:Nat→Nat→Bool} (hE: ∀a b,E a b=true→a<n∧b<n):Ee n E (W E n):=by
 have hE': ∀a b,a<n→E a b=true→b<n:=fun a b _ h=>(hE a b h).2
 have hw: ∀{a b:Nat},mU (fun a b=>E a b=true) a b→W E n a b=true:=by
  intro a b h;by_cases ha:a<n
  ·exact(W.iff hE' ha).2 h
  ·cases h with
   |refl=>exact W.self n a
   |step h _=>exact absurd (hE _ _ h).1 ha
 have hlt: ∀{a b:Nat},mU (fun a b=>E a b=true) a b→a<n→b<n:=by
  intro a b h
  induction h with
  |refl a=>exact id
  |step h _ ih=>exact fun _=>ih (hE _ _ h).2
 refine⟨fun a _=>W.self n a,fun a b c h1 h2=>hw ((W.sound n a b h1).trans (W.sound n b c h2)),fun a b _ h=>hw (.step h (.refl _)),fun a b ha h=>hlt (W.sound n a b h) ha,hE',fun a b p ha h h1 h2=>?_⟩;obtain⟨x,y,g1,g2,g3,g4,g5⟩:=Am (W.sound n a b h) p h1 h2;exact⟨x,y,hlt g1 ha,hw g1,g2,g3,g4,hw g5⟩
end Go.Fa
namespace Go.Rg
open Go.Wa Go.Co Go.Tj
section
variable {α:Type} [Inhabited α]
def ed (V:List α) (g:α→α→Bool) (i j:Nat):Bool:=decide (i<V.length)&&decide (j<V.length)&&g (V.getD i default) (V.getD j default)
def bg (V:List α) (g:α→α→Bool):Nat→Nat→Bool:=W (ed V g) V.length
theorem fi {V:List α} {g:α→α→Bool} {i j:Nat}:ed V g i j=true↔i<V.length∧j<V.length∧g (V.getD i default) (V.getD j default)=true:=by
 simp[ed,and_assoc]
theorem im (V:List α) (g:α→α→Bool):Ee V.length (ed V g) (bg V g):=Go.Fa.Ur fun _ _ h=>⟨(fi.1 h).1,(fi.1 h).2.1⟩
theorem iA {V:List α} {a:α} (h:a∈V): ∃i,i<V.length∧V.getD i default=a:=by
 obtain⟨i,hi,rfl⟩:=Xh.1 h;exact⟨i,hi,by simp[VP,hi]⟩
theorem get_mem {V:List α} {i:Nat} (h:i<V.length):V.getD i default∈V:=by
 rw[VP,VS h];exact WI h
theorem y9 {V:List α} (hn:V.Nodup) {g:α→α→Bool} {succ:α→List α} (hs: ∀a∈V,∀b,b∈succ a↔b∈V∧g a b=true) {i j:Nat} (hi:i<V.length) (hj:j<V.length):
  bg V g i j=true↔ky succ (V.getD i default) (V.getD j default):=by
 have hinj: ∀{x y:Nat},x<V.length→y<V.length→V.getD x default=V.getD y default→x=y:=by
  intro x y hx hy h;rw[VP,VP,VS hx,VS hy] at h;exact(X4 hn).1 h
 rw[bg,W.iff (n:=V.length) (fun a b _ h=>(fi.1 h).2.1) hi];constructor
 ·intro h
  clear hj
  have: ∀{a b:Nat},mU (fun a b=>ed V g a b=true) a b→ky succ (V.getD a default) (V.getD b default):=by
   intro a b h
   induction h with
   |refl a=>exact .refl _
   |step h _ ih=>
    obtain⟨h1,h2,h3⟩:=fi.1 h;exact(ky.step (.refl _) ((hs _ (get_mem h1) _).2 ⟨get_mem h2,h3⟩)).trans ih
  exact this h
 ·intro h
  have key: ∀{a b:α},ky succ a b→ ∀x,x<V.length→V.getD x default=a→ ∃y,y<V.length∧V.getD y default=b∧mU (fun a b=>ed V g a b=true) x y:=by
   intro a b h
   induction h with
   |refl=>exact fun x hx he=>⟨x,hx,he, .refl _⟩
   |step _ hc ih=>
    intro x hx he;obtain⟨y,hy,h1,h2⟩:=ih x hx he;subst h1;obtain⟨h3,h4⟩:=(hs _ (get_mem hy) _).1 hc;obtain⟨z,hz,rfl⟩:=iA h3;exact⟨z,hz,rfl,h2.trans (.step (fi.2 ⟨hy,hz,h4⟩) (.refl _))⟩
  obtain⟨y,hy,h1,h2⟩:=key h i hi rfl;have:=hinj hy hj h1;subst this;exact h2
def kv (V:List α) (g:α→α→Bool) (ring:α→Int):Prop:= ∀i j,i<V.length→j<V.length→(ring (V.getD i default)=ring (V.getD j default)↔bg V g i j=true∧bg V g j i=true)
theorem Cw [DecidableEq α] {V:List α} (hn:V.Nodup) {g:α→α→Bool} {succ:α→List α} (hs: ∀a∈V,∀b,b∈succ a↔b∈V∧g a b=true) {f:Nat} (hf:V.length≤f):kv V g (fz succ f V St.o).ring:=by
 intro i j hi hj;rw[AM (fun a ha b hb=>((hs a ha b).1 hb).1) hf (get_mem hi) (get_mem hj),y9 hn hs hi hj,y9 hn hs hj hi]
def uA (V:List α) (succ:α→List α) (ring:α→Int) (D:Int→Bool) (a:α):Bool:=(V.filter fun b=>decide (ring b=ring a)).all fun b=>(succ b).all fun c=>decide (ring c=ring a)||D (ring c)
def jl (V:List α) (succ:α→List α) (ring:α→Int):Nat→(Int→Bool)→List (List α)
 |0,_=> []
 |f+1,D=>match V.find? (fun a=>!D (ring a)&&uA V succ ring D a) with
  |none=> []
  |some a=>(V.filter fun b=>decide (ring b=ring a))::jl V succ ring f (fun x=>decide (x=ring a)||D x)
theorem tN (V:List α):(V5 V.length).map (fun i=>V.getD i default)=V:=by
 apply List.ext_getElem
 ·simp
 ·intro i h1 h2
  simp[VP,h2]
theorem yV (V:List α) (p:α→Bool):V.filter p=((V5 V.length).filter fun i=>p (V.getD i default)).map fun i=>V.getD i default:=by
 have:=List.filter_map (p:=p) (f:=fun i=>V.getD i default) (l:=V5 V.length);rw[tN] at this;exact this
theorem Dz (V:List α) (p:α→Bool):V.find? p=((V5 V.length).find? fun i=>p (V.getD i default)).map fun i=>V.getD i default:=by
 have:=List.find?_map (f:=fun i=>V.getD i default) (p:=p) (l:=V5 V.length);rw[tN] at this;exact this
theorem tp {β:Type} {p q:β→Bool} {l:List β} (h: ∀x∈l,p x=q x):l.filter p=l.filter q:=List.filter_congr h
theorem DV {V:List α} {g:α→α→Bool} {ring:α→Int} (hr:kv V g ring) {i:Nat} (hi:i<V.length):
  (V.filter fun b=>decide (ring b=ring (V.getD i default)))=((V5 V.length).filter (cls (bg V g) i)).map fun i=>V.getD i default:=by
 rw[yV];congr 1;refine tp fun j hj=>?_;have:=hr j i (Wf.1 hj) hi;rw[WK,decide_eq_true_eq,this];simp[cls,and_comm]
theorem pM {V:List α} {g:α→α→Bool} {ring:α→Int} (hr:kv V g ring) {succ:α→List α} (hs: ∀a∈V,∀b,b∈succ a↔b∈V∧g a b=true) {D:Int→Bool} {i:Nat} (hi:i<V.length):
  uA V succ ring D (V.getD i default)=iq V.length (bg V g) (ed V g) (fun j=>D (ring (V.getD j default))) i:=by
 rw[WK];simp only[uA,iq,Wl,Wi,decide_eq_true_eq,Wf,Wy,Ws,Xl,Wc];constructor
 ·intro h b hb
  by_cases hc:bg V g i b=true∧bg V g b i=true
  ·refine .inr fun c hc'=>?_
   by_cases he:ed V g b c=true
   ·obtain⟨_,_,h3⟩:=fi.1 he
    rcases h (V.getD b default) ⟨get_mem hb,(hr b i hb hi).2 ⟨hc.2,hc.1⟩⟩ (V.getD c default) ((hs _ (get_mem hb) _).2 ⟨get_mem hc',h3⟩) with h4|h4
    ·exact .inl (.inr ((hr c i hc' hi).1 h4))
    ·exact .inr h4
   ·exact .inl (.inl (W2.2 he))
  ·left
   by_cases h1:bg V g i b=true
   ·exact .inr (W2.2 fun h2=>hc ⟨h1,h2⟩)
   ·exact .inl (W2.2 h1)
 ·rintro h b ⟨hb,hrb⟩ c hc
  obtain⟨y,hy,rfl⟩:=iA hb;obtain⟨h1,h2⟩:=(hs _ hb _).1 hc;obtain⟨z,hz,rfl⟩:=iA h1;obtain⟨h3,h4⟩:=(hr y i hy hi).1 hrb;rcases h y hy with(h5|h5)|h5
  ·rw[h4] at h5;cases h5
  ·rw[h3] at h5;cases h5
  ·rcases h5 z hz with(h6|h6)|h6
   ·rw[fi.2 ⟨hy,hz,h2⟩] at h6;cases h6
   ·exact .inl ((hr z i hz hi).2 h6)
   ·exact .inr h6
theorem oS {V:List α} {g:α→α→Bool} {ring:α→Int} (hr:kv V g ring) {succ:α→List α} (hs: ∀a∈V,∀b,b∈succ a↔b∈V∧g a b=true): ∀(f:Nat) (D:Int→Bool),
  jl V succ ring f D=(cE V.length (iq V.length (bg V g) (ed V g)) (cls (bg V g)) f (fun j=>D (ring (V.getD j default)))).map fun c=>c.map fun i=>V.getD i default
 |0,_=>rfl
 |f+1,D=>by
  have h1:(V5 V.length).find? (fun i=>!D (ring (V.getD i default))&&uA V succ ring D (V.getD i default))=
    (V5 V.length).find? (fun i=>!D (ring (V.getD i default))&&iq V.length (bg V g) (ed V g) (fun j=>D (ring (V.getD j default))) i):=
   find_congr fun i hi=>by rw[pM hr hs (Wf.1 hi)]
  unfold jl cE;rw[Dz,h1]
  cases hfi:(V5 V.length).find? (fun i=>!D (ring (V.getD i default))&&iq V.length (bg V g) (ed V g) (fun j=>D (ring (V.getD j default))) i) with
  |none=>rfl
  |some i=>
   have hi:=Wf.1 (Xu hfi);simp only[W1,V6];rw[DV hr hi,oS hr hs f]
   have hg:=qo (n:=V.length) (bg:=bg V g) (e:=ed V g) (K:=cls (bg V g)) (f:=f) (d:=fun j=>decide (ring (V.getD j default)=ring (V.getD i default))||D (ring (V.getD j default)))
    (d':=fun j=>D (ring (V.getD j default))||cls (bg V g) i j) fun j hj=>?_
   ·rw[hg]
   have:=hr j i hj hi;rw[WK];simp only[Wy,decide_eq_true_eq,this,cls,Wc];exact⟨fun h=>h.symm.imp id fun h=>⟨h.2,h.1⟩,fun h=>h.symm.imp (fun h=>⟨h.2,h.1⟩) id⟩
end
end Go.Rg
namespace Go.Lv
variable (e s:Nat→Nat→Bool)
def wt (a b:Nat):Nat:=if s a b then 1 else 0
inductive RY:Nat→Nat→Nat→Prop
 |nil (a:Nat):RY a 0 0
 |cons {a b k w:Nat} (h:e a b=true) (t:RY b k w):RY a (k+1) (w+wt s a b)
def rx (h:Nat→Nat) (a b:Nat):Nat→Nat:=if e a b=true∧h a<h b+wt s a b then fun x=>if x=a then h b+wt s a b else h x else h
def row (h:Nat→Nat) (a:Nat):Nat→(Nat→Nat)
 |0=>h
 |b+1=>rx e s (row h a b) a b
def T7 (n:Nat) (h:Nat→Nat):Nat→(Nat→Nat)
 |0=>h
 |a+1=>row e s (T7 n h a) a n
def high (n:Nat):Nat→(Nat→Nat)
 |0=>fun _=>0
 |t+1=>T7 e s n (high n t) n
theorem OQ (h:Nat→Nat) (a b x:Nat):h x≤rx e s h a b x:=by
 unfold rx;split
 ·rename_i hc;show h x≤if x=a then _ else _
  split
  ·rename_i hx;subst hx;omega
  ·exact VZ _
 ·exact VZ _
theorem I5 (h:Nat→Nat) {a b:Nat} (hab:e a b=true):h b+wt s a b≤rx e s h a b a:=by
 unfold rx;split
 ·show _≤if a=a then _ else _
  rw[if_pos rfl];exact VZ _
 ·rename_i hc
  have: ¬h a<h b+wt s a b:=fun hh=>hc ⟨hab,hh⟩;omega
theorem u5 (h:Nat→Nat) (a x:Nat): ∀m,h x≤row e s h a m x
 |0=>VZ _
 |m+1=>Wh (u5 h a x m) (OQ e s _ a m x)
theorem j6 (h:Nat→Nat) {a b:Nat} (hab:e a b=true): ∀m,b<m→h b+wt s a b≤row e s h a m a
 |m+1,hb=>by
  by_cases hbm:b=m
  ·subst hbm
   exact Wh (Yk (u5 e s h a b b) _) (I5 e s _ hab)
  ·exact Wh (j6 h hab m (by omega)) (OQ e s _ a m a)
theorem yo (n:Nat) (h:Nat→Nat) (x:Nat): ∀m,h x≤T7 e s n h m x
 |0=>VZ _
 |m+1=>Wh (yo n h x m) (u5 e s _ m x n)
theorem wQ (n:Nat) (h:Nat→Nat) {a b:Nat} (hab:e a b=true) (hb:b<n): ∀m,a<m→h b+wt s a b≤T7 e s n h m a
 |m+1,ha=>by
  by_cases ham:a=m
  ·subst ham
   exact Wh (Yk (yo e s n h b a) _) (j6 e s _ hab n hb)
  ·exact Wh (wQ n h hab hb m (by omega)) (u5 e s _ m a n)
theorem uo (n:Nat) (x:Nat): ∀{t u:Nat},t≤u→high e s n t x≤high e s n u x:=by
 intro t u h
 induction h with
 |refl=>exact VZ _
 |step _ ih=>exact Wh ih (yo e s n _ x n)
variable {e s}
theorem T5 {L h:Nat→Nat} (hL: ∀a b,e a b=true→L b+wt s a b≤L a) (hh: ∀x,h x≤L x) (a b x:Nat):rx e s h a b x≤L x:=by
 unfold rx;split
 ·rename_i hc
  show(if x=a then _ else _)≤_;split
  ·rename_i hx;subst hx
   exact Wh (Yk (hh b) _) (hL x b hc.1)
  ·exact hh x
 ·exact hh x
theorem Cp {L h:Nat→Nat} (hL: ∀a b,e a b=true→L b+wt s a b≤L a) (hh: ∀x,h x≤L x) (a:Nat): ∀m x,row e s h a m x≤L x
 |0,x=>hh x
 |m+1,x=>T5 hL (Cp hL hh a m) a m x
theorem Ct {L h:Nat→Nat} (hL: ∀a b,e a b=true→L b+wt s a b≤L a) (n:Nat) (hh: ∀x,h x≤L x): ∀m x,T7 e s n h m x≤L x
 |0,x=>hh x
 |m+1,x=>Cp hL (Ct hL n hh m) m n x
theorem qT {L:Nat→Nat} (hL: ∀a b,e a b=true→L b+wt s a b≤L a) (n:Nat): ∀t x,high e s n t x≤L x
 |0,_=>V1 _
 |t+1,x=>Ct hL n (qT hL n t) n x
end Go.Lv
namespace Go.Le
open Go.Co Go.Lv
variable {n:Nat} {e s bg:Nat→Nat→Bool}
def q9 (n:Nat) (e s:Nat→Nat→Bool) (L:Nat→Nat):Prop:= ∀S:Nat→Bool,(∃a,a<n∧S a=false)→ ∃x,x<n∧S x=false∧(L x=0∨ ∃y,y<n∧S y=true∧e x y=true∧L x≤L y+wt s x y)
theorem mI {α:Type} {p q:α→Bool}: ∀{l:List α},(∀x∈l,p x=true→q x=true)→(∃x∈l,p x=false∧q x=true)→l.countP p<l.countP q
 | [],_,⟨x,hx,_⟩=>nomatch hx
 |y::l,h,⟨x,hx,h1,h2⟩=>by
  have hle:l.countP p≤l.countP q:=Yg fun z hz=>h z (V2 _ hz);rw[Yj,Yj];rcases V4.1 hx with rfl|hx
  ·rw[h1,h2];simp;omega
  ·have:=mI (fun z hz=>h z (V2 _ hz)) ⟨x,hx,h1,h2⟩
   have hy:=h y (by simp)
   cases hp:p y with
   |false=>simp;split<;>omega
   |true=>rw[hy hp];simp;omega
theorem xw {t:Nat} (ht:n≤t) {L:Nat→Nat} (hL: ∀a b,e a b=true→L b+wt s a b≤L a) (hg:q9 n e s L) {a:Nat} (ha:a<n):high e s n t a=L a:=by
 have key: ∀u,u≤n→u≤(V5 n).countP fun x=>decide (high e s n u x=L x):=by
  intro u
  induction u with
  |zero=>exact fun _=>V1 _
  |succ u ih=>
   intro hu;have ih:=ih (by omega)
   have hmono: ∀x∈V5 n,decide (high e s n u x=L x)=true→decide (high e s n (u+1) x=L x)=true:=by
    intro x _ hx;rw[decide_eq_true_eq] at hx ⊢;refine Yl (qT hL n (u+1) x) ?_;rw[←hx];exact uo e s n x (XX u)
   by_cases hex: ∃a,a<n∧decide (high e s n u a=L a)=false
   ·obtain⟨x,hx,h1,h2⟩:=hg _ hex
    have:(V5 n).countP (fun x=>decide (high e s n u x=L x))<(V5 n).countP fun x=>decide (high e s n (u+1) x=L x):=by
     refine mI hmono ⟨x,Wf.2 hx,h1,?_⟩;rw[decide_eq_true_eq];refine Yl (qT hL n (u+1) x) ?_;rcases h2 with h2|⟨y,hy,h3,h4,h5⟩
     ·rw[h2];exact V1 _
     ·rw[decide_eq_true_eq] at h3
      refine Wh h5 ?_;rw[←h3];exact wQ e s n _ h4 hy n hx
    omega
   ·have hall:(V5 n).countP (fun x=>decide (high e s n u x=L x))=n:=by
     have:(V5 n).countP (fun x=>decide (high e s n u x=L x))=(V5 n).length:=by
      rw[YK];intro x hx
      cases h:decide (high e s n u x=L x) with
      |true=>rfl
      |false=>exact absurd ⟨x,Wf.1 hx,h⟩ hex
     rw[this,Xt]
    have:(V5 n).countP (fun x=>decide (high e s n u x=L x))≤(V5 n).countP fun x=>decide (high e s n (u+1) x=L x):=Yg hmono;omega
 have h1:=key n (VZ n)
 have h2: ∀x∈V5 n,decide (high e s n n x=L x)=true:=by
  rw[←YK,Xt];exact Yl (by have:=XV (p:=fun x=>decide (high e s n n x=L x)) (l:=V5 n);rwa[Xt] at this) h1
 have h3:=of_decide_eq_true (h2 a (Wf.2 ha));refine Yl (qT hL n t a) ?_;rw[←h3];exact uo e s n a ht
def top (n:Nat) (e s:Nat→Nat→Bool) (h:Nat→Nat) (c:List Nat):Nat:=
 c.foldl (fun m a=>(V5 n).foldl (fun m b=>if e a b=true then max m (h b+wt s a b) else m) m) 0
def JH (n:Nat) (e s:Nat→Nat→Bool):List (List Nat)→(Nat→Nat)→(Nat→Nat)
 | [],h=>h
 |c::r,h=>JH n e s r (fun x=>if x∈c then top n e s h c else h x)
theorem foldl_max {α:Type} (p:α→Bool) (f:α→Nat): ∀(l:List α) (m:Nat),m≤l.foldl (fun m b=>if p b=true then max m (f b) else m) m∧
  (∀b∈l,p b=true→f b≤l.foldl (fun m b=>if p b=true then max m (f b) else m) m)∧(l.foldl (fun m b=>if p b=true then max m (f b) else m) m=m∨ ∃b∈l,p b=true∧l.foldl (fun m b=>if p b=true then max m (f b) else m) m=f b)
 | [],m=>⟨VZ _,fun _ h=>(nomatch h), .inl rfl⟩
 |b::l,m=>by
  obtain⟨h1,h2,h3⟩:=foldl_max p f l (if p b=true then max m (f b) else m);rw[Wm];refine⟨Wh ?_ h1,fun c hc hp=>?_,?_⟩
  ·split<;>omega
  ·rcases V4.1 hc with rfl|hc
   ·rw[if_pos hp] at h1 ⊢;omega
   ·exact h2 c hc hp
  ·rcases h3 with h3|⟨c,hc,hp,h3⟩
   ·rw[h3]
    by_cases hp:p b=true
    ·rw[if_pos hp]
     rcases Nat.le_total m (f b) with h|h
     ·exact .inr ⟨b,by simp,hp,by omega⟩
     ·exact .inl (by omega)
    ·rw[if_neg hp];exact .inl rfl
   ·exact .inr ⟨c,V2 _ hc,hp,h3⟩
theorem uW (n:Nat) (e s:Nat→Nat→Bool) (h:Nat→Nat): ∀(c:List Nat) (m:Nat),(m≤c.foldl (fun m a=>(V5 n).foldl (fun m b=>if e a b=true then max m (h b+wt s a b) else m) m) m)∧
  (∀a∈c,∀b,b<n→e a b=true→h b+wt s a b≤c.foldl (fun m a=>(V5 n).foldl (fun m b=>if e a b=true then max m (h b+wt s a b) else m) m) m)∧
  (c.foldl (fun m a=>(V5 n).foldl (fun m b=>if e a b=true then max m (h b+wt s a b) else m) m) m=m∨ ∃a∈c,∃b,b<n∧e a b=true∧c.foldl (fun m a=>(V5 n).foldl (fun m b=>if e a b=true then max m (h b+wt s a b) else m) m) m=h b+wt s a b)
 | [],m=>⟨VZ _,fun _ h=>(nomatch h), .inl rfl⟩
 |a::c,m=>by
  obtain⟨g1,g2,g3⟩:=foldl_max (fun b=>e a b) (fun b=>h b+wt s a b) (V5 n) m;obtain⟨h1,h2,h3⟩:=uW n e s h c ((V5 n).foldl (fun m b=>if e a b=true then max m (h b+wt s a b) else m) m);rw[Wm];refine⟨Wh g1 h1,fun x hx b hb he=>?_,?_⟩
  ·rcases V4.1 hx with rfl|hx
   ·exact Wh (g2 b (Wf.2 hb) he) h1
   ·exact h2 x hx b hb he
  ·rcases h3 with h3|⟨x,hx,b,hb,he,h3⟩
   ·rcases g3 with g3|⟨b,hb,he,g3⟩
    ·exact .inl (h3.trans g3)
    ·exact .inr ⟨a,by simp,b,Wf.1 hb,he,h3.trans g3⟩
   ·exact .inr ⟨x,V2 _ hx,b,hb,he,h3⟩
theorem BV {h:Nat→Nat} {c:List Nat} {a b:Nat} (ha:a∈c) (hb:b<n) (he:e a b=true):h b+wt s a b≤top n e s h c:=(uW n e s h c 0).2.1 a ha b hb he
theorem uV (h:Nat→Nat) (c:List Nat):top n e s h c=0∨ ∃a∈c,∃b,b<n∧e a b=true∧top n e s h c=h b+wt s a b:=(uW n e s h c 0).2.2
structure wa (n:Nat) (e s bg:Nat→Nat→Bool) (done:Nat→Bool) (h:Nat→Nat):Prop where
 cl:closed n bg done
 zero: ∀x,done x=false→h x=0
 oQ: ∀a b,a<n→done a=true→e a b=true→h b+wt s a b≤h a
 ground: ∀S:Nat→Bool,(∃a,a<n∧done a=true∧S a=false)→ ∃x,x<n∧done x=true∧S x=false∧(h x=0∨ ∃y,y<n∧S y=true∧e x y=true∧h x≤h y+wt s x y)
theorem wa.next (hf:Ee n e bg) (hs: ∀a b,e a b=true→bg b a=true→s a b=false) {done:Nat→Bool} {h:Nat→Nat} (hd:wa n e s bg done h) {a:Nat} (ha:a<n) (hna:done a=false) (hfree:dI n bg done a=true):
  wa n e s bg (fun b=>done b||cls bg a b) (fun x=>if x∈(V5 n).filter (cls bg a) then top n e s h ((V5 n).filter (cls bg a)) else h x):=by
 have hmem: ∀x,x∈(V5 n).filter (cls bg a)↔x<n∧bg a x=true∧bg x a=true:=by
  intro x;simp[cls,Wi,Wf]
 have hnd: ∀x,x<n→bg a x=true→bg x a=true→done x=false:=by
  intro x hx _ h2
  cases hdx:done x with
  |false=>rfl
  |true=>have:=hd.cl x a hx hdx h2;rw[hna] at this;cases this
 have hfr: ∀b,bg a b=true→bg b a=false→done b=true:=by
  intro b h1 h2;simp only[dI,Wl,Wf,Wy,Ws,Xl,Xg] at hfree;rcases hfree b (hf.lt _ _ ha h1) with(h4|h4)|h4
  ·rw[h1] at h4;cases h4
  ·rw[h2] at h4;cases h4
  ·exact h4
 have hold: ∀x,x<n→done x=true→(if x∈(V5 n).filter (cls bg a) then top n e s h ((V5 n).filter (cls bg a)) else h x)=h x:=by
  intro x hx hdx;rw[if_neg];rw[hmem]
  rintro⟨_,h1,h2⟩
  rw[hnd x hx h1 h2] at hdx;cases hdx
 have hin: ∀x,x<n→bg a x=true→bg x a=true→(if x∈(V5 n).filter (cls bg a) then top n e s h ((V5 n).filter (cls bg a)) else h x)=top n e s h ((V5 n).filter (cls bg a)):=
  fun x hx h1 h2=>if_pos ((hmem x).2 ⟨hx,h1,h2⟩)
 have hsame: ∀x y,x<n→bg a x=true→bg x a=true→e x y=true→bg y a=true→h y+wt s x y=0:=by
  intro x y hx h1 h2 he h3;have hy:=hf.UQ _ _ hx he;have h4:bg a y=true:=hf.trans _ _ _ h1 (hf.oQ _ _ hx he);rw[hd.zero y (hnd y hy h4 h3)];simp[wt,hs x y he (hf.trans _ _ _ h3 h1)]
 refine⟨jK hf hd.cl ha hfree,fun x hx=>?_,fun x y hx hdx he=>?_,fun S hS=>?_⟩
 ·simp only[Xf] at hx
  rw[if_neg]
  ·exact hd.zero x hx.1
  ·rw[hmem]
   rintro⟨_,h1,h2⟩
   have:=hx.2;simp[cls,h1,h2] at this
 ·have hy:=hf.UQ _ _ hx he
  simp only[Wy,cls,Wc] at hdx;rcases hdx with hdx|⟨h1,h2⟩
  ·have hdy:done y=true:=hd.cl x y hx hdx (hf.oQ _ _ hx he)
   rw[hold x hx hdx,hold y hy hdy];exact hd.oQ x y hx hdx he
  ·rw[hin x hx h1 h2]
   have h3:bg a y=true:=hf.trans _ _ _ h1 (hf.oQ _ _ hx he)
   cases h4:bg y a with
   |true=>
    rw[hin y hy h3 h4];have:wt s x y=0:=by simp[wt,hs x y he (hf.trans _ _ _ h4 h1)]
    omega
   |false=>
    rw[hold y hy (hfr y h3 h4)];exact BV ((hmem x).2 ⟨hx,h1,h2⟩) hy he
 ·by_cases hex: ∃x,x<n∧done x=true∧S x=false
  ·obtain⟨x,hx,h1,h2,h3⟩:=hd.ground S hex
   refine⟨x,hx,by simp[h1],h2,?_⟩;rw[hold x hx h1];rcases h3 with h3|⟨y,hy,h4,h5,h6⟩
   ·exact .inl h3
   ·exact .inr ⟨y,hy,h4,h5,by rw[hold y hy (hd.cl x y hx h1 (hf.oQ _ _ hx h5))];exact h6⟩
  ·have hall: ∀x,x<n→done x=true→S x=true:=fun x hx h1=>by
    cases h2:S x with
    |true=>rfl
    |false=>exact absurd ⟨x,hx,h1,h2⟩ hex
   obtain⟨x,hx,h1,h2⟩:=hS;simp only[Wy,cls,Wc] at h1;rcases h1 with h1|⟨h1,h3⟩
   ·exact absurd ⟨x,hx,h1,h2⟩ hex
   rcases uV (n:=n) (e:=e) (s:=s) h ((V5 n).filter (cls bg a)) with ht|⟨a',ha',b,hb,he,ht⟩
   ·exact⟨x,hx,by simp[cls,h1,h3],h2, .inl (by rw[hin x hx h1 h3,ht])⟩
   ·obtain⟨g1,g2,g3⟩:=(hmem a').1 ha'
    cases hba:bg b a with
    |true=>
     have:=hsame a' b g1 g2 g3 he hba
     exact⟨x,hx,by simp[cls,h1,h3],h2, .inl (by rw[hin x hx h1 h3,ht,this])⟩
    |false=>
     have hdb:=hfr b (hf.trans _ _ _ g2 (hf.oQ _ _ g1 he)) hba
     cases hSa:S a' with
     |false=>
      exact⟨a',g1,by simp[cls,g2,g3],hSa, .inr ⟨b,hb,hall b hb hdb,he,by rw[hin a' g1 g2 g3,hold b hb hdb,ht];exact VZ _⟩⟩
     |true=>
      obtain⟨u,v,hu,h4,h5,h6,h7,h8⟩:=hf.split x a' (fun z=>S z=false) hx (hf.trans _ _ _ h3 g2) h2 (by rw[hSa];simp);have hv:=hf.UQ _ _ hu h6;have hau:bg a u=true:=hf.trans _ _ _ h1 h4;have hva:bg v a=true:=hf.trans _ _ _ h8 g3;have hua:bg u a=true:=hf.trans _ _ _ (hf.oQ _ _ hu h6) hva;have hav:bg a v=true:=hf.trans _ _ _ hau (hf.oQ _ _ hu h6);exact⟨u,hu,by simp[cls,hau,hua],h5, .inr ⟨v,hv,by simpa using h7,h6,by rw[hin u hu hau hua,hin v hv hav hva];omega⟩⟩
theorem wa.nil (n:Nat) (e s bg:Nat→Nat→Bool):wa n e s bg (fun _=>false) (fun _=>0):=
 ⟨fun _ _ _ h=>(nomatch h),fun _ _=>rfl,fun _ _ _ h=>(nomatch h),fun _ ⟨_,_,h,_⟩=>(nomatch h)⟩
theorem k9 {α:Type} {p:α→Bool}: ∀{l:List α},(∃x∈l,p x=true)→ ∃y,l.find? p=some y
 | [],⟨_,h,_⟩=>nomatch h
 |x::l,⟨y,h,hp⟩=>by
  rw[X9]
  cases hx:p x with
  |true=>exact⟨x,rfl⟩
  |false=>
   rcases V4.1 h with rfl|h
   ·rw[hx] at hp;cases hp
   ·exact k9 ⟨y,h,hp⟩
theorem sa (hf:Ee n e bg) (hs: ∀a b,e a b=true→bg b a=true→s a b=false): ∀(f:Nat) (done:Nat→Bool) (h:Nat→Nat),wa n e s bg done h→(V5 n).countP (fun x=>!done x)≤f→
  ∃all:Nat→Bool,(∀x,x<n→all x=true)∧wa n e s bg all (JH n e s (cE n (dI n bg) (cls bg) f done) h)
 | 0,done,h,hd,hc=>⟨done,fun x hx=>by
   cases hdx:done x with
   |true=>rfl
   |false=>
    have:0<(V5 n).countP (fun x=>!done x):=Ym.2 ⟨x,Wf.2 hx,by simp[hdx]⟩
    omega,hd⟩
 |f+1,done,h,hd,hc=>by
  unfold cE;split
  ·rename_i hnone
   refine⟨done,fun x hx=>?_,hd⟩
   cases hdx:done x with
   |true=>rfl
   |false=>
    obtain⟨a,h1,h2,h3⟩:=me hf ⟨x,hx,hdx⟩;obtain⟨y,hy⟩:=k9 (p:=fun a=>!done a&&dI n bg done a) (l:=V5 n) ⟨a,Wf.2 h1,by simp[h2,h3]⟩;rw[hnone] at hy;cases hy
  ·rename_i a hsome
   have h2:=Ya hsome;have h3:=Wf.1 (Xu hsome);simp only[Wc,Ws] at h2;have hd':=hd.next hf hs h3 h2.1 h2.2;refine sa hf hs f _ _ hd' ?_
   have:(V5 n).countP (fun x=>!(done x||cls bg a x))<(V5 n).countP fun x=>!done x:=by
    refine mI (fun x _ hx=>?_) ⟨a,Wf.2 h3,?_,?_⟩
    ·simp only[Bool.not_or,Wc] at hx;exact hx.1
    ·simp[cls,hf.refl a h3]
    ·simp[h2.1]
   omega
theorem C3 (hf:Ee n e bg) (hlt: ∀a b,e a b=true→a<n∧b<n) (hs: ∀a b,e a b=true→bg b a=true→s a b=false) {t:Nat} (ht:n≤t) {a:Nat} (ha:a<n):
  high e s n t a=JH n e s (cE n (dI n bg) (cls bg) n (fun _=>false)) (fun _=>0) a:=by
 obtain⟨all,h1,h2⟩:=sa hf hs n _ _ (wa.nil n e s bg) (by have:=XV (p:=fun x:Nat=>!false) (l:=V5 n);rwa[Xt] at this);refine xw ht (fun x y he=>h2.oQ x y (hlt x y he).1 (h1 x (hlt x y he).1) he) (fun S ⟨x,hx,hS⟩=>?_) ha;obtain⟨y,hy,_,h4,h5⟩:=h2.ground S ⟨x,hx,h1 x hx,hS⟩;exact⟨y,hy,h4,h5⟩
end Go.Le
namespace Go.Or
open Go.Co Go.Lv Go.Le
variable {n:Nat} {e s bg:Nat→Nat→Bool}
structure pX (n:Nat) (bg:Nat→Nat→Bool) (done:Nat→Bool) (cs:List (List Nat)) (x i:Nat) (c:List Nat):Prop where
 at_:cs[i]? =some c
 mem:x∈c
 one: ∀(j:Nat) (c':List Nat),cs[j]? =some c'→x∈c'→j=i
 cl: ∀y,y∈c↔y<n∧cls bg x y=true
 low: ∀y,y<n→bg x y=true→done y=true∨ ∃j c',j≤i∧cs[j]? =some c'∧y∈c'
theorem qn (hf:Ee n e bg): ∀(f:Nat) (done:Nat→Bool),closed n bg done→(V5 n).countP (fun x=>!done x)≤f→
  (∀x,x<n→done x=true→ ∀c∈cE n (dI n bg) (cls bg) f done,x∉c)∧ ∀x,x<n→done x=false→ ∃i c,pX n bg done (cE n (dI n bg) (cls bg) f done) x i c
 | 0,done,_,hc=>⟨fun _ _ _ _ h=>(nomatch h),fun x hx hdx=>by
   have:0<(V5 n).countP (fun x=>!done x):=Ym.2 ⟨x,Wf.2 hx,by simp[hdx]⟩
   omega⟩
 |f+1,done,hd,hc=>by
  unfold cE;split
  ·rename_i hnone
   refine⟨fun _ _ _ _ h=>(nomatch h),fun x hx hdx=>?_⟩;obtain⟨a,h1,h2,h3⟩:=me hf ⟨x,hx,hdx⟩;obtain⟨y,hy⟩:=k9 (p:=fun a=>!done a&&dI n bg done a) (l:=V5 n) ⟨a,Wf.2 h1,by simp[h2,h3]⟩;rw[hnone] at hy;cases hy
  ·rename_i a hsome
   have h2:=Ya hsome;have ha:=Wf.1 (Xu hsome);simp only[Wc,Ws] at h2;have hd':=jK hf hd ha h2.2
   have hlt:(V5 n).countP (fun x=>!(done x||cls bg a x))<(V5 n).countP fun x=>!done x:=by
    refine mI (fun x _ hx=>?_) ⟨a,Wf.2 ha,?_,?_⟩
    ·simp only[Bool.not_or,Wc] at hx;exact hx.1
    ·simp[cls,hf.refl a ha]
    ·simp[h2.1]
   obtain⟨g1,g2⟩:=qn hf f _ hd' (by omega)
   have hmem: ∀x,x∈(V5 n).filter (cls bg a)↔x<n∧cls bg a x=true:=by
    intro x;simp[Wi,Wf]
   have hcls: ∀{x y:Nat},cls bg a x=true→(cls bg a y=true↔cls bg x y=true):=by
    intro x y hx;simp only[cls,Wc] at hx ⊢;exact⟨fun h=>⟨hf.trans _ _ _ hx.2 h.1,hf.trans _ _ _ h.2 hx.1⟩,fun h=>⟨hf.trans _ _ _ hx.1 h.1,hf.trans _ _ _ h.2 hx.2⟩⟩
   have hnd: ∀x,x<n→cls bg a x=true→done x=false:=by
    intro x hx hc;simp only[cls,Wc] at hc
    cases hdx:done x with
    |false=>rfl
    |true=>have:=hd x a hx hdx hc.2;rw[h2.1] at this;cases this
   refine⟨fun x hx hdx c hcm=>?_,fun x hx hdx=>?_⟩
   ·rcases V4.1 hcm with rfl|hcm
    ·rw[hmem];rintro⟨_,h3⟩
     rw[hnd x hx h3] at hdx;cases hdx
    ·exact g1 x hx (by simp[hdx]) c hcm
   ·by_cases hax:cls bg a x=true
    ·refine⟨0,_,rfl,(hmem x).2 ⟨hx,hax⟩,fun j c' hj hxc=>?_,fun y=>?_,fun y hy hxy=>?_⟩
     ·cases j with
      |zero=>rfl
      |succ j=>
       rw[W5] at hj;exact absurd hxc (g1 x hx (by simp[hax]) c' (Wj hj))
     ·rw[hmem,hcls hax]
     ·have hax':=hax
      simp only[cls,Wc] at hax';have hay:=hf.trans _ _ _ hax'.1 hxy;by_cases hya:bg y a=true
      ·exact .inr ⟨0,_,VZ _,rfl,(hmem y).2 ⟨hy,by simp[cls,hay,hya]⟩⟩
      ·have hfree:=h2.2
       simp only[dI,Wl,Wf,Wy,Ws,Xl,Xg] at hfree;rcases hfree y hy with(h4|h4)|h4
       ·rw[hay] at h4;cases h4
       ·exact absurd h4 hya
       ·exact .inl h4
    ·obtain⟨i,c,hs⟩:=g2 x hx (by simp[hdx,hax])
     refine⟨i+1,c,by rw[W5];exact hs.at_,hs.mem,fun j c' hj hxc=>?_,hs.cl,fun y hy hxy=>?_⟩
     ·cases j with
      |zero=>
       rw[XN] at hj;cases hj
       exact absurd ((hmem x).1 hxc).2 hax
      |succ j=>
       rw[W5] at hj;rw[hs.one j c' hj hxc]
     ·rcases hs.low y hy hxy with h3|⟨j,c',h3,h4,h5⟩
      ·simp only[Wy] at h3
       rcases h3 with h3|h3
       ·exact .inl h3
       ·exact .inr ⟨0,_,V1 _,rfl,(hmem y).2 ⟨hy,h3⟩⟩
      ·exact .inr ⟨j+1,c',by omega,by rw[W5];exact h4,h5⟩
theorem Q3 (hf:Ee n e bg) {x:Nat} (hx:x<n): ∃i c,pX n bg (fun _=>false) (cE n (dI n bg) (cls bg) n (fun _=>false)) x i c:=
 (qn hf n (fun _=>false) (fun _ _ _ h=>by cases h) (by have:=XV (p:=fun _:Nat=>!false) (l:=V5 n);rwa[Xt] at this)).2 x hx rfl
theorem Ru {L:Nat→Nat} (hg:q9 n e s L) {x:Nat} (hx:x<n) (h0:0<L x): ∃y,y<n∧L y+1=L x:=by
 obtain⟨u,hu,h1,h2⟩:=hg (fun a=>decide (L a<L x)) ⟨x,hx,by simp⟩;rw[decide_eq_false_iff_not] at h1;rcases h2 with h2|⟨y,hy,h3,h4,h5⟩
 ·omega
 ·rw[decide_eq_true_eq] at h3
  have:wt s u y≤1:=by unfold wt;split<;>omega
  exact⟨y,hy,by omega⟩
theorem C4 {L:Nat→Nat} (hg:q9 n e s L) {x:Nat} (hx:x<n):L x=0∨ ∃y,y<n∧e x y=true∧L x≤L y+wt s x y:=by
 obtain⟨u,hu,h1,h2⟩:=hg (fun a=>decide (a≠x)) ⟨x,hx,by simp⟩;have hux:u=x:=by simpa using h1
 subst hux;exact h2.imp id fun⟨y,hy,_,h4,h5⟩=>⟨y,hy,h4,h5⟩
end Go.Or
namespace Go.Proofs.YtflegjieadkonaaGreatDoor
open Go Go.Al
mutual
def named:Lit→List ah
 | .mk k a _ _ _ _ _ _ b _=>if k=1∨k=2 then[a.rel] else if k=4 then fA b else[]
def fA:List Lit→List ah
 | []=> []
 |l::r=>named l++fA r
end
def yA (l:Lit):List ah:=if l.kind=1∨l.kind=2 then[l.atom.rel] else if l.kind=4 then(l.ar.filter fun x=>decide (x.kind=1∨x.kind=2)).map fun x=>x.atom.rel else[]
theorem lP: ∀l:List Lit,fA l=l.flatMap named
 | []=>rfl
 |x::r=>by simp only[fA,WT,lP r]
theorem ue: ∀(b:List Lit),(∀x∈b,x.kind≠4)→fA b=(b.filter fun x=>decide (x.kind=1∨x.kind=2)).map fun x=>x.atom.rel
 | [],_=>rfl
 | .mk k' a' op' le' ri' af' av' ao' b' at'::b,h=>by
  have hx:k'≠4:=h (.mk k' a' op' le' ri' af' av' ao' b' at') (V8 ..);rw[fA,ue b fun y hy=>h y (V2 _ hy),Xp];by_cases hk:k'=1∨k'=2
  ·have:decide ((Lit.mk k' a' op' le' ri' af' av' ao' b' at').kind=1∨(Lit.mk k' a' op' le' ri' af' av' ao' b' at').kind=2)=true:=decide_eq_true hk
   rw[this,named,if_pos hk];rfl
  ·have:decide ((Lit.mk k' a' op' le' ri' af' av' ao' b' at').kind=1∨(Lit.mk k' a' op' le' ri' af' av' ao' b' at').kind=2)=false:=decide_eq_false hk
   rw[this,named,if_neg hk,if_neg hx];rfl
theorem xj (l:Lit) (h:l.kind=4→ ∀x∈l.ar,x.kind≠4):named l=yA l:=by
 obtain⟨k,a,op,le,ri,af,av,ao,b,at_⟩:=l;show(if k=1∨k=2 then[a.rel] else if k=4 then fA b else[])=if k=1∨k=2 then[a.rel] else if k=4 then(b.filter fun x=>decide (x.kind=1∨x.kind=2)).map fun x=>x.atom.rel else[];by_cases h4:k=4
 ·rw[ue b (h h4)]
 ·rw[if_neg h4,if_neg h4]
def iD (l:Lit):Nat:=if l.kind=1 then 1 else 2
def aC (p:Prog):List (ah×ah×Nat):=p.rules.flatMap fun r=>r.body.flatMap fun l=>(named l).map fun t=>(r.head.rel,t,iD l)
def gD (hs:List (ah×ah×Nat)) (a b:ah):Nat:=hs.foldl (fun m x=>if x.1=a∧x.2.1=b then max m x.2.2 else m) 0
theorem JR (hs:List (ah×ah×Nat)) (x:ah×ah×Nat) (a b:ah):gD (hs++ [x]) a b=if x.1=a∧x.2.1=b then max (gD hs a b) x.2.2 else gD hs a b:=by
 simp[gD,Xe]
theorem vO (a b:ah): ∀(hs:List (ah×ah×Nat)) (m:Nat),m≤hs.foldl (fun m x=>if x.1=a∧x.2.1=b then max m x.2.2 else m) m∧(∀k,(a,b,k)∈hs→k≤hs.foldl (fun m x=>if x.1=a∧x.2.1=b then max m x.2.2 else m) m)∧
  (hs.foldl (fun m x=>if x.1=a∧x.2.1=b then max m x.2.2 else m) m=m∨(a,b,hs.foldl (fun m x=>if x.1=a∧x.2.1=b then max m x.2.2 else m) m)∈hs)
 | [],m=>⟨VZ _,fun _ h=>(nomatch h), .inl rfl⟩
 |(x,y,k)::hs,m=>by
  obtain⟨h1,h2,h3⟩:=vO a b hs (if x=a∧y=b then max m k else m);rw[Wm];refine⟨Wh ?_ h1,fun k' hk=>?_,?_⟩
  ·split<;>omega
  ·rcases V4.1 hk with h|h
   ·cases h
    refine Wh ?_ h1;rw[if_pos ⟨rfl,rfl⟩];exact Nat.le_max_right _ _
   ·exact h2 k' h
  ·rcases h3 with h3|h3
   ·by_cases hxy:x=a∧y=b
    ·rw[if_pos hxy] at h3
     rcases Nat.le_total m k with h4|h4
     ·right
      rw[Y1 h4] at h3;obtain⟨rfl,rfl⟩:=hxy;simp only[and_self,if_true,Y1 h4] at h3 ⊢;rw[h3];simp
     ·left
      rw[Nat.max_eq_left h4] at h3;simp only[hxy,and_self,if_true,Nat.max_eq_left h4] at h3 ⊢;exact h3
    ·rw[if_neg hxy] at h3
     left;simp only[if_neg hxy];exact h3
   ·exact .inr (V2 _ h3)
theorem Dv {hs:List (ah×ah×Nat)} {a b:ah} {k:Nat} (h:(a,b,k)∈hs):k≤gD hs a b:=(vO a b hs 0).2.1 k h
theorem zV (hs:List (ah×ah×Nat)) (a b:ah):gD hs a b=0∨(a,b,gD hs a b)∈hs:=(vO a b hs 0).2.2
theorem JJ (l:Lit):iD l≤2:=by unfold iD;split<;>omega
theorem Du (p:Prog) (a b:ah):gD (aC p) a b≤2:=by
 rcases zV (aC p) a b with h|h
 ·omega
 ·generalize gD (aC p) a b=k at h
  simp only[aC,WY,Wo,V0] at h;obtain⟨r,_,l,_,t,_,_,_,h⟩:=h;rw[←h];exact JJ l
def ns (p:Prog):List ah:=c9 (p.aS.map Decl.name)
theorem te.CO {l:List ah} (h:te l):l.Nodup:=by
 refine YV ?_ h;intro a b hab e;subst e;exact kT _ hab
def eg (p:Prog) (a b:ah):Bool:=decide (gD (aC p) a b≠0)
def tL (p:Prog) (a b:ah):Bool:=decide (gD (aC p) a b=2)
def yZ (p:Prog):List (ah×ah×Bool):=(ns p).flatMap fun a=>((ns p).filter (eg p a)).map fun b=>(a,b,tL p a b)
def fO (p:Prog):Nat→Nat→Bool:=Go.Rg.bg (ns p) (eg p)
def bh (p:Prog):List (List ah):=(Go.Co.cE (ns p).length (Go.Co.dI (ns p).length (fO p)) (Go.Co.cls (fO p)) (ns p).length (fun _=>false)).map fun c=>c.map fun i=>(ns p).getD i default
def cv (p:Prog):Nat→Nat:=Go.Lv.high (Go.Rg.ed (ns p) (eg p)) (fun i j=>tL p ((ns p).getD i default) ((ns p).getD j default)) (ns p).length ((ns p).length+1)
def aT (p:Prog):List (ah×Nat):=(V5 (ns p).length).map fun i=>((ns p).getD i default,cv p i)
theorem xR {p:Prog} {ring:ah→Int} (hr:Go.Rg.kv (ns p) (eg p) ring):
  Go.Rg.jl (ns p) (fun a=>(ns p).filter (eg p a)) ring (ns p).length (fun _=>false)=bh p:=by
 rw[Go.Rg.oS hr (fun a _ b=>by rw[Wi])];have h:=Go.Co.uw (Go.Rg.im (ns p) (eg p)) (ns p).length (fun _=>false) (fun _ _ _ h=>by cases h);unfold bh fO;rw[h]
theorem kX {p:Prog} (hs: ∀i j,Go.Rg.ed (ns p) (eg p) i j=true→fO p j i=true→tL p ((ns p).getD i default) ((ns p).getD j default)=false) {i:Nat} (hi:i<(ns p).length):
  cv p i=Go.Le.JH (ns p).length (Go.Rg.ed (ns p) (eg p)) (fun i j=>tL p ((ns p).getD i default) ((ns p).getD j default)) (Go.Co.cE (ns p).length (Go.Co.dI (ns p).length (fO p)) (Go.Co.cls (fO p)) (ns p).length (fun _=>false)) (fun _=>0) i:=
 Go.Le.C3 (Go.Rg.im (ns p) (eg p)) (fun _ _ h=>⟨(Go.Rg.fi.1 h).1,(Go.Rg.fi.1 h).2.1⟩) hs (XX _) hi
theorem Cx {p:Prog} (hn:(p.aS.map Decl.name).Nodup) {f:Nat} (hf:(ns p).length≤f):Go.Rg.kv (ns p) (eg p) (Go.Tj.fz (fun a=>(ns p).filter (eg p a)) f (ns p) Go.Tj.St.o).ring:=
 Go.Rg.Cw (V:=ns p) (te.CO (dK hn)) (fun a _ b=>by rw[Wi]) hf
end Go.Proofs.YtflegjieadkonaaGreatDoor
namespace Go.Proofs.YtflegjieadkonaaGreatDoor
open Go Go.Al
def ringEq (p:Prog) (a b:ah):Bool:=(V5 (ns p).length).any fun i=>(V5 (ns p).length).any fun j=>decide ((ns p).getD i default=a)&&decide ((ns p).getD j default=b)&&Go.Co.cls (fO p) i j
theorem rI {p:Prog} {a b:ah}:ringEq p a b=true↔ ∃i j,i<(ns p).length∧j<(ns p).length∧(ns p).getD i default=a∧(ns p).getD j default=b∧fO p i j=true∧fO p j i=true:=by
 simp only[ringEq,WU,Wf,Wc,decide_eq_true_eq,Go.Co.cls];constructor
 ·rintro⟨i,hi,j,hj,⟨h1,h2⟩,h3,h4⟩;exact⟨i,j,hi,hj,h1,h2,h3,h4⟩
 ·rintro⟨i,j,hi,hj,h1,h2,h3,h4⟩;exact⟨i,hi,j,hj,⟨h1,h2⟩,h3,h4⟩
theorem p3 {p:Prog} {ring:ah→Int} (hr:Go.Rg.kv (ns p) (eg p) ring) {a b:ah} (ha:a∈ns p) (hb:b∈ns p):ringEq p a b=decide (ring a=ring b):=by
 rw[WK,rI,decide_eq_true_eq];constructor
 ·rintro⟨i,j,hi,hj,rfl,rfl,h3,h4⟩
  exact(hr i j hi hj).2 ⟨h3,h4⟩
 ·intro h
  obtain⟨i,hi,rfl⟩:=Go.Rg.iA ha;obtain⟨j,hj,rfl⟩:=Go.Rg.iA hb;obtain⟨h3,h4⟩:=(hr i j hi hj).1 h;exact⟨i,j,hi,hj,rfl,rfl,h3,h4⟩
def lJ (p:Prog) (r:aw):Bool:=r.body.any fun l=>decide (l.kind=1)&&ringEq p l.atom.rel r.head.rel
def kH (p:Prog) (r:aw):Option Lit:=r.body.find? fun l=>decide (l.kind≠1)&&(named l).any fun t=>ringEq p t r.head.rel
def pQ (r:aw):Bool:=r.head.an.any fun t=>decide (t.kind=1)&&!c4 (jQ r) t.var
def hZ (p:Prog) (r:aw):dE:=match kH p r with
 |some l=>(70,l.at)
 |none=>if pQ r=true∧lJ p r=true then(71,r.at_) else dE.z
def cQ (p:Prog):dE:=if(bm p).1≠0 then bm p else((p.rules.map (hZ p)).find? fun d=>decide (d.1≠0)).getD dE.z
def iQ (p:Prog) (n:Int):Bool:=decide ((bm p).1=0)&&decide (1≤n)&&decide (n≤p.rules.length)&&lJ p (p.rules.getD (n-1).toNat default)
def tT (p:Prog):Bool:=decide ((bm p).1=0)&&p.rules.all fun r=>r.body.all fun l=>decide (l.kind≠2)&&decide (l.kind≠4)
theorem fv {p:Prog} {r:aw} (h:(hZ p r).1=0):kH p r=none:=by
 unfold hZ at h;split at h
 ·cases h
 ·assumption
theorem fQ {p:Prog} (h0:(bm p).1=0) (h:(cQ p).1=0): ∀r∈p.rules,(hZ p r).1=0:=by
 intro r hr;unfold cQ at h;rw[if_neg (by simpa using h0)] at h
 cases hf:(p.rules.map (hZ p)).find? fun d=>decide (d.1≠0) with
 |none=>
  have:=W3.1 hf (hZ p r) (WD hr)
  simpa using this
 |some d=>
  rw[hf] at h;have:=Ya hf;simp only[ne_eq,decide_not,Ws,decide_eq_false_iff_not] at this;exact absurd h this
theorem jz {p:Prog} (h: ∀r∈p.rules,kH p r=none): ∀i j,Go.Rg.ed (ns p) (eg p) i j=true→fO p j i=true→tL p ((ns p).getD i default) ((ns p).getD j default)=false:=by
 intro i j he hf;obtain⟨hi,hj,_⟩:=Go.Rg.fi.1 he
 cases hs:tL p ((ns p).getD i default) ((ns p).getD j default) with
 |false=>rfl
 |true=>
  rw[tL,decide_eq_true_eq] at hs;rcases zV (aC p) ((ns p).getD i default) ((ns p).getD j default) with h1|h1
  ·omega
  ·rw[hs] at h1
   simp only[aC,WY,Wo,V0] at h1;obtain⟨r,hr,l,hl,t,ht,h2,h3,h4⟩:=h1
   have hk:l.kind≠1:=by
    intro hk;rw[iD,if_pos hk] at h4;cases h4
   have:=W3.1 (h r hr) l hl;simp only[Wc,decide_eq_true_eq,WU,not_and,not_exists] at this;refine absurd ?_ (this hk t ht);rw[rI];exact⟨j,i,hj,hi,h3.symm,h2.symm,hf,(Go.Rg.im (ns p) (eg p)).oQ i j hi he⟩
end Go.Proofs.YtflegjieadkonaaGreatDoor
namespace Go.Re
open Go.Tj
variable {α:Type}
structure x9 (succ:α→List α) (S S':α→Prop) (a:α):Prop where
 A2: ∀x,S x→S' x
 here:S' a
 new: ∀x,S' x→S x∨ky succ a x
 next: ∀x,S' x→S x∨ ∀y∈succ x,S' y
theorem x9.skip {succ:α→List α} {S:α→Prop} {a:α} (h:S a):x9 succ S S a:=⟨fun _ h=>h,h,fun _ h=> .inl h,fun _ h=> .inl h⟩
structure VF (succ:α→List α) (S T:α→Prop) (a:α) (l:List α):Prop where
 A2: ∀x,S x→T x
 here:T a
 new: ∀x,T x→S x∨ky succ a x
 next: ∀x,T x→S x∨x=a∨ ∀y∈succ x,T y
 done: ∀y∈l,T y
theorem VF.step {succ:α→List α} {S T T':α→Prop} {a b:α} {l:List α} (h:VF succ S T a l) (hb:b∈succ a) (p:x9 succ T T' b):VF succ S T' a (b::l):=by
 refine⟨fun x hx=>p.A2 x (h.A2 x hx),p.A2 a h.here,fun x hx=>?_,fun x hx=>?_,fun y hy=>?_⟩
 ·rcases p.new x hx with h1|h1
  ·exact h.new x h1
  ·exact .inr ((ky.step (.refl _) hb).trans h1)
 ·rcases p.next x hx with h1|h1
  ·rcases h.next x h1 with h2|h2|h2
   ·exact .inl h2
   ·exact .inr (.inl h2)
   ·exact .inr (.inr fun y hy=>p.A2 y (h2 y hy))
  ·exact .inr (.inr h1)
 ·rcases V4.1 hy with rfl|hy
  ·exact p.here
  ·exact p.A2 y (h.done y hy)
structure O7 (succ:α→List α) (V:α→Prop) (T:α→Prop) (l:List α):Prop where
 new: ∀x,T x→ ∃r∈l,V r∧ky succ r x
 next: ∀x,T x→ ∀y∈succ x,T y
 done: ∀r∈l,V r→T r
theorem O7.step {succ:α→List α} {V T T':α→Prop} {l:List α} {a:α} (h:O7 succ V T l) (ha:V a) (p:x9 succ T T' a):O7 succ V T' (l++ [a]):=by
 refine⟨fun x hx=>?_,fun x hx y hy=>?_,fun r hr hv=>?_⟩
 ·rcases p.new x hx with h1|h1
  ·obtain⟨r,h2,h3⟩:=h.new x h1
   exact⟨r,by simp[h2],h3⟩
  ·exact⟨a,by simp,ha,h1⟩
 ·rcases p.next x hx with h1|h1
  ·exact p.A2 y (h.next x h1 y hy)
  ·exact h1 y hy
 ·rcases V3.1 hr with hr|hr
  ·exact p.A2 r (h.done r hr hv)
  ·rw[VX] at hr;subst hr;exact p.here
theorem O7.skip {succ:α→List α} {V T:α→Prop} {l:List α} {a:α} (h:O7 succ V T l) (ha: ¬V a):O7 succ V T (l++ [a]):=by
 refine⟨fun x hx=>?_,h.next,fun r hr hv=>?_⟩
 ·obtain⟨r,h2,h3⟩:=h.new x hx
  exact⟨r,by simp[h2],h3⟩
 ·rcases V3.1 hr with hr|hr
  ·exact h.done r hr hv
  ·rw[VX] at hr;subst hr;exact absurd hv ha
theorem O7.iff {succ:α→List α} {V T:α→Prop} {l:List α} (h:O7 succ V T l) (x:α):T x↔ ∃r∈l,V r∧ky succ r x:=by
 refine⟨h.new x,fun⟨r,h1,h2,h3⟩=>?_⟩
 have key: ∀{a b:α},ky succ a b→T a→T b:=by
  intro a b hr
  induction hr with
  |refl=>exact id
  |step _ hc ih=>exact fun ha=>h.next _ (ih ha) _ hc
 exact key h3 (h.done r h1 h2)
end Go.Re
namespace Go.Proofs.YtflegjieadkonaaGreatDoor
open Go Go.Al
set_option maxRecDepth 10000
section
variable {r t:aw} (hh:t.head=r.head) (hb: ∀x,x∈t.body↔x∈r.body)
include hh hb
end
section
variable {r t:aw} (hh:t.head=r.head) (hb: ∀x,x∈t.body↔x∈r.body)
include hh hb
end
structure VD (r t u:aw) (i k:Int):Prop where
 U3: ∀x∈ec (aG (bG r)),x∈ec (aG (aD r))
 Ua: ∀x∈ec (aG (mW r)),x∈ec (aG (bG r))
 outer:ec (aG (aD t))=ec (aG (aD r))
 lim:ec (aG (bG t))=ec (aG (bG r))
 plain:ec (aG (mW t))=ec (aG (mW r))
 loc:vw t i=vw r k
 vw: ∀x∈vw r k,x∉ec (aG (aD r))
 more: ∀x∈ec (aG (bG r)),x∈ec (aG (bG u))
 hasX:Rs [88]∈ec (aG (bG u))
end Go.Proofs.YtflegjieadkonaaGreatDoor
namespace Go.Proofs.YtflegjieadkonaaGreatDoor
open Go Go.Al
set_option maxRecDepth 10000
theorem qN {n sz:Nat} {es:List (List PV)} (h:es.all (bz n)=true):(AO.row sz es).low n:=fun _ e he=>Wl.1 h e (Wj he)
def ta:List IV→List IV→Prop
 | [],[]=>True
 |p::r,q::s=>kB p q∧ta r s
 |_,_=>False
theorem ta.length: ∀{a b:List IV},ta a b→a.length=b.length
 | [],[],_=>rfl
 |_::_,_::_,h=>congrArg (· +1) (ta.length h.2)
 | [],_::_,h=>h.elim
 |_::_,[],h=>h.elim
theorem ta.get: ∀{a b:List IV},ta a b→ ∀(j:Nat) (q:IV),b[j]? =some q→ ∃p,a[j]? =some p∧kB p q
 | [],[],_,j,q,h=>by simp at h
 |p::r,q0::s,hh,j,q,h=>by
  cases j with
  |zero=>simp at h;subst h;exact⟨p,rfl,hh.1⟩
  |succ j=>simpa using ta.get hh.2 j q (by simpa using h)
 | [],_::_,hh,_,_,_=>hh.elim
 |_::_,[],hh,_,_,_=>hh.elim
def sP (i sz n:Nat):PV→Bool
 | .iv _=>true
 | .sl j off len s=>bif Wd j i then Wd s sz&&X0 (off+len) n else true
 |_=>false
theorem Bz {i sz n:Nat} {p:PV} (h:sP i sz n p=true):p.bW i sz n:=by
 cases p with
 |iv=>trivial
 |sl j off len s=>
  simp only[sP] at h;show if j=i then s=sz∧off+len≤n else True;split
  ·rename_i e
   subst e;simp only[Nat.beq_refl,cond_true,Wc] at h;exact⟨V7 h.1,VI h.2⟩
  ·trivial
 |_=>cases h
theorem rE {i sz n:Nat}: ∀{l:List PV},l.all (sP i sz n)=true→fD i sz n l
 | [],_=>trivial
 |p::r,h=>by
  rw[List.all_cons,Wc] at h;exact⟨Bz h.1,rE h.2⟩
def rO (i sz n:Nat):AH→Bool
 | []=>true
 |(_,none)::r=>rO i sz n r
 |(_,some (.cells cs _))::r=>cs.all (sP i sz n)&&rO i sz n r
 |(_,some (.row _ es))::r=>(es.all fun e=>e.all (sP i sz n))&&rO i sz n r
 |_::_=>false
theorem dL {i sz n:Nat}: ∀{h:AH},rO i sz n h=true→h.xg i sz n
 | [],_=>trivial
 |(_,none)::r,h=>dL (h:=r) h
 |(_,some (.cells cs _))::r,h=>by
  simp only[rO,Wc] at h
  exact⟨rE h.1,dL h.2⟩
 |(_,some (.row _ es))::r,h=>by
  simp only[rO,Wc] at h
  exact⟨fun e he=>rE (Wl.1 h.1 e he),dL h.2⟩
 |(_,some (.bx _ _))::r,h=>by simp[rO] at h
 |(_,some .ej)::r,h=>by simp[rO] at h
 |(_,some (.map ..))::r,h=>by simp[rO] at h
 |(_,some (.bt ..))::r,h=>by simp[rO] at h
 |(_,some (.dt ..))::r,h=>by simp[rO] at h
end Go.Proofs.YtflegjieadkonaaGreatDoor
namespace Go.Al
theorem dU {P:Program} {nt:Nat} {Q:AQ} {k:List KI} {s:AS} {c:Code} (i:Nat) {sz:Nat} {es:List (List PV)} (el:Nat→List IV) (hi:s.h.get i=some (.row sz es)) (hel: ∀k e,es[k]? =some e→e=(el k).map .iv)
  (hf:s.f.oq i sz es.length) (hh:s.h.xg i sz es.length) (h:GO P nt (.code c::k) Q ⟨s.f.fh i sz el,(i,none)::s.h.jf i sz el,s.nx⟩):GO P nt (.code c::k) Q s:=by
 intro M N a w hfit;obtain⟨M',h1,h2,h4⟩:=vM hfit.1 hi hel
 have hg: ∀j o,AH.get ((i,none)::s.h.jf i sz el) j=some o→ ∃p,AH.get ((i,none)::s.h) j=some p∧s.h.get j=some p∧o=p.jf i sz el:=by
  intro j o hj;obtain⟨g1,g2⟩:=a8 j o hj;rw[AH.pK,VW] at g2;obtain⟨p,g3,g4⟩:=g2;exact⟨p,by rw[AH.ay,if_neg g1];exact g3,g3,g4.symm⟩
 have hE:Ext M N (· <s.nx) s.h w M' N (· <s.nx) ((i,none)::s.h.jf i sz el) w:=⟨h1.os,h1.tape,h1.output,h1.size,h1.gd,h1.nZ,h1.gm,h1.nm,h1.ule,fun j o hj hre=>by
  obtain⟨p,g1,_,rfl⟩:=hg j o hj;rw[AO.nT] at hre
  exact h1.fN j p g1 hre⟩
 have hR:Rel M' N (· <s.nx) ((i,none)::s.h.jf i sz el) w:=by
  refine⟨h2.du,fun j o hj=>?_,fun j o hj hre=>?_,fun j o hj=>?_,fun j k o p hj hk ho hp=>?_⟩
  ·obtain⟨p,g1,_,rfl⟩:=hg j o hj
   exact h2.used j p g1
  ·obtain⟨p,g1,_,rfl⟩:=hg j o hj
   rw[AO.nT] at hre;exact h2.dz j p g1 hre
  ·obtain⟨p,g1,g2,rfl⟩:=hg j o hj
   cases p with
   |cells cs T0=>
    obtain⟨c,T,q1,q2,q3,q4,q5⟩:=hfit.1.obj j _ g2;have hok:=AH.om hh j _ g2;refine⟨c,T,q1,q2,by simpa[gi] using q3,fun k q hq=>?_,q5⟩;rw[gi,VV,VW] at hq;obtain⟨q0,hq0,rfl⟩:=hq
    exact h4 _ _ (q4 k q0 hq0) (gz hok k q0 hq0)
   |row s2 es2=>
    have hok:=AH.om hh j _ g2;rcases hfit.1.obj j _ g2 with rfl|⟨q0,c,T,q1,q2,q3,q4,q5⟩
    ·exact .inl rfl
    ·refine .inr ⟨q0,c,T,q1,q2,by simpa using q3,fun k e he=>?_,fun k e j2 p he hp=>?_⟩
     ·rw[VV,VW] at he
      obtain⟨e0,he0,rfl⟩:=he;rw[gi,Wr];exact q4 k e0 he0
     ·rw[VV,VW] at he
      obtain⟨e0,he0,rfl⟩:=he;rw[gi,VV,VW] at hp;obtain⟨p0,hp0,rfl⟩:=hp
      exact h4 _ _ (q5 k e0 j2 p0 he0 hp0) (gz (hok e0 (Wj he0)) j2 p0 hp0)
   |bx=>exact h2.obj j _ g1
   |ej=>exact h2.obj j _ g1
   |map=>exact h2.obj j _ g1
   |bt=>exact h2.obj j _ g1
   |dt=>exact h2.obj j _ g1
  ·obtain⟨o',g1,_,rfl⟩:=hg j o hj
   obtain⟨p',g2,_,rfl⟩:=hg k p hk;rw[AO.nT] at ho hp;exact h2.inj j k o' p' g1 g2 ho hp
 have hf':Fits M' N ⟨s.f.fh i sz el,(i,none)::s.h.jf i sz el,s.nx⟩ nt a w:=⟨hR,fun d=>by
  rw[AF.je];exact h4 _ _ (hfit.2.1 d) (AF.kQ hf d),hfit.2.2⟩
 exact AW.then h hf' fun e a2 w2 M2 N2 s2 hx2 hf2 hr2=>⟨M2,N2,s2,hE.trans hx2,hf2,hr2⟩
end Go.Al
namespace Go.Proofs.YtflegjieadkonaaGreatDoor
open Go Go.Al
set_option maxRecDepth 10000
theorem kK: ∀(l:List Lit) (x:Lit),Lit.aB (l++ [x])=Lit.aB l+x.size
 | [],x=>by simp[Lit.aB]
 |y::r,x=>by simp only[W7,Lit.aB,kK r x];omega
theorem zt (p:Prog): ∀i,∀d∈nH p i,¬d.1=0
 |0,d,h=>by cases h
 |i+1,d,h=>by
  rw[nH] at h;rcases V3.1 h with h|h
  ·exact zt p i d h
  ·split at h
   ·cases h
   ·rename_i g
    rw[VX] at h;subst h;exact g
theorem zn (p:Prog): ∀i,∀d∈od p i,¬d.1=0
 |0,d,h=>by cases h
 |i+1,d,h=>by
  rw[od] at h;rcases V3.1 h with h|h
  ·exact zn p i d h
  ·split at h
   ·cases h
   ·rename_i g
    rw[VX] at h;subst h;exact g
theorem Bm (p:Prog): ∀d∈iE p,¬d.1=0:=fun d h=>by
 rcases V3.1 h with h|h
 ·exact zt p _ d h
 ·exact zn p _ d h
theorem sK (p:Prog):(bm p).1=0↔iE p=[]:=by
 unfold bm
 cases h:iE p with
 |nil=>exact⟨fun _=>rfl,fun _=>rfl⟩
 |cons d l=>exact⟨fun e=>absurd e (Bm p d (by rw[h];exact V8)),fun e=>nomatch e⟩
theorem rB (p:Prog): ∀n,od p n=[]↔ ∀i,i<n→(qF p i).1=0
 |0=>⟨fun _ i h=>absurd h (X7 i),fun _=>rfl⟩
 |n+1=>by
  rw[od,XT,rB p n];constructor
  ·rintro⟨h1,h2⟩ i hi
   rcases Yy.1 hi with h|h
   ·exact h1 i h
   ·subst h
    by_cases g:(qF p i).1=0
    ·exact g
    ·rw[if_neg g] at h2;cases h2
  ·intro h
   exact⟨fun i hi=>h i (by omega),if_pos (h n (by omega))⟩
theorem bp {α:Type} [Inhabited α] {l:List α} {i:Nat} (hi:i<l.length):l.getD i default∈l:=by rw[VP,VS hi];exact WI hi
structure hP (p:Prog):Prop where
 nodup:(p.aS.map Decl.name).Nodup
 len:p.aS.length≤64
 zN: ∀r∈p.rules,r.head.rel∈p.aS.map Decl.name
 lits: ∀r∈p.rules,∀l∈r.body,∀t∈named l,t∈p.aS.map Decl.name
 flat: ∀r∈p.rules,∀l∈r.body,l.kind=4→ ∀x∈l.ar,x.kind≠4
theorem wW (p:Prog): ∀n,nH p n=[]→ ∀i,i<n→fo p i=0
 |0,_,i,h=>absurd h (X7 _)
 |n+1,h,i,hi=>by
  rw[nH] at h;obtain⟨h1,h2⟩:=XT.1 h;rcases Yy.1 hi with h3|h3
  ·exact wW p n h1 i h3
  ·subst h3
   exact Decidable.byContradiction fun hc=>by rw[if_neg hc] at h2;cases h2
theorem p4 {d:Decl} {i k:Int} (h:nI d i k=0): ¬i≥64∧ ¬k>0:=by
 unfold nI at h;split at h
 ·cases h
 ·split at h
  ·cases h
  ·rename_i h2
   split at h
   ·cases h
   ·rename_i h3;exact⟨fun g=>h2 (.inl g),h3⟩
theorem rR {α:Type} [Inhabited α]: ∀(n:Nat) (l:List α),l.length=n→(∀i,i<l.length→l.getD i default∉l.take i)→l.Nodup
 |0,l,hn,_=>by rw[XP.1 hn];exact WB
 |n+1,l,hn,h=>by
  have hd:l=l.take n++ [l.getD n default]:=by rw[←aY (by omega),VY (by omega)]
  have h1:=rR n (l.take n) (by rw[Xc];omega) fun i hi=>by
   rw[Xc] at hi;have:=h i (by omega);rw[List.take_take,Nat.min_eq_left (by omega),VP,WN,if_pos (by omega),←VP];exact this
  rw[hd,W8];refine⟨h1,by simp,fun a ha b hb e=>?_⟩;rw[VX] at hb;subst e;subst hb;exact h n (by omega) ha
theorem wT {s:ah}: ∀(l:List Decl) (m:DM),eI .str (l.foldl iw m) s=true→s∈m.map We∨s∈l.map Decl.name
 | [],m,h=> .inl (xy.1 h)
 |d::l,m,h=>by
  rw[Wm] at h;rcases wT l _ h with h1|h1
  ·unfold iw at h1
   split at h1
   ·exact .inl h1
   ·rename_i h2
    rw[df (fun g=>h2 (xy.2 g))] at h1;rcases V3.1 h1 with h3|h3
    ·exact .inl h3
    ·rw[VX] at h3;subst h3;exact .inr V8
  ·exact .inr (V2 _ h1)
theorem Kf {p:Prog} {a:Atom} (h:s7 p a=false):a.rel∈p.aS.map Decl.name:=by
 unfold s7 at h;rw[Xg] at h;rcases wT p.aS [] h with h1|h1
 ·cases h1
 ·exact h1
theorem kU {r:aw} {e:Int} (he:e≠0) {f:Int→Bool} {k:dE} (h:(lT r e f k).1=0):(∀lit∈gn r.body.length,f lit=false)∧k.1=0:=by
 unfold lT at h;split at h
 ·exact absurd h he
 ·rename_i h1
  refine⟨fun lit hl=>?_,h⟩;have:=W3.1 h1 lit hl;simpa using this
theorem yn {p:Prog} {r:aw} {n:Int} (h:(oc p r n).1=0):(vv p r).1=0:=by
 unfold oc at h;split at h
 ·cases h
 ·split at h
  ·cases h
  ·split at h
   ·cases h
   ·split at h
    ·cases h
    ·split at h
     ·cases h
     ·exact h
theorem JC (n:Nat):(-1:Int)∈gn n:=Wo.2 ⟨0,by simp,by simp⟩
theorem zC {n i:Nat} (h:i<n):(i:Int)∈gn n:=Wo.2 ⟨i+1,by simp;omega,by simp⟩
theorem A5 {l:Lit} {t:ah} (hf:l.kind=4→ ∀x∈l.ar,x.kind≠4) (h:t∈named l): ∃a∈(if l.kind=4 then l.ar else[l]).flatMap cq,a.rel=t:=by
 rw[xj l hf] at h;unfold yA at h;split at h
 ·rename_i hk
  rw[VX] at h;have h4: ¬l.kind=4:=by omega
  refine⟨l.atom,?_,h.symm⟩;rw[if_neg h4,WY];exact⟨l,XD _,by rw[cq,if_pos hk];exact XD _⟩
 ·split at h
  ·rename_i h4
   obtain⟨x,hx,rfl⟩:=Wo.1 h;obtain⟨h5,h6⟩:=Wi.1 hx;refine⟨x.atom,?_,rfl⟩;rw[if_pos h4,WY];exact⟨x,h5,by rw[cq,if_pos (of_decide_eq_true h6)];exact XD _⟩
  ·cases h
theorem fw {p:Prog} (h:(bm p).1=0):hP p:=by
 have hF:=(sK p).1 h;unfold iE at hF;obtain⟨h1,h2⟩:=XT.1 hF;have h1:=wW p _ h1;have h2:=(rB p _).1 h2
 have hlook: ∀r∈p.rules,(vv p r).1=0:=by
  intro r hr;obtain⟨i,hi,rfl⟩:=Xh.1 hr;have:=yn (h2 i hi);rwa[VP,VS hi] at this
 have habs: ∀r∈p.rules,∀lit∈gn r.body.length,∀a∈dZ r lit,a.rel∈p.aS.map Decl.name:=by
  intro r hr lit hl a ha;have:=(kU (by decide) (hlook r hr)).1 lit hl;exact Kf (by simpa using WA.1 this a ha)
 have hflat: ∀r∈p.rules,∀l∈r.body,l.kind=4→ ∀x∈l.ar,x.kind≠4:=by
  intro r hr l hl h4 x hx;obtain⟨i,hi,rfl⟩:=Xh.1 hl;have:=(kU (by decide) (kU (by decide) (kU (by decide) (hlook r hr)).2).2).1 _ (zC hi);have e:aq r (i:Int)=r.body[i]:=by unfold aq;simp[VP,hi]
  unfold kL at this;rw[if_neg (by omega),e,if_pos h4,Xf] at this;simpa using WA.1 this.1 x hx
 refine⟨rR _ _ rfl fun i hi hm=>?_,?_,fun r hr=>?_,fun r hr l hl t ht=>?_,hflat⟩
 ·rw[Wr] at hi
  have:=(p4 (h1 i hi)).2;rw[bu] at this;have h3:nX (eT p i) (p.aS.getD i default).name=0:=by omega
  rw[pT] at h3;apply h3;unfold eT;rw[VP,VV,VS hi,←List.map_take] at hm;rw[VP,VS hi];exact hm
 ·refine Ww fun hc=>?_
  have:=(p4 (h1 64 hc)).1;omega
 ·exact habs r hr (-1) (JC _) r.head (by unfold dZ;simp)
 ·obtain⟨i,hi,rfl⟩:=Xh.1 hl
  obtain⟨a,ha,rfl⟩:=A5 (hflat r hr _ hl) ht;refine habs r hr _ (zC hi) a ?_;have e:aq r (i:Int)=r.body[i]:=by unfold aq;simp[VP,hi]
  unfold dZ vy;rw[if_neg (by omega),e];exact ha
theorem hP.aC {p:Prog} (h:hP p) {x:ah×ah×Nat} (hx:x∈aC p):x.1∈p.aS.map Decl.name∧x.2.1∈p.aS.map Decl.name∧0<x.2.2:=by
 simp only[_root_.Go.Proofs.YtflegjieadkonaaGreatDoor.aC,WY,Wo] at hx;obtain⟨r,hr,l,hl,t,ht,rfl⟩:=hx;refine⟨h.zN r hr,h.lits r hr l hl t ht,?_⟩;show 0<iD l;unfold iD;split<;>omega
abbrev GM:=List ((KC.str).K×Option NM)
def AZ:Option NM→IV
 |none=> .v (.map none)
 |some r=>nY r
abbrev mG (m:GM):IV:= .dG .str AZ none (.map none) m
def y4 (row:NM) (t:ah) (how:Int):NM:=bQ .str row t (max (bF .str row t 0) how)
def bZ (hs:List (ah×ah×Nat)) (a:ah):NM:=hs.foldl (fun row x=>if x.1=a then y4 row x.2.1 x.2.2 else row) []
def ba (p:Prog) (hs:List (ah×ah×Nat)):GM:=p.aS.map fun r=>(r.name,some (bZ hs r.name))
def su (p:Prog):IV:=if(bm p).1=0 then mG (ba p (aC p)) else .v (.map none)
theorem j7 (hs:List (ah×ah×Nat)) (x:ah×ah×Nat) (a:ah):bZ (hs++ [x]) a=if x.1=a then y4 (bZ hs a) x.2.1 x.2.2 else bZ hs a:=by
 simp[bZ,Xe]
theorem zq (hs:List (ah×ah×Nat)) (a b:ah):bF .str (bZ hs a) b 0=(gD hs a b:Int):=by
 induction hs using iP with
 |h0=>rfl
 |h1 hs x ih=>
  rw[j7,JR];by_cases h:x.1=a
  ·rw[if_pos h,y4,fZ]
   by_cases h2:x.2.1=b
   ·rw[if_pos h2,if_pos ⟨h,h2⟩,h2,ih];omega
   ·rw[if_neg h2,if_neg (fun g=>h2 g.2),ih]
  ·rw[if_neg h,if_neg (fun g=>h g.1),ih]
theorem mE (hs:List (ah×ah×Nat)) (a:ah):((bZ hs a).map We).Nodup∧ ∀b:ah,b∈(bZ hs a).map We↔ ∃k,(a,b,k)∈hs:=by
 induction hs using iP with
 |h0=>exact⟨WB,fun b=>by simp[bZ]⟩
 |h1 hs x ih=>
  obtain⟨ih1,ih2⟩:=ih;obtain⟨y,z,k⟩:=x;rw[j7];by_cases h:y=a
  ·rw[if_pos h,y4]
   by_cases h2:z∈(bZ hs a).map We
   ·rw[oA h2]
    refine⟨ih1,fun b=>?_⟩;rw[ih2];constructor
    ·rintro⟨j,hj⟩;exact⟨j,Wp _ hj⟩
    ·rintro⟨j,hj⟩
     rcases V3.1 hj with hj|hj
     ·exact⟨j,hj⟩
     ·rw[VX] at hj;cases hj;exact(ih2 z).1 h2
   ·rw[df h2]
    refine⟨W8.2 ⟨ih1,by simp,fun u hu v hv e=>?_⟩,fun b=>?_⟩
    ·rw[VX] at hv;subst e;subst hv;exact h2 hu
    ·rw[V3,ih2,VX]
     constructor
     ·rintro(⟨j,hj⟩|rfl)
      ·exact⟨j,Wp _ hj⟩
      ·exact⟨k,Xk _ (by rw[h];exact XD _)⟩
     ·rintro⟨j,hj⟩
      rcases V3.1 hj with hj|hj
      ·exact .inl ⟨j,hj⟩
      ·rw[VX] at hj;cases hj;exact .inr rfl
  ·rw[if_neg h]
   refine⟨ih1,fun b=>?_⟩;rw[ih2];constructor
   ·rintro⟨j,hj⟩;exact⟨j,Wp _ hj⟩
   ·rintro⟨j,hj⟩
    rcases V3.1 hj with hj|hj
    ·exact⟨j,hj⟩
    ·rw[VX] at hj;cases hj;exact absurd rfl h
theorem Cr (hs:List (ah×ah×Nat)) (a:ah):(bZ hs a).length≤hs.length:=by
 induction hs using iP with
 |h0=>exact VZ _
 |h1 hs x ih=>
  rw[j7,VL,WM];split
  ·have:=rK (bZ hs a) x.2.1 (max (bF .str (bZ hs a) x.2.1 0) x.2.2)
   unfold y4;omega
  ·omega
def aQ (p:Prog) (a:ah):List ah:=(ns p).filter (eg p a)
theorem jy {p:Prog} (h:hP p) (a:ah):c9 ((bZ (aC p) a).map We)=aQ p a:=by
 refine kI (dK (mE _ _).1) (List.Pairwise.filter _ (dK h.nodup)) fun b=>?_;rw[cJ,(mE _ _).2,aQ,Wi,ns,cJ,eg,decide_eq_true_eq];constructor
 ·rintro⟨k,hk⟩
  have h1:=h.aC hk;refine⟨h1.2.1,?_⟩;have:=Dv hk;have h2:0<k:=h1.2.2;omega
 ·rintro⟨_,h1⟩
  rcases zV (aC p) a b with h2|h2
  ·exact absurd h2 h1
  ·exact⟨_,h2⟩
theorem Df (p:Prog) (hs:List (ah×ah×Nat)) {a:ah} (h:a∈p.aS.map Decl.name):bF .str (ba p hs) a none=some (bZ hs a):=by
 unfold ba
 revert h
 generalize p.aS=l
 induction l with
 |nil=>intro h;cases h
 |cons d l ih=>
  intro h;simp only[V6,bF];by_cases e:d.name=a
  ·rw[if_pos e,e]
  ·rw[if_neg e]
   rw[V6,V4] at h;exact ih (h.resolve_left fun g=>e g.symm)
theorem yM (p:Prog) (hs:List (ah×ah×Nat)):(ba p hs).map We=p.aS.map Decl.name:=by
 simp[ba]
end Go.Proofs.YtflegjieadkonaaGreatDoor
namespace Go.Proofs.YtflegjieadkonaaGreatDoor
open Go Go.Al
set_option maxRecDepth 10000
theorem qh {b:List Lit} {i:Nat} (h:i<b.length):fA (b.take (i+1))=fA (b.take i)++named (b.getD i default):=by
 rw[lP,lP,aY h,XM];simp
mutual
theorem ke: ∀l:Lit,(named l).length≤l.size
 | .mk k a op le ri af av ao b at_=>by
  have:=nM b;unfold named Lit.size;split
  ·simp;omega
  ·split
   ·omega
   ·simp
theorem nM: ∀l:List Lit,(fA l).length≤Lit.aB l
 | []=>VZ _
 |l::r=>by
  have h1:=ke l;have h2:=nM r;simp only[fA,Lit.aB,VL];omega
end
theorem A4 (b:List Lit) (i:Nat):(fA (b.take i)).length≤Lit.aB b:=by
 have h1:=nM (b.take i)
 have h2: ∀(b:List Lit) (i:Nat),Lit.aB (b.take i)≤Lit.aB b:=by
  intro b
  induction b with
  |nil=>intro i;simp[Lit.aB]
  |cons x r ih=>
   intro i
   cases i with
   |zero=>simp[Lit.aB]
   |succ i=>have:=ih i;simp only[W4,Lit.aB];omega
 exact Wh h1 (h2 b i)
def R2 (n:Nat):Prop:= ∀l:Lit,l.size≤n→Pure Tryz.prog 90 [ag l.c] (.iv (strs (named l)))
theorem ov (l:Lit):named l=if l.kind=1∨l.kind=2 then[l.atom.rel] else if l.kind=4 then fA l.ar else[]:=by cases l;rfl
theorem Cl: ∀n:Nat,n≤100000000000→R2 n
 |0,_=>fun l h=>absurd l.size_pos (by omega)
 |n+1,hn=>fun l h=>by
  have hsz:=l.size_eq;refine Al.Pure.le (aa:=[ag l.c]) (args:=[ag l.c1]) ?_ ⟨l.zE,trivial⟩;refine az ae Tryz.func90 rfl (by decide) Tryz.ntmps90 rfl (by simp) rfl ?_;refine gA rfl ?_;refine VJ (fun k1=>?_) (fun k1=>?_)
  ·have k1:l.kind=1:=by simpa using k1
   rw[ov,if_pos (.inl k1)];refine gA rfl (eU (by first|exact .inr rfl|exact .inl rfl) rfl rfl (rfl) (rfl))
  have k1: ¬l.kind=1:=by simpa using k1
  refine gA rfl ?_;refine VJ (fun k2=>?_) (fun k2=>?_)
  ·have k2:l.kind=2:=by simpa using k2
   rw[ov,if_pos (.inr k2)];refine gA rfl (eU (by first|exact .inr rfl|exact .inl rfl) rfl rfl (rfl) (rfl))
  have k2: ¬l.kind=2:=by simpa using k2
  rw[ov,if_neg (by rintro(g|g);exact k1 g;exact k2 g)];refine gA rfl ?_;refine VJ (fun k3=>?_) (fun k3=>?_);rotate_left
  ·have k3: ¬l.kind=4:=by simpa using k3
   rw[if_neg k3];refine gA rfl (au (by first|exact .inr rfl|exact .inl rfl) rfl ?_);exact .nil _ _
  have k3:l.kind=4:=by simpa using k3
  rw[if_pos k3];refine gA rfl ?_;refine jI 3 1 rfl ?_
  refine aL 0 l.ar.length (V1 _) (fun i=>⟨[(3, .sl 2 0 (fA (l.ar.take i)).length 1),(19, .iv (lits l.ar)),(20,pI l.ar.length),(21,pI i)],[(2,some (a7 1 (fA (l.ar.take i)) ch))],3⟩) (fun _=>True) [1] trivial
   (wk rfl rfl rfl ⟨.refl _,rfl, .refl _,rfl, .refl _,rfl, .refl _,rfl,trivial⟩ (hR rfl rfl rfl trivial) rfl) fun i hi _=>?_
  have hle:=A4 l.ar i;have hal:=Lit.aI l.ar;refine gA rfl ?_;refine VJ (fun h1=>?_) (fun h1=>?_)
  ·have h1:i<l.ar.length:=by simpa using h1
   have hn1:=Lit.bS l.ar i h1;have hn2:=ke (l.ar.getD i default);refine gA rfl (aj (Cl n (by omega) (l.ar.getD i default) (by omega)) rfl rfl rfl rfl rfl rfl ?_);refine gA rfl ?_;exact⟨h1,trivial,[4],wk rfl rfl rfl ⟨.row (by rw[qh h1,VL]),rfl, .refl _,rfl, .refl _,rfl, .refl _,rfl,trivial⟩ (hR rfl (by rw[u1,qh h1,VN]) rfl trivial) rfl⟩
  ·have h1:l.ar.length≤i:=by simpa using h1
   rw[VY h1];refine gA rfl (eU (by first|exact .inr rfl|exact .inl rfl) rfl rfl (rfl) (rfl))
theorem zk (l:Lit) (h:l.size≤100000000000):Pure Tryz.prog 90 [ag l.c] (.iv (strs (named l))):=Cl l.size h l (VZ _)
end Go.Proofs.YtflegjieadkonaaGreatDoor
namespace Go.Al
section
variable {P:Program} {ty:Ty} {nt:Nat} {s:AS}
theorem sc {M:Mem} {N:Nm} {a:Act} {w:World} (hf:Fits M N s nt a w) {x:Operand} {k:IntKind} {n:Int} (h:ev s.f x= .iv (.v (.int k n))):a.eval x= .int k n:=by
 have hi:=aV hf.2.1 x;rw[h] at hi;generalize a.eval x=v at hi
 cases hi with
 |iv _ _ hi=>cases hi with
  |v=>rfl
theorem Ud (hty:bP P ty) {o:Oper} {t u:TypeId} {l c:Operand} (ho:o.op= .makeSlice t l c) {e eu:aA} (ht:ty t=some e) (hk:e.k= .ai (.slice u)) (hu:ty u=some eu)
  {n m sz:Nat} {kl kc:IntKind} {ml nc:Int} (hl:ev s.f l= .iv (.v (.int kl ml))) (hc:ev s.f c= .iv (.v (.int kc nc))) (hml:ml=(m:Int)) (hnc:nc=(n:Int)) (hn:0<n) (hn2:n≤100000000000) (hb:eu.bytes*n≤281474976710656) (hsz:eu.size=sz) (hz1:eu.zero.cells.size=sz) (hs0:0<sz)
  {z:List PV} (hz:z=bV eu.zero) {p:PV} (hpm:(m=0∧p= .sl s.nx 1 0 sz)∨(m=n∧p= .sl s.nx 0 n sz))
  {s':AS} (hp:putDst nt o p (newObj s (.row sz (XZ n z)))=some s'):OT P nt o s (fun t=>t=s'):=by
 refine OT.value hp fun M N a w hf=>?_;subst hz hsz hml hnc;obtain⟨⟨ii,hii,his,hib,hiz⟩,_⟩:=hty u _ hu
 have hut:P.underlying t=some (.slice u):=by
  have:=(hty t _ ht).2.1;rw[hk] at this;exact this.1
 have hmn:m≤n:=by rcases hpm with⟨h,_⟩|⟨h,_⟩<;>omega
 have hrun:=run_make w t u ii eu.zero hut hii hiz kl kc (m:Int) (n:Int) (by omega) (by omega) (by rw[hib];omega) (by omega);rw[VQ,VQ,his] at hrun;have hzl:(bV eu.zero).length=eu.size:=by rw[(dV (M:=M) (N:=N) (U:=(· <s.nx)) eu.zero).1,hz1]
 have hrep: ∀(k:Nat) (e:List PV),(XZ n (bV eu.zero))[k]? =some e→k<n∧e=bV eu.zero:=by
  intro k e he;rw[YA] at he;split at he
  ·exact⟨by assumption,by simpa using he.symm⟩
  ·cases he
 obtain⟨N',h1,h2,h8,h9,h10⟩:=hf.1.alloc (.cells (madeCells eu.zero.cells (n*eu.size)) u) (.row eu.size (XZ n (bV eu.zero))) (n*eu.size) (fun N' g1 g2 g3=>
  .inr ⟨hs0,_,u,by rw[g1];exact heap_alloc_new w _,by rw[size_madeCells,g2],by rw[size_madeCells,List.length_replicate];exact VZ _,fun k e he=>by rw[(hrep k e he).2,hzl],fun k e j p he hj=>by
   obtain⟨hkn,rfl⟩:=hrep k e he;have hjs:j<eu.size:=by rw[←hzl];exact(VO.1 hj).1
   have hlt:k*eu.size+j<n*eu.size:=by
    have:(k+1)*eu.size≤n*eu.size:=Wt _ hkn;rw[WX] at this;omega
   have h7:(madeCells eu.zero.cells (n*eu.size)).getD (k*eu.size+j) undef=eu.zero.cells.getD j undef:=by
    have hx:(YN (n*eu.size))[k*eu.size+j]? =some (k*eu.size+j):=by simp[hlt]
    have hm:(k*eu.size+j) % eu.zero.cells.size=j:=by rw[hz1,Nat.add_comm,Nat.add_mul_mod_self_right,Nat.mod_eq_of_lt hjs]
    rw[madeCells,VK,XS,hx];simp only[W1,W6,hm];rw[VK,getElem!_pos eu.zero.cells j (by omega),Wx (by omega)];rfl
   rw[h7];exact(dV eu.zero).2 j p hj⟩)
 refine⟨.slice (some ⟨w.heap.size,0,none⟩) m n,_,M,N',?_,h9,dh hf h9 h10,?_⟩
 ·simp only[execOp,ho,sc hf hl,sc hf hc]
  rw[Sem.run_bind,hrun];rfl
 ·have hnx:(newObj s (.row eu.size (XZ n (bV eu.zero)))).nx=s.nx+1:=by cases s;rfl
  rw[hnx];have hmax:n≤maxLen:=by simp only[maxLen];omega
  rcases hpm with⟨rfl,rfl⟩|⟨rfl,rfl⟩
  ·have:=VR.sle (M:=M) (N:=N') (U:=(· <s.nx+1)) s.nx eu.size n (by omega) hmax (by rw[h2])
   rw[h1] at this;exact this
  ·have:=VR.sl (M:=M) (N:=N') (U:=(· <s.nx+1)) s.nx 0 m eu.size m (by omega) hn (VZ _) hmax (by rw[h2,Wn])
   rw[h1,XF] at this;exact this
theorem Rv (hty:bP P ty) {o:Oper} {t u:TypeId} {l c:Operand} (ho:o.op= .makeSlice t l c) {e eu:aA} (ht:ty t=some e) (hk:e.k= .ai (.slice u)) (hu:ty u=some eu)
  {sz:Nat} (el:Nat→List IV) {kl kc:IntKind} {ml nc:Int} (hl:ev s.f l= .iv (.v (.int kl ml))) (hc:ev s.f c= .iv (.v (.int kc nc))) (hml:ml=0) (hnc:nc=0)
  {s':AS} (hp:putDst nt o (.iv (.cK sz 0 el)) (newObj s (.row sz []))=some s'):OT P nt o s (fun t=>t=s'):=by
 refine OT.value hp fun M N a w hf=>?_;subst hml hnc;obtain⟨⟨ii,hii,his,hib,hiz⟩,_⟩:=hty u _ hu
 have hut:P.underlying t=some (.slice u):=by
  have:=(hty t _ ht).2.1;rw[hk] at this;exact this.1
 have hrun:=run_make w t u ii eu.zero hut hii hiz kl kc 0 0 (by omega) (by omega) (by omega) (by omega);obtain⟨N',h1,h2,h8,h9,h10⟩:=hf.1.alloc (.cells (madeCells eu.zero.cells ((0:Int).toNat*ii.size)) u) (.row sz []) 0 (fun N' g1 g2 g3=> .inl rfl);refine⟨.slice (some ⟨w.heap.size,0,none⟩) 0 0,_,M,N',?_,h9,dh hf h9 h10, .iv _ _ (.iC _ _ _ _)⟩;simp only[execOp,ho,sc hf hl,sc hf hc];rw[Sem.run_bind,hrun];rfl
theorem RS (hty:bP P ty) {o:Oper} {t u:TypeId} {x hi:Operand} (ho:o.op= .slice t x none (some hi) none) {e eu:aA} (ht:ty t=some e) (hk:e.k= .ai (.slice u)) (hu:ty u=some eu)
  {i n m sz:Nat} {kc:IntKind} {mi:Int} (hx:ev s.f x= .sl i 0 n sz) (hh:ev s.f hi= .iv (.v (.int kc mi))) (hmi:mi=(m:Int)) (hmn:m≤n) (hn:0<n)
  {p:PV} (hpm:(m=0∧p= .sl i 1 0 sz)∨(0<m∧p= .sl i 0 m sz)) {s':AS} (hp:putDst nt o p s=some s'):OT P nt o s (fun t=>t=s'):=by
 refine OT.value hp fun M N a w hf=>?_;subst hmi
 have hut:P.underlying t=some (.slice u):=by
  have:=(hty t _ ht).2.1;rw[hk] at this;exact this.1
 have hel:P.elem t=u:=by simp[Program.elem,hut]
 have hvx:=aV hf.2.1 x;rw[hx] at hvx;generalize hv:a.eval x=vx at hvx
 cases hvx with
 |mD=>omega
 |sl _ _ _ _ cap hU h0 hl hc hext=>
  have hrun:=run_slice_h (P:=P) (w:=w) t (some ⟨N.aH i,0*sz,none⟩) n cap (by rw[hel];exact hut) kc (m:Int) (by omega) (by omega);rw[hel,bT (hty u _ hu)] at hrun;refine⟨sliced (some ⟨N.aH i,0*sz,none⟩) 0 m cap eu.size,w,M,N,?_, .refl _ _ _ _ _,hf,?_⟩
  ·simp only[execOp,ho,hv,W1,YH,sc hf hh]
   refine bn ?_;rw[run_sliceAt_slice w t _ _ _ _ (by rw[hel];exact hut),hrun];rfl
  ·rcases hpm with⟨rfl,rfl⟩|⟨hm,rfl⟩
   ·have:=VR.sle (M:=M) (N:=N) (U:=(· <s.nx)) i sz cap hU hc (by rw[←hext,Wn])
    simpa[sliced,Addr.add] using this
   ·have:=VR.sl (M:=M) (N:=N) (U:=(· <s.nx)) i 0 m sz cap hU hm (by omega) hc hext
    simpa[sliced,Addr.add] using this
theorem Ka (hty:bP P ty) {o:Oper} {x y:Operand} {t u:TypeId} (ho:o.op= .call ⟨.builtin .append, #[x,y], #[t,t]⟩) {e eu:aA} (ht:ty t=some e) (hk:e.k= .ai (.slice u)) (hu:ty u=some eu)
  {i sz:Nat} {es news:List (List PV)} {py:PV} (hx:ev s.f x= .sl i 1 0 sz) (hi:s.h.get i=some (.row sz es)) (hsz:eu.size=sz) (hroom:news.length≤es.length) (hm:0<news.length)
  (hpy:ev s.f y=py) (hy:Src s.h sz py news) (hone: ∀e∈news,gB e=true)
  {s':AS} (hp:putDst nt o (.sl s.nx 0 news.length sz) (oU s i sz [] news)=some s'):OT P nt o s (fun t=>t=s'):=by
 refine OT.value hp fun M N a w hf=>?_;subst hsz;obtain⟨⟨ii,hii,his,hib,hiz⟩,_⟩:=hty u _ hu
 have hut:P.underlying t=some (.slice u):=by
  have:=(hty t _ ht).2.1;rw[hk] at this;exact this.1
 have hvx:=aV hf.2.1 x;rw[hx] at hvx;have hvy:=aV hf.2.1 y;rw[hpy] at hvy;obtain⟨hnl,ao,c,hyv,hycells⟩:=hy.ok hf hvy
 have hexec: ∀v w',(Builtin.append_ #[t,t] o.type #[a.eval x,a.eval y]).run P w= .ok v w'→(execOp a.eval o).run P w= .ok (.value v) w':=by
  intro v w' h;simp only[execOp,ho,resolve];simp[invoke,builtin,h]
 rw[hyv] at hexec
 have hreal:(AO.row eu.size es).real=true:=by cases es with
  |nil=>exact absurd hroom (by simp only[XH];omega)
  |cons=>rfl
 rcases hf.1.obj i _ hi with rfl|⟨hsz0,cur,T,q1,q2,q3,q4,q5⟩
 ·cases hreal
 generalize a.eval x=vx at hvx hexec
 cases hvx with
 |sl _ _ _ _ _ _ h0=>exact absurd h0 (Yx _)
 |sle _ _ cap hU hc hext=>
  have hcur:cur.size=cap*eu.size:=by rw[q2,←hext]
  have hroom2:news.length≤cap:=by
   have:es.length*eu.size≤cap*eu.size:=by rw[←hcur];exact q3
   have:=Nat.le_of_mul_le_mul_right this hsz0;omega
  obtain⟨b2,off,hao,hcells⟩:=hycells (List.ne_nil_of_length_pos hm);subst hao;obtain⟨vs,hvl,hvc,hvr⟩:=uQ (s:=s) hcells;have hvl2:vs.length=news.length*eu.size:=by rw[hvl,l4 hnl]
  have hfit:vs.length≤cur.size:=by rw[hvl2,hcur];exact Wt _ hroom2
  have hvone: ∀v∈vs,v.oneCell'=true:=by
   intro v hv;obtain⟨j,hj⟩:=WE hv;have hjl:j<news.flatten.length:=by rw[←hvl];exact(VO.1 hj).1
   have hp:=VS hjl;obtain⟨k,e,i',h1,h2,_⟩:=l5 hnl j _ hp;have:=(hvr j _ hp).one (mL (hone e (Wj h1)) i' _ h2);rw[VP,hj] at this;exact this
  have hrun:=j5 (P:=P) (w:=w) t o.type u ii hut hii T (N.aH i) 0 cap cur q1 ⟨b2,off,none⟩ news.length c vs (by rw[hvl2,his]) hvc hvone (by omega) (by rw[his];omega);rw[his] at hrun;generalize hL:(cur.toList.take (0*eu.size)++vs++cur.toList.drop (0*eu.size+vs.length)).toArray=L at hrun;rw[Wn] at hrun;have hLs:L.size=cur.size:=by rw[←hL];simp;omega
  have hrow:=setRow_heap w (N.aH i) cur L T (0,0) q1
  have hLn: ∀j,j<vs.length→L.getD j undef=vs.getD j undef:=by
   intro j hj;rw[←hL,VK,VP];simp only[Xd];rw[V9 (by simp;omega),Wb (by simp)];simp
  obtain⟨h1,h2⟩:=hf.1.move hi hreal (w.setRow (N.aH i) L) (.row eu.size ([]++news)) rfl rfl rfl (by simp) (fun b hb=>by
    simp only[World.setRow,WG]
    rw[if_neg (fun e=>hb e.symm)]) (by
   refine .inr ⟨hsz0,L,T,by simpa using hrow,by rw[hLs];simpa using q2,by rw[hLs,hcur];exact Wt _ hroom2,fun k e he=>hnl _ e he,fun k e j p he hj=>?_⟩;have hj':j<eu.size:=by rw[←hnl _ e he];exact(VO.1 hj).1
   have hk2:k<news.length:=(VO.1 he).1
   have hlt:k*eu.size+j<vs.length:=by
    rw[hvl2];have:(k+1)*eu.size≤news.length*eu.size:=Wt _ hk2;rw[WX] at this;omega
   rw[hLn _ hlt]
   exact(hvr _ p (oJ hnl _ e j p he hj)).mono (.refl _) (N.en _ _ _) (fun i hi=>by omega))
  obtain⟨g1,g2⟩:=mz (es:=[]) (news:=news) (i:=i) hf h1 h2;refine⟨_,_,M,_,hexec _ _ hrun,g1,g2,?_⟩;have:=VR.sl (M:=M) (N:=N.with s.nx (N.aH i) (N.ext i)) (U:=(· <s.nx+1)) s.nx 0 news.length eu.size cap (by omega) hm hroom2 hc (by simpa using hext);rw[jM];simpa using this
section
variable {Q:AQ} {k:List KI} {all rest:List Oper} {o:Oper} {s':AS}
theorem OZ (hty:bP P ty) {t u:TypeId} {l c:Operand} (n m:Nat) (hg:o.guard=none) (ho:o.op= .makeSlice t l c) {e eu:aA} (ht:ty t=some e) (hk:e.k= .ai (.slice u)) (hu:ty u=some eu)
  {kl kc:IntKind} {ml nc:Int} (hl:ev s.f l= .iv (.v (.int kl ml))) (hc:ev s.f c= .iv (.v (.int kc nc))) (hml:ml=(m:Int)) (hnc:nc=(n:Int)) (hn:0<n) (hn2:n≤100000000000) (hb:eu.bytes*n≤281474976710656) (hz1:eu.zero.cells.size=eu.size) (hs0:0<eu.size)
  {z:List PV} (hz:z=bV eu.zero) {p:PV} (hpm:(m=0∧p= .sl s.nx 1 0 eu.size)∨(m=n∧p= .sl s.nx 0 n eu.size))
  (hp:putDst nt o p (newObj s (.row eu.size (XZ n z)))=some s') (h:GO P nt (.ops all rest::k) Q s'):GO P nt (.ops all (o::rest)::k) Q s:=
 dH hg (Ud hty ho ht hk hu hl hc hml hnc hn hn2 hb rfl hz1 hs0 hz hpm hp) fun t ht=>by subst ht;exact h
theorem yP (hty:bP P ty) {t u:TypeId} {l c:Operand} (sz:Nat) (el:Nat→List IV) (hg:o.guard=none) (ho:o.op= .makeSlice t l c) {e eu:aA} (ht:ty t=some e) (hk:e.k= .ai (.slice u)) (hu:ty u=some eu)
  {kl kc:IntKind} {ml nc:Int} (hl:ev s.f l= .iv (.v (.int kl ml))) (hc:ev s.f c= .iv (.v (.int kc nc))) (hml:ml=0) (hnc:nc=0)
  (hp:putDst nt o (.iv (.cK sz 0 el)) (newObj s (.row sz []))=some s') (h:GO P nt (.ops all rest::k) Q s'):GO P nt (.ops all (o::rest)::k) Q s:=
 dH hg (Rv hty ho ht hk hu el hl hc hml hnc hp) fun t ht=>by subst ht;exact h
theorem zS (hty:bP P ty) {t u:TypeId} {x hi:Operand} {i n sz:Nat} (m:Nat) (hg:o.guard=none) (ho:o.op= .slice t x none (some hi) none) {e eu:aA} (ht:ty t=some e) (hk:e.k= .ai (.slice u)) (hu:ty u=some eu)
  {kc:IntKind} {mi:Int} (hx:ev s.f x= .sl i 0 n sz) (hh:ev s.f hi= .iv (.v (.int kc mi))) (hmi:mi=(m:Int)) (hmn:m≤n) (hn:0<n)
  {p:PV} (hpm:(m=0∧p= .sl i 1 0 sz)∨(0<m∧p= .sl i 0 m sz)) (hp:putDst nt o p s=some s') (h:GO P nt (.ops all rest::k) Q s'):GO P nt (.ops all (o::rest)::k) Q s:=
 dH hg (RS hty ho ht hk hu hx hh hmi hmn hn hpm hp) fun t ht=>by subst ht;exact h
theorem vK (hty:bP P ty) {x y:Operand} {t u:TypeId} (hg:o.guard=none) (ho:o.op= .call ⟨.builtin .append, #[x,y], #[t,t]⟩) {e eu:aA} (ht:ty t=some e) (hk:e.k= .ai (.slice u)) (hu:ty u=some eu)
  {i:Nat} {es news:List (List PV)} {py:PV} (hx:ev s.f x= .sl i 1 0 eu.size) (hi:s.h.get i=some (.row eu.size es))
  (hpy:ev s.f y=py) (hy:Q5 s.h eu.size py=some news) (hroom:news.length≤es.length) (hm:0<news.length) (hone: ∀e∈news,gB e=true)
  (hp:putDst nt o (.sl s.nx 0 news.length eu.size) (oU s i eu.size [] news)=some s') (h:GO P nt (.ops all rest::k) Q s'):GO P nt (.ops all (o::rest)::k) Q s:=
 dH hg (Ka hty ho ht hk hu hx hi rfl hroom hm hpy (IS hy) hone hp) fun t ht=>by subst ht;exact h
end
theorem ud {M:Mem} {N:Nm} {a:Act} {w:World} (hf:Fits M N s nt a w) {x:Operand} (h:ev s.f x= .iv (.v (.map none))):a.eval x= .map none:=by
 have hi:=aV hf.2.1 x;rw[h] at hi;generalize a.eval x=v at hi
 cases hi with
 |iv _ _ hi=>cases hi with
  |v=>rfl
theorem Bd (hty:bP P ty) {o:Oper} {t kt et:TypeId} {x:Operand} (ho:o.op= .call ⟨.builtin .len, #[x], #[t]⟩) {e:aA} (ht:ty t=some e) (hk:e.k= .ai (.map kt et)) (hx:ev s.f x= .iv (.v (.map none)))
  {s':AS} (hp:putDst nt o (pI 0) s=some s'):OT P nt o s (fun t=>t=s'):=by
 refine OT.value hp fun M N a w hf=>?_
 have hu:P.underlying t=some (.map kt et):=by
  have:=(hty t _ ht).2.1;rw[hk] at this;exact this.1
 refine⟨.int .i64 0,w,M,N,?_, .refl _ _ _ _ _,hf, .iv _ _ (.v _)⟩;simp only[execOp,ho,resolve];simp[invoke,builtin,ud hf hx,Builtin.len_,run_underlying hu,goInt]
theorem AK (hty:bP P ty) {o:Oper} {t kt et:TypeId} {x:Operand} (ho:o.op= .range t x) {e:aA} (ht:ty t=some e) (hk:e.k= .ai (.map kt et)) (hx:ev s.f x= .iv (.v (.map none)))
  {s':AS} (hp:putDst nt o (.ptr s.nx 0) (newObj s (.bt .str iI [] [] none))=some s'):OT P nt o s (fun t=>t=s'):=by
 refine OT.value hp fun M N a w hf=>?_
 have hu:P.underlying t=some (.map kt et):=by
  have:=(hty t _ ht).2.1;rw[hk] at this;exact this.1
 obtain⟨N',h1,h2,h3,h4,h5⟩:=hf.1.alloc (.mapIter none 0 #[] 0) (.bt .str iI [] [] none) 0 (fun N' g1 g2 g3=> .inl ⟨rfl,rfl,rfl,by rw[g1];exact heap_alloc_new w _⟩);have hnx:(newObj s (.bt .str iI [] [] none)).nx=s.nx+1:=by cases s;rfl
 refine⟨.pointer (some ⟨w.heap.size,0,none⟩),_,M,N',?_,h4,dh hf h4 h5,?_⟩
 ·simp only[execOp,ho,ud hf hx]
  simp[Instr.range,run_underlying hu]
 ·have:=VR.ptr (M:=M) (N:=N') (U:=(· <s.nx+1)) s.nx 0 (by omega)
  rw[h1] at this;rw[hnx];exact this
section
variable {Q:AQ} {k:List KI} {all rest:List Oper} {o:Oper} {s':AS}
theorem Bj (hty:bP P ty) {t kt et:TypeId} {x:Operand} (hg:o.guard=none) (ho:o.op= .call ⟨.builtin .len, #[x], #[t]⟩) {e:aA} (ht:ty t=some e) (hk:e.k= .ai (.map kt et)) (hx:ev s.f x= .iv (.v (.map none)))
  (hp:putDst nt o (pI 0) s=some s') (h:GO P nt (.ops all rest::k) Q s'):GO P nt (.ops all (o::rest)::k) Q s:=
 dH hg (Bd hty ho ht hk hx hp) fun t ht=>by subst ht;exact h
theorem Bi (hty:bP P ty) {t kt et:TypeId} {x:Operand} (hg:o.guard=none) (ho:o.op= .range t x) {e:aA} (ht:ty t=some e) (hk:e.k= .ai (.map kt et)) (hx:ev s.f x= .iv (.v (.map none)))
  (hp:putDst nt o (.ptr s.nx 0) (newObj s (.bt .str iI [] [] none))=some s') (h:GO P nt (.ops all rest::k) Q s'):GO P nt (.ops all (o::rest)::k) Q s:=
 dH hg (AK hty ho ht hk hx hp) fun t ht=>by subst ht;exact h
end
end
theorem eP.take {sz n:Nat} {es:List (List PV)}:eP (.row sz es) (.row sz (es.take n)):=by
 refine⟨fun h=>?_,fun M N U w i h=>?_⟩
 ·cases es with
  |nil=>rw[List.take_nil] at h;exact h
  |cons=>rfl
 ·rcases h with h|⟨h0,c,T,h1,h2,h3,h4,h5⟩
  ·exact .inl (by rw[h,List.take_nil])
  ·refine .inr ⟨h0,c,T,h1,h2,Wh (Wt _ (by rw[Xc];omega)) h3,fun k e he=>?_,fun k e j p he hp=>?_⟩
   ·rw[WN] at he
    split at he
    ·exact h4 k e he
    ·cases he
   ·rw[WN] at he
    split at he
    ·exact h5 k e j p he hp
    ·cases he
theorem gf {P:Program} {nt:Nat} {Q:AQ} {k:List KI} {s:AS} {body:Code} {σ:Type} (i0 n:Nat) (hi0:i0≤n) (I:Nat→σ→AS) (J:Nat→σ→Prop) (x0:σ) (L0:List Nat) (j0:J i0 x0) (h0:Wk s.nx L0 s (I i0 x0))
  (round: ∀i x,i≤n→J i x→GO P nt (.code body:: .lp (fun t=>i<n∧ ∃x' L,J (i+1) x'∧Wk s.nx L t (I (i+1) x'))::k) Q (I i x)):GO P nt (.code (.loop body)::k) Q s:=by
 refine lZ (σ:={p:Nat×σ//p.1≤n∧J p.1 p.2}) (fun p=>I p.1.1 p.1.2) (fun p=>n-p.1.1) ⟨(i0,x0),hi0,j0⟩ L0 h0 fun p=>?_;obtain⟨⟨i,x⟩,h1,h2⟩:=p;refine nR ?_ (round i x h1 h2)
 rintro t ⟨h3,x',L,h4,h5⟩
 exact⟨⟨(i+1,x'),h3,h4⟩,L,by show n-(i+1)<n-i;omega,h5⟩
theorem Un {P:Program} {nt:Nat} {Q:AQ} {k:List KI} {s:AS} {all rest:List Oper} (d:Nat) {p:PV} (hle:ak (s.f.get d) p) (h:GO P nt (.ops all rest::k) Q ⟨(d,p)::s.f,s.h,s.nx⟩):GO P nt (.ops all rest::k) Q s:=by
 intro M N a w hf;refine h M N a w ⟨hf.1,fun e=>?_,hf.2.2⟩;rw[AF.ay];split
 ·rename_i he;subst he;exact hle M N _ _ (hf.2.1 e)
 ·exact hf.2.1 e
theorem oH {P:Program} {ty:Ty} {nt:Nat} {Q:AQ} {k:List KI} {s:AS} (hty:bP P ty) {all rest:List Oper} {o:Oper} {t:TypeId} {x i:Operand} (p:PV) (ho:o.op= .lookup t x i false) (hg:o.guard=none)
  {kc:KC} {V:Type} {e:V→IV} {z:V} {zv:Value} {m:List (kc.K×V)} (hx:ev s.f x= .iv (.dG kc e z zv m)) {q:PV} (hl:r7 ty t false kc e z zv m (ev s.f i)=some (q,True)) (hq:q=p)
  {s':AS} (hp:putDst nt o p s=some s') (h:GO P nt (.ops all rest::k) Q s'):GO P nt (.ops all (o::rest)::k) Q s:=by
 have hrop:ic ty s o.op=some (p,True):=by
  rw[ho,←hq];simp only[ic,hx];exact hl
 exact dH hg (pc hty hrop trivial hp) fun u hu=>by subst hu;exact h
end Go.Al
namespace Go.Proofs.YtflegjieadkonaaGreatDoor
open Go Go.Al
set_option maxRecDepth 10000
theorem Cb (hS:dD) (el:Nat→List IV):Pure Tryz.prog 91 [.iv (.cK 1 0 el)] (.bM []):=by
 refine⟨bL Tryz.func91 rfl (by decide),fun M N w vs hr hlen hv=>?_⟩
 obtain⟨v,rfl⟩: ∃v,vs=[v]:=by
  cases vs with
  |nil=>cases hlen
  |cons v r=>cases r with
   |nil=>exact⟨v,rfl⟩
   |cons a b=>simp at hlen
 have hv0:=hv 0 _ rfl;simp only[List.getD_cons_zero] at hv0
 obtain⟨a,cap,rfl⟩: ∃a cap,v= .slice a 0 cap:=by
  cases hv0 with
  |iv _ _ h=>cases h with
   |iC _ _ a cap=>exact⟨a,cap,rfl⟩
   |cK _ _ _ b off cap=>exact⟨_,cap,rfl⟩
 refine(hS.2 a cap w).mono ?_
 rintro e w' ⟨rfl,rfl⟩
 exact⟨_,M,N, .bM [],_,_,rfl,⟨rfl,rfl,rfl⟩, .refl _ _ _ _ _,hr, .bM [] #[] rfl (by simp)⟩
section
variable {V:Type}
def zJ (m:List ((KC.str).K×V)) (vs:List Nat):List ah:=fC (m.map fun x=>(x.1,0)) vs
theorem xu (m:List ((KC.str).K×V)) (vs:List Nat) (j:Nat) (x:(KC.str).K×V) (h:m[j]? =some x):zJ m (j::vs)=zJ m vs++ [x.1]:=
 jH _ _ _ (x.1,0) (by rw[VV,h];rfl)
theorem zI (m:List ((KC.str).K×V)) (vs:List Nat) (hn:vs.Nodup) (hb: ∀j∈vs,j<m.length) (hall: ∀j,j<m.length→j∈vs):(zJ m vs).Perm (m.map (·.1)):=by
 have:=iZ (m.map fun x=>(x.1,(0:Int))) vs hn (by simpa using hb) (by simpa using hall);rw[List.map_map] at this;exact this
theorem zH (m:List ((KC.str).K×V)) (vs:List Nat):(zJ m vs).length≤vs.length:=sb _ _
end
def AY (i:Nat):List ah→PV
 | []=> .sl i 1 0 1
 |x::r=> .sl i 0 (x::r).length 1
def tj (n:Nat):List ah→AO
 | []=> .row 1 (XZ n [pS VT])
 |x::r=>a7 1 (x::r) ch
theorem tY (i:Nat) (l:List ah) (s:ah):AY i (l++ [s])= .sl i 0 (l.length+1) 1:=by cases l<;>simp[AY]
theorem tZ (n:Nat) (l:List ah) (s:ah):tj n (l++ [s])=a7 1 (l++ [s]) ch:=by cases l<;>rfl
theorem xd {i:Nat} {l:List ah} (h:l≠ []):AY i l= .sl i 0 l.length 1:=by cases l with
 |nil=>exact absurd rfl h
 |cons=>rfl
theorem xe {n:Nat} {l:List ah} (h:l≠ []):tj n l=a7 1 l ch:=by cases l with
 |nil=>exact absurd rfl h
 |cons=>rfl
theorem CI (n:Nat) (l:List ah) (k:Nat):(tj n l).low k:=by
 cases l with
 |nil=>
  intro j e he;rw[YA] at he;split at he
  ·cases he;rfl
  ·cases he
 |cons x r=>exact dT k
theorem CH (n:Nat) (l:List ah) (σ:Nat→Nat):(tj n l).cN σ=tj n l:=by
 cases l with
 |nil=>simp only[tj,AO.cN];rw[List.map_replicate];rfl
 |cons x r=>exact cj σ
theorem hO {h r:AH} {σ:Nat→Nat} {i n m:Nat} {o:AO} {l:List ah} (ho:h.get (σ i)=some o) (he:o=tj m l) (hi:Wg i n=true) (hr:tx n σ h r):tx n σ h ((i,some (tj m l))::r):=
 ⟨⟨_,ho, .of_eq (by rw[CH,he])⟩,VI hi,CI m l n,hr⟩
theorem oi (i:Nat) (l:List ah) {n:Nat} (h:Wg i n=true):(AY i l).low n=true:=by cases l<;>exact h
theorem Cg (hS:dD) (m:NM) (hm:m.length≤100000000):Pure Tryz.prog 52 [.iv (nY m)] (.iv (strs (c9 (m.map (·.1))))):=by
 refine az ae Tryz.func52 rfl (by decide) Tryz.ntmps52 rfl (by simp) rfl ?_;rcases Nat.eq_zero_or_pos m.length with h0|h0
 ·have h0:=XP.1 h0
  subst h0;refine gA rfl (yP ae 1 (fun k=>ch (([]:List ah).getD k default)) rfl rfl rfl rfl rfl rfl rfl rfl rfl rfl ?_);refine gA rfl ?_
  refine eJ ([]:List ((KC.str).K×Int)) (fun _=>⟨[(3, .iv (.cK 1 0 (fun k=>ch (([]:List ah).getD k default)))),(9, .ptr 1 0)],[(1,some (.bt .str sE ([]:List ((KC.str).K×Int)) [] none))],2⟩) (fun _=>True) [] trivial
   (wk rfl rfl rfl ⟨.refl _,rfl, .refl _,rfl,trivial⟩ (hI rfl rfl (.inl rfl) rfl trivial) rfl) fun vs _=>?_
  refine lB rfl trivial (db rfl rfl rfl rfl rfl (by decide) (fun _=>?_) fun j x hx _=>?_)
  ·refine gA rfl (aj (Cb hS _) rfl rfl rfl rfl rfl rfl ?_)
   refine gA rfl (au (by first|exact .inr rfl|exact .inl rfl) rfl ?_);exact .of_eq (show _=PV.iv (strs (c9 [])) by rw[mC];rfl)
  ·cases hx
 refine gA rfl (OZ ae m.length 0 rfl rfl rfl rfl rfl rfl rfl rfl rfl h0 (by omega) (by show 16*m.length≤_;omega) rfl (by decide) rfl (.inl ⟨rfl,rfl⟩) rfl ?_);refine gA rfl ?_
 refine eJ m (fun vs=>⟨[(3,AY 2 (zJ m vs)),(9, .ptr 1 0)],[(1,some (.bt .str sE m vs none)),(2,some (tj m.length (zJ m vs)))],3⟩) (fun vs=>vs.Nodup∧ ∀j∈vs,j<m.length) [0] ⟨WB,by simp⟩
  (wk rfl rfl rfl ⟨.refl _,rfl, .refl _,rfl,trivial⟩ (hI rfl rfl (.inl rfl) rfl (hO rfl rfl rfl trivial)) rfl) fun vs hJ=>?_
 obtain⟨hJ1,hJ2⟩:=hJ;have hvl:=rU hJ1 hJ2;have hkl:=zH m vs;refine lB rfl trivial (db rfl rfl rfl rfl rfl (by decide) (fun hall=>?_) fun j x hx hj=>?_)
 ·have hp:=zI m vs hJ1 hJ2 hall
  have hne:zJ m vs≠ []:=fun e=>by
   have:=hp.length_eq;rw[e,Wr] at this;simp at this;omega
  rw[xd hne,xe hne];refine lB rfl trivial (aK [2] (D1 hS (zJ m vs) (by omega)) rfl rfl rfl rfl rfl (congrArg (fun o=> [some o]) (cj _).symm) rfl rfl ?_);refine lB rfl trivial (eU (.inr rfl) rfl rfl ((rC _ _).trans (by rw[nC hp])) ?_);rw[gr,←hp.length_eq]
 ·have hk:=xu m vs j x hx
  have fin: ∀vs',vs'=j::vs→vs'.Nodup∧ ∀i∈vs',i<m.length:=fun vs' e=>e▸⟨WC.2 ⟨hj,hJ1⟩,fun i hi=>(V4.1 hi).elim (fun h=>h▸(VO.1 hx).1) (hJ2 i)⟩
  cases hl:zJ m vs with
  |nil=>
   rw[hl,XJ] at hk;refine gA rfl (vK ae rfl rfl rfl rfl rfl rfl rfl rfl rfl (by simp;omega) (by simp) (js rfl) rfl ?_);refine gA rfl ?_
   exact⟨j,x,hx,hj,fin _ rfl,[4],wk rfl rfl rfl ⟨.of_eq (by rw[hk];rfl),oi 2 _ rfl, .refl _,rfl,trivial⟩ (hI rfl rfl (.inr rfl) rfl (hO rfl (by rw[hk];rfl) rfl trivial)) rfl⟩
  |cons a r=>
   rw[hl] at hk hkl;have hlen:(r.length+1)≤m.length:=by simpa using Wh hkl hvl
   refine gA rfl ?_;exact⟨j,x,hx,hj,fin _ rfl,[4],wk rfl rfl rfl ⟨.of_eq (by rw[hk,tY];rfl),oi 2 _ rfl, .refl _,rfl,trivial⟩ (hI rfl rfl (.inr rfl) rfl (hO rfl (by rw[hk,tZ,a7,VN];rfl) rfl trivial)) rfl⟩
theorem Ch (hS:dD) (m:GM) (hm:m.length≤100000000):Pure Tryz.prog 51 [.iv (mG m)] (.iv (strs (c9 (m.map (·.1))))):=by
 refine az ae Tryz.func51 rfl (by decide) Tryz.ntmps51 rfl (by simp) rfl ?_;rcases Nat.eq_zero_or_pos m.length with h0|h0
 ·have h0:=XP.1 h0
  subst h0;refine gA rfl (yP ae 1 (fun k=>ch (([]:List ah).getD k default)) rfl rfl rfl rfl rfl rfl rfl rfl rfl rfl ?_);refine gA rfl ?_
  refine eJ ([]:List ((KC.str).K×Option NM)) (fun _=>⟨[(3, .iv (.cK 1 0 (fun k=>ch (([]:List ah).getD k default)))),(9, .ptr 1 0)],[(1,some (.bt .str AZ ([]:List ((KC.str).K×Option NM)) [] none))],2⟩) (fun _=>True) [] trivial
   (wk rfl rfl rfl ⟨.refl _,rfl, .refl _,rfl,trivial⟩ (hI rfl rfl (.inl rfl) rfl trivial) rfl) fun vs _=>?_
  refine lB rfl trivial (db rfl rfl rfl rfl rfl (by decide) (fun _=>?_) fun j x hx _=>?_)
  ·refine gA rfl (aj (Cb hS _) rfl rfl rfl rfl rfl rfl ?_)
   refine gA rfl (au (by first|exact .inr rfl|exact .inl rfl) rfl ?_);exact .of_eq (show _=PV.iv (strs (c9 [])) by rw[mC];rfl)
  ·cases hx
 refine gA rfl (OZ ae m.length 0 rfl rfl rfl rfl rfl rfl rfl rfl rfl h0 (by omega) (by show 16*m.length≤_;omega) rfl (by decide) rfl (.inl ⟨rfl,rfl⟩) rfl ?_);refine gA rfl ?_
 refine eJ m (fun vs=>⟨[(3,AY 2 (zJ m vs)),(9, .ptr 1 0)],[(1,some (.bt .str AZ m vs none)),(2,some (tj m.length (zJ m vs)))],3⟩) (fun vs=>vs.Nodup∧ ∀j∈vs,j<m.length) [0] ⟨WB,by simp⟩
  (wk rfl rfl rfl ⟨.refl _,rfl, .refl _,rfl,trivial⟩ (hI rfl rfl (.inl rfl) rfl (hO rfl rfl rfl trivial)) rfl) fun vs hJ=>?_
 obtain⟨hJ1,hJ2⟩:=hJ;have hvl:=rU hJ1 hJ2;have hkl:=zH m vs;refine lB rfl trivial (db rfl rfl rfl rfl rfl (by decide) (fun hall=>?_) fun j x hx hj=>?_)
 ·have hp:=zI m vs hJ1 hJ2 hall
  have hne:zJ m vs≠ []:=fun e=>by
   have:=hp.length_eq;rw[e,Wr] at this;simp at this;omega
  rw[xd hne,xe hne];refine lB rfl trivial (aK [2] (D1 hS (zJ m vs) (by omega)) rfl rfl rfl rfl rfl (congrArg (fun o=> [some o]) (cj _).symm) rfl rfl ?_);refine lB rfl trivial (eU (.inr rfl) rfl rfl ((rC _ _).trans (by rw[nC hp])) ?_);rw[gr,←hp.length_eq]
 ·have hk:=xu m vs j x hx
  have fin: ∀vs',vs'=j::vs→vs'.Nodup∧ ∀i∈vs',i<m.length:=fun vs' e=>e▸⟨WC.2 ⟨hj,hJ1⟩,fun i hi=>(V4.1 hi).elim (fun h=>h▸(VO.1 hx).1) (hJ2 i)⟩
  cases hl:zJ m vs with
  |nil=>
   rw[hl,XJ] at hk;refine gA rfl (vK ae rfl rfl rfl rfl rfl rfl rfl rfl rfl (by simp;omega) (by simp) (js rfl) rfl ?_);refine gA rfl ?_
   exact⟨j,x,hx,hj,fin _ rfl,[4],wk rfl rfl rfl ⟨.of_eq (by rw[hk];rfl),oi 2 _ rfl, .refl _,rfl,trivial⟩ (hI rfl rfl (.inr rfl) rfl (hO rfl (by rw[hk];rfl) rfl trivial)) rfl⟩
  |cons a r=>
   rw[hl] at hk hkl;have hlen:(r.length+1)≤m.length:=by simpa using Wh hkl hvl
   refine gA rfl ?_;exact⟨j,x,hx,hj,fin _ rfl,[4],wk rfl rfl rfl ⟨.of_eq (by rw[hk,tY];rfl),oi 2 _ rfl, .refl _,rfl,trivial⟩ (hI rfl rfl (.inr rfl) rfl (hO rfl (by rw[hk,tZ,a7,VN];rfl) rfl trivial)) rfl⟩
theorem nE (hS:dD):Pure Tryz.prog 51 [.iv (.v (.map none))] (.iv (strs [])):=by
 refine az ae Tryz.func51 rfl (by decide) Tryz.ntmps51 rfl (by simp) rfl ?_;refine gA rfl (Bj ae rfl rfl rfl rfl rfl rfl ?_);refine gA rfl (yP ae 1 (fun k=>ch (([]:List ah).getD k default)) rfl rfl rfl rfl rfl rfl rfl rfl rfl rfl ?_);refine gA rfl (Bi ae rfl rfl rfl rfl rfl rfl ?_);refine gA rfl ?_
 refine eJ ([]:List ((KC.str).K×Int)) (fun _=>⟨[(3, .iv (.cK 1 0 (fun k=>ch (([]:List ah).getD k default)))),(9, .ptr 1 0)],[(1,some (.bt .str iI ([]:List ((KC.str).K×Int)) [] none))],2⟩) (fun _=>True) [] trivial
  (wk rfl rfl rfl ⟨.refl _,rfl, .refl _,rfl,trivial⟩ (hI rfl rfl (.inl rfl) rfl trivial) rfl) fun vs _=>?_
 refine lB rfl trivial (db rfl rfl rfl rfl rfl (by decide) (fun _=>?_) fun j x hx _=>?_)
 ·refine gA rfl (aj (Cb hS _) rfl rfl rfl rfl rfl rfl ?_)
  refine gA rfl (au (by first|exact .inr rfl|exact .inl rfl) rfl ?_);exact .of_eq rfl
 ·cases hx
end Go.Proofs.YtflegjieadkonaaGreatDoor
namespace Go.Al
def R4 {σ:Type} (P:Program) (nt:Nat) (k:List KI) (Q:AQ) (n0:Nat) (t:σ→AS):AQ:=fun e u=>(e= .normal∧ ∃i L,Wk n0 L u (t i))∨(e≠ .normal∧kp P nt k Q e u)
theorem go_cut {P:Program} {nt:Nat} {Q:AQ} {k:List KI} {s:AS} {c:Code} {σ:Type} (n:Nat) (t:σ→AS) (hseq:c=Q7 (uY n c) (qY n c))
  (h1:GO P nt ((uY n c).map KI.code) (R4 P nt k Q s.nx t) s) (h2: ∀i,GO P nt (.code (qY n c)::k) Q (t i)):GO P nt (.code c::k) Q s:=by
 intro M N a w hf;rw[hseq]
 have key: ∀(l:List Code) (u:AS) M' N' a' w',Ext M N (· <s.nx) s.h w M' N' (· <u.nx) u.h w'→Fits M' N' u nt a' w'→
   kp P nt (l.map KI.code) (R4 P nt k Q s.nx t) .normal u→(Q7 l (qY n c)).wp P (lx nt M N s w (kp P nt k Q)) a' w':=by
  intro l
  induction l with
  |nil=>
   intro u M' N' a' w' hx hfu hk;rcases hk with⟨_,i,L,hw⟩|⟨he,_⟩
   ·exact AW.then (h2 i) (hw.fits hfu) fun e a2 w2 M2 N2 s2 hx2 hf2 hr2=>⟨M2,N2,s2,(hw.ext hx).trans hx2,hf2,hr2⟩
   ·exact absurd rfl he
  |cons c l ih=>
   intro u M' N' a' w' hx hfu hk;refine wp_seq (AW.then hk hfu fun e a2 w2 M2 N2 s2 hx2 hf2 hr2=>?_)
   cases e with
   |normal=>exact ih s2 M2 N2 a2 w2 (hx.trans hx2) hf2 hr2
   |_=>
    rcases zG (l:=l) (by simp) hr2 with⟨he,_⟩|⟨_,hq⟩
    ·cases he
    ·exact⟨M2,N2,s2,hx.trans hx2,hf2,hq⟩
 exact key _ s M N a w (.refl _ _ _ _ _) hf h1
theorem vR {P:Program} {nt:Nat} {k:List KI} {Q:AQ} {n0:Nat} {σ:Type} {t:σ→AS} {u:AS} (i:σ) (L:List Nat) (h:Wk n0 L u (t i)):R4 P nt k Q n0 t .normal u:= .inl ⟨rfl,i,L,h⟩
section
variable {P:Program} {ty:Ty} {nt:Nat} {Q:AQ} {k:List KI} {s:AS}
theorem yQ (hty:bP P ty) {all rest:List Oper} {o:Oper} {t:TypeId} {a:Operand} (ho:o.op= .load t a) (hg:o.guard=none) {e:aA} (he:ty t=some e) {i sz q off:Nat} {es:List (List PV)} {row:List PV} {v:PV}
  (ha:ev s.f a= .di i sz q off) (hi:s.h.get i=some (.row sz es)) (hq:es[q]? =some row) (hr:gu e (row.drop off)=some v)
  {s':AS} (hp:putDst nt o v s=some s') (h:GO P nt (.ops all rest::k) Q s'):GO P nt (.ops all (o::rest)::k) Q s:=by
 have hb:behind s.h (.di i sz q off)=some (row.drop off):=by
  simp only[behind,hi,hq,Nat.beq_refl]
 have hrop:ic ty s o.op=some (v,True):=by
  rw[ho];simp only[ic,he,ha,hb,hr]
 exact dH hg (pc hty hrop trivial hp) fun u hu=>by subst hu;exact h
end
end Go.Al
namespace Go.Al
def Nm.one (b e:Nat):Nm:=⟨fun _=>b,fun _=>e⟩
inductive SB:Type 1 where
 |obj (o:AO) (e:Nat)
 |out (i e:Nat)
abbrev aX:=Nat→Option SB
def aX.nil:aX:=fun _=>none
def aX.put (X:aX) (b:Nat) (x:SB):aX:=fun c=>if c=b then some x else X c
def aX.still (X:aX):Prop:= ∀b i e,X b≠some (.out i e)
theorem aX.eC (X:aX) (b:Nat) (x:SB):X.put b x b=some x:=by simp[aX.put]
theorem aX.ie (X:aX) {b c:Nat} (x:SB) (h:c≠b):X.put b x c=X c:=by simp[aX.put,h]
theorem aX.Jg (X:aX) (b:Nat) (x y:SB):(X.put b x).put b y=X.put b y:=by
 funext c;simp only[aX.put];split<;>rfl
structure cR (M:Mem) (N:Nm) (n:Nat) (h:AH) (X:aX) (w:World):Prop where
 real: ∀b o e,X b=some (.obj o e)→o.real=true
 obj: ∀b o e,X b=some (.obj o e)→OR M (Nm.one b e) (fun _=>False) w 0 o
 du: ∀b o e,X b=some (.obj o e)→M b=none
 apart: ∀b o e,X b=some (.obj o e)→ ∀i p,h.get i=some p→p.real=true→N.aH i≠b
 out: ∀b i e,X b=some (.out i e)→i<n∧N.aH i=b∧N.ext i=e
def AO.all (G:PV→Prop):AO→Prop
 | .cells cs _=> ∀p∈cs,G p
 | .row _ es=> ∀e∈es,∀p∈e,G p
 |_=>True
theorem AO.all_true (o:AO):o.all fun _=>True:=by cases o<;>simp[AO.all]
theorem OR.move {M M':Mem} {N N':Nm} {U U':Nat→Prop} {w w':World} {i i':Nat} {o:AO} {G:PV→Prop} (hM:M.le M') (hG:o.all G) (hV: ∀p x,G p→VR M N U p x→VR M' N' U' p x)
  (hb:N'.aH i'=N.aH i) (he:N'.ext i'=N.ext i) (hw:w'.heap[N.aH i]? =w.heap[N.aH i]?) (h:OR M N U w i o):OR M' N' U' w' i' o:=by
 cases o with
 |cells cs T0=>
  obtain⟨c,T,h1,h2,h3,h4,h5⟩:=h
  exact⟨c,T,by rw[hb,hw,h1],by rw[he,h2],h3,fun j p hp=>hV _ _ (hG p (Wj hp)) (h4 j p hp),h5⟩
 |row sz es=>
  rcases h with h|⟨h0,c,T,h1,h2,h3,h4,h5⟩
  ·exact .inl h
  exact .inr ⟨h0,c,T,by rw[hb,hw,h1],by rw[he,h2],h3,h4,fun k e j p hk hp=>hV _ _ (hG e (Wj hk) p (Wj hp)) (h5 k e j p hk hp)⟩
 |bx l T=>
  rcases h with h|⟨c,h1,h2,h3,h4⟩
  ·exact .inl h
  exact .inr ⟨c,by rw[hb,hw,h1],by rw[he,h2],h3,h4⟩
 |ej=>show w'.heap[N'.aH i']? =_;rw[hb,hw];exact h
 |map kc ev z zv dv m=>
  obtain⟨e,cl,h1,h2,h3⟩:=h
  exact⟨e,cl,by rw[hb,hw,h1],h2.mono hM,h3.mono hM⟩
 |bt kc ev m l cu=>
  rcases h with⟨h1,h2,h3,h4⟩|⟨b,e,cl,se,h1,h2,h3,h4⟩
  ·exact .inl ⟨h1,h2,h3,by rw[hb,hw,h4]⟩
  ·exact .inr ⟨b,e,cl,se,by rw[hb,hw,h1],hM _ _ h2,h3.mono hM,h4⟩
 |dt s p=>show w'.heap[N'.aH i']? =_;rw[hb,hw];exact h
theorem VR.zy {M M':Mem} {N N':Nm} {U':Nat→Prop} (hM:M.le M') {p:PV} {x:Value} (h:VR M N (fun _=>False) p x):VR M' N' U' p x:=
 h.mono hM ⟨fun _ h=>h.elim,fun _ h=>h.elim⟩ (fun _ h=>h.elim)
def PV.flat:PV→Prop
 | .iv _=>True
 | .kb _=>True
 | .any=>True
 |_=>False
theorem VR.IL {M:Mem} {N N':Nm} {U U':Nat→Prop} {p:PV} {x:Value} (hp:p.flat) (h:VR M N U p x):VR M N' U' p x:=by
 cases h with
 |iv x y h=>exact .iv _ _ h
 |kb b=>exact .kb _
 |any x=>exact .any _
 |_=>exact hp.elim
def UI (N:Nm) (h:AH) (X:aX) (b:Nat):Prop:=(∃i o,h.get i=some o∧o.real=true∧N.aH i=b)∨ ∃o e,X b=some (.obj o e)
structure fP (M:Mem) (N:Nm) (n:Nat) (h:AH) (X:aX) (w:World) (M':Mem) (N':Nm) (n':Nat) (h':AH) (X':aX) (w':World):Prop where
 os:w'.os=w.os
 tape:w'.tape=w.tape
 output:w'.output=w.output
 size:w.heap.size≤w'.heap.size
 gd: ∀b,b<w.heap.size→ ¬UI N h X b→w'.heap[b]? =w.heap[b]?
 nZ:M.le M'
 gm: ∀b c,M b=none→M' b=some c→w.heap.size≤b∨UI N h X b
 nm:N.agree N' (· <n)
 ule:n≤n'
 fN: ∀b,UI N' h' X' b→w.heap.size≤b∨UI N h X b
theorem fP.refl (M:Mem) (N:Nm) (n:Nat) (h:AH) (X:aX) (w:World):fP M N n h X w M N n h X w:=
 ⟨rfl,rfl,rfl,VZ _,fun _ _ _=>rfl, .refl _,fun b c h1 h2=>by simp[h1] at h2, .refl _ _,VZ _,fun _ h=> .inr h⟩
theorem fP.trans {M M1 M2:Mem} {N N1 N2:Nm} {n n1 n2:Nat} {h h1 h2:AH} {X X1 X2:aX} {w w1 w2:World}
  (a:fP M N n h X w M1 N1 n1 h1 X1 w1) (b:fP M1 N1 n1 h1 X1 w1 M2 N2 n2 h2 X2 w2):fP M N n h X w M2 N2 n2 h2 X2 w2 where
 os:=b.os.trans a.os
 tape:=b.tape.trans a.tape
 output:=b.output.trans a.output
 size:=Wh a.size b.size
 gd:=fun k hk hn=>by
  rw[b.gd k (Xw hk a.size) (fun ho=>?_),a.gd k hk hn];rcases a.fN k ho with h3|h3
  ·omega
  ·exact hn h3
 nZ:=a.nZ.trans b.nZ
 gm:=fun k c h3 h4=>by
  cases h5:M1 k with
  |some c'=>exact a.gm k c' h3 h5
  |none=>
   rcases b.gm k c h5 h4 with h6|h6
   ·exact .inl (Wh a.size h6)
   ·exact a.fN k h6
 nm:=⟨fun i hi=>(b.nm.aH i (Xw hi a.ule)).trans (a.nm.aH i hi),fun i hi=>(b.nm.ext i (Xw hi a.ule)).trans (a.nm.ext i hi)⟩
 ule:=Wh a.ule b.ule
 fN:=fun k hk=>by
  rcases b.fN k hk with h3|h3
  ·exact .inl (Wh a.size h3)
  ·exact a.fN k h3
theorem fP.frame {M M':Mem} {N N':Nm} {n n':Nat} {h h':AH} {X:aX} {w w':World} (x:Ext M N (· <n) h w M' N' (· <n') h' w') (hs:cR M N n h X w):
  fP M N n h X w M' N' n' h' X w'∧cR M' N' n' h' X w':=by
 have hlt: ∀b o e,X b=some (.obj o e)→b<w.heap.size:=fun b o e hb=>(hs.obj b o e hb).lt (hs.real b o e hb);have hule:n≤n':=Ww fun hh=>absurd (x.ule n' hh) (Yx _);refine⟨⟨x.os,x.tape,x.output,x.size,fun b hb hn=>x.gd b hb fun i o hi hre he=>hn (.inl ⟨i,o,hi,hre,he⟩),x.nZ,fun b c h1 h2=>?_,x.nm,hule,fun b hb=>?_⟩,hs.real,fun b o e hb=>?_,fun b o e hb=>?_,fun b o e hb i p hi hre heq=>?_,fun b i e hb=>?_⟩
 ·rcases x.gm b c h1 h2 with h3|⟨i,o,h3,h4,h5⟩
  ·exact .inl h3
  ·exact .inr (.inl ⟨i,o,h3,h4,h5⟩)
 ·rcases hb with⟨i,o,h3,h4,h5⟩|hb
  ·rcases x.fN i o h3 h4 with h6|⟨j,p,h6,h7,h8⟩
   ·exact .inl (h5▸h6)
   ·exact .inr (.inl ⟨j,p,h6,h7,h8.trans h5⟩)
  ·exact .inr (.inr hb)
 ·refine OR.move (G:=fun _=>True) x.nZ (AO.all_true o) (fun p y _ hv=>hv.zy x.nZ) rfl rfl ?_ (hs.obj b o e hb)
  exact x.gd b (hlt b o e hb) (hs.apart b o e hb)
 ·cases hM:M' b with
  |none=>rfl
  |some c=>
   rcases x.gm b c (hs.du b o e hb) hM with h3|⟨i,p,h3,h4,h5⟩
   ·have:=hlt b o e hb;omega
   ·exact absurd h5 (hs.apart b o e hb i p h3 h4)
 ·rcases x.fN i p hi hre with h3|⟨j,q,h3,h4,h5⟩
  ·have:=hlt b o e hb;omega
  ·exact hs.apart b o e hb j q h3 h4 (h5.trans heq)
 ·obtain⟨h1,h2,h3⟩:=hs.out b i e hb
  exact⟨Xw h1 hule,(x.nm.aH i h1).trans h2,(x.nm.ext i h1).trans h3⟩
theorem fP.QR {M M':Mem} {N N':Nm} {n n':Nat} {h h':AH} {X':aX} {w w':World} (x:fP M N n h aX.nil w M' N' n' h' X' w'):Ext M N (· <n) h w M' N' (· <n') h' w':=by
 have hown: ∀b,UI N h aX.nil b→ ∃i o,h.get i=some o∧o.real=true∧N.aH i=b:=fun b hb=>by
  rcases hb with hb|⟨o,e,hb⟩
  ·exact hb
  ·cases hb
 refine⟨x.os,x.tape,x.output,x.size,fun b hb hn=>x.gd b hb fun ho=>?_,x.nZ,fun b c h1 h2=>?_,x.nm,fun i hi=>Xw hi x.ule,fun i o hi hre=>?_⟩
 ·obtain⟨i,o,h1,h2,h3⟩:=hown b ho
  exact hn i o h1 h2 h3
 ·exact(x.gm b c h1 h2).imp id (hown b)
 ·exact(x.fN _ (.inl ⟨i,o,hi,hre,rfl⟩)).imp id (hown _)
theorem cR.nil (M:Mem) (N:Nm) (n:Nat) (h:AH) (w:World):cR M N n h aX.nil w:=⟨nofun,nofun,nofun,nofun,nofun⟩
abbrev XQ:=Exit→AS→aX→Prop
def mB (nt:Nat) (M:Mem) (N:Nm) (s:AS) (X:aX) (w:World) (R:XQ):Exit→Act→World→Prop:=fun e a' w'=>
 ∃M' N' s' X',fP M N s.nx s.h X w M' N' s'.nx s'.h X' w'∧Fits M' N' s' nt a' w'∧cR M' N' s'.nx s'.h X' w'∧R e s' X'
theorem mB.later {nt:Nat} {M M':Mem} {N N':Nm} {s s':AS} {X X':aX} {w w':World} {R:XQ} {e:Exit} {a:Act} {w2:World}
  (x:fP M N s.nx s.h X w M' N' s'.nx s'.h X' w') (h:mB nt M' N' s' X' w' R e a w2):mB nt M N s X w R e a w2:=by
 obtain⟨M2,N2,s2,X2,h1,h2⟩:=h;exact⟨M2,N2,s2,X2,x.trans h1,h2⟩
theorem mB.now {nt:Nat} {M:Mem} {N:Nm} {s:AS} {X:aX} {w:World} {R:XQ} {e:Exit} {a:Act} (hf:Fits M N s nt a w) (hs:cR M N s.nx s.h X w) (h:R e s X):mB nt M N s X w R e a w:=
 ⟨M,N,s,X, .refl _ _ _ _ _ _,hf,hs,h⟩
def AX (P:Program) (nt:Nat) (c:Code) (R:XQ) (s:AS) (X:aX):Prop:= ∀M N a w,Fits M N s nt a w→cR M N s.nx s.h X w→c.wp P (mB nt M N s X w R) a w
def ALX (P:Program) (nt:Nat) (all rest:List Oper) (R:XQ) (s:AS) (X:aX):Prop:= ∀M N a w,Fits M N s nt a w→cR M N s.nx s.h X w→wpList P all.toArray (mB nt M N s X w R) rest a w
def SLX (P:Program) (nt:Nat) (all rest:List Oper) (R:XQ) (s:AS) (X:aX):Prop:= ∀M N a w,Fits M N s nt a w→cR M N s.nx s.h X w→
 wpStill P all.toArray w (fun a'=>mB nt M N s X w R .normal a' w) rest a
inductive XI where
 |qC (all rest:List Oper)
 |code (c:Code)
 |aH (id:Nat)
 |ops (all rest:List Oper)
 |lp (R:AS→aX→Prop)
 |BD
def kx (P:Program) (nt:Nat):List XI→XQ→XQ
 | [],Q=>Q
 | .code c::k,Q=>fun e s X=>match e with| .normal=>AX P nt c (kx P nt k Q) s X|e=>kx P nt k Q e s X
 | .ops all rest::k,Q=>fun e s X=>match e with| .normal=>ALX P nt all rest (kx P nt k Q) s X|e=>kx P nt k Q e s X
 | .qC all rest::k,Q=>fun e s X=>match e with| .normal=>SLX P nt all rest (kx P nt k Q) s X|e=>kx P nt k Q e s X
 | .lp R::k,Q=>fun e s X=>match e with| .normal=>R s X|e=>kx P nt k Q e s X
 | .aH id::k,Q=>fun e s X=>match e with| .exit j=>if j=id then kx P nt k Q .normal s X else kx P nt k Q (.exit j) s X|e=>kx P nt k Q e s X
 | .BD::k,Q=>fun e s X=>match e with| .goto _=>False|e=>kx P nt k Q e s X
def GX (P:Program) (nt:Nat) (k:List XI) (Q:XQ) (s:AS) (X:aX):Prop:=kx P nt k Q .normal s X
section
variable {P:Program} {nt:Nat} {Q:XQ} {k:List XI} {s:AS} {X:aX}
theorem AX.then {c:Code} {R:XQ} (h:AX P nt c R s X) {M:Mem} {N:Nm} {a:Act} {w:World} (hf:Fits M N s nt a w) (hs:cR M N s.nx s.h X w) {Z:Exit→Act→World→Prop}
  (hz: ∀e a' w' M' N' s' X',fP M N s.nx s.h X w M' N' s'.nx s'.h X' w'→Fits M' N' s' nt a' w'→cR M' N' s'.nx s'.h X' w'→R e s' X'→Z e a' w'):c.wp P Z a w:=
 wp_mono (h M N a w hf hs) fun e a' w' ⟨M',N',s',X',h1,h2,h3,h4⟩=>hz e a' w' M' N' s' X' h1 h2 h3 h4
theorem OY {Q0:AQ} {k0:List KI} {c:Code} (h:GX P nt [.code c] (fun e t _=>kp P nt k0 Q0 e t) s aX.nil):GO P nt (.code c::k0) Q0 s:=by
 intro M N a w hf;exact AX.then h hf (.nil ..) fun e a' w' M' N' s' X' hx hf' _ hr=>⟨M',N',s',hx.QR,hf',hr⟩
theorem fq {c:Code} (h:GO P nt [.code c] (fun e u=>kx P nt k Q e u X) s):GX P nt (.code c::k) Q s X:=by
 intro M N a w hf hs;refine AW.then h hf fun e a' w' M' N' s' hx hf' hr=>?_;obtain⟨h1,h2⟩:=fP.frame hx hs;exact⟨M',N',s',X,h1,hf',h2,hr⟩
theorem bO {x y:Code} (h:GX P nt (.code x:: .code y::k) Q s X):GX P nt (.code (.seq x y)::k) Q s X:=by
 intro M N a w hf hs;refine wp_seq (AX.then h hf hs fun e a' w' M' N' s' X' hx hf' hs' hr=>?_)
 cases e with
 |normal=>exact AX.then hr hf' hs' fun e a2 w2 M2 N2 s2 X2 hx2 hf2 hs2 hr2=>⟨M2,N2,s2,X2,hx.trans hx2,hf2,hs2,hr2⟩
 |_=>exact⟨M',N',s',X',hx,hf',hs',hr⟩
theorem oE (h:GX P nt k Q s X):GX P nt (.code .skip::k) Q s X:=fun _ _ _ _ hf hs=>wp_skip (.now hf hs h)
theorem oF {id:Nat} (h:kx P nt k Q (.exit id) s X):GX P nt (.code (.exit id)::k) Q s X:=fun _ _ _ _ hf hs=>wp_exit (.now hf hs h)
theorem vH {id:Nat} (h:GX P nt k Q s X):GX P nt (.aH id::k) Q s X:=h
theorem ft {id:Nat} {x:Code} (h:GX P nt (.code x:: .aH id::k) Q s X):GX P nt (.code (.block id x)::k) Q s X:=by
 intro M N a w hf hs;refine wp_block (AX.then h hf hs fun e a' w' M' N' s' X' hx hf' hs' hr=>?_)
 cases e with
 |exit j=>
  simp only[kx] at hr;simp only[Exit.inBlock];split
  ·rename_i hj;rw[if_pos hj] at hr;exact⟨M',N',s',X',hx,hf',hs',hr⟩
  ·rename_i hj;rw[if_neg hj] at hr;exact⟨M',N',s',X',hx,hf',hs',hr⟩
 |_=>exact⟨M',N',s',X',hx,hf',hs',hr⟩
theorem ur {id:Nat} {ops:Array Oper} (h:GX P nt (.ops ops.toList ops.toList::k) Q s X):GX P nt (.code (.region id ops false)::k) Q s X:=by
 intro M N a w hf hs;refine wp_region_list ?_;have:=h M N a w hf hs;simpa using this
theorem sk {all:List Oper} (h:GX P nt k Q s X):GX P nt (.ops all []::k) Q s X:=fun _ _ _ _ hf hs=>wpList_nil (mB.now hf hs h)
theorem oG {c:Operand} {x y:Code} {t:Bool} (hc:ev s.f c= .iv (.v (.bool t))) (h1:t=true→GX P nt (.code x::k) Q s X) (h2:t=false→GX P nt (.code y::k) Q s X):
  GX P nt (.code (.cond c x y)::k) Q s X:=by
 intro M N a w hf hs;refine wp_cond_split (hf.bool hc) (fun ht=>?_) (fun ht=>?_)
 ·exact h1 ht M N a w hf hs
 ·exact h2 ht M N a w hf hs
theorem vk {o:Oper} {a:Act} {w:World} {K K':Act→World→Prop} {Q Q':Exit→Act→World→Prop} (h: ∀a w,K a w→K' a w) (hq: ∀e a w,e≠ .normal→Q e a w→Q' e a w) (hh:o.wp P a w K Q):o.wp P a w K' Q':=by
 have hl:LetsOut Q→LetsOut Q':=fun⟨a,w,x⟩=>⟨a,w,hq _ _ _ (by simp) x⟩
 unfold Oper.wp at*
 generalize(execOp a.eval o).run P w=r at*
 cases r with
 |ok n w'=>
  cases n<;>simp only[Oper.upon] at hh ⊢ <;>
   first
    |exact h _ _ hh
    |exact Calls.mono hh (fun e w'' he=>by cases e<;>first|exact h _ _ he|exact hl he|exact hq _ _ _ (by simp) he)
    |exact Rows.mono hh (fun _ _ he=>h _ _ he)
 |halt x w'=>cases x<;>simp only[Oper.upon] at hh ⊢ <;>exact hq _ _ _ (by simp) hh
theorem nr {ops:Array Oper} {Q1 Q2:Exit→Act→World→Prop} (l2:List Oper) (h2: ∀a w,Q1 .normal a w→wpList P ops Q2 l2 a w) (hq: ∀e a w,e≠ .normal→Q1 e a w→Q2 e a w): ∀(l:List Oper) (a:Act) (w:World),wpList P ops Q1 l a w→wpList P ops Q2 (l++l2) a w
 | [],a,w,h=>h2 _ _ h
 |o::r,a,w,h=>by
  rw[W7];rw[wpList] at h ⊢;split
  ·rename_i hw
   rw[if_pos hw] at h;exact h.imp (vk (nr l2 h2 hq r) hq) (fun⟨h3,a1,w1,h4⟩=>⟨h3,a1,w1,hq _ _ _ (by simp) h4⟩)
  ·rename_i hw
   rw[if_neg hw] at h;exact nr l2 h2 hq r _ _ h
theorem Bg {all r1 r2:List Oper} (h:GO P nt [.ops all r1] (fun e u=>kx P nt (.ops all r2::k) Q e u X) s):GX P nt (.ops all (r1++r2)::k) Q s X:=by
 intro M N a w hf hs;refine nr r2 (fun a' w' hp=>?_) (fun e a' w' he hp=>?_) r1 a w (h M N a w hf)
 ·obtain⟨M',N',s',hx,hf',hr⟩:=hp
  obtain⟨h1,h2⟩:=fP.frame hx hs;have:=hr M' N' a' w' hf' h2;exact fF (fun _ _ _=>mB.later h1) r2 a' w' this
 ·obtain⟨M',N',s',hx,hf',hr⟩:=hp
  obtain⟨h1,h2⟩:=fP.frame hx hs;refine⟨M',N',s',X,h1,hf',h2,?_⟩
  cases e with
  |normal=>exact absurd rfl he
  |_=>exact hr
theorem cR.drew {M:Mem} {N:Nm} {n:Nat} {h:AH} {X:aX} {w:World} (hs:cR M N n h X w):cR M N n h X {w with drawn:=w.drawn+1}:=
 ⟨hs.real,fun b o e hb=>OR.move (G:=fun _=>True) (.refl _) (AO.all_true o) (fun _ _ _ hv=>hv) rfl rfl rfl (hs.obj b o e hb),hs.du,hs.apart,hs.out⟩
theorem fP.drew {M:Mem} {N:Nm} {n:Nat} {h:AH} {X:aX} {w:World}:fP M N n h X w M N n h X {w with drawn:=w.drawn+1}:=
 ⟨rfl,rfl,rfl,VZ _,fun _ _ _=>rfl, .refl _,fun b c h1 h2=>by simp[h1] at h2, .refl _ _,VZ _,fun _ h=> .inr h⟩
theorem qU {all rest:List Oper} (m:Nat) (h:GO P nt [.ops all (rest.take m)] (fun e u=>kx P nt (.ops all (rest.drop m)::k) Q e u X) s):GX P nt (.ops all rest::k) Q s X:=by
 have:=Bg h;rwa[List.take_append_drop] at this
def SX (nt:Nat) (s:AS) (X:aX) (T:AS→aX→Prop):Prop:= ∀M N a w,Fits M N s nt a w→cR M N s.nx s.h X w→
 ∃M' N' t Y,fP M N s.nx s.h X w M' N' t.nx t.h Y w∧Fits M' N' t nt a w∧cR M' N' t.nx t.h Y w∧T t Y
theorem Dd {c:Code} {T:AS→aX→Prop} (h:SX nt s X T) (hk: ∀t Y,T t Y→GX P nt (.code c::k) Q t Y):GX P nt (.code c::k) Q s X:=by
 intro M N a w hf hs;obtain⟨M',N',t,Y,h1,h2,h3,h4⟩:=h M N a w hf hs;exact AX.then (hk t Y h4) h2 h3 fun e a2 w2 M2 N2 s2 X2 hx2 hf2 hs2 hr2=>⟨M2,N2,s2,X2,h1.trans hx2,hf2,hs2,hr2⟩
theorem vG {all rest:List Oper} {T:AS→aX→Prop} (h:SX nt s X T) (hk: ∀t Y,T t Y→GX P nt (.ops all rest::k) Q t Y):GX P nt (.ops all rest::k) Q s X:=by
 intro M N a w hf hs;obtain⟨M',N',t,Y,h1,h2,h3,h4⟩:=h M N a w hf hs;exact fF (fun _ _ _=>mB.later h1) rest a w (hk t Y h4 M' N' a w h2 h3)
theorem OK {L:List Nat} {t:AS} (hw:Wk s.nx L s t):SX nt s X (fun t' Y=>t'=t∧Y=X):=by
 intro M N a w hf hs;obtain⟨h1,h2⟩:=fP.frame (hw.ext (.refl M N (· <s.nx) s.h w)) hs;exact⟨M,_,t,X,h1,hw.fits hf,h2,rfl,rfl⟩
theorem Um {body:Code} {σ:Type 1} (I:σ→AS) (J:σ→aX) (μ:σ→Nat) (i0:σ) (L0:List Nat) (h0:Wk s.nx L0 s (I i0)) (hJ:J i0=X) (hst: ∀i,(J i).still)
  (round: ∀i,GX P nt (.code body:: .lp (fun t Y=> ∃j L,μ j<μ i∧Wk s.nx L t (I j)∧Y=J j)::k) Q (I i) (J i)):GX P nt (.code (.loop body)::k) Q s X:=by
 intro M0 N0 a0 w0 hf0 hs0
 let K:Act→World→Nat→Prop:=fun a w n=> ∃i M N,μ i=n∧fP M0 N0 s.nx s.h X w0 M N (I i).nx (I i).h (J i) w∧Fits M N (I i) nt a w∧cR M N (I i).nx (I i).h (J i) w
 have hK0:K a0 w0 (μ i0):=by
  obtain⟨h1,h2⟩:=fP.frame (h0.ext (.refl M0 N0 (· <s.nx) s.h w0)) hs0;exact⟨i0,M0,N0.comp (sg s.nx L0),rfl,by rw[hJ];exact h1,h0.fits hf0,by rw[hJ];exact h2⟩
 refine wp_loop (fun a w=> ∃n,K a w n) (fun a w=>by classical exact if h: ∃n,K a w n then X3 (cL h) else 0) ⟨_,hK0⟩ fun a w hex=>?_;obtain⟨⟨i,M,N,hi,hx,hf,hs⟩,hmin⟩:=Xv (cL hex);refine AX.then (round i) hf hs fun e a' w' M' N' s' X' hx' hf' hs' hr=>?_
 cases e with
 |normal=>
  obtain⟨j,L,hj,hw,hY⟩:=hr
  have hJ:K a' w' (μ j):=⟨j,M',N'.comp (sg s.nx L),rfl,by
   have hxx:=hx.trans hx';rw[hY] at hxx hs';refine⟨hxx.os,hxx.tape,hxx.output,hxx.size,hxx.gd,hxx.nZ,hxx.gm,⟨fun i hi=>?_,fun i hi=>?_⟩,by have:=hw.nx;omega,fun b hb=>hxx.fN b ?_⟩
   ·simp only[Nm.comp,eW hi];exact hxx.nm.aH i hi
   ·simp only[Nm.comp,eW hi];exact hxx.nm.ext i hi
   ·rcases hb with⟨i,o,h3,h4,h5⟩|hb
    ·obtain⟨⟨o',g1,g2⟩,_⟩:=gE hw.h i o h3
     exact .inl ⟨_,o',g1,g2.real ((AO.bN _ o).trans h4),h5⟩
    ·exact .inr hb,hw.fits hf',by
   rw[hY] at hs';refine⟨hs'.real,hs'.obj,hs'.du,fun b o e hb i p hi hre=>?_,fun b i e hb=>?_⟩
   ·obtain⟨⟨o',g1,g2⟩,_⟩:=gE hw.h i p hi
    exact hs'.apart b o e hb _ o' g1 (g2.real ((AO.bN _ p).trans hre))
   ·exact absurd hb (hst j b i e)⟩
  refine⟨⟨_,hJ⟩,?_⟩;simp only[dif_pos hex,dif_pos (⟨_,hJ⟩: ∃n,K a' w' n)];rw[←hi]
  exact Nat.lt_of_le_of_lt ((Xv (cL (⟨_,hJ⟩: ∃n,K a' w' n))).2 _ hJ) hj
 |_=>exact⟨M',N',s',X',hx.trans hx',hf',hs',hr⟩
theorem B2 {b e d:Nat} {o:AO} {p:PV} (hX:X b=some (.obj o e)) (hp: ∀(M:Mem) (N:Nm) (U:Nat→Prop) (x:Value),U s.nx→N.aH s.nx=b→N.ext s.nx=e→VR M N U (s.f.get d) x→VR M N U p x):
  SX nt s X (fun t Y=>t=⟨(d,p)::s.f,(s.nx,some o)::s.h,s.nx+1⟩∧Y=X.put b (.out s.nx e)):=by
 intro M N a w hf hs;obtain⟨f,h,n⟩:=s
 let N':Nm:=⟨fun j=>if j=n then b else N.aH j,fun j=>if j=n then e else N.ext j⟩
 have hag:N.agree N' (· <n):=⟨fun i hi=>if_neg (YC hi),fun i hi=>if_neg (YC hi)⟩
 have hbn:N'.aH n=b:=if_pos rfl;have hen:N'.ext n=e:=if_pos rfl;have hU: ∀i,i<n→i<n+1:=fun i hi=>Xs hi;have hre:=hs.real b o e hX
 have hget: ∀i q,AH.get ((n,some o)::h) i=some q→(i=n∧q=o)∨(i<n∧h.get i=some q):=by
  intro i q hi;rw[AH.ay] at hi;split at hi
  ·rename_i hin;exact .inl ⟨hin,by simpa using hi.symm⟩
  ·exact .inr ⟨hf.1.used i q hi,hi⟩
 refine⟨M,N',⟨(d,p)::f,(n,some o)::h,n+1⟩,X.put b (.out n e),⟨rfl,rfl,rfl,VZ _,fun _ _ _=>rfl, .refl _,fun c m h1 h2=>by simp[h1] at h2,hag,XX _,fun c hc=> .inr ?_⟩,⟨⟨hf.1.du,fun i q hi=>?_,fun i q hi hr=>?_,fun i q hi=>?_,fun i j q r hi hj hq hr he=>?_⟩,fun k=>?_,hf.2.2⟩,⟨fun c q g hc=>?_,fun c q g hc=>?_,fun c q g hc=>?_,fun c q g hc i r hi hr=>?_,fun c i g hc=>?_⟩,rfl,rfl⟩
 ·rcases hc with⟨i,q,h1,h2,h3⟩|⟨q,g,h1⟩
  ·rcases hget i q h1 with⟨rfl,rfl⟩|⟨h4,h5⟩
   ·rw[hbn] at h3;subst h3;exact .inr ⟨_,_,hX⟩
   ·exact .inl ⟨i,q,h5,h2,by rw[←h3];exact(hag.aH i h4).symm⟩
  ·by_cases hcb:c=b
   ·subst hcb;rw[aX.eC] at h1;cases h1
   ·rw[aX.ie _ _ hcb] at h1;exact .inr ⟨q,g,h1⟩
 ·rcases hget i q hi with⟨rfl,rfl⟩|⟨h4,_⟩
  ·exact Xo _
  ·exact hU i h4
 ·rcases hget i q hi with⟨rfl,rfl⟩|⟨h4,h5⟩
  ·rw[hbn];exact hs.du _ _ _ hX
  ·rw[hag.aH i h4];exact hf.1.dz i q h5 hr
 ·rcases hget i q hi with⟨rfl,rfl⟩|⟨h4,h5⟩
  ·exact OR.move (G:=fun _=>True) (.refl _) (AO.all_true _) (fun p y _ hv=>hv.zy (.refl _)) hbn hen rfl (hs.obj b _ e hX)
  ·exact(hf.1.obj i q h5).mono (.refl _) hag hU h4 rfl
 ·rcases hget i q hi with⟨rfl,rfl⟩|⟨h4,h5⟩<;>rcases hget j r hj with⟨h6,rfl⟩|⟨h6,h7⟩
  ·exact h6.symm
  ·rw[hbn,hag.aH j h6] at he
   exact absurd he.symm (hs.apart b _ e hX j r h7 hr)
  ·subst h6
   rw[hbn,hag.aH i h4] at he;exact absurd he (hs.apart b _ e hX i q h5 hq)
  ·rw[hag.aH i h4,hag.aH j h6] at he
   exact hf.1.inj i j q r h5 h7 hq hr he
 ·rw[AF.ay]
  split
  ·rename_i hk
   subst hk;exact hp M N' _ _ (Xo _) hbn hen ((hf.2.1 k).mono (.refl _) hag hU)
  ·exact(hf.2.1 k).mono (.refl _) hag hU
 all_goals by_cases hcb:c=b
 ·subst hcb;rw[aX.eC] at hc;cases hc
 ·rw[aX.ie _ _ hcb] at hc;exact hs.real c q g hc
 ·subst hcb;rw[aX.eC] at hc;cases hc
 ·rw[aX.ie _ _ hcb] at hc;exact hs.obj c q g hc
 ·subst hcb;rw[aX.eC] at hc;cases hc
 ·rw[aX.ie _ _ hcb] at hc;exact hs.du c q g hc
 ·subst hcb;rw[aX.eC] at hc;cases hc
 ·rw[aX.ie _ _ hcb] at hc
  rcases hget i r hi with⟨rfl,rfl⟩|⟨h4,h5⟩
  ·rw[hbn];exact fun e=>hcb e.symm
  ·rw[hag.aH i h4];exact hs.apart c q g hc i r h5 hr
 ·subst hcb;rw[aX.eC] at hc;cases hc;exact⟨Xo _,hbn,hen⟩
 ·rw[aX.ie _ _ hcb] at hc
  obtain⟨h1,h2,h3⟩:=hs.out c i g hc;exact⟨hU i h1,(hag.aH i h1).trans h2,(hag.ext i h1).trans h3⟩
theorem Aq {b e d len cap sz:Nat} {o:AO} (hX:X b=some (.obj o e)) (hd:s.f.get d= .iv (.v (.slice (some ⟨b,0,none⟩) len cap))) (h0:0<len) (hl:len≤cap) (hc:cap≤maxLen) (he:cap*sz=e):
  SX nt s X (fun t Y=>t=⟨(d, .sl s.nx 0 len sz)::s.f,(s.nx,some o)::s.h,s.nx+1⟩∧Y=X.put b (.out s.nx e)):=
 B2 hX fun M N U x hu hb hE hv=>by
  rw[hd] at hv
  cases hv with
  |iv _ _ hi=>cases hi with
   |v=>
    have:=VR.sl (M:=M) (N:=N) s.nx 0 len sz cap hu h0 hl hc (by rw[hE,Wn];exact he);rw[hb,XF] at this;exact this
theorem Ar {b e d:Nat} {o:AO} (hX:X b=some (.obj o e)) (hd:s.f.get d= .iv (.v (.map (some b)))):
  SX nt s X (fun t Y=>t=⟨(d, .mp s.nx)::s.f,(s.nx,some o)::s.h,s.nx+1⟩∧Y=X.put b (.out s.nx e)):=
 B2 hX fun M N U x hu hb hE hv=>by
  rw[hd] at hv
  cases hv with
  |iv _ _ hi=>cases hi with
   |v=>
    have:=VR.mp (M:=M) (N:=N) s.nx hu;rw[hb] at this;exact this
theorem Rel.drop {M:Mem} {N:Nm} {n:Nat} {h:AH} {w:World} (hr:Rel M N (· <n) h w) (i:Nat):Rel M N (· <n) ((i,none)::h) w:=
 ⟨hr.du,fun j o hj=>hr.used j o (a8 j o hj).2,fun j o hj hre=>hr.dz j o (a8 j o hj).2 hre,fun j o hj=>hr.obj j o (a8 j o hj).2,fun j l o p hj hl ho hp he=>hr.inj j l o p (a8 j o hj).2 (a8 l p hl).2 ho hp he⟩
theorem zh {M:Mem} {N:Nm} {n:Nat} {h:AH} {w:World} (hr:Rel M N (· <n) h w) (hs:cR M N n h X w) {i:Nat} {o:AO} (hi:h.get i=some o) (hre:o.real=true) (hfl:o.all PV.flat):
  fP M N n h X w M N n ((i,none)::h) (X.put (N.aH i) (.obj o (N.ext i))) w∧cR M N n ((i,none)::h) (X.put (N.aH i) (.obj o (N.ext i))) w:=by
 refine⟨⟨rfl,rfl,rfl,VZ _,fun _ _ _=>rfl, .refl _,fun b c h1 h2=>by simp[h1] at h2, .refl _ _,VZ _,fun c hc=> .inr ?_⟩,fun c q g hc=>?_,fun c q g hc=>?_,fun c q g hc=>?_,fun c q g hc j r hj hrr=>?_,fun c j g hc=>?_⟩
 ·rcases hc with⟨j,q,h1,h2,h3⟩|⟨q,g,h1⟩
  ·exact .inl ⟨j,q,(a8 j q h1).2,h2,h3⟩
  ·by_cases hcb:c=N.aH i
   ·exact .inl ⟨i,o,hi,hre,hcb.symm⟩
   ·rw[aX.ie _ _ hcb] at h1;exact .inr ⟨q,g,h1⟩
 all_goals by_cases hcb:c=N.aH i
 ·subst hcb;rw[aX.eC] at hc;cases hc;exact hre
 ·rw[aX.ie _ _ hcb] at hc;exact hs.real c q g hc
 ·subst hcb;rw[aX.eC] at hc;cases hc
  exact OR.move (G:=PV.flat) (N:=N) (i:=i) (.refl _) hfl (fun p x hg hv=>hv.IL hg) rfl rfl rfl (hr.obj i o hi)
 ·rw[aX.ie _ _ hcb] at hc;exact hs.obj c q g hc
 ·subst hcb;exact hr.dz i o hi hre
 ·rw[aX.ie _ _ hcb] at hc;exact hs.du c q g hc
 ·obtain⟨h1,h2⟩:=a8 j r hj
  subst hcb;exact fun e=>h1 (hr.inj j i r o h2 hi hrr hre e)
 ·rw[aX.ie _ _ hcb] at hc;exact hs.apart c q g hc j r (a8 j r hj).2 hrr
 ·subst hcb;rw[aX.eC] at hc;cases hc
 ·rw[aX.ie _ _ hcb] at hc;exact hs.out c j g hc
theorem T1 {b e i:Nat} {o:AO} (hX:X b=some (.out i e)) (hi:s.h.get i=some o) (hre:o.real=true) (hfl:o.all PV.flat):
  SX nt s X (fun t Y=>t=⟨s.f,(i,none)::s.h,s.nx⟩∧Y=X.put b (.obj o e)):=by
 intro M N a w hf hs;obtain⟨h1,rfl,rfl⟩:=hs.out b i e hX;obtain⟨h2,h3⟩:=zh hf.1 hs hi hre hfl;exact⟨M,N,⟨s.f,(i,none)::s.h,s.nx⟩,_,h2,⟨hf.1.drop i,hf.2⟩,h3,rfl,rfl⟩
theorem B3 {i d:Nat} {o:AO} {G:Nat→Nat→PV→Prop} (hst:X.still) (hi:s.h.get i=some o) (hre:o.real=true) (hfl:o.all PV.flat)
  (hq: ∀(M:Mem) (N:Nm) (U:Nat→Prop) (x:Value),VR M N U (s.f.get d) x→ ∃q,G (N.aH i) (N.ext i) q∧VR M N U q x):
  SX nt s X (fun t Y=> ∃b e q,X b=none∧G b e q∧t=⟨(d,q)::s.f,(i,none)::s.h,s.nx⟩∧Y=X.put b (.obj o e)):=by
 intro M N a w hf hs;obtain⟨h2,h3⟩:=zh hf.1 hs hi hre hfl;obtain⟨q,h4,h5⟩:=hq M N _ _ (hf.2.1 d);refine⟨M,N,⟨(d,q)::s.f,(i,none)::s.h,s.nx⟩,_,h2,⟨hf.1.drop i,fun k=>?_,hf.2.2⟩,h3,N.aH i,N.ext i,q,?_,h4,rfl,rfl⟩
 ·rw[AF.ay]
  split
  ·rename_i hk;subst hk;exact h5
  ·exact hf.2.1 k
 ·cases hx:X (N.aH i) with
  |none=>rfl
  |some y=>
   cases y with
   |obj p g=>exact absurd rfl (hs.apart _ p g hx i o hi hre)
   |out j g=>exact absurd hx (hst _ _ _)
theorem tI {i d len sz:Nat} {o:AO} (hst:X.still) (hi:s.h.get i=some o) (hre:o.real=true) (hfl:o.all PV.flat) (hd:s.f.get d= .sl i 0 len sz) (h0:0<len):
  SX nt s X (fun t Y=> ∃b e cap,X b=none∧len≤cap∧cap≤maxLen∧cap*sz=e∧t=⟨(d, .iv (.v (.slice (some ⟨b,0,none⟩) len cap)))::s.f,(i,none)::s.h,s.nx⟩∧Y=X.put b (.obj o e)):=by
 intro M N a w hf hs
 obtain⟨M',N',t,Y,h1,h2,h3,b,e,q,h4,⟨cap,h5,h6,h7,rfl⟩,h8,h9⟩:=B3 (G:=fun b e q=> ∃cap,len≤cap∧cap≤maxLen∧cap*sz=e∧q= .iv (.v (.slice (some ⟨b,0,none⟩) len cap))) (d:=d) hst hi hre hfl (fun M N U x hv=>by
  rw[hd] at hv
  cases hv with
  |sl _ _ _ _ cap hu h0 hl hc he=>exact⟨_,⟨cap,hl,hc,by rw[Wn] at he;exact he,rfl⟩,by rw[XF];exact .iv _ _ (.v _)⟩
  |mD=>exact absurd h0 (Yx _)) M N a w hf hs
 exact⟨M',N',t,Y,h1,h2,h3,b,e,cap,h4,h5,h6,h7,h8,h9⟩
theorem As {i d:Nat} {o:AO} (hst:X.still) (hi:s.h.get i=some o) (hre:o.real=true) (hfl:o.all PV.flat) (hd:s.f.get d= .mp i):
  SX nt s X (fun t Y=> ∃b e,X b=none∧t=⟨(d, .iv (.v (.map (some b))))::s.f,(i,none)::s.h,s.nx⟩∧Y=X.put b (.obj o e)):=by
 intro M N a w hf hs
 obtain⟨M',N',t,Y,h1,h2,h3,b,e,q,h4,rfl,h8,h9⟩:=B3 (G:=fun b e q=>q= .iv (.v (.map (some b)))) (d:=d) hst hi hre hfl (fun M N U x hv=>by
  rw[hd] at hv
  cases hv with
  |mp _ hu=>exact⟨_,rfl, .iv _ _ (.v _)⟩) M N a w hf hs
 exact⟨M',N',t,Y,h1,h2,h3,b,e,h4,h8,h9⟩
inductive Up (X:aX):Value→IV→Prop
 | row (b len cap sz e:Nat) (es:List (List PV)) (el:Nat→List IV) (hX:X b=some (.obj (.row sz es) e)) (hn:len=es.length) (hl:len≤cap) (hc:cap≤maxLen) (hel: ∀k e,es[k]? =some e→e=(el k).map .iv):
   Up X (.slice (some ⟨b,0,none⟩) len cap) (.cK sz len el)
 |map {V:Type} (b e:Nat) (kc:KC) (ev:V→IV) (z:V) (zv:Value) (dv:PV→V) (m:List (kc.K×V)) (hX:X b=some (.obj (.map kc ev z zv dv m) e)):Up X (.map (some b)) (.dG kc ev z zv m)
 |ej {V:Type} (b e:Nat) (kc:KC) (ev:V→IV) (z:V) (zv:Value) (hX:X b=some (.obj .ej e)) (hz: ∀M,IR M (ev z) zv):Up X (.map (some b)) (.dG kc ev z zv [])
 |A2 (y:Value):Up X y (.v y)
 |nil (sz:Nat) (el:Nat→List IV) (a:Option Addr) (cap:Nat):Up X (.slice a 0 cap) (.cK sz 0 el)
theorem Ce {M:Mem} {N:Nm} {n:Nat} {h:AH} {w:World} (hr:Rel M N (· <n) h w) (hs:cR M N n h X w):
  ∃M':Mem,M.le M'∧fP M N n h X w M' N n h aX.nil w∧Rel M' N (· <n) h w∧ ∀y p,Up X y p→IR M' p y:=by
 let M':Mem:=⟨fun b=>match X b with
  |some (.obj _ _)=>(match w.heap[b]? with|some (.cells c _ _)=>some (.cells c)|some (.map es cl)=>some (.map es cl)|_=>none)
  |_=>M.fn b,fun b c hb=>by
   have:=M.JQ b c hb
   cases hx:X b with
   |none=>simpa using this
   |some y=>cases y with
    |obj o e=>exact absurd (this.symm.trans (hs.du b o e hx)) (by simp)
    |out i e=>simpa using this⟩
 have hMo: ∀b,(∀o e,X b≠some (.obj o e))→M' b=M b:=fun b hb=>by
  show(match X b with|some (.obj _ _)=>_|_=>M.fn b)=M.fn b
  cases hx:X b with
  |none=>rfl
  |some y=>cases y with
   |obj o e=>exact absurd hx (hb o e)
   |out i e=>rfl
 have hMx: ∀b o e,X b=some (.obj o e)→M' b=(match w.heap[b]? with|some (.cells c _ _)=>some (MB.cells c)|some (.map es cl)=>some (MB.map es cl)|_=>none):=fun b o e hb=>by
  show(match X b with|some (.obj _ _)=>_|_=>M.fn b)=_;rw[hb]
 have hle:M.le M':=fun b c hb=>by
  rw[hMo b fun o e hx=>absurd (hb.symm.trans (hs.du b o e hx)) (by simp)];exact hb
 refine⟨M',hle,⟨rfl,rfl,rfl,VZ _,fun _ _ _=>rfl,hle,fun b c h1 h2=>?_, .refl _ _,VZ _,fun c hc=> .inr ?_⟩,⟨fun b c hb=>?_,hr.used,fun i o hi hre=>?_,fun i o hi=>(hr.obj i o hi).mono hle (.refl _ _) (fun _ h=>h) (hr.used i o hi) rfl,hr.inj⟩,fun y p hu=>?_⟩
 ·cases hx:X b with
  |none=>rw[hMo b (by simp[hx]),h1] at h2;cases h2
  |some y=>cases y with
   |obj o e=>exact .inr (.inr ⟨o,e,hx⟩)
   |out i e=>rw[hMo b (by simp[hx]),h1] at h2;cases h2
 ·rcases hc with hc|⟨o,e,hc⟩
  ·exact .inl hc
  ·cases hc
 ·cases hx:X b with
  |none=>rw[hMo b (by simp[hx])] at hb;exact hr.du b c hb
  |some y=>cases y with
   |out i e=>rw[hMo b (by simp[hx])] at hb;exact hr.du b c hb
   |obj o e=>
    rw[hMx b o e hx] at hb;split at hb
    ·rename_i hh;cases hb;exact⟨_,_,hh⟩
    ·rename_i hh;cases hb;exact hh
    ·cases hb
 ·rw[hMo _ fun q e hx=>hs.apart _ q e hx i o hi hre rfl];exact hr.dz i o hi hre
 ·cases hu with
  |A2=>exact .v _
  |nil=>exact .iC _ _ _ _
  |ej b e kc ev z zv hX hz=>
   have h1:=hs.obj b _ e hX;have h2:M' b=some (.map #[] 0):=by rw[hMx b _ e hX];rw[show w.heap[b]? =some (.map #[] 0) from h1]
   exact .dG _ _ _ _ _ b #[] 0 h2 rfl (by simp) (by simp) (hz M') (by simp) (by simp)
  |map b e kc ev z zv dv m hX=>
   obtain⟨ents,cl,h1,h2,h3⟩:=hs.obj b _ e hX;have h4:M' b=some (.map ents cl):=by rw[hMx b _ e hX];rw[show w.heap[b]? =some (.map ents cl) from h1]
   have h5:=h2.mono hle
   exact .dG _ _ _ _ _ b ents cl h4 h5.size h5.key h5.val (h3.mono hle) h5.inj h5.lt
  |row b len cap sz e es el hX hn hl hc hel=>
   rcases hs.obj b _ e hX with h0|⟨h0,c,T,g1,g2,g3,g4,g5⟩
   ·have:=hs.real b _ e hX
    rw[h0] at this;cases this
   have h4:M' b=some (.cells c):=by rw[hMx b _ e hX];rw[show w.heap[b]? =some (.cells c T (0,0)) from g1]
   have hcell: ∀o,M'.cell b o=c[o]? :=fun o=>by simp only[Mem.cell,h4]
   have hek: ∀k,k<len→ ∃e,es[k]? =some e:=fun k hk=>⟨_,VS (by omega)⟩
   have hlt: ∀k j,k<len→j<sz→k*sz+j<c.size:=fun k j hk hj=>by
    have:(k+1)*sz≤es.length*sz:=Wt _ (by omega);rw[WX] at this;omega
   refine .cK _ _ _ _ _ _ hl hc (fun k hk=>?_) (fun k j hk hj=>?_) (fun k j p hk hp=>?_)
   ·obtain⟨e,he⟩:=hek k hk
    have:=g4 _ e he;rw[hel _ e he] at this;simpa using this
   ·rw[hcell,Wn];simp[hlt k j hk hj]
   ·obtain⟨e,he⟩:=hek k hk
    have h9:=g4 _ e he;have h10:=hel _ e he;have hj:j<sz:=by rw[←h9,h10,Wr];exact(VO.1 hp).1
    have:=g5 _ e j (.iv p) he (by rw[h10,VV,hp];rfl);rw[hcell,Wn];rw[VK] at this
    cases this with
    |iv _ _ h=>exact h.mono hle
def Up1 (X:aX) (p p':PV):Prop:=p'=p∨ ∃y q,p= .iv (.v y)∧p'= .iv q∧Up X y q
inductive Kh (X:aX):AO→AO→Prop
 | row (sz:Nat) (es es':List (List PV)) (hl:es'.length=es.length) (h: ∀(k:Nat) (e':List PV),es'[k]? =some e'→ ∃e,es[k]? =some e∧e'.length=e.length∧ ∀(j:Nat) (p':PV),e'[j]? =some p'→ ∃p,e[j]? =some p∧Up1 X p p'):
   Kh X (.row sz es) (.row sz es')
 | map {V V':Type} (kc:KC) (ev:V→IV) (z:V) (zv:Value) (dv:PV→V) (m:List (kc.K×V)) (ev':V'→IV) (z':V') (dv':PV→V') (m':List (kc.K×V')) (hl:m'.length=m.length)
   (h: ∀(j:Nat) (x':kc.K×V'),m'[j]? =some x'→ ∃x y,m[j]? =some x∧x'.1=x.1∧ev x.2= .v y∧Up X y (ev' x'.2)) (hz: ∀M,IR M (ev' z') zv):Kh X (.map kc ev z zv dv m) (.map kc ev' z' zv dv' m')
theorem Kh.or {M M':Mem} {N:Nm} {U:Nat→Prop} {w:World} {i:Nat} {o o':AO} (hle:M.le M') (hu: ∀y p,Up X y p→IR M' p y) (h:Kh X o o') (ho:OR M N U w i o):OR M' N U w i o':=by
 have hv: ∀p p' x,Up1 X p p'→VR M N U p x→VR M' N U p' x:=by
  rintro p p' x (rfl|⟨y,q,rfl,rfl,h3⟩) hx
  ·exact hx.mono hle (.refl _ _) (fun _ h=>h)
  ·cases hx with
   |iv _ _ hi=>cases hi with
    |v=>exact .iv _ _ (hu _ _ h3)
 cases h with
 |row sz es es' hl h=>
  rcases ho with rfl|⟨h0,c,T,g1,g2,g3,g4,g5⟩
  ·left;exact XP.1 hl
  ·refine .inr ⟨h0,c,T,g1,g2,by rw[hl];exact g3,fun k e' he'=>?_,fun k e' j p' he' hp'=>?_⟩
   ·obtain⟨e,h1,h2,_⟩:=h k e' he'
    rw[h2];exact g4 k e h1
   ·obtain⟨e,h1,_,h3⟩:=h k e' he'
    obtain⟨p,h4,h5⟩:=h3 j p' hp'
    exact hv _ _ _ h5 (g5 k e j p h1 h4)
 |map kc ev z zv dv m ev' z' dv' m' hl h hz=>
  obtain⟨ents,cl,g1,g2,g3⟩:=ho;refine⟨ents,cl,g1,⟨g2.size.trans hl.symm,fun j x' hx'=>?_,fun j x' hx'=>?_,g2.inj,g2.lt⟩,hz M'⟩
  ·obtain⟨x,y,h1,h2,_⟩:=h j x' hx'
   rw[h2];exact g2.key j x h1
  ·obtain⟨x,y,h1,_,h3,h4⟩:=h j x' hx'
   have:=g2.val j x h1;rw[h3] at this;generalize(ents.getD j default).val=v at this ⊢
   cases this with
   |v=>exact hu _ _ h4
theorem Kh.real {o o':AO} (h:Kh X o o'):o'.real=o.real:=by
 cases h with
 |row sz es es' hl h=>cases es<;>cases es'<;>first|rfl|simp at hl
 |map=>rfl
theorem B4 {i:Nat} {o o':AO} (hi:s.h.get i=some o) (hu:Kh X o o'):SX nt s X (fun t Y=>t=⟨s.f,(i,some o')::s.h,s.nx⟩∧Y=aX.nil):=by
 intro M N a w hf hs;obtain⟨M',h1,h2,h3,h4⟩:=Ce hf.1 hs
 have hget: ∀j q,AH.get ((i,some o')::s.h) j=some q→ ∃q',s.h.get j=some q'∧q.real=q'.real∧(q=q'∨(j=i∧q=o')):=by
  intro j q hj;rw[AH.ay] at hj;split at hj
  ·rename_i hji;subst hji;cases hj;exact⟨o,hi,hu.real, .inr ⟨rfl,rfl⟩⟩
  ·exact⟨q,hj,rfl, .inl rfl⟩
 refine⟨M',N,⟨s.f,(i,some o')::s.h,s.nx⟩,aX.nil,?_,⟨⟨h3.du,fun j q hj=>?_,fun j q hj hr=>?_,fun j q hj=>?_,fun j k q r hj hk hq hr he=>?_⟩,fun k=>(hf.2.1 k).mono h1 (.refl _ _) (fun _ h=>h),hf.2.2⟩, .nil ..,rfl,rfl⟩
 ·exact⟨h2.os,h2.tape,h2.output,h2.size,h2.gd,h2.nZ,h2.gm,h2.nm,h2.ule,fun b hb=> .inr<|by
   rcases hb with⟨j,q,g1,g2,g3⟩|⟨q,g,g1⟩
   ·obtain⟨q',g4,g5,_⟩:=hget j q g1
    exact .inl ⟨j,q',g4,g5▸g2,g3⟩
   ·cases g1⟩
 ·obtain⟨q',g4,_⟩:=hget j q hj
  exact hf.1.used j q' g4
 ·obtain⟨q',g4,g5,_⟩:=hget j q hj
  exact h3.dz j q' g4 (g5▸hr)
 ·obtain⟨q',g4,_,rfl|⟨rfl,rfl⟩⟩:=hget j q hj
  ·exact h3.obj j _ g4
  ·exact hu.or h1 h4 (hf.1.obj j o hi)
 ·obtain⟨q',g4,g5,_⟩:=hget j q hj
  obtain⟨r',g6,g7,_⟩:=hget k r hk;exact hf.1.inj j k q' r' g4 g6 (g5▸hq) (g7▸hr) he
theorem Rel.congr {M:Mem} {N:Nm} {U:Nat→Prop} {h h':AH} {w:World} (he: ∀i,h'.get i=h.get i) (hr:Rel M N U h w):Rel M N U h' w:=
 ⟨hr.du,fun i o hi=>hr.used i o (he i▸hi),fun i o hi=>hr.dz i o (he i▸hi),fun i o hi=>hr.obj i o (he i▸hi),fun i j o p hi hj=>hr.inj i j o p (he i▸hi) (he j▸hj)⟩
end
end Go.Al
