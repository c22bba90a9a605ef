/-
  What the proofs of the claims need: part 5 of 7.
-/
import Derived.Test.YtflegjieadkonaaGreatDoorPart4
import Derived.KernelRfl
import Derived.Test.YtflegjieadkonaaGreatDoorRows
import Derived.WalkKit
import Derived.ProofKit
import Derived.OpenShut
import Derived.Deep.DeepHandedRow
import Derived.Lib.LaidTab
import Derived.LaidSub
import Derived.MakeChecks
import Derived.Test.YtflegjieadkonaaGreatDoorCards
import Derived.Test.YtflegjieadkonaaGreatDoorTie
import Derived.Laws.MakeOwn
import Derived.Laws.Slices
open And renaming intro→Wl
open Array renaming getD_eq_getD_getElem?→Wm,getElem?_eq_getElem→Xa,getElem?_map→Yw,getElem?_modify→W8,getElem?_toList→Xh,range→Zs
open Bool renaming and_eq_false_iff→Ym,and_eq_true→WN,eq_false_iff→XD,eq_iff_iff→Xn,false_eq_true→Yl,not_eq_false'→XL,not_eq_true'→W5,or_eq_false_iff→XY,or_eq_true→Xl
open ByteArray renaming empty→Wu
open Classical renaming byContradiction→XJ
open Int renaming le_refl→Yi,ofNat_lt→Xe,toNat_natCast→Wp
open List.Pairwise renaming imp→ZA
open List renaming all_eq_false→YB,all_eq_true→WX,any_eq_false→Xg,any_eq_true→Xr,append_assoc→Wv,append_eq_nil_iff→Yy,append_nil→Xo,cons_append→XF,countP_cons→Y3,countP_eq_length→Zp,countP_le_length→Y0,countP_mono_left→YZ,countP_pos_iff→Zy,filter_cons→Yk,find?_cons→YP,find?_eq_none→XC,find?_some→Y5,flatMap_append→Ys,flatMap_cons→XA,foldl_append→Ye,foldl_cons→Xf,getD_cons_succ→XO,getD_eq_getElem?_getD→Ws,getElem?_append_left→WH,getElem?_append_right→WJ,getElem?_drop→Xx,getElem?_eq_getElem→Wt,getElem?_eq_some_iff→Wr,getElem?_map→Ww,getElem?_of_mem→W6,getElem?_replicate→Zh,getElem?_set→XP,getElem?_take→W7,getElem?_toArray→Xv,getElem_inj→YJ,getElem_mem→Xj,length_append→Wn,length_cons→W2,length_eq_zero_iff→XS,length_filter_le→XB,length_map→W3,length_nil→X4,length_range→Yp,length_singleton→Xp,length_take→Xb,map_append→Wq,map_cons→WI,map_nil→Xd,mem_append→WD,mem_append_left→W0,mem_append_right→XV,mem_cons→WG,mem_cons_of_mem→WE,mem_cons_self→WM,mem_filter→WW,mem_flatMap→X9,mem_iff_getElem→XH,mem_map→W4,mem_map_of_mem→Xs,mem_of_find?_eq_some→Yn,mem_of_getElem?→WY,mem_range→WZ,mem_singleton→Wy,mem_singleton_self→Yf,nil_append→Yg,nodup_append→XR,nodup_cons→Xu,nodup_nil→Xk,pairwise_append→YD,pairwise_cons→XK,range→WL,replicate→YE,sum_cons→XN,take_length→Ya,take_of_length_le→WB,take_succ_cons→XE
open Nat renaming add_assoc→XZ,add_le_add_right→Y4,add_mul→Xw,beq→WO,ble→YG,ble_eq_true_of_le→Xi,blt→WU,eq_of_beq_eq_true→WK,eq_zero_or_pos→Yx,le_antisymm→YQ,le_of_ble_eq_true→Wj,le_of_not_lt→Xc,le_refl→Wz,le_succ→YC,le_trans→WV,lt_or_ge→W9,lt_succ_iff_lt_or_eq→XW,max_eq_right→ZE,mod_eq_of_lt→Yj,mul_le_mul_right→WR,not_lt_zero→Yz,succ_mul→YH,zero_add→WQ,zero_le→WC,zero_mul→X0
open Option renaming getD_some→XM,map_eq_some_iff→Wx,map_none→YN,map_some→Xy
open Option.some renaming inj→Xt
open Prod renaming fst→WT
open Prod.mk renaming injEq→WA
namespace Go.Proofs.YtflegjieadkonaaGreatDoor
open Go Go.Al
set_option maxRecDepth 10000
theorem bU {P:Program} {nt:Nat} {Q:AQ} {k:List KI} {s t:AS} {c:Code} (L:List Nat) (h0:Wk s.nx L s t) (h:GO P nt (.code c::k) Q t):GO P nt (.code c::k) Q s:=by
 intro M N a w hf;exact AW.then h (h0.fits hf) fun e a' w' M' N' s' hx hf' hr=>⟨M',N',s',(h0.ext (.refl _ _ _ _ _)).trans hx,hf',hr⟩
theorem J1:eU .eE (pC []):=⟨id,fun M N U w j hj=>⟨#[],0,hj,⟨rfl,by simp,by simp,by simp,by simp⟩, .agg _ _ rfl fun j p hj=>by
 match j,hj with
 |0,hj=>cases hj;exact .v _
 |1,hj=>cases hj;exact .v _
 |j+2,hj=>simp[bY.c] at hj⟩⟩
theorem J2:eU .eE (p3 []):=⟨id,fun M N U w j hj=>⟨#[],0,hj,⟨rfl,by simp,by simp,by simp,by simp⟩,eR M⟩⟩
def np (s:aj):Expr:= .mk 1 s ⟨0,0,Wu⟩ 0 []
abbrev ET (s:aj):PV:= .agg [pI 1,pS s,pI 0,pI 0,pS Wu,pI 0, .iv (.v (.slice none 0 0))]
theorem ve (s:aj):ah (ET s) (ag (np s).c):= .agg ⟨.refl _, .refl _, .refl _, .refl _, .refl _, .refl _, .nil _ _,trivial⟩
theorem kg (s:aj):(np s).size=1:=rfl
def tE (r:ak) (i:Int) (t:TS) (f:Int) (v:aj) (o:Expr):TS:=
 if f=2 then(t.add (fo r i i o)).add (fo r i i (np v)) else if f=1 then t.add (fo r i i (np v)) else gF r i i t (np v) o
def mq (p:Prog) (r:ak) (i:Int) (t:TS) (ls:List Lit):Nat→TS
 |0=>t
 |k+1=>ly p r i i (mq p r i t ls k) (ls.getD k default)
def stepT (p:Prog) (r:ak) (i:Int) (t:TS) (l:Lit):TS:=
 if l.kind=4 then mq p r i (tE r i t l.dG l.bp l.jZ) l.ay l.ay.length else ly p r i (-1) t l
def TS.o:TS:=⟨[],[],[]⟩
def cR (p:Prog) (r:ak):Nat→TS
 |0=>TS.o.add (dF p r r.head (-1) (-1) r.head.aq.length)
 |k+1=>stepT p r k (cR p r k) (r.body.getD k default)
def ct (up:UM) (m:KM) (w:Want):KM:=if w.has=0∧bG (.si .i64) m (bD up w.at_) 0=0 then bS (.si .i64) m (bD up w.at_) w.kind else m
def iU (p:Prog) (r:ak):TS:=⟨(cR p r r.body.length).up,(cR p r r.body.length).ws,(cR p r r.body.length).ws.foldl (ct (cR p r r.body.length).up) []⟩
theorem Cn (r:ak) (i:Int) {t:TS} (ok:gm t.up) (f:Int) (v:aj) (o:Expr):gm (tE r i t f v o).up:=by
 unfold tE
 repeat' split
 ·exact ok
 ·exact ok
 ·exact yl r i i ok _ _
theorem xH (p:Prog) (r:ak) (i:Int) {t:TS} (ok:gm t.up) (ls:List Lit): ∀k,gm (mq p r i t ls k).up
 |0=>ok
 |k+1=>DA p r i i (xH p r i ok ls k) _
theorem Jm (p:Prog) (r:ak) (i:Int) {t:TS} (ok:gm t.up) (l:Lit):gm (stepT p r i t l).up:=by
 unfold stepT;split
 ·exact xH p r i (Cn r i ok _ _ _) _ _
 ·exact DA p r i (-1) ok l
theorem wg (p:Prog) (r:ak): ∀k,gm (cR p r k).up
 |0=>trivial
 |k+1=>Jm p r k (wg p r k) _
theorem tr (r:ak) (lit w:Int) (t:TS) (a b:Expr):(gF r lit w t a b).kind=t.kind:=by
 have h1: ∀(t:TS) u v,(tF t u v).kind=t.kind:=fun t u v=>by unfold tF;split<;>rfl
 have h2: ∀(t:TS) x y,(fw r lit w t x y).kind=t.kind:=fun t x y=>by
  unfold fw;split
  ·exact h1 _ _ _
  ·rfl
 unfold gF;split<;>exact h2 _ _ _
theorem xA (p:Prog) (r:ak) (lit w:Int) (t:TS) (l:Lit):(ly p r lit w t l).kind=t.kind:=by
 unfold ly
 repeat' split
 ·rfl
 ·exact tr r lit w t _ _
 ·rfl
 ·rfl
theorem Ak (p:Prog) (r:ak) (i:Int) (t:TS) (ls:List Lit): ∀k,(mq p r i t ls k).kind=t.kind
 |0=>rfl
 |k+1=>by rw[mq,xA,Ak p r i t ls k]
theorem Ba (p:Prog) (r:ak) (i:Int) (t:TS) (l:Lit):(stepT p r i t l).kind=t.kind:=by
 unfold stepT;split
 ·rw[Ak]
  unfold tE
  repeat' split
  ·rfl
  ·rfl
  ·exact tr r i i t _ _
 ·exact xA p r i (-1) t l
theorem u5 (p:Prog) (r:ak): ∀k,(cR p r k).kind=[]
 |0=>rfl
 |k+1=>by rw[cR,Ba,u5 p r k]
theorem zD (r:ak) (i:Int) (t:TS) (f:Int) (v:aj) (o:Expr):(tE r i t f v o).ws.length≤t.ws.length+o.size+2:=by
 have h1:=fY r i i o;have h2:=fY r i i (np v);have h3:=va r i i t (np v) o;rw[kg] at h2 h3;unfold tE
 repeat' split
 ·show((t.ws++_)++_).length≤_
  rw[Wn,Wn];omega
 ·show(t.ws++_).length≤_
  rw[Wn];omega
 ·omega
theorem gT: ∀(l:List Lit) (i:Nat),i<l.length→Lit.aC (l.take i)+(l.getD i default).size≤Lit.aC l
 | [],i,h=>by simp at h
 |s::r,0,_=>by simp[Lit.aC]
 |s::r,i+1,h=>by
  have:=gT r i (by simpa using h);simp only[XE,XO,Lit.aC];omega
theorem Lit.ld (l:List Lit) (i:Nat) (h:i<l.length):Lit.aC (l.take (i+1))=Lit.aC (l.take i)+(l.getD i default).size:=by
 rw[aW h]
 have: ∀(a:List Lit) (b:Lit),Lit.aC (a++ [b])=Lit.aC a+b.size:=by
  intro a b
  induction a with
  |nil=>simp[Lit.aC]
  |cons x r ih=>simp only[XF,Lit.aC,ih];omega
 exact this _ _
theorem sN (p:Prog) (r:ak) (i:Int) (t:TS) (ls:List Lit): ∀k,k≤ls.length→(mq p r i t ls k).ws.length≤t.ws.length+Lit.aC (ls.take k)
 |0,_=>by simp[mq,Lit.aC]
 |k+1,h=>by
  have h1:=sN p r i t ls k (by omega);have h2:=Ab p r i i (mq p r i t ls k) (ls.getD k default);rw[mq,Lit.ld ls k (by omega)];omega
theorem CL (p:Prog) (r:ak) (i:Int) (t:TS) (l:Lit):(stepT p r i t l).ws.length≤t.ws.length+l.size:=by
 have hsz:=l.size_eq;unfold stepT;split
 ·have h1:=sN p r i (tE r i t l.dG l.bp l.jZ) l.ay l.ay.length (Wz _)
  have h2:=zD r i t l.dG l.bp l.jZ;rw[Ya] at h1;omega
 ·exact Ab p r i (-1) t l
theorem tg (p:Prog) (r:ak): ∀k,k≤r.body.length→(cR p r k).ws.length≤r.head.aq.length+Lit.aC (r.body.take k)
 |0,_=>by
  have:=lI p r r.head (-1) (-1) r.head.aq.length;show([]++_).length≤_
  simp only[Yg];omega
 |k+1,h=>by
  have h1:=tg p r k (by omega);have h2:=CL p r k (cR p r k) (r.body.getD k default);rw[cR,Lit.ld r.body k (by omega)];omega
theorem VN (r:ak) (up:UM) (kd:KM) (W:IV) (v0:bY) (ok:gm up):cf Tryz.prog 201 [.ptr 0 0,ag v0.c] [.cells [.iv (b7 r), .mp 1, .iv W, .mp 2],pC up,p3 kd] (ag (bD up v0).c) [(0,some (.cells [.iv (b7 r), .mp 1, .iv W, .mp 2])),(1,some (pC up)),(2,some (p3 kd))] 3:=by
 refine aH ae Tryz.func201 rfl (by decide) Tryz.ntmps201 rfl (by simp) ?_;refine gA rfl ?_
 refine mu (σ:={v:bY//bD up v=bD up v0}) (fun v=>⟨[(0, .ptr 0 0),(3, .ptr 3 0),(4, .ptr 4 0)],
  [(0,some (.cells [.iv (b7 r), .mp 1, .iv W, .mp 2])),(1,some (pC up)),(2,some (p3 kd)),(3,some (.cells [pS v.1.1,pI v.1.2])),(4,some (.cells [pS ⟨#[]⟩,pI 0]))],5⟩) (fun v=>A2 up v.1) ⟨v0,rfl⟩ []
  (wk rfl rfl rfl ⟨.refl _,rfl, .refl _,rfl, .refl _,rfl,trivial⟩ ⟨⟨_,rfl, .of_eq rfl⟩,Wj rfl,rfl,hM rfl rfl rfl (hM rfl rfl rfl ⟨⟨_,rfl, .of_eq rfl⟩,Wj rfl,rfl,⟨_,rfl, .of_eq rfl⟩,Wj rfl,rfl,trivial⟩)⟩ rfl) fun v=>?_
 obtain⟨v,hv⟩:=v;refine gA rfl ?_;refine Wl (fun g=>?_) (fun g=>?_)
 ·have h:eO (.si .i64) up v=false:=by simpa using g
  have e:bD up v0=v:=by rw[←hv];exact oI up v h
  refine gA rfl (az [] (by first|exact .inr rfl|exact .inl rfl) rfl (wk rfl rfl rfl ⟨.of_eq (congrArg (fun x:bY=>ag x.c) e.symm),rfl,trivial⟩ ⟨⟨_,rfl, .of_eq rfl⟩,Wj rfl,rfl,hM rfl rfl rfl (hM rfl rfl rfl trivial)⟩ rfl))
 ·have h:eO (.si .i64) up v=true:=by simpa using g
  obtain⟨h1,h2⟩:=l0 up v ok h;refine gA rfl ?_;exact⟨⟨bG (.si .i64) up v bY.z,h1.trans hv⟩,[],h2,wk rfl rfl rfl ⟨.refl _,rfl, .refl _,rfl, .refl _,rfl,trivial⟩ ⟨⟨_,rfl, .of_eq rfl⟩,Wj rfl,rfl,hM rfl rfl rfl (hM rfl rfl rfl ⟨⟨_,rfl, .of_eq rfl⟩,Wj rfl,rfl,⟨_,rfl, .of_eq rfl⟩,Wj rfl,rfl,trivial⟩)⟩ rfl⟩
set_option maxHeartbeats 2000000 in
theorem c49 (p:Prog) (r:ak) (hb:r.size≤100000000):Pure Tryz.prog 168 [.iv (cC p), .iv (b7 r)] (.iv (Rv r (iU p r))):=by
 unfold ak.size at hb;have hal:=Lit.aL r.body;have hbs:r.body.length≤Lit.aC r.body:=hal;refine ax ae Tryz.func168 rfl (by decide) Tryz.ntmps168 rfl (by simp) rfl ?_;refine gM 14 rfl (jk 2 2 5 rfl rfl ?_)
 refine bU [] (t:=⟨[(0, .iv (cC p)),(1, .iv (b7 r)),(5, .ptr 2 0)],[(2,some (TS.cell r 0 3 TS.o.ws.length 1)),(0,some (pC TS.o.up)),(3,some (aD 5 TS.o.ws Want.c)),(1,some (p3 TS.o.kind))],4⟩)
  (wk rfl rfl rfl ⟨.refl _,rfl, .refl _,rfl, .refl _,rfl,trivial⟩ ⟨⟨_,rfl, .of_eq rfl⟩,Wj rfl,rfl,⟨_,rfl,J1⟩,Wj rfl,trivial,⟨_,rfl, .of_eq rfl⟩,Wj rfl,dX _,⟨_,rfl,J2⟩,Wj rfl,trivial,trivial⟩ rfl) ?_
 refine gA rfl (j8 (d90 p r TS.o r.head (-1) (-1) (by show 0+_≤_;omega)) rfl rfl rfl rfl rfl rfl rfl (by first|rfl|(rw[Wn];rfl)|simp) (by first|rfl|(rw[Wq];rfl)|(simp only[Wq,Wv];rfl)) rfl rfl rfl rfl rfl rfl ?_);refine gA rfl ?_
 refine aK 0 r.body.length (WC _) (fun i=>⟨[(0, .iv (cC p)),(1, .iv (b7 r)),(5, .ptr 2 0),(31, .iv (lits r.body)),(32,pI r.body.length),(33,pI i)],
  [(2,some (TS.cell r 0 5 (cR p r i).ws.length 1)),(0,some (pC (cR p r i).up)),(5,some (aD 5 (cR p r i).ws Want.c)),(1,some (p3 (cR p r i).kind))],6⟩) (fun _=>True) _ trivial
  (tB (t:=cR p r 0) rfl rfl rfl rfl rfl rfl rfl rfl rfl rfl rfl ⟨.refl _,rfl, .refl _,rfl, .refl _,rfl, .refl _,rfl, .refl _,rfl, .refl _,rfl,trivial⟩) fun i hi _=>?_
 have hln:=tg p r i hi;have hok:=wg p r i;refine gA rfl ?_;refine Wl (fun h1=>?_) (fun h1=>?_)
 ·have h1:i<r.body.length:=by simpa using h1
  have hst:=gT r.body i h1;have hs:cR p r (i+1)=stepT p r i (cR p r i) (r.body.getD i default):=rfl;generalize cR p r i=t1 at*
  have hsz:=(r.body.getD i default).size_eq;refine gA rfl ?_;refine Wl (fun k4=>?_) (fun k4=>?_)
  ·have k4: ¬(r.body.getD i default).kind=4:=by have g:(!decide ((r.body.getD i default).kind=4))=true:=k4;simpa only[W5,decide_eq_false_iff_not] using g
   have hS:stepT p r i t1 (r.body.getD i default)=ly p r i (-1) t1 (r.body.getD i default):=if_neg k4;rw[hS] at hs;refine gA rfl (j8 (d91 p r t1 (r.body.getD i default) i (-1) hok (by omega)) rfl rfl rfl rfl rfl rfl rfl (by first|rfl|(rw[Wn];rfl)|simp) (by first|rfl|(rw[Wq];rfl)|(simp only[Wq,Wv];rfl)) rfl rfl rfl rfl rfl rfl ?_);refine gA rfl ⟨h1,trivial,_,tB (hs.symm) rfl rfl rfl rfl (by first|rfl|(rw[Wn];rfl)|simp) (by first|rfl|(rw[Wq];rfl)|(simp only[Wq,Wv];rfl)) rfl rfl rfl rfl ⟨.refl _,rfl, .refl _,rfl, .refl _,rfl, .refl _,rfl, .refl _,rfl, .refl _,rfl,trivial⟩⟩
  have k4:(r.body.getD i default).kind=4:=by have g:(!decide ((r.body.getD i default).kind=4))=false:=k4;simpa only[XL,decide_eq_true_eq] using g
  have hS:stepT p r i t1 (r.body.getD i default)=mq p r i (tE r i t1 (r.body.getD i default).dG (r.body.getD i default).bp (r.body.getD i default).jZ) (r.body.getD i default).ay (r.body.getD i default).ay.length:=if_pos k4;rw[hS] at hs;have hV:tE r i t1 (r.body.getD i default).dG (r.body.getD i default).bp (r.body.getD i default).jZ=if(r.body.getD i default).dG=2 then(t1.add (fo r i i (r.body.getD i default).jZ)).add (fo r i i (np (r.body.getD i default).bp)) else if(r.body.getD i default).dG=1 then t1.add (fo r i i (np (r.body.getD i default).bp)) else gF r i i t1 (np (r.body.getD i default).bp) (r.body.getD i default).jZ:=rfl;have hVo:=Cn r i hok (r.body.getD i default).dG (r.body.getD i default).bp (r.body.getD i default).jZ;have hVl:=zD r i t1 (r.body.getD i default).dG (r.body.getD i default).bp (r.body.getD i default).jZ;have habl:=Lit.aL (r.body.getD i default).ay;have hvs:=kg (r.body.getD i default).bp;have hol:=fY r i i (r.body.getD i default).jZ;generalize tE r i t1 (r.body.getD i default).dG (r.body.getD i default).bp (r.body.getD i default).jZ=V at*
  refine gA rfl ?_;refine Wl (fun f2=>?_) (fun f2=>?_)
  ·have f2:(r.body.getD i default).dG=2:=of_decide_eq_true f2
   have hv:V=(t1.add (fo r i i (r.body.getD i default).jZ)).add (fo r i i (np (r.body.getD i default).bp)):=by rw[hV,if_pos f2]
   refine gA rfl (j8 (En r t1 (r.body.getD i default).jZ i i (by omega)) rfl rfl rfl rfl rfl rfl rfl (by first|rfl|(rw[Wn];rfl)|simp) (by first|rfl|(rw[Wq];rfl)|(simp only[Wq,Wv];rfl)) rfl rfl rfl rfl rfl rfl ?_);refine gA rfl (j8 (cf.le (aa:=[.ptr 0 0,ET (r.body.getD i default).bp,pI i,pI i]) (En r (t1.add (fo r i i (r.body.getD i default).jZ)) (np (r.body.getD i default).bp) i i (by show(t1.ws++_).length+_≤_;rw[Wn,kg];omega)) ⟨.refl _,ve _, .refl _, .refl _,trivial⟩) rfl rfl rfl rfl rfl rfl rfl (by first|rfl|(rw[Wn];rfl)|simp) (by first|rfl|(rw[Wq];rfl)|(simp only[Wq,Wv];rfl)) rfl rfl rfl rfl rfl rfl ?_);refine gA rfl ?_
   refine aK 0 (r.body.getD i default).ay.length (WC _) (fun k=>⟨[(0, .iv (cC p)),(1, .iv (b7 r)),(5, .ptr 2 0),(6,pI i),(31, .iv (lits r.body)),(32,pI r.body.length),(33,pI i),(79, .iv (lits (r.body.getD i default).ay)),(80,pI (r.body.getD i default).ay.length),(81,pI k)],[(2,some (TS.cell r 0 10 (mq p r i V (r.body.getD i default).ay k).ws.length 1)),(0,some (pC (mq p r i V (r.body.getD i default).ay k).up)),(10,some (aD 5 (mq p r i V (r.body.getD i default).ay k).ws Want.c)),(1,some (p3 (mq p r i V (r.body.getD i default).ay k).kind))],11⟩) (fun _=>True) _ trivial
    (tB hv.symm rfl rfl rfl rfl rfl rfl rfl rfl rfl rfl ⟨.refl _,rfl, .refl _,rfl, .refl _,rfl, .refl _,rfl, .refl _,rfl, .refl _,rfl, .refl _,rfl, .iv (mn _),rfl, .refl _,rfl, .refl _,rfl,trivial⟩) fun k hk _=>?_
   have hil:=sN p r i V (r.body.getD i default).ay k hk;have hio:=xH p r i hVo (r.body.getD i default).ay k;have his:mq p r i V (r.body.getD i default).ay (k+1)=ly p r i i (mq p r i V (r.body.getD i default).ay k) ((r.body.getD i default).ay.getD k default):=rfl;refine gA rfl ?_;refine Wl (fun h2=>?_) (fun h2=>?_)
   ·have h2:k<(r.body.getD i default).ay.length:=Xe.1 (of_decide_eq_true h2)
    have hkt:=gT (r.body.getD i default).ay k h2;refine gA rfl (j8 (d91 p r (mq p r i V (r.body.getD i default).ay k) ((r.body.getD i default).ay.getD k default) i i hio (by omega)) rfl rfl rfl rfl rfl rfl rfl (by first|rfl|(rw[Wn];rfl)|simp) (by first|rfl|(rw[Wq];rfl)|(simp only[Wq,Wv];rfl)) rfl rfl rfl rfl rfl rfl ?_);refine gA rfl ⟨h2,trivial,_,tB (rfl) rfl rfl rfl rfl (by first|rfl|(rw[Wn];rfl)|simp) (by first|rfl|(rw[Wq];rfl)|(simp only[Wq,Wv];rfl)) rfl rfl rfl rfl ⟨.refl _,rfl, .refl _,rfl, .refl _,rfl, .refl _,rfl, .refl _,rfl, .refl _,rfl, .refl _,rfl, .refl _,rfl, .refl _,rfl, .refl _,rfl,trivial⟩⟩
   ·have h2:(r.body.getD i default).ay.length≤k:=Xc fun hh=>absurd (Xe.2 hh) (of_decide_eq_false h2)
    have hke:k=(r.body.getD i default).ay.length:=by omega
    subst hke;refine gA rfl ⟨h1,trivial,_,tB (hs.symm) rfl rfl rfl rfl (by first|rfl|(rw[Wn];rfl)|simp) (by first|rfl|(rw[Wq];rfl)|(simp only[Wq,Wv];rfl)) rfl rfl rfl rfl ⟨.refl _,rfl, .refl _,rfl, .refl _,rfl, .refl _,rfl, .refl _,rfl, .refl _,rfl,trivial⟩⟩
  have f2: ¬(r.body.getD i default).dG=2:=of_decide_eq_false f2;rw[if_neg f2] at hV;refine gA rfl ?_;refine Wl (fun f1=>?_) (fun f1=>?_)
  ·have f1:(r.body.getD i default).dG=1:=of_decide_eq_true f1
   have hv:V=t1.add (fo r i i (np (r.body.getD i default).bp)):=by rw[hV,if_pos f1]
   refine gA rfl (j8 (cf.le (aa:=[.ptr 0 0,ET (r.body.getD i default).bp,pI i,pI i]) (En r t1 (np (r.body.getD i default).bp) i i (by rw[kg];omega)) ⟨.refl _,ve _, .refl _, .refl _,trivial⟩) rfl rfl rfl rfl rfl rfl rfl (by first|rfl|(rw[Wn];rfl)|simp) (by first|rfl|(rw[Wq];rfl)|(simp only[Wq,Wv];rfl)) rfl rfl rfl rfl rfl rfl ?_);refine gA rfl ?_
   refine aK 0 (r.body.getD i default).ay.length (WC _) (fun k=>⟨[(0, .iv (cC p)),(1, .iv (b7 r)),(5, .ptr 2 0),(6,pI i),(31, .iv (lits r.body)),(32,pI r.body.length),(33,pI i),(79, .iv (lits (r.body.getD i default).ay)),(80,pI (r.body.getD i default).ay.length),(81,pI k)],[(2,some (TS.cell r 0 9 (mq p r i V (r.body.getD i default).ay k).ws.length 1)),(0,some (pC (mq p r i V (r.body.getD i default).ay k).up)),(9,some (aD 5 (mq p r i V (r.body.getD i default).ay k).ws Want.c)),(1,some (p3 (mq p r i V (r.body.getD i default).ay k).kind))],10⟩) (fun _=>True) _ trivial
    (tB hv.symm rfl rfl rfl rfl rfl rfl rfl rfl rfl rfl ⟨.refl _,rfl, .refl _,rfl, .refl _,rfl, .refl _,rfl, .refl _,rfl, .refl _,rfl, .refl _,rfl, .iv (mn _),rfl, .refl _,rfl, .refl _,rfl,trivial⟩) fun k hk _=>?_
   have hil:=sN p r i V (r.body.getD i default).ay k hk;have hio:=xH p r i hVo (r.body.getD i default).ay k;have his:mq p r i V (r.body.getD i default).ay (k+1)=ly p r i i (mq p r i V (r.body.getD i default).ay k) ((r.body.getD i default).ay.getD k default):=rfl;refine gA rfl ?_;refine Wl (fun h2=>?_) (fun h2=>?_)
   ·have h2:k<(r.body.getD i default).ay.length:=Xe.1 (of_decide_eq_true h2)
    have hkt:=gT (r.body.getD i default).ay k h2;refine gA rfl (j8 (d91 p r (mq p r i V (r.body.getD i default).ay k) ((r.body.getD i default).ay.getD k default) i i hio (by omega)) rfl rfl rfl rfl rfl rfl rfl (by first|rfl|(rw[Wn];rfl)|simp) (by first|rfl|(rw[Wq];rfl)|(simp only[Wq,Wv];rfl)) rfl rfl rfl rfl rfl rfl ?_);refine gA rfl ⟨h2,trivial,_,tB (rfl) rfl rfl rfl rfl (by first|rfl|(rw[Wn];rfl)|simp) (by first|rfl|(rw[Wq];rfl)|(simp only[Wq,Wv];rfl)) rfl rfl rfl rfl ⟨.refl _,rfl, .refl _,rfl, .refl _,rfl, .refl _,rfl, .refl _,rfl, .refl _,rfl, .refl _,rfl, .refl _,rfl, .refl _,rfl, .refl _,rfl,trivial⟩⟩
   ·have h2:(r.body.getD i default).ay.length≤k:=Xc fun hh=>absurd (Xe.2 hh) (of_decide_eq_false h2)
    have hke:k=(r.body.getD i default).ay.length:=by omega
    subst hke;refine gA rfl ⟨h1,trivial,_,tB (hs.symm) rfl rfl rfl rfl (by first|rfl|(rw[Wn];rfl)|simp) (by first|rfl|(rw[Wq];rfl)|(simp only[Wq,Wv];rfl)) rfl rfl rfl rfl ⟨.refl _,rfl, .refl _,rfl, .refl _,rfl, .refl _,rfl, .refl _,rfl, .refl _,rfl,trivial⟩⟩
  ·have f1: ¬(r.body.getD i default).dG=1:=of_decide_eq_false f1
   have hv:V=gF r i i t1 (np (r.body.getD i default).bp) (r.body.getD i default).jZ:=by rw[hV,if_neg f1]
   refine gA rfl (j8 (cf.le (aa:=[.ptr 0 0,ET (r.body.getD i default).bp,ag (r.body.getD i default).jZ.c,pI i,pI i]) (d93 r t1 (np (r.body.getD i default).bp) (r.body.getD i default).jZ i i hok (by rw[kg];omega)) ⟨.refl _,ve _, .refl _, .refl _, .refl _,trivial⟩) rfl rfl rfl rfl rfl rfl rfl (by first|rfl|(rw[Wn];rfl)|simp) (by first|rfl|(rw[Wq];rfl)|(simp only[Wq,Wv];rfl)) rfl rfl rfl rfl rfl rfl ?_);refine gA rfl ?_
   refine aK 0 (r.body.getD i default).ay.length (WC _) (fun k=>⟨[(0, .iv (cC p)),(1, .iv (b7 r)),(5, .ptr 2 0),(6,pI i),(31, .iv (lits r.body)),(32,pI r.body.length),(33,pI i),(79, .iv (lits (r.body.getD i default).ay)),(80,pI (r.body.getD i default).ay.length),(81,pI k)],[(2,some (TS.cell r 0 9 (mq p r i V (r.body.getD i default).ay k).ws.length 1)),(0,some (pC (mq p r i V (r.body.getD i default).ay k).up)),(9,some (aD 5 (mq p r i V (r.body.getD i default).ay k).ws Want.c)),(1,some (p3 (mq p r i V (r.body.getD i default).ay k).kind))],10⟩) (fun _=>True) _ trivial
    (tB hv.symm rfl rfl rfl rfl rfl rfl rfl rfl rfl rfl ⟨.refl _,rfl, .refl _,rfl, .refl _,rfl, .refl _,rfl, .refl _,rfl, .refl _,rfl, .refl _,rfl, .iv (mn _),rfl, .refl _,rfl, .refl _,rfl,trivial⟩) fun k hk _=>?_
   have hil:=sN p r i V (r.body.getD i default).ay k hk;have hio:=xH p r i hVo (r.body.getD i default).ay k;have his:mq p r i V (r.body.getD i default).ay (k+1)=ly p r i i (mq p r i V (r.body.getD i default).ay k) ((r.body.getD i default).ay.getD k default):=rfl;refine gA rfl ?_;refine Wl (fun h2=>?_) (fun h2=>?_)
   ·have h2:k<(r.body.getD i default).ay.length:=Xe.1 (of_decide_eq_true h2)
    have hkt:=gT (r.body.getD i default).ay k h2;refine gA rfl (j8 (d91 p r (mq p r i V (r.body.getD i default).ay k) ((r.body.getD i default).ay.getD k default) i i hio (by omega)) rfl rfl rfl rfl rfl rfl rfl (by first|rfl|(rw[Wn];rfl)|simp) (by first|rfl|(rw[Wq];rfl)|(simp only[Wq,Wv];rfl)) rfl rfl rfl rfl rfl rfl ?_);refine gA rfl ⟨h2,trivial,_,tB (rfl) rfl rfl rfl rfl (by first|rfl|(rw[Wn];rfl)|simp) (by first|rfl|(rw[Wq];rfl)|(simp only[Wq,Wv];rfl)) rfl rfl rfl rfl ⟨.refl _,rfl, .refl _,rfl, .refl _,rfl, .refl _,rfl, .refl _,rfl, .refl _,rfl, .refl _,rfl, .refl _,rfl, .refl _,rfl, .refl _,rfl,trivial⟩⟩
   ·have h2:(r.body.getD i default).ay.length≤k:=Xc fun hh=>absurd (Xe.2 hh) (of_decide_eq_false h2)
    have hke:k=(r.body.getD i default).ay.length:=by omega
    subst hke;refine gA rfl ⟨h1,trivial,_,tB (hs.symm) rfl rfl rfl rfl (by first|rfl|(rw[Wn];rfl)|simp) (by first|rfl|(rw[Wq];rfl)|(simp only[Wq,Wv];rfl)) rfl rfl rfl rfl ⟨.refl _,rfl, .refl _,rfl, .refl _,rfl, .refl _,rfl, .refl _,rfl, .refl _,rfl,trivial⟩⟩
 ·have h1:r.body.length≤i:=by simpa using h1
  have hie:i=r.body.length:=by omega
  subst hie;have hT:iU p r=⟨(cR p r r.body.length).up,(cR p r r.body.length).ws,(cR p r r.body.length).ws.foldl (ct (cR p r r.body.length).up) []⟩:=rfl;rw[hT];rw[Ya] at hln;have hkd:(cR p r r.body.length).kind=[]:=u5 p r _;generalize cR p r r.body.length=t1 at*
  have hK0:t1.kind=(t1.ws.take 0).foldl (ct t1.up) []:=hkd;refine gA rfl ?_;refine mZ 5 (fun k=>Want.c (t1.ws.getD k default)) rfl (ch rfl) (by simp[AF.kX,PV.bm,mQ]) ⟨(by simp[AO.kX,b5,PV.bm]),trivial,eI _ _ _ _ _ _,trivial,trivial⟩ ?_
  refine aK 0 t1.ws.length (WC _) (fun i=>⟨[(5, .ptr 2 0),(96, .iv (cM 5 t1.ws Want.c)),(97,pI t1.ws.length),(98,pI i)],
   [(2,some (.cells [.iv (b7 r), .mp 0, .iv (cM 5 t1.ws Want.c), .mp 1])),(0,some (pC t1.up)),(1,some (p3 ((t1.ws.take i).foldl (ct t1.up) [])))],6⟩) (fun _=>True) [] trivial
   (wk rfl rfl rfl ⟨.refl _,rfl, .cz rfl (fun k _=>by rw[WQ]),rfl, .refl _,rfl, .refl _,rfl,trivial⟩ ⟨⟨_,rfl, .cells ⟨.refl _, .refl _, .cz rfl (fun k _=>by rw[WQ]), .refl _,trivial⟩⟩,Wj rfl,rfl,hM rfl rfl rfl (hM rfl hK0 rfl trivial)⟩ rfl) fun i hi _=>?_
  refine gA rfl ?_;refine Wl (fun h2=>?_) (fun h2=>?_)
  ·have h2:i<t1.ws.length:=Xe.1 (of_decide_eq_true h2)
   have hf:=iL (g:=ct t1.up) (b:=[]) h2;refine gA rfl (aN [2,0,1] (VN r t1.up ((t1.ws.take i).foldl (ct t1.up) []) (cM 5 t1.ws Want.c) (t1.ws.getD i default).at_ hok) rfl rfl rfl rfl rfl rfl rfl rfl ?_);refine gA rfl ?_;refine Wl (fun g1=>?_) (fun g1=>?_)
   ·have g1:(t1.ws.getD i default).has=0:=of_decide_eq_true g1
    refine gA rfl ?_;refine Wl (fun g2=>?_) (fun g2=>?_)
    ·have g2:bG (.si .i64) ((t1.ws.take i).foldl (ct t1.up) []) (bD t1.up (t1.ws.getD i default).at_) 0=0:=of_decide_eq_true g2
     have hk:ct t1.up ((t1.ws.take i).foldl (ct t1.up) []) (t1.ws.getD i default)=bS (.si .i64) ((t1.ws.take i).foldl (ct t1.up) []) (bD t1.up (t1.ws.getD i default).at_) (t1.ws.getD i default).kind:=if_pos ⟨g1,g2⟩;rw[hk] at hf;refine gA rfl ?_;exact⟨h2,trivial,[],wk rfl rfl rfl ⟨.refl _,rfl, .refl _,rfl, .refl _,rfl, .refl _,rfl,trivial⟩ ⟨⟨_,rfl, .of_eq rfl⟩,Wj rfl,rfl,hM rfl rfl rfl (hM rfl (by first|exact hf.symm|(rw[hf];rfl)) rfl trivial)⟩ rfl⟩
    ·have g2: ¬bG (.si .i64) ((t1.ws.take i).foldl (ct t1.up) []) (bD t1.up (t1.ws.getD i default).at_) 0=0:=of_decide_eq_false g2
     have hk:ct t1.up ((t1.ws.take i).foldl (ct t1.up) []) (t1.ws.getD i default)=(t1.ws.take i).foldl (ct t1.up) []:=if_neg fun h=>g2 h.2;rw[hk] at hf;refine gA rfl ?_;exact⟨h2,trivial,[],wk rfl rfl rfl ⟨.refl _,rfl, .refl _,rfl, .refl _,rfl, .refl _,rfl,trivial⟩ ⟨⟨_,rfl, .of_eq rfl⟩,Wj rfl,rfl,hM rfl rfl rfl (hM rfl (by first|exact hf.symm|(rw[hf];rfl)) rfl trivial)⟩ rfl⟩
   ·have g1: ¬(t1.ws.getD i default).has=0:=of_decide_eq_false g1
    have hk:ct t1.up ((t1.ws.take i).foldl (ct t1.up) []) (t1.ws.getD i default)=(t1.ws.take i).foldl (ct t1.up) []:=if_neg fun h=>g1 h.1;rw[hk] at hf;refine gA rfl ?_;exact⟨h2,trivial,[],wk rfl rfl rfl ⟨.refl _,rfl, .refl _,rfl, .refl _,rfl, .refl _,rfl,trivial⟩ ⟨⟨_,rfl, .of_eq rfl⟩,Wj rfl,rfl,hM rfl rfl rfl (hM rfl (by first|exact hf.symm|(rw[hf];rfl)) rfl trivial)⟩ rfl⟩
  ·have h2:t1.ws.length≤i:=Xc fun hh=>absurd (Xe.2 hh) (of_decide_eq_false h2)
   have e0:t1.ws.take i=t1.ws:=WB h2;refine lU rfl trivial (gP (.inr rfl) rfl (.map 0 rfl (.map 1 rfl (.cells 2 _ rfl (show _=List.map PV.iv [b7 r,upI t1.up,cM 5 t1.ws Want.c,kdI (t1.ws.foldl (ct t1.up) [])] by rw[e0];rfl) (.done (.of_eq rfl))))))
def rK (a:Atom):Bool:=(jB WS.o a).bad
def pY (l:Lit):Bool:=(df l.size l WS.o).bad
def rQ (l:Lit):Bool:=decide (l.kind=4)&&decide ((l.ay.length:Int)>12)
def gq (n:Nat):List Int:=(WL (n+1)).map fun k:Nat=>(k:Int)-1
theorem pX (n:Nat):(gq n).length=n+1:=by simp[gq]
theorem uH (n k:Nat) (h:k<n+1):(gq n).getD k default=(k:Int)-1:=by simp[gq,h]
def zi (f:Int→Bool) (n:Nat):Option Int:=(gq n).find? f
abbrev dI:=Int×Pos
def dI.c (d:dI):List IV:=[iI d.1,iI d.2.line,iI d.2.Ch]
def mh (r:ak) (e:Int) (f:Int→Bool) (k:dI):dI:=match zi f r.body.length with
 |some lit=>(e,pR r lit)
 |none=>k
def n7 (p:Prog) (r:ak):dI:=
 mh r 61 (fun lit=>(ep r lit).any fun x=>pt p x)<|mh r 62 (fun lit=>(ep r lit).any fun x=>rm p x)<|mh r 65 (lf r)<|mh r 63 (pz (iU p r))<|mh r 64 (j6 r) (0,⟨0,0⟩)
def jO (p:Prog) (r:ak) (n:Int):dI:=
 if rK r.head=true then(1,r.at_) else match r.body.find? pY with
 |some l=>(1,l.at)
 |none=>if n>256∨(r.body.length:Int)>12 then(66,r.at_) else if(CP r:Int)>24 then(66,r.at_) else match r.body.find? rQ with
  |some l=>(66,l.at)
  |none=>n7 p r
def ak.fit (r:ak):Prop:=r.size≤10000000∧r.head.ts≤900000000∧ ∀l∈r.body,l.ts≤900000000
theorem kN {α:Type} {p:α→Bool} {l:List α} (h:l.any p=false):l.find? p=none:=by
 rw[XC];intro x hx;have:=Xg.1 h x hx;simpa using this
theorem mB {α:Type} [Inhabited α] {p:α→Bool} {l:List α} {i:Nat} (h:(l.take i).any p=false) (hi:i<l.length) (hp:p (l.getD i default)=true):l.find? p=some (l.getD i default):=by
 have hg:l.getD i default=l[i]:=by simp[hi]
 rw[hg] at hp ⊢;rw[List.find?_eq_some_iff_getElem];refine⟨hp,i,hi,rfl,fun j hj=>?_⟩;have:=Xg.1 h l[j] (List.mem_iff_getElem?.2 ⟨j,by rw[W7,if_pos hj,Wt (by omega)]⟩);simpa using this
def gZ (p:Prog) (r:ak):List (List PV):=[[pI 61, .cH (.func 160) [] [.ptr 1 0, .ptr 0 0]],[pI 62, .cH (.func 164) [] [.ptr 1 0, .ptr 0 0]],[pI 65, .cH (.func 166) [] [.ptr 1 0]],[pI 63, .cH (.func 169) [.iv (Rv r (iU p r))] []],[pI 64, .cH (.func 170) [.iv (b7 r)] []]]
theorem b4 (p:Prog) (r:ak) (n:Nat) (h:WU 1 n=true):(AO.row 2 (gZ p r)).low n:=by
 have h0:WU 0 n=true:=Xi (by have:=Wj h;omega);intro k e hk
 match k,hk with
 |0,hk=>cases hk;simp[bz,PV.low,h,h0]
 |1,hk=>cases hk;simp[bz,PV.low,h,h0]
 |2,hk=>cases hk;simp[bz,PV.low,h,h0]
 |3,hk=>cases hk;simp[bz,PV.low,h,h0]
 |4,hk=>cases hk;simp[bz,PV.low,h,h0]
 |k+5,hk=>simp[gZ] at hk
theorem mg {r:ak} {e:Int} {f:Int→Bool} {k:dI} {i:Nat} (hJ:((gq r.body.length).take i).any f=false) (hi:i<r.body.length+1) (h:f ((i:Int)-1)=true):mh r e f k=(e,pR r ((i:Int)-1)):=by
 have h1:=uH r.body.length i hi;have:=mB hJ (by rw[pX];exact hi) (by rw[h1];exact h);rw[h1] at this;rw[mh,zi,this]
theorem kF {r:ak} {e:Int} {f:Int→Bool} {k:dI} {i:Nat} (hJ:((gq r.body.length).take i).any f=false) (hi:r.body.length+1≤i):mh r e f k=k:=by
 rw[WB (by rw[pX];exact hi)] at hJ;rw[mh,zi,kN hJ]
theorem kE {r:ak} {f:Int→Bool} {i:Nat} (hJ:((gq r.body.length).take i).any f=false) (hi:i<r.body.length+1) (h:f ((i:Int)-1)=false):((gq r.body.length).take (i+1)).any f=false:=by
 refine(cN hJ (by rw[pX];exact hi)).2 ?_;rw[uH _ _ hi];exact h
set_option maxHeartbeats 4000000 in
theorem c65 (p:Prog) (r:ak) (n:Int) (hb:r.fit):Pure Tryz.prog 125 [.iv (cC p),ag r.c,pI n] (ag (jO p r n).c):=by
 obtain⟨hb,hb2,hb3⟩:=hb;have hsz:r.size=r.head.aq.length+Lit.aC r.body:=rfl;have hal:=Lit.aL r.body;refine ax ae Tryz.func125 rfl (by decide) Tryz.ntmps125 rfl (by simp) rfl ?_;refine gA rfl (an (c61 r.head hb2) rfl rfl rfl rfl rfl rfl ?_);refine gA rfl ?_;refine Wl (fun g1=>?_) (fun g1=>?_)
 ·have g1:rK r.head=true:=by
   cases h:rK r.head with
   |true=>rfl
   |false=>
    have h:(jB WS.o r.head).bad=false:=h;rw[h] at g1;simp at g1
  rw[jO,if_pos g1];refine gA rfl (aw (by first|exact .inr rfl|exact .inl rfl) rfl (.of_eq ?_));rfl
 have g1: ¬rK r.head=true:=by
  intro h;have h:(jB WS.o r.head).bad=true:=h;rw[h] at g1;simp at g1
 rw[jO,if_neg g1];refine gA rfl ?_
 refine aK 0 r.body.length (WC _) (fun i=>⟨[(2,pI n),(3, .ptr 0 0),(4, .ptr 1 0),(6, .ptr 2 0),(32, .iv (lits r.body)),(33,pI r.body.length),(34,pI i)],[(0,some (.cells [.iv (cC p)])),(1,some (aE r.c)),(2,some (.cells [pI 0,pI 0,pI 0]))],3⟩) (fun i=>(r.body.take i).any pY=false) [] (by simp)
  (wk rfl rfl rfl ⟨.refl _,rfl, .refl _,rfl, .refl _,rfl, .refl _,rfl, .refl _,rfl, .refl _,rfl, .refl _,rfl,trivial⟩ ⟨⟨_,rfl, .of_eq rfl⟩,Wj rfl,rfl,⟨_,rfl, .of_eq rfl⟩,Wj rfl,rfl,⟨_,rfl, .of_eq rfl⟩,Wj rfl,rfl,trivial⟩ rfl) fun i hi hJ=>?_
 refine gA rfl ?_;refine Wl (fun h1=>?_) (fun h1=>?_)
 ·have h1:i<r.body.length:=Xe.1 (of_decide_eq_true h1)
  have hA:=cN hJ h1;have hm:r.body.getD i default∈r.body:=by rw[Ws,Wt h1];exact Xj h1
  have hsg:=Lit.bN r.body i h1;refine gA rfl (an (Wb (r.body.getD i default) (hb3 _ hm) (by omega)) rfl rfl rfl rfl rfl rfl ?_);refine gA rfl ?_;refine Wl (fun h2=>?_) (fun h2=>?_)
  ·have h2:pY (r.body.getD i default)=true:=by
    cases h:pY (r.body.getD i default) with
    |true=>rfl
    |false=>
     have h:(df (r.body.getD i default).size (r.body.getD i default) WS.o).bad=false:=h;have g:(!decide ((if(df (r.body.getD i default).size (r.body.getD i default) WS.o).bad=true then(50:Int) else 0)=0))=true:=h2;rw[h] at g;simp at g
   rw[mB hJ h1 h2];refine gA rfl (aw (by first|exact .inr rfl|exact .inl rfl) rfl (.of_eq ?_));rfl
  ·have h2:pY (r.body.getD i default)=false:=by
    cases h:pY (r.body.getD i default) with
    |false=>rfl
    |true=>
     have h:(df (r.body.getD i default).size (r.body.getD i default) WS.o).bad=true:=h;have g:(!decide ((if(df (r.body.getD i default).size (r.body.getD i default) WS.o).bad=true then(50:Int) else 0)=0))=false:=h2;rw[h] at g;simp at g
   refine gA rfl ?_;exact⟨h1,hA.2 h2,[],wk rfl rfl rfl ⟨.refl _,rfl, .refl _,rfl, .refl _,rfl, .refl _,rfl, .refl _,rfl, .refl _,rfl, .refl _,rfl,trivial⟩ ⟨⟨_,rfl, .of_eq rfl⟩,Wj rfl,rfl,⟨_,rfl, .of_eq rfl⟩,Wj rfl,rfl,⟨_,rfl, .of_eq rfl⟩,Wj rfl,rfl,trivial⟩ rfl⟩
 have h1:r.body.length≤i:=Xc fun hh=>absurd (Xe.2 hh) (of_decide_eq_false h1);rw[WB h1] at hJ;rw[kN hJ];refine gA rfl ?_;refine Wl (fun g2=>?_) (fun g2=>?_);rotate_left
 ·have g2:n>256:=by simpa using g2
  rw[if_pos (.inl g2)];refine gA rfl (aw (by first|exact .inr rfl|exact .inl rfl) rfl (.of_eq ?_));rfl
 have g2: ¬n>256:=of_decide_eq_false g2;refine gA rfl ?_;refine Wl (fun g3=>?_) (fun g3=>?_)
 ·rw[if_pos (.inr (of_decide_eq_true g3))]
  refine gA rfl (aw (by first|exact .inr rfl|exact .inl rfl) rfl (.of_eq ?_));rfl
 have g3: ¬(r.body.length:Int)>12:=of_decide_eq_false g3;rw[if_neg (by rintro(h|h);exact g2 h;exact g3 h)];refine gA rfl (an (c48 r (by omega)) rfl rfl rfl rfl rfl rfl ?_);refine gA rfl (an (V9 r (by omega)) rfl rfl rfl rfl rfl rfl ?_);refine gA rfl ?_;refine Wl (fun g4=>?_) (fun g4=>?_)
 ·rw[if_pos (of_decide_eq_true g4)]
  refine gA rfl (aw (by first|exact .inr rfl|exact .inl rfl) rfl (.of_eq ?_));rfl
 have g4: ¬(CP r:Int)>24:=of_decide_eq_false g4;rw[if_neg g4];refine gA rfl ?_
 refine aK 0 r.body.length (WC _) (fun i=>⟨[(3, .ptr 0 0),(4, .ptr 1 0),(6, .ptr 2 0),(13, .iv (b7 r)),(69, .iv (lits r.body)),(70,pI r.body.length),(71,pI i)],[(0,some (.cells [.iv (cC p)])),(1,some (aE r.c)),(2,some (.cells [pI 0,pI 0,pI 0]))],3⟩) (fun i=>(r.body.take i).any rQ=false) [] (by simp)
  (wk rfl rfl rfl ⟨.refl _,rfl, .refl _,rfl, .refl _,rfl, .refl _,rfl, .refl _,rfl, .refl _,rfl, .refl _,rfl,trivial⟩ ⟨⟨_,rfl, .of_eq rfl⟩,Wj rfl,rfl,⟨_,rfl, .of_eq rfl⟩,Wj rfl,rfl,⟨_,rfl, .of_eq rfl⟩,Wj rfl,rfl,trivial⟩ rfl) fun i hi hJ=>?_
 refine gA rfl ?_;refine Wl (fun h2=>?_) (fun h2=>?_)
 ·have h2:i<r.body.length:=Xe.1 (of_decide_eq_true h2)
  have hA:=cN hJ h2;refine gA rfl ?_;refine Wl (fun k1=>?_) (fun k1=>?_)
  ·have k1:(r.body.getD i default).kind=4:=of_decide_eq_true k1
   refine gA rfl ?_;refine Wl (fun k2=>?_) (fun k2=>?_)
   ·have k2:rQ (r.body.getD i default)=true:=by rw[rQ,decide_eq_true k1];exact k2
    rw[mB hJ h2 k2];refine gA rfl (aw (by first|exact .inr rfl|exact .inl rfl) rfl (.of_eq ?_));rfl
   ·have k2:rQ (r.body.getD i default)=false:=by rw[rQ,decide_eq_true k1];exact k2
    refine gA rfl ?_;exact⟨h2,hA.2 k2,[],wk rfl rfl rfl ⟨.refl _,rfl, .refl _,rfl, .refl _,rfl, .refl _,rfl, .refl _,rfl, .refl _,rfl, .refl _,rfl,trivial⟩ ⟨⟨_,rfl, .of_eq rfl⟩,Wj rfl,rfl,⟨_,rfl, .of_eq rfl⟩,Wj rfl,rfl,⟨_,rfl, .of_eq rfl⟩,Wj rfl,rfl,trivial⟩ rfl⟩
  ·have k1: ¬(r.body.getD i default).kind=4:=of_decide_eq_false (by have g:decide ((r.body.getD i default).kind=4)=false:=k1;exact g)
   refine gA rfl ?_;exact⟨h2,hA.2 (by rw[rQ,decide_eq_false k1];rfl),[],wk rfl rfl rfl ⟨.refl _,rfl, .refl _,rfl, .refl _,rfl, .refl _,rfl, .refl _,rfl, .refl _,rfl, .refl _,rfl,trivial⟩ ⟨⟨_,rfl, .of_eq rfl⟩,Wj rfl,rfl,⟨_,rfl, .of_eq rfl⟩,Wj rfl,rfl,⟨_,rfl, .of_eq rfl⟩,Wj rfl,rfl,trivial⟩ rfl⟩
 have h2:r.body.length≤i:=Xc fun hh=>absurd (Xe.2 hh) (of_decide_eq_false h2);rw[WB h2] at hJ;rw[kN hJ];refine gA rfl (an (c49 p r (by omega)) rfl rfl rfl rfl rfl rfl ?_);refine gA rfl ?_
 refine bU [] (t:=⟨[(3, .ptr 0 0),(4, .ptr 1 0),(6, .ptr 2 0),(104, .sl 3 0 5 2),(105,pI 5),(106,pI 0)],[(0,some (.cells [.iv (cC p)])),(1,some (aE r.c)),(2,some (.cells [pI 0,pI 0,pI 0])),(3,some (.row 2 (gZ p r)))],4⟩)
  (wk rfl rfl rfl ⟨.refl _,rfl, .refl _,rfl, .refl _,rfl, .refl _,rfl, .refl _,rfl, .refl _,rfl,trivial⟩ ⟨⟨_,rfl, .of_eq rfl⟩,Wj rfl,rfl,⟨⟨_,rfl, .of_eq rfl⟩,Wj rfl,rfl,⟨⟨_,rfl, .of_eq rfl⟩,Wj rfl,rfl,⟨⟨_,rfl, .of_eq rfl⟩,Wj rfl,b4 p r _ rfl,trivial⟩⟩⟩⟩ rfl) ?_
 have hwl:(iU p r).ws.length≤1000000000000:=by have:=tg p r r.body.length (Wz _);rw[Ya] at this;show(cR p r r.body.length).ws.length≤_;omega
 rw[n7];refine DS (n:=6) ?_;refine gA rfl ?_;refine Wl (fun q=>?_) (fun q=>?_);rotate_left
 ·exact absurd (show true=false from q) (by decide)
 refine gA rfl ?_
 refine aK 0 (r.body.length+1) (WC _) (fun k=>⟨[(3, .ptr 0 0),(4, .ptr 1 0),(6, .ptr 2 0),(18, .ptr 4 0),(19,pI ((k:Int)-1)),(104, .sl 3 0 5 2),(105,pI 5),(106,pI 0)],[(0,some (.cells [.iv (cC p)])),(1,some (aE r.c)),(2,some (.cells [pI 0,pI 0,pI 0])),(3,some (.row 2 (gZ p r))),(4,some (.cells [pI 61, .cH (.func 160) [] [.ptr 1 0, .ptr 0 0]]))],5⟩) (fun k=>((gq r.body.length).take k).any (fun lit=>(ep r lit).any fun x=>pt p x)=false) [] rfl
  (wk rfl rfl rfl ⟨.refl _,rfl, .refl _,rfl, .refl _,rfl, .refl _,rfl, .refl _,rfl, .refl _,rfl, .refl _,rfl, .refl _,rfl,trivial⟩ ⟨⟨_,rfl, .of_eq rfl⟩,Wj rfl,rfl,⟨⟨_,rfl, .of_eq rfl⟩,Wj rfl,rfl,⟨⟨_,rfl, .of_eq rfl⟩,Wj rfl,rfl,⟨⟨_,rfl, .of_eq rfl⟩,Wj rfl,b4 p r _ rfl,⟨⟨_,rfl, .of_eq rfl⟩,Wj rfl,rfl,trivial⟩⟩⟩⟩⟩ rfl) fun k hk hJ=>?_
 refine gA rfl ?_;refine Wl (fun q1=>?_) (fun q1=>?_)
 ·have q1:(k:Int)-1<r.body.length:=of_decide_eq_true q1
  have hk1:k<r.body.length+1:=by omega
  refine gA rfl (aN [1,0] (d110 p r ((k:Int)-1) (by omega) (by omega)) rfl rfl rfl rfl rfl rfl rfl rfl ?_);refine gA rfl ?_;refine Wl (fun q2=>?_) (fun q2=>?_)
  ·rw[mg hJ hk1 q2]
   refine gA rfl (aX ae [] (Pure.lS (EA r ((k:Int)-1) q1)) rfl rfl rfl rfl rfl rfl rfl rfl rfl rfl rfl rfl (by(repeat' (first|exact trivial|exact rfl|exact ah.refl _|exact ah.bk (by assumption)|apply Wl))<;>first|omega|(simp only[Wp];omega)|(simp;done)|(simp;omega)) rfl (by(repeat' (first|exact trivial|exact rfl|exact ah.refl _|exact ah.bk (by assumption)|apply Wl))<;>first|omega|(simp only[Wp];omega)|(simp;done)|(simp;omega)) ?_);refine gA rfl (aw (by first|exact .inr rfl|exact .inl rfl) rfl (.of_eq ?_));rfl
  ·refine gA rfl ?_
   exact⟨hk1,kE hJ hk1 q2,[],wk rfl rfl rfl ⟨.refl _,rfl, .refl _,rfl, .refl _,rfl, .refl _,rfl, .of_eq (Dj (by omega)),rfl, .refl _,rfl, .refl _,rfl, .refl _,rfl,trivial⟩ ⟨⟨_,rfl, .of_eq rfl⟩,Wj rfl,rfl,⟨⟨_,rfl, .of_eq rfl⟩,Wj rfl,rfl,⟨⟨_,rfl, .of_eq rfl⟩,Wj rfl,rfl,⟨⟨_,rfl, .of_eq rfl⟩,Wj rfl,b4 p r _ rfl,⟨⟨_,rfl, .of_eq rfl⟩,Wj rfl,rfl,trivial⟩⟩⟩⟩⟩ rfl⟩
 have q1: ¬(k:Int)-1<r.body.length:=of_decide_eq_false q1;rw[kF hJ (by omega)]
 clear hJ hk q1
 refine gA rfl ?_;refine Wl (fun q=>?_) (fun q=>?_);rotate_left
 ·exact absurd (show true=false from q) (by decide)
 refine gA rfl ?_
 refine aK 0 (r.body.length+1) (WC _) (fun k=>⟨[(3, .ptr 0 0),(4, .ptr 1 0),(6, .ptr 2 0),(18, .ptr 5 0),(19,pI ((k:Int)-1)),(104, .sl 3 0 5 2),(105,pI 5),(106,pI 1)],[(0,some (.cells [.iv (cC p)])),(1,some (aE r.c)),(2,some (.cells [pI 0,pI 0,pI 0])),(3,some (.row 2 (gZ p r))),(5,some (.cells [pI 62, .cH (.func 164) [] [.ptr 1 0, .ptr 0 0]]))],6⟩) (fun k=>((gq r.body.length).take k).any (fun lit=>(ep r lit).any fun x=>rm p x)=false) [] rfl
  (wk rfl rfl rfl ⟨.refl _,rfl, .refl _,rfl, .refl _,rfl, .refl _,rfl, .refl _,rfl, .refl _,rfl, .refl _,rfl, .refl _,rfl,trivial⟩ ⟨⟨_,rfl, .of_eq rfl⟩,Wj rfl,rfl,⟨⟨_,rfl, .of_eq rfl⟩,Wj rfl,rfl,⟨⟨_,rfl, .of_eq rfl⟩,Wj rfl,rfl,⟨⟨_,rfl, .of_eq rfl⟩,Wj rfl,b4 p r _ rfl,⟨⟨_,rfl, .of_eq rfl⟩,Wj rfl,rfl,trivial⟩⟩⟩⟩⟩ rfl) fun k hk hJ=>?_
 refine gA rfl ?_;refine Wl (fun q1=>?_) (fun q1=>?_)
 ·have q1:(k:Int)-1<r.body.length:=of_decide_eq_true q1
  have hk1:k<r.body.length+1:=by omega
  refine gA rfl (aN [1,0] (d114 p r ((k:Int)-1) (by omega) (by omega)) rfl rfl rfl rfl rfl rfl rfl rfl ?_);refine gA rfl ?_;refine Wl (fun q2=>?_) (fun q2=>?_)
  ·rw[mg hJ hk1 q2]
   refine gA rfl (aX ae [] (Pure.lS (EA r ((k:Int)-1) q1)) rfl rfl rfl rfl rfl rfl rfl rfl rfl rfl rfl rfl (by(repeat' (first|exact trivial|exact rfl|exact ah.refl _|exact ah.bk (by assumption)|apply Wl))<;>first|omega|(simp only[Wp];omega)|(simp;done)|(simp;omega)) rfl (by(repeat' (first|exact trivial|exact rfl|exact ah.refl _|exact ah.bk (by assumption)|apply Wl))<;>first|omega|(simp only[Wp];omega)|(simp;done)|(simp;omega)) ?_);refine gA rfl (aw (by first|exact .inr rfl|exact .inl rfl) rfl (.of_eq ?_));rfl
  ·refine gA rfl ?_
   exact⟨hk1,kE hJ hk1 q2,[],wk rfl rfl rfl ⟨.refl _,rfl, .refl _,rfl, .refl _,rfl, .refl _,rfl, .of_eq (Dj (by omega)),rfl, .refl _,rfl, .refl _,rfl, .refl _,rfl,trivial⟩ ⟨⟨_,rfl, .of_eq rfl⟩,Wj rfl,rfl,⟨⟨_,rfl, .of_eq rfl⟩,Wj rfl,rfl,⟨⟨_,rfl, .of_eq rfl⟩,Wj rfl,rfl,⟨⟨_,rfl, .of_eq rfl⟩,Wj rfl,b4 p r _ rfl,⟨⟨_,rfl, .of_eq rfl⟩,Wj rfl,rfl,trivial⟩⟩⟩⟩⟩ rfl⟩
 have q1: ¬(k:Int)-1<r.body.length:=of_decide_eq_false q1;rw[kF hJ (by omega)]
 clear hJ hk q1
 refine gA rfl ?_;refine Wl (fun q=>?_) (fun q=>?_);rotate_left
 ·exact absurd (show true=false from q) (by decide)
 refine gA rfl ?_
 refine aK 0 (r.body.length+1) (WC _) (fun k=>⟨[(3, .ptr 0 0),(4, .ptr 1 0),(6, .ptr 2 0),(18, .ptr 6 0),(19,pI ((k:Int)-1)),(104, .sl 3 0 5 2),(105,pI 5),(106,pI 2)],[(0,some (.cells [.iv (cC p)])),(1,some (aE r.c)),(2,some (.cells [pI 0,pI 0,pI 0])),(3,some (.row 2 (gZ p r))),(6,some (.cells [pI 65, .cH (.func 166) [] [.ptr 1 0]]))],7⟩) (fun k=>((gq r.body.length).take k).any (lf r)=false) [] rfl
  (wk rfl rfl rfl ⟨.refl _,rfl, .refl _,rfl, .refl _,rfl, .refl _,rfl, .refl _,rfl, .refl _,rfl, .refl _,rfl, .refl _,rfl,trivial⟩ ⟨⟨_,rfl, .of_eq rfl⟩,Wj rfl,rfl,⟨⟨_,rfl, .of_eq rfl⟩,Wj rfl,rfl,⟨⟨_,rfl, .of_eq rfl⟩,Wj rfl,rfl,⟨⟨_,rfl, .of_eq rfl⟩,Wj rfl,b4 p r _ rfl,⟨⟨_,rfl, .of_eq rfl⟩,Wj rfl,rfl,trivial⟩⟩⟩⟩⟩ rfl) fun k hk hJ=>?_
 refine gA rfl ?_;refine Wl (fun q1=>?_) (fun q1=>?_)
 ·have q1:(k:Int)-1<r.body.length:=of_decide_eq_true q1
  have hk1:k<r.body.length+1:=by omega
  refine gA rfl (aN [1] (d116 r ((k:Int)-1) (by omega) (by omega)) rfl rfl rfl rfl rfl rfl rfl rfl ?_);refine gA rfl ?_;refine Wl (fun q2=>?_) (fun q2=>?_)
  ·rw[mg hJ hk1 q2]
   refine gA rfl (aX ae [] (Pure.lS (EA r ((k:Int)-1) q1)) rfl rfl rfl rfl rfl rfl rfl rfl rfl rfl rfl rfl (by(repeat' (first|exact trivial|exact rfl|exact ah.refl _|exact ah.bk (by assumption)|apply Wl))<;>first|omega|(simp only[Wp];omega)|(simp;done)|(simp;omega)) rfl (by(repeat' (first|exact trivial|exact rfl|exact ah.refl _|exact ah.bk (by assumption)|apply Wl))<;>first|omega|(simp only[Wp];omega)|(simp;done)|(simp;omega)) ?_);refine gA rfl (aw (by first|exact .inr rfl|exact .inl rfl) rfl (.of_eq ?_));rfl
  ·refine gA rfl ?_
   exact⟨hk1,kE hJ hk1 q2,[],wk rfl rfl rfl ⟨.refl _,rfl, .refl _,rfl, .refl _,rfl, .refl _,rfl, .of_eq (Dj (by omega)),rfl, .refl _,rfl, .refl _,rfl, .refl _,rfl,trivial⟩ ⟨⟨_,rfl, .of_eq rfl⟩,Wj rfl,rfl,⟨⟨_,rfl, .of_eq rfl⟩,Wj rfl,rfl,⟨⟨_,rfl, .of_eq rfl⟩,Wj rfl,rfl,⟨⟨_,rfl, .of_eq rfl⟩,Wj rfl,b4 p r _ rfl,⟨⟨_,rfl, .of_eq rfl⟩,Wj rfl,rfl,trivial⟩⟩⟩⟩⟩ rfl⟩
 have q1: ¬(k:Int)-1<r.body.length:=of_decide_eq_false q1;rw[kF hJ (by omega)]
 clear hJ hk q1
 refine gA rfl ?_;refine Wl (fun q=>?_) (fun q=>?_);rotate_left
 ·exact absurd (show true=false from q) (by decide)
 refine gA rfl ?_
 refine aK 0 (r.body.length+1) (WC _) (fun k=>⟨[(3, .ptr 0 0),(4, .ptr 1 0),(6, .ptr 2 0),(18, .ptr 7 0),(19,pI ((k:Int)-1)),(104, .sl 3 0 5 2),(105,pI 5),(106,pI 3)],[(0,some (.cells [.iv (cC p)])),(1,some (aE r.c)),(2,some (.cells [pI 0,pI 0,pI 0])),(3,some (.row 2 (gZ p r))),(7,some (.cells [pI 63, .cH (.func 169) [.iv (Rv r (iU p r))] []]))],8⟩) (fun k=>((gq r.body.length).take k).any (pz (iU p r))=false) [] rfl
  (wk rfl rfl rfl ⟨.refl _,rfl, .refl _,rfl, .refl _,rfl, .refl _,rfl, .refl _,rfl, .refl _,rfl, .refl _,rfl, .refl _,rfl,trivial⟩ ⟨⟨_,rfl, .of_eq rfl⟩,Wj rfl,rfl,⟨⟨_,rfl, .of_eq rfl⟩,Wj rfl,rfl,⟨⟨_,rfl, .of_eq rfl⟩,Wj rfl,rfl,⟨⟨_,rfl, .of_eq rfl⟩,Wj rfl,b4 p r _ rfl,⟨⟨_,rfl, .of_eq rfl⟩,Wj rfl,rfl,trivial⟩⟩⟩⟩⟩ rfl) fun k hk hJ=>?_
 refine gA rfl ?_;refine Wl (fun q1=>?_) (fun q1=>?_)
 ·have q1:(k:Int)-1<r.body.length:=of_decide_eq_true q1
  have hk1:k<r.body.length+1:=by omega
  refine gA rfl (an (V7 r (iU p r) ((k:Int)-1) (wg p r _) hwl) rfl rfl rfl rfl rfl rfl ?_);refine gA rfl ?_;refine Wl (fun q2=>?_) (fun q2=>?_)
  ·rw[mg hJ hk1 q2]
   refine gA rfl (aX ae [] (Pure.lS (EA r ((k:Int)-1) q1)) rfl rfl rfl rfl rfl rfl rfl rfl rfl rfl rfl rfl (by(repeat' (first|exact trivial|exact rfl|exact ah.refl _|exact ah.bk (by assumption)|apply Wl))<;>first|omega|(simp only[Wp];omega)|(simp;done)|(simp;omega)) rfl (by(repeat' (first|exact trivial|exact rfl|exact ah.refl _|exact ah.bk (by assumption)|apply Wl))<;>first|omega|(simp only[Wp];omega)|(simp;done)|(simp;omega)) ?_);refine gA rfl (aw (by first|exact .inr rfl|exact .inl rfl) rfl (.of_eq ?_));rfl
  ·refine gA rfl ?_
   exact⟨hk1,kE hJ hk1 q2,[],wk rfl rfl rfl ⟨.refl _,rfl, .refl _,rfl, .refl _,rfl, .refl _,rfl, .of_eq (Dj (by omega)),rfl, .refl _,rfl, .refl _,rfl, .refl _,rfl,trivial⟩ ⟨⟨_,rfl, .of_eq rfl⟩,Wj rfl,rfl,⟨⟨_,rfl, .of_eq rfl⟩,Wj rfl,rfl,⟨⟨_,rfl, .of_eq rfl⟩,Wj rfl,rfl,⟨⟨_,rfl, .of_eq rfl⟩,Wj rfl,b4 p r _ rfl,⟨⟨_,rfl, .of_eq rfl⟩,Wj rfl,rfl,trivial⟩⟩⟩⟩⟩ rfl⟩
 have q1: ¬(k:Int)-1<r.body.length:=of_decide_eq_false q1;rw[kF hJ (by omega)]
 clear hJ hk q1
 refine gA rfl ?_;refine Wl (fun q=>?_) (fun q=>?_);rotate_left
 ·exact absurd (show true=false from q) (by decide)
 refine gA rfl ?_
 refine aK 0 (r.body.length+1) (WC _) (fun k=>⟨[(3, .ptr 0 0),(4, .ptr 1 0),(6, .ptr 2 0),(18, .ptr 8 0),(19,pI ((k:Int)-1)),(104, .sl 3 0 5 2),(105,pI 5),(106,pI 4)],[(0,some (.cells [.iv (cC p)])),(1,some (aE r.c)),(2,some (.cells [pI 0,pI 0,pI 0])),(3,some (.row 2 (gZ p r))),(8,some (.cells [pI 64, .cH (.func 170) [.iv (b7 r)] []]))],9⟩) (fun k=>((gq r.body.length).take k).any (j6 r)=false) [] rfl
  (wk rfl rfl rfl ⟨.refl _,rfl, .refl _,rfl, .refl _,rfl, .refl _,rfl, .refl _,rfl, .refl _,rfl, .refl _,rfl, .refl _,rfl,trivial⟩ ⟨⟨_,rfl, .of_eq rfl⟩,Wj rfl,rfl,⟨⟨_,rfl, .of_eq rfl⟩,Wj rfl,rfl,⟨⟨_,rfl, .of_eq rfl⟩,Wj rfl,rfl,⟨⟨_,rfl, .of_eq rfl⟩,Wj rfl,b4 p r _ rfl,⟨⟨_,rfl, .of_eq rfl⟩,Wj rfl,rfl,trivial⟩⟩⟩⟩⟩ rfl) fun k hk hJ=>?_
 refine gA rfl ?_;refine Wl (fun q1=>?_) (fun q1=>?_)
 ·have q1:(k:Int)-1<r.body.length:=of_decide_eq_true q1
  have hk1:k<r.body.length+1:=by omega
  refine gA rfl (an (V6 r ((k:Int)-1) (by omega) (by omega)) rfl rfl rfl rfl rfl rfl ?_);refine gA rfl ?_;refine Wl (fun q2=>?_) (fun q2=>?_)
  ·rw[mg hJ hk1 q2]
   refine gA rfl (aX ae [] (Pure.lS (EA r ((k:Int)-1) q1)) rfl rfl rfl rfl rfl rfl rfl rfl rfl rfl rfl rfl (by(repeat' (first|exact trivial|exact rfl|exact ah.refl _|exact ah.bk (by assumption)|apply Wl))<;>first|omega|(simp only[Wp];omega)|(simp;done)|(simp;omega)) rfl (by(repeat' (first|exact trivial|exact rfl|exact ah.refl _|exact ah.bk (by assumption)|apply Wl))<;>first|omega|(simp only[Wp];omega)|(simp;done)|(simp;omega)) ?_);refine gA rfl (aw (by first|exact .inr rfl|exact .inl rfl) rfl (.of_eq ?_));rfl
  ·refine gA rfl ?_
   exact⟨hk1,kE hJ hk1 q2,[],wk rfl rfl rfl ⟨.refl _,rfl, .refl _,rfl, .refl _,rfl, .refl _,rfl, .of_eq (Dj (by omega)),rfl, .refl _,rfl, .refl _,rfl, .refl _,rfl,trivial⟩ ⟨⟨_,rfl, .of_eq rfl⟩,Wj rfl,rfl,⟨⟨_,rfl, .of_eq rfl⟩,Wj rfl,rfl,⟨⟨_,rfl, .of_eq rfl⟩,Wj rfl,rfl,⟨⟨_,rfl, .of_eq rfl⟩,Wj rfl,b4 p r _ rfl,⟨⟨_,rfl, .of_eq rfl⟩,Wj rfl,rfl,trivial⟩⟩⟩⟩⟩ rfl⟩
 have q1: ¬(k:Int)-1<r.body.length:=of_decide_eq_false q1;rw[kF hJ (by omega)]
 clear hJ hk q1
 refine gA rfl ?_;refine Wl (fun q=>?_) (fun q=>?_)
 ·exact absurd (show false=true from q) (by decide)
 refine gA rfl (aw (by first|exact .inr rfl|exact .inl rfl) rfl (.of_eq ?_));rfl
end Go.Proofs.YtflegjieadkonaaGreatDoor
namespace Go.Proofs.YtflegjieadkonaaGreatDoor
open Go Go.Al
set_option maxRecDepth 10000
theorem jz:Tryz.prog.cellsOf 3=1:=by kernel_rfl
theorem qt:Tryz.prog.cellsOf 9=1:=by kernel_rfl
theorem wc:Tryz.prog.cellsOf 98=3:=by kernel_rfl
theorem yg:Tryz.prog.cellsOf 143=5:=by kernel_rfl
theorem Ku:Tryz.prog.cellsOf 71=1:=by kernel_rfl
theorem we:Tryz.prog.cellsOf 73=2:=by kernel_rfl
theorem Kt:Tryz.prog.cellsOf 99=1:=by kernel_rfl
theorem mL:Tryz.prog.cellsOf 101=7:=by kernel_rfl
theorem yh:Tryz.prog.cellsOf 103=10:=by kernel_rfl
theorem AJ:Tryz.prog.cellsOf 74=1:=by kernel_rfl
theorem ta:Tryz.prog.cellsOf 105=30:=by kernel_rfl
theorem rJ:Tryz.prog.cellsOf 35=2:=by kernel_rfl
theorem AI:Tryz.prog.cellsOf 76=5:=by kernel_rfl
theorem Kv:Tryz.prog.cellsOf 47=1:=by kernel_rfl
theorem AK:Tryz.prog.cellsOf 49=4:=by kernel_rfl
theorem Ky:Tryz.prog.cellsOf 22=1:=by kernel_rfl
theorem Kx:Tryz.prog.cellsOf 23=1:=by kernel_rfl
theorem Kw:Tryz.prog.cellsOf 25=2:=by kernel_rfl
section
variable {H:Type}
abbrev bk (d:DataW H):Nat:=Rows.uptoBulk d
theorem zw (d:DataW H):1≤bk d:=by
 cases d with
 |lit l=>cases l<;>simp[bk,Rows.uptoBulk]
 |nil=>simp[bk,Rows.uptoBulk]
 |ptr d=>simp[bk,Rows.uptoBulk]
 |slice elems spare=>simp[bk,Rows.uptoBulk]
 |agg parts=>simp[bk,Rows.uptoBulk]
 |iface t d=>simp[bk,Rows.uptoBulk]
 |map entries=>simp[bk,Rows.uptoBulk]
 |held h=>simp[bk,Rows.uptoBulk]
theorem tj (s:ByteArray):bk (DataW.lit (H:=H) (.string s.data.toList))=s.size+1:=by
 simp[bk,Rows.uptoBulk]
theorem _root_.Go.Al.QL.sum {α:Type} {Q:α→DataW H→Prop} {l:List α} {d:DataW H} (h:QL Q l d) {f:α→Nat} {c:Nat} (hf: ∀x e,Q x e→f x≤c*bk e):(l.map f).sum≤c*bk d:=by
 obtain⟨el,hd,hlen,hq⟩:=h
 have key: ∀(l:List α) (el:List (DataW H)),l.length=el.length→(∀(i:Nat) (x:α) (e:DataW H),l[i]? =some x→el[i]? =some e→Q x e)→(l.map f).sum≤c*Rows.uptoBulkAll el:=by
  intro l
  induction l with
  |nil=>intro el _ _;simp
  |cons x r ih=>
   intro el hl hq
   cases el with
   |nil=>simp at hl
   |cons e el=>
    have h1:=hf x e (hq 0 x e rfl rfl);have h2:=ih el (by simpa using hl) fun i x e hx he=>hq (i+1) x e (by simpa using hx) (by simpa using he);simp only[WI,XN,Rows.uptoBulkAll,Nat.mul_add];simp only[bk] at h1;omega
 have h1:=key l el hlen hq;rcases hd with⟨rfl,rfl⟩|⟨sp,rfl⟩
 ·simp[Rows.uptoBulkAll] at h1;omega
 ·refine WV h1 (Nat.mul_le_mul_left c ?_)
  simp only[bk,Rows.uptoBulk];omega
theorem wF {α:Type}: ∀l:List α,(l.map fun _=>1).sum=l.length
 | []=>rfl
 |x::r=>by simp only[WI,XN,W2,wF r];omega
theorem _root_.Go.Al.QL.len {α:Type} {Q:α→DataW H→Prop} {l:List α} {d:DataW H} (h:QL Q l d):l.length≤bk d:=by
 have:=h.sum (f:=fun _=>1) (c:=1) fun x e _=>by have:=zw e;omega
 have e:=wF l;omega
theorem _root_.Go.Al.QL.all {α:Type} {Q:α→DataW H→Prop} {l:List α} {d:DataW H} (h:QL Q l d): ∀x∈l,∃e,Q x e∧bk e≤bk d:=by
 intro x hx;obtain⟨el,hd,hlen,hq⟩:=h;obtain⟨i,hi,rfl⟩:=XH.1 hx;have hie:i<el.length:=by omega
 refine⟨el[i],hq i _ _ (Wt hi) (Wt hie),?_⟩
 have key: ∀(el:List (DataW H)),∀e∈el,bk e≤Rows.uptoBulkAll el:=by
  intro el
  induction el with
  |nil=>intro e he;cases he
  |cons y r ih=>
   intro e he;simp only[Rows.uptoBulkAll];rcases WG.1 he with rfl|he
   ·simp only[bk];omega
   ·have:=ih e he;omega
 have h1:=key el el[i] (Xj hie);rcases hd with⟨rfl,rfl⟩|⟨sp,rfl⟩
 ·simp at hie
 ·refine WV h1 ?_
  simp only[bk,Rows.uptoBulk];omega
end
theorem Expr.eZ: ∀l:List Expr,Expr.aC l=(l.map Expr.size).sum
 | []=>rfl
 |e::r=>by simp only[Expr.aC,WI,XN,Expr.eZ r]
theorem Expr.oy: ∀l:List Expr,Expr.lJ l=(l.map Expr.ts).sum
 | []=>rfl
 |e::r=>by simp only[Expr.lJ,WI,XN,Expr.oy r]
theorem Lit.eZ: ∀l:List Lit,Lit.aC l=(l.map Lit.size).sum
 | []=>rfl
 |e::r=>by simp only[Lit.aC,WI,XN,Lit.eZ r]
theorem Lit.oy: ∀l:List Lit,Lit.lJ l=(l.map Lit.ts).sum
 | []=>rfl
 |e::r=>by simp only[Lit.lJ,WI,XN,Lit.oy r]
section
variable {H:Type} {enc:TypeId×Value→H} {W:World} {hT:mS W} {sp:Nat→Bool} {held:Bool}
def QV (v:tx) (d:DataW H):Prop:=v.sym.size≤bk d
def QT (t:Term) (d:DataW H):Prop:=t.ts≤400*bk d
def QA (a:Atom) (d:DataW H):Prop:=a.ts≤400*bk d∧a.aq.length≤bk d
def QE (e:Expr) (d:DataW H):Prop:=e.ts≤400*bk d∧e.size≤bk d
def QP (_:Pos) (_:DataW H):Prop:=True
def Pos.c (p:Pos):List IV:=[iI p.line,iI p.Ch]
def QG (g:fg) (d:DataW H):Prop:=g.var.size+g.iq.ts+Lit.lJ g.body≤400*bk d∧g.iq.size+Lit.aC g.body≤bk d
def QB (l:Lit) (d:DataW H):Prop:=l.ts≤400*bk d∧l.size≤bk d
theorem rd_val (n:Nat):Rd enc Tryz.prog W hT sp held 98 tx.c QV n:=by
 intro m _ cs y h;obtain⟨xs,k,rfl,rfl,hl,hx,hf⟩:=DataW.trod_struct Tryz.underlying98 h
 match xs,hx with
 | [x0,x1,x2],_=>
  obtain⟨a,ca,qa,_⟩:=jb (hT:=hT) Tryz.underlying3 k k (Wz _) _ _ (nh hf 0 rfl rfl rfl jz rfl);obtain⟨b,cb,qb,_⟩:=jb (hT:=hT) Tryz.underlying3 k k (Wz _) _ _ (nh hf 1 rfl rfl rfl jz rfl);obtain⟨c,cc,qc,_⟩:=iK (hT:=hT) Tryz.underlying9 k k (Wz _) _ _ (nh hf 2 rfl rfl rfl qt rfl);refine⟨⟨a,b,c⟩,ca.eW (o':=1) rfl (cb.eW (o':=2) rfl (cc.eW (o':=3) rfl (.end_ (hl.trans wc)))),?_⟩;simp only[QV,bk,WI,Xd,Rows.uptoBulk,Rows.uptoBulkAll];have:=tj (H:=H) c;rw[←qc] at this;simp only[bk] at this;omega
theorem yO (n:Nat):Rd enc Tryz.prog W hT sp held 35 Pos.c QP n:=by
 intro m _ cs y h;obtain⟨xs,k,rfl,rfl,hl,hx,hf⟩:=DataW.trod_struct Tryz.underlying35 h
 match xs,hx with
 | [x0,x1],_=>
  obtain⟨a,ca,qa,_⟩:=jb (hT:=hT) Tryz.underlying3 k k (Wz _) _ _ (nh hf 0 rfl rfl rfl jz rfl);obtain⟨b,cb,qb,_⟩:=jb (hT:=hT) Tryz.underlying3 k k (Wz _) _ _ (nh hf 1 rfl rfl rfl jz rfl);exact⟨⟨a,b⟩,ca.eW (o':=1) rfl (cb.eW (o':=2) rfl (.end_ (hl.trans rJ))),trivial⟩
theorem JF (n:Nat):Rd enc Tryz.prog W hT sp held 143 Term.c QT n:=by
 intro m _ cs y h;obtain⟨xs,k,rfl,rfl,hl,hx,hf⟩:=DataW.trod_struct Tryz.underlying143 h
 match xs,hx with
 | [x0,x1,x2],_=>
  obtain⟨a,ca,qa,_⟩:=jb (hT:=hT) Tryz.underlying3 k k (Wz _) _ _ (nh hf 0 rfl rfl rfl jz rfl);obtain⟨b,cb,qb,_⟩:=iK (hT:=hT) Tryz.underlying9 k k (Wz _) _ _ (nh hf 1 rfl rfl rfl qt rfl);obtain⟨c,cc,qc⟩:=rd_val (hT:=hT) k k (Wz _) _ _ (nh hf 2 rfl rfl rfl wc rfl);refine⟨⟨a,b,c⟩,ca.eW (o':=1) rfl (cb.eW (o':=2) rfl (cc.eW (o':=5) rfl (.end_ (hl.trans yg)))),?_⟩;simp only[QT,Term.ts,bk,WI,Xd,Rows.uptoBulk,Rows.uptoBulkAll];have:=tj (H:=H) b;rw[←qb] at this;simp only[bk] at this;omega
theorem zW (n:Nat):Rd enc Tryz.prog W hT sp held 73 Atom.c QA n:=by
 intro m _ cs y h;obtain⟨xs,k,rfl,rfl,hl,hx,hf⟩:=DataW.trod_struct Tryz.underlying73 h
 match xs,hx with
 | [x0,x1],_=>
  obtain⟨a,ca,qa,_⟩:=iK (hT:=hT) Tryz.underlying9 k k (Wz _) _ _ (nh hf 0 rfl rfl rfl qt rfl);obtain⟨b,cb,qb⟩:=(ja (hT:=hT) Tryz.underlying71 yg (by decide) (fun _=>rfl) (JF k)).mono (YC k) k (Wz _) _ _ (nh hf 1 rfl rfl rfl Ku rfl);refine⟨⟨a,b⟩,ca.eW (o':=1) rfl (cb.eW (o':=2) rfl (.end_ (hl.trans we))),?_⟩;have h1:=tj (H:=H) a;rw[←qa] at h1;have h2:=qb.sum (f:=Term.ts) (c:=400) fun _ _ h=>h;have h3:=qb.len;simp only[bk] at h1 h2 h3;simp only[QA,Atom.ts,bk,WI,Xd,Rows.uptoBulk,Rows.uptoBulkAll];omega
theorem rv: ∀n:Nat,Rd enc Tryz.prog W hT sp held 101 Expr.c QE n
 |0=>fun m hm cs y h=>by
  obtain rfl:m=0:=by omega
  simp[DataW.trod] at h
 |n+1=>fun m hm cs y h=>by
  obtain⟨xs,k,rfl,rfl,hl,hx,hf⟩:=DataW.trod_struct Tryz.underlying101 h;have hs:=ja (hT:=hT) Tryz.underlying99 mL (by decide) (fun _=>rfl) (rv n)
  match xs,hx with
  | [x0,x1,x2,x3,x4],_=>
   obtain⟨a,ca,qa,_⟩:=jb (hT:=hT) Tryz.underlying3 k k (Wz _) _ _ (nh hf 0 rfl rfl rfl jz rfl);obtain⟨b,cb,qb,_⟩:=iK (hT:=hT) Tryz.underlying9 k k (Wz _) _ _ (nh hf 1 rfl rfl rfl qt rfl);obtain⟨c,cc,qc⟩:=rd_val (hT:=hT) k k (Wz _) _ _ (nh hf 2 rfl rfl rfl wc rfl);obtain⟨d,cd,qd,_⟩:=jb (hT:=hT) Tryz.underlying3 k k (Wz _) _ _ (nh hf 3 rfl rfl rfl jz rfl);obtain⟨e,ce,qe⟩:=hs k (by omega) _ _ (nh hf 4 rfl rfl rfl Kt rfl);refine⟨.mk a b c d e,ca.eW (o':=1) rfl (cb.eW (o':=2) rfl (cc.eW (o':=5) rfl (cd.eW (o':=6) rfl ((ce.Ac (Az (.mk a b c d e))).eW (o':=7) rfl (.end_ (hl.trans mL)))))),?_⟩;have h1:=tj (H:=H) b;rw[←qb] at h1;have h2:=qe.sum (f:=Expr.ts) (c:=400) fun _ _ h=>h.1;have h3:=qe.sum (f:=Expr.size) (c:=1) fun _ _ h=>by have:=h.2;omega
   rw[←Expr.oy] at h2;rw[←Expr.eZ] at h3;simp only[bk] at h1 h2 h3;simp only[QE,Expr.ts,Expr.size,bk,WI,Xd,Rows.uptoBulk,Rows.uptoBulkAll];omega
theorem RS {n:Nat} (hb:Rd enc Tryz.prog W hT sp held 74 (fun l:List Lit=> [cM 30 l Lit.c]) (QL QB) n):Rd enc Tryz.prog W hT sp held 103 fg.c QG (n+1):=by
 intro m hm cs y h;obtain⟨xs,k,rfl,rfl,hl,hx,hf⟩:=DataW.trod_struct Tryz.underlying103 h
 match xs,hx with
 | [x0,x1,x2,x3],_=>
  obtain⟨a,ca,qa,_⟩:=jb (hT:=hT) Tryz.underlying3 k k (Wz _) _ _ (nh hf 0 rfl rfl rfl jz rfl);obtain⟨b,cb,qb,_⟩:=iK (hT:=hT) Tryz.underlying9 k k (Wz _) _ _ (nh hf 1 rfl rfl rfl qt rfl);obtain⟨c,cc,qc⟩:=rv (hT:=hT) k k (Wz _) _ _ (nh hf 2 rfl rfl rfl mL rfl);obtain⟨d,cd,qd⟩:=hb k (by omega) _ _ (nh hf 3 rfl rfl rfl AJ rfl);refine⟨⟨a,b,c,d⟩,ca.eW (o':=1) rfl (cb.eW (o':=2) rfl (cc.eW (o':=9) rfl ((cd.Ac (yY d)).eW (o':=10) rfl (.end_ (hl.trans yh))))),?_⟩;have h1:=tj (H:=H) b;rw[←qb] at h1;have h2:=qd.sum (f:=Lit.ts) (c:=400) fun _ _ h=>h.1;have h3:=qd.sum (f:=Lit.size) (c:=1) fun _ _ h=>by have:=h.2;omega
  rw[←Lit.oy] at h2;rw[←Lit.eZ] at h3;obtain⟨h4,h5⟩:=qc;simp only[bk] at h1 h2 h3 h4 h5;simp only[QG,bk,WI,Xd,Rows.uptoBulk,Rows.uptoBulkAll];omega
theorem De: ∀n:Nat,Rd enc Tryz.prog W hT sp held 105 Lit.c QB n
 |0=>fun m hm cs y h=>by
  obtain rfl:m=0:=by omega
  simp[DataW.trod] at h
 |n+1=>fun m hm cs y h=>by
  obtain⟨xs,k,rfl,rfl,hl,hx,hf⟩:=DataW.trod_struct Tryz.underlying105 h;have hs:=RS (ja (hT:=hT) Tryz.underlying74 ta (by decide) (fun _=>rfl) (De n))
  match xs,hx with
  | [x0,x1,x2,x3,x4,x5,x6],_=>
   obtain⟨a,ca,qa,_⟩:=jb (hT:=hT) Tryz.underlying3 k k (Wz _) _ _ (nh hf 0 rfl rfl rfl jz rfl);obtain⟨b,cb,qb⟩:=zW (hT:=hT) k k (Wz _) _ _ (nh hf 1 rfl rfl rfl we rfl);obtain⟨c,cc,qc,_⟩:=jb (hT:=hT) Tryz.underlying3 k k (Wz _) _ _ (nh hf 2 rfl rfl rfl jz rfl);obtain⟨d,cd,qd⟩:=rv (hT:=hT) k k (Wz _) _ _ (nh hf 3 rfl rfl rfl mL rfl);obtain⟨e,ce,qe⟩:=rv (hT:=hT) k k (Wz _) _ _ (nh hf 4 rfl rfl rfl mL rfl);obtain⟨g,cg,qg⟩:=hs k (by omega) _ _ (nh hf 5 rfl rfl rfl yh rfl);obtain⟨p,cp,_⟩:=yO (hT:=hT) k k (Wz _) _ _ (nh hf 6 rfl rfl rfl rJ rfl);refine⟨.mk a b c d e g.func g.var g.iq g.body p,ca.eW (o':=1) rfl (cb.eW (o':=3) rfl (cc.eW (o':=4) rfl (cd.eW (o':=11) rfl (ce.eW (o':=18) rfl (cg.eW (o':=28) rfl (cp.eW (o':=30) rfl (.end_ (hl.trans ta)))))))),?_⟩;obtain⟨h1,h2⟩:=qb;obtain⟨h3,h4⟩:=qd;obtain⟨h5,h6⟩:=qe;obtain⟨h7,h8⟩:=qg;have h9:=zw x0.1;have h10:=zw x2.1;simp only[bk] at h1 h2 h3 h4 h5 h6 h7 h8 h9 h10;simp only[QB,Lit.ts,Lit.size,bk,WI,Xd,Rows.uptoBulk,Rows.uptoBulkAll];omega
theorem JH (n:Nat):Rd enc Tryz.prog W hT sp held 74 (fun l:List Lit=> [lits l]) (QL QB) n:=
 (ja (hT:=hT) Tryz.underlying74 ta (by decide) (fun _=>rfl) (De n)).mono (YC n)
end
end Go.Proofs.YtflegjieadkonaaGreatDoor
namespace Go.Proofs.YtflegjieadkonaaGreatDoor
open Go Go.Al Go.ChangeShapes Go.WideShapes Go.RowKit
set_option maxRecDepth 100000
theorem own:ownKnob Tryz.prog.godebug=none:=by kernel_rfl
theorem UY:Tryz.prog.globalNamed "internal/strconv.uint64pow10" =some 0:=by kernel_rfl
theorem D0:(Tryz.prog.globals[0]?).map (·.type)=some 343:=by kernel_rfl
theorem Ew:Tryz.prog.cellsOf 343=20:=by kernel_rfl
theorem Ex:Tryz.prog.cellsOf 205=1:=by kernel_rfl
theorem Cr:Tryz.prog.underlying 343=some (.array 20 205):=by kernel_rfl
theorem Cs:Tryz.prog.underlying 205=some (.int .u64):=by kernel_rfl
abbrev DF:List (String×DataW Unit):=[("math/bits.deBruijn32tab",Rows.laid_math_bits_deBruijn32tab),("math/bits.deBruijn64tab",Rows.laid_math_bits_deBruijn64tab),("internal/strconv.uint64pow10",Rows.laid_internal_strconv_uint64pow10)]
theorem CC {W:World} (h:laidMetH Tryz.prog DF W):mS W:=by
 have h2:=laidMetH.filter (fun x=>x.1== "internal/strconv.uint64pow10") h
 have h3:laidMet Tryz.prog [("internal/strconv.uint64pow10",Lib.tabData .u64 n3)] W:=by
  rw[show DF.filter (fun x=>x.1== "internal/strconv.uint64pow10")=[("internal/strconv.uint64pow10",Lib.tabData .u64 n3)] by kernel_rfl] at h2;rwa[MakeChecks.laidMetH_plain _ _ _ (by kernel_rfl)] at h2
 have h4:Lib.TabIs Tryz.prog W "internal/strconv.uint64pow10" .u64 n3:=Lib.tabIs_of_head (rest:=[]) UY D0 Cr Cs Ex Ew h3;intro b c hb;unfold Lib.TabIs World.var? at h4;rw[UY] at h4
 match b with
 |0=>
  have hc:(n3.map fun z=>Value.int .u64 z).toArray=c:=Xt hb;rw[hc] at h4;simp only[Option.bind_some] at h4;split at h4
  ·rename_i cs T fr e
   exact⟨T,fr,by rw[e,Xt h4]⟩
  ·cases h4
 |b+1=>exact nomatch hb
theorem kids:Kids Tryz.prog (· <Tryz.prog.types.size):=kids_rows (by kernel_rfl) (by kernel_rfl)
theorem full: ∀{t e},t<Tryz.prog.types.size→Tryz.prog.underlying t=some (.slice e)→0<Tryz.prog.cellsOf e:=fun{t e}=>slices_full_of Tryz.prog (by kernel_rfl) t e
theorem vw {H:Type} {enc:TypeId×Value→H} {W:World} (hT:mS W) {k:FuncId} {f:Func} {s:ChangeSpec} {args:List PV} {vs:List Value} {ds gs:List (DataW H)} {before:List MemPlace}
  (hp:Al.Pure Tryz.prog k args (pB true)) (hlen:args.length=vs.length) (hv: ∀(j:Nat) (p:PV),args[j]? =some p→VR (Mem.ou W hT) UL (· <0) p (vs.getD j undef))
  (hTs: ∀t∈f.params.toList,t<Tryz.prog.types.size) (hvars:s.vars=[]) (hres:f.resultTypes= #[4])
  (hW:DataW.Whole enc Tryz.prog f.params.toList s.vars false W vs.toArray.toList ds gs before)
  (hs1:(s.fn H (ds++gs)).results=[.lit (.bool true)]) (hs2:(s.fn H (ds++gs)).args=ds) (hs3:(s.fn H (ds++gs)).vars=[]):
  Calls Tryz.prog k vs.toArray W fun e W'=> ∃v,e= .returned v∧s.post enc Tryz.prog f false true false false W vs.toArray v W':=by
 refine(hp.2 (Mem.ou W hT) UL W vs (JE W hT) hlen hv).mono ?_
 rintro e W' ⟨x,M',N',r,h',n',rfl,⟨rfl,rfl,rfl⟩,hx,hr,hvr⟩
 have hxt:x= .bool true:=by
  cases hvr with
  |iv _ _ h=>cases h;rfl
 subst hxt;refine⟨_,rfl,vy kids full hTs hvars hW hx.os hx.output (fun b hb=>hx.gd b hb fun i o hi=>(nomatch hi)) (fun b sp hd=>?_) hs2 hs3 ?_⟩
 ·rw[hs1,hres]
  exact trodAll_cons_mk (shut_bool Tryz.underlying4 _) trodAll_mk0
 ·intro j t r h1 h2
  rw[hres] at h1 h2
  match j,h1,h2 with
  |0,h1,h2=>
   cases h1;cases h2
   exact okWide_bool_mk Tryz.underlying4 _
  |j+1,h1,h2=>simp at h1
theorem bound {H:Type} {l:List (DataW H)} (hk:Rows.uptoSmall H l=true):Rows.uptoBulkAll l≤1048576:=of_decide_eq_true hk
theorem AN {H:Type} {enc:TypeId×Value→H} {W:World} (hT:mS W) {v:Value} {d:DataW H} {p:List MemPlace} (hval: ∃base,Value.okWide Tryz.prog W .any base 3 v) (h:DataW.Trod enc Tryz.prog W 0 (fun _=>true) true 3 v d p):
  ∃z:Int,(Lit.int .i64 z).wf=true∧VR (Mem.ou W hT) UL (· <0) (pI z) v:=by
 obtain⟨base,hval⟩:=hval;obtain⟨n,rfl,_,_,hw⟩:=open_int Tryz.underlying3 hval h;exact⟨n,hw, .iv _ _ (.v _)⟩
def DE (b:Nat) (cs:Array Value) (h:Array Obj):Array Obj:=h.modify b fun
 | .cells _ t frozen=> .cells cs t frozen
 |o=>o
noncomputable def pZ (os:Os):World:=
 {World.holding Tryz.prog os ⟨#[], #[],[]⟩ with
  heap:=DE 2 #[.int .u8 0, .int .u8 1, .int .u8 56, .int .u8 2, .int .u8 57, .int .u8 49, .int .u8 28, .int .u8 3, .int .u8 61, .int .u8 58, .int .u8 42, .int .u8 50, .int .u8 38, .int .u8 29, .int .u8 17, .int .u8 4, .int .u8 62, .int .u8 47, .int .u8 59, .int .u8 36, .int .u8 45, .int .u8 43, .int .u8 51, .int .u8 22, .int .u8 53, .int .u8 39, .int .u8 33, .int .u8 30, .int .u8 24, .int .u8 18, .int .u8 12, .int .u8 5, .int .u8 63, .int .u8 55, .int .u8 48, .int .u8 27, .int .u8 60, .int .u8 41, .int .u8 37, .int .u8 16, .int .u8 46, .int .u8 35, .int .u8 44, .int .u8 21, .int .u8 52, .int .u8 32, .int .u8 23, .int .u8 11, .int .u8 54, .int .u8 26, .int .u8 40, .int .u8 15, .int .u8 34, .int .u8 20, .int .u8 31, .int .u8 10, .int .u8 25, .int .u8 14, .int .u8 19, .int .u8 9, .int .u8 13, .int .u8 8, .int .u8 7, .int .u8 6] (DE 1 #[.int .u8 0, .int .u8 1, .int .u8 28, .int .u8 2, .int .u8 29, .int .u8 14, .int .u8 24, .int .u8 3, .int .u8 30, .int .u8 22, .int .u8 20, .int .u8 15, .int .u8 25, .int .u8 17, .int .u8 4, .int .u8 8, .int .u8 31, .int .u8 27, .int .u8 13, .int .u8 23, .int .u8 21, .int .u8 19, .int .u8 16, .int .u8 7, .int .u8 26, .int .u8 12, .int .u8 18, .int .u8 6, .int .u8 11, .int .u8 5, .int .u8 10, .int .u8 9] (DE 0 (n3.map fun z=>Value.int .u64 z).toArray (World.holding Tryz.prog os ⟨#[], #[],[]⟩).heap))}
end Go.Proofs.YtflegjieadkonaaGreatDoor
namespace Go.Proofs.YtflegjieadkonaaGreatDoor
open Go Go.Al
set_option maxRecDepth 10000
def dI.z:dI:=(0,⟨0,0⟩)
theorem d64 (d e:dI):cf Tryz.prog 97 [ag d.c, .ptr 0 0] [aE e.c] (pB false) [(0,some (aE d.c))] 1:=by
 refine aH ae Tryz.func97 rfl (by decide) Tryz.ntmps97 rfl (by simp) ?_;refine gA rfl (az [] (by first|exact .inr rfl|exact .inl rfl) rfl (wk rfl rfl rfl ⟨.refl _,rfl,trivial⟩ ⟨⟨_,rfl, .of_eq rfl⟩,Wj rfl,rfl,trivial⟩ rfl))
def ey (p:Prog) (i:Nat):List aj:=(p.ar.take i).map Decl.name
def dy (p:Prog) (i:Nat):Int:=nY (p.ar.getD i default) i (bG .str (aJ (ey p i)) (p.ar.getD i default).name 0)
def lh (p:Prog):Nat→List dI
 |0=> []
 |i+1=>lh p i++(if dy p i=0 then[] else[(dy p i,(p.ar.getD i default).at_)])
def ra (p:Prog) (i:Nat):dI:=jO p (p.rules.getD i default) ((i:Int)+1)
def oH (p:Prog):Nat→List dI
 |0=> []
 |i+1=>oH p i++(if(ra p i).1=0 then[] else[ra p i])
def gK (p:Prog):List dI:=lh p p.ar.length++oH p p.rules.length
def bf (p:Prog):dI:=(gK p).headD dI.z
theorem xc (p:Prog) (i:Nat): ∀k,∃t,lh p (i+k)=lh p i++t
 |0=>⟨[],by simp⟩
 |k+1=>by
  obtain⟨t,h⟩:=xc p i k;exact⟨_,by rw[←XZ,lh,h,Wv]⟩
theorem w5 (p:Prog) (i:Nat): ∀k,∃t,oH p (i+k)=oH p i++t
 |0=>⟨[],by simp⟩
 |k+1=>by
  obtain⟨t,h⟩:=w5 p i k;exact⟨_,by rw[←XZ,oH,h,Wv]⟩
theorem B6 {p:Prog} {i:Nat} (hJ:lh p i=[]) (hi:i<p.ar.length) (h: ¬dy p i=0):bf p=(dy p i,(p.ar.getD i default).at_):=by
 obtain⟨t,ht⟩:=xc p (i+1) (p.ar.length-(i+1));have e:i+1+(p.ar.length-(i+1))=p.ar.length:=by omega
 rw[e,lh,hJ,if_neg h] at ht;rw[bf,gK,ht];rfl
theorem B5 {p:Prog} {i:Nat} (h0:lh p p.ar.length=[]) (hJ:oH p i=[]) (hi:i<p.rules.length) (h: ¬(ra p i).1=0):bf p=ra p i:=by
 obtain⟨t,ht⟩:=w5 p (i+1) (p.rules.length-(i+1));have e:i+1+(p.rules.length-(i+1))=p.rules.length:=by omega
 rw[e,oH,hJ,if_neg h] at ht;rw[bf,gK,ht,h0];rfl
theorem Ev {p:Prog} (h0:lh p p.ar.length=[]) (h1:oH p p.rules.length=[]):bf p=dI.z:=by
 rw[bf,gK,h0,h1];rfl
theorem vv {p:Prog} {i:Nat} (h:i<p.ar.length):aJ (ey p (i+1))=bump (aJ (ey p i)) (p.ar.getD i default).name:=by
 rw[ey,aW h,Wq];exact cT _ _
theorem yN (p:Prog) (i:Nat) (s:aj):0≤bG .str (aJ (ey p i)) s 0∧bG .str (aJ (ey p i)) s 0≤i:=by
 have h:=fD (ey p i) s;have h2:(ey p i).length≤i:=by simp[ey];omega
 rw[bs];omega
def Prog.fit (p:Prog):Prop:=p.ar.length≤1000000000∧p.rules.length≤1000000000∧ ∀r∈p.rules,r.fit
theorem VM (p:Prog) (hb:p.fit):cf Tryz.prog 96 [ag p.c, .cH (.func 97) [] [.ptr 0 0]] [aE dI.z.c] (.bP []) [(0,some (aE (bf p).c))] 1:=by
 obtain⟨hb1,hb2,hb3⟩:=hb;refine aH ae Tryz.func96 rfl (by decide) Tryz.ntmps96 rfl (by simp) ?_;refine gA rfl ?_
 refine aK 0 p.ar.length (WC _) (fun i=>⟨[(1, .cH (.func 97) [] [.ptr 0 0]),(2, .ptr 1 0),(4, .mp 2),(13, .iv (cM 4 p.ar Decl.c)),(14,pI p.ar.length),(15,pI i)],[(0,some (aE dI.z.c)),(1,some (aE p.c)),(2,some (cj (aJ (ey p i))))],3⟩) (fun i=>lh p i=[]) [] rfl
  (wk rfl rfl rfl ⟨.refl _,rfl, .refl _,rfl, .refl _,rfl, .refl _,rfl, .refl _,rfl, .refl _,rfl,trivial⟩ ⟨⟨_,rfl, .of_eq rfl⟩,Wj rfl,rfl,⟨_,rfl, .of_eq rfl⟩,Wj rfl,rfl,DO rfl eR rfl trivial⟩ rfl) fun i hi hJ=>?_
 refine gA rfl ?_;refine Wl (fun h1=>?_) (fun h1=>?_)
 ·have h1:i<p.ar.length:=Xe.1 (of_decide_eq_true h1)
  have hl:=yN p i (p.ar.getD i default).name;have hn:=vv h1;refine gA rfl (an (Wc (p.ar.getD i default) i (bG .str (aJ (ey p i)) (p.ar.getD i default).name 0)) rfl rfl rfl rfl rfl rfl ?_);refine gA rfl ?_;refine Wl (fun g=>?_) (fun g=>?_)
  ·have g: ¬dy p i=0:=by
    have g:(!decide (dy p i=0))=true:=g;simpa only[W5,decide_eq_false_iff_not] using g
   rw[B6 hJ h1 g];refine gA rfl (aN [0] (d64 (dy p i,(p.ar.getD i default).at_) dI.z) rfl rfl rfl rfl rfl rfl rfl rfl ?_);refine gA rfl ?_;refine Wl (fun q=>?_) (fun q=>?_);rotate_left
   ·exact absurd (show true=false from q) (by decide)
   refine gA rfl (az [] (by first|exact .inr rfl|exact .inl rfl) rfl (wk rfl rfl rfl ⟨.refl _,rfl,trivial⟩ ⟨⟨_,rfl, .of_eq rfl⟩,Wj rfl,rfl,trivial⟩ rfl))
  ·have g:dy p i=0:=by
    have g:(!decide (dy p i=0))=false:=g;simpa only[XL,decide_eq_true_eq] using g
   refine gA rfl ?_;exact⟨h1,by rw[lh,hJ,if_pos g];rfl,[],wk rfl rfl rfl ⟨.refl _,rfl, .refl _,rfl, .refl _,rfl, .refl _,rfl, .refl _,rfl, .refl _,rfl,trivial⟩ ⟨⟨_,rfl, .of_eq rfl⟩,Wj rfl,rfl,⟨⟨_,rfl, .of_eq rfl⟩,Wj rfl,rfl,hM rfl (by rw[hn];rfl) rfl trivial⟩⟩ rfl⟩
 have h1:p.ar.length≤i:=Xc fun hh=>absurd (Xe.2 hh) (of_decide_eq_false h1);have hie:i=p.ar.length:=by omega
 subst hie;refine gA rfl (aN [] (d50 p (by omega)) rfl rfl rfl rfl rfl rfl rfl rfl ?_);refine gA rfl ?_;refine Ke 3 rfl ?_
 refine aK 0 p.rules.length (WC _) (fun i=>⟨[(1, .cH (.func 97) [] [.ptr 0 0]),(2, .ptr 1 0),(8, .iv (cC p)),(47, .iv (cM 5 p.rules ak.c)),(48,pI p.rules.length),(49,pI i)],[(0,some (aE dI.z.c)),(1,some (aE p.c))],4⟩) (fun i=>oH p i=[]) [] rfl
  (wk rfl rfl rfl ⟨.refl _,rfl, .refl _,rfl, .refl _,rfl, .refl _,rfl, .refl _,rfl, .refl _,rfl,trivial⟩ ⟨⟨_,rfl, .of_eq rfl⟩,Wj rfl,rfl,⟨⟨_,rfl, .of_eq rfl⟩,Wj rfl,rfl,trivial⟩⟩ rfl) fun i hi hK=>?_
 refine gA rfl ?_;refine Wl (fun h2=>?_) (fun h2=>?_)
 ·have h2:i<p.rules.length:=Xe.1 (of_decide_eq_true h2)
  have hm:p.rules.getD i default∈p.rules:=by rw[Ws,Wt h2];exact Xj h2
  refine gA rfl (an (c65 p (p.rules.getD i default) ((i:Int)+1) (hb3 _ hm)) rfl rfl rfl rfl rfl rfl ?_);refine gA rfl ?_;refine Wl (fun g=>?_) (fun g=>?_)
  ·have g: ¬(ra p i).1=0:=by
    have g:(!decide ((ra p i).1=0))=true:=g;simpa only[W5,decide_eq_false_iff_not] using g
   rw[B5 hJ hK h2 g];refine gA rfl (aN [0] (d64 (ra p i) dI.z) rfl rfl rfl rfl rfl rfl rfl rfl ?_);refine gA rfl ?_;refine Wl (fun q=>?_) (fun q=>?_);rotate_left
   ·exact absurd (show true=false from q) (by decide)
   refine gA rfl (az [] (by first|exact .inr rfl|exact .inl rfl) rfl (wk rfl rfl rfl ⟨.refl _,rfl,trivial⟩ ⟨⟨_,rfl, .of_eq rfl⟩,Wj rfl,rfl,trivial⟩ rfl))
  ·have g:(ra p i).1=0:=by
    have g:(!decide ((ra p i).1=0))=false:=g;simpa only[XL,decide_eq_true_eq] using g
   refine gA rfl ?_;exact⟨h2,by rw[oH,hK,if_pos g];rfl,[],wk rfl rfl rfl ⟨.refl _,rfl, .refl _,rfl, .refl _,rfl, .refl _,rfl, .refl _,rfl, .refl _,rfl,trivial⟩ ⟨⟨_,rfl, .of_eq rfl⟩,Wj rfl,rfl,⟨⟨_,rfl, .of_eq rfl⟩,Wj rfl,rfl,trivial⟩⟩ rfl⟩
 have h2:p.rules.length≤i:=Xc fun hh=>absurd (Xe.2 hh) (of_decide_eq_false h2);have hie:i=p.rules.length:=by omega
 subst hie;rw[Ev hJ hK];refine gA rfl (az [] (by first|exact .inr rfl|exact .inl rfl) rfl (wk rfl rfl rfl ⟨.refl _,rfl,trivial⟩ ⟨⟨_,rfl, .of_eq rfl⟩,Wj rfl,rfl,trivial⟩ rfl))
theorem c24 (p:Prog) (hb:p.fit):Pure Tryz.prog 56 [ag p.c] (ag (bf p).c):=by
 refine ax ae Tryz.func56 rfl (by decide) Tryz.ntmps56 rfl (by simp) rfl ?_;refine gA rfl (aN [2] (VM p hb) rfl rfl rfl rfl rfl rfl rfl rfl ?_);refine gA rfl (aw (by first|exact .inr rfl|exact .inl rfl) rfl (.of_eq ?_));rfl
end Go.Proofs.YtflegjieadkonaaGreatDoor
namespace Go.Proofs.YtflegjieadkonaaGreatDoor
open Go Go.Al Go.ChangeShapes Go.WideShapes Go.RowKit
set_option maxRecDepth 100000
theorem wE {α:Type} (f:α→Nat): ∀l:List α,(l.map fun x=>f x+1).sum=(l.map f).sum+l.length
 | []=>rfl
 |x::r=>by simp only[WI,XN,W2,wE f r];omega
section
variable {H:Type} {enc:TypeId×Value→H} {W:World} {hT:mS W} {sp:Nat→Bool} {held:Bool}
def QD (x:Decl) (d:DataW H):Prop:=x.types.length+1≤bk d
def QR1 (r:ak) (d:DataW H):Prop:=r.size+1≤bk d∧r.head.ts≤400*bk d∧ ∀l∈r.body,l.ts≤400*bk d
def Wg (p:Prog) (d:DataW H):Prop:=p.size≤bk d∧p.ar.length≤bk d∧p.rules.length≤bk d∧ ∀r∈p.rules,r.size≤bk d∧r.head.ts≤400*bk d∧ ∀l∈r.body,l.ts≤400*bk d
theorem Dd (n:Nat):Rd enc Tryz.prog W hT sp held 76 ak.c QR1 n:=by
 intro m _ cs y h;obtain⟨xs,k,rfl,rfl,hl,hx,hf⟩:=DataW.trod_struct Tryz.underlying76 h
 match xs,hx with
 | [x0,x1,x2],_=>
  obtain⟨a,ca,qa⟩:=zW (hT:=hT) k k (Wz _) _ _ (nh hf 0 rfl rfl rfl we rfl);obtain⟨b,cb,qb⟩:=JH (hT:=hT) k k (Wz _) _ _ (nh hf 1 rfl rfl rfl AJ rfl);obtain⟨c,cc,qc⟩:=yO (hT:=hT) k k (Wz _) _ _ (nh hf 2 rfl rfl rfl rJ rfl);refine⟨⟨a,b,c⟩,ca.eW (o':=2) rfl (cb.eW (o':=3) rfl (cc.eW (o':=5) rfl (.end_ (hl.trans AI)))),?_⟩;have h3:=qb.sum (f:=Lit.size) (c:=1) fun _ _ h=>by have:=h.2;omega
  rw[←Lit.eZ] at h3;obtain⟨h4,h5⟩:=qa;simp only[bk] at h3 h4 h5;refine⟨?_,?_,fun l hl=>?_⟩
  ·simp only[ak.size,bk,WI,Xd,Rows.uptoBulk,Rows.uptoBulkAll];omega
  ·simp only[bk,WI,Xd,Rows.uptoBulk,Rows.uptoBulkAll];omega
  ·obtain⟨e,⟨h6,_⟩,h7⟩:=qb.all l hl
   simp only[bk] at h6 h7;simp only[bk,WI,Xd,Rows.uptoBulk,Rows.uptoBulkAll];omega
theorem JI (n:Nat):Rd enc Tryz.prog W hT sp held 3 fH (fun _ _=>True) n:=by
 intro m hm cs y h;obtain⟨z,hz,_⟩:=jb (hT:=hT) Tryz.underlying3 n m hm cs y h;exact⟨z,hz,trivial⟩
theorem JJ (n:Nat):Rd enc Tryz.prog W hT sp held 49 Decl.c QD n:=by
 intro m _ cs y h;obtain⟨xs,k,rfl,rfl,hl,hx,hf⟩:=DataW.trod_struct Tryz.underlying49 h
 match xs,hx with
 | [x0,x1,x2],_=>
  obtain⟨a,ca,qa,_⟩:=iK (hT:=hT) Tryz.underlying9 k k (Wz _) _ _ (nh hf 0 rfl rfl rfl qt rfl);obtain⟨b,cb,qb⟩:=(ja (hT:=hT) Tryz.underlying47 jz (by decide) (fun _=>rfl) (JI k)).mono (YC k) k (Wz _) _ _ (nh hf 1 rfl rfl rfl Kv rfl);obtain⟨c,cc,qc⟩:=yO (hT:=hT) k k (Wz _) _ _ (nh hf 2 rfl rfl rfl rJ rfl);refine⟨⟨a,b,c⟩,ca.eW (o':=1) rfl (cb.eW (o':=2) rfl (cc.eW (o':=4) rfl (.end_ (hl.trans AK)))),?_⟩;have h3:=qb.len;simp only[bk] at h3;simp only[QD,bk,WI,Xd,Rows.uptoBulk,Rows.uptoBulkAll];omega
theorem JG (n:Nat):Rd enc Tryz.prog W hT sp held 25 Prog.c Wg n:=by
 intro m _ cs y h;obtain⟨xs,k,rfl,rfl,hl,hx,hf⟩:=DataW.trod_struct Tryz.underlying25 h
 match xs,hx with
 | [x0,x1],_=>
  obtain⟨a,ca,qa⟩:=(ja (hT:=hT) Tryz.underlying22 AK (by decide) (fun _=>rfl) (JJ k)).mono (YC k) k (Wz _) _ _ (nh hf 0 rfl rfl rfl Ky rfl);obtain⟨b,cb,qb⟩:=(ja (hT:=hT) Tryz.underlying23 AI (by decide) (fun _=>rfl) (Dd k)).mono (YC k) k (Wz _) _ _ (nh hf 1 rfl rfl rfl Kx rfl);refine⟨⟨a,b⟩,ca.eW (o':=1) rfl (cb.eW (o':=2) rfl (.end_ (hl.trans Kw))),?_⟩
  have h1:=qa.sum (f:=fun d=>d.types.length+1) (c:=1) fun _ _ h=>by
   simp only[QD] at h;omega
  have h2:=qb.sum (f:=fun r=>r.size+1) (c:=1) fun _ _ h=>by have:=h.1;omega
  rw[wE] at h1 h2;simp only[bk] at h1 h2;refine⟨?_,?_,?_,fun r hr=>?_⟩
  ·simp only[Prog.size,bk,WI,Xd,Rows.uptoBulk,Rows.uptoBulkAll];omega
  ·simp only[bk,WI,Xd,Rows.uptoBulk,Rows.uptoBulkAll];omega
  ·simp only[bk,WI,Xd,Rows.uptoBulk,Rows.uptoBulkAll];omega
  ·obtain⟨e,⟨h3,h4,h5⟩,h6⟩:=qb.all r hr
   simp only[bk] at h3 h4 h5 h6;refine⟨?_,?_,fun l hl=>?_⟩
   ·simp only[bk,WI,Xd,Rows.uptoBulk,Rows.uptoBulkAll];omega
   ·simp only[bk,WI,Xd,Rows.uptoBulk,Rows.uptoBulkAll];omega
   ·have:=h5 l hl
    simp only[bk,WI,Xd,Rows.uptoBulk,Rows.uptoBulkAll];omega
end
theorem Sf {H:Type} {p:Prog} {d:DataW H} (h:Wg p d) (hb:bk d≤1048576):p.fit:=by
 obtain⟨h1,h2,h3,h4⟩:=h;refine⟨by omega,by omega,fun r hr=>?_⟩;obtain⟨h5,h6,h7⟩:=h4 r hr;exact⟨by omega,by omega,fun l hl=>by have:=h7 l hl;omega⟩
theorem EB {H:Type} {enc:TypeId×Value→H} {W:World} (hT:mS W) {v:Value} {d:DataW H} {p:List MemPlace} (hval: ∃base,Value.okWide Tryz.prog W .any base 25 v) (h:DataW.Trod enc Tryz.prog W 0 (fun _=>true) true 25 v d p):
  ∃x:Prog,Wg x d∧VR (Mem.ou W hT) UL (· <0) (ag x.c) v:=by
 obtain⟨base,hval⟩:=hval;obtain⟨cs,rfl,_⟩:=okWide_struct Tryz.underlying25 hval;obtain⟨n,hn⟩:=h;obtain⟨r,h1,h2⟩:=JG (hT:=hT) n n (Wz _) _ _ hn;exact⟨r,h2,h1.agg⟩
end Go.Proofs.YtflegjieadkonaaGreatDoor
namespace Go.Proofs.YtflegjieadkonaaGreatDoor
open Go Go.Al Go.ChangeShapes Go.WideShapes Go.RowKit
set_option maxRecDepth 100000
theorem fW:Tryz.prog.closure 6=[6,11,47,88,15,17,50,56,97,96,123,154,186,155,156,187,214,242,259,215,124,125,157,188,216,217,243,260,272,218,219,244,261,262,273,285,297,302,303,153,307,308,304,305,309,310,311,312,274,189,220,158,190,221,245,222,246,247,264,263,265,223,248,113,135,136,178,159,191,196,160,162,163,161,192,164,165,166,167,193,224,194,101,130,195,168,197,225,198,200,226,199,201,169,170,202,227,228,126,172,203,229,171,90,53,92,52,91,122,152,121,143,149,185,144,180,145,181,182,146,183,184,213,147,148,150,151,51,57,98,127,128,112,99,129,60,102,14,13,20,18,32,12,48,49,89,33,22,24,64,26]:=by kernel_rfl
theorem om:joinedFacts Tryz.prog 6 Tryz.f6 (Rows.OpenSpec.upto Rows.strataTurnedSpec).bare Rows.strataTurnedUptoRow=true:=by
 have h1:Tryz.prog.inPlace 6=Rows.strataTurnedUptoRow.inPlace:=by unfold Program.inPlace;rw[fW];kernel_rfl
 have h2:Tryz.prog.unfollowed 6=true:=by unfold Program.unfollowed;rw[fW];kernel_rfl
 have h3:Tryz.prog.varsNamed 6=Rows.strataTurnedUptoRow.named:=by unfold Program.varsNamed;rw[fW];kernel_rfl
 have h4:Tryz.prog.recurses 6=true:=by unfold Program.recurses;rw[h2];rfl
 unfold joinedFacts;rw[h1,h2,h3,h4];show(_:Bool)=true
 kernel_rfl
end Go.Proofs.YtflegjieadkonaaGreatDoor
namespace Go.Tj
section
variable {α:Type}
inductive kT (succ:α→List α):α→α→Prop
 |refl (a:α):kT succ a a
 |step {a b c:α}:kT succ a b→c∈succ b→kT succ a c
theorem kT.trans {succ:α→List α} {a b c:α} (h:kT succ a b) (g:kT succ b c):kT succ a c:=by
 induction g with
 |refl=>exact h
 |step _ he ih=>exact .step ih he
theorem kT.one {succ:α→List α} {a b:α} (h:b∈succ a):kT succ a b:= .step (.refl a) h
structure St (α:Type) where
 low:α→Int
 on:α→Int
 ring:α→Int
 n:Nat
 stack:List α
section
variable [DecidableEq α]
def vf (f:α→Int) (a:α) (v:Int):α→Int:=fun x=>if x=a then v else f x
theorem iT (f:α→Int) (a:α) (v:Int):vf f a v a=v:=if_pos rfl
theorem j3 {f:α→Int} {a x:α} {v:Int} (h: ¬x=a):vf f a v x=f x:=if_neg h
def push (s:St α) (a:α):St α:=⟨vf s.low a ((s.n:Int)+1),vf s.on a 1,s.ring,s.n+1,s.stack++ [a]⟩
def vA (mine:Int) (s:St α):St α:=match s.stack.getLast? with
 |some b=>⟨s.low,vf s.on b 2,vf s.ring b mine,s.n,s.stack.dropLast⟩
 |none=>s
def eM (a:α) (mine:Int):Nat→St α→St α
 |0,s=>s
 |k+1,s=>if s.on a=1 then eM a mine k (vA mine s) else s
def oB (visit:α→St α→Int×St α) (q:Int×St α) (b:α):Int×St α:=
 if q.2.low b=0 then(min q.1 (visit b q.2).1,(visit b q.2).2) else if q.2.on b=1 then(min q.1 (q.2.low b),q.2) else q
def rk (a:α) (mine:Int) (q:Int×St α):Int×St α:=if q.1=mine then(q.1,eM a mine q.2.stack.length q.2) else q
def dw (succ:α→List α):Nat→α→St α→Int×St α
 |0,_,s=>(0,s)
 |f+1,a,s=>rk a ((s.n:Int)+1) ((succ a).foldl (oB (dw succ f)) ((s.n:Int)+1,push s a))
def fE (succ:α→List α) (f:Nat) (V:List α) (s:St α):St α:=V.foldl (fun s a=>if s.low a=0 then(dw succ f a s).2 else s) s
end
def St.o:St α:=⟨fun _=>0,fun _=>0,fun _=>0,0,[]⟩
structure Inv (succ:α→List α) (path:List α) (s:St α):Prop where
 lN: ∀a,0≤s.low a∧s.low a≤s.n
 inj: ∀a b,s.low a=s.low b→s.low a≠0→a=b
 EM: ∀a,s.on a=0↔s.low a=0
 Bz: ∀a,s.on a=0∨s.on a=1∨s.on a=2
 ug: ∀a,s.on a=1↔a∈s.stack
 SE:s.stack.Pairwise fun x y=>s.low x<s.low y
 Kq: ∀a,s.on a=2→ ∀b∈succ a,s.on b=2
 RW: ∀g∈path,s.on g=1
 up: ∀y,s.on y=1→ ∃g∈path,s.low g≤s.low y∧kT succ y g
 dn: ∀g∈path,∀y,s.on y=1→s.low g≤s.low y→kT succ g y
 aG: ∀y,s.low y≠0→y∉path→ ∀z∈succ y,s.low z≠0
 UF: ∀a,s.on a=2→ ∃r,s.on r=2∧s.low r=s.ring a∧kT succ a r∧kT succ r a
 cmp: ∀a b,s.on a=2→s.on b=2→kT succ a b→kT succ b a→s.ring a=s.ring b
structure Le (s s':St α):Prop where
 low: ∀x,s.low x≠0→s'.low x=s.low x
 Kq: ∀x,s.on x=2→s'.on x=2
 n:s.n≤s'.n
theorem Le.refl (s:St α):Le s s:=⟨fun _ _=>rfl,fun _ h=>h,Wz _⟩
theorem Le.trans {s t u:St α} (h:Le s t) (g:Le t u):Le s u:=
 ⟨fun x hx=>by rw[g.low x (by rw[h.low x hx];exact hx),h.low x hx],fun x hx=>g.Kq x (h.Kq x hx),WV h.n g.n⟩
structure yn (succ:α→List α) (path:List α) (a:α) (s:St α) (least:Int) (s':St α) (t:List α):Prop where
 inv:Inv succ path s'
 le:Le s s'
 stack:s'.stack=s.stack++t
 new: ∀y∈t,s.low y=0
 at_:(s.n:Int)<s'.low a
 R4:least≤s'.low a
 l1: ∀y∈t,∀z∈succ y,s'.on z=1→least≤s'.low z
 l2:(s'.on a=2∧least=s'.low a)∨ ∃z∈s.stack,s'.low z=least∧kT succ a z
theorem sr {succ:α→List α} {path:List α} {s:St α} (h:Inv succ path s) {x:α} (hx:s.on x=1):s.low x≠0:=fun g=>by
 have:=(h.EM x).2 g;omega
theorem Dn {succ:α→List α} {p:List α} {s s':St α} (h:Inv succ p s) (hl:Le s s') {x:α} (hx:s.low x≠0) (ho:s'.on x=1):s.on x=1:=by
 rcases h.Bz x with g|g|g
 ·exact absurd ((h.EM x).1 g) hx
 ·exact g
 ·have:=hl.Kq x g;omega
section
variable [DecidableEq α]
theorem xj {succ:α→List α} {path:List α} {s:St α} {a:α} (h:Inv succ path s) (ha:s.low a=0) (hp: ∀g∈path,kT succ g a):Inv succ (path++ [a]) (push s a):=by
 have hon:s.on a=0:=(h.EM a).2 ha;have hst:a∉s.stack:=fun g=>by have:=(h.ug a).2 g;omega
 have lo: ∀x,¬x=a→(push s a).low x=s.low x:=fun x hx=>j3 hx;have la:(push s a).low a=(s.n:Int)+1:=iT _ _ _;have oo: ∀x,¬x=a→(push s a).on x=s.on x:=fun x hx=>j3 hx;have oa:(push s a).on a=1:=iT _ _ _;have hn:((push s a).n:Int)=(s.n:Int)+1:=by show((s.n+1:Nat):Int)=_;omega
 refine⟨fun x=>?_,fun x y hxy hx=>?_,fun x=>?_,fun x=>?_,fun x=>?_,?_,fun x hx b hb=>?_,fun g hg=>?_,fun y hy=>?_,fun g hg y hy hle=>?_,fun y hy hyp z hz=>?_,fun x hx=>?_,fun x y hx hy h1 h2=>?_⟩
 ·have:=h.lN x
  by_cases e:x=a
  ·subst e;rw[la,hn];omega
  ·rw[lo x e,hn];omega
 ·have h1:=h.lN x;have h2:=h.lN y
  by_cases e:x=a
  ·by_cases e2:y=a
   ·rw[e,e2]
   ·rw[e,la,lo y e2] at hxy;omega
  ·by_cases e2:y=a
   ·rw[e2,la,lo x e] at hxy;omega
   ·rw[lo x e,lo y e2] at hxy
    rw[lo x e] at hx;exact h.inj x y hxy hx
 ·by_cases e:x=a
  ·subst e;rw[oa,la];constructor<;>intro g<;>omega
  ·rw[oo x e,lo x e];exact h.EM x
 ·by_cases e:x=a
  ·subst e;exact .inr (.inl oa)
  ·rw[oo x e];exact h.Bz x
 ·show _↔x∈s.stack++ [a]
  rw[WD,Wy];by_cases e:x=a
  ·subst e;simp[oa]
  ·rw[oo x e,h.ug x];simp[e]
 ·show(s.stack++ [a]).Pairwise _
  rw[YD];refine⟨h.SE.imp_of_mem ?_,List.pairwise_singleton _ _,fun x hx y hy=>?_⟩
  ·intro x y hx hy hxy
   rw[lo x (fun e=>hst (e▸hx)),lo y (fun e=>hst (e▸hy))];exact hxy
  ·rw[Wy] at hy;subst hy
   rw[la,lo x (fun e=>hst (e▸hx))];have:=h.lN x;omega
 ·have e: ¬x=a:=fun e=>by subst e;rw[oa] at hx;omega
  rw[oo x e] at hx;have hb2:=h.Kq x hx b hb;have e2: ¬b=a:=fun e=>by subst e;omega
  rw[oo b e2];exact hb2
 ·rcases WD.1 hg with g1|g1
  ·have:=h.RW g g1
   rw[oo g (fun e=>by subst e;omega)];exact this
  ·rw[Wy] at g1;subst g1;exact oa
 ·by_cases e:y=a
  ·subst e;exact⟨y,XV _ WM,Yi _, .refl _⟩
  ·rw[oo y e] at hy
   obtain⟨g,g1,g2,g3⟩:=h.up y hy;have e2: ¬g=a:=fun e=>by have:=h.RW g g1;subst e;omega
   exact⟨g,W0 _ g1,by rw[lo g e2,lo y e];exact g2,g3⟩
 ·rcases WD.1 hg with g1|g1
  ·have e2: ¬g=a:=fun e=>by have:=h.RW g g1;subst e;omega
   by_cases e:y=a
   ·subst e;exact hp g g1
   ·rw[lo g e2,lo y e] at hle
    rw[oo y e] at hy;exact h.dn g g1 y hy hle
  ·rw[Wy] at g1;subst g1
   by_cases e:y=g
   ·subst e;exact .refl _
   ·rw[la,lo y e] at hle
    have:=h.lN y;omega
 ·have e: ¬y=a:=fun e=>hyp (XV _ (by rw[e];exact WM))
  rw[lo y e] at hy;have:=h.aG y hy (fun g=>hyp (W0 _ g)) z hz;by_cases e2:z=a
  ·rw[e2,la];omega
  ·rw[lo z e2];exact this
 ·have e: ¬x=a:=fun e=>by subst e;rw[oa] at hx;omega
  rw[oo x e] at hx;obtain⟨r,r1,r2,r3⟩:=h.UF x hx;have e2: ¬r=a:=fun e=>by subst e;omega
  exact⟨r,by rw[oo r e2];exact r1,by rw[lo r e2];exact r2,r3⟩
 ·have e: ¬x=a:=fun e=>by subst e;rw[oa] at hx;omega
  have e2: ¬y=a:=fun e=>by subst e;rw[oa] at hy;omega
  rw[oo x e] at hx;rw[oo y e2] at hy;exact h.cmp x y hx hy h1 h2
theorem JP {succ:α→List α} {path:List α} {s:St α} {a:α} (h:Inv succ path s) (ha:s.low a=0):Le s (push s a):=by
 have hon:s.on a=0:=(h.EM a).2 ha;refine⟨fun x hx=>j3 fun e=>hx (e▸ha),fun x hx=>?_,by show s.n≤s.n+1;omega⟩;have: ¬x=a:=fun e=>by subst e;omega
 show vf s.on a 1 x=2;rw[j3 this];exact hx
def vz (s:St α) (u c:List α) (mine:Int):St α:=⟨s.low,fun x=>if x∈c then 2 else s.on x,fun x=>if x∈c then mine else s.ring x,s.n,u⟩
theorem xl {a:α} {mine:Int} {s:St α} (h: ¬s.on a=1): ∀k,eM a mine k s=s
 |0=>rfl
 |k+1=>if_neg h
theorem uu (a:α) (mine:Int) (u:List α): ∀(k:Nat) (t:List α) (s:St α),t.length<k→s.stack=u++a::t→a∉t→s.on a=1→(eM a mine k s).low=s.low∧(eM a mine k s).n=s.n∧(eM a mine k s).stack=u∧(∀x,(eM a mine k s).on x=if x∈a::t then 2 else s.on x)∧ ∀x,(eM a mine k s).ring x=if x∈a::t then mine else s.ring x
 |0,t,s,h,_,_,_=>absurd h (Yz _)
 |k+1,t,s,hk,hs,hn,ho=>by
  rw[eM,if_pos ho];rcases t.eq_nil_or_concat with e|⟨t0,b,e⟩
  ·subst e
   have hl:s.stack.getLast? =some a:=by rw[hs];simp
   have hd:s.stack.dropLast=u:=by rw[hs];simp
   have hp:vA mine s=⟨s.low,vf s.on a 2,vf s.ring a mine,s.n,u⟩:=by unfold vA;rw[hl,hd]
   rw[hp,xl (by show¬vf s.on a 2 a=1;rw[iT];decide)];exact⟨rfl,rfl,rfl,fun x=>by simp[vf],fun x=>by simp[vf]⟩
  ·rw[List.concat_eq_append] at e
   subst e;have hs2:s.stack=(u++a::t0)++ [b]:=by rw[hs];simp
   have hl:s.stack.getLast? =some b:=by rw[hs2];exact List.getLast?_concat
   have hd:s.stack.dropLast=u++a::t0:=by rw[hs2];exact List.dropLast_concat
   have hp:vA mine s=⟨s.low,vf s.on b 2,vf s.ring b mine,s.n,u++a::t0⟩:=by unfold vA;rw[hl,hd]
   have hab: ¬a=b:=fun e=>hn (by rw[e];simp);have ih:=uu a mine u k t0 ⟨s.low,vf s.on b 2,vf s.ring b mine,s.n,u++a::t0⟩ (by simp at hk;omega) rfl (fun g=>hn (W0 _ g)) (by show vf s.on b 2 a=1;rw[j3 hab];exact ho);rw[hp];refine⟨ih.1,ih.2.1,ih.2.2.1,fun x=>?_,fun x=>?_⟩
   ·rw[ih.2.2.2.1 x]
    by_cases e1:x∈a::t0
    ·rw[if_pos e1,if_pos (by rw[←XF];exact W0 _ e1)]
    ·rw[if_neg e1]
     by_cases e2:x=b
     ·subst e2;rw[if_pos (by simp)];exact iT _ _ _
     ·rw[if_neg (by rw[←XF,WD,Wy];exact fun g=>g.elim e1 e2)];exact j3 e2
   ·rw[ih.2.2.2.2 x]
    by_cases e1:x∈a::t0
    ·rw[if_pos e1,if_pos (by rw[←XF];exact W0 _ e1)]
    ·rw[if_neg e1]
     by_cases e2:x=b
     ·subst e2;rw[if_pos (by simp)];exact iT _ _ _
     ·rw[if_neg (by rw[←XF,WD,Wy];exact fun g=>g.elim e1 e2)];exact j3 e2
theorem St.eq {β:Type} {s t:St β} (h1:s.low=t.low) (h2:s.on=t.on) (h3:s.ring=t.ring) (h4:s.n=t.n) (h5:s.stack=t.stack):s=t:=by
 cases s;cases t;simp_all
theorem pP {a:α} {mine:Int} {u t:List α} {k:Nat} {s:St α} (hk:t.length<k) (hs:s.stack=u++a::t) (hn:a∉t) (ho:s.on a=1):eM a mine k s=vz s u (a::t) mine:=by
 obtain⟨h1,h2,h3,h4,h5⟩:=uu a mine u k t s hk hs hn ho;exact St.eq h1 (funext h4) (funext h5) h2 h3
theorem uZ {β:Type} {succ:β→List β} {path:List β} {s:St β} (h:Inv succ path s) {a b:β} (ha:s.on a=2) (hr:kT succ a b):s.on b=2:=by
 induction hr with
 |refl=>exact ha
 |step _ he ih=>exact h.Kq _ ih _ he
theorem JQ {succ:α→List α} {path:List α} {s:St α} {a:α} {u t:List α} (h:Inv succ (path++ [a]) s) (hs:s.stack=u++a::t) (hpa: ∀g∈path,s.low g<s.low a) (hsa: ∀z∈succ a,s.low z≠0)
  (hcl: ∀y∈a::t,∀z∈succ y,s.on z=1→s.low a≤s.low z):Inv succ path (vz s u (a::t) (s.low a)):=by
 have hsrt:=h.SE;rw[hs,YD] at hsrt;obtain⟨hu,hc,huc⟩:=hsrt;have hct:=(XK.1 hc).1;have hoa:s.on a=1:=(h.ug a).2 (by rw[hs];simp)
 have hC: ∀x,x∈a::t↔(s.on x=1∧s.low a≤s.low x):=by
  intro x;constructor
  ·intro hx
   refine⟨(h.ug x).2 (by rw[hs];exact XV _ hx),?_⟩;rcases WG.1 hx with e|e
   ·rw[e];exact Yi _
   ·have:=hct x e;omega
  ·rintro⟨h1,h2⟩
   have:=(h.ug x).1 h1;rw[hs] at this;rcases WD.1 this with g|g
   ·have:=huc x g a WM;omega
   ·exact g
 have haC:a∈a::t:=WM;have yes: ∀x,x∈a::t→(vz s u (a::t) (s.low a)).on x=2:=fun x hx=>if_pos hx;have no: ∀x,x∉a::t→(vz s u (a::t) (s.low a)).on x=s.on x:=fun x hx=>if_neg hx
 have hback: ∀x,x∈a::t→kT succ x a:=by
  intro x hx;obtain⟨h1,h2⟩:=(hC x).1 hx;obtain⟨g,g1,g2,g3⟩:=h.up x h1;refine g3.trans (h.dn g g1 a hoa ?_);rcases WD.1 g1 with e|e
  ·have:=hpa g e;omega
  ·rw[Wy] at e;rw[e];exact Yi _
 have hforth: ∀x,x∈a::t→kT succ a x:=by
  intro x hx;obtain⟨h1,h2⟩:=(hC x).1 hx;exact h.dn a (by simp) x h1 h2
 have hnz: ∀y,s.low y≠0→y∉path→ ∀z∈succ y,s.low z≠0:=by
  intro y hy hyp z hz;by_cases e:y=a
  ·rw[e] at hz;exact hsa z hz
  ·exact h.aG y hy (by rw[WD,Wy];exact fun g=>g.elim hyp e) z hz
 refine⟨h.lN,h.inj,fun x=>?_,fun x=>?_,fun x=>?_,hu,fun x hx b hb=>?_,fun g hg=>?_,fun y hy=>?_,fun g hg y hy hle=>?_,hnz,fun x hx=>?_,fun x y hx hy h1 h2=>?_⟩
 ·by_cases e:x∈a::t
  ·rw[yes x e]
   have:=sr h ((hC x).1 e).1;exact⟨fun g=>by omega,fun g=>absurd g this⟩
  ·rw[no x e];exact h.EM x
 ·by_cases e:x∈a::t
  ·exact .inr (.inr (yes x e))
  ·rw[no x e];exact h.Bz x
 ·show _↔x∈u
  by_cases e:x∈a::t
  ·rw[yes x e]
   refine⟨fun g=>by omega,fun g=>?_⟩;have h1:=huc x g a haC;have h2:=((hC x).1 e).2;omega
  ·rw[no x e,h.ug x,hs,WD]
   exact⟨fun g=>g.elim id fun q=>absurd q e, .inl⟩
 ·by_cases e:x∈a::t
  ·obtain⟨h1,h2⟩:=(hC x).1 e
   have hb0:s.low b≠0:=hnz x (sr h h1) (fun g=>by have:=hpa x g;omega) b hb;rcases h.Bz b with g|g|g
   ·exact absurd ((h.EM b).1 g) hb0
   ·exact yes b ((hC b).2 ⟨g,hcl x e b hb g⟩)
   ·by_cases e2:b∈a::t
    ·exact yes b e2
    ·rw[no b e2];exact g
  ·rw[no x e] at hx
   have g:=h.Kq x hx b hb;by_cases e2:b∈a::t
   ·exact yes b e2
   ·rw[no b e2];exact g
 ·have h1:=h.RW g (W0 _ hg)
  have h2:=hpa g hg;rw[no g (fun e=>by have:=((hC g).1 e).2;omega)];exact h1
 ·by_cases e:y∈a::t
  ·rw[yes y e] at hy;omega
  ·rw[no y e] at hy
   obtain⟨g,g1,g2,g3⟩:=h.up y hy;rcases WD.1 g1 with q|q
   ·exact⟨g,q,g2,g3⟩
   ·rw[Wy] at q
    rw[q] at g2;exact absurd ((hC y).2 ⟨hy,g2⟩) e
 ·by_cases e:y∈a::t
  ·rw[yes y e] at hy;omega
  ·rw[no y e] at hy
   exact h.dn g (W0 _ hg) y hy hle
 ·by_cases e:x∈a::t
  ·exact⟨a,yes a haC,(if_pos e).symm,hback x e,hforth x e⟩
  ·rw[no x e] at hx
   obtain⟨r,r1,r2,r3⟩:=h.UF x hx;have e2:r∉a::t:=fun g=>by have:=((hC r).1 g).1;omega
   refine⟨r,by rw[no r e2];exact r1,?_,r3⟩;show s.low r=if x∈a::t then s.low a else s.ring x;rw[if_neg e];exact r2
 ·show(if x∈a::t then s.low a else s.ring x)=if y∈a::t then s.low a else s.ring y
  by_cases e:x∈a::t
  ·by_cases e2:y∈a::t
   ·rw[if_pos e,if_pos e2]
   ·rw[no y e2] at hy
    have:=uZ h hy h2;have:=((hC x).1 e).1;omega
  ·rw[no x e] at hx
   by_cases e2:y∈a::t
   ·have:=uZ h hx h1
    have:=((hC y).1 e2).1;omega
   ·rw[no y e2] at hy
    rw[if_neg e,if_neg e2];exact h.cmp x y hx hy h1 h2
theorem BJ {succ:α→List α} {path:List α} {s:St α} {a z:α} (h:Inv succ (path++ [a]) s) (hsa: ∀z∈succ a,s.low z≠0) (hz:s.on z=1) (hlz:s.low z<s.low a) (hr:kT succ a z):Inv succ path s:=by
 refine⟨h.lN,h.inj,h.EM,h.Bz,h.ug,h.SE,h.Kq,fun g hg=>h.RW g (W0 _ hg),fun y hy=>?_,fun g hg=>h.dn g (W0 _ hg),fun y hy hyp w hw=>?_,h.UF,h.cmp⟩
 ·obtain⟨g,g1,g2,g3⟩:=h.up y hy
  rcases WD.1 g1 with q|q
  ·exact⟨g,q,g2,g3⟩
  ·rw[Wy] at q
   subst q;obtain⟨k,k1,k2,k3⟩:=h.up z hz;rcases WD.1 k1 with q|q
   ·exact⟨k,q,by omega,(g3.trans hr).trans k3⟩
   ·rw[Wy] at q;subst q;omega
 ·by_cases e:y=a
  ·rw[e] at hw;exact hsa w hw
  ·exact h.aG y hy (by rw[WD,Wy];exact fun g=>g.elim hyp e) w hw
def iR (V:List α) (s:St α):Nat:=(V.filter fun x=>decide (s.low x=0)).length
theorem filter_le {β:Type} {p q:β→Bool}: ∀(l:List β),(∀x∈l,p x=true→q x=true)→(l.filter p).length≤(l.filter q).length
 | [],_=>Wz _
 |x::r,h=>by
  have ih:=filter_le r fun y hy=>h y (WE _ hy);have hx:=h x WM;rw[Yk,Yk];split
  ·rename_i g;rw[if_pos (hx g)];simp only[W2];omega
  ·split
   ·simp only[W2];omega
   ·exact ih
theorem filter_lt {β:Type} {p q:β→Bool} {a:β}: ∀(l:List β),(∀x∈l,p x=true→q x=true)→a∈l→p a=false→q a=true→(l.filter p).length<(l.filter q).length
 | [],_,h,_,_=>nomatch h
 |x::r,h,ha,h1,h2=>by
  have hle:=filter_le r fun y hy=>h y (WE _ hy);have hx:=h x WM;rw[Yk,Yk];rcases WG.1 ha with e|e
  ·subst e
   rw[h1,h2];simp only[Yl,if_false,if_true,W2];omega
  ·have ih:=filter_lt r (fun y hy=>h y (WE _ hy)) e h1 h2
   split
   ·rename_i g;rw[if_pos (hx g)];simp only[W2];omega
   ·split
    ·simp only[W2];omega
    ·exact ih
theorem tW {β:Type} {V:List β} {s s':St β} (h:Le s s'):iR V s'≤iR V s:=
 filter_le V fun x _ hx=>by
  refine decide_eq_true (XJ fun g=>?_);have:=of_decide_eq_true hx;rw[h.low x g] at this;exact g this
theorem jK {V:List α} {s:St α} {a:α} (hn: ∀x,0≤s.low x∧s.low x≤s.n) (ha:a∈V) (h0:s.low a=0):iR V (push s a)<iR V s:=by
 have la:(push s a).low a=(s.n:Int)+1:=iT _ _ _;refine filter_lt V (fun x _ hx=>?_) ha (decide_eq_false (by rw[la];omega)) (decide_eq_true h0);have:=of_decide_eq_true hx;by_cases e:x=a
 ·rw[e];exact decide_eq_true h0
 ·refine decide_eq_true ?_
  rwa[show(push s a).low x=s.low x from j3 e] at this
structure eB (succ:α→List α) (path:List α) (a:α) (s0:St α) (done:List α) (q:Int×St α) (t:List α):Prop where
 inv:Inv succ (path++ [a]) q.2
 le:Le (push s0 a) q.2
 stack:q.2.stack=s0.stack++a::t
 new: ∀y∈t,s0.low y=0
 R4:q.1≤(s0.n:Int)+1
 l1: ∀y∈t,∀z∈succ y,q.2.on z=1→q.1≤q.2.low z
 UQ: ∀z∈done,q.2.on z=1→q.1≤q.2.low z
 proc: ∀z∈done,q.2.low z≠0
 l2: ∃z,q.2.on z=1∧q.2.low z=q.1∧kT succ a z
section
variable {succ:α→List α} {path:List α} {a:α} {s0:St α} {done:List α} {q:Int×St α} {t:List α}
theorem eB.la (h:eB succ path a s0 done q t):q.2.low a=(s0.n:Int)+1:=by
 have e:(push s0 a).low a=(s0.n:Int)+1:=iT _ _ _;rw[h.le.low a (by rw[e];omega),e]
theorem eB.pa (h:eB succ path a s0 done q t) (h0:Inv succ path s0) (ha:s0.low a=0): ∀g∈path,q.2.low g<q.2.low a:=by
 intro g hg;have h1:=h0.RW g hg;have h2:=sr h0 h1;have e:(push s0 a).low g=s0.low g:=j3 fun e=>h2 (by rw[e];exact ha);rw[h.la,h.le.low g (by rw[e];exact h2),e];have:=h0.lN g;omega
theorem eB.at_ (h:eB succ path a s0 done q t):a∉t:=fun g=>by
 have:=h.inv.SE;rw[h.stack,YD] at this;have:=(XK.1 this.2.1).1 a g;omega
theorem eB.step {V:List α} {visit:α→St α→Int×St α} {f:Nat} (hV: ∀a∈V,∀b∈succ a,b∈V)
  (ih: ∀(path:List α) (b:α) (s:St α),Inv succ path s→s.low b=0→b∈V→(∀g∈path,kT succ g b)→iR V s≤f→ ∃t,yn succ path b s (visit b s).1 (visit b s).2 t)
  (h:eB succ path a s0 done q t) (h0:Inv succ path s0) (ha:s0.low a=0) (haV:a∈V) {b:α} (hb:b∈succ a) (hw:iR V q.2≤f): ∃t',eB succ path a s0 (done++ [b]) (oB visit q b) t':=by
 have hla:=h.la;have hpa:=h.pa h0 ha;have hat:=h.at_;have hoa:q.2.on a=1:=(h.inv.ug a).2 (by rw[h.stack];simp);unfold oB;by_cases hw0:q.2.low b=0
 ·rw[if_pos hw0]
  have hreach: ∀g∈path++ [a],kT succ g b:=by
   intro g hg;refine .step (h.inv.dn g hg a hoa ?_) hb;rcases WD.1 hg with e|e
   ·have:=hpa g e;omega
   ·rw[Wy] at e;rw[e];exact Yi _
  obtain⟨tb,hp⟩:=ih (path++ [a]) b q.2 h.inv hw0 (hV a haV b hb) hreach hw;generalize visit b q.2=w at hp ⊢;obtain⟨lb,s'⟩:=w;have hmono: ∀z,q.2.on z=1→s'.on z=1:=fun z hz=>(hp.inv.ug z).2 (by rw[hp.stack];exact W0 _ ((h.inv.ug z).1 hz));have hnn:=h.le.n;have hn1:(push s0 a).n=s0.n+1:=rfl;refine⟨t++tb,hp.inv,h.le.trans hp.le,?_,fun y hy=>?_,?_,fun y hy z hz ho=>?_,fun z hz ho=>?_,fun z hz=>?_,?_⟩
  ·show s'.stack=_
   rw[hp.stack,h.stack];simp
  ·rcases WD.1 hy with g|g
   ·exact h.new y g
   ·refine XJ fun hc=>?_
    have e:(push s0 a).low y=s0.low y:=j3 fun e=>hc (by rw[e];exact ha);have:=h.le.low y (by rw[e];exact hc);rw[hp.new y g,e] at this;exact hc this.symm
  ·have:=h.R4
   show min q.1 lb≤_;omega
  ·show min q.1 lb≤s'.low z
   rcases WD.1 hy with g|g
   ·have hys:q.2.on y=1:=(h.inv.ug y).2 (by rw[h.stack];simp[g])
    have hyp:y∉path++ [a]:=by
     rw[WD,Wy]
     rintro(e|e)
     ·have h1:=sr h0 (h0.RW y e)
      exact h1 (h.new y g)
     ·rw[e] at g;exact hat g
    have hz0:=h.inv.aG y (sr h.inv hys) hyp z hz;have ho1:=Dn h.inv hp.le hz0 ho;have:=h.l1 y g z hz ho1;rw[hp.le.low z hz0];omega
   ·have:lb≤s'.low z:=hp.l1 y g z hz ho
    omega
  ·show min q.1 lb≤s'.low z
   rcases WD.1 hz with g|g
   ·have hz0:=h.proc z g
    have:=h.UQ z g (Dn h.inv hp.le hz0 ho);rw[hp.le.low z hz0];omega
   ·rw[Wy] at g;subst g
    have:lb≤s'.low z:=hp.R4;omega
  ·show s'.low z≠0
   rcases WD.1 hz with g|g
   ·have hz0:=h.proc z g
    rw[hp.le.low z hz0];exact hz0
   ·rw[Wy] at g;subst g
    have:(q.2.n:Int)<s'.low z:=hp.at_;omega
  ·obtain⟨z,z1,z2,z3⟩:=h.l2
   by_cases hle:q.1≤lb
   ·exact⟨z,hmono z z1,by show s'.low z=min q.1 lb;rw[hp.le.low z (sr h.inv z1)];omega,z3⟩
   ·rcases hp.l2 with⟨_,g⟩|⟨w,w1,w2,w3⟩
    ·have h1:lb=s'.low b:=g
     have h2:(q.2.n:Int)<s'.low b:=hp.at_;have h3:=h.R4;omega
    ·have w2:s'.low w=lb:=w2
     exact⟨w,hmono w ((h.inv.ug w).2 w1),by show s'.low w=min q.1 lb;omega,(kT.one hb).trans w3⟩
 ·rw[if_neg hw0]
  by_cases ho1:q.2.on b=1
  ·rw[if_pos ho1]
   refine⟨t,h.inv,h.le,h.stack,h.new,?_,fun y hy z hz ho=>?_,fun z hz ho=>?_,fun z hz=>?_,?_⟩
   ·have:=h.R4
    show min q.1 (q.2.low b)≤_;omega
   ·have:=h.l1 y hy z hz ho
    show min q.1 (q.2.low b)≤q.2.low z;omega
   ·show min q.1 (q.2.low b)≤q.2.low z
    rcases WD.1 hz with g|g
    ·have:=h.UQ z g ho;omega
    ·rw[Wy] at g;subst g;omega
   ·rcases WD.1 hz with g|g
    ·exact h.proc z g
    ·rw[Wy] at g;subst g;exact hw0
   ·obtain⟨z,z1,z2,z3⟩:=h.l2
    by_cases hle:q.1≤q.2.low b
    ·exact⟨z,z1,by show q.2.low z=min q.1 (q.2.low b);omega,z3⟩
    ·exact⟨b,ho1,by show q.2.low b=min q.1 (q.2.low b);omega, .one hb⟩
  ·rw[if_neg ho1]
   refine⟨t,h.inv,h.le,h.stack,h.new,h.R4,h.l1,fun z hz ho=>?_,fun z hz=>?_,h.l2⟩
   ·rcases WD.1 hz with g|g
    ·exact h.UQ z g ho
    ·rw[Wy] at g;subst g;exact absurd ho ho1
   ·rcases WD.1 hz with g|g
    ·exact h.proc z g
    ·rw[Wy] at g;subst g;exact hw0
end
theorem pW {succ:α→List α} {path:List α} {a:α} {s0:St α} {V:List α} {visit:α→St α→Int×St α} {f:Nat} (hV: ∀a∈V,∀b∈succ a,b∈V)
  (ih: ∀(path:List α) (b:α) (s:St α),Inv succ path s→s.low b=0→b∈V→(∀g∈path,kT succ g b)→iR V s≤f→ ∃t,yn succ path b s (visit b s).1 (visit b s).2 t)
  (h0:Inv succ path s0) (ha:s0.low a=0) (haV:a∈V) (hw0:iR V (push s0 a)≤f):
  ∀(l done:List α) (q:Int×St α) (t:List α),eB succ path a s0 done q t→(∀b∈l,b∈succ a)→ ∃t',eB succ path a s0 (done++l) (l.foldl (oB visit) q) t'
 | [],done,q,t,h,_=>⟨t,by rw[Xo];exact h⟩
 |b::l,done,q,t,h,hl=>by
  obtain⟨t1,h1⟩:=h.step hV ih h0 ha haV (hl b WM) (WV (tW h.le) hw0);obtain⟨t2,h2⟩:=pW hV ih h0 ha haV hw0 l (done++ [b]) _ t1 h1 fun x hx=>hl x (WE _ hx);exact⟨t2,by rw[Wv] at h2;exact h2⟩
theorem nN {succ:α→List α} {V:List α} (hV: ∀a∈V,∀b∈succ a,b∈V): ∀(f:Nat) (path:List α) (a:α) (s:St α),Inv succ path s→s.low a=0→a∈V→(∀g∈path,kT succ g a)→iR V s≤f→ ∃t,yn succ path a s (dw succ f a s).1 (dw succ f a s).2 t
 |0,path,a,s,h,ha,haV,_,hw=>by
  have:=jK h.lN haV ha
  omega
 |f+1,path,a,s,h,ha,haV,hp,hw=>by
  have hwp:=jK h.lN haV ha;have hi:=xj h ha hp;have la:(push s a).low a=(s.n:Int)+1:=iT _ _ _;have oa:(push s a).on a=1:=iT _ _ _
  have hL0:eB succ path a s [] ((s.n:Int)+1,push s a) []:=
   ⟨hi, .refl _,rfl,fun y hy=>(nomatch hy),Yi _,fun y hy=>(nomatch hy),fun z hz=>(nomatch hz),fun z hz=>(nomatch hz),⟨a,oa,la, .refl _⟩⟩
  obtain⟨t,hL⟩:=pW hV (fun p b s'=>nN hV f p b s') h ha haV (by omega) (succ a) [] _ [] hL0 fun b hb=>hb;rw[Yg] at hL;rw[dw];generalize(succ a).foldl (oB (dw succ f)) ((s.n:Int)+1,push s a)=q at hL ⊢;have hla:=hL.la;have hpa:=hL.pa h ha;have hat:=hL.at_;have hoa:q.2.on a=1:=(hL.inv.ug a).2 (by rw[hL.stack];simp);have hle:Le s q.2:=(JP h ha).trans hL.le;unfold rk;by_cases hm:q.1=(s.n:Int)+1
  ·rw[if_pos hm,pP (by rw[hL.stack];simp;omega) hL.stack hat hoa,←hla]
   refine⟨[],JQ hL.inv hL.stack hpa hL.proc fun y hy z hz ho=>?_,⟨hle.low,fun x hx=>?_,hle.n⟩,by rw[Xo];rfl,fun y hy=>(nomatch hy),?_,?_,fun y hy=>(nomatch hy), .inl ⟨if_pos WM,?_⟩⟩
   ·rw[hla,←hm]
    rcases WG.1 hy with e|e
    ·rw[e] at hz;exact hL.UQ z hz ho
    ·exact hL.l1 y e z hz ho
   ·show(if x∈a::t then(2:Int) else q.2.on x)=2
    split
    ·rfl
    ·exact hle.Kq x hx
   ·show(s.n:Int)<q.2.low a;omega
   ·show q.1≤q.2.low a;omega
   ·show q.1=q.2.low a;omega
  ·rw[if_neg hm]
   have hlt:q.1<q.2.low a:=by have:=hL.R4;omega
   obtain⟨z,z1,z2,z3⟩:=hL.l2;have hsr:=hL.inv.SE;rw[hL.stack,YD] at hsr;refine⟨a::t,BJ hL.inv hL.proc z1 (by omega) z3,hle,hL.stack,fun y hy=>?_,by omega,by omega,fun y hy w hw2 ho=>?_, .inr ⟨z,?_,z2,z3⟩⟩
   ·rcases WG.1 hy with e|e
    ·rw[e];exact ha
    ·exact hL.new y e
   ·rcases WG.1 hy with e|e
    ·rw[e] at hw2;exact hL.UQ w hw2 ho
    ·exact hL.l1 y e w hw2 ho
   ·have:=(hL.inv.ug z).1 z1
    rw[hL.stack] at this;rcases WD.1 this with g|g
    ·exact g
    ·rcases WG.1 g with e|e
     ·rw[e] at z2;omega
     ·have:=(XK.1 hsr.2.1).1 z e;omega
theorem Ps {β:Type} (succ:β→List β):Inv succ [] (St.o:St β):=
 ⟨fun _=>⟨Yi _,Yi _⟩,fun _ _ _ h=>absurd rfl h,fun _=>Iff.rfl,fun _=> .inl rfl,fun _=>⟨fun h=>(nomatch h),fun h=>(nomatch h)⟩, .nil,fun _ h=>(nomatch h),fun _ h=>(nomatch h),fun _ h=>(nomatch h),fun _ h=>(nomatch h),fun _ h=>absurd rfl h,fun _ h=>(nomatch h),fun _ _ h=>(nomatch h)⟩
theorem pM {succ:α→List α} {V:List α} (hV: ∀a∈V,∀b∈succ a,b∈V) {f:Nat} (hf:V.length≤f): ∀(l:List α) (s:St α),(∀a∈l,a∈V)→Inv succ [] s→Inv succ [] (fE succ f l s)∧(∀x,s.low x≠0→(fE succ f l s).low x≠0)∧ ∀a∈l,(fE succ f l s).low a≠0
 | [],s,_,h=>⟨h,fun _ hx=>hx,fun _ ha=>(nomatch ha)⟩
 |b::l,s,hl,h=>by
  have key: ∃s',(if s.low b=0 then(dw succ f b s).2 else s)=s'∧Inv succ [] s'∧(∀x,s.low x≠0→s'.low x≠0)∧s'.low b≠0:=by
   by_cases e:s.low b=0
   ·obtain⟨t,hp⟩:=nN hV f [] b s h e (hl b WM) (fun g hg=>nomatch hg) (WV (XB _ _) hf)
    refine⟨_,if_pos e,hp.inv,fun x hx=>by rw[hp.le.low x hx];exact hx,?_⟩;have:=hp.at_;omega
   ·exact⟨s,if_neg e,h,fun _ hx=>hx,e⟩
  obtain⟨s',e,k1,k2,k3⟩:=key;obtain⟨i1,i2,i3⟩:=pM hV hf l s' (fun a ha=>hl a (WE _ ha)) k1
  have he:fE succ f (b::l) s=fE succ f l s':=by
   show fE succ f l (if s.low b=0 then(dw succ f b s).2 else s)=_;rw[e]
  rw[he];refine⟨i1,fun x hx=>i2 x (k2 x hx),fun a ha=>?_⟩;rcases WG.1 ha with q|q
  ·rw[q];exact i2 b k3
  ·exact i3 a q
theorem Bo {succ:α→List α} {V:List α} (hV: ∀a∈V,∀b∈succ a,b∈V) {f:Nat} (hf:V.length≤f) {a b:α} (ha:a∈V) (hb:b∈V):
  (fE succ f V St.o).ring a=(fE succ f V St.o).ring b↔kT succ a b∧kT succ b a:=by
 obtain⟨h,_,h3⟩:=pM hV hf V St.o (fun _ h=>h) (Ps succ);generalize fE succ f V St.o=s at h h3 ⊢
 have hon: ∀x∈V,s.on x=2:=by
  intro x hx;rcases h.Bz x with g|g|g
  ·exact absurd ((h.EM x).1 g) (h3 x hx)
  ·obtain⟨k,k1,_⟩:=h.up x g
   exact nomatch k1
  ·exact g
 constructor
 ·intro e
  obtain⟨r,r1,r2,r3,r4⟩:=h.UF a (hon a ha);obtain⟨q,q1,q2,q3,q4⟩:=h.UF b (hon b hb);have hr0:s.low r≠0:=fun g=>by have:=(h.EM r).2 g;omega
  have:r=q:=h.inj r q (by omega) hr0;subst this;exact⟨r3.trans q4,q3.trans r4⟩
 ·rintro⟨h1,h2⟩
  exact h.cmp a b (hon a ha) (hon b hb) h1 h2
end
end
end Go.Tj
namespace Go.Wa
inductive ny (R:Nat→Nat→Prop):Nat→Nat→Prop
 |refl (a:Nat):ny R a a
 |step {a b c:Nat} (h:R a b) (t:ny R b c):ny R a c
theorem ny.trans {R:Nat→Nat→Prop} {a b c:Nat} (h:ny R a b) (k:ny R b c):ny R a c:=by
 induction h with
 |refl=>exact k
 |step h _ ih=>exact .step h (ih k)
def W (E:Nat→Nat→Bool):Nat→Nat→Nat→Bool
 |0,a,b=>E a b||a==b
 |m+1,a,b=>W E m a b||(W E m a m&&W E m m b)
variable {E:Nat→Nat→Bool}
theorem W.mono (m a b:Nat) (h:W E m a b=true):W E (m+1) a b=true:=by simp[W,h]
theorem W.Pt {m k a b:Nat} (hk:m≤k) (h:W E m a b=true):W E k a b=true:=by
 induction hk with
 |refl=>exact h
 |step _ ih=>exact W.mono _ _ _ ih
theorem W.self (m a:Nat):W E m a a=true:=W.Pt (WC m) (by simp[W])
theorem W.trans: ∀(m a k b:Nat),k<m→W E m a k=true→W E m k b=true→W E m a b=true
 |m+1,a,k,b,hk,h1,h2=>by
  simp only[W,Xl,WN] at h1 h2 ⊢;by_cases hkm:k=m
  ·subst hkm
   have h3:W E k a k=true:=by rcases h1 with h|h;exact h;exact h.1
   have h4:W E k k b=true:=by rcases h2 with h|h;exact h;exact h.2
   exact .inr ⟨h3,h4⟩
  ·have hlt:k<m:=by omega
   rcases h1 with h1|⟨h1,h1'⟩<;>rcases h2 with h2|⟨h2,h2'⟩
   ·exact .inl (W.trans m a k b hlt h1 h2)
   ·exact .inr ⟨W.trans m a k m hlt h1 h2,h2'⟩
   ·exact .inr ⟨h1,W.trans m m k b hlt h1' h2⟩
   ·exact .inr ⟨h1,h2'⟩
theorem W.sound: ∀(m a b:Nat),W E m a b=true→ny (fun a b=>E a b=true) a b
 |0,a,b,h=>by
  simp only[W,Xl,beq_iff_eq] at h;rcases h with h|h
  ·exact .step h (.refl _)
  ·subst h;exact .refl _
 |m+1,a,b,h=>by
  simp only[W,Xl,WN] at h;rcases h with h|⟨h1,h2⟩
  ·exact W.sound m a b h
  ·exact(W.sound m a m h1).trans (W.sound m m b h2)
theorem W.iff {n:Nat} (hE: ∀a b,a<n→E a b=true→b<n) {a b:Nat} (ha:a<n):W E n a b=true↔ny (fun a b=>E a b=true) a b:=by
 refine⟨W.sound n a b,fun h=>?_⟩
 induction h with
 |refl a=>exact W.self n a
 |step h _ ih=>
  have hb:=hE _ _ ha h;exact W.trans n _ _ _ hb (W.Pt (WC n) (by simp[W,h])) (ih hb)
def V (E:Nat→Nat→Bool) (m a b x y:Nat):Bool:=if x<a∨x=a∧y<b then W E (m+1) x y else W E m x y
theorem V.Ch (m a b x:Nat):V E m a b x m=W E m x m:=by
 unfold V;split
 ·simp only[W];cases W E m x m<;>simp
 ·rfl
theorem V.row (m a b y:Nat):V E m a b m y=W E m m y:=by
 unfold V;split
 ·simp only[W];cases W E m m y<;>simp
 ·rfl
theorem V.here (m a b:Nat):V E m a b a b=W E m a b:=by unfold V;rw[if_neg (by omega)]
theorem V.next (m a b x y:Nat):V E m a (b+1) x y=if x=a∧y=b then(V E m a b x y||(V E m a b a m&&V E m a b m b)) else V E m a b x y:=by
 by_cases h:x=a∧y=b
 ·obtain⟨rfl,rfl⟩:=h
  rw[if_pos ⟨rfl,rfl⟩,V.Ch,V.row,V.here];unfold V;rw[if_pos (by omega)];rfl
 ·rw[if_neg h]
  unfold V;by_cases h2:x<a∨x=a∧y<b
  ·rw[if_pos h2,if_pos (by omega)]
  ·rw[if_neg h2,if_neg (by omega)]
theorem V.line (m a n x y:Nat) (hy:y<n):V E m a n x y=V E m (a+1) 0 x y:=by
 unfold V;by_cases h:x<a∨x=a∧y<n
 ·rw[if_pos h,if_pos (by omega)]
 ·rw[if_neg h,if_neg (by omega)]
theorem V.zero (m x y:Nat):V E m 0 0 x y=W E m x y:=by unfold V;rw[if_neg (by omega)]
theorem V.full (m n x y:Nat) (hx:x<n):V E m n 0 x y=W E (m+1) x y:=by unfold V;rw[if_pos (.inl hx)]
end Go.Wa
namespace Go.Co
def dD (n:Nat) (free:(Nat→Bool)→Nat→Bool) (cls:Nat→Nat→Bool):Nat→(Nat→Bool)→List (List Nat)
 |0,_=> []
 |f+1,done=>match(WL n).find? (fun a=>!done a&&free done a) with
  |none=> []
  |some a=>(WL n).filter (cls a)::dD n free cls f (fun b=>done b||cls a b)
section
variable {n:Nat} {bu:Nat→Nat→Bool} {e:Nat→Nat→Bool}
def fO (n:Nat) (bu:Nat→Nat→Bool) (done:Nat→Bool) (a:Nat):Bool:=(WL n).all fun b=>!(bu a b&&!bu b a)||done b
def iy (n:Nat) (bu e:Nat→Nat→Bool) (done:Nat→Bool) (a:Nat):Bool:=(WL n).all fun b=>!(bu a b&&bu b a)||(WL n).all fun c=>!e b c||(bu c a&&bu a c)||done c
structure KS (n:Nat) (e bu:Nat→Nat→Bool):Prop where
 refl: ∀a,a<n→bu a a=true
 trans: ∀a b c,bu a b=true→bu b c=true→bu a c=true
 ph: ∀a b,a<n→e a b=true→bu a b=true
 lt: ∀a b,a<n→bu a b=true→b<n
 Vp: ∀a b,a<n→e a b=true→b<n
 split: ∀a b (p:Nat→Prop),a<n→bu a b=true→p a→ ¬p b→ ∃x y,x<n∧bu a x=true∧p x∧e x y=true∧ ¬p y∧bu y b=true
def closed (n:Nat) (bu:Nat→Nat→Bool) (done:Nat→Bool):Prop:= ∀a b,a<n→done a=true→bu a b=true→done b=true
theorem vX (hf:KS n e bu) {done:Nat→Bool} (hd:closed n bu done) {a:Nat} (ha:a<n):fO n bu done a=iy n bu e done a:=by
 rw[Xn];simp only[fO,iy,WX,WZ,Xl,W5,Ym,WN,XL];constructor
 ·intro h b hb
  by_cases hab:bu a b=true∧bu b a=true
  ·refine .inr fun c hc=>?_
   by_cases hbc:e b c=true
   ·have h1:bu a c=true:=hf.trans _ _ _ hab.1 (hf.ph _ _ hb hbc)
    by_cases h2:bu c a=true
    ·exact .inl (.inr ⟨h2,h1⟩)
    ·rcases h c hc with(h3|h3)|h3
     ·rw[h1] at h3;cases h3
     ·exact absurd h3 h2
     ·exact .inr h3
   ·exact .inl (.inl (XD.2 hbc))
  ·by_cases h1:bu a b=true
   ·exact .inl (.inr (XD.2 fun h2=>hab ⟨h1,h2⟩))
   ·exact .inl (.inl (XD.2 h1))
 ·intro h b hb
  by_cases hab:bu a b=true
  ·by_cases hba:bu b a=true
   ·exact .inl (.inr hba)
   ·refine .inr ?_
    obtain⟨x,y,hx,h1,h2,h3,h4,h5⟩:=hf.split a b (fun x=>bu x a=true) ha hab (hf.refl a ha) hba;have hy:y<n:=hf.Vp _ _ hx h3;rcases h x hx with(h6|h6)|h6
    ·rw[h1] at h6;cases h6
    ·rw[h2] at h6;cases h6
    ·rcases h6 y hy with(h7|h7)|h7
     ·rw[h3] at h7;cases h7
     ·exact absurd h7.1 h4
     ·exact hd y b hy h7 h5
  ·exact .inl (.inl (XD.2 hab))
def cls (bu:Nat→Nat→Bool) (a b:Nat):Bool:=bu a b&&bu b a
theorem mI (hf:KS n e bu) {done:Nat→Bool} (hd:closed n bu done) {a:Nat} (ha:a<n) (hfree:fO n bu done a=true):closed n bu (fun b=>done b||cls bu a b):=by
 intro x y hx h1 h2;simp only[cls,Xl,WN] at h1 ⊢;rcases h1 with h1|⟨h1,h3⟩
 ·exact .inl (hd x y hx h1 h2)
 ·have hay:=hf.trans _ _ _ h1 h2
  by_cases hya:bu y a=true
  ·exact .inr ⟨hay,hya⟩
  ·left
   simp only[fO,WX,WZ,Xl,W5,Ym,XL] at hfree;rcases hfree y (hf.lt _ _ ha hay) with(h4|h4)|h4
   ·rw[hay] at h4;cases h4
   ·exact absurd h4 hya
   ·exact h4
theorem find_congr {α:Type} {p q:α→Bool}: ∀{l:List α},(∀x∈l,p x=q x)→l.find? p=l.find? q
 | [],_=>rfl
 |x::l,h=>by
  rw[YP,YP,h x (by simp),find_congr fun y hy=>h y (WE _ hy)]
theorem uP (hf:KS n e bu): ∀(f:Nat) (done:Nat→Bool),closed n bu done→dD n (fO n bu) (cls bu) f done=dD n (iy n bu e) (cls bu) f done
 |0,_,_=>rfl
 |f+1,done,hd=>by
  have h1:(WL n).find? (fun a=>!done a&&fO n bu done a)=(WL n).find? (fun a=>!done a&&iy n bu e done a):=
   find_congr fun a ha=>by rw[vX hf hd (WZ.1 ha)]
  unfold dD;rw[←h1];split
  ·rfl
  ·rename_i a ha
   have h2:=Y5 ha;have h3:=WZ.1 (Yn ha);simp only[WN] at h2;rw[uP hf f _ (mI hf hd h3 h2.2)]
theorem qR (hf:KS n e bu) {done:Nat→Bool} (hex: ∃a,a<n∧done a=false): ∃a,a<n∧done a=false∧fO n bu done a=true:=by
 have key: ∀(m:Nat) (a:Nat),a<n→done a=false→(WL n).countP (bu a)≤m→ ∃a,a<n∧done a=false∧fO n bu done a=true:=by
  intro m
  induction m with
  |zero=>
   intro a ha _ hc;have:0<(WL n).countP (bu a):=Zy.2 ⟨a,WZ.2 ha,hf.refl a ha⟩
   omega
  |succ m ih=>
   intro a ha hda hc;by_cases h:fO n bu done a=true
   ·exact⟨a,ha,hda,h⟩
   ·have h1: ∃b,b<n∧bu a b=true∧bu b a=false∧done b=false:=by
     simp only[fO,Bool.not_eq_true,YB,WZ,Xl,W5,Ym,XL,not_or] at h;obtain⟨b,hb,⟨h2,h3⟩,h4⟩:=h;exact⟨b,hb,by simpa using h2,by simpa using h3,by simpa using h4⟩
    obtain⟨b,hb,h2,h3,h4⟩:=h1;refine ih b hb h4 ?_
    have hlt:(WL n).countP (bu b)<(WL n).countP (bu a):=by
     have hsub: ∀x∈WL n,bu b x=true→bu a x=true:=fun x _ hx=>hf.trans _ _ _ h2 hx
     have: ∀l:List Nat,(∀x∈l,bu b x=true→bu a x=true)→a∈l→l.countP (bu b)<l.countP (bu a):=by
      intro l
      induction l with
      |nil=>intro _ h;cases h
      |cons x l ihl=>
       intro hs hm;have hle:l.countP (bu b)≤l.countP (bu a):=YZ fun y hy=>hs y (WE _ hy);rw[Y3,Y3];by_cases hxa:a=x
       ·subst hxa
        rw[h3,hf.refl a ha];simp;omega
       ·have hm':a∈l:=by
         rcases WG.1 hm with h|h
         ·exact absurd h hxa
         ·exact h
        have:=ihl (fun y hy=>hs y (WE _ hy)) hm';have hx:=hs x (by simp)
        cases hbx:bu b x with
        |false=>simp;split<;>omega
        |true=>rw[hx hbx];simp;omega
     exact this _ hsub (WZ.2 ha)
    omega
 obtain⟨a,ha,hda⟩:=hex;exact key _ a ha hda (Wz _)
theorem zg {d d':Nat→Bool} (h: ∀j,j<n→d j=d' j) (a:Nat):iy n bu e d a=iy n bu e d' a:=by
 unfold iy;rw[Xn];simp only[WX,WZ];constructor
 ·intro g b hb
  have:=g b hb;rw[Xl] at this ⊢;refine this.imp id fun g2=>?_;simp only[WX,WZ] at g2 ⊢;exact fun c hc=>by rw[←h c hc];exact g2 c hc
 ·intro g b hb
  have:=g b hb;rw[Xl] at this ⊢;refine this.imp id fun g2=>?_;simp only[WX,WZ] at g2 ⊢;exact fun c hc=>by rw[h c hc];exact g2 c hc
theorem qN {K:Nat→Nat→Bool}: ∀{f:Nat} {d d':Nat→Bool},(∀j,j<n→d j=d' j)→dD n (iy n bu e) K f d=dD n (iy n bu e) K f d'
 |0,_,_,_=>rfl
 |f+1,d,d',h=>by
  have h1:(WL n).find? (fun a=>!d a&&iy n bu e d a)=(WL n).find? (fun a=>!d' a&&iy n bu e d' a):=
   find_congr fun a ha=>by rw[zg h,h a (WZ.1 ha)]
  unfold dD;rw[h1];split
  ·rfl
  ·rename_i a _
   rw[qN fun j hj=>by rw[h j hj]]
end
end Go.Co
namespace Go.Fa
open Go.Wa Go.Co
theorem A1 {R:Nat→Nat→Prop} {a b:Nat} (h:ny R a b) (p:Nat→Prop):p a→ ¬p b→ ∃x y,ny R a x∧p x∧R x y∧ ¬p y∧ny R y b:=by
 induction h with
 |refl a=>exact fun h1 h2=>absurd h1 h2
 | @step a c b h t ih=>
  intro h1 h2;by_cases hc:p c
  ·obtain⟨x,y,g1,g2,g3,g4,g5⟩:=ih hc h2
   exact⟨x,y, .step h g1,g2,g3,g4,g5⟩
  ·exact⟨a,c, .refl a,h1,h,hc,t⟩
theorem U0 {n:Nat} {E:Nat→Nat→Bool} (hE: ∀a b,E a b=true→a<n∧b<n):KS n E (W E n):=by
 have hE': ∀a b,a<n→E a b=true→b<n:=fun a b _ h=>(hE a b h).2
 have hw: ∀{a b:Nat},ny (fun a b=>E a b=true) a b→W E n a b=true:=by
  intro a b h;by_cases ha:a<n
  ·exact(W.iff hE' ha).2 h
  ·cases h with
   |refl=>exact W.self n a
   |step h _=>exact absurd (hE _ _ h).1 ha
 have hlt: ∀{a b:Nat},ny (fun a b=>E a b=true) a b→a<n→b<n:=by
  intro a b h
  induction h with
  |refl a=>exact id
  |step h _ ih=>exact fun _=>ih (hE _ _ h).2
 refine⟨fun a _=>W.self n a,fun a b c h1 h2=>hw ((W.sound n a b h1).trans (W.sound n b c h2)),fun a b _ h=>hw (.step h (.refl _)),fun a b ha h=>hlt (W.sound n a b h) ha,hE',fun a b p ha h h1 h2=>?_⟩;obtain⟨x,y,g1,g2,g3,g4,g5⟩:=A1 (W.sound n a b h) p h1 h2;exact⟨x,y,hlt g1 ha,hw g1,g2,g3,g4,hw g5⟩
end Go.Fa
namespace Go.Rg
open Go.Wa Go.Co Go.Tj
section
variable {α:Type} [Inhabited α]
def ed (V:List α) (g:α→α→Bool) (i j:Nat):Bool:=decide (i<V.length)&&decide (j<V.length)&&g (V.getD i default) (V.getD j default)
def bu (V:List α) (g:α→α→Bool):Nat→Nat→Bool:=W (ed V g) V.length
theorem en {V:List α} {g:α→α→Bool} {i j:Nat}:ed V g i j=true↔i<V.length∧j<V.length∧g (V.getD i default) (V.getD j default)=true:=by
 simp[ed,and_assoc]
theorem js (V:List α) (g:α→α→Bool):KS V.length (ed V g) (bu V g):=Go.Fa.U0 fun _ _ h=>⟨(en.1 h).1,(en.1 h).2.1⟩
theorem lr {V:List α} {a:α} (h:a∈V): ∃i,i<V.length∧V.getD i default=a:=by
 obtain⟨i,hi,rfl⟩:=XH.1 h;exact⟨i,hi,by simp[Ws,hi]⟩
theorem get_mem {V:List α} {i:Nat} (h:i<V.length):V.getD i default∈V:=by
 rw[Ws,Wt h];exact Xj h
theorem zC {V:List α} (hn:V.Nodup) {g:α→α→Bool} {succ:α→List α} (hs: ∀a∈V,∀b,b∈succ a↔b∈V∧g a b=true) {i j:Nat} (hi:i<V.length) (hj:j<V.length):
  bu V g i j=true↔kT succ (V.getD i default) (V.getD j default):=by
 have hinj: ∀{x y:Nat},x<V.length→y<V.length→V.getD x default=V.getD y default→x=y:=by
  intro x y hx hy h;rw[Ws,Ws,Wt hx,Wt hy] at h;exact(YJ hn).1 h
 rw[bu,W.iff (n:=V.length) (fun a b _ h=>(en.1 h).2.1) hi];constructor
 ·intro h
  clear hj
  have: ∀{a b:Nat},ny (fun a b=>ed V g a b=true) a b→kT succ (V.getD a default) (V.getD b default):=by
   intro a b h
   induction h with
   |refl a=>exact .refl _
   |step h _ ih=>
    obtain⟨h1,h2,h3⟩:=en.1 h;exact(kT.step (.refl _) ((hs _ (get_mem h1) _).2 ⟨get_mem h2,h3⟩)).trans ih
  exact this h
 ·intro h
  have key: ∀{a b:α},kT succ a b→ ∀x,x<V.length→V.getD x default=a→ ∃y,y<V.length∧V.getD y default=b∧ny (fun a b=>ed V g a b=true) x y:=by
   intro a b h
   induction h with
   |refl=>exact fun x hx he=>⟨x,hx,he, .refl _⟩
   |step _ hc ih=>
    intro x hx he;obtain⟨y,hy,h1,h2⟩:=ih x hx he;subst h1;obtain⟨h3,h4⟩:=(hs _ (get_mem hy) _).1 hc;obtain⟨z,hz,rfl⟩:=lr h3;exact⟨z,hz,rfl,h2.trans (.step (en.2 ⟨hy,hz,h4⟩) (.refl _))⟩
  obtain⟨y,hy,h1,h2⟩:=key h i hi rfl;have:=hinj hy hj h1;subst this;exact h2
def kS (V:List α) (g:α→α→Bool) (ring:α→Int):Prop:= ∀i j,i<V.length→j<V.length→(ring (V.getD i default)=ring (V.getD j default)↔bu V g i j=true∧bu V g j i=true)
theorem Db [DecidableEq α] {V:List α} (hn:V.Nodup) {g:α→α→Bool} {succ:α→List α} (hs: ∀a∈V,∀b,b∈succ a↔b∈V∧g a b=true) {f:Nat} (hf:V.length≤f):kS V g (fE succ f V St.o).ring:=by
 intro i j hi hj;rw[Bo (fun a ha b hb=>((hs a ha b).1 hb).1) hf (get_mem hi) (get_mem hj),zC hn hs hi hj,zC hn hs hj hi]
def uU (V:List α) (succ:α→List α) (ring:α→Int) (D:Int→Bool) (a:α):Bool:=(V.filter fun b=>decide (ring b=ring a)).all fun b=>(succ b).all fun c=>decide (ring c=ring a)||D (ring c)
def jv (V:List α) (succ:α→List α) (ring:α→Int):Nat→(Int→Bool)→List (List α)
 |0,_=> []
 |f+1,D=>match V.find? (fun a=>!D (ring a)&&uU V succ ring D a) with
  |none=> []
  |some a=>(V.filter fun b=>decide (ring b=ring a))::jv V succ ring f (fun x=>decide (x=ring a)||D x)
theorem uo (V:List α):(WL V.length).map (fun i=>V.getD i default)=V:=by
 apply List.ext_getElem
 ·simp
 ·intro i h1 h2
  simp[Ws,h2]
theorem zj (V:List α) (p:α→Bool):V.filter p=((WL V.length).filter fun i=>p (V.getD i default)).map fun i=>V.getD i default:=by
 have:=List.filter_map (p:=p) (f:=fun i=>V.getD i default) (l:=WL V.length);rw[uo] at this;exact this
theorem D9 (V:List α) (p:α→Bool):V.find? p=((WL V.length).find? fun i=>p (V.getD i default)).map fun i=>V.getD i default:=by
 have:=List.find?_map (f:=fun i=>V.getD i default) (p:=p) (l:=WL V.length);rw[uo] at this;exact this
theorem tM {β:Type} {p q:β→Bool} {l:List β} (h: ∀x∈l,p x=q x):l.filter p=l.filter q:=List.filter_congr h
theorem Eu {V:List α} {g:α→α→Bool} {ring:α→Int} (hr:kS V g ring) {i:Nat} (hi:i<V.length):
  (V.filter fun b=>decide (ring b=ring (V.getD i default)))=((WL V.length).filter (cls (bu V g) i)).map fun i=>V.getD i default:=by
 rw[zj];congr 1;refine tM fun j hj=>?_;have:=hr j i (WZ.1 hj) hi;rw[Xn,decide_eq_true_eq,this];simp[cls,and_comm]
theorem qj {V:List α} {g:α→α→Bool} {ring:α→Int} (hr:kS V g ring) {succ:α→List α} (hs: ∀a∈V,∀b,b∈succ a↔b∈V∧g a b=true) {D:Int→Bool} {i:Nat} (hi:i<V.length):
  uU V succ ring D (V.getD i default)=iy V.length (bu V g) (ed V g) (fun j=>D (ring (V.getD j default))) i:=by
 rw[Xn];simp only[uU,iy,WX,WW,decide_eq_true_eq,WZ,Xl,W5,Ym,WN];constructor
 ·intro h b hb
  by_cases hc:bu V g i b=true∧bu V g b i=true
  ·refine .inr fun c hc'=>?_
   by_cases he:ed V g b c=true
   ·obtain⟨_,_,h3⟩:=en.1 he
    rcases h (V.getD b default) ⟨get_mem hb,(hr b i hb hi).2 ⟨hc.2,hc.1⟩⟩ (V.getD c default) ((hs _ (get_mem hb) _).2 ⟨get_mem hc',h3⟩) with h4|h4
    ·exact .inl (.inr ((hr c i hc' hi).1 h4))
    ·exact .inr h4
   ·exact .inl (.inl (XD.2 he))
  ·left
   by_cases h1:bu V g i b=true
   ·exact .inr (XD.2 fun h2=>hc ⟨h1,h2⟩)
   ·exact .inl (XD.2 h1)
 ·rintro h b ⟨hb,hrb⟩ c hc
  obtain⟨y,hy,rfl⟩:=lr hb;obtain⟨h1,h2⟩:=(hs _ hb _).1 hc;obtain⟨z,hz,rfl⟩:=lr h1;obtain⟨h3,h4⟩:=(hr y i hy hi).1 hrb;rcases h y hy with(h5|h5)|h5
  ·rw[h4] at h5;cases h5
  ·rw[h3] at h5;cases h5
  ·rcases h5 z hz with(h6|h6)|h6
   ·rw[en.2 ⟨hy,hz,h2⟩] at h6;cases h6
   ·exact .inl ((hr z i hz hi).2 h6)
   ·exact .inr h6
theorem pn {V:List α} {g:α→α→Bool} {ring:α→Int} (hr:kS V g ring) {succ:α→List α} (hs: ∀a∈V,∀b,b∈succ a↔b∈V∧g a b=true): ∀(f:Nat) (D:Int→Bool),
  jv V succ ring f D=(dD V.length (iy V.length (bu V g) (ed V g)) (cls (bu V g)) f (fun j=>D (ring (V.getD j default)))).map fun c=>c.map fun i=>V.getD i default
 |0,_=>rfl
 |f+1,D=>by
  have h1:(WL V.length).find? (fun i=>!D (ring (V.getD i default))&&uU V succ ring D (V.getD i default))=
    (WL V.length).find? (fun i=>!D (ring (V.getD i default))&&iy V.length (bu V g) (ed V g) (fun j=>D (ring (V.getD j default))) i):=
   find_congr fun i hi=>by rw[qj hr hs (WZ.1 hi)]
  unfold jv dD;rw[D9,h1]
  cases hfi:(WL V.length).find? (fun i=>!D (ring (V.getD i default))&&iy V.length (bu V g) (ed V g) (fun j=>D (ring (V.getD j default))) i) with
  |none=>rfl
  |some i=>
   have hi:=WZ.1 (Yn hfi);simp only[Xy,WI];rw[Eu hr hi,pn hr hs f]
   have hg:=qN (n:=V.length) (bu:=bu V g) (e:=ed V g) (K:=cls (bu V g)) (f:=f) (d:=fun j=>decide (ring (V.getD j default)=ring (V.getD i default))||D (ring (V.getD j default)))
    (d':=fun j=>D (ring (V.getD j default))||cls (bu V g) i j) fun j hj=>?_
   ·rw[hg]
   have:=hr j i hj hi;rw[Xn];simp only[Xl,decide_eq_true_eq,this,cls,WN];exact⟨fun h=>h.symm.imp id fun h=>⟨h.2,h.1⟩,fun h=>h.symm.imp (fun h=>⟨h.2,h.1⟩) id⟩
end
end Go.Rg
namespace Go.Lv
variable (e s:Nat→Nat→Bool)
def wt (a b:Nat):Nat:=if s a b then 1 else 0
inductive Sw:Nat→Nat→Nat→Prop
 |nil (a:Nat):Sw a 0 0
 |cons {a b k w:Nat} (h:e a b=true) (t:Sw b k w):Sw a (k+1) (w+wt s a b)
def rx (h:Nat→Nat) (a b:Nat):Nat→Nat:=if e a b=true∧h a<h b+wt s a b then fun x=>if x=a then h b+wt s a b else h x else h
def row (h:Nat→Nat) (a:Nat):Nat→(Nat→Nat)
 |0=>h
 |b+1=>rx e s (row h a b) a b
def UG (n:Nat) (h:Nat→Nat):Nat→(Nat→Nat)
 |0=>h
 |a+1=>row e s (UG n h a) a n
def high (n:Nat):Nat→(Nat→Nat)
 |0=>fun _=>0
 |t+1=>UG e s n (high n t) n
theorem Pr (h:Nat→Nat) (a b x:Nat):h x≤rx e s h a b x:=by
 unfold rx;split
 ·rename_i hc;show h x≤if x=a then _ else _
  split
  ·rename_i hx;subst hx;omega
  ·exact Wz _
 ·exact Wz _
theorem JA (h:Nat→Nat) {a b:Nat} (hab:e a b=true):h b+wt s a b≤rx e s h a b a:=by
 unfold rx;split
 ·show _≤if a=a then _ else _
  rw[if_pos rfl];exact Wz _
 ·rename_i hc
  have: ¬h a<h b+wt s a b:=fun hh=>hc ⟨hab,hh⟩;omega
theorem vp (h:Nat→Nat) (a x:Nat): ∀m,h x≤row e s h a m x
 |0=>Wz _
 |m+1=>WV (vp h a x m) (Pr e s _ a m x)
theorem kr (h:Nat→Nat) {a b:Nat} (hab:e a b=true): ∀m,b<m→h b+wt s a b≤row e s h a m a
 |m+1,hb=>by
  by_cases hbm:b=m
  ·subst hbm
   exact WV (Y4 (vp e s h a b b) _) (JA e s _ hab)
  ·exact WV (kr h hab m (by omega)) (Pr e s _ a m a)
theorem yL (n:Nat) (h:Nat→Nat) (x:Nat): ∀m,h x≤UG e s n h m x
 |0=>Wz _
 |m+1=>WV (yL n h x m) (vp e s _ m x n)
theorem w9 (n:Nat) (h:Nat→Nat) {a b:Nat} (hab:e a b=true) (hb:b<n): ∀m,a<m→h b+wt s a b≤UG e s n h m a
 |m+1,ha=>by
  by_cases ham:a=m
  ·subst ham
   exact WV (Y4 (yL e s n h b a) _) (kr e s _ hab n hb)
  ·exact WV (w9 n h hab hb m (by omega)) (vp e s _ m a n)
theorem uL (n:Nat) (x:Nat): ∀{t u:Nat},t≤u→high e s n t x≤high e s n u x:=by
 intro t u h
 induction h with
 |refl=>exact Wz _
 |step _ ih=>exact WV ih (yL e s n _ x n)
variable {e s}
theorem UE {L h:Nat→Nat} (hL: ∀a b,e a b=true→L b+wt s a b≤L a) (hh: ∀x,h x≤L x) (a b x:Nat):rx e s h a b x≤L x:=by
 unfold rx;split
 ·rename_i hc
  show(if x=a then _ else _)≤_;split
  ·rename_i hx;subst hx
   exact WV (Y4 (hh b) _) (hL x b hc.1)
  ·exact hh x
 ·exact hh x
theorem C4 {L h:Nat→Nat} (hL: ∀a b,e a b=true→L b+wt s a b≤L a) (hh: ∀x,h x≤L x) (a:Nat): ∀m x,row e s h a m x≤L x
 |0,x=>hh x
 |m+1,x=>UE hL (C4 hL hh a m) a m x
theorem C8 {L h:Nat→Nat} (hL: ∀a b,e a b=true→L b+wt s a b≤L a) (n:Nat) (hh: ∀x,h x≤L x): ∀m x,UG e s n h m x≤L x
 |0,x=>hh x
 |m+1,x=>C4 hL (C8 hL n hh m) m n x
theorem oX {L:Nat→Nat} (hL: ∀a b,e a b=true→L b+wt s a b≤L a) (n:Nat): ∀t x,high e s n t x≤L x
 |0,_=>WC _
 |t+1,x=>C8 hL n (oX hL n t) n x
end Go.Lv
namespace Go.Le
open Go.Co Go.Lv
variable {n:Nat} {e s bu:Nat→Nat→Bool}
def AZ (n:Nat) (e s:Nat→Nat→Bool) (L:Nat→Nat):Prop:= ∀S:Nat→Bool,(∃a,a<n∧S a=false)→ ∃x,x<n∧S x=false∧(L x=0∨ ∃y,y<n∧S y=true∧e x y=true∧L x≤L y+wt s x y)
theorem qn {α:Type} {p q:α→Bool}: ∀{l:List α},(∀x∈l,p x=true→q x=true)→(∃x∈l,p x=false∧q x=true)→l.countP p<l.countP q
 | [],_,⟨x,hx,_⟩=>nomatch hx
 |y::l,h,⟨x,hx,h1,h2⟩=>by
  have hle:l.countP p≤l.countP q:=YZ fun z hz=>h z (WE _ hz);rw[Y3,Y3];rcases WG.1 hx with rfl|hx
  ·rw[h1,h2];simp;omega
  ·have:=qn (fun z hz=>h z (WE _ hz)) ⟨x,hx,h1,h2⟩
   have hy:=h y (by simp)
   cases hp:p y with
   |false=>simp;split<;>omega
   |true=>rw[hy hp];simp;omega
theorem xJ {t:Nat} (ht:n≤t) {L:Nat→Nat} (hL: ∀a b,e a b=true→L b+wt s a b≤L a) (hg:AZ n e s L) {a:Nat} (ha:a<n):high e s n t a=L a:=by
 have key: ∀u,u≤n→u≤(WL n).countP fun x=>decide (high e s n u x=L x):=by
  intro u
  induction u with
  |zero=>exact fun _=>WC _
  |succ u ih=>
   intro hu;have ih:=ih (by omega)
   have hmono: ∀x∈WL n,decide (high e s n u x=L x)=true→decide (high e s n (u+1) x=L x)=true:=by
    intro x _ hx;rw[decide_eq_true_eq] at hx ⊢;refine YQ (oX hL n (u+1) x) ?_;rw[←hx];exact uL e s n x (YC u)
   by_cases hex: ∃a,a<n∧decide (high e s n u a=L a)=false
   ·obtain⟨x,hx,h1,h2⟩:=hg _ hex
    have:(WL n).countP (fun x=>decide (high e s n u x=L x))<(WL n).countP fun x=>decide (high e s n (u+1) x=L x):=by
     refine qn hmono ⟨x,WZ.2 hx,h1,?_⟩;rw[decide_eq_true_eq];refine YQ (oX hL n (u+1) x) ?_;rcases h2 with h2|⟨y,hy,h3,h4,h5⟩
     ·rw[h2];exact WC _
     ·rw[decide_eq_true_eq] at h3
      refine WV h5 ?_;rw[←h3];exact w9 e s n _ h4 hy n hx
    omega
   ·have hall:(WL n).countP (fun x=>decide (high e s n u x=L x))=n:=by
     have:(WL n).countP (fun x=>decide (high e s n u x=L x))=(WL n).length:=by
      rw[Zp];intro x hx
      cases h:decide (high e s n u x=L x) with
      |true=>rfl
      |false=>exact absurd ⟨x,WZ.1 hx,h⟩ hex
     rw[this,Yp]
    have:(WL n).countP (fun x=>decide (high e s n u x=L x))≤(WL n).countP fun x=>decide (high e s n (u+1) x=L x):=YZ hmono;omega
 have h1:=key n (Wz n)
 have h2: ∀x∈WL n,decide (high e s n n x=L x)=true:=by
  rw[←Zp,Yp];exact YQ (by have:=Y0 (p:=fun x=>decide (high e s n n x=L x)) (l:=WL n);rwa[Yp] at this) h1
 have h3:=of_decide_eq_true (h2 a (WZ.2 ha));refine YQ (oX hL n t a) ?_;rw[←h3];exact uL e s n a ht
def top (n:Nat) (e s:Nat→Nat→Bool) (h:Nat→Nat) (c:List Nat):Nat:=
 c.foldl (fun m a=>(WL n).foldl (fun m b=>if e a b=true then max m (h b+wt s a b) else m) m) 0
def Ka (n:Nat) (e s:Nat→Nat→Bool):List (List Nat)→(Nat→Nat)→(Nat→Nat)
 | [],h=>h
 |c::r,h=>Ka n e s r (fun x=>if x∈c then top n e s h c else h x)
theorem foldl_max {α:Type} (p:α→Bool) (f:α→Nat): ∀(l:List α) (m:Nat),m≤l.foldl (fun m b=>if p b=true then max m (f b) else m) m∧
  (∀b∈l,p b=true→f b≤l.foldl (fun m b=>if p b=true then max m (f b) else m) m)∧(l.foldl (fun m b=>if p b=true then max m (f b) else m) m=m∨ ∃b∈l,p b=true∧l.foldl (fun m b=>if p b=true then max m (f b) else m) m=f b)
 | [],m=>⟨Wz _,fun _ h=>(nomatch h), .inl rfl⟩
 |b::l,m=>by
  obtain⟨h1,h2,h3⟩:=foldl_max p f l (if p b=true then max m (f b) else m);rw[Xf];refine⟨WV ?_ h1,fun c hc hp=>?_,?_⟩
  ·split<;>omega
  ·rcases WG.1 hc with rfl|hc
   ·rw[if_pos hp] at h1 ⊢;omega
   ·exact h2 c hc hp
  ·rcases h3 with h3|⟨c,hc,hp,h3⟩
   ·rw[h3]
    by_cases hp:p b=true
    ·rw[if_pos hp]
     rcases Nat.le_total m (f b) with h|h
     ·exact .inr ⟨b,by simp,hp,by omega⟩
     ·exact .inl (by omega)
    ·rw[if_neg hp];exact .inl rfl
   ·exact .inr ⟨c,WE _ hc,hp,h3⟩
theorem vi (n:Nat) (e s:Nat→Nat→Bool) (h:Nat→Nat): ∀(c:List Nat) (m:Nat),(m≤c.foldl (fun m a=>(WL n).foldl (fun m b=>if e a b=true then max m (h b+wt s a b) else m) m) m)∧
  (∀a∈c,∀b,b<n→e a b=true→h b+wt s a b≤c.foldl (fun m a=>(WL n).foldl (fun m b=>if e a b=true then max m (h b+wt s a b) else m) m) m)∧
  (c.foldl (fun m a=>(WL n).foldl (fun m b=>if e a b=true then max m (h b+wt s a b) else m) m) m=m∨ ∃a∈c,∃b,b<n∧e a b=true∧c.foldl (fun m a=>(WL n).foldl (fun m b=>if e a b=true then max m (h b+wt s a b) else m) m) m=h b+wt s a b)
 | [],m=>⟨Wz _,fun _ h=>(nomatch h), .inl rfl⟩
 |a::c,m=>by
  obtain⟨g1,g2,g3⟩:=foldl_max (fun b=>e a b) (fun b=>h b+wt s a b) (WL n) m;obtain⟨h1,h2,h3⟩:=vi n e s h c ((WL n).foldl (fun m b=>if e a b=true then max m (h b+wt s a b) else m) m);rw[Xf];refine⟨WV g1 h1,fun x hx b hb he=>?_,?_⟩
  ·rcases WG.1 hx with rfl|hx
   ·exact WV (g2 b (WZ.2 hb) he) h1
   ·exact h2 x hx b hb he
  ·rcases h3 with h3|⟨x,hx,b,hb,he,h3⟩
   ·rcases g3 with g3|⟨b,hb,he,g3⟩
    ·exact .inl (h3.trans g3)
    ·exact .inr ⟨a,by simp,b,WZ.1 hb,he,h3.trans g3⟩
   ·exact .inr ⟨x,WE _ hx,b,hb,he,h3⟩
theorem Cx {h:Nat→Nat} {c:List Nat} {a b:Nat} (ha:a∈c) (hb:b<n) (he:e a b=true):h b+wt s a b≤top n e s h c:=(vi n e s h c 0).2.1 a ha b hb he
theorem yv (h:Nat→Nat) (c:List Nat):top n e s h c=0∨ ∃a∈c,∃b,b<n∧e a b=true∧top n e s h c=h b+wt s a b:=(vi n e s h c 0).2.2
structure wq (n:Nat) (e s bu:Nat→Nat→Bool) (done:Nat→Bool) (h:Nat→Nat):Prop where
 cl:closed n bu done
 zero: ∀x,done x=false→h x=0
 ph: ∀a b,a<n→done a=true→e a b=true→h b+wt s a b≤h a
 ground: ∀S:Nat→Bool,(∃a,a<n∧done a=true∧S a=false)→ ∃x,x<n∧done x=true∧S x=false∧(h x=0∨ ∃y,y<n∧S y=true∧e x y=true∧h x≤h y+wt s x y)
theorem wq.next (hf:KS n e bu) (hs: ∀a b,e a b=true→bu b a=true→s a b=false) {done:Nat→Bool} {h:Nat→Nat} (hd:wq n e s bu done h) {a:Nat} (ha:a<n) (hna:done a=false) (hfree:fO n bu done a=true):
  wq n e s bu (fun b=>done b||cls bu a b) (fun x=>if x∈(WL n).filter (cls bu a) then top n e s h ((WL n).filter (cls bu a)) else h x):=by
 have hmem: ∀x,x∈(WL n).filter (cls bu a)↔x<n∧bu a x=true∧bu x a=true:=by
  intro x;simp[cls,WW,WZ]
 have hnd: ∀x,x<n→bu a x=true→bu x a=true→done x=false:=by
  intro x hx _ h2
  cases hdx:done x with
  |false=>rfl
  |true=>have:=hd.cl x a hx hdx h2;rw[hna] at this;cases this
 have hfr: ∀b,bu a b=true→bu b a=false→done b=true:=by
  intro b h1 h2;simp only[fO,WX,WZ,Xl,W5,Ym,XL] at hfree;rcases hfree b (hf.lt _ _ ha h1) with(h4|h4)|h4
  ·rw[h1] at h4;cases h4
  ·rw[h2] at h4;cases h4
  ·exact h4
 have hold: ∀x,x<n→done x=true→(if x∈(WL n).filter (cls bu a) then top n e s h ((WL n).filter (cls bu a)) else h x)=h x:=by
  intro x hx hdx;rw[if_neg];rw[hmem]
  rintro⟨_,h1,h2⟩
  rw[hnd x hx h1 h2] at hdx;cases hdx
 have hin: ∀x,x<n→bu a x=true→bu x a=true→(if x∈(WL n).filter (cls bu a) then top n e s h ((WL n).filter (cls bu a)) else h x)=top n e s h ((WL n).filter (cls bu a)):=
  fun x hx h1 h2=>if_pos ((hmem x).2 ⟨hx,h1,h2⟩)
 have hsame: ∀x y,x<n→bu a x=true→bu x a=true→e x y=true→bu y a=true→h y+wt s x y=0:=by
  intro x y hx h1 h2 he h3;have hy:=hf.Vp _ _ hx he;have h4:bu a y=true:=hf.trans _ _ _ h1 (hf.ph _ _ hx he);rw[hd.zero y (hnd y hy h4 h3)];simp[wt,hs x y he (hf.trans _ _ _ h3 h1)]
 refine⟨mI hf hd.cl ha hfree,fun x hx=>?_,fun x y hx hdx he=>?_,fun S hS=>?_⟩
 ·simp only[XY] at hx
  rw[if_neg]
  ·exact hd.zero x hx.1
  ·rw[hmem]
   rintro⟨_,h1,h2⟩
   have:=hx.2;simp[cls,h1,h2] at this
 ·have hy:=hf.Vp _ _ hx he
  simp only[Xl,cls,WN] at hdx;rcases hdx with hdx|⟨h1,h2⟩
  ·have hdy:done y=true:=hd.cl x y hx hdx (hf.ph _ _ hx he)
   rw[hold x hx hdx,hold y hy hdy];exact hd.ph x y hx hdx he
  ·rw[hin x hx h1 h2]
   have h3:bu a y=true:=hf.trans _ _ _ h1 (hf.ph _ _ hx he)
   cases h4:bu y a with
   |true=>
    rw[hin y hy h3 h4];have:wt s x y=0:=by simp[wt,hs x y he (hf.trans _ _ _ h4 h1)]
    omega
   |false=>
    rw[hold y hy (hfr y h3 h4)];exact Cx ((hmem x).2 ⟨hx,h1,h2⟩) hy he
 ·by_cases hex: ∃x,x<n∧done x=true∧S x=false
  ·obtain⟨x,hx,h1,h2,h3⟩:=hd.ground S hex
   refine⟨x,hx,by simp[h1],h2,?_⟩;rw[hold x hx h1];rcases h3 with h3|⟨y,hy,h4,h5,h6⟩
   ·exact .inl h3
   ·exact .inr ⟨y,hy,h4,h5,by rw[hold y hy (hd.cl x y hx h1 (hf.ph _ _ hx h5))];exact h6⟩
  ·have hall: ∀x,x<n→done x=true→S x=true:=fun x hx h1=>by
    cases h2:S x with
    |true=>rfl
    |false=>exact absurd ⟨x,hx,h1,h2⟩ hex
   obtain⟨x,hx,h1,h2⟩:=hS;simp only[Xl,cls,WN] at h1;rcases h1 with h1|⟨h1,h3⟩
   ·exact absurd ⟨x,hx,h1,h2⟩ hex
   rcases yv (n:=n) (e:=e) (s:=s) h ((WL n).filter (cls bu a)) with ht|⟨a',ha',b,hb,he,ht⟩
   ·exact⟨x,hx,by simp[cls,h1,h3],h2, .inl (by rw[hin x hx h1 h3,ht])⟩
   ·obtain⟨g1,g2,g3⟩:=(hmem a').1 ha'
    cases hba:bu b a with
    |true=>
     have:=hsame a' b g1 g2 g3 he hba
     exact⟨x,hx,by simp[cls,h1,h3],h2, .inl (by rw[hin x hx h1 h3,ht,this])⟩
    |false=>
     have hdb:=hfr b (hf.trans _ _ _ g2 (hf.ph _ _ g1 he)) hba
     cases hSa:S a' with
     |false=>
      exact⟨a',g1,by simp[cls,g2,g3],hSa, .inr ⟨b,hb,hall b hb hdb,he,by rw[hin a' g1 g2 g3,hold b hb hdb,ht];exact Wz _⟩⟩
     |true=>
      obtain⟨u,v,hu,h4,h5,h6,h7,h8⟩:=hf.split x a' (fun z=>S z=false) hx (hf.trans _ _ _ h3 g2) h2 (by rw[hSa];simp);have hv:=hf.Vp _ _ hu h6;have hau:bu a u=true:=hf.trans _ _ _ h1 h4;have hva:bu v a=true:=hf.trans _ _ _ h8 g3;have hua:bu u a=true:=hf.trans _ _ _ (hf.ph _ _ hu h6) hva;have hav:bu a v=true:=hf.trans _ _ _ hau (hf.ph _ _ hu h6);exact⟨u,hu,by simp[cls,hau,hua],h5, .inr ⟨v,hv,by simpa using h7,h6,by rw[hin u hu hau hua,hin v hv hav hva];omega⟩⟩
theorem wq.nil (n:Nat) (e s bu:Nat→Nat→Bool):wq n e s bu (fun _=>false) (fun _=>0):=
 ⟨fun _ _ _ h=>(nomatch h),fun _ _=>rfl,fun _ _ _ h=>(nomatch h),fun _ ⟨_,_,h,_⟩=>(nomatch h)⟩
theorem pc {α:Type} {p:α→Bool}: ∀{l:List α},(∃x∈l,p x=true)→ ∃y,l.find? p=some y
 | [],⟨_,h,_⟩=>nomatch h
 |x::l,⟨y,h,hp⟩=>by
  rw[YP]
  cases hx:p x with
  |true=>exact⟨x,rfl⟩
  |false=>
   rcases WG.1 h with rfl|h
   ·rw[hx] at hp;cases hp
   ·exact pc ⟨y,h,hp⟩
theorem sJ (hf:KS n e bu) (hs: ∀a b,e a b=true→bu b a=true→s a b=false): ∀(f:Nat) (done:Nat→Bool) (h:Nat→Nat),wq n e s bu done h→(WL n).countP (fun x=>!done x)≤f→
  ∃all:Nat→Bool,(∀x,x<n→all x=true)∧wq n e s bu all (Ka n e s (dD n (fO n bu) (cls bu) f done) h)
 | 0,done,h,hd,hc=>⟨done,fun x hx=>by
   cases hdx:done x with
   |true=>rfl
   |false=>
    have:0<(WL n).countP (fun x=>!done x):=Zy.2 ⟨x,WZ.2 hx,by simp[hdx]⟩
    omega,hd⟩
 |f+1,done,h,hd,hc=>by
  unfold dD;split
  ·rename_i hnone
   refine⟨done,fun x hx=>?_,hd⟩
   cases hdx:done x with
   |true=>rfl
   |false=>
    obtain⟨a,h1,h2,h3⟩:=qR hf ⟨x,hx,hdx⟩;obtain⟨y,hy⟩:=pc (p:=fun a=>!done a&&fO n bu done a) (l:=WL n) ⟨a,WZ.2 h1,by simp[h2,h3]⟩;rw[hnone] at hy;cases hy
  ·rename_i a hsome
   have h2:=Y5 hsome;have h3:=WZ.1 (Yn hsome);simp only[WN,W5] at h2;have hd':=hd.next hf hs h3 h2.1 h2.2;refine sJ hf hs f _ _ hd' ?_
   have:(WL n).countP (fun x=>!(done x||cls bu a x))<(WL n).countP fun x=>!done x:=by
    refine qn (fun x _ hx=>?_) ⟨a,WZ.2 h3,?_,?_⟩
    ·simp only[Bool.not_or,WN] at hx;exact hx.1
    ·simp[cls,hf.refl a h3]
    ·simp[h2.1]
   omega
theorem DC (hf:KS n e bu) (hlt: ∀a b,e a b=true→a<n∧b<n) (hs: ∀a b,e a b=true→bu b a=true→s a b=false) {t:Nat} (ht:n≤t) {a:Nat} (ha:a<n):
  high e s n t a=Ka n e s (dD n (fO n bu) (cls bu) n (fun _=>false)) (fun _=>0) a:=by
 obtain⟨all,h1,h2⟩:=sJ hf hs n _ _ (wq.nil n e s bu) (by have:=Y0 (p:=fun x:Nat=>!false) (l:=WL n);rwa[Yp] at this);refine xJ ht (fun x y he=>h2.ph x y (hlt x y he).1 (h1 x (hlt x y he).1) he) (fun S ⟨x,hx,hS⟩=>?_) ha;obtain⟨y,hy,_,h4,h5⟩:=h2.ground S ⟨x,hx,h1 x hx,hS⟩;exact⟨y,hy,h4,h5⟩
end Go.Le
namespace Go.Or
open Go.Co Go.Lv Go.Le
variable {n:Nat} {e s bu:Nat→Nat→Bool}
structure Wf (n:Nat) (bu:Nat→Nat→Bool) (done:Nat→Bool) (cs:List (List Nat)) (x i:Nat) (c:List Nat):Prop where
 at_:cs[i]? =some c
 mem:x∈c
 one: ∀(j:Nat) (c':List Nat),cs[j]? =some c'→x∈c'→j=i
 cl: ∀y,y∈c↔y<n∧cls bu x y=true
 low: ∀y,y<n→bu x y=true→done y=true∨ ∃j c',j≤i∧cs[j]? =some c'∧y∈c'
theorem DN {e' s':Nat→Nat→Bool} {L:Nat→Nat} (hL: ∀a b,e a b=true→L b+wt s a b≤L a) (he: ∀a b,e' a b=true→e a b=true) (hs: ∀a b,s' a b=true→s a b=true) (t a:Nat):high e' s' n t a≤L a:=
 oX (fun a b h=>WV (Nat.add_le_add_left (by
  unfold wt;by_cases h1:s' a b=true
  ·rw[if_pos h1,if_pos (hs a b h1)];exact Wz _
  ·rw[if_neg h1];exact WC _) _) (hL a b (he a b h))) n t a
end Go.Or
namespace Go.Proofs.YtflegjieadkonaaGreatDoor
open Go Go.Al
mutual
def named:Lit→List aj
 | .mk k a _ _ _ _ _ _ b _=>if k=1∨k=2 then[a.rel] else if k=4 then fF b else[]
def fF:List Lit→List aj
 | []=> []
 |l::r=>named l++fF r
end
def Dw (l:Lit):List aj:=if l.kind=1∨l.kind=2 then[l.atom.rel] else if l.kind=4 then(l.ay.filter fun x=>decide (x.kind=1∨x.kind=2)).map fun x=>x.atom.rel else[]
theorem mc: ∀l:List Lit,fF l=l.flatMap named
 | []=>rfl
 |x::r=>by simp only[fF,XA,mc r]
theorem uD: ∀(b:List Lit),(∀x∈b,x.kind≠4)→fF b=(b.filter fun x=>decide (x.kind=1∨x.kind=2)).map fun x=>x.atom.rel
 | [],_=>rfl
 | .mk k' a' op' le' ri' af' av' ao' b' at'::b,h=>by
  have hx:k'≠4:=h (.mk k' a' op' le' ri' af' av' ao' b' at') (WM ..);rw[fF,uD b fun y hy=>h y (WE _ hy),Yk];by_cases hk:k'=1∨k'=2
  ·have:decide ((Lit.mk k' a' op' le' ri' af' av' ao' b' at').kind=1∨(Lit.mk k' a' op' le' ri' af' av' ao' b' at').kind=2)=true:=decide_eq_true hk
   rw[this,named,if_pos hk];rfl
  ·have:decide ((Lit.mk k' a' op' le' ri' af' av' ao' b' at').kind=1∨(Lit.mk k' a' op' le' ri' af' av' ao' b' at').kind=2)=false:=decide_eq_false hk
   rw[this,named,if_neg hk,if_neg hx];rfl
theorem Dv (l:Lit) (h:l.kind=4→ ∀x∈l.ay,x.kind≠4):named l=Dw l:=by
 obtain⟨k,a,op,le,ri,af,av,ao,b,at_⟩:=l;show(if k=1∨k=2 then[a.rel] else if k=4 then fF b else[])=if k=1∨k=2 then[a.rel] else if k=4 then(b.filter fun x=>decide (x.kind=1∨x.kind=2)).map fun x=>x.atom.rel else[];by_cases h4:k=4
 ·rw[uD b (h h4)]
 ·rw[if_neg h4,if_neg h4]
def jJ (l:Lit):Nat:=if l.kind=1 then 1 else 2
def aF (p:Prog):List (aj×aj×Nat):=p.rules.flatMap fun r=>r.body.flatMap fun l=>(named l).map fun t=>(r.head.rel,t,jJ l)
def gD (hs:List (aj×aj×Nat)) (a b:aj):Nat:=hs.foldl (fun m x=>if x.1=a∧x.2.1=b then max m x.2.2 else m) 0
theorem Kl (hs:List (aj×aj×Nat)) (x:aj×aj×Nat) (a b:aj):gD (hs++ [x]) a b=if x.1=a∧x.2.1=b then max (gD hs a b) x.2.2 else gD hs a b:=by
 simp[gD,Ye]
theorem vY (a b:aj): ∀(hs:List (aj×aj×Nat)) (m:Nat),m≤hs.foldl (fun m x=>if x.1=a∧x.2.1=b then max m x.2.2 else m) m∧(∀k,(a,b,k)∈hs→k≤hs.foldl (fun m x=>if x.1=a∧x.2.1=b then max m x.2.2 else m) m)∧
  (hs.foldl (fun m x=>if x.1=a∧x.2.1=b then max m x.2.2 else m) m=m∨(a,b,hs.foldl (fun m x=>if x.1=a∧x.2.1=b then max m x.2.2 else m) m)∈hs)
 | [],m=>⟨Wz _,fun _ h=>(nomatch h), .inl rfl⟩
 |(x,y,k)::hs,m=>by
  obtain⟨h1,h2,h3⟩:=vY a b hs (if x=a∧y=b then max m k else m);rw[Xf];refine⟨WV ?_ h1,fun k' hk=>?_,?_⟩
  ·split<;>omega
  ·rcases WG.1 hk with h|h
   ·cases h
    refine WV ?_ h1;rw[if_pos ⟨rfl,rfl⟩];exact Nat.le_max_right _ _
   ·exact h2 k' h
  ·rcases h3 with h3|h3
   ·by_cases hxy:x=a∧y=b
    ·rw[if_pos hxy] at h3
     rcases Nat.le_total m k with h4|h4
     ·right
      rw[ZE h4] at h3;obtain⟨rfl,rfl⟩:=hxy;simp only[and_self,if_true,ZE h4] at h3 ⊢;rw[h3];simp
     ·left
      rw[Nat.max_eq_left h4] at h3;simp only[hxy,and_self,if_true,Nat.max_eq_left h4] at h3 ⊢;exact h3
    ·rw[if_neg hxy] at h3
     left;simp only[if_neg hxy];exact h3
   ·exact .inr (WE _ h3)
theorem xT {hs:List (aj×aj×Nat)} {a b:aj} {k:Nat} (h:(a,b,k)∈hs):k≤gD hs a b:=(vY a b hs 0).2.1 k h
theorem uS (hs:List (aj×aj×Nat)) (a b:aj):gD hs a b=0∨(a,b,gD hs a b)∈hs:=(vY a b hs 0).2.2
theorem Km {hs hs':List (aj×aj×Nat)} (h: ∀x,x∈hs↔x∈hs') (a b:aj):gD hs a b=gD hs' a b:=by
 apply YQ
 ·rcases uS hs a b with h1|h1
  ·rw[h1];exact WC _
  ·exact xT ((h _).1 h1)
 ·rcases uS hs' a b with h1|h1
  ·rw[h1];exact WC _
  ·exact xT ((h _).2 h1)
theorem Au {hs hs':List (aj×aj×Nat)} (h: ∀x,x∈hs→x∈hs') (a b:aj):gD hs a b≤gD hs' a b:=by
 rcases uS hs a b with h1|h1
 ·rw[h1];exact WC _
 ·exact xT (h _ h1)
theorem Kc (l:Lit):jJ l≤2:=by unfold jJ;split<;>omega
theorem D5 (p:Prog) (a b:aj):gD (aF p) a b≤2:=by
 rcases uS (aF p) a b with h|h
 ·omega
 ·generalize gD (aF p) a b=k at h
  simp only[aF,X9,W4,WA] at h;obtain⟨r,_,l,_,t,_,_,_,h⟩:=h;rw[←h];exact Kc l
def ns (p:Prog):List aj:=c9 (p.ar.map Decl.name)
theorem tD.Ds {l:List aj} (h:tD l):l.Nodup:=by
 refine ZA ?_ h;intro a b hab e;subst e;exact lu _ hab
def eg (p:Prog) (a b:aj):Bool:=decide (gD (aF p) a b≠0)
def uh (p:Prog) (a b:aj):Bool:=decide (gD (aF p) a b=2)
def oh (p:Prog):List (aj×aj×Bool):=(ns p).flatMap fun a=>((ns p).filter (eg p a)).map fun b=>(a,b,uh p a b)
def gi (p:Prog):Nat→Nat→Bool:=Go.Rg.bu (ns p) (eg p)
def cA (p:Prog):List (List aj):=(Go.Co.dD (ns p).length (Go.Co.fO (ns p).length (gi p)) (Go.Co.cls (gi p)) (ns p).length (fun _=>false)).map fun c=>c.map fun i=>(ns p).getD i default
def gr (p:Prog):Nat→Nat:=Go.Lv.high (Go.Rg.ed (ns p) (eg p)) (fun i j=>uh p ((ns p).getD i default) ((ns p).getD j default)) (ns p).length ((ns p).length+1)
def a7 (p:Prog):List (aj×Nat):=(WL (ns p).length).map fun i=>((ns p).getD i default,gr p i)
theorem ya {p:Prog} {ring:aj→Int} (hr:Go.Rg.kS (ns p) (eg p) ring):
  Go.Rg.jv (ns p) (fun a=>(ns p).filter (eg p a)) ring (ns p).length (fun _=>false)=cA p:=by
 rw[Go.Rg.pn hr (fun a _ b=>by rw[WW])];have h:=Go.Co.uP (Go.Rg.js (ns p) (eg p)) (ns p).length (fun _=>false) (fun _ _ _ h=>by cases h);unfold cA gi;rw[h]
theorem oS {p:Prog} (hs: ∀i j,Go.Rg.ed (ns p) (eg p) i j=true→gi p j i=true→uh p ((ns p).getD i default) ((ns p).getD j default)=false) {i:Nat} (hi:i<(ns p).length):
  gr p i=Go.Le.Ka (ns p).length (Go.Rg.ed (ns p) (eg p)) (fun i j=>uh p ((ns p).getD i default) ((ns p).getD j default)) (Go.Co.dD (ns p).length (Go.Co.fO (ns p).length (gi p)) (Go.Co.cls (gi p)) (ns p).length (fun _=>false)) (fun _=>0) i:=
 Go.Le.DC (Go.Rg.js (ns p) (eg p)) (fun _ _ h=>⟨(Go.Rg.en.1 h).1,(Go.Rg.en.1 h).2.1⟩) hs (YC _) hi
theorem Dc {p:Prog} (hn:(p.ar.map Decl.name).Nodup) {f:Nat} (hf:(ns p).length≤f):Go.Rg.kS (ns p) (eg p) (Go.Tj.fE (fun a=>(ns p).filter (eg p a)) f (ns p) Go.Tj.St.o).ring:=
 Go.Rg.Db (V:=ns p) (tD.Ds (eY hn)) (fun a _ b=>by rw[WW]) hf
end Go.Proofs.YtflegjieadkonaaGreatDoor
namespace Go.Proofs.YtflegjieadkonaaGreatDoor
open Go Go.Al
def ringEq (p:Prog) (a b:aj):Bool:=(WL (ns p).length).any fun i=>(WL (ns p).length).any fun j=>decide ((ns p).getD i default=a)&&decide ((ns p).getD j default=b)&&Go.Co.cls (gi p) i j
theorem nW {p:Prog} {a b:aj}:ringEq p a b=true↔ ∃i j,i<(ns p).length∧j<(ns p).length∧(ns p).getD i default=a∧(ns p).getD j default=b∧gi p i j=true∧gi p j i=true:=by
 simp only[ringEq,Xr,WZ,WN,decide_eq_true_eq,Go.Co.cls];constructor
 ·rintro⟨i,hi,j,hj,⟨h1,h2⟩,h3,h4⟩;exact⟨i,j,hi,hj,h1,h2,h3,h4⟩
 ·rintro⟨i,j,hi,hj,h1,h2,h3,h4⟩;exact⟨i,hi,j,hj,⟨h1,h2⟩,h3,h4⟩
theorem qz {p:Prog} {ring:aj→Int} (hr:Go.Rg.kS (ns p) (eg p) ring) {a b:aj} (ha:a∈ns p) (hb:b∈ns p):ringEq p a b=decide (ring a=ring b):=by
 rw[Xn,nW,decide_eq_true_eq];constructor
 ·rintro⟨i,j,hi,hj,rfl,rfl,h3,h4⟩
  exact(hr i j hi hj).2 ⟨h3,h4⟩
 ·intro h
  obtain⟨i,hi,rfl⟩:=Go.Rg.lr ha;obtain⟨j,hj,rfl⟩:=Go.Rg.lr hb;obtain⟨h3,h4⟩:=(hr i j hi hj).1 h;exact⟨i,j,hi,hj,rfl,rfl,h3,h4⟩
def j4 (p:Prog) (r:ak):Bool:=r.body.any fun l=>decide (l.kind=1)&&ringEq p l.atom.rel r.head.rel
def gH (p:Prog) (r:ak):Option Lit:=r.body.find? fun l=>decide (l.kind≠1)&&(named l).any fun t=>ringEq p t r.head.rel
def qo (r:ak):Bool:=r.head.aq.any fun t=>decide (t.kind=1)&&!c2 (j5 r) t.var
def dP (p:Prog) (r:ak):dI:=match gH p r with
 |some l=>(70,l.at)
 |none=>if qo r=true∧j4 p r=true then(71,r.at_) else dI.z
def cB (p:Prog):dI:=if(bf p).1≠0 then bf p else((p.rules.map (dP p)).find? fun d=>decide (d.1≠0)).getD dI.z
def iX (p:Prog) (n:Int):Bool:=decide ((bf p).1=0)&&decide (1≤n)&&decide (n≤p.rules.length)&&j4 p (p.rules.getD (n-1).toNat default)
def ur (p:Prog):Bool:=decide ((bf p).1=0)&&p.rules.all fun r=>r.body.all fun l=>decide (l.kind≠2)&&decide (l.kind≠4)
theorem ij {p:Prog} {r:ak} (h:(dP p r).1=0):gH p r=none:=by
 unfold dP at h;split at h
 ·cases h
 ·assumption
theorem iQ {p:Prog} (h0:(bf p).1=0) (h:(cB p).1=0): ∀r∈p.rules,(dP p r).1=0:=by
 intro r hr;unfold cB at h;rw[if_neg (by simpa using h0)] at h
 cases hf:(p.rules.map (dP p)).find? fun d=>decide (d.1≠0) with
 |none=>
  have:=XC.1 hf (dP p r) (Xs hr)
  simpa using this
 |some d=>
  rw[hf] at h;have:=Y5 hf;simp only[ne_eq,decide_not,W5,decide_eq_false_iff_not] at this;exact absurd h this
theorem qy {p:Prog} (h: ∀r∈p.rules,gH p r=none): ∀i j,Go.Rg.ed (ns p) (eg p) i j=true→gi p j i=true→uh p ((ns p).getD i default) ((ns p).getD j default)=false:=by
 intro i j he hf;obtain⟨hi,hj,_⟩:=Go.Rg.en.1 he
 cases hs:uh p ((ns p).getD i default) ((ns p).getD j default) with
 |false=>rfl
 |true=>
  rw[uh,decide_eq_true_eq] at hs;rcases uS (aF p) ((ns p).getD i default) ((ns p).getD j default) with h1|h1
  ·omega
  ·rw[hs] at h1
   simp only[aF,X9,W4,WA] at h1;obtain⟨r,hr,l,hl,t,ht,h2,h3,h4⟩:=h1
   have hk:l.kind≠1:=by
    intro hk;rw[jJ,if_pos hk] at h4;cases h4
   have:=XC.1 (h r hr) l hl;simp only[WN,decide_eq_true_eq,Xr,not_and,not_exists] at this;refine absurd ?_ (this hk t ht);rw[nW];exact⟨j,i,hj,hi,h3.symm,h2.symm,hf,(Go.Rg.js (ns p) (eg p)).ph i j hi he⟩
end Go.Proofs.YtflegjieadkonaaGreatDoor
namespace Go.Re
open Go.Tj
variable {α:Type}
structure yn (succ:α→List α) (S S':α→Prop) (a:α):Prop where
 BA: ∀x,S x→S' x
 here:S' a
 new: ∀x,S' x→S x∨kT succ a x
 next: ∀x,S' x→S x∨ ∀y∈succ x,S' y
theorem yn.skip {succ:α→List α} {S:α→Prop} {a:α} (h:S a):yn succ S S a:=⟨fun _ h=>h,h,fun _ h=> .inl h,fun _ h=> .inl h⟩
structure Wh (succ:α→List α) (S T:α→Prop) (a:α) (l:List α):Prop where
 BA: ∀x,S x→T x
 here:T a
 new: ∀x,T x→S x∨kT succ a x
 next: ∀x,T x→S x∨x=a∨ ∀y∈succ x,T y
 done: ∀y∈l,T y
theorem Wh.step {succ:α→List α} {S T T':α→Prop} {a b:α} {l:List α} (h:Wh succ S T a l) (hb:b∈succ a) (p:yn succ T T' b):Wh succ S T' a (b::l):=by
 refine⟨fun x hx=>p.BA x (h.BA x hx),p.BA a h.here,fun x hx=>?_,fun x hx=>?_,fun y hy=>?_⟩
 ·rcases p.new x hx with h1|h1
  ·exact h.new x h1
  ·exact .inr ((kT.step (.refl _) hb).trans h1)
 ·rcases p.next x hx with h1|h1
  ·rcases h.next x h1 with h2|h2|h2
   ·exact .inl h2
   ·exact .inr (.inl h2)
   ·exact .inr (.inr fun y hy=>p.BA y (h2 y hy))
  ·exact .inr (.inr h1)
 ·rcases WG.1 hy with rfl|hy
  ·exact p.here
  ·exact p.BA y (h.done y hy)
structure PH (succ:α→List α) (V:α→Prop) (T:α→Prop) (l:List α):Prop where
 new: ∀x,T x→ ∃r∈l,V r∧kT succ r x
 next: ∀x,T x→ ∀y∈succ x,T y
 done: ∀r∈l,V r→T r
theorem PH.step {succ:α→List α} {V T T':α→Prop} {l:List α} {a:α} (h:PH succ V T l) (ha:V a) (p:yn succ T T' a):PH succ V T' (l++ [a]):=by
 refine⟨fun x hx=>?_,fun x hx y hy=>?_,fun r hr hv=>?_⟩
 ·rcases p.new x hx with h1|h1
  ·obtain⟨r,h2,h3⟩:=h.new x h1
   exact⟨r,by simp[h2],h3⟩
  ·exact⟨a,by simp,ha,h1⟩
 ·rcases p.next x hx with h1|h1
  ·exact p.BA y (h.next x h1 y hy)
  ·exact h1 y hy
 ·rcases WD.1 hr with hr|hr
  ·exact p.BA r (h.done r hr hv)
  ·rw[Wy] at hr;subst hr;exact p.here
theorem PH.skip {succ:α→List α} {V T:α→Prop} {l:List α} {a:α} (h:PH succ V T l) (ha: ¬V a):PH succ V T (l++ [a]):=by
 refine⟨fun x hx=>?_,h.next,fun r hr hv=>?_⟩
 ·obtain⟨r,h2,h3⟩:=h.new x hx
  exact⟨r,by simp[h2],h3⟩
 ·rcases WD.1 hr with hr|hr
  ·exact h.done r hr hv
  ·rw[Wy] at hr;subst hr;exact absurd hv ha
theorem PH.iff {succ:α→List α} {V T:α→Prop} {l:List α} (h:PH succ V T l) (x:α):T x↔ ∃r∈l,V r∧kT succ r x:=by
 refine⟨h.new x,fun⟨r,h1,h2,h3⟩=>?_⟩
 have key: ∀{a b:α},kT succ a b→T a→T b:=by
  intro a b hr
  induction hr with
  |refl=>exact id
  |step _ hc ih=>exact fun ha=>h.next _ (ih ha) _ hc
 exact key h3 (h.done r h1 h2)
end Go.Re
namespace Go.Proofs.YtflegjieadkonaaGreatDoor
open Go Go.Al
set_option maxRecDepth 10000
section
variable {r t:ak} (hh:t.head=r.head) (hb: ∀x,x∈t.body↔x∈r.body)
include hh hb
end
section
variable {r t:ak} (hh:t.head=r.head) (hb: ∀x,x∈t.body↔x∈r.body)
include hh hb
end
structure We (r t u:ak) (i k:Int):Prop where
 VA: ∀x∈ew (aJ (bH r)),x∈ew (aJ (aI r))
 UJ: ∀x∈ew (aJ (nB r)),x∈ew (aJ (bH r))
 outer:ew (aJ (aI t))=ew (aJ (aI r))
 lim:ew (aJ (bH t))=ew (aJ (bH r))
 plain:ew (aJ (nB t))=ew (aJ (nB r))
 loc:vN t i=vN r k
 vN: ∀x∈vN r k,x∉ew (aJ (aI r))
 more: ∀x∈ew (aJ (bH r)),x∈ew (aJ (bH u))
 hasX:R0 [88]∈ew (aJ (bH u))
end Go.Proofs.YtflegjieadkonaaGreatDoor
namespace Go.Proofs.YtflegjieadkonaaGreatDoor
open Go Go.Al
set_option maxRecDepth 10000
theorem ru {n sz:Nat} {es:List (List PV)} (h:es.all (bz n)=true):(AO.row sz es).low n:=fun _ e he=>WX.1 h e (WY he)
def tA:List IV→List IV→Prop
 | [],[]=>True
 |p::r,q::s=>ke p q∧tA r s
 |_,_=>False
theorem tA.length: ∀{a b:List IV},tA a b→a.length=b.length
 | [],[],_=>rfl
 |_::_,_::_,h=>congrArg (· +1) (tA.length h.2)
 | [],_::_,h=>h.elim
 |_::_,[],h=>h.elim
theorem tA.get: ∀{a b:List IV},tA a b→ ∀(j:Nat) (q:IV),b[j]? =some q→ ∃p,a[j]? =some p∧ke p q
 | [],[],_,j,q,h=>by simp at h
 |p::r,q0::s,hh,j,q,h=>by
  cases j with
  |zero=>simp at h;subst h;exact⟨p,rfl,hh.1⟩
  |succ j=>simpa using tA.get hh.2 j q (by simpa using h)
 | [],_::_,hh,_,_,_=>hh.elim
 |_::_,[],hh,_,_,_=>hh.elim
def tc (i sz n:Nat):PV→Bool
 | .iv _=>true
 | .sl j off len s=>bif WO j i then WO s sz&&YG (off+len) n else true
 |_=>false
theorem B8 {i sz n:Nat} {p:PV} (h:tc i sz n p=true):p.bm i sz n:=by
 cases p with
 |iv=>trivial
 |sl j off len s=>
  simp only[tc] at h;show if j=i then s=sz∧off+len≤n else True;split
  ·rename_i e
   subst e;simp only[Nat.beq_refl,cond_true,WN] at h;exact⟨WK h.1,Wj h.2⟩
  ·trivial
 |_=>cases h
theorem r9 {i sz n:Nat}: ∀{l:List PV},l.all (tc i sz n)=true→b5 i sz n l
 | [],_=>trivial
 |p::r,h=>by
  rw[List.all_cons,WN] at h;exact⟨B8 h.1,r9 h.2⟩
def su (i sz n:Nat):AH→Bool
 | []=>true
 |(_,none)::r=>su i sz n r
 |(_,some (.cells cs _))::r=>cs.all (tc i sz n)&&su i sz n r
 |(_,some (.row _ es))::r=>(es.all fun e=>e.all (tc i sz n))&&su i sz n r
 |_::_=>false
theorem dQ {i sz n:Nat}: ∀{h:AH},su i sz n h=true→h.xu i sz n
 | [],_=>trivial
 |(_,none)::r,h=>dQ (h:=r) h
 |(_,some (.cells cs _))::r,h=>by
  simp only[su,WN] at h
  exact⟨r9 h.1,dQ h.2⟩
 |(_,some (.row _ es))::r,h=>by
  simp only[su,WN] at h
  exact⟨fun e he=>r9 (WX.1 h.1 e he),dQ h.2⟩
 |(_,some (.bx _ _))::r,h=>by simp[su] at h
 |(_,some .eE)::r,h=>by simp[su] at h
 |(_,some (.map ..))::r,h=>by simp[su] at h
 |(_,some (.bq ..))::r,h=>by simp[su] at h
 |(_,some (.dt ..))::r,h=>by simp[su] at h
end Go.Proofs.YtflegjieadkonaaGreatDoor
namespace Go.Al
section
variable {P:Program} {ty:Ty} {nt:Nat} {Q:AQ} {k:List KI} {s:AS}
theorem yx (hty:bE P ty) {o:Oper} {t:TypeId} {a x:Operand} (ho:o.op= .store t a x) (hd:o.dst=none) {i sz q:Nat} {e:aB} (he:ty t=some e) (hsz:e.size=sz) {es:List (List PV)} {xs:List PV}
  (ha:ev s.f a= .c4 i sz q 0) (hi:s.h.get i=some (.row sz es)) (hq:q<es.length) (hxs:(ev s.f x).cells=some xs) (hxl:xs.length=sz) (hone:fv xs=true):
  OT P nt o s (fun u=>u=⟨s.f,(i,some (.row sz (es.set q xs)))::s.h,s.nx⟩):=by
 have hp:putDst nt o .any ⟨s.f,(i,some (.row sz (es.set q xs)))::s.h,s.nx⟩=some ⟨s.f,(i,some (.row sz (es.set q xs)))::s.h,s.nx⟩:=by simp only[putDst,hd]
 refine OT.skip hp fun M N b w hf=>?_;have hu:=aS hf.2.1 a;have hy:=aS hf.2.1 x;rw[ha] at hu;generalize hu2:b.eval a=u at hu;generalize hy2:b.eval x=y at hy
 have key: ∃w',(Instr.storeAt t u y).run P w= .ok () w'∧Ext M N (· <s.nx) s.h w M N (· <s.nx) ((i,some (.row sz (es.set q xs)))::s.h) w'∧Fits M N ⟨s.f,(i,some (.row sz (es.set q xs)))::s.h,s.nx⟩ nt b w':=by
  cases hu with
  |c4 _ _ _ _ hU=>
   obtain⟨hl,hv⟩:=pr hy hxs;have hys:y.cells.size=sz:=by omega
   rcases hf.1.obj i _ hi with h0|⟨h0,c,T,g1,g2,g3,g4,g5⟩
   ·rw[h0] at hq;simp at hq
   have hmul:(q+1)*sz≤es.length*sz:=WR _ hq;have hle:q*sz+sz≤c.size:=by rw[YH] at hmul;omega
   have hone': ∀z∈y.cells.toList,z.oneCell'=true:=by
    intro v hvm;obtain⟨j,hj⟩:=W6 hvm;have hjl:j<y.cells.toList.length:=(Wr.1 hj).1;have hjx:xs[j]? =some (xs[j]'(by simp at hjl;omega)):=Wt _;have:=(hv j _ hjx).one (iP hone j _ hjx);rw[Wm] at this;have hj':y.cells[j]? =some v:=by simpa using hj
    rw[hj'] at this;exact this
   have hrun:=run_storeCells_at P (N.aG i) (q*sz) T y.cells.toList 0 c w g1 (by simp;omega) hone';refine⟨w.setRow (N.aG i) (c.toList.take (q*sz+0)++y.cells.toList++c.toList.drop (q*sz+0+y.cells.toList.length)).toArray,?_,?_⟩
   ·have hsize:=bw (w:=w) (hty t e he)
    have hs1:y.cells.size=e.size:=by omega
    simp only[Instr.storeAt,Instr.sureAddr,pure_bind,storeVar,Sem.run_bind,hsize,Result.andThen_ok,hs1,ne_eq,not_true_eq_false,if_false];exact hrun
   ·have hrow:=setRow_heap w (N.aG i) c (c.toList.take (q*sz+0)++y.cells.toList++c.toList.drop (q*sz+0+y.cells.toList.length)).toArray T (0,0) g1
    have hne: ∀b,b≠N.aG i→(w.setRow (N.aG i) (c.toList.take (q*sz+0)++y.cells.toList++c.toList.drop (q*sz+0+y.cells.toList.length)).toArray).heap[b]? =w.heap[b]? :=by
     intro b hb;simp only[World.setRow,W8];rw[if_neg (fun e=>hb e.symm)]
    have hre:(AO.row sz es).real=true:=by cases es with
     |nil=>simp at hq
     |cons=>rfl
    have hgd: ∀m,(c.toList.take (q*sz+0)++y.cells.toList++c.toList.drop (q*sz+0+y.cells.toList.length)).toArray.getD m undef=if q*sz≤m∧m<q*sz+sz then y.cells.getD (m-q*sz) undef else c.getD m undef:=by
     intro m;rw[Wm,Wm,Wm];have hlen:y.cells.toList.length=sz:=by simp;omega
     split
     ·rename_i hm
      have e1:(c.toList.take (q*sz+0)++y.cells.toList++c.toList.drop (q*sz+0+y.cells.toList.length)).toArray[m]? =y.cells[m-q*sz]? :=by
       simp only[Xv];rw[WH (by simp;omega),WJ (by simp;omega)];simp only[Xb,Array.length_toList,Xh];congr 1;omega
      rw[e1]
     ·rename_i hm
      have e1:(c.toList.take (q*sz+0)++y.cells.toList++c.toList.drop (q*sz+0+y.cells.toList.length)).toArray[m]? =c[m]? :=by
       simp only[Xv];rcases W9 m (q*sz) with k1|k1
       ·rw[Wv,WH (by simp;omega),W7,if_pos (by omega),Xh]
       ·rw[WJ (by simp;omega),Xx,Xh]
        congr 1;simp;omega
      rw[e1]
    have:=hf.1.write hi hre (w.setRow (N.aG i) (c.toList.take (q*sz+0)++y.cells.toList++c.toList.drop (q*sz+0+y.cells.toList.length)).toArray) (.row sz (es.set q xs)) rfl rfl rfl (by simp) hne
     (.inr ⟨h0,_,T,hrow,by simp;omega,by simp;omega,fun k2 e2 h2=>?_,fun k2 e2 j2 p2 h2 h3=>?_⟩)
    ·exact⟨this.1,this.2,hf.2.1,hf.2.2⟩
    ·rw[XP] at h2
     split at h2
     ·cases h2;exact hxl
     ·exact g4 k2 e2 h2
    ·rw[hgd]
     rw[XP] at h2;split at h2
     ·rename_i hk2
      subst hk2;cases h2;have hj2:j2<sz:=by rw[←hxl];exact(Wr.1 h3).1
      rw[if_pos (by omega),show q*sz+j2-q*sz=j2 by omega];exact hv j2 p2 h3
     ·rename_i hk2
      have hj2:j2<sz:=by rw[←g4 k2 e2 h2];exact(Wr.1 h3).1
      rw[if_neg ?_]
      ·exact g5 k2 e2 j2 p2 h2 h3
      ·intro⟨e1,e2⟩
       rcases Nat.lt_trichotomy q k2 with hlt|heq|hgt
       ·have:(q+1)*sz≤k2*sz:=WR _ hlt
        rw[YH] at this;omega
       ·exact hk2 heq
       ·have:(k2+1)*sz≤q*sz:=WR _ hgt
        rw[YH] at this;omega
 obtain⟨w',h1,h2,h3⟩:=key;refine⟨w',M,N,?_,h2,h3⟩;simp only[execOp,ho];simp[hu2,hy2,h1]
end
end Go.Al
namespace Go.Al
theorem dY {P:Program} {nt:Nat} {Q:AQ} {k:List KI} {s:AS} {c:Code} (i:Nat) {sz:Nat} {es:List (List PV)} (el:Nat→List IV) (hi:s.h.get i=some (.row sz es)) (hel: ∀k e,es[k]? =some e→e=(el k).map .iv)
  (hf:s.f.kX i sz es.length) (hh:s.h.xu i sz es.length) (h:GO P nt (.code c::k) Q ⟨s.f.ft i sz el,(i,none)::s.h.jn i sz el,s.nx⟩):GO P nt (.code c::k) Q s:=by
 intro M N a w hfit;obtain⟨M',h1,h2,h4⟩:=vW hfit.1 hi hel
 have hg: ∀j o,AH.get ((i,none)::s.h.jn i sz el) j=some o→ ∃p,AH.get ((i,none)::s.h) j=some p∧s.h.get j=some p∧o=p.jn i sz el:=by
  intro j o hj;obtain⟨g1,g2⟩:=ba j o hj;rw[AH.qh,Wx] at g2;obtain⟨p,g3,g4⟩:=g2;exact⟨p,by rw[AH.aA,if_neg g1];exact g3,g3,g4.symm⟩
 have hE:Ext M N (· <s.nx) s.h w M' N (· <s.nx) ((i,none)::s.h.jn i sz el) w:=⟨h1.os,h1.tape,h1.output,h1.size,h1.gd,h1.ow,h1.gn,h1.nm,h1.ule,fun j o hj hre=>by
  obtain⟨p,g1,_,rfl⟩:=hg j o hj;rw[AO.od] at hre
  exact h1.fQ j p g1 hre⟩
 have hR:Rel M' N (· <s.nx) ((i,none)::s.h.jn i sz el) w:=by
  refine⟨h2.cZ,fun j o hj=>?_,fun j o hj hre=>?_,fun j o hj=>?_,fun j k o p hj hk ho hp=>?_⟩
  ·obtain⟨p,g1,_,rfl⟩:=hg j o hj
   exact h2.used j p g1
  ·obtain⟨p,g1,_,rfl⟩:=hg j o hj
   rw[AO.od] at hre;exact h2.dA j p g1 hre
  ·obtain⟨p,g1,g2,rfl⟩:=hg j o hj
   cases p with
   |cells cs T0=>
    obtain⟨c,T,q1,q2,q3,q4,q5⟩:=hfit.1.obj j _ g2;have hok:=AH.oO hh j _ g2;refine⟨c,T,q1,q2,by simpa[gh] using q3,fun k q hq=>?_,q5⟩;rw[gh,Ww,Wx] at hq;obtain⟨q0,hq0,rfl⟩:=hq
    exact h4 _ _ (q4 k q0 hq0) (gC hok k q0 hq0)
   |row s2 es2=>
    have hok:=AH.oO hh j _ g2;rcases hfit.1.obj j _ g2 with rfl|⟨q0,c,T,q1,q2,q3,q4,q5⟩
    ·exact .inl rfl
    ·refine .inr ⟨q0,c,T,q1,q2,by simpa using q3,fun k e he=>?_,fun k e j2 p he hp=>?_⟩
     ·rw[Ww,Wx] at he
      obtain⟨e0,he0,rfl⟩:=he;rw[gh,W3];exact q4 k e0 he0
     ·rw[Ww,Wx] at he
      obtain⟨e0,he0,rfl⟩:=he;rw[gh,Ww,Wx] at hp;obtain⟨p0,hp0,rfl⟩:=hp
      exact h4 _ _ (q5 k e0 j2 p0 he0 hp0) (gC (hok e0 (WY he0)) j2 p0 hp0)
   |bx=>exact h2.obj j _ g1
   |eE=>exact h2.obj j _ g1
   |map=>exact h2.obj j _ g1
   |bq=>exact h2.obj j _ g1
   |dt=>exact h2.obj j _ g1
  ·obtain⟨o',g1,_,rfl⟩:=hg j o hj
   obtain⟨p',g2,_,rfl⟩:=hg k p hk;rw[AO.od] at ho hp;exact h2.inj j k o' p' g1 g2 ho hp
 have hf':Fits M' N ⟨s.f.ft i sz el,(i,none)::s.h.jn i sz el,s.nx⟩ nt a w:=⟨hR,fun d=>by
  rw[AF.jm];exact h4 _ _ (hfit.2.1 d) (AF.ll hf d),hfit.2.2⟩
 exact AW.then h hf' fun e a2 w2 M2 N2 s2 hx2 hf2 hr2=>⟨M2,N2,s2,hE.trans hx2,hf2,hr2⟩
end Go.Al
namespace Go.Proofs.YtflegjieadkonaaGreatDoor
open Go Go.Al
set_option maxRecDepth 10000
theorem ld: ∀(l:List Lit) (x:Lit),Lit.aC (l++ [x])=Lit.aC l+x.size
 | [],x=>by simp[Lit.aC]
 |y::r,x=>by simp only[XF,Lit.aC,ld r x];omega
theorem zV (p:Prog): ∀i,∀d∈lh p i,¬d.1=0
 |0,d,h=>by cases h
 |i+1,d,h=>by
  rw[lh] at h;rcases WD.1 h with h|h
  ·exact zV p i d h
  ·split at h
   ·cases h
   ·rename_i g
    rw[Wy] at h;subst h;exact g
theorem zQ (p:Prog): ∀i,∀d∈oH p i,¬d.1=0
 |0,d,h=>by cases h
 |i+1,d,h=>by
  rw[oH] at h;rcases WD.1 h with h|h
  ·exact zQ p i d h
  ·split at h
   ·cases h
   ·rename_i g
    rw[Wy] at h;subst h;exact g
theorem BU (p:Prog): ∀d∈gK p,¬d.1=0:=fun d h=>by
 rcases WD.1 h with h|h
 ·exact zV p _ d h
 ·exact zQ p _ d h
theorem jw (p:Prog):(bf p).1=0↔gK p=[]:=by
 unfold bf
 cases h:gK p with
 |nil=>exact⟨fun _=>rfl,fun _=>rfl⟩
 |cons d l=>exact⟨fun e=>absurd e (BU p d (by rw[h];exact WM)),fun e=>nomatch e⟩
theorem oG (p:Prog): ∀n,oH p n=[]↔ ∀i,i<n→(ra p i).1=0
 |0=>⟨fun _ i h=>absurd h (Yz i),fun _=>rfl⟩
 |n+1=>by
  rw[oH,Yy,oG p n];constructor
  ·rintro⟨h1,h2⟩ i hi
   rcases XW.1 hi with h|h
   ·exact h1 i h
   ·subst h
    by_cases g:(ra p i).1=0
    ·exact g
    ·rw[if_neg g] at h2;cases h2
  ·intro h
   exact⟨fun i hi=>h i (by omega),if_pos (h n (by omega))⟩
theorem um {p q:Prog} (h:q.ar=p.ar): ∀i,lh q i=lh p i
 |0=>rfl
 |i+1=>by
  have e:dy q i=dy p i:=by unfold dy ey;rw[h]
  rw[lh,lh,um h i,e,h]
theorem mG {p q:Prog} (h:q.ar=p.ar):ju q=ju p:=by
 funext s;unfold ju uk;rw[h]
theorem mP {p q:Prog} (h:q.ar=p.ar) (r:ak) (a:Atom) (lit w:Int): ∀i,dF q r a lit w i=dF p r a lit w i
 |0=>rfl
 |i+1=>by
  have e1:typeAt q=typeAt p:=by funext a i;unfold typeAt;rw[mG h]
  have e2:ig q=ig p:=by funext a i;unfold ig;rw[mG h,e1]
  rw[dF,dF,mP h r a lit w i];unfold iV;rw[e1,e2]
theorem uI {p q:Prog} (h:q.ar=p.ar) (r:ak) (lit w:Int) (t:TS) (l:Lit):ly q r lit w t l=ly p r lit w t l:=by
 unfold ly;simp only[mP h]
theorem xI {p q:Prog} (h:q.ar=p.ar) (r:ak) (i:Int) (t:TS) (ls:List Lit): ∀k,mq q r i t ls k=mq p r i t ls k
 |0=>rfl
 |k+1=>by rw[mq,mq,xI h r i t ls k,uI h]
theorem th {p q:Prog} (h:q.ar=p.ar) (r:ak): ∀k,cR q r k=cR p r k
 |0=>by rw[cR,cR,mP h]
 |k+1=>by rw[cR,cR,th h r k];unfold stepT;rw[xI h,uI h]
theorem wB {p q:Prog} (h:q.ar=p.ar) (r:ak):iU q r=iU p r:=by
 unfold iU;rw[th h]
theorem xy {p q:Prog} (h:q.ar=p.ar) (r:ak):n7 q r=n7 p r:=by
 unfold n7;rw[wB h];have e1:pt q=pt p:=by funext a;unfold pt uk;rw[h]
 have e2:rm q=rm p:=by funext a;unfold rm;rw[mG h]
 rw[e1,e2]
theorem yK {p q:Prog} (h:q.ar=p.ar) (r:ak) (n:Int):jO q r n=jO p r n:=by
 unfold jO;rw[xy h]
theorem w4 {p:Prog} {r:ak} {n:Int} (h:(jO p r n).1=0):n≤256:=by
 refine Int.not_lt.1 fun hn=>?_;unfold jO at h;split at h
 ·exact absurd h (by simp)
 ·split at h
  ·exact absurd h (by simp)
  ·rw[if_pos (.inl hn)] at h
   exact absurd h (by simp)
theorem Bk {p:Prog} {r:ak} {n m:Int} (hn:n≤256) (hm:m≤256):jO p r n=jO p r m:=by
 unfold jO;have e1:(n>256∨(r.body.length:Int)>12)=(m>256∨(r.body.length:Int)>12):=propext ⟨fun h=>h.elim (fun h=>by omega) .inr,fun h=>h.elim (fun h=>by omega) .inr⟩;simp only[e1]
theorem qs {p q:Prog} (hr:q.ar=p.ar) (hl:q.rules.length≤p.rules.length) (hm: ∀r∈q.rules,r∈p.rules) (h:gK p=[]):(bf q).1=0:=by
 obtain⟨h1,h2⟩:=Yy.1 h;have h3:=(oG p _).1 h2;refine(jw q).2 ?_;rw[gK,um hr,hr,h1,Yg];refine(oG q _).2 fun i hi=>?_;have hmem:q.rules.getD i default∈q.rules:=by rw[Ws,Wt hi];exact Xj hi
 obtain⟨j,hj,e⟩:=XH.1 (hm _ hmem);have h4:=h3 j hj;have h5:=h3 (p.rules.length-1) (by omega);have ej:p.rules.getD j default=q.rules.getD i default:=by rw[←e,Ws,Wt hj];rfl
 unfold ra at h4 h5 ⊢;have l4:=w4 h4;have l5:=w4 h5;rw[ej] at h4;rw[yK hr,Bk (p:=p) (m:=(j:Int)+1) (by omega) l4];exact h4
theorem bO {α:Type} [Inhabited α] {l:List α} {i:Nat} (hi:i<l.length):l.getD i default∈l:=by rw[Ws,Wt hi];exact Xj hi
theorem zG {a n:Int} (h0:0≤a) (h:0<n):0≤Int.tmod a n∧Int.tmod a n<n:=⟨Int.tmod_nonneg _ h0,Int.tmod_lt_of_pos a h⟩
structure kf (p:Prog):Prop where
 nodup:(p.ar.map Decl.name).Nodup
 len:p.ar.length≤64
 Am: ∀r∈p.rules,r.head.rel∈p.ar.map Decl.name
 lits: ∀r∈p.rules,∀l∈r.body,∀t∈named l,t∈p.ar.map Decl.name
 flat: ∀r∈p.rules,∀l∈r.body,l.kind=4→ ∀x∈l.ay,x.kind≠4
theorem xd (p:Prog): ∀n,lh p n=[]→ ∀i,i<n→dy p i=0
 |0,_,i,h=>absurd h (Yz _)
 |n+1,h,i,hi=>by
  rw[lh] at h;obtain⟨h1,h2⟩:=Yy.1 h;rcases XW.1 hi with h3|h3
  ·exact xd p n h1 i h3
  ·subst h3
   exact Decidable.byContradiction fun hc=>by rw[if_neg hc] at h2;cases h2
theorem qA {d:Decl} {i k:Int} (h:nY d i k=0): ¬i≥64∧ ¬k>0:=by
 unfold nY at h;split at h
 ·cases h
 ·split at h
  ·cases h
  ·rename_i h2
   split at h
   ·cases h
   ·rename_i h3;exact⟨fun g=>h2 (.inl g),h3⟩
theorem sx {α:Type} [Inhabited α]: ∀(n:Nat) (l:List α),l.length=n→(∀i,i<l.length→l.getD i default∉l.take i)→l.Nodup
 |0,l,hn,_=>by rw[XS.1 hn];exact Xk
 |n+1,l,hn,h=>by
  have hd:l=l.take n++ [l.getD n default]:=by rw[←aW (by omega),WB (by omega)]
  have h1:=sx n (l.take n) (by rw[Xb];omega) fun i hi=>by
   rw[Xb] at hi;have:=h i (by omega);rw[List.take_take,Nat.min_eq_left (by omega),Ws,W7,if_pos (by omega),←Ws];exact this
  rw[hd,XR];refine⟨h1,by simp,fun a ha b hb e=>?_⟩;rw[Wy] at hb;subst e;subst hb;exact h n (by omega) ha
theorem xb {s:aj}: ∀(l:List Decl) (m:DM),eO .str (l.foldl iB m) s=true→s∈m.map WT∨s∈l.map Decl.name
 | [],m,h=> .inl (xK.1 h)
 |d::l,m,h=>by
  rw[Xf] at h;rcases xb l _ h with h1|h1
  ·unfold iB at h1
   split at h1
   ·exact .inl h1
   ·rename_i h2
    rw[dh (fun g=>h2 (xK.2 g))] at h1;rcases WD.1 h1 with h3|h3
    ·exact .inl h3
    ·rw[Wy] at h3;subst h3;exact .inr WM
  ·exact .inr (WE _ h1)
theorem KN {p:Prog} {a:Atom} (h:pt p a=false):a.rel∈p.ar.map Decl.name:=by
 unfold pt at h;rw[XL] at h;rcases xb p.ar [] h with h1|h1
 ·cases h1
 ·exact h1
theorem lv {r:ak} {e:Int} (he:e≠0) {f:Int→Bool} {k:dI} (h:(mh r e f k).1=0):(∀lit∈gq r.body.length,f lit=false)∧k.1=0:=by
 unfold mh at h;split at h
 ·exact absurd h he
 ·rename_i h1
  refine⟨fun lit hl=>?_,h⟩;have:=XC.1 h1 lit hl;simpa using this
theorem yJ {p:Prog} {r:ak} {n:Int} (h:(jO p r n).1=0):(n7 p r).1=0:=by
 unfold jO at h;split at h
 ·cases h
 ·split at h
  ·cases h
  ·split at h
   ·cases h
   ·split at h
    ·cases h
    ·split at h
     ·cases h
     ·exact h
theorem J6 (n:Nat):(-1:Int)∈gq n:=W4.2 ⟨0,by simp,by simp⟩
theorem Aa {n i:Nat} (h:i<n):(i:Int)∈gq n:=W4.2 ⟨i+1,by simp;omega,by simp⟩
theorem BD {l:Lit} {t:aj} (hf:l.kind=4→ ∀x∈l.ay,x.kind≠4) (h:t∈named l): ∃a∈(if l.kind=4 then l.ay else[l]).flatMap cy,a.rel=t:=by
 rw[Dv l hf] at h;unfold Dw at h;split at h
 ·rename_i hk
  rw[Wy] at h;have h4: ¬l.kind=4:=by omega
  refine⟨l.atom,?_,h.symm⟩;rw[if_neg h4,X9];exact⟨l,Yf _,by rw[cy,if_pos hk];exact Yf _⟩
 ·split at h
  ·rename_i h4
   obtain⟨x,hx,rfl⟩:=W4.1 h;obtain⟨h5,h6⟩:=WW.1 hx;refine⟨x.atom,?_,rfl⟩;rw[if_pos h4,X9];exact⟨x,h5,by rw[cy,if_pos (of_decide_eq_true h6)];exact Yf _⟩
  ·cases h
theorem iF {p:Prog} (h:(bf p).1=0):kf p:=by
 have hF:=(jw p).1 h;unfold gK at hF;obtain⟨h1,h2⟩:=Yy.1 hF;have h1:=xd p _ h1;have h2:=(oG p _).1 h2
 have hlook: ∀r∈p.rules,(n7 p r).1=0:=by
  intro r hr;obtain⟨i,hi,rfl⟩:=XH.1 hr;have:=yJ (h2 i hi);rwa[Ws,Wt hi] at this
 have habs: ∀r∈p.rules,∀lit∈gq r.body.length,∀a∈ep r lit,a.rel∈p.ar.map Decl.name:=by
  intro r hr lit hl a ha;have:=(lv (by decide) (hlook r hr)).1 lit hl;exact KN (by simpa using Xg.1 this a ha)
 have hflat: ∀r∈p.rules,∀l∈r.body,l.kind=4→ ∀x∈l.ay,x.kind≠4:=by
  intro r hr l hl h4 x hx;obtain⟨i,hi,rfl⟩:=XH.1 hl;have:=(lv (by decide) (lv (by decide) (lv (by decide) (hlook r hr)).2).2).1 _ (Aa hi);have e:au r (i:Int)=r.body[i]:=by unfold au;simp[Ws,hi]
  unfold lf at this;rw[if_neg (by omega),e,if_pos h4,XY] at this;simpa using Xg.1 this.1 x hx
 refine⟨sx _ _ rfl fun i hi hm=>?_,?_,fun r hr=>?_,fun r hr l hl t ht=>?_,hflat⟩
 ·rw[W3] at hi
  have:=(qA (h1 i hi)).2;rw[bs] at this;have h3:oj (ey p i) (p.ar.getD i default).name=0:=by omega
  rw[qq] at h3;apply h3;unfold ey;rw[Ws,Ww,Wt hi,←List.map_take] at hm;rw[Ws,Wt hi];exact hm
 ·refine Xc fun hc=>?_
  have:=(qA (h1 64 hc)).1;omega
 ·exact habs r hr (-1) (J6 _) r.head (by unfold ep;simp)
 ·obtain⟨i,hi,rfl⟩:=XH.1 hl
  obtain⟨a,ha,rfl⟩:=BD (hflat r hr _ hl) ht;refine habs r hr _ (Aa hi) a ?_;have e:au r (i:Int)=r.body[i]:=by unfold au;simp[Ws,hi]
  unfold ep vO;rw[if_neg (by omega),e];exact ha
theorem kf.aF {p:Prog} (h:kf p) {x:aj×aj×Nat} (hx:x∈aF p):x.1∈p.ar.map Decl.name∧x.2.1∈p.ar.map Decl.name∧0<x.2.2:=by
 simp only[_root_.Go.Proofs.YtflegjieadkonaaGreatDoor.aF,X9,W4] at hx;obtain⟨r,hr,l,hl,t,ht,rfl⟩:=hx;refine⟨h.Am r hr,h.lits r hr l hl t ht,?_⟩;show 0<jJ l;unfold jJ;split<;>omega
abbrev GM:=List ((KC.str).K×Option NM)
def Bx:Option NM→IV
 |none=> .v (.map none)
 |some r=>ov r
abbrev nf (m:GM):IV:= .dK .str Bx none (.map none) m
def zx (row:NM) (t:aj) (how:Int):NM:=bS .str row t (max (bG .str row t 0) how)
def bZ (hs:List (aj×aj×Nat)) (a:aj):NM:=hs.foldl (fun row x=>if x.1=a then zx row x.2.1 x.2.2 else row) []
def bb (p:Prog) (hs:List (aj×aj×Nat)):GM:=p.ar.map fun r=>(r.name,some (bZ hs r.name))
def sS (p:Prog):IV:=if(bf p).1=0 then nf (bb p (aF p)) else .v (.map none)
theorem kv (hs:List (aj×aj×Nat)) (x:aj×aj×Nat) (a:aj):bZ (hs++ [x]) a=if x.1=a then zx (bZ hs a) x.2.1 x.2.2 else bZ hs a:=by
 simp[bZ,Ye]
theorem zT (hs:List (aj×aj×Nat)) (a b:aj):bG .str (bZ hs a) b 0=(gD hs a b:Int):=by
 induction hs using iW with
 |h0=>rfl
 |h1 hs x ih=>
  rw[kv,Kl];by_cases h:x.1=a
  ·rw[if_pos h,zx,fZ]
   by_cases h2:x.2.1=b
   ·rw[if_pos h2,if_pos ⟨h,h2⟩,h2,ih];omega
   ·rw[if_neg h2,if_neg (fun g=>h2 g.2),ih]
  ·rw[if_neg h,if_neg (fun g=>h g.1),ih]
theorem mW (hs:List (aj×aj×Nat)) (a:aj):((bZ hs a).map WT).Nodup∧ ∀b:aj,b∈(bZ hs a).map WT↔ ∃k,(a,b,k)∈hs:=by
 induction hs using iW with
 |h0=>exact⟨Xk,fun b=>by simp[bZ]⟩
 |h1 hs x ih=>
  obtain⟨ih1,ih2⟩:=ih;obtain⟨y,z,k⟩:=x;rw[kv];by_cases h:y=a
  ·rw[if_pos h,zx]
   by_cases h2:z∈(bZ hs a).map WT
   ·rw[oU h2]
    refine⟨ih1,fun b=>?_⟩;rw[ih2];constructor
    ·rintro⟨j,hj⟩;exact⟨j,W0 _ hj⟩
    ·rintro⟨j,hj⟩
     rcases WD.1 hj with hj|hj
     ·exact⟨j,hj⟩
     ·rw[Wy] at hj;cases hj;exact(ih2 z).1 h2
   ·rw[dh h2]
    refine⟨XR.2 ⟨ih1,by simp,fun u hu v hv e=>?_⟩,fun b=>?_⟩
    ·rw[Wy] at hv;subst e;subst hv;exact h2 hu
    ·rw[WD,ih2,Wy]
     constructor
     ·rintro(⟨j,hj⟩|rfl)
      ·exact⟨j,W0 _ hj⟩
      ·exact⟨k,XV _ (by rw[h];exact Yf _)⟩
     ·rintro⟨j,hj⟩
      rcases WD.1 hj with hj|hj
      ·exact .inl ⟨j,hj⟩
      ·rw[Wy] at hj;cases hj;exact .inr rfl
  ·rw[if_neg h]
   refine⟨ih1,fun b=>?_⟩;rw[ih2];constructor
   ·rintro⟨j,hj⟩;exact⟨j,W0 _ hj⟩
   ·rintro⟨j,hj⟩
    rcases WD.1 hj with hj|hj
    ·exact⟨j,hj⟩
    ·rw[Wy] at hj;cases hj;exact absurd rfl h
theorem C5 (hs:List (aj×aj×Nat)) (a:aj):(bZ hs a).length≤hs.length:=by
 induction hs using iW with
 |h0=>exact Wz _
 |h1 hs x ih=>
  rw[kv,Wn,Xp];split
  ·have:=sd (bZ hs a) x.2.1 (max (bG .str (bZ hs a) x.2.1 0) x.2.2)
   unfold zx;omega
  ·omega
def aT (p:Prog) (a:aj):List aj:=(ns p).filter (eg p a)
theorem jM {p:Prog} (h:kf p) (a:aj):c9 ((bZ (aF p) a).map WT)=aT p a:=by
 refine kZ (eY (mW _ _).1) (List.Pairwise.filter _ (eY h.nodup)) fun b=>?_;rw[c7,(mW _ _).2,aT,WW,ns,c7,eg,decide_eq_true_eq];constructor
 ·rintro⟨k,hk⟩
  have h1:=h.aF hk;refine⟨h1.2.1,?_⟩;have:=xT hk;have h2:0<k:=h1.2.2;omega
 ·rintro⟨_,h1⟩
  rcases uS (aF p) a b with h2|h2
  ·exact absurd h2 h1
  ·exact⟨_,h2⟩
theorem DR (p:Prog) (hs:List (aj×aj×Nat)) {a:aj} (h:a∈p.ar.map Decl.name):bG .str (bb p hs) a none=some (bZ hs a):=by
 unfold bb
 revert h
 generalize p.ar=l
 induction l with
 |nil=>intro h;cases h
 |cons d l ih=>
  intro h;simp only[WI,bG];by_cases e:d.name=a
  ·rw[if_pos e,e]
  ·rw[if_neg e]
   rw[WI,WG] at h;exact ih (h.resolve_left fun g=>e g.symm)
theorem za (p:Prog) (hs:List (aj×aj×Nat)):(bb p hs).map WT=p.ar.map Decl.name:=by
 simp[bb]
end Go.Proofs.YtflegjieadkonaaGreatDoor
namespace Go.Proofs.YtflegjieadkonaaGreatDoor
open Go Go.Al
set_option maxRecDepth 10000
theorem qH {b:List Lit} {i:Nat} (h:i<b.length):fF (b.take (i+1))=fF (b.take i)++named (b.getD i default):=by
 rw[mc,mc,aW h,Ys];simp
mutual
theorem kD: ∀l:Lit,(named l).length≤l.size
 | .mk k a op le ri af av ao b at_=>by
  have:=n5 b;unfold named Lit.size;split
  ·simp;omega
  ·split
   ·omega
   ·simp
theorem n5: ∀l:List Lit,(fF l).length≤Lit.aC l
 | []=>Wz _
 |l::r=>by
  have h1:=kD l;have h2:=n5 r;simp only[fF,Lit.aC,Wn];omega
end
theorem BC (b:List Lit) (i:Nat):(fF (b.take i)).length≤Lit.aC b:=by
 have h1:=n5 (b.take i)
 have h2: ∀(b:List Lit) (i:Nat),Lit.aC (b.take i)≤Lit.aC b:=by
  intro b
  induction b with
  |nil=>intro i;simp[Lit.aC]
  |cons x r ih=>
   intro i
   cases i with
   |zero=>simp[Lit.aC]
   |succ i=>have:=ih i;simp only[XE,Lit.aC];omega
 exact WV h1 (h2 b i)
def SA (n:Nat):Prop:= ∀l:Lit,l.size≤n→Pure Tryz.prog 90 [ag l.c] (.iv (strs (named l)))
theorem oP (l:Lit):named l=if l.kind=1∨l.kind=2 then[l.atom.rel] else if l.kind=4 then fF l.ay else[]:=by cases l;rfl
theorem CY: ∀n:Nat,n≤100000000000→SA n
 |0,_=>fun l h=>absurd l.size_pos (by omega)
 |n+1,hn=>fun l h=>by
  have hsz:=l.size_eq;refine Al.Pure.le (aa:=[ag l.c]) (args:=[ag l.c1]) ?_ ⟨l.Ac,trivial⟩;refine ax ae Tryz.func90 rfl (by decide) Tryz.ntmps90 rfl (by simp) rfl ?_;refine gA rfl ?_;refine Wl (fun k1=>?_) (fun k1=>?_)
  ·have k1:l.kind=1:=by simpa using k1
   rw[oP,if_pos (.inl k1)];refine gA rfl (gj (by first|exact .inr rfl|exact .inl rfl) rfl rfl (rfl) (rfl))
  have k1: ¬l.kind=1:=by simpa using k1
  refine gA rfl ?_;refine Wl (fun k2=>?_) (fun k2=>?_)
  ·have k2:l.kind=2:=by simpa using k2
   rw[oP,if_pos (.inr k2)];refine gA rfl (gj (by first|exact .inr rfl|exact .inl rfl) rfl rfl (rfl) (rfl))
  have k2: ¬l.kind=2:=by simpa using k2
  rw[oP,if_neg (by rintro(g|g);exact k1 g;exact k2 g)];refine gA rfl ?_;refine Wl (fun k3=>?_) (fun k3=>?_);rotate_left
  ·have k3: ¬l.kind=4:=by simpa using k3
   rw[if_neg k3];refine gA rfl (aw (by first|exact .inr rfl|exact .inl rfl) rfl ?_);exact .nil _ _
  have k3:l.kind=4:=by simpa using k3
  rw[if_pos k3];refine gA rfl ?_;refine jW 3 1 rfl ?_
  refine aK 0 l.ay.length (WC _) (fun i=>⟨[(3, .sl 2 0 (fF (l.ay.take i)).length 1),(19, .iv (lits l.ay)),(20,pI l.ay.length),(21,pI i)],[(2,some (aD 1 (fF (l.ay.take i)) cx))],3⟩) (fun _=>True) [1] trivial
   (wk rfl rfl rfl ⟨.refl _,rfl, .refl _,rfl, .refl _,rfl, .refl _,rfl,trivial⟩ (hR rfl rfl rfl trivial) rfl) fun i hi _=>?_
  have hle:=BC l.ay i;have hal:=Lit.aL l.ay;refine gA rfl ?_;refine Wl (fun h1=>?_) (fun h1=>?_)
  ·have h1:i<l.ay.length:=by simpa using h1
   have hn1:=Lit.bN l.ay i h1;have hn2:=kD (l.ay.getD i default);refine gA rfl (an (CY n (by omega) (l.ay.getD i default) (by omega)) rfl rfl rfl rfl rfl rfl ?_);refine gA rfl ?_;exact⟨h1,trivial,[4],wk rfl rfl rfl ⟨.row (by rw[qH h1,Wn]),rfl, .refl _,rfl, .refl _,rfl, .refl _,rfl,trivial⟩ (hR rfl (by rw[mU,qH h1,Wq]) rfl trivial) rfl⟩
  ·have h1:l.ay.length≤i:=by simpa using h1
   rw[WB h1];refine gA rfl (gj (by first|exact .inr rfl|exact .inl rfl) rfl rfl (rfl) (rfl))
theorem zO (l:Lit) (h:l.size≤100000000000):Pure Tryz.prog 90 [ag l.c] (.iv (strs (named l))):=CY l.size h l (Wz _)
end Go.Proofs.YtflegjieadkonaaGreatDoor
namespace Go.Al
section
variable {P:Program} {ty:Ty} {nt:Nat} {s:AS}
theorem oc {M:Mem} {N:Nm} {a:Act} {w:World} (hf:Fits M N s nt a w) {x:Operand} {k:IntKind} {n:Int} (h:ev s.f x= .iv (.v (.int k n))):a.eval x= .int k n:=by
 have hi:=aS hf.2.1 x;rw[h] at hi;generalize a.eval x=v at hi
 cases hi with
 |iv _ _ hi=>cases hi with
  |v=>rfl
theorem UN (hty:bE P ty) {o:Oper} {t u:TypeId} {l c:Operand} (ho:o.op= .makeSlice t l c) {e eu:aB} (ht:ty t=some e) (hk:e.k= .ai (.slice u)) (hu:ty u=some eu)
  {n m sz:Nat} {kl kc:IntKind} {ml nc:Int} (hl:ev s.f l= .iv (.v (.int kl ml))) (hc:ev s.f c= .iv (.v (.int kc nc))) (hml:ml=(m:Int)) (hnc:nc=(n:Int)) (hn:0<n) (hn2:n≤100000000000) (hb:eu.bytes*n≤281474976710656) (hsz:eu.size=sz) (hz1:eu.zero.cells.size=sz) (hs0:0<sz)
  {z:List PV} (hz:z=bW eu.zero) {p:PV} (hpm:(m=0∧p= .sl s.nx 1 0 sz)∨(m=n∧p= .sl s.nx 0 n sz))
  {s':AS} (hp:putDst nt o p (newObj s (.row sz (YE n z)))=some s'):OT P nt o s (fun t=>t=s'):=by
 refine OT.value hp fun M N a w hf=>?_;subst hz hsz hml hnc;obtain⟨⟨ii,hii,his,hib,hiz⟩,_⟩:=hty u _ hu
 have hut:P.underlying t=some (.slice u):=by
  have:=(hty t _ ht).2.1;rw[hk] at this;exact this.1
 have hmn:m≤n:=by rcases hpm with⟨h,_⟩|⟨h,_⟩<;>omega
 have hrun:=run_make w t u ii eu.zero hut hii hiz kl kc (m:Int) (n:Int) (by omega) (by omega) (by rw[hib];omega) (by omega);rw[Wp,Wp,his] at hrun;have hzl:(bW eu.zero).length=eu.size:=by rw[(ec (M:=M) (N:=N) (U:=(· <s.nx)) eu.zero).1,hz1]
 have hrep: ∀(k:Nat) (e:List PV),(YE n (bW eu.zero))[k]? =some e→k<n∧e=bW eu.zero:=by
  intro k e he;rw[Zh] at he;split at he
  ·exact⟨by assumption,by simpa using he.symm⟩
  ·cases he
 obtain⟨N',h1,h2,h8,h9,h10⟩:=hf.1.alloc (.cells (madeCells eu.zero.cells (n*eu.size)) u) (.row eu.size (YE n (bW eu.zero))) (n*eu.size) (fun N' g1 g2 g3=>
  .inr ⟨hs0,_,u,by rw[g1];exact heap_alloc_new w _,by rw[size_madeCells,g2],by rw[size_madeCells,List.length_replicate];exact Wz _,fun k e he=>by rw[(hrep k e he).2,hzl],fun k e j p he hj=>by
   obtain⟨hkn,rfl⟩:=hrep k e he;have hjs:j<eu.size:=by rw[←hzl];exact(Wr.1 hj).1
   have hlt:k*eu.size+j<n*eu.size:=by
    have:(k+1)*eu.size≤n*eu.size:=WR _ hkn;rw[Xw] at this;omega
   have h7:(madeCells eu.zero.cells (n*eu.size)).getD (k*eu.size+j) undef=eu.zero.cells.getD j undef:=by
    have hx:(Zs (n*eu.size))[k*eu.size+j]? =some (k*eu.size+j):=by simp[hlt]
    have hm:(k*eu.size+j) % eu.zero.cells.size=j:=by rw[hz1,Nat.add_comm,Nat.add_mul_mod_self_right,Yj hjs]
    rw[madeCells,Wm,Yw,hx];simp only[Xy,XM,hm];rw[Wm,getElem!_pos eu.zero.cells j (by omega),Xa (by omega)];rfl
   rw[h7];exact(ec eu.zero).2 j p hj⟩)
 refine⟨.slice (some ⟨w.heap.size,0,none⟩) m n,_,M,N',?_,h9,di hf h9 h10,?_⟩
 ·simp only[execOp,ho,oc hf hl,oc hf hc]
  rw[Sem.run_bind,hrun];rfl
 ·have hnx:(newObj s (.row eu.size (YE n (bW eu.zero)))).nx=s.nx+1:=by cases s;rfl
  rw[hnx];have hmax:n≤maxLen:=by simp only[maxLen];omega
  rcases hpm with⟨rfl,rfl⟩|⟨rfl,rfl⟩
  ·have:=VR.sle (M:=M) (N:=N') (U:=(· <s.nx+1)) s.nx eu.size n (by omega) hmax (by rw[h2])
   rw[h1] at this;exact this
  ·have:=VR.sl (M:=M) (N:=N') (U:=(· <s.nx+1)) s.nx 0 m eu.size m (by omega) hn (Wz _) hmax (by rw[h2,WQ])
   rw[h1,X0] at this;exact this
theorem R2 (hty:bE P ty) {o:Oper} {t u:TypeId} {l c:Operand} (ho:o.op= .makeSlice t l c) {e eu:aB} (ht:ty t=some e) (hk:e.k= .ai (.slice u)) (hu:ty u=some eu)
  {sz:Nat} (el:Nat→List IV) {kl kc:IntKind} {ml nc:Int} (hl:ev s.f l= .iv (.v (.int kl ml))) (hc:ev s.f c= .iv (.v (.int kc nc))) (hml:ml=0) (hnc:nc=0)
  {s':AS} (hp:putDst nt o (.iv (.cz sz 0 el)) (newObj s (.row sz []))=some s'):OT P nt o s (fun t=>t=s'):=by
 refine OT.value hp fun M N a w hf=>?_;subst hml hnc;obtain⟨⟨ii,hii,his,hib,hiz⟩,_⟩:=hty u _ hu
 have hut:P.underlying t=some (.slice u):=by
  have:=(hty t _ ht).2.1;rw[hk] at this;exact this.1
 have hrun:=run_make w t u ii eu.zero hut hii hiz kl kc 0 0 (by omega) (by omega) (by omega) (by omega);obtain⟨N',h1,h2,h8,h9,h10⟩:=hf.1.alloc (.cells (madeCells eu.zero.cells ((0:Int).toNat*ii.size)) u) (.row sz []) 0 (fun N' g1 g2 g3=> .inl rfl);refine⟨.slice (some ⟨w.heap.size,0,none⟩) 0 0,_,M,N',?_,h9,di hf h9 h10, .iv _ _ (.gp _ _ _ _)⟩;simp only[execOp,ho,oc hf hl,oc hf hc];rw[Sem.run_bind,hrun];rfl
theorem Sn (hty:bE P ty) {o:Oper} {t u:TypeId} {x hi:Operand} (ho:o.op= .slice t x none (some hi) none) {e eu:aB} (ht:ty t=some e) (hk:e.k= .ai (.slice u)) (hu:ty u=some eu)
  {i n m sz:Nat} {kc:IntKind} {mi:Int} (hx:ev s.f x= .sl i 0 n sz) (hh:ev s.f hi= .iv (.v (.int kc mi))) (hmi:mi=(m:Int)) (hmn:m≤n) (hn:0<n)
  {p:PV} (hpm:(m=0∧p= .sl i 1 0 sz)∨(0<m∧p= .sl i 0 m sz)) {s':AS} (hp:putDst nt o p s=some s'):OT P nt o s (fun t=>t=s'):=by
 refine OT.value hp fun M N a w hf=>?_;subst hmi
 have hut:P.underlying t=some (.slice u):=by
  have:=(hty t _ ht).2.1;rw[hk] at this;exact this.1
 have hel:P.elem t=u:=by simp[Program.elem,hut]
 have hvx:=aS hf.2.1 x;rw[hx] at hvx;generalize hv:a.eval x=vx at hvx
 cases hvx with
 |lQ=>omega
 |sl _ _ _ _ cap hU h0 hl hc hext=>
  have hrun:=run_slice_h (P:=P) (w:=w) t (some ⟨N.aG i,0*sz,none⟩) n cap (by rw[hel];exact hut) kc (m:Int) (by omega) (by omega);rw[hel,bw (hty u _ hu)] at hrun;refine⟨sliced (some ⟨N.aG i,0*sz,none⟩) 0 m cap eu.size,w,M,N,?_, .refl _ _ _ _ _,hf,?_⟩
  ·simp only[execOp,ho,hv,Xy,YN,oc hf hh]
   refine bc ?_;rw[run_sliceAt_slice w t _ _ _ _ (by rw[hel];exact hut),hrun];rfl
  ·rcases hpm with⟨rfl,rfl⟩|⟨hm,rfl⟩
   ·have:=VR.sle (M:=M) (N:=N) (U:=(· <s.nx)) i sz cap hU hc (by rw[←hext,WQ])
    simpa[sliced,Addr.add] using this
   ·have:=VR.sl (M:=M) (N:=N) (U:=(· <s.nx)) i 0 m sz cap hU hm (by omega) hc hext
    simpa[sliced,Addr.add] using this
theorem AT (hty:bE P ty) {o:Oper} {x y:Operand} {t u:TypeId} (ho:o.op= .call ⟨.builtin .append, #[x,y], #[t,t]⟩) {e eu:aB} (ht:ty t=some e) (hk:e.k= .ai (.slice u)) (hu:ty u=some eu)
  {i sz:Nat} {es news:List (List PV)} {py:PV} (hx:ev s.f x= .sl i 1 0 sz) (hi:s.h.get i=some (.row sz es)) (hsz:eu.size=sz) (hroom:news.length≤es.length) (hm:0<news.length)
  (hpy:ev s.f y=py) (hy:Src s.h sz py news) (hone: ∀e∈news,fv e=true)
  {s':AS} (hp:putDst nt o (.sl s.nx 0 news.length sz) (ot s i sz [] news)=some s'):OT P nt o s (fun t=>t=s'):=by
 refine OT.value hp fun M N a w hf=>?_;subst hsz;obtain⟨⟨ii,hii,his,hib,hiz⟩,_⟩:=hty u _ hu
 have hut:P.underlying t=some (.slice u):=by
  have:=(hty t _ ht).2.1;rw[hk] at this;exact this.1
 have hvx:=aS hf.2.1 x;rw[hx] at hvx;have hvy:=aS hf.2.1 y;rw[hpy] at hvy;obtain⟨hnl,ao,c,hyv,hycells⟩:=hy.ok hf hvy
 have hexec: ∀v w',(Builtin.append_ #[t,t] o.type #[a.eval x,a.eval y]).run P w= .ok v w'→(execOp a.eval o).run P w= .ok (.value v) w':=by
  intro v w' h;simp only[execOp,ho,resolve];simp[invoke,builtin,h]
 rw[hyv] at hexec
 have hreal:(AO.row eu.size es).real=true:=by cases es with
  |nil=>exact absurd hroom (by simp only[X4];omega)
  |cons=>rfl
 rcases hf.1.obj i _ hi with rfl|⟨hsz0,cur,T,q1,q2,q3,q4,q5⟩
 ·cases hreal
 generalize a.eval x=vx at hvx hexec
 cases hvx with
 |sl _ _ _ _ _ _ h0=>exact absurd h0 (Nat.lt_irrefl _)
 |sle _ _ cap hU hc hext=>
  have hcur:cur.size=cap*eu.size:=by rw[q2,←hext]
  have hroom2:news.length≤cap:=by
   have:es.length*eu.size≤cap*eu.size:=by rw[←hcur];exact q3
   have:=Nat.le_of_mul_le_mul_right this hsz0;omega
  obtain⟨b2,off,hao,hcells⟩:=hycells (List.ne_nil_of_length_pos hm);subst hao;obtain⟨vs,hvl,hvc,hvr⟩:=rn (s:=s) hcells;have hvl2:vs.length=news.length*eu.size:=by rw[hvl,kL hnl]
  have hfit:vs.length≤cur.size:=by rw[hvl2,hcur];exact WR _ hroom2
  have hvone: ∀v∈vs,v.oneCell'=true:=by
   intro v hv;obtain⟨j,hj⟩:=W6 hv;have hjl:j<news.flatten.length:=by rw[←hvl];exact(Wr.1 hj).1
   have hp:=Wt hjl;obtain⟨k,e,i',h1,h2,_⟩:=kM hnl j _ hp;have:=(hvr j _ hp).one (iP (hone e (WY h1)) i' _ h2);rw[Ws,hj] at this;exact this
  have hrun:=gy (P:=P) (w:=w) t o.type u ii hut hii T (N.aG i) 0 cap cur q1 ⟨b2,off,none⟩ news.length c vs (by rw[hvl2,his]) hvc hvone (by omega) (by rw[his];omega);rw[his] at hrun;generalize hL:(cur.toList.take (0*eu.size)++vs++cur.toList.drop (0*eu.size+vs.length)).toArray=L at hrun;rw[WQ] at hrun;have hLs:L.size=cur.size:=by rw[←hL];simp;omega
  have hrow:=setRow_heap w (N.aG i) cur L T (0,0) q1
  have hLn: ∀j,j<vs.length→L.getD j undef=vs.getD j undef:=by
   intro j hj;rw[←hL,Wm,Ws];simp only[Xv];rw[WH (by simp;omega),WJ (by simp)];simp
  obtain⟨h1,h2⟩:=hf.1.move hi hreal (w.setRow (N.aG i) L) (.row eu.size ([]++news)) rfl rfl rfl (by simp) (fun b hb=>by
    simp only[World.setRow,W8]
    rw[if_neg (fun e=>hb e.symm)]) (by
   refine .inr ⟨hsz0,L,T,by simpa using hrow,by rw[hLs];simpa using q2,by rw[hLs,hcur];exact WR _ hroom2,fun k e he=>hnl _ e he,fun k e j p he hj=>?_⟩;have hj':j<eu.size:=by rw[←hnl _ e he];exact(Wr.1 hj).1
   have hk2:k<news.length:=(Wr.1 he).1
   have hlt:k*eu.size+j<vs.length:=by
    rw[hvl2];have:(k+1)*eu.size≤news.length*eu.size:=WR _ hk2;rw[Xw] at this;omega
   rw[hLn _ hlt]
   exact(hvr _ p (my hnl _ e j p he hj)).mono (.refl _) (N.cW _ _ _) (fun i hi=>by omega))
  obtain⟨g1,g2⟩:=jC (es:=[]) (news:=news) (i:=i) hf h1 h2;refine⟨_,_,M,_,hexec _ _ hrun,g1,g2,?_⟩;have:=VR.sl (M:=M) (N:=N.with s.nx (N.aG i) (N.ext i)) (U:=(· <s.nx+1)) s.nx 0 news.length eu.size cap (by omega) hm hroom2 hc (by simpa using hext);rw[gQ];simpa using this
section
variable {Q:AQ} {k:List KI} {all rest:List Oper} {o:Oper} {s':AS}
theorem Px (hty:bE P ty) {t u:TypeId} {l c:Operand} (n m:Nat) (hg:o.guard=none) (ho:o.op= .makeSlice t l c) {e eu:aB} (ht:ty t=some e) (hk:e.k= .ai (.slice u)) (hu:ty u=some eu)
  {kl kc:IntKind} {ml nc:Int} (hl:ev s.f l= .iv (.v (.int kl ml))) (hc:ev s.f c= .iv (.v (.int kc nc))) (hml:ml=(m:Int)) (hnc:nc=(n:Int)) (hn:0<n) (hn2:n≤100000000000) (hb:eu.bytes*n≤281474976710656) (hz1:eu.zero.cells.size=eu.size) (hs0:0<eu.size)
  {z:List PV} (hz:z=bW eu.zero) {p:PV} (hpm:(m=0∧p= .sl s.nx 1 0 eu.size)∨(m=n∧p= .sl s.nx 0 n eu.size))
  (hp:putDst nt o p (newObj s (.row eu.size (YE n z)))=some s') (h:GO P nt (.ops all rest::k) Q s'):GO P nt (.ops all (o::rest)::k) Q s:=
 dE hg (UN hty ho ht hk hu hl hc hml hnc hn hn2 hb rfl hz1 hs0 hz hpm hp) fun t ht=>by subst ht;exact h
theorem zd (hty:bE P ty) {t u:TypeId} {l c:Operand} (sz:Nat) (el:Nat→List IV) (hg:o.guard=none) (ho:o.op= .makeSlice t l c) {e eu:aB} (ht:ty t=some e) (hk:e.k= .ai (.slice u)) (hu:ty u=some eu)
  {kl kc:IntKind} {ml nc:Int} (hl:ev s.f l= .iv (.v (.int kl ml))) (hc:ev s.f c= .iv (.v (.int kc nc))) (hml:ml=0) (hnc:nc=0)
  (hp:putDst nt o (.iv (.cz sz 0 el)) (newObj s (.row sz []))=some s') (h:GO P nt (.ops all rest::k) Q s'):GO P nt (.ops all (o::rest)::k) Q s:=
 dE hg (R2 hty ho ht hk hu el hl hc hml hnc hp) fun t ht=>by subst ht;exact h
theorem Aq (hty:bE P ty) {t u:TypeId} {x hi:Operand} {i n sz:Nat} (m:Nat) (hg:o.guard=none) (ho:o.op= .slice t x none (some hi) none) {e eu:aB} (ht:ty t=some e) (hk:e.k= .ai (.slice u)) (hu:ty u=some eu)
  {kc:IntKind} {mi:Int} (hx:ev s.f x= .sl i 0 n sz) (hh:ev s.f hi= .iv (.v (.int kc mi))) (hmi:mi=(m:Int)) (hmn:m≤n) (hn:0<n)
  {p:PV} (hpm:(m=0∧p= .sl i 1 0 sz)∨(0<m∧p= .sl i 0 m sz)) (hp:putDst nt o p s=some s') (h:GO P nt (.ops all rest::k) Q s'):GO P nt (.ops all (o::rest)::k) Q s:=
 dE hg (Sn hty ho ht hk hu hx hh hmi hmn hn hpm hp) fun t ht=>by subst ht;exact h
theorem vV (hty:bE P ty) {x y:Operand} {t u:TypeId} (hg:o.guard=none) (ho:o.op= .call ⟨.builtin .append, #[x,y], #[t,t]⟩) {e eu:aB} (ht:ty t=some e) (hk:e.k= .ai (.slice u)) (hu:ty u=some eu)
  {i:Nat} {es news:List (List PV)} {py:PV} (hx:ev s.f x= .sl i 1 0 eu.size) (hi:s.h.get i=some (.row eu.size es))
  (hpy:ev s.f y=py) (hy:RG s.h eu.size py=some news) (hroom:news.length≤es.length) (hm:0<news.length) (hone: ∀e∈news,fv e=true)
  (hp:putDst nt o (.sl s.nx 0 news.length eu.size) (ot s i eu.size [] news)=some s') (h:GO P nt (.ops all rest::k) Q s'):GO P nt (.ops all (o::rest)::k) Q s:=
 dE hg (AT hty ho ht hk hu hx hi rfl hroom hm hpy (Jo hy) hone hp) fun t ht=>by subst ht;exact h
end
theorem uC {M:Mem} {N:Nm} {a:Act} {w:World} (hf:Fits M N s nt a w) {x:Operand} (h:ev s.f x= .iv (.v (.map none))):a.eval x= .map none:=by
 have hi:=aS hf.2.1 x;rw[h] at hi;generalize a.eval x=v at hi
 cases hi with
 |iv _ _ hi=>cases hi with
  |v=>rfl
theorem BI (hty:bE P ty) {o:Oper} {t kt et:TypeId} {x:Operand} (ho:o.op= .call ⟨.builtin .len, #[x], #[t]⟩) {e:aB} (ht:ty t=some e) (hk:e.k= .ai (.map kt et)) (hx:ev s.f x= .iv (.v (.map none)))
  {s':AS} (hp:putDst nt o (pI 0) s=some s'):OT P nt o s (fun t=>t=s'):=by
 refine OT.value hp fun M N a w hf=>?_
 have hu:P.underlying t=some (.map kt et):=by
  have:=(hty t _ ht).2.1;rw[hk] at this;exact this.1
 refine⟨.int .i64 0,w,M,N,?_, .refl _ _ _ _ _,hf, .iv _ _ (.v _)⟩;simp only[execOp,ho,resolve];simp[invoke,builtin,uC hf hx,Builtin.len_,run_underlying hu,goInt]
theorem Bn (hty:bE P ty) {o:Oper} {t kt et:TypeId} {x:Operand} (ho:o.op= .range t x) {e:aB} (ht:ty t=some e) (hk:e.k= .ai (.map kt et)) (hx:ev s.f x= .iv (.v (.map none)))
  {s':AS} (hp:putDst nt o (.ptr s.nx 0) (newObj s (.bq .str iI [] [] none))=some s'):OT P nt o s (fun t=>t=s'):=by
 refine OT.value hp fun M N a w hf=>?_
 have hu:P.underlying t=some (.map kt et):=by
  have:=(hty t _ ht).2.1;rw[hk] at this;exact this.1
 obtain⟨N',h1,h2,h3,h4,h5⟩:=hf.1.alloc (.mapIter none 0 #[] 0) (.bq .str iI [] [] none) 0 (fun N' g1 g2 g3=> .inl ⟨rfl,rfl,rfl,by rw[g1];exact heap_alloc_new w _⟩);have hnx:(newObj s (.bq .str iI [] [] none)).nx=s.nx+1:=by cases s;rfl
 refine⟨.pointer (some ⟨w.heap.size,0,none⟩),_,M,N',?_,h4,di hf h4 h5,?_⟩
 ·simp only[execOp,ho,uC hf hx]
  simp[Instr.range,run_underlying hu]
 ·have:=VR.ptr (M:=M) (N:=N') (U:=(· <s.nx+1)) s.nx 0 (by omega)
  rw[h1] at this;rw[hnx];exact this
section
variable {Q:AQ} {k:List KI} {all rest:List Oper} {o:Oper} {s':AS}
theorem BR (hty:bE P ty) {t kt et:TypeId} {x:Operand} (hg:o.guard=none) (ho:o.op= .call ⟨.builtin .len, #[x], #[t]⟩) {e:aB} (ht:ty t=some e) (hk:e.k= .ai (.map kt et)) (hx:ev s.f x= .iv (.v (.map none)))
  (hp:putDst nt o (pI 0) s=some s') (h:GO P nt (.ops all rest::k) Q s'):GO P nt (.ops all (o::rest)::k) Q s:=
 dE hg (BI hty ho ht hk hx hp) fun t ht=>by subst ht;exact h
theorem BQ (hty:bE P ty) {t kt et:TypeId} {x:Operand} (hg:o.guard=none) (ho:o.op= .range t x) {e:aB} (ht:ty t=some e) (hk:e.k= .ai (.map kt et)) (hx:ev s.f x= .iv (.v (.map none)))
  (hp:putDst nt o (.ptr s.nx 0) (newObj s (.bq .str iI [] [] none))=some s') (h:GO P nt (.ops all rest::k) Q s'):GO P nt (.ops all (o::rest)::k) Q s:=
 dE hg (Bn hty ho ht hk hx hp) fun t ht=>by subst ht;exact h
end
end
theorem eU.take {sz n:Nat} {es:List (List PV)}:eU (.row sz es) (.row sz (es.take n)):=by
 refine⟨fun h=>?_,fun M N U w i h=>?_⟩
 ·cases es with
  |nil=>rw[List.take_nil] at h;exact h
  |cons=>rfl
 ·rcases h with h|⟨h0,c,T,h1,h2,h3,h4,h5⟩
  ·exact .inl (by rw[h,List.take_nil])
  ·refine .inr ⟨h0,c,T,h1,h2,WV (WR _ (by rw[Xb];omega)) h3,fun k e he=>?_,fun k e j p he hp=>?_⟩
   ·rw[W7] at he
    split at he
    ·exact h4 k e he
    ·cases he
   ·rw[W7] at he
    split at he
    ·exact h5 k e j p he hp
    ·cases he
theorem o8 {P:Program} {nt:Nat} {Q:AQ} {k:List KI} {s:AS} {body:Code} {σ:Type} (i0 n:Nat) (hi0:i0≤n) (I:Nat→σ→AS) (J:Nat→σ→Prop) (x0:σ) (L0:List Nat) (j0:J i0 x0) (h0:Wk s.nx L0 s (I i0 x0))
  (round: ∀i x,i≤n→J i x→GO P nt (.code body:: .lp (fun t=>i<n∧ ∃x' L,J (i+1) x'∧Wk s.nx L t (I (i+1) x'))::k) Q (I i x)):GO P nt (.code (.loop body)::k) Q s:=by
 refine mu (σ:={p:Nat×σ//p.1≤n∧J p.1 p.2}) (fun p=>I p.1.1 p.1.2) (fun p=>n-p.1.1) ⟨(i0,x0),hi0,j0⟩ L0 h0 fun p=>?_;obtain⟨⟨i,x⟩,h1,h2⟩:=p;refine ob ?_ (round i x h1 h2)
 rintro t ⟨h3,x',L,h4,h5⟩
 exact⟨⟨(i+1,x'),h3,h4⟩,L,by show n-(i+1)<n-i;omega,h5⟩
theorem UX {P:Program} {nt:Nat} {Q:AQ} {k:List KI} {s:AS} {all rest:List Oper} (d:Nat) {p:PV} (hle:ah (s.f.get d) p) (h:GO P nt (.ops all rest::k) Q ⟨(d,p)::s.f,s.h,s.nx⟩):GO P nt (.ops all rest::k) Q s:=by
 intro M N a w hf;refine h M N a w ⟨hf.1,fun e=>?_,hf.2.2⟩;rw[AF.aA];split
 ·rename_i he;subst he;exact hle M N _ _ (hf.2.1 e)
 ·exact hf.2.1 e
theorem o7 {P:Program} {ty:Ty} {nt:Nat} {Q:AQ} {k:List KI} {s:AS} (hty:bE P ty) {all rest:List Oper} {o:Oper} {t:TypeId} {x i:Operand} (p:PV) (ho:o.op= .lookup t x i false) (hg:o.guard=none)
  {kc:KC} {V:Type} {e:V→IV} {z:V} {zv:Value} {m:List (kc.K×V)} (hx:ev s.f x= .iv (.dK kc e z zv m)) {q:PV} (hl:sH ty t false kc e z zv m (ev s.f i)=some (q,True)) (hq:q=p)
  {s':AS} (hp:putDst nt o p s=some s') (h:GO P nt (.ops all rest::k) Q s'):GO P nt (.ops all (o::rest)::k) Q s:=by
 have hrop:il ty s o.op=some (p,True):=by
  rw[ho,←hq];simp only[il,hx];exact hl
 exact dE hg (pL hty hrop trivial hp) fun u hu=>by subst hu;exact h
end Go.Al
namespace Go.Proofs.YtflegjieadkonaaGreatDoor
open Go Go.Al
set_option maxRecDepth 10000
theorem CM (hS:dH) (el:Nat→List IV):Pure Tryz.prog 91 [.iv (.cz 1 0 el)] (.bP []):=by
 refine⟨bM Tryz.func91 rfl (by decide),fun M N w vs hr hlen hv=>?_⟩
 obtain⟨v,rfl⟩: ∃v,vs=[v]:=by
  cases vs with
  |nil=>cases hlen
  |cons v r=>cases r with
   |nil=>exact⟨v,rfl⟩
   |cons a b=>simp at hlen
 have hv0:=hv 0 _ rfl;simp only[List.getD_cons_zero] at hv0
 obtain⟨a,cap,rfl⟩: ∃a cap,v= .slice a 0 cap:=by
  cases hv0 with
  |iv _ _ h=>cases h with
   |gp _ _ a cap=>exact⟨a,cap,rfl⟩
   |cz _ _ _ b off cap=>exact⟨_,cap,rfl⟩
 refine(hS.2 a cap w).mono ?_
 rintro e w' ⟨rfl,rfl⟩
 exact⟨_,M,N, .bP [],_,_,rfl,⟨rfl,rfl,rfl⟩, .refl _ _ _ _ _,hr, .bP [] #[] rfl (by simp)⟩
section
variable {V:Type}
def Ah (m:List ((KC.str).K×V)) (vs:List Nat):List aj:=fG (m.map fun x=>(x.1,0)) vs
theorem xG (m:List ((KC.str).K×V)) (vs:List Nat) (j:Nat) (x:(KC.str).K×V) (h:m[j]? =some x):Ah m (j::vs)=Ah m vs++ [x.1]:=
 jV _ _ _ (x.1,0) (by rw[Ww,h];rfl)
theorem Ag (m:List ((KC.str).K×V)) (vs:List Nat) (hn:vs.Nodup) (hb: ∀j∈vs,j<m.length) (hall: ∀j,j<m.length→j∈vs):(Ah m vs).Perm (m.map (·.1)):=by
 have:=jh (m.map fun x=>(x.1,(0:Int))) vs hn (by simpa using hb) (by simpa using hall);rw[List.map_map] at this;exact this
theorem Af (m:List ((KC.str).K×V)) (vs:List Nat):(Ah m vs).length≤vs.length:=sK _ _
end
def Bw (i:Nat):List aj→PV
 | []=> .sl i 1 0 1
 |x::r=> .sl i 0 (x::r).length 1
def tJ (n:Nat):List aj→AO
 | []=> .row 1 (YE n [pS Wu])
 |x::r=>aD 1 (x::r) cx
theorem ux (i:Nat) (l:List aj) (s:aj):Bw i (l++ [s])= .sl i 0 (l.length+1) 1:=by cases l<;>simp[Bw]
theorem uy (n:Nat) (l:List aj) (s:aj):tJ n (l++ [s])=aD 1 (l++ [s]) cx:=by cases l<;>rfl
theorem xq {i:Nat} {l:List aj} (h:l≠ []):Bw i l= .sl i 0 l.length 1:=by cases l with
 |nil=>exact absurd rfl h
 |cons=>rfl
theorem xr {n:Nat} {l:List aj} (h:l≠ []):tJ n l=aD 1 l cx:=by cases l with
 |nil=>exact absurd rfl h
 |cons=>rfl
theorem Dl (n:Nat) (l:List aj) (k:Nat):(tJ n l).low k:=by
 cases l with
 |nil=>
  intro j e he;rw[Zh] at he;split at he
  ·cases he;rfl
  ·cases he
 |cons x r=>exact dX k
theorem Dk (n:Nat) (l:List aj) (σ:Nat→Nat):(tJ n l).cL σ=tJ n l:=by
 cases l with
 |nil=>simp only[tJ,AO.cL];rw[List.map_replicate];rfl
 |cons x r=>exact cm σ
theorem hO {h r:AH} {σ:Nat→Nat} {i n m:Nat} {o:AO} {l:List aj} (ho:h.get (σ i)=some o) (he:o=tJ m l) (hi:WU i n=true) (hr:tU n σ h r):tU n σ h ((i,some (tJ m l))::r):=
 ⟨⟨_,ho, .of_eq (by rw[Dk,he])⟩,Wj hi,Dl m l n,hr⟩
theorem oM (i:Nat) (l:List aj) {n:Nat} (h:WU i n=true):(Bw i l).low n=true:=by cases l<;>exact h
theorem CT (hS:dH) (m:NM) (hm:m.length≤100000000):Pure Tryz.prog 52 [.iv (ov m)] (.iv (strs (c9 (m.map (·.1))))):=by
 refine ax ae Tryz.func52 rfl (by decide) Tryz.ntmps52 rfl (by simp) rfl ?_;rcases Yx m.length with h0|h0
 ·have h0:=XS.1 h0
  subst h0;refine gA rfl (zd ae 1 (fun k=>cx (([]:List aj).getD k default)) rfl rfl rfl rfl rfl rfl rfl rfl rfl rfl ?_);refine gA rfl ?_
  refine eP ([]:List ((KC.str).K×Int)) (fun _=>⟨[(3, .iv (.cz 1 0 (fun k=>cx (([]:List aj).getD k default)))),(9, .ptr 1 0)],[(1,some (.bq .str s4 ([]:List ((KC.str).K×Int)) [] none))],2⟩) (fun _=>True) [] trivial
   (wk rfl rfl rfl ⟨.refl _,rfl, .refl _,rfl,trivial⟩ (hI rfl rfl (.inl rfl) rfl trivial) rfl) fun vs _=>?_
  refine lU rfl trivial (db rfl rfl rfl rfl rfl (by decide) (fun _=>?_) fun j x hx _=>?_)
  ·refine gA rfl (an (CM hS _) rfl rfl rfl rfl rfl rfl ?_)
   refine gA rfl (aw (by first|exact .inr rfl|exact .inl rfl) rfl ?_);exact .of_eq (show _=PV.iv (strs (c9 [])) by rw[mV];rfl)
  ·cases hx
 refine gA rfl (Px ae m.length 0 rfl rfl rfl rfl rfl rfl rfl rfl rfl h0 (by omega) (by show 16*m.length≤_;omega) rfl (by decide) rfl (.inl ⟨rfl,rfl⟩) rfl ?_);refine gA rfl ?_
 refine eP m (fun vs=>⟨[(3,Bw 2 (Ah m vs)),(9, .ptr 1 0)],[(1,some (.bq .str s4 m vs none)),(2,some (tJ m.length (Ah m vs)))],3⟩) (fun vs=>vs.Nodup∧ ∀j∈vs,j<m.length) [0] ⟨Xk,by simp⟩
  (wk rfl rfl rfl ⟨.refl _,rfl, .refl _,rfl,trivial⟩ (hI rfl rfl (.inl rfl) rfl (hO rfl rfl rfl trivial)) rfl) fun vs hJ=>?_
 obtain⟨hJ1,hJ2⟩:=hJ;have hvl:=sA hJ1 hJ2;have hkl:=Af m vs;refine lU rfl trivial (db rfl rfl rfl rfl rfl (by decide) (fun hall=>?_) fun j x hx hj=>?_)
 ·have hp:=Ag m vs hJ1 hJ2 hall
  have hne:Ah m vs≠ []:=fun e=>by
   have:=hp.length_eq;rw[e,W3] at this;simp at this;omega
  rw[xq hne,xr hne];refine lU rfl trivial (aN [2] (Ez hS (Ah m vs) (by omega)) rfl rfl rfl rfl rfl (congrArg (fun o=> [some o]) (cm _).symm) rfl rfl ?_);refine lU rfl trivial (gj (.inr rfl) rfl rfl ((r7 _ _).trans (by rw[nS hp])) ?_);rw[iH,←hp.length_eq]
 ·have hk:=xG m vs j x hx
  have fin: ∀vs',vs'=j::vs→vs'.Nodup∧ ∀i∈vs',i<m.length:=fun vs' e=>e▸⟨Xu.2 ⟨hj,hJ1⟩,fun i hi=>(WG.1 hi).elim (fun h=>h▸(Wr.1 hx).1) (hJ2 i)⟩
  cases hl:Ah m vs with
  |nil=>
   rw[hl,Yg] at hk;refine gA rfl (vV ae rfl rfl rfl rfl rfl rfl rfl rfl rfl (by simp;omega) (by simp) (jF rfl) rfl ?_);refine gA rfl ?_
   exact⟨j,x,hx,hj,fin _ rfl,[4],wk rfl rfl rfl ⟨.of_eq (by rw[hk];rfl),oM 2 _ rfl, .refl _,rfl,trivial⟩ (hI rfl rfl (.inr rfl) rfl (hO rfl (by rw[hk];rfl) rfl trivial)) rfl⟩
  |cons a r=>
   rw[hl] at hk hkl;have hlen:(r.length+1)≤m.length:=by simpa using WV hkl hvl
   refine gA rfl ?_;exact⟨j,x,hx,hj,fin _ rfl,[4],wk rfl rfl rfl ⟨.of_eq (by rw[hk,ux];rfl),oM 2 _ rfl, .refl _,rfl,trivial⟩ (hI rfl rfl (.inr rfl) rfl (hO rfl (by rw[hk,uy,aD,Wq];rfl) rfl trivial)) rfl⟩
theorem CU (hS:dH) (m:GM) (hm:m.length≤100000000):Pure Tryz.prog 51 [.iv (nf m)] (.iv (strs (c9 (m.map (·.1))))):=by
 refine ax ae Tryz.func51 rfl (by decide) Tryz.ntmps51 rfl (by simp) rfl ?_;rcases Yx m.length with h0|h0
 ·have h0:=XS.1 h0
  subst h0;refine gA rfl (zd ae 1 (fun k=>cx (([]:List aj).getD k default)) rfl rfl rfl rfl rfl rfl rfl rfl rfl rfl ?_);refine gA rfl ?_
  refine eP ([]:List ((KC.str).K×Option NM)) (fun _=>⟨[(3, .iv (.cz 1 0 (fun k=>cx (([]:List aj).getD k default)))),(9, .ptr 1 0)],[(1,some (.bq .str Bx ([]:List ((KC.str).K×Option NM)) [] none))],2⟩) (fun _=>True) [] trivial
   (wk rfl rfl rfl ⟨.refl _,rfl, .refl _,rfl,trivial⟩ (hI rfl rfl (.inl rfl) rfl trivial) rfl) fun vs _=>?_
  refine lU rfl trivial (db rfl rfl rfl rfl rfl (by decide) (fun _=>?_) fun j x hx _=>?_)
  ·refine gA rfl (an (CM hS _) rfl rfl rfl rfl rfl rfl ?_)
   refine gA rfl (aw (by first|exact .inr rfl|exact .inl rfl) rfl ?_);exact .of_eq (show _=PV.iv (strs (c9 [])) by rw[mV];rfl)
  ·cases hx
 refine gA rfl (Px ae m.length 0 rfl rfl rfl rfl rfl rfl rfl rfl rfl h0 (by omega) (by show 16*m.length≤_;omega) rfl (by decide) rfl (.inl ⟨rfl,rfl⟩) rfl ?_);refine gA rfl ?_
 refine eP m (fun vs=>⟨[(3,Bw 2 (Ah m vs)),(9, .ptr 1 0)],[(1,some (.bq .str Bx m vs none)),(2,some (tJ m.length (Ah m vs)))],3⟩) (fun vs=>vs.Nodup∧ ∀j∈vs,j<m.length) [0] ⟨Xk,by simp⟩
  (wk rfl rfl rfl ⟨.refl _,rfl, .refl _,rfl,trivial⟩ (hI rfl rfl (.inl rfl) rfl (hO rfl rfl rfl trivial)) rfl) fun vs hJ=>?_
 obtain⟨hJ1,hJ2⟩:=hJ;have hvl:=sA hJ1 hJ2;have hkl:=Af m vs;refine lU rfl trivial (db rfl rfl rfl rfl rfl (by decide) (fun hall=>?_) fun j x hx hj=>?_)
 ·have hp:=Ag m vs hJ1 hJ2 hall
  have hne:Ah m vs≠ []:=fun e=>by
   have:=hp.length_eq;rw[e,W3] at this;simp at this;omega
  rw[xq hne,xr hne];refine lU rfl trivial (aN [2] (Ez hS (Ah m vs) (by omega)) rfl rfl rfl rfl rfl (congrArg (fun o=> [some o]) (cm _).symm) rfl rfl ?_);refine lU rfl trivial (gj (.inr rfl) rfl rfl ((r7 _ _).trans (by rw[nS hp])) ?_);rw[iH,←hp.length_eq]
 ·have hk:=xG m vs j x hx
  have fin: ∀vs',vs'=j::vs→vs'.Nodup∧ ∀i∈vs',i<m.length:=fun vs' e=>e▸⟨Xu.2 ⟨hj,hJ1⟩,fun i hi=>(WG.1 hi).elim (fun h=>h▸(Wr.1 hx).1) (hJ2 i)⟩
  cases hl:Ah m vs with
  |nil=>
   rw[hl,Yg] at hk;refine gA rfl (vV ae rfl rfl rfl rfl rfl rfl rfl rfl rfl (by simp;omega) (by simp) (jF rfl) rfl ?_);refine gA rfl ?_
   exact⟨j,x,hx,hj,fin _ rfl,[4],wk rfl rfl rfl ⟨.of_eq (by rw[hk];rfl),oM 2 _ rfl, .refl _,rfl,trivial⟩ (hI rfl rfl (.inr rfl) rfl (hO rfl (by rw[hk];rfl) rfl trivial)) rfl⟩
  |cons a r=>
   rw[hl] at hk hkl;have hlen:(r.length+1)≤m.length:=by simpa using WV hkl hvl
   refine gA rfl ?_;exact⟨j,x,hx,hj,fin _ rfl,[4],wk rfl rfl rfl ⟨.of_eq (by rw[hk,ux];rfl),oM 2 _ rfl, .refl _,rfl,trivial⟩ (hI rfl rfl (.inr rfl) rfl (hO rfl (by rw[hk,uy,aD,Wq];rfl) rfl trivial)) rfl⟩
theorem nU (hS:dH):Pure Tryz.prog 51 [.iv (.v (.map none))] (.iv (strs [])):=by
 refine ax ae Tryz.func51 rfl (by decide) Tryz.ntmps51 rfl (by simp) rfl ?_;refine gA rfl (BR ae rfl rfl rfl rfl rfl rfl ?_);refine gA rfl (zd ae 1 (fun k=>cx (([]:List aj).getD k default)) rfl rfl rfl rfl rfl rfl rfl rfl rfl rfl ?_);refine gA rfl (BQ ae rfl rfl rfl rfl rfl rfl ?_);refine gA rfl ?_
 refine eP ([]:List ((KC.str).K×Int)) (fun _=>⟨[(3, .iv (.cz 1 0 (fun k=>cx (([]:List aj).getD k default)))),(9, .ptr 1 0)],[(1,some (.bq .str iI ([]:List ((KC.str).K×Int)) [] none))],2⟩) (fun _=>True) [] trivial
  (wk rfl rfl rfl ⟨.refl _,rfl, .refl _,rfl,trivial⟩ (hI rfl rfl (.inl rfl) rfl trivial) rfl) fun vs _=>?_
 refine lU rfl trivial (db rfl rfl rfl rfl rfl (by decide) (fun _=>?_) fun j x hx _=>?_)
 ·refine gA rfl (an (CM hS _) rfl rfl rfl rfl rfl rfl ?_)
  refine gA rfl (aw (by first|exact .inr rfl|exact .inl rfl) rfl ?_);exact .of_eq rfl
 ·cases hx
end Go.Proofs.YtflegjieadkonaaGreatDoor
namespace Go.Al
def SD {σ:Type} (P:Program) (nt:Nat) (k:List KI) (Q:AQ) (n0:Nat) (t:σ→AS):AQ:=fun e u=>(e= .normal∧ ∃i L,Wk n0 L u (t i))∨(e≠ .normal∧kp P nt k Q e u)
theorem go_cut {P:Program} {nt:Nat} {Q:AQ} {k:List KI} {s:AS} {c:Code} {σ:Type} (n:Nat) (t:σ→AS) (hseq:c=RI (vk n c) (rI n c))
  (h1:GO P nt ((vk n c).map KI.code) (SD P nt k Q s.nx t) s) (h2: ∀i,GO P nt (.code (rI n c)::k) Q (t i)):GO P nt (.code c::k) Q s:=by
 intro M N a w hf;rw[hseq]
 have key: ∀(l:List Code) (u:AS) M' N' a' w',Ext M N (· <s.nx) s.h w M' N' (· <u.nx) u.h w'→Fits M' N' u nt a' w'→
   kp P nt (l.map KI.code) (SD P nt k Q s.nx t) .normal u→(RI l (rI n c)).wp P (lO nt M N s w (kp P nt k Q)) a' w':=by
  intro l
  induction l with
  |nil=>
   intro u M' N' a' w' hx hfu hk;rcases hk with⟨_,i,L,hw⟩|⟨he,_⟩
   ·exact AW.then (h2 i) (hw.fits hfu) fun e a2 w2 M2 N2 s2 hx2 hf2 hr2=>⟨M2,N2,s2,(hw.ext hx).trans hx2,hf2,hr2⟩
   ·exact absurd rfl he
  |cons c l ih=>
   intro u M' N' a' w' hx hfu hk;refine wp_seq (AW.then hk hfu fun e a2 w2 M2 N2 s2 hx2 hf2 hr2=>?_)
   cases e with
   |normal=>exact ih s2 M2 N2 a2 w2 (hx.trans hx2) hf2 hr2
   |_=>
    rcases Ae (l:=l) (by simp) hr2 with⟨he,_⟩|⟨_,hq⟩
    ·cases he
    ·exact⟨M2,N2,s2,hx.trans hx2,hf2,hq⟩
 exact key _ s M N a w (.refl _ _ _ _ _) hf h1
theorem qm {P:Program} {nt:Nat} {k:List KI} {Q:AQ} {n0:Nat} {σ:Type} {t:σ→AS} {u:AS} (i:σ) (L:List Nat) (h:Wk n0 L u (t i)):SD P nt k Q n0 t .normal u:= .inl ⟨rfl,i,L,h⟩
section
variable {P:Program} {ty:Ty} {nt:Nat} {Q:AQ} {k:List KI} {s:AS}
theorem ze (hty:bE P ty) {all rest:List Oper} {o:Oper} {t:TypeId} {a:Operand} (ho:o.op= .load t a) (hg:o.guard=none) {e:aB} (he:ty t=some e) {i sz q off:Nat} {es:List (List PV)} {row:List PV} {v:PV}
  (ha:ev s.f a= .c4 i sz q off) (hi:s.h.get i=some (.row sz es)) (hq:es[q]? =some row) (hr:gz e (row.drop off)=some v)
  {s':AS} (hp:putDst nt o v s=some s') (h:GO P nt (.ops all rest::k) Q s'):GO P nt (.ops all (o::rest)::k) Q s:=by
 have hb:behind s.h (.c4 i sz q off)=some (row.drop off):=by
  simp only[behind,hi,hq,Nat.beq_refl]
 have hrop:il ty s o.op=some (v,True):=by
  rw[ho];simp only[il,he,ha,hb,hr]
 exact dE hg (pL hty hrop trivial hp) fun u hu=>by subst hu;exact h
end
end Go.Al
