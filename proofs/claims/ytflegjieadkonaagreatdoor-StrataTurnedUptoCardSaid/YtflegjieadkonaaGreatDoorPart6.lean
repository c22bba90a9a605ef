/-
  What the proofs of the claims need: part 6 of 7.
-/
import Derived.Test.YtflegjieadkonaaGreatDoorPart5
import Derived.StillTail
open And renaming intro→Wl
open Array renaming getD_eq_getD_getElem?→Wm,replicate→XX,toArray_toList→XG
open Bool renaming and_eq_true→WN,and_false→Yu,and_true→Zf,eq_iff_iff→Xn,false_and→Yd,false_eq_true→Yl,not_eq_false'→XL,not_eq_true'→W5,not_false→YW,or_eq_false_iff→XY,or_eq_true→Xl,true_and→YA
open ByteArray renaming empty→Wu
open Classical renaming byContradiction→XJ,choose→YI,choose_spec→X5,em→ZG
open Int renaming le_refl→Yi,toNat_natCast→Wp
open List.Nodup renaming length_le_of_subset→Xm
open List.Pairwise renaming imp→ZA,nil→Zb
open List renaming all_append→Zn,all_eq_false→YB,all_eq_true→WX,any_eq_false→Xg,any_eq_true→Xr,append_assoc→Wv,append_nil→Xo,cons_append→XF,countP_le_length→Y0,ext_getElem?→Yo,find?_cons→YP,find?_cons_of_neg→Zm,find?_eq_none→XC,find?_some→Y5,flatMap_append→Ys,flatMap_cons→XA,foldl_append→Ye,getD_eq_getElem?_getD→Ws,getElem?_append_left→WH,getElem?_cons_succ→Yt,getElem?_cons_zero→YR,getElem?_eq_getElem→Wt,getElem?_eq_none→XU,getElem?_eq_some_iff→Wr,getElem?_map→Ww,getElem?_of_mem→W6,getElem?_range→Yr,getElem?_set→XP,getElem?_zipWith→Zq,getElem_inj→YJ,getElem_map→Y2,length_append→Wn,length_cons→W2,length_drop→X8,length_eq_zero_iff→XS,length_filter_le→XB,length_map→W3,length_nil→X4,length_range→Yp,length_singleton→Xp,length_take→Xb,map_append→Wq,map_cons→WI,map_nil→Xd,map_set→YY,mem_append→WD,mem_append_left→W0,mem_cons→WG,mem_cons_of_mem→WE,mem_cons_self→WM,mem_filter→WW,mem_flatMap→X9,mem_iff_getElem→XH,mem_map→W4,mem_map_of_mem→Xs,mem_of_getElem?→WY,mem_of_mem_take→YF,mem_or_eq_of_mem_set→Za,mem_range→WZ,mem_singleton→Wy,mem_singleton_self→Yf,nil_append→Yg,nodup_append→XR,nodup_cons→Xu,nodup_nil→Xk,pairwise_iff_getElem→YK,range→WL,sum_cons→XN,take_append_drop→X6,take_length→Ya,take_of_length_le→WB,take_succ_cons→XE,zipWith→Zk,zipWith_cons_cons→Zl
open Nat renaming add_mod→Zu,add_mul→Xw,beq→WO,ble→YG,ble_eq_true_of_le→Xi,blt→WU,le_of_ble_eq_true→Wj,le_of_eq→YX,le_of_not_lt→Xc,le_refl→Wz,le_succ→YC,le_trans→WV,lt_of_lt_of_le→X7,lt_or_ge→W9,lt_succ_iff_lt_or_eq→XW,lt_succ_of_lt→X3,lt_succ_self→XT,mod_eq_of_lt→Yj,mul_le_mul_right→WR,ne_of_lt→Zi,not_lt_zero→Yz,zero_add→WQ,zero_le→WC,zero_mul→X0
open Option renaming map_eq_none_iff→Yh,map_eq_some_iff→Wx,map_some→Xy
open Option.some renaming inj→Xt,injEq→Wo
open Prod renaming fst→WT
open Prod.mk renaming injEq→WA
namespace Go.Al
def Nm.one (b e:Nat):Nm:=⟨fun _=>b,fun _=>e⟩
inductive SB:Type 1 where
 |obj (o:AO) (e:Nat)
 |out (i e:Nat)
abbrev aZ:=Nat→Option SB
def aZ.nil:aZ:=fun _=>none
def aZ.put (X:aZ) (b:Nat) (x:SB):aZ:=fun c=>if c=b then some x else X c
def aZ.still (X:aZ):Prop:= ∀b i e,X b≠some (.out i e)
theorem aZ.eK (X:aZ) (b:Nat) (x:SB):X.put b x b=some x:=by simp[aZ.put]
theorem aZ.im (X:aZ) {b c:Nat} (x:SB) (h:c≠b):X.put b x c=X c:=by simp[aZ.put,h]
theorem aZ.JL (X:aZ) (b:Nat) (x y:SB):(X.put b x).put b y=X.put b y:=by
 funext c;simp only[aZ.put];split<;>rfl
structure cQ (M:Mem) (N:Nm) (n:Nat) (h:AH) (X:aZ) (w:World):Prop where
 real: ∀b o e,X b=some (.obj o e)→o.real=true
 obj: ∀b o e,X b=some (.obj o e)→OR M (Nm.one b e) (fun _=>False) w 0 o
 cZ: ∀b o e,X b=some (.obj o e)→M b=none
 apart: ∀b o e,X b=some (.obj o e)→ ∀i p,h.get i=some p→p.real=true→N.aG i≠b
 out: ∀b i e,X b=some (.out i e)→i<n∧N.aG i=b∧N.ext i=e
def AO.all (G:PV→Prop):AO→Prop
 | .cells cs _=> ∀p∈cs,G p
 | .row _ es=> ∀e∈es,∀p∈e,G p
 |_=>True
theorem AO.all_true (o:AO):o.all fun _=>True:=by cases o<;>simp[AO.all]
theorem OR.move {M M':Mem} {N N':Nm} {U U':Nat→Prop} {w w':World} {i i':Nat} {o:AO} {G:PV→Prop} (hM:M.le M') (hG:o.all G) (hV: ∀p x,G p→VR M N U p x→VR M' N' U' p x)
  (hb:N'.aG i'=N.aG i) (he:N'.ext i'=N.ext i) (hw:w'.heap[N.aG i]? =w.heap[N.aG i]?) (h:OR M N U w i o):OR M' N' U' w' i' o:=by
 cases o with
 |cells cs T0=>
  obtain⟨c,T,h1,h2,h3,h4,h5⟩:=h
  exact⟨c,T,by rw[hb,hw,h1],by rw[he,h2],h3,fun j p hp=>hV _ _ (hG p (WY hp)) (h4 j p hp),h5⟩
 |row sz es=>
  rcases h with h|⟨h0,c,T,h1,h2,h3,h4,h5⟩
  ·exact .inl h
  exact .inr ⟨h0,c,T,by rw[hb,hw,h1],by rw[he,h2],h3,h4,fun k e j p hk hp=>hV _ _ (hG e (WY hk) p (WY hp)) (h5 k e j p hk hp)⟩
 |bx l T=>
  rcases h with h|⟨c,h1,h2,h3,h4⟩
  ·exact .inl h
  exact .inr ⟨c,by rw[hb,hw,h1],by rw[he,h2],h3,h4⟩
 |eE=>show w'.heap[N'.aG i']? =_;rw[hb,hw];exact h
 |map kc ev z zv dv m=>
  obtain⟨e,cl,h1,h2,h3⟩:=h
  exact⟨e,cl,by rw[hb,hw,h1],h2.mono hM,h3.mono hM⟩
 |bq kc ev m l cu=>
  rcases h with⟨h1,h2,h3,h4⟩|⟨b,e,cl,se,h1,h2,h3,h4⟩
  ·exact .inl ⟨h1,h2,h3,by rw[hb,hw,h4]⟩
  ·exact .inr ⟨b,e,cl,se,by rw[hb,hw,h1],hM _ _ h2,h3.mono hM,h4⟩
 |dt s p=>show w'.heap[N'.aG i']? =_;rw[hb,hw];exact h
theorem VR.zZ {M M':Mem} {N N':Nm} {U':Nat→Prop} (hM:M.le M') {p:PV} {x:Value} (h:VR M N (fun _=>False) p x):VR M' N' U' p x:=
 h.mono hM ⟨fun _ h=>h.elim,fun _ h=>h.elim⟩ (fun _ h=>h.elim)
def PV.flat:PV→Prop
 | .iv _=>True
 | .kb _=>True
 | .any=>True
 |_=>False
theorem VR.Jj {M:Mem} {N N':Nm} {U U':Nat→Prop} {p:PV} {x:Value} (hp:p.flat) (h:VR M N U p x):VR M N' U' p x:=by
 cases h with
 |iv x y h=>exact .iv _ _ h
 |kb b=>exact .kb _
 |any x=>exact .any _
 |_=>exact hp.elim
def Vi (N:Nm) (h:AH) (X:aZ) (b:Nat):Prop:=(∃i o,h.get i=some o∧o.real=true∧N.aG i=b)∨ ∃o e,X b=some (.obj o e)
structure fS (M:Mem) (N:Nm) (n:Nat) (h:AH) (X:aZ) (w:World) (M':Mem) (N':Nm) (n':Nat) (h':AH) (X':aZ) (w':World):Prop where
 os:w'.os=w.os
 tape:w'.tape=w.tape
 output:w'.output=w.output
 size:w.heap.size≤w'.heap.size
 gd: ∀b,b<w.heap.size→ ¬Vi N h X b→w'.heap[b]? =w.heap[b]?
 ow:M.le M'
 gn: ∀b c,M b=none→M' b=some c→w.heap.size≤b∨Vi N h X b
 nm:N.agree N' (· <n)
 ule:n≤n'
 fQ: ∀b,Vi N' h' X' b→w.heap.size≤b∨Vi N h X b
theorem fS.refl (M:Mem) (N:Nm) (n:Nat) (h:AH) (X:aZ) (w:World):fS M N n h X w M N n h X w:=
 ⟨rfl,rfl,rfl,Wz _,fun _ _ _=>rfl, .refl _,fun b c h1 h2=>by simp[h1] at h2, .refl _ _,Wz _,fun _ h=> .inr h⟩
theorem fS.trans {M M1 M2:Mem} {N N1 N2:Nm} {n n1 n2:Nat} {h h1 h2:AH} {X X1 X2:aZ} {w w1 w2:World}
  (a:fS M N n h X w M1 N1 n1 h1 X1 w1) (b:fS M1 N1 n1 h1 X1 w1 M2 N2 n2 h2 X2 w2):fS M N n h X w M2 N2 n2 h2 X2 w2 where
 os:=b.os.trans a.os
 tape:=b.tape.trans a.tape
 output:=b.output.trans a.output
 size:=WV a.size b.size
 gd:=fun k hk hn=>by
  rw[b.gd k (X7 hk a.size) (fun ho=>?_),a.gd k hk hn];rcases a.fQ k ho with h3|h3
  ·omega
  ·exact hn h3
 ow:=a.ow.trans b.ow
 gn:=fun k c h3 h4=>by
  cases h5:M1 k with
  |some c'=>exact a.gn k c' h3 h5
  |none=>
   rcases b.gn k c h5 h4 with h6|h6
   ·exact .inl (WV a.size h6)
   ·exact a.fQ k h6
 nm:=⟨fun i hi=>(b.nm.aG i (X7 hi a.ule)).trans (a.nm.aG i hi),fun i hi=>(b.nm.ext i (X7 hi a.ule)).trans (a.nm.ext i hi)⟩
 ule:=WV a.ule b.ule
 fQ:=fun k hk=>by
  rcases b.fQ k hk with h3|h3
  ·exact .inl (WV a.size h3)
  ·exact a.fQ k h3
theorem fS.frame {M M':Mem} {N N':Nm} {n n':Nat} {h h':AH} {X:aZ} {w w':World} (x:Ext M N (· <n) h w M' N' (· <n') h' w') (hs:cQ M N n h X w):
  fS M N n h X w M' N' n' h' X w'∧cQ M' N' n' h' X w':=by
 have hlt: ∀b o e,X b=some (.obj o e)→b<w.heap.size:=fun b o e hb=>(hs.obj b o e hb).lt (hs.real b o e hb);have hule:n≤n':=Xc fun hh=>absurd (x.ule n' hh) (Nat.lt_irrefl _);refine⟨⟨x.os,x.tape,x.output,x.size,fun b hb hn=>x.gd b hb fun i o hi hre he=>hn (.inl ⟨i,o,hi,hre,he⟩),x.ow,fun b c h1 h2=>?_,x.nm,hule,fun b hb=>?_⟩,hs.real,fun b o e hb=>?_,fun b o e hb=>?_,fun b o e hb i p hi hre heq=>?_,fun b i e hb=>?_⟩
 ·rcases x.gn b c h1 h2 with h3|⟨i,o,h3,h4,h5⟩
  ·exact .inl h3
  ·exact .inr (.inl ⟨i,o,h3,h4,h5⟩)
 ·rcases hb with⟨i,o,h3,h4,h5⟩|hb
  ·rcases x.fQ i o h3 h4 with h6|⟨j,p,h6,h7,h8⟩
   ·exact .inl (h5▸h6)
   ·exact .inr (.inl ⟨j,p,h6,h7,h8.trans h5⟩)
  ·exact .inr (.inr hb)
 ·refine OR.move (G:=fun _=>True) x.ow (AO.all_true o) (fun p y _ hv=>hv.zZ x.ow) rfl rfl ?_ (hs.obj b o e hb)
  exact x.gd b (hlt b o e hb) (hs.apart b o e hb)
 ·cases hM:M' b with
  |none=>rfl
  |some c=>
   rcases x.gn b c (hs.cZ b o e hb) hM with h3|⟨i,p,h3,h4,h5⟩
   ·have:=hlt b o e hb;omega
   ·exact absurd h5 (hs.apart b o e hb i p h3 h4)
 ·rcases x.fQ i p hi hre with h3|⟨j,q,h3,h4,h5⟩
  ·have:=hlt b o e hb;omega
  ·exact hs.apart b o e hb j q h3 h4 (h5.trans heq)
 ·obtain⟨h1,h2,h3⟩:=hs.out b i e hb
  exact⟨X7 h1 hule,(x.nm.aG i h1).trans h2,(x.nm.ext i h1).trans h3⟩
theorem fS.Ry {M M':Mem} {N N':Nm} {n n':Nat} {h h':AH} {X':aZ} {w w':World} (x:fS M N n h aZ.nil w M' N' n' h' X' w'):Ext M N (· <n) h w M' N' (· <n') h' w':=by
 have hown: ∀b,Vi N h aZ.nil b→ ∃i o,h.get i=some o∧o.real=true∧N.aG i=b:=fun b hb=>by
  rcases hb with hb|⟨o,e,hb⟩
  ·exact hb
  ·cases hb
 refine⟨x.os,x.tape,x.output,x.size,fun b hb hn=>x.gd b hb fun ho=>?_,x.ow,fun b c h1 h2=>?_,x.nm,fun i hi=>X7 hi x.ule,fun i o hi hre=>?_⟩
 ·obtain⟨i,o,h1,h2,h3⟩:=hown b ho
  exact hn i o h1 h2 h3
 ·exact(x.gn b c h1 h2).imp id (hown b)
 ·exact(x.fQ _ (.inl ⟨i,o,hi,hre,rfl⟩)).imp id (hown _)
theorem cQ.nil (M:Mem) (N:Nm) (n:Nat) (h:AH) (w:World):cQ M N n h aZ.nil w:=⟨nofun,nofun,nofun,nofun,nofun⟩
abbrev XQ:=Exit→AS→aZ→Prop
def mT (nt:Nat) (M:Mem) (N:Nm) (s:AS) (X:aZ) (w:World) (R:XQ):Exit→Act→World→Prop:=fun e a' w'=>
 ∃M' N' s' X',fS M N s.nx s.h X w M' N' s'.nx s'.h X' w'∧Fits M' N' s' nt a' w'∧cQ M' N' s'.nx s'.h X' w'∧R e s' X'
theorem mT.later {nt:Nat} {M M':Mem} {N N':Nm} {s s':AS} {X X':aZ} {w w':World} {R:XQ} {e:Exit} {a:Act} {w2:World}
  (x:fS M N s.nx s.h X w M' N' s'.nx s'.h X' w') (h:mT nt M' N' s' X' w' R e a w2):mT nt M N s X w R e a w2:=by
 obtain⟨M2,N2,s2,X2,h1,h2⟩:=h;exact⟨M2,N2,s2,X2,x.trans h1,h2⟩
theorem mT.now {nt:Nat} {M:Mem} {N:Nm} {s:AS} {X:aZ} {w:World} {R:XQ} {e:Exit} {a:Act} (hf:Fits M N s nt a w) (hs:cQ M N s.nx s.h X w) (h:R e s X):mT nt M N s X w R e a w:=
 ⟨M,N,s,X, .refl _ _ _ _ _ _,hf,hs,h⟩
def AX (P:Program) (nt:Nat) (c:Code) (R:XQ) (s:AS) (X:aZ):Prop:= ∀M N a w,Fits M N s nt a w→cQ M N s.nx s.h X w→c.wp P (mT nt M N s X w R) a w
def ALX (P:Program) (nt:Nat) (all rest:List Oper) (R:XQ) (s:AS) (X:aZ):Prop:= ∀M N a w,Fits M N s nt a w→cQ M N s.nx s.h X w→wpList P all.toArray (mT nt M N s X w R) rest a w
def SLX (P:Program) (nt:Nat) (all rest:List Oper) (R:XQ) (s:AS) (X:aZ):Prop:= ∀M N a w,Fits M N s nt a w→cQ M N s.nx s.h X w→
 wpStill P all.toArray w (fun a'=>mT nt M N s X w R .normal a' w) rest a
inductive XI where
 |q8 (all rest:List Oper)
 |code (c:Code)
 |aG (id:Nat)
 |ops (all rest:List Oper)
 |lp (R:AS→aZ→Prop)
 |Cc
def kx (P:Program) (nt:Nat):List XI→XQ→XQ
 | [],Q=>Q
 | .code c::k,Q=>fun e s X=>match e with| .normal=>AX P nt c (kx P nt k Q) s X|e=>kx P nt k Q e s X
 | .ops all rest::k,Q=>fun e s X=>match e with| .normal=>ALX P nt all rest (kx P nt k Q) s X|e=>kx P nt k Q e s X
 | .q8 all rest::k,Q=>fun e s X=>match e with| .normal=>SLX P nt all rest (kx P nt k Q) s X|e=>kx P nt k Q e s X
 | .lp R::k,Q=>fun e s X=>match e with| .normal=>R s X|e=>kx P nt k Q e s X
 | .aG id::k,Q=>fun e s X=>match e with| .exit j=>if j=id then kx P nt k Q .normal s X else kx P nt k Q (.exit j) s X|e=>kx P nt k Q e s X
 | .Cc::k,Q=>fun e s X=>match e with| .goto _=>False|e=>kx P nt k Q e s X
def GX (P:Program) (nt:Nat) (k:List XI) (Q:XQ) (s:AS) (X:aZ):Prop:=kx P nt k Q .normal s X
section
variable {P:Program} {nt:Nat} {Q:XQ} {k:List XI} {s:AS} {X:aZ}
theorem AX.then {c:Code} {R:XQ} (h:AX P nt c R s X) {M:Mem} {N:Nm} {a:Act} {w:World} (hf:Fits M N s nt a w) (hs:cQ M N s.nx s.h X w) {Z:Exit→Act→World→Prop}
  (hz: ∀e a' w' M' N' s' X',fS M N s.nx s.h X w M' N' s'.nx s'.h X' w'→Fits M' N' s' nt a' w'→cQ M' N' s'.nx s'.h X' w'→R e s' X'→Z e a' w'):c.wp P Z a w:=
 wp_mono (h M N a w hf hs) fun e a' w' ⟨M',N',s',X',h1,h2,h3,h4⟩=>hz e a' w' M' N' s' X' h1 h2 h3 h4
theorem Pw {Q0:AQ} {k0:List KI} {c:Code} (h:GX P nt [.code c] (fun e t _=>kp P nt k0 Q0 e t) s aZ.nil):GO P nt (.code c::k0) Q0 s:=by
 intro M N a w hf;exact AX.then h hf (.nil ..) fun e a' w' M' N' s' X' hx hf' _ hr=>⟨M',N',s',hx.Ry,hf',hr⟩
theorem fy {c:Code} (h:GO P nt [.code c] (fun e u=>kx P nt k Q e u X) s):GX P nt (.code c::k) Q s X:=by
 intro M N a w hf hs;refine AW.then h hf fun e a' w' M' N' s' hx hf' hr=>?_;obtain⟨h1,h2⟩:=fS.frame hx hs;exact⟨M',N',s',X,h1,hf',h2,hr⟩
theorem bR {x y:Code} (h:GX P nt (.code x:: .code y::k) Q s X):GX P nt (.code (.seq x y)::k) Q s X:=by
 intro M N a w hf hs;refine wp_seq (AX.then h hf hs fun e a' w' M' N' s' X' hx hf' hs' hr=>?_)
 cases e with
 |normal=>exact AX.then hr hf' hs' fun e a2 w2 M2 N2 s2 X2 hx2 hf2 hs2 hr2=>⟨M2,N2,s2,X2,hx.trans hx2,hf2,hs2,hr2⟩
 |_=>exact⟨M',N',s',X',hx,hf',hs',hr⟩
theorem oZ (h:GX P nt k Q s X):GX P nt (.code .skip::k) Q s X:=fun _ _ _ _ hf hs=>wp_skip (.now hf hs h)
theorem o5 {id:Nat} (h:kx P nt k Q (.exit id) s X):GX P nt (.code (.exit id)::k) Q s X:=fun _ _ _ _ hf hs=>wp_exit (.now hf hs h)
theorem vT {id:Nat} (h:GX P nt k Q s X):GX P nt (.aG id::k) Q s X:=h
theorem fz {id:Nat} {x:Code} (h:GX P nt (.code x:: .aG id::k) Q s X):GX P nt (.code (.block id x)::k) Q s X:=by
 intro M N a w hf hs;refine wp_block (AX.then h hf hs fun e a' w' M' N' s' X' hx hf' hs' hr=>?_)
 cases e with
 |exit j=>
  simp only[kx] at hr;simp only[Exit.inBlock];split
  ·rename_i hj;rw[if_pos hj] at hr;exact⟨M',N',s',X',hx,hf',hs',hr⟩
  ·rename_i hj;rw[if_neg hj] at hr;exact⟨M',N',s',X',hx,hf',hs',hr⟩
 |_=>exact⟨M',N',s',X',hx,hf',hs',hr⟩
theorem uN {id:Nat} {ops:Array Oper} (h:GX P nt (.ops ops.toList ops.toList::k) Q s X):GX P nt (.code (.region id ops false)::k) Q s X:=by
 intro M N a w hf hs;refine wp_region_list ?_;have:=h M N a w hf hs;simpa using this
theorem sP {all:List Oper} (h:GX P nt k Q s X):GX P nt (.ops all []::k) Q s X:=fun _ _ _ _ hf hs=>wpList_nil (mT.now hf hs h)
theorem o6 {c:Operand} {x y:Code} {t:Bool} (hc:ev s.f c= .iv (.v (.bool t))) (h1:t=true→GX P nt (.code x::k) Q s X) (h2:t=false→GX P nt (.code y::k) Q s X):
  GX P nt (.code (.cond c x y)::k) Q s X:=by
 intro M N a w hf hs;refine wp_cond_split (hf.bool hc) (fun ht=>?_) (fun ht=>?_)
 ·exact h1 ht M N a w hf hs
 ·exact h2 ht M N a w hf hs
theorem vE {o:Oper} {a:Act} {w:World} {K K':Act→World→Prop} {Q Q':Exit→Act→World→Prop} (h: ∀a w,K a w→K' a w) (hq: ∀e a w,e≠ .normal→Q e a w→Q' e a w) (hh:o.wp P a w K Q):o.wp P a w K' Q':=by
 have hl:LetsOut Q→LetsOut Q':=fun⟨a,w,x⟩=>⟨a,w,hq _ _ _ (by simp) x⟩
 unfold Oper.wp at*
 generalize(execOp a.eval o).run P w=r at*
 cases r with
 |ok n w'=>
  cases n<;>simp only[Oper.upon] at hh ⊢ <;>
   first
    |exact h _ _ hh
    |exact Calls.mono hh (fun e w'' he=>by cases e<;>first|exact h _ _ he|exact hl he|exact hq _ _ _ (by simp) he)
    |exact Rows.mono hh (fun _ _ he=>h _ _ he)
 |halt x w'=>cases x<;>simp only[Oper.upon] at hh ⊢ <;>exact hq _ _ _ (by simp) hh
theorem nM {ops:Array Oper} {Q1 Q2:Exit→Act→World→Prop} (l2:List Oper) (h2: ∀a w,Q1 .normal a w→wpList P ops Q2 l2 a w) (hq: ∀e a w,e≠ .normal→Q1 e a w→Q2 e a w): ∀(l:List Oper) (a:Act) (w:World),wpList P ops Q1 l a w→wpList P ops Q2 (l++l2) a w
 | [],a,w,h=>h2 _ _ h
 |o::r,a,w,h=>by
  rw[XF];rw[wpList] at h ⊢;split
  ·rename_i hw
   rw[if_pos hw] at h;exact h.imp (vE (nM l2 h2 hq r) hq) (fun⟨h3,a1,w1,h4⟩=>⟨h3,a1,w1,hq _ _ _ (by simp) h4⟩)
  ·rename_i hw
   rw[if_neg hw] at h;exact nM l2 h2 hq r _ _ h
theorem BO {all r1 r2:List Oper} (h:GO P nt [.ops all r1] (fun e u=>kx P nt (.ops all r2::k) Q e u X) s):GX P nt (.ops all (r1++r2)::k) Q s X:=by
 intro M N a w hf hs;refine nM r2 (fun a' w' hp=>?_) (fun e a' w' he hp=>?_) r1 a w (h M N a w hf)
 ·obtain⟨M',N',s',hx,hf',hr⟩:=hp
  obtain⟨h1,h2⟩:=fS.frame hx hs;have:=hr M' N' a' w' hf' h2;exact fJ (fun _ _ _=>mT.later h1) r2 a' w' this
 ·obtain⟨M',N',s',hx,hf',hr⟩:=hp
  obtain⟨h1,h2⟩:=fS.frame hx hs;refine⟨M',N',s',X,h1,hf',h2,?_⟩
  cases e with
  |normal=>exact absurd rfl he
  |_=>exact hr
theorem cQ.drew {M:Mem} {N:Nm} {n:Nat} {h:AH} {X:aZ} {w:World} (hs:cQ M N n h X w):cQ M N n h X {w with drawn:=w.drawn+1}:=
 ⟨hs.real,fun b o e hb=>OR.move (G:=fun _=>True) (.refl _) (AO.all_true o) (fun _ _ _ hv=>hv) rfl rfl rfl (hs.obj b o e hb),hs.cZ,hs.apart,hs.out⟩
theorem fS.drew {M:Mem} {N:Nm} {n:Nat} {h:AH} {X:aZ} {w:World}:fS M N n h X w M N n h X {w with drawn:=w.drawn+1}:=
 ⟨rfl,rfl,rfl,Wz _,fun _ _ _=>rfl, .refl _,fun b c h1 h2=>by simp[h1] at h2, .refl _ _,Wz _,fun _ h=> .inr h⟩
theorem rD {all rest:List Oper} (m:Nat) (h:GO P nt [.ops all (rest.take m)] (fun e u=>kx P nt (.ops all (rest.drop m)::k) Q e u X) s):GX P nt (.ops all rest::k) Q s X:=by
 have:=BO h;rwa[X6] at this
def SX (nt:Nat) (s:AS) (X:aZ) (T:AS→aZ→Prop):Prop:= ∀M N a w,Fits M N s nt a w→cQ M N s.nx s.h X w→
 ∃M' N' t Y,fS M N s.nx s.h X w M' N' t.nx t.h Y w∧Fits M' N' t nt a w∧cQ M' N' t.nx t.h Y w∧T t Y
theorem DP {c:Code} {T:AS→aZ→Prop} (h:SX nt s X T) (hk: ∀t Y,T t Y→GX P nt (.code c::k) Q t Y):GX P nt (.code c::k) Q s X:=by
 intro M N a w hf hs;obtain⟨M',N',t,Y,h1,h2,h3,h4⟩:=h M N a w hf hs;exact AX.then (hk t Y h4) h2 h3 fun e a2 w2 M2 N2 s2 X2 hx2 hf2 hs2 hr2=>⟨M2,N2,s2,X2,h1.trans hx2,hf2,hs2,hr2⟩
theorem vS {all rest:List Oper} {T:AS→aZ→Prop} (h:SX nt s X T) (hk: ∀t Y,T t Y→GX P nt (.ops all rest::k) Q t Y):GX P nt (.ops all rest::k) Q s X:=by
 intro M N a w hf hs;obtain⟨M',N',t,Y,h1,h2,h3,h4⟩:=h M N a w hf hs;exact fJ (fun _ _ _=>mT.later h1) rest a w (hk t Y h4 M' N' a w h2 h3)
theorem Pl {L:List Nat} {t:AS} (hw:Wk s.nx L s t):SX nt s X (fun t' Y=>t'=t∧Y=X):=by
 intro M N a w hf hs;obtain⟨h1,h2⟩:=fS.frame (hw.ext (.refl M N (· <s.nx) s.h w)) hs;exact⟨M,_,t,X,h1,hw.fits hf,h2,rfl,rfl⟩
theorem UW {body:Code} {σ:Type 1} (I:σ→AS) (J:σ→aZ) (μ:σ→Nat) (i0:σ) (L0:List Nat) (h0:Wk s.nx L0 s (I i0)) (hJ:J i0=X) (hst: ∀i,(J i).still)
  (round: ∀i,GX P nt (.code body:: .lp (fun t Y=> ∃j L,μ j<μ i∧Wk s.nx L t (I j)∧Y=J j)::k) Q (I i) (J i)):GX P nt (.code (.loop body)::k) Q s X:=by
 intro M0 N0 a0 w0 hf0 hs0
 let K:Act→World→Nat→Prop:=fun a w n=> ∃i M N,μ i=n∧fS M0 N0 s.nx s.h X w0 M N (I i).nx (I i).h (J i) w∧Fits M N (I i) nt a w∧cQ M N (I i).nx (I i).h (J i) w
 have hK0:K a0 w0 (μ i0):=by
  obtain⟨h1,h2⟩:=fS.frame (h0.ext (.refl M0 N0 (· <s.nx) s.h w0)) hs0;exact⟨i0,M0,N0.comp (sg s.nx L0),rfl,by rw[hJ];exact h1,h0.fits hf0,by rw[hJ];exact h2⟩
 refine wp_loop (fun a w=> ∃n,K a w n) (fun a w=>by classical exact if h: ∃n,K a w n then YI (cJ h) else 0) ⟨_,hK0⟩ fun a w hex=>?_;obtain⟨⟨i,M,N,hi,hx,hf,hs⟩,hmin⟩:=X5 (cJ hex);refine AX.then (round i) hf hs fun e a' w' M' N' s' X' hx' hf' hs' hr=>?_
 cases e with
 |normal=>
  obtain⟨j,L,hj,hw,hY⟩:=hr
  have hJ:K a' w' (μ j):=⟨j,M',N'.comp (sg s.nx L),rfl,by
   have hxx:=hx.trans hx';rw[hY] at hxx hs';refine⟨hxx.os,hxx.tape,hxx.output,hxx.size,hxx.gd,hxx.ow,hxx.gn,⟨fun i hi=>?_,fun i hi=>?_⟩,by have:=hw.nx;omega,fun b hb=>hxx.fQ b ?_⟩
   ·simp only[Nm.comp,fc hi];exact hxx.nm.aG i hi
   ·simp only[Nm.comp,fc hi];exact hxx.nm.ext i hi
   ·rcases hb with⟨i,o,h3,h4,h5⟩|hb
    ·obtain⟨⟨o',g1,g2⟩,_⟩:=gG hw.h i o h3
     exact .inl ⟨_,o',g1,g2.real ((AO.bQ _ o).trans h4),h5⟩
    ·exact .inr hb,hw.fits hf',by
   rw[hY] at hs';refine⟨hs'.real,hs'.obj,hs'.cZ,fun b o e hb i p hi hre=>?_,fun b i e hb=>?_⟩
   ·obtain⟨⟨o',g1,g2⟩,_⟩:=gG hw.h i p hi
    exact hs'.apart b o e hb _ o' g1 (g2.real ((AO.bQ _ p).trans hre))
   ·exact absurd hb (hst j b i e)⟩
  refine⟨⟨_,hJ⟩,?_⟩;simp only[dif_pos hex,dif_pos (⟨_,hJ⟩: ∃n,K a' w' n)];rw[←hi]
  exact Nat.lt_of_le_of_lt ((X5 (cJ (⟨_,hJ⟩: ∃n,K a' w' n))).2 _ hJ) hj
 |_=>exact⟨M',N',s',X',hx.trans hx',hf',hs',hr⟩
theorem CD {b e d:Nat} {o:AO} {p:PV} (hX:X b=some (.obj o e)) (hp: ∀(M:Mem) (N:Nm) (U:Nat→Prop) (x:Value),U s.nx→N.aG s.nx=b→N.ext s.nx=e→VR M N U (s.f.get d) x→VR M N U p x):
  SX nt s X (fun t Y=>t=⟨(d,p)::s.f,(s.nx,some o)::s.h,s.nx+1⟩∧Y=X.put b (.out s.nx e)):=by
 intro M N a w hf hs;obtain⟨f,h,n⟩:=s
 let N':Nm:=⟨fun j=>if j=n then b else N.aG j,fun j=>if j=n then e else N.ext j⟩
 have hag:N.agree N' (· <n):=⟨fun i hi=>if_neg (Zi hi),fun i hi=>if_neg (Zi hi)⟩
 have hbn:N'.aG n=b:=if_pos rfl;have hen:N'.ext n=e:=if_pos rfl;have hU: ∀i,i<n→i<n+1:=fun i hi=>X3 hi;have hre:=hs.real b o e hX
 have hget: ∀i q,AH.get ((n,some o)::h) i=some q→(i=n∧q=o)∨(i<n∧h.get i=some q):=by
  intro i q hi;rw[AH.aA] at hi;split at hi
  ·rename_i hin;exact .inl ⟨hin,by simpa using hi.symm⟩
  ·exact .inr ⟨hf.1.used i q hi,hi⟩
 refine⟨M,N',⟨(d,p)::f,(n,some o)::h,n+1⟩,X.put b (.out n e),⟨rfl,rfl,rfl,Wz _,fun _ _ _=>rfl, .refl _,fun c m h1 h2=>by simp[h1] at h2,hag,YC _,fun c hc=> .inr ?_⟩,⟨⟨hf.1.cZ,fun i q hi=>?_,fun i q hi hr=>?_,fun i q hi=>?_,fun i j q r hi hj hq hr he=>?_⟩,fun k=>?_,hf.2.2⟩,⟨fun c q g hc=>?_,fun c q g hc=>?_,fun c q g hc=>?_,fun c q g hc i r hi hr=>?_,fun c i g hc=>?_⟩,rfl,rfl⟩
 ·rcases hc with⟨i,q,h1,h2,h3⟩|⟨q,g,h1⟩
  ·rcases hget i q h1 with⟨rfl,rfl⟩|⟨h4,h5⟩
   ·rw[hbn] at h3;subst h3;exact .inr ⟨_,_,hX⟩
   ·exact .inl ⟨i,q,h5,h2,by rw[←h3];exact(hag.aG i h4).symm⟩
  ·by_cases hcb:c=b
   ·subst hcb;rw[aZ.eK] at h1;cases h1
   ·rw[aZ.im _ _ hcb] at h1;exact .inr ⟨q,g,h1⟩
 ·rcases hget i q hi with⟨rfl,rfl⟩|⟨h4,_⟩
  ·exact XT _
  ·exact hU i h4
 ·rcases hget i q hi with⟨rfl,rfl⟩|⟨h4,h5⟩
  ·rw[hbn];exact hs.cZ _ _ _ hX
  ·rw[hag.aG i h4];exact hf.1.dA i q h5 hr
 ·rcases hget i q hi with⟨rfl,rfl⟩|⟨h4,h5⟩
  ·exact OR.move (G:=fun _=>True) (.refl _) (AO.all_true _) (fun p y _ hv=>hv.zZ (.refl _)) hbn hen rfl (hs.obj b _ e hX)
  ·exact(hf.1.obj i q h5).mono (.refl _) hag hU h4 rfl
 ·rcases hget i q hi with⟨rfl,rfl⟩|⟨h4,h5⟩<;>rcases hget j r hj with⟨h6,rfl⟩|⟨h6,h7⟩
  ·exact h6.symm
  ·rw[hbn,hag.aG j h6] at he
   exact absurd he.symm (hs.apart b _ e hX j r h7 hr)
  ·subst h6
   rw[hbn,hag.aG i h4] at he;exact absurd he (hs.apart b _ e hX i q h5 hq)
  ·rw[hag.aG i h4,hag.aG j h6] at he
   exact hf.1.inj i j q r h5 h7 hq hr he
 ·rw[AF.aA]
  split
  ·rename_i hk
   subst hk;exact hp M N' _ _ (XT _) hbn hen ((hf.2.1 k).mono (.refl _) hag hU)
  ·exact(hf.2.1 k).mono (.refl _) hag hU
 all_goals by_cases hcb:c=b
 ·subst hcb;rw[aZ.eK] at hc;cases hc
 ·rw[aZ.im _ _ hcb] at hc;exact hs.real c q g hc
 ·subst hcb;rw[aZ.eK] at hc;cases hc
 ·rw[aZ.im _ _ hcb] at hc;exact hs.obj c q g hc
 ·subst hcb;rw[aZ.eK] at hc;cases hc
 ·rw[aZ.im _ _ hcb] at hc;exact hs.cZ c q g hc
 ·subst hcb;rw[aZ.eK] at hc;cases hc
 ·rw[aZ.im _ _ hcb] at hc
  rcases hget i r hi with⟨rfl,rfl⟩|⟨h4,h5⟩
  ·rw[hbn];exact fun e=>hcb e.symm
  ·rw[hag.aG i h4];exact hs.apart c q g hc i r h5 hr
 ·subst hcb;rw[aZ.eK] at hc;cases hc;exact⟨XT _,hbn,hen⟩
 ·rw[aZ.im _ _ hcb] at hc
  obtain⟨h1,h2,h3⟩:=hs.out c i g hc;exact⟨hU i h1,(hag.aG i h1).trans h2,(hag.ext i h1).trans h3⟩
theorem A5 {b e d len cap sz:Nat} {o:AO} (hX:X b=some (.obj o e)) (hd:s.f.get d= .iv (.v (.slice (some ⟨b,0,none⟩) len cap))) (h0:0<len) (hl:len≤cap) (hc:cap≤maxLen) (he:cap*sz=e):
  SX nt s X (fun t Y=>t=⟨(d, .sl s.nx 0 len sz)::s.f,(s.nx,some o)::s.h,s.nx+1⟩∧Y=X.put b (.out s.nx e)):=
 CD hX fun M N U x hu hb hE hv=>by
  rw[hd] at hv
  cases hv with
  |iv _ _ hi=>cases hi with
   |v=>
    have:=VR.sl (M:=M) (N:=N) s.nx 0 len sz cap hu h0 hl hc (by rw[hE,WQ];exact he);rw[hb,X0] at this;exact this
theorem A6 {b e d:Nat} {o:AO} (hX:X b=some (.obj o e)) (hd:s.f.get d= .iv (.v (.map (some b)))):
  SX nt s X (fun t Y=>t=⟨(d, .mp s.nx)::s.f,(s.nx,some o)::s.h,s.nx+1⟩∧Y=X.put b (.out s.nx e)):=
 CD hX fun M N U x hu hb hE hv=>by
  rw[hd] at hv
  cases hv with
  |iv _ _ hi=>cases hi with
   |v=>
    have:=VR.mp (M:=M) (N:=N) s.nx hu;rw[hb] at this;exact this
theorem Rel.drop {M:Mem} {N:Nm} {n:Nat} {h:AH} {w:World} (hr:Rel M N (· <n) h w) (i:Nat):Rel M N (· <n) ((i,none)::h) w:=
 ⟨hr.cZ,fun j o hj=>hr.used j o (ba j o hj).2,fun j o hj hre=>hr.dA j o (ba j o hj).2 hre,fun j o hj=>hr.obj j o (ba j o hj).2,fun j l o p hj hl ho hp he=>hr.inj j l o p (ba j o hj).2 (ba l p hl).2 ho hp he⟩
theorem zL {M:Mem} {N:Nm} {n:Nat} {h:AH} {w:World} (hr:Rel M N (· <n) h w) (hs:cQ M N n h X w) {i:Nat} {o:AO} (hi:h.get i=some o) (hre:o.real=true) (hfl:o.all PV.flat):
  fS M N n h X w M N n ((i,none)::h) (X.put (N.aG i) (.obj o (N.ext i))) w∧cQ M N n ((i,none)::h) (X.put (N.aG i) (.obj o (N.ext i))) w:=by
 refine⟨⟨rfl,rfl,rfl,Wz _,fun _ _ _=>rfl, .refl _,fun b c h1 h2=>by simp[h1] at h2, .refl _ _,Wz _,fun c hc=> .inr ?_⟩,fun c q g hc=>?_,fun c q g hc=>?_,fun c q g hc=>?_,fun c q g hc j r hj hrr=>?_,fun c j g hc=>?_⟩
 ·rcases hc with⟨j,q,h1,h2,h3⟩|⟨q,g,h1⟩
  ·exact .inl ⟨j,q,(ba j q h1).2,h2,h3⟩
  ·by_cases hcb:c=N.aG i
   ·exact .inl ⟨i,o,hi,hre,hcb.symm⟩
   ·rw[aZ.im _ _ hcb] at h1;exact .inr ⟨q,g,h1⟩
 all_goals by_cases hcb:c=N.aG i
 ·subst hcb;rw[aZ.eK] at hc;cases hc;exact hre
 ·rw[aZ.im _ _ hcb] at hc;exact hs.real c q g hc
 ·subst hcb;rw[aZ.eK] at hc;cases hc
  exact OR.move (G:=PV.flat) (N:=N) (i:=i) (.refl _) hfl (fun p x hg hv=>hv.Jj hg) rfl rfl rfl (hr.obj i o hi)
 ·rw[aZ.im _ _ hcb] at hc;exact hs.obj c q g hc
 ·subst hcb;exact hr.dA i o hi hre
 ·rw[aZ.im _ _ hcb] at hc;exact hs.cZ c q g hc
 ·obtain⟨h1,h2⟩:=ba j r hj
  subst hcb;exact fun e=>h1 (hr.inj j i r o h2 hi hrr hre e)
 ·rw[aZ.im _ _ hcb] at hc;exact hs.apart c q g hc j r (ba j r hj).2 hrr
 ·subst hcb;rw[aZ.eK] at hc;cases hc
 ·rw[aZ.im _ _ hcb] at hc;exact hs.out c j g hc
theorem Uy {b e i:Nat} {o:AO} (hX:X b=some (.out i e)) (hi:s.h.get i=some o) (hre:o.real=true) (hfl:o.all PV.flat):
  SX nt s X (fun t Y=>t=⟨s.f,(i,none)::s.h,s.nx⟩∧Y=X.put b (.obj o e)):=by
 intro M N a w hf hs;obtain⟨h1,rfl,rfl⟩:=hs.out b i e hX;obtain⟨h2,h3⟩:=zL hf.1 hs hi hre hfl;exact⟨M,N,⟨s.f,(i,none)::s.h,s.nx⟩,_,h2,⟨hf.1.drop i,hf.2⟩,h3,rfl,rfl⟩
theorem CE {i d:Nat} {o:AO} {G:Nat→Nat→PV→Prop} (hst:X.still) (hi:s.h.get i=some o) (hre:o.real=true) (hfl:o.all PV.flat)
  (hq: ∀(M:Mem) (N:Nm) (U:Nat→Prop) (x:Value),VR M N U (s.f.get d) x→ ∃q,G (N.aG i) (N.ext i) q∧VR M N U q x):
  SX nt s X (fun t Y=> ∃b e q,X b=none∧G b e q∧t=⟨(d,q)::s.f,(i,none)::s.h,s.nx⟩∧Y=X.put b (.obj o e)):=by
 intro M N a w hf hs;obtain⟨h2,h3⟩:=zL hf.1 hs hi hre hfl;obtain⟨q,h4,h5⟩:=hq M N _ _ (hf.2.1 d);refine⟨M,N,⟨(d,q)::s.f,(i,none)::s.h,s.nx⟩,_,h2,⟨hf.1.drop i,fun k=>?_,hf.2.2⟩,h3,N.aG i,N.ext i,q,?_,h4,rfl,rfl⟩
 ·rw[AF.aA]
  split
  ·rename_i hk;subst hk;exact h5
  ·exact hf.2.1 k
 ·cases hx:X (N.aG i) with
  |none=>rfl
  |some y=>
   cases y with
   |obj p g=>exact absurd rfl (hs.apart _ p g hx i o hi hre)
   |out j g=>exact absurd hx (hst _ _ _)
theorem ue {i d len sz:Nat} {o:AO} (hst:X.still) (hi:s.h.get i=some o) (hre:o.real=true) (hfl:o.all PV.flat) (hd:s.f.get d= .sl i 0 len sz) (h0:0<len):
  SX nt s X (fun t Y=> ∃b e cap,X b=none∧len≤cap∧cap≤maxLen∧cap*sz=e∧t=⟨(d, .iv (.v (.slice (some ⟨b,0,none⟩) len cap)))::s.f,(i,none)::s.h,s.nx⟩∧Y=X.put b (.obj o e)):=by
 intro M N a w hf hs
 obtain⟨M',N',t,Y,h1,h2,h3,b,e,q,h4,⟨cap,h5,h6,h7,rfl⟩,h8,h9⟩:=CE (G:=fun b e q=> ∃cap,len≤cap∧cap≤maxLen∧cap*sz=e∧q= .iv (.v (.slice (some ⟨b,0,none⟩) len cap))) (d:=d) hst hi hre hfl (fun M N U x hv=>by
  rw[hd] at hv
  cases hv with
  |sl _ _ _ _ cap hu h0 hl hc he=>exact⟨_,⟨cap,hl,hc,by rw[WQ] at he;exact he,rfl⟩,by rw[X0];exact .iv _ _ (.v _)⟩
  |lQ=>exact absurd h0 (Nat.lt_irrefl _)) M N a w hf hs
 exact⟨M',N',t,Y,h1,h2,h3,b,e,cap,h4,h5,h6,h7,h8,h9⟩
theorem A7 {i d:Nat} {o:AO} (hst:X.still) (hi:s.h.get i=some o) (hre:o.real=true) (hfl:o.all PV.flat) (hd:s.f.get d= .mp i):
  SX nt s X (fun t Y=> ∃b e,X b=none∧t=⟨(d, .iv (.v (.map (some b))))::s.f,(i,none)::s.h,s.nx⟩∧Y=X.put b (.obj o e)):=by
 intro M N a w hf hs
 obtain⟨M',N',t,Y,h1,h2,h3,b,e,q,h4,rfl,h8,h9⟩:=CE (G:=fun b e q=>q= .iv (.v (.map (some b)))) (d:=d) hst hi hre hfl (fun M N U x hv=>by
  rw[hd] at hv
  cases hv with
  |mp _ hu=>exact⟨_,rfl, .iv _ _ (.v _)⟩) M N a w hf hs
 exact⟨M',N',t,Y,h1,h2,h3,b,e,h4,h8,h9⟩
inductive Up (X:aZ):Value→IV→Prop
 | row (b len cap sz e:Nat) (es:List (List PV)) (el:Nat→List IV) (hX:X b=some (.obj (.row sz es) e)) (hn:len=es.length) (hl:len≤cap) (hc:cap≤maxLen) (hel: ∀k e,es[k]? =some e→e=(el k).map .iv):
   Up X (.slice (some ⟨b,0,none⟩) len cap) (.cz sz len el)
 |map {V:Type} (b e:Nat) (kc:KC) (ev:V→IV) (z:V) (zv:Value) (dv:PV→V) (m:List (kc.K×V)) (hX:X b=some (.obj (.map kc ev z zv dv m) e)):Up X (.map (some b)) (.dK kc ev z zv m)
 |eE {V:Type} (b e:Nat) (kc:KC) (ev:V→IV) (z:V) (zv:Value) (hX:X b=some (.obj .eE e)) (hz: ∀M,IR M (ev z) zv):Up X (.map (some b)) (.dK kc ev z zv [])
 |BA (y:Value):Up X y (.v y)
 |nil (sz:Nat) (el:Nat→List IV) (a:Option Addr) (cap:Nat):Up X (.slice a 0 cap) (.cz sz 0 el)
theorem CQ {M:Mem} {N:Nm} {n:Nat} {h:AH} {w:World} (hr:Rel M N (· <n) h w) (hs:cQ M N n h X w):
  ∃M':Mem,M.le M'∧fS M N n h X w M' N n h aZ.nil w∧Rel M' N (· <n) h w∧ ∀y p,Up X y p→IR M' p y:=by
 let M':Mem:=⟨fun b=>match X b with
  |some (.obj _ _)=>(match w.heap[b]? with|some (.cells c _ _)=>some (.cells c)|some (.map es cl)=>some (.map es cl)|_=>none)
  |_=>M.fn b,fun b c hb=>by
   have:=M.Kk b c hb
   cases hx:X b with
   |none=>simpa using this
   |some y=>cases y with
    |obj o e=>exact absurd (this.symm.trans (hs.cZ b o e hx)) (by simp)
    |out i e=>simpa using this⟩
 have hMo: ∀b,(∀o e,X b≠some (.obj o e))→M' b=M b:=fun b hb=>by
  show(match X b with|some (.obj _ _)=>_|_=>M.fn b)=M.fn b
  cases hx:X b with
  |none=>rfl
  |some y=>cases y with
   |obj o e=>exact absurd hx (hb o e)
   |out i e=>rfl
 have hMx: ∀b o e,X b=some (.obj o e)→M' b=(match w.heap[b]? with|some (.cells c _ _)=>some (MB.cells c)|some (.map es cl)=>some (MB.map es cl)|_=>none):=fun b o e hb=>by
  show(match X b with|some (.obj _ _)=>_|_=>M.fn b)=_;rw[hb]
 have hle:M.le M':=fun b c hb=>by
  rw[hMo b fun o e hx=>absurd (hb.symm.trans (hs.cZ b o e hx)) (by simp)];exact hb
 refine⟨M',hle,⟨rfl,rfl,rfl,Wz _,fun _ _ _=>rfl,hle,fun b c h1 h2=>?_, .refl _ _,Wz _,fun c hc=> .inr ?_⟩,⟨fun b c hb=>?_,hr.used,fun i o hi hre=>?_,fun i o hi=>(hr.obj i o hi).mono hle (.refl _ _) (fun _ h=>h) (hr.used i o hi) rfl,hr.inj⟩,fun y p hu=>?_⟩
 ·cases hx:X b with
  |none=>rw[hMo b (by simp[hx]),h1] at h2;cases h2
  |some y=>cases y with
   |obj o e=>exact .inr (.inr ⟨o,e,hx⟩)
   |out i e=>rw[hMo b (by simp[hx]),h1] at h2;cases h2
 ·rcases hc with hc|⟨o,e,hc⟩
  ·exact .inl hc
  ·cases hc
 ·cases hx:X b with
  |none=>rw[hMo b (by simp[hx])] at hb;exact hr.cZ b c hb
  |some y=>cases y with
   |out i e=>rw[hMo b (by simp[hx])] at hb;exact hr.cZ b c hb
   |obj o e=>
    rw[hMx b o e hx] at hb;split at hb
    ·rename_i hh;cases hb;exact⟨_,_,hh⟩
    ·rename_i hh;cases hb;exact hh
    ·cases hb
 ·rw[hMo _ fun q e hx=>hs.apart _ q e hx i o hi hre rfl];exact hr.dA i o hi hre
 ·cases hu with
  |BA=>exact .v _
  |nil=>exact .gp _ _ _ _
  |eE b e kc ev z zv hX hz=>
   have h1:=hs.obj b _ e hX;have h2:M' b=some (.map #[] 0):=by rw[hMx b _ e hX];rw[show w.heap[b]? =some (.map #[] 0) from h1]
   exact .dK _ _ _ _ _ b #[] 0 h2 rfl (by simp) (by simp) (hz M') (by simp) (by simp)
  |map b e kc ev z zv dv m hX=>
   obtain⟨ents,cl,h1,h2,h3⟩:=hs.obj b _ e hX;have h4:M' b=some (.map ents cl):=by rw[hMx b _ e hX];rw[show w.heap[b]? =some (.map ents cl) from h1]
   have h5:=h2.mono hle
   exact .dK _ _ _ _ _ b ents cl h4 h5.size h5.key h5.val (h3.mono hle) h5.inj h5.lt
  |row b len cap sz e es el hX hn hl hc hel=>
   rcases hs.obj b _ e hX with h0|⟨h0,c,T,g1,g2,g3,g4,g5⟩
   ·have:=hs.real b _ e hX
    rw[h0] at this;cases this
   have h4:M' b=some (.cells c):=by rw[hMx b _ e hX];rw[show w.heap[b]? =some (.cells c T (0,0)) from g1]
   have hcell: ∀o,M'.cell b o=c[o]? :=fun o=>by simp only[Mem.cell,h4]
   have hek: ∀k,k<len→ ∃e,es[k]? =some e:=fun k hk=>⟨_,Wt (by omega)⟩
   have hlt: ∀k j,k<len→j<sz→k*sz+j<c.size:=fun k j hk hj=>by
    have:(k+1)*sz≤es.length*sz:=WR _ (by omega);rw[Xw] at this;omega
   refine .cz _ _ _ _ _ _ hl hc (fun k hk=>?_) (fun k j hk hj=>?_) (fun k j p hk hp=>?_)
   ·obtain⟨e,he⟩:=hek k hk
    have:=g4 _ e he;rw[hel _ e he] at this;simpa using this
   ·rw[hcell,WQ];simp[hlt k j hk hj]
   ·obtain⟨e,he⟩:=hek k hk
    have h9:=g4 _ e he;have h10:=hel _ e he;have hj:j<sz:=by rw[←h9,h10,W3];exact(Wr.1 hp).1
    have:=g5 _ e j (.iv p) he (by rw[h10,Ww,hp];rfl);rw[hcell,WQ];rw[Wm] at this
    cases this with
    |iv _ _ h=>exact h.mono hle
def Up1 (X:aZ) (p p':PV):Prop:=p'=p∨ ∃y q,p= .iv (.v y)∧p'= .iv q∧Up X y q
inductive KP (X:aZ):AO→AO→Prop
 | row (sz:Nat) (es es':List (List PV)) (hl:es'.length=es.length) (h: ∀(k:Nat) (e':List PV),es'[k]? =some e'→ ∃e,es[k]? =some e∧e'.length=e.length∧ ∀(j:Nat) (p':PV),e'[j]? =some p'→ ∃p,e[j]? =some p∧Up1 X p p'):
   KP X (.row sz es) (.row sz es')
 | map {V V':Type} (kc:KC) (ev:V→IV) (z:V) (zv:Value) (dv:PV→V) (m:List (kc.K×V)) (ev':V'→IV) (z':V') (dv':PV→V') (m':List (kc.K×V')) (hl:m'.length=m.length)
   (h: ∀(j:Nat) (x':kc.K×V'),m'[j]? =some x'→ ∃x y,m[j]? =some x∧x'.1=x.1∧ev x.2= .v y∧Up X y (ev' x'.2)) (hz: ∀M,IR M (ev' z') zv):KP X (.map kc ev z zv dv m) (.map kc ev' z' zv dv' m')
theorem KP.or {M M':Mem} {N:Nm} {U:Nat→Prop} {w:World} {i:Nat} {o o':AO} (hle:M.le M') (hu: ∀y p,Up X y p→IR M' p y) (h:KP X o o') (ho:OR M N U w i o):OR M' N U w i o':=by
 have hv: ∀p p' x,Up1 X p p'→VR M N U p x→VR M' N U p' x:=by
  rintro p p' x (rfl|⟨y,q,rfl,rfl,h3⟩) hx
  ·exact hx.mono hle (.refl _ _) (fun _ h=>h)
  ·cases hx with
   |iv _ _ hi=>cases hi with
    |v=>exact .iv _ _ (hu _ _ h3)
 cases h with
 |row sz es es' hl h=>
  rcases ho with rfl|⟨h0,c,T,g1,g2,g3,g4,g5⟩
  ·left;exact XS.1 hl
  ·refine .inr ⟨h0,c,T,g1,g2,by rw[hl];exact g3,fun k e' he'=>?_,fun k e' j p' he' hp'=>?_⟩
   ·obtain⟨e,h1,h2,_⟩:=h k e' he'
    rw[h2];exact g4 k e h1
   ·obtain⟨e,h1,_,h3⟩:=h k e' he'
    obtain⟨p,h4,h5⟩:=h3 j p' hp'
    exact hv _ _ _ h5 (g5 k e j p h1 h4)
 |map kc ev z zv dv m ev' z' dv' m' hl h hz=>
  obtain⟨ents,cl,g1,g2,g3⟩:=ho;refine⟨ents,cl,g1,⟨g2.size.trans hl.symm,fun j x' hx'=>?_,fun j x' hx'=>?_,g2.inj,g2.lt⟩,hz M'⟩
  ·obtain⟨x,y,h1,h2,_⟩:=h j x' hx'
   rw[h2];exact g2.key j x h1
  ·obtain⟨x,y,h1,_,h3,h4⟩:=h j x' hx'
   have:=g2.val j x h1;rw[h3] at this;generalize(ents.getD j default).val=v at this ⊢
   cases this with
   |v=>exact hu _ _ h4
theorem KP.real {o o':AO} (h:KP X o o'):o'.real=o.real:=by
 cases h with
 |row sz es es' hl h=>cases es<;>cases es'<;>first|rfl|simp at hl
 |map=>rfl
theorem CF {i:Nat} {o o':AO} (hi:s.h.get i=some o) (hu:KP X o o'):SX nt s X (fun t Y=>t=⟨s.f,(i,some o')::s.h,s.nx⟩∧Y=aZ.nil):=by
 intro M N a w hf hs;obtain⟨M',h1,h2,h3,h4⟩:=CQ hf.1 hs
 have hget: ∀j q,AH.get ((i,some o')::s.h) j=some q→ ∃q',s.h.get j=some q'∧q.real=q'.real∧(q=q'∨(j=i∧q=o')):=by
  intro j q hj;rw[AH.aA] at hj;split at hj
  ·rename_i hji;subst hji;cases hj;exact⟨o,hi,hu.real, .inr ⟨rfl,rfl⟩⟩
  ·exact⟨q,hj,rfl, .inl rfl⟩
 refine⟨M',N,⟨s.f,(i,some o')::s.h,s.nx⟩,aZ.nil,?_,⟨⟨h3.cZ,fun j q hj=>?_,fun j q hj hr=>?_,fun j q hj=>?_,fun j k q r hj hk hq hr he=>?_⟩,fun k=>(hf.2.1 k).mono h1 (.refl _ _) (fun _ h=>h),hf.2.2⟩, .nil ..,rfl,rfl⟩
 ·exact⟨h2.os,h2.tape,h2.output,h2.size,h2.gd,h2.ow,h2.gn,h2.nm,h2.ule,fun b hb=> .inr<|by
   rcases hb with⟨j,q,g1,g2,g3⟩|⟨q,g,g1⟩
   ·obtain⟨q',g4,g5,_⟩:=hget j q g1
    exact .inl ⟨j,q',g4,g5▸g2,g3⟩
   ·cases g1⟩
 ·obtain⟨q',g4,_⟩:=hget j q hj
  exact hf.1.used j q' g4
 ·obtain⟨q',g4,g5,_⟩:=hget j q hj
  exact h3.dA j q' g4 (g5▸hr)
 ·obtain⟨q',g4,_,rfl|⟨rfl,rfl⟩⟩:=hget j q hj
  ·exact h3.obj j _ g4
  ·exact hu.or h1 h4 (hf.1.obj j o hi)
 ·obtain⟨q',g4,g5,_⟩:=hget j q hj
  obtain⟨r',g6,g7,_⟩:=hget k r hk;exact hf.1.inj j k q' r' g4 g6 (g5▸hq) (g7▸hr) he
theorem Rel.congr {M:Mem} {N:Nm} {U:Nat→Prop} {h h':AH} {w:World} (he: ∀i,h'.get i=h.get i) (hr:Rel M N U h w):Rel M N U h' w:=
 ⟨hr.cZ,fun i o hi=>hr.used i o (he i▸hi),fun i o hi=>hr.dA i o (he i▸hi),fun i o hi=>hr.obj i o (he i▸hi),fun i j o p hi hj=>hr.inj i j o p (he i▸hi) (he j▸hj)⟩
end
end Go.Al
namespace Go.Al
section
variable {P:Program}
section
variable {nt:Nat} {Q:XQ} {k0:List XI} {s:AS} {X:aZ}
theorem zH {t:AS} (hh:t.h=s.h) (hn:t.nx=s.nx) (h: ∀M N a w,Fits M N s nt a w→cQ M N s.nx s.h X w→FR M N (· <s.nx) t.f a.tmps):SX nt s X (fun t' Y=>t'=t∧Y=X):=by
 intro M N a w hf hs;obtain⟨f,h',n⟩:=t;simp only at hh hn;subst hh;subst hn;exact⟨M,N,⟨f,s.h,s.nx⟩,X, .refl _ _ _ _ _ _,⟨hf.1,h M N a w hf hs,hf.2.2⟩,hs,rfl,rfl⟩
theorem Pm {d:Nat} {p:PV} (hle:ah (s.f.get d) p):SX nt s X (fun t Y=>t=⟨(d,p)::s.f,s.h,s.nx⟩∧Y=X):=
 zH rfl rfl fun M N a w hf _ k=>by
  rw[AF.aA];split
  ·rename_i hk;subst hk;exact hle M N _ _ (hf.2.1 k)
  ·exact hf.2.1 k
theorem CG {b j e d:Nat} {p:PV} (hX:X b=some (.out j e)) (hp: ∀(M:Mem) (N:Nm) (U:Nat→Prop) (x:Value),U j→N.aG j=b→N.ext j=e→VR M N U (s.f.get d) x→VR M N U p x):
  SX nt s X (fun t Y=>t=⟨(d,p)::s.f,s.h,s.nx⟩∧Y=X):=
 zH rfl rfl fun M N a w hf hs k=>by
  obtain⟨h1,h2,h3⟩:=hs.out b j e hX;rw[AF.aA];split
  ·rename_i hk;subst hk;exact hp M N _ _ h1 h2 h3 (hf.2.1 k)
  ·exact hf.2.1 k
theorem yM {M:Mem} {N:Nm} {n:Nat} {h:AH} {w:World} (hr:Rel M N (· <n) h w) {i:Nat} {o o':AO} (hi:h.get i=some o) (hre:o'.real=true→o.real=true) (ho:OR M N (· <n) w i o'):Rel M N (· <n) ((i,some o')::h) w:=by
 have hget: ∀j q,AH.get ((i,some o')::h) j=some q→(j=i∧q=o')∨(j≠i∧h.get j=some q):=by
  intro j q hj;rw[AH.aA] at hj;split at hj
  ·rename_i hji;exact .inl ⟨hji,by simpa using hj.symm⟩
  ·rename_i hji;exact .inr ⟨hji,hj⟩
 refine⟨hr.cZ,fun j q hj=>?_,fun j q hj hrr=>?_,fun j q hj=>?_,fun j k q r hj hk hq hrr he=>?_⟩
 ·rcases hget j q hj with⟨rfl,rfl⟩|⟨_,h2⟩
  ·exact hr.used j o hi
  ·exact hr.used j q h2
 ·rcases hget j q hj with⟨rfl,rfl⟩|⟨_,h2⟩
  ·exact hr.dA j o hi (hre hrr)
  ·exact hr.dA j q h2 hrr
 ·rcases hget j q hj with⟨rfl,rfl⟩|⟨_,h2⟩
  ·exact ho
  ·exact hr.obj j q h2
 ·rcases hget j q hj with⟨rfl,rfl⟩|⟨g1,h2⟩<;>rcases hget k r hk with⟨g2,h3⟩|⟨g2,h3⟩
  ·exact g2.symm
  ·exact hr.inj j k o r hi h3 (hre hq) hrr he
  ·subst g2;subst h3
   exact hr.inj j k q o h2 hi hq (hre hrr) he
  ·exact hr.inj j k q r h2 h3 hq hrr he
theorem RC {i:Nat} {o o':AO} (hi:s.h.get i=some o) (hre:o'.real=true→o.real=true) (ho: ∀M N w,cQ M N s.nx s.h X w→OR M N (· <s.nx) w i o→OR M N (· <s.nx) w i o'):
  SX nt s X (fun t Y=>t=⟨s.f,(i,some o')::s.h,s.nx⟩∧Y=X):=by
 intro M N a w hf hs
 have hget: ∀j q,AH.get ((i,some o')::s.h) j=some q→q.real=true→ ∃q',s.h.get j=some q'∧q'.real=true:=by
  intro j q hj hq;rw[AH.aA] at hj;split at hj
  ·rename_i hji;subst hji;cases hj;exact⟨o,hi,hre hq⟩
  ·exact⟨q,hj,hq⟩
 refine⟨M,N,⟨s.f,(i,some o')::s.h,s.nx⟩,X,⟨rfl,rfl,rfl,Wz _,fun _ _ _=>rfl, .refl _,fun b c h1 h2=>by simp[h1] at h2, .refl _ _,Wz _,fun b hb=> .inr ?_⟩,
  ⟨yM hf.1 hi hre (ho M N w hs (hf.1.obj i o hi)),hf.2⟩,⟨hs.real,hs.obj,hs.cZ,fun b p e hb j q hj hq=>?_,hs.out⟩,rfl,rfl⟩
 ·rcases hb with⟨j,q,h1,h2,h3⟩|hb
  ·obtain⟨q',g1,g2⟩:=hget j q h1 h2
   exact .inl ⟨j,q',g1,g2,h3⟩
  ·exact .inr hb
 ·obtain⟨q',g1,g2⟩:=hget j q hj hq
  exact hs.apart b p e hb j q' g1 g2
theorem RD {i:Nat} {o o':AO} (hi:s.h.get i=some o) (hle:eU o o'):SX nt s X (fun t Y=>t=⟨s.f,(i,some o')::s.h,s.nx⟩∧Y=X):=
 RC hi hle.1 fun M N w _ h=>hle.2 M N _ w i h
end
end
end Go.Al
namespace Go.Al
section
variable {P:Program} {nt:Nat} {Q:XQ} {k0:List XI} {s:AS} {X:aZ} {ty:Ty}
theorem y6 {c:Code} {R R':AS→aZ→Prop} (h: ∀t Y,R t Y→R' t Y) (hg:GX P nt (.code c:: .lp R::k0) Q s X):GX P nt (.code c:: .lp R'::k0) Q s X:=by
 intro M N a w hf hs;refine AX.then hg hf hs fun e a' w' M' N' s' X' hx hf' hs' hr=>⟨M',N',s',X',hx,hf',hs',?_⟩
 cases e with
 |normal=>exact h _ _ hr
 |_=>exact hr
theorem sQ {body:Code} {σ:Type 1} (i0 n:Nat) (hi0:i0≤n) (I:Nat→σ→AS) (J:Nat→σ→aZ→Prop) (x0:σ) (L0:List Nat) (j0:J i0 x0 X) (h0:Wk s.nx L0 s (I i0 x0)) (hst: ∀i x Y,J i x Y→Y.still)
  (round: ∀i x Y,i≤n→J i x Y→GX P nt (.code body:: .lp (fun t Y'=>i<n∧ ∃x' L,J (i+1) x' Y'∧Wk s.nx L t (I (i+1) x'))::k0) Q (I i x) Y):GX P nt (.code (.loop body)::k0) Q s X:=by
 refine UW (σ:={p:Nat×σ×aZ//p.1≤n∧J p.1 p.2.1 p.2.2}) (fun p=>I p.1.1 p.1.2.1) (fun p=>p.1.2.2) (fun p=>n-p.1.1) ⟨(i0,x0,X),hi0,j0⟩ L0 h0 rfl (fun p=>hst _ _ _ p.2.2) fun p=>?_;obtain⟨⟨i,x,Y⟩,h1,h2⟩:=p;refine y6 ?_ (round i x Y h1 h2)
 rintro t Y' ⟨h3,x',L,h4,h5⟩
 exact⟨⟨(i+1,x',Y'),h3,h4⟩,L,by show n-(i+1)<n-i;omega,h5,rfl⟩
end
end Go.Al
namespace Go.Al
section
variable {P:Program} {nt:Nat} {Q:XQ} {k:List XI} {s:AS} {X:aZ}
def GoW (P:Program) (nt:Nat) (k:List XI) (Q:XQ) (X:aZ) (n0:Nat) (t:AS):AQ:=fun e u=>(e= .normal∧ ∃L,Wk n0 L u t)∨(e≠ .normal∧kx P nt k Q e u X)
theorem sR {n0:Nat} {t u:AS} (L:List Nat) (h:Wk n0 L u t):GoW P nt k Q X n0 t .normal u:= .inl ⟨rfl,L,h⟩
theorem p5 {c:Code} (t:AS) (h1:GO P nt [.code c] (GoW P nt k Q X s.nx t) s) (h2:GX P nt k Q t X):GX P nt (.code c::k) Q s X:=by
 intro M N a w hf hs;refine AW.then h1 hf fun e a' w' M' N' u hx hfu hr=>?_;rcases hr with⟨rfl,L,hw⟩|⟨_,hr⟩
 ·obtain⟨g1,g2⟩:=fS.frame (hw.ext hx) hs
  exact⟨M',_,t,X,g1,hw.fits hfu,g2,h2⟩
 ·obtain⟨g1,g2⟩:=fS.frame hx hs
  exact⟨M',N',u,X,g1,hfu,g2,hr⟩
def aZ.drop (X:aZ) (b:Nat):aZ:=fun c=>if c=b then none else X c
theorem A8 (b:Nat):SX nt s X (fun t Y=>t=s∧Y=X.drop b):=by
 intro M N a w hf hs
 have h: ∀c y,X.drop b c=some y→X c=some y:=fun c y hc=>by
  unfold aZ.drop at hc;split at hc
  ·cases hc
  ·exact hc
 refine⟨M,N,s,X.drop b,⟨rfl,rfl,rfl,Wz _,fun _ _ _=>rfl, .refl _,fun c d h1 h2=>by simp[h1] at h2, .refl _ _,Wz _,fun c hc=> .inr ?_⟩,hf,⟨fun c o e hc=>hs.real c o e (h c _ hc),fun c o e hc=>hs.obj c o e (h c _ hc),fun c o e hc=>hs.cZ c o e (h c _ hc),fun c o e hc=>hs.apart c o e (h c _ hc),fun c i e hc=>hs.out c i e (h c _ hc)⟩,rfl,rfl⟩;rcases hc with hc|⟨o,e,hc⟩
 ·exact .inl hc
 ·exact .inr ⟨o,e,h c _ hc⟩
end
end Go.Al
namespace Go.Proofs.YtflegjieadkonaaGreatDoor
open Go Go.Al
set_option maxRecDepth 10000
def Vx (b:Option Nat):IV:= .v (.map b)
def dvR (p:PV):Option Nat:=match p with
 | .iv (.v (.map b))=>b
 |_=>none
abbrev RM:=List ((KC.str).K×Option Nat)
abbrev gO (m:RM):AO:= .map .str Vx none (.map none) dvR m
abbrev wv:=Nat×Nat
def jc (l:List Decl) (B:List wv):RM:=Zk (fun d b=>(d.name,some b.1)) l B
def de (L:List (Nat×Nat×NM)):aZ:=fun b=>(L.find? fun y=>y.1==b).map fun y=> .obj (cj y.2.2) y.2.1
theorem fU (L:List (Nat×Nat×NM)):(de L).still:=by
 intro b i e h;unfold de at h;cases hf:L.find? fun y=>y.1==b<;>rw[hf] at h<;>cases h
def rowsOf (l:List Decl) (B:List wv) (hs:List (aj×aj×Nat)):List (Nat×Nat×NM):=Zk (fun d b=>(b.1,b.2,bZ hs d.name)) l B
theorem BE {V:Type} {kc:KC} {ev:V→IV} {z:V} {zv:Value} {dv:PV→V} (hz: ∀M,IR M (ev z) zv):eU .eE (.map kc ev z zv dv []):=
 ⟨id,fun M N U w j hj=>⟨#[],0,hj,⟨rfl,by simp,by simp,by simp,by simp⟩,hz M⟩⟩
structure BOK (l:List Decl) (i:Nat) (B:List wv):Prop where
 len:B.length=i
 nd:(B.map WT).Nodup
theorem xf (l:List Decl):jc l []=[]:=by cases l<;>rfl
theorem r8 (l:List Decl) (hs:List (aj×aj×Nat)):rowsOf l [] hs=[]:=by cases l<;>rfl
theorem yA (l:List Decl) (hs:List (aj×aj×Nat)):de (rowsOf l [] hs)=aZ.nil:=by rw[r8];rfl
theorem rL {α β γ:Type} [Inhabited α] (f:α→β→γ): ∀(l:List α) (B:List β) (x:β),B.length<l.length→Zk f l (B++ [x])=Zk f l B++ [f (l.getD B.length default) x]
 |a::l,[],x,_=>by simp
 |a::l,b::B,x,h=>by
  have:=rL f l B x (by simpa using h)
  simp[this]
 | [],B,x,h=>absurd h (Yz _)
theorem JX {B:List wv} {b e:Nat} (h:(B.map WT).Nodup) (hb:b∉B.map WT):((B++ [(b,e)]).map WT).Nodup:=by
 rw[Wq,XR];exact⟨h,by simp,fun u hu v hv g=>hb (by simp at hv;subst g;subst hv;exact hu)⟩
theorem lZ (hs:List (aj×aj×Nat)): ∀(l:List Decl) (B:List wv),B.length≤l.length→(rowsOf l B hs).map WT=B.map WT
 |_,[],_=>by simp[r8]
 |d::l,b::B,h=>by
  have:=lZ hs l B (by simpa using h);simp only[rowsOf,Zl,WI] at this ⊢
  rw[this]
 | [],b::B,h=>absurd h (by simp)
theorem Bf {l:List Decl} {B:List wv} {hs:List (aj×aj×Nat)} {b:Nat} (hl:B.length≤l.length) (h:de (rowsOf l B hs) b=none):b∉B.map WT:=by
 rw[←lZ hs l B hl];intro hm;obtain⟨y,hy,rfl⟩:=W4.1 hm;unfold de at h;rw[Yh,XC] at h;exact h y hy (by simp)
theorem wT (L:List (Nat×Nat×NM)) (y:Nat×Nat×NM) (h:y.1∉L.map WT):de (L++ [y])=(de L).put y.1 (.obj (cj y.2.2) y.2.1):=by
 funext c
 unfold de aZ.put;rw[List.find?_append];by_cases hc:c=y.1
 ·subst hc
  rw[if_pos rfl]
  have:L.find? (fun z=>z.1==y.1)=none:=XC.2 fun z hz=>by
   simp only[beq_iff_eq];exact fun e=>h (e▸Xs hz)
  rw[this];simp
 ·rw[if_neg hc]
  have: ¬y.1=c:=fun e=>hc e.symm;cases hf:L.find? (fun z=>z.1==c)<;>simp[this,hf]
theorem Be {l:List Decl} {B:List wv} {b e:Nat} (hl:B.length<l.length) (hb:b∉B.map WT):de (rowsOf l (B++ [(b,e)]) [])=(de (rowsOf l B [])).put b (.obj (cj []) e):=by
 have h:rowsOf l (B++ [(b,e)]) []=rowsOf l B []++ [(b,e,[])]:=rL _ l B (b,e) hl;rw[h];exact wT _ _ (by rw[lZ _ _ _ (Nat.le_of_lt hl)];exact hb)
theorem xe: ∀(l:List Decl) (B:List wv),B.length≤l.length→(jc l B).map WT=(l.take B.length).map Decl.name
 |_,[],_=>by simp[xf]
 |d::l,b::B,h=>by
  have:=xe l B (by simpa using h);simp only[jc,Zl,WI,W2,XE] at this ⊢
  rw[this]
 | [],b::B,h=>absurd h (by simp)
theorem JM {V:Type} {m:List ((KC.str).K×V)} {s:aj} {v:V} (h:s∉m.map WT):bS .str m s v=m++ [(s,v)]:=by
 induction m with
 |nil=>rfl
 |cons x r ih=>
  obtain⟨a,c⟩:=x;simp only[WI,WG,not_or] at h;have: ¬a=s:=fun e=>h.1 e.symm;simp only[bS,if_neg this,ih h.2];rfl
theorem Df {l:List Decl} {B:List wv} {i b e:Nat} (hn:(l.map Decl.name).Nodup) (hi:B.length=i) (hl:i<l.length):bS .str (jc l B) (l.getD i default).name (some b)=jc l (B++ [(b,e)]):=by
 subst hi;have h:jc l (B++ [(b,e)])=jc l B++ [((l.getD B.length default).name,some b)]:=rL _ l B (b,e) hl;rw[h];apply JM;rw[xe l B (Nat.le_of_lt hl)];intro hm;have h2:l.map Decl.name=(l.take B.length).map Decl.name++(l.drop B.length).map Decl.name:=by rw[←Wq,X6]
 rw[h2,XR] at hn;refine hn.2.2 _ hm _ (W4.2 ⟨l.getD B.length default,?_,rfl⟩) rfl;rw[Ws,Wt hl];exact List.mem_drop_iff_getElem.2 ⟨0,by simpa using hl,by simp⟩
def oY (r:ak) (l:Lit):List (aj×aj×Nat):=(named l).map fun t=>(r.head.rel,t,jJ l)
def An (r:ak):List (aj×aj×Nat):=r.body.flatMap (oY r)
theorem Aw: ∀{L:List (Nat×Nat×NM)} {j:Nat} {y:Nat×Nat×NM},(L.map WT).Nodup→L[j]? =some y→L.find? (fun z=>z.1==y.1)=some y
 | [],_,_,_,h=>by simp at h
 |x::L,0,y,_,h=>by
  simp only[YR,Wo] at h
  subst h;simp
 |x::L,j+1,y,hn,h=>by
  rw[Yt] at h;rw[WI,Xu] at hn;have hne: ¬x.1=y.1:=fun e=>hn.1 (e▸Xs (WY h));rw[Zm (by simpa using hne)];exact Aw hn.2 h
theorem oD {l:List Decl} {B:List wv} {hs:List (aj×aj×Nat)} {j:Nat} {d:Decl} {b:wv} (hl:B.length=l.length) (hn:(B.map WT).Nodup) (hd:l[j]? =some d) (hb:B[j]? =some b):de (rowsOf l B hs) b.1=some (.obj (cj (bZ hs d.name)) b.2):=by
 have h:(rowsOf l B hs)[j]? =some (b.1,b.2,bZ hs d.name):=by
  unfold rowsOf;rw[Zq,hd,hb]
 have h2:=Aw (by rw[lZ hs l B (YX hl)];exact hn) h;unfold de;rw[h2];rfl
theorem wR {l:List Decl} {B:List wv} {hs:List (aj×aj×Nat)} {c:Nat} (hl:B.length≤l.length) (h:c∉B.map WT):de (rowsOf l B hs) c=none:=by
 rw[←lZ hs l B hl] at h;unfold de;rw[Yh,XC];intro y hy;simp only[beq_iff_eq];exact fun e=>h (e▸Xs hy)
theorem Bd {l:List Decl} {B:List wv} {hs:List (aj×aj×Nat)} {j h:Nat} {d:Decl} {b:wv} {t:aj} (hl:B.length=l.length) (hn:(B.map WT).Nodup) (hnn:(l.map Decl.name).Nodup) (hd:l[j]? =some d) (hb:B[j]? =some b):
  (de (rowsOf l B hs)).put b.1 (.obj (cj (zx (bZ hs d.name) t h)) b.2)=de (rowsOf l B (hs++ [(d.name,t,h)])):=by
 funext c
 unfold aZ.put;by_cases hc:c=b.1
 ·subst hc
  rw[if_pos rfl,oD hl hn hd hb,kv,if_pos rfl]
 ·rw[if_neg hc]
  by_cases hm:c∈B.map WT
  ·obtain⟨b',hb',rfl⟩:=W4.1 hm
   obtain⟨i,hi,rfl⟩:=XH.1 hb';have hil:i<l.length:=by omega
   have hij:i≠j:=fun e=>hc (by subst e;rw[Wt hi] at hb;cases hb;rfl);rw[oD hl hn (Wt hil) (Wt hi),oD hl hn (Wt hil) (Wt hi),kv,if_neg];intro e;have hj:=(Wr.1 hd)
   obtain⟨hj1,hj2⟩:=hj;apply hij;refine(YJ hnn (h₀:=by simpa using hil) (h₁:=by simpa using hj1)).1 ?_;rw[Y2,Y2,hj2];exact e.symm
  ·rw[wR (YX hl) hm,wR (YX hl) hm]
theorem RT {l:List Decl} {B:List wv} {a:aj} (hl:B.length=l.length) (hnn:(l.map Decl.name).Nodup) (ha:a∈l.map Decl.name): ∃(j:Nat) (d:Decl) (b:wv),l[j]? =some d∧B[j]? =some b∧d.name=a∧bG .str (jc l B) a none=some b.1:=by
 induction l generalizing B with
 |nil=>cases ha
 |cons d l ih=>
  cases B with
  |nil=>cases hl
  |cons b B=>
   by_cases h:d.name=a
   ·exact⟨0,d,b,rfl,rfl,h,by simp[jc,bG,h]⟩
   ·rw[WI,Xu] at hnn
    rw[WI,WG] at ha;obtain⟨j,d',b',h1,h2,h3,h4⟩:=ih (by simpa using hl) hnn.2 (ha.resolve_left fun e=>h e.symm);exact⟨j+1,d',b',h1,h2,h3,by simpa[jc,bG,h] using h4⟩
def dvG (_:PV):Option NM:=none
theorem Cp {p:Prog} {B:List wv} (hl:B.length=p.ar.length) (hn:(B.map WT).Nodup) {hs:List (aj×aj×Nat)}:KP (de (rowsOf p.ar B hs)) (gO (jc p.ar B)) (.map .str Bx none (.map none) dvG (bb p hs)):=by
 refine .map _ _ _ _ _ _ _ _ _ _ (by simp[bb,jc,hl]) (fun j x' hx=>?_) fun M=> .v _
 obtain⟨d,hd,rfl⟩: ∃d,p.ar[j]? =some d∧x'=(d.name,some (bZ hs d.name)):=by
  unfold bb at hx;rw[Ww,Wx] at hx;obtain⟨d,h1,h2⟩:=hx;exact⟨d,h1,h2.symm⟩
 have hjl:j<B.length:=by rw[hl];exact(Wr.1 hd).1
 refine⟨(d.name,some B[j].1), .map (some B[j].1),?_,rfl,rfl,?_⟩
 ·unfold jc
  rw[Zq,hd,Wt hjl]
 ·refine .map B[j].1 B[j].2 .str s4 0 (.int .i64 0) Vr (bZ hs d.name) ?_
  exact oD hl hn hd (Wt hjl)
theorem CX (hS:dH) (p:Prog) (hb:p.fit):Pure Tryz.prog 50 [ag p.c] (.bP [.iv (sS p),pB (decide ((bf p).1=0))]):=by
 refine ax ae Tryz.func50 rfl (by decide) Tryz.ntmps50 rfl (by simp) rfl ?_;refine gA rfl (an (c24 p hb) rfl rfl rfl rfl rfl rfl ?_);refine gA rfl ?_;refine Wl (fun k1=>?_) (fun k1=>?_)
 ·have k1: ¬(bf p).1=0:=by simpa using k1
  rw[sS,if_neg k1,decide_eq_false k1];refine gA rfl (aw (by first|exact .inr rfl|exact .inl rfl) rfl (.of_eq ?_));rfl
 have k1:(bf p).1=0:=by simpa using k1
 have hf:=iF k1;have hln:=hf.len;rw[sS,if_pos k1,decide_eq_true k1];refine gM 1 rfl ?_;refine Pw ?_;refine bR (fy ?_);refine gA rfl ?_;refine bR (bR (p5 ⟨[(1, .ptr 0 0),(4, .mp 2),(20, .iv (cM 4 p.ar Decl.c)),(21,pI p.ar.length),(22,pI 0)],[(0,some (aE p.c)),(2,some (gO []))],3⟩ ?_ ?_))
 ·refine gA rfl (sR [1] ?_)
  exact wk rfl rfl rfl ⟨.refl _,rfl, .refl _,rfl, .refl _,rfl, .refl _,rfl, .refl _,rfl,trivial⟩ (hC rfl rfl rfl (DO rfl (fun _=> .v _) rfl trivial)) rfl
 refine fz (sQ 0 p.ar.length (WC _) (fun i (x:ULift.{1} (List wv))=>⟨[(1, .ptr 0 0),(4, .mp 2),(20, .iv (cM 4 p.ar Decl.c)),(21,pI p.ar.length),(22,pI i)],[(0,some (aE p.c)),(2,some (gO (jc p.ar x.down)))],3⟩)
  (fun i x Y=>BOK p.ar i x.down∧Y=de (rowsOf p.ar x.down [])) ⟨[]⟩ [] ⟨⟨rfl,Xk⟩,(yA p.ar []).symm⟩
  (wk rfl rfl rfl ⟨.refl _,rfl, .refl _,rfl, .refl _,rfl, .refl _,rfl, .refl _,rfl,trivial⟩ (hC rfl rfl rfl (hM rfl (xf p.ar).symm rfl trivial)) rfl) (fun _ _ _ h=>h.2▸fU _) fun i x Y hi hJ=>?_)
 obtain⟨hB,rfl⟩:=hJ;obtain⟨B⟩:=x;refine bR (fy ?_);refine gA rfl ?_;refine bR (o6 rfl (fun h1=>oZ ?_) (fun h1=>o5 ?_))
 ·have h1:i<p.ar.length:=by simpa using h1
  refine bR (fz (bR (fy ?_)));refine gA rfl ?_;refine uN (rD 4 ?_);refine gA rfl ?_;refine vS (RD (i:=4) (o':=cj []) rfl (BE eR)) fun t Y ht=>?_;obtain⟨rfl,rfl⟩:=ht;refine vS (A7 (i:=4) (d:=29) (fU _) rfl rfl trivial rfl) fun t Y ht=>?_;obtain⟨b,e,hbn,rfl,rfl⟩:=ht;refine rD 1 ?_;refine gA rfl ?_;refine sP (vT (fy ?_));refine gA rfl ?_;have hbn':=Bf (by rw[hB.len];exact hi) hbn;exact⟨h1,⟨B++ [(b,e)]⟩,[],⟨⟨by rw[Wn,hB.len];rfl,JX hB.nd hbn'⟩,(Be (by rw[hB.len];exact h1) hbn').symm⟩,wk rfl rfl rfl ⟨.refl _,rfl, .refl _,rfl, .refl _,rfl, .refl _,rfl, .refl _,rfl,trivial⟩ (hC rfl rfl rfl (hM rfl (Df hf.nodup hB.len h1) rfl trivial)) rfl⟩
 have h1:p.ar.length≤i:=by simpa using h1
 have hBl:B.length=p.ar.length:=by have:B.length=i:=hB.len;omega
 have hBn:=hB.nd
 clear hB
 have hrl:p.rules.length≤1000000000:=hb.2.1
 let G:Nat→List (aj×aj×Nat):=fun r=>(p.rules.take r).flatMap An
 change GX _ _ [.code _] _ _ _
 refine bR (bR (p5 ⟨[(1, .ptr 0 0),(4, .mp 2),(32, .iv (cM 5 p.rules ak.c)),(33,pI p.rules.length),(34,pI 0)],[(0,some (aE p.c)),(2,some (gO (jc p.ar B)))],3⟩ ?_ ?_))
 ·refine gA rfl (sR [] ?_)
  exact wk rfl rfl rfl ⟨.refl _,rfl, .refl _,rfl, .refl _,rfl, .refl _,rfl, .refl _,rfl,trivial⟩ (hC rfl rfl rfl (hM rfl rfl rfl trivial)) rfl
 refine fz (sQ 0 p.rules.length (WC _) (fun i (_:PUnit.{2})=>⟨[(1, .ptr 0 0),(4, .mp 2),(32, .iv (cM 5 p.rules ak.c)),(33,pI p.rules.length),(34,pI i)],[(0,some (aE p.c)),(2,some (gO (jc p.ar B)))],3⟩)
  (fun i _ Y=>Y=de (rowsOf p.ar B (G i))) ⟨⟩ [] rfl (wk rfl rfl rfl ⟨.refl _,rfl, .refl _,rfl, .refl _,rfl, .refl _,rfl, .refl _,rfl,trivial⟩ (hC rfl rfl rfl (hM rfl rfl rfl trivial)) rfl) (fun _ _ _ h=>h▸fU _) fun n _ Y hn hJ=>?_)
 subst hJ;refine bR (fy ?_);refine gA rfl ?_;refine bR (o6 rfl (fun h1=>oZ ?_) (fun h1=>o5 ?_));rotate_left
 ·have h1:p.rules.length≤n:=by simpa using h1
  have hGn:G n=aF p:=by show((p.rules.take n).flatMap An)=_;rw[WB h1];rfl
  rw[hGn]
  change GX _ _ [.code _] _ _ _
  refine DP (CF (i:=2) (o':= .map .str Bx none (.map none) dvG (bb p (aF p))) rfl (Cp hBl hBn)) fun t Y ht=>?_;obtain⟨rfl,rfl⟩:=ht;refine fy ?_;refine gA rfl (gP (.inr rfl) rfl (fB.map 2 rfl (.done (.refl _))))
 have h1:n<p.rules.length:=by simpa using h1
 have hR:p.rules.getD n default∈p.rules:=bO h1;have hG1:G (n+1)=G n++An (p.rules.getD n default):=by show((p.rules.take (n+1)).flatMap An)=_;rw[aW h1,Ys];simp;rfl
 have hfit:=hb.2.2 _ hR;have hszR:=hfit.1;have hhead:=hf.Am _ hR;have hlits:=hf.lits _ hR;generalize hRe:p.rules.getD n default=R at hR hG1 hfit hszR hhead hlits;refine bR (fz (bR (fy ?_)));refine gA rfl ?_;refine bR (p5 ⟨[(1, .ptr 0 0),(4, .mp 2),(8, .ptr 3 0),(32, .iv (cM 5 p.rules ak.c)),(33,pI p.rules.length),(34,pI n),(39, .iv (lits R.body)),(40,pI R.body.length),(41,pI 0)],[(0,some (aE p.c)),(2,some (gO (jc p.ar B))),(3,some (aE R.c))],4⟩ ?_ ?_)
 ·refine gA rfl (sR [] ?_)
  subst hRe;exact wk rfl rfl rfl ⟨.refl _,rfl, .refl _,rfl, .refl _,rfl, .refl _,rfl, .refl _,rfl, .refl _,rfl, .refl _,rfl, .refl _,rfl, .refl _,rfl,trivial⟩ (hC rfl rfl rfl (hM rfl rfl rfl (hC rfl rfl rfl trivial))) rfl
 have hbl:R.body.length≤10000000:=by have:=Lit.aL R.body;unfold ak.size at hszR;omega
 refine fz (sQ 0 R.body.length (WC _) (fun i (_:PUnit.{2})=>⟨[(1, .ptr 0 0),(4, .mp 2),(8, .ptr 3 0),(32, .iv (cM 5 p.rules ak.c)),(33,pI p.rules.length),(34,pI n),(39, .iv (lits R.body)),(40,pI R.body.length),(41,pI i)],[(0,some (aE p.c)),(2,some (gO (jc p.ar B))),(3,some (aE R.c))],4⟩)
  (fun i _ Y=>Y=de (rowsOf p.ar B (G n++(R.body.take i).flatMap (oY R)))) ⟨⟩ [] (by simp) (wk rfl rfl rfl ⟨.refl _,rfl, .refl _,rfl, .refl _,rfl, .refl _,rfl, .refl _,rfl, .refl _,rfl, .refl _,rfl, .refl _,rfl, .refl _,rfl,trivial⟩ (hC rfl rfl rfl (hM rfl rfl rfl (hC rfl rfl rfl trivial))) rfl) (fun _ _ _ h=>h▸fU _) fun i _ Y hi2 hJ=>?_)
 subst hJ;refine bR (fy ?_);refine gA rfl ?_;refine bR (o6 rfl (fun h2=>oZ ?_) (fun h2=>o5 ?_));rotate_left
 ·have h2:R.body.length≤i:=by simpa using h2
  rw[WB h2,show G n++R.body.flatMap (oY R)=G (n+1) from hG1.symm]
  change GX _ _ (.code _::_) _ _ _
  refine fy ?_;refine gA rfl ?_;exact⟨h1,⟨⟩,[],rfl,wk rfl rfl rfl ⟨.refl _,rfl, .refl _,rfl, .refl _,rfl, .refl _,rfl, .refl _,rfl,trivial⟩ (hC rfl rfl rfl (hM rfl rfl rfl trivial)) rfl⟩
 have h2:i<R.body.length:=by simpa using h2
 have hl:R.body.getD i default∈R.body:=bO h2;have hT1:(R.body.take (i+1)).flatMap (oY R)=(R.body.take i).flatMap (oY R)++oY R (R.body.getD i default):=by rw[aW h2,Ys];simp
 have hszl:(R.body.getD i default).size≤10000000:=by have:=Lit.bN R.body i h2;unfold ak.size at hszR;omega
 have hlit:=hlits _ hl;generalize hle:R.body.getD i default=l at hl hT1 hszl hlit;refine bR (fz (bR (fy ?_)));refine gA rfl ?_;refine bR (p5 ⟨[(1, .ptr 0 0),(4, .mp 2),(8, .ptr 3 0),(10, .ptr 4 0),(32, .iv (cM 5 p.rules ak.c)),(33,pI p.rules.length),(34,pI n),(39, .iv (lits R.body)),(40,pI R.body.length),(41,pI i),(46, .iv (strs (named l))),(47,pI (named l).length),(48,pI 0)],[(0,some (aE p.c)),(2,some (gO (jc p.ar B))),(3,some (aE R.c)),(4,some (aE l.c))],5⟩ ?_ ?_)
 ·subst hle
  refine gA rfl (an (zO (R.body.getD i default) (by omega)) rfl rfl rfl rfl rfl rfl ?_);refine gA rfl (sR [] ?_);exact wk rfl rfl rfl ⟨.refl _,rfl, .refl _,rfl, .refl _,rfl, .refl _,rfl, .refl _,rfl, .refl _,rfl, .refl _,rfl, .refl _,rfl, .refl _,rfl, .refl _,rfl, .refl _,rfl, .refl _,rfl, .refl _,rfl,trivial⟩ (hC rfl rfl rfl (hM rfl rfl rfl (hC rfl rfl rfl (hC rfl rfl rfl trivial)))) rfl
 have hnl:=kD l
 refine fz (sQ 0 (named l).length (WC _) (fun k (_:PUnit.{2})=>⟨[(1, .ptr 0 0),(4, .mp 2),(8, .ptr 3 0),(10, .ptr 4 0),(32, .iv (cM 5 p.rules ak.c)),(33,pI p.rules.length),(34,pI n),(39, .iv (lits R.body)),(40,pI R.body.length),(41,pI i),(46, .iv (strs (named l))),(47,pI (named l).length),(48,pI k)],[(0,some (aE p.c)),(2,some (gO (jc p.ar B))),(3,some (aE R.c)),(4,some (aE l.c))],5⟩)
  (fun k _ Y=>Y=de (rowsOf p.ar B ((G n++(R.body.take i).flatMap (oY R))++((named l).take k).map fun t=>(R.head.rel,t,jJ l)))) ⟨⟩ [] (by simp) (wk rfl rfl rfl ⟨.refl _,rfl, .refl _,rfl, .refl _,rfl, .refl _,rfl, .refl _,rfl, .refl _,rfl, .refl _,rfl, .refl _,rfl, .refl _,rfl, .refl _,rfl, .refl _,rfl, .refl _,rfl, .refl _,rfl,trivial⟩ (hC rfl rfl rfl (hM rfl rfl rfl (hC rfl rfl rfl (hC rfl rfl rfl trivial)))) rfl) (fun _ _ _ h=>h▸fU _) fun k _ Y hk hJ=>?_)
 subst hJ;refine bR (fy ?_);refine gA rfl ?_;refine bR (o6 rfl (fun h3=>oZ ?_) (fun h3=>o5 ?_));rotate_left
 ·have h3:(named l).length≤k:=by simpa using h3
  have eX:(G n++(R.body.take i).flatMap (oY R))++(named l).map (fun t=>(R.head.rel,t,jJ l))=G n++(R.body.take (i+1)).flatMap (oY R):=by rw[Wv,hT1];rfl
  rw[WB h3,eX]
  change GX _ _ (.code _::_) _ _ _
  refine fy ?_;refine gA rfl ?_;exact⟨h2,⟨⟩,[],rfl,wk rfl rfl rfl ⟨.refl _,rfl, .refl _,rfl, .refl _,rfl, .refl _,rfl, .refl _,rfl, .refl _,rfl, .refl _,rfl, .refl _,rfl, .refl _,rfl,trivial⟩ (hC rfl rfl rfl (hM rfl rfl rfl (hC rfl rfl rfl trivial))) rfl⟩
 have h3:k<(named l).length:=by simpa using h3
 obtain⟨j,d,b,hd,hbj,hdn,hlk⟩:=RT hBl hf.nodup hhead;have hX:=oD (hs:=(G n++(R.body.take i).flatMap (oY R))++((named l).take k).map fun t=>(R.head.rel,t,jJ l)) hBl hBn hd hbj;have hst:=Bd (hs:=(G n++(R.body.take i).flatMap (oY R))++((named l).take k).map fun t=>(R.head.rel,t,jJ l)) (t:=(named l).getD k default) (h:=jJ l) hBl hBn hf.nodup hd hbj;rw[hdn] at hX hst
 have hs2:((G n++(R.body.take i).flatMap (oY R))++((named l).take k).map fun t=>(R.head.rel,t,jJ l))++ [(R.head.rel,(named l).getD k default,jJ l)]=(G n++(R.body.take i).flatMap (oY R))++((named l).take (k+1)).map fun t=>(R.head.rel,t,jJ l):=by
  rw[aW h3,Wq,Wv];rfl
 rw[hs2] at hst;generalize(G n++(R.body.take i).flatMap (oY R))++((named l).take k).map (fun t=>(R.head.rel,t,jJ l))=hs at hX hst;refine bR (fz (bR (fy ?_)));refine gA rfl ?_;refine bR (fy ?_);refine gA rfl ?_;refine bR (p5 ⟨[(1, .ptr 0 0),(4, .mp 2),(8, .ptr 3 0),(10, .ptr 4 0),(32, .iv (cM 5 p.rules ak.c)),(33,pI p.rules.length),(34,pI n),(39, .iv (lits R.body)),(40,pI R.body.length),(41,pI i),(46, .iv (strs (named l))),(47,pI (named l).length),(48,pI k),(12,pS ((named l).getD k default)),(13,pI (jJ l))],[(0,some (aE p.c)),(2,some (gO (jc p.ar B))),(3,some (aE R.c)),(4,some (aE l.c))],5⟩ ?_ ?_)
 ·refine gA rfl ?_
  refine Wl (fun h4=>?_) (fun h4=>?_)
  ·have h4:l.kind=1:=of_decide_eq_true h4
   refine gA rfl (sR [] ?_);exact wk rfl rfl rfl ⟨.refl _,rfl, .refl _,rfl, .refl _,rfl, .refl _,rfl, .refl _,rfl, .refl _,rfl, .refl _,rfl, .refl _,rfl, .refl _,rfl, .refl _,rfl, .refl _,rfl, .refl _,rfl, .refl _,rfl, .refl _,rfl, .of_eq (by rw[jJ,if_pos h4];rfl),rfl,trivial⟩ (hC rfl rfl rfl (hM rfl rfl rfl (hC rfl rfl rfl (hC rfl rfl rfl trivial)))) rfl
  ·have h4: ¬l.kind=1:=of_decide_eq_false h4
   refine gA rfl (sR [] ?_);exact wk rfl rfl rfl ⟨.refl _,rfl, .refl _,rfl, .refl _,rfl, .refl _,rfl, .refl _,rfl, .refl _,rfl, .refl _,rfl, .refl _,rfl, .refl _,rfl, .refl _,rfl, .refl _,rfl, .refl _,rfl, .refl _,rfl, .refl _,rfl, .of_eq (by rw[jJ,if_neg h4];rfl),rfl,trivial⟩ (hC rfl rfl rfl (hM rfl rfl rfl (hC rfl rfl rfl (hC rfl rfl rfl trivial)))) rfl
 refine uN (rD 12 ?_);refine gA rfl ?_;refine vS (A6 (d:=65) hX (show PV.iv (.v (.map (bG .str (jc p.ar B) R.head.rel none)))=_ by rw[hlk])) fun t Y ht=>?_;obtain⟨rfl,rfl⟩:=ht;refine vS (CG (b:=b.1) (j:=5) (e:=b.2) (d:=59) (p:= .mp 5) (aZ.eK _ _ _) fun M N U x hu hb2 _ hv=>?_) fun t Y ht=>?_
 ·have hv:VR M N U (PV.iv (.v (.map (bG .str (jc p.ar B) R.head.rel none)))) x:=hv
  rw[hlk] at hv
  cases hv with
  |iv _ _ hi=>cases hi with
   |v=>rw[←hb2];exact .mp 5 hu
 obtain⟨rfl,rfl⟩:=ht;refine rD 4 ?_;refine gA rfl ?_;refine sP (vT (DP (Uy (b:=b.1) (e:=b.2) (i:=5) (o:=cj (zx (bZ hs R.head.rel) ((named l).getD k default) (jJ l))) (aZ.eK _ _ _) rfl rfl trivial) fun t Y ht=>?_));obtain⟨rfl,rfl⟩:=ht;rw[aZ.JL];refine fy ?_;refine gA rfl ?_;exact⟨h3,⟨⟩,[],hst,wk rfl rfl rfl ⟨.refl _,rfl, .refl _,rfl, .refl _,rfl, .refl _,rfl, .refl _,rfl, .refl _,rfl, .refl _,rfl, .refl _,rfl, .refl _,rfl, .refl _,rfl, .refl _,rfl, .refl _,rfl, .refl _,rfl,trivial⟩ (hC rfl rfl rfl (hM rfl rfl rfl (hC rfl rfl rfl (hC rfl rfl rfl trivial)))) rfl⟩
end Go.Proofs.YtflegjieadkonaaGreatDoor
namespace Go.Proofs.YtflegjieadkonaaGreatDoor
open Go Go.Al Go.Tj
set_option maxRecDepth 10000
def nQ (e:Option aj) (i:Nat) (l:List aj):PV:=match e,l with
 |some _,[]=> .sl i 1 0 1
 |_,l=> .sl i 0 l.length 1
def nR (e:Option aj) (l:List aj):AO:=match e,l with
 |some y,[]=> .row 1 [[pS y]]
 |_,l=>aD 1 l cx
theorem ki (σ:Nat→Nat) (e:Option aj) (i:Nat) (l:List aj):(nQ e i l).cL σ=nQ e (σ i) l:=by cases e<;>cases l<;>rfl
theorem kj (σ:Nat→Nat) (e:Option aj) (l:List aj):(nR e l).cL σ=nR e l:=by
 cases e<;>cases l<;>first|rfl|exact cm σ
theorem wK {n i:Nat} (h:WU i n=true) (e:Option aj) (l:List aj):(nQ e i l).low n=true:=by cases e<;>cases l<;>exact h
theorem wO (n:Nat) (e:Option aj) (l:List aj):(nR e l).low n:=by
 cases e with
 |none=>exact dX n
 |some y=>
  cases l with
  |nil=>
   intro k e he
   cases k with
   |zero=>cases he;rfl
   |succ k=>cases he
  |cons=>exact dX n
theorem wJ {e:Option aj} {i:Nat} {l:List aj} (h:e=none∨l≠ []):nQ e i l= .sl i 0 l.length 1:=by
 cases e with
 |none=>rfl
 |some y=>cases l with
  |nil=>exact absurd rfl (h.resolve_left (by simp))
  |cons=>rfl
theorem wL {e:Option aj} {l:List aj} (h:e=none∨l≠ []):nR e l=aD 1 l cx:=by
 cases e with
 |none=>rfl
 |some y=>cases l with
  |nil=>exact absurd rfl (h.resolve_left (by simp))
  |cons=>rfl
structure TW where
 low:NM
 on:NM
 ring:NM
 stack:List aj
 rj:Option aj
def TW.st (w:TW):St aj:=⟨fun a=>bG .str w.low a 0,fun a=>bG .str w.on a 0,fun a=>bG .str w.ring a 0,w.low.length,w.stack⟩
structure TW.Ok (V:List aj) (w:TW):Prop where
 nz: ∀a∈w.low.map WT,bG .str w.low a 0≠0
 nd:(w.low.map WT).Nodup
 sub: ∀a∈w.low.map WT,a∈V
abbrev wA:PV:= .cH (.func 92) [] [.ptr 0 0, .ptr 1 0, .ptr 2 0, .ptr 3 0, .ptr 4 0, .ptr 5 0]
abbrev tO (G:IV) (w:TW):List AO:=[.cells [.mp 6], .cells [.mp 7], .cells [nQ w.rj 9 w.stack], .cells [.iv G], .cells [wA], .cells [.mp 8],cj w.low,cj w.on,cj w.ring,nR w.rj w.stack]
abbrev tH (G:IV) (w:TW) (k:Nat):AH:=[(0,some (.cells [.mp 6])),(1,some (.cells [.mp 7])),(2,some (.cells [nQ w.rj k w.stack])),(3,some (.cells [.iv G])),(4,some (.cells [wA])),(5,some (.cells [.mp 8])),
 (6,some (cj w.low)),(7,some (cj w.on)),(8,some (cj w.ring)),(k,some (nR w.rj w.stack))]
theorem rP {n k:Nat} {σ:Nat→Nat} {h:AH} {G:IV} {w:TW} {q2:PV} {l6 l7 l8:NM} {o:AO} (b:YG 9 n=true) (bk:WU k n=true) (hs: ∀i,i<9→σ i=i)
  (g0:h.get 0=some (.cells [.mp 6])) (g1:h.get 1=some (.cells [.mp 7])) (g2:h.get 2=some (.cells [q2])) (g3:h.get 3=some (.cells [.iv G])) (g4:h.get 4=some (.cells [wA])) (g5:h.get 5=some (.cells [.mp 8]))
  (g6:h.get 6=some (cj l6)) (g7:h.get 7=some (cj l7)) (g8:h.get 8=some (cj l8)) (g9:h.get (σ k)=some o)
  (e2:q2=nQ w.rj (σ k) w.stack) (e6:l6=w.low) (e7:l7=w.on) (e8:l8=w.ring) (e9:eU o (nR w.rj w.stack)):tU n σ h (tH G w k):=by
 have b9:=Wj b;have bk:=Wj bk;have hb: ∀i,i<9→WU i n=true:=fun i hi=>Xi (by omega);subst e2 e6 e7 e8;have r: ∀i,i<9→PV.mp (σ i)=PV.mp i:=fun i hi=>by rw[hs i hi]
 have rp: ∀i,i<9→PV.ptr (σ i) 0=PV.ptr i 0:=fun i hi=>by rw[hs i hi]
 have lm: ∀i,i<9→bz n [PV.mp i]=true:=fun i hi=>by simp only[bz,PV.low,hb i hi]
 refine⟨⟨_,by rw[hs 0 (by omega)];exact g0, .of_eq (by simp only[AO.cL,dJ,PV.cL,r 6 (by omega)])⟩,by omega,lm 6 (by omega),
  ⟨_,by rw[hs 1 (by omega)];exact g1, .of_eq (by simp only[AO.cL,dJ,PV.cL,r 7 (by omega)])⟩,by omega,lm 7 (by omega),
  ⟨_,by rw[hs 2 (by omega)];exact g2, .of_eq (by simp only[AO.cL,dJ,ki])⟩,by omega,by simp only[AO.low,bz,wK (Xi bk)],
  ⟨_,by rw[hs 3 (by omega)];exact g3, .of_eq rfl⟩,by omega,rfl,
  ⟨_,by rw[hs 4 (by omega)];exact g4, .of_eq (by simp only[AO.cL,dJ,PV.cL,rp 0 (by omega),rp 1 (by omega),rp 2 (by omega),rp 3 (by omega),rp 4 (by omega),rp 5 (by omega)])⟩,by omega,by simp only[AO.low,bz,PV.low,hb 0 (by omega),hb 1 (by omega),hb 2 (by omega),hb 3 (by omega),hb 4 (by omega),hb 5 (by omega)],
  ⟨_,by rw[hs 5 (by omega)];exact g5, .of_eq (by simp only[AO.cL,dJ,PV.cL,r 8 (by omega)])⟩,by omega,lm 8 (by omega),
  ⟨_,by rw[hs 6 (by omega)];exact g6, .of_eq rfl⟩,by omega,trivial,
  ⟨_,by rw[hs 7 (by omega)];exact g7, .of_eq rfl⟩,by omega,trivial,
  ⟨_,by rw[hs 8 (by omega)];exact g8, .of_eq rfl⟩,by omega,trivial,
  ⟨_,g9,by rw[kj];exact e9⟩,bk,wO _ _ _,trivial⟩
theorem vm (m:NM) (b:aj) (v:Int):(fun x=>bG .str (bS .str m b v) x 0)=vf (fun x=>bG .str m x 0) b v:=by
 funext x
 rw[fZ,vf];by_cases h:b=x
 ·rw[if_pos h,if_pos h.symm]
 ·rw[if_neg h,if_neg fun e=>h e.symm]
def TW.push (w:TW) (a:aj):TW:=⟨bS .str w.low a ((w.low.length:Int)+1),bS .str w.on a 1,w.ring,w.stack++ [a],none⟩
theorem TW.key {V:List aj} {w:TW} (h:w.Ok V) {a:aj} (h0:w.st.low a=0):a∉w.low.map WT:=fun g=>h.nz a g h0
theorem qD {m:NM} {a:aj} {v:Int} (h:a∉m.map WT):(bS .str m a v).length=m.length+1:=by
 have:=congrArg List.length (dh (v:=v) h);simpa using this
theorem TW.JN {V:List aj} {w:TW} (h:w.Ok V) {a:aj} (h0:w.st.low a=0):(w.push a).st=Go.Tj.push w.st a:=
 St.eq (vm _ _ _) (vm _ _ _) rfl (qD (TW.key h h0)) rfl
theorem TW.JO {V:List aj} {w:TW} (h:w.Ok V) {a:aj} (h0:w.st.low a=0) (ha:a∈V):(w.push a).Ok V:=by
 have hk:=TW.key h h0;refine⟨fun x hx=>?_,?_,fun x hx=>?_⟩
 ·show bG .str (bS .str w.low a _) x 0≠0
  rw[fZ];split
  ·omega
  ·rename_i hne
   have hx:x∈(bS .str w.low a ((w.low.length:Int)+1)).map WT:=hx;rw[dh hk,WD,Wy] at hx;exact h.nz x (hx.resolve_right fun e=>hne e.symm)
 ·show((bS .str w.low a _).map WT).Nodup
  rw[dh hk,XR];exact⟨h.nd,by simp,fun u hu v hv e=>hk (by rw[Wy] at hv;subst e;subst hv;exact hu)⟩
 ·have hx:x∈(bS .str w.low a ((w.low.length:Int)+1)).map WT:=hx
  rw[dh hk,WD,Wy] at hx;rcases hx with hx|rfl
  ·exact h.sub x hx
  ·exact ha
theorem TW.len {V:List aj} {w:TW} (h:w.Ok V):w.low.length≤V.length:=by
 have:=Xm h.nd (l₂:=V) h.sub;simpa using this
theorem TW.ug {V:List aj} {w:TW} (h:w.Ok V) {succ:aj→List aj} {path:List aj} (hI:Inv succ path w.st):w.stack.length≤V.length:=by
 refine Xm (l₂:=V) ?_ fun y hy=>?_
 ·refine ZA ?_ hI.SE
  intro x y hxy e;subst e;omega
 ·have h1:=(hI.ug y).2 hy
  have h2:w.st.low y≠0:=sr hI h1;refine h.sub y (XJ fun hc=>h2 (yX hc))
def TW.pop (w:TW) (u:List aj) (b:aj) (mine:Int):TW:=⟨w.low,bS .str w.on b 2,bS .str w.ring b mine,u,some b⟩
theorem TW.Di {w:TW} {u:List aj} {b:aj} (h:w.stack=u++ [b]) (mine:Int):(w.pop u b mine).st=vA mine w.st:=by
 have h1:w.st.stack.getLast? =some b:=by show w.stack.getLast? =_;rw[h];simp
 have h2:w.st.stack.dropLast=u:=by show w.stack.dropLast=_;rw[h];simp
 unfold vA;rw[h1];exact St.eq rfl (vm _ _ _) (vm _ _ _) rfl h2.symm
theorem TW.RX {V:List aj} {w:TW} (h:w.Ok V) (u:List aj) (b:aj) (mine:Int):(w.pop u b mine).Ok V:=⟨h.nz,h.nd,h.sub⟩
theorem Pp (hS:dH) {p:Prog} (hf:kf p) (hl:(aF p).length≤100000000) (a:aj):Pure Tryz.prog 52 [.iv (ov (bZ (aF p) a))] (.iv (strs (aT p a))):=by
 rw[←jM hf];exact CT hS _ (WV (C5 _ _) hl)
abbrev SM (a:aj):List PV:=[pS a, .ptr 0 0, .ptr 1 0, .ptr 2 0, .ptr 3 0, .ptr 4 0, .ptr 5 0]
abbrev vF (a:aj):AF:=[(0,pS a),(1, .ptr 0 0),(2, .ptr 1 0),(3, .ptr 2 0),(4, .ptr 3 0),(5, .ptr 4 0),(6, .ptr 5 0)]
def Sx (p:Prog) (f:Nat):Prop:= ∀(path:List aj) (a:aj) (w:TW),w.Ok (ns p)→Inv (aT p) path w.st→w.st.low a=0→a∈ns p→(∀g∈path,kT (aT p) g a)→iR (ns p) w.st≤f→
 Go.Al.Fn Tryz.prog 92 (SM a) (tO (nf (bb p (aF p))) w) fun r h n=> ∃w':TW,w'.Ok (ns p)∧w'.st=(dw (aT p) f a w.st).2∧r=pI (dw (aT p) f a w.st).1∧h=tH (nf (bb p (aF p))) w' 10∧n=11
theorem mr (p:Prog) (hs:List (aj×aj×Nat)) {a:aj} (h:a∈p.ar.map Decl.name):(Bx (bG .str (bb p hs) a none)).pv= .iv (ov (bZ hs a)):=by rw[DR p hs h];rfl
theorem RB (G:IV) (w:TW) {n:Nat}:[some (AO.cells [PV.mp 6]),some (.cells [.mp 7]),some (.cells [nQ w.rj 11 w.stack]),some (.cells [.iv G]),some (.cells [wA]),some (.cells [.mp 8]),some (cj w.low),some (cj w.on),some (cj w.ring),some (nR w.rj w.stack)]=
  (tO G w).map fun o=>some (o.cL (sig [0,1,2,3,4,5,6,7,8,11] n)):=by
 have h1:=ki (sig [0,1,2,3,4,5,6,7,8,11] n) w.rj 9 w.stack;have h2:=kj (sig [0,1,2,3,4,5,6,7,8,11] n) w.rj w.stack;show _=[some (AO.cells [PV.mp 6]),some (.cells [.mp 7]),some (.cells [(nQ w.rj 9 w.stack).cL (sig [0,1,2,3,4,5,6,7,8,11] n)]),some (.cells [.iv G]),some (.cells [wA]),some (.cells [.mp 8]),some (cj w.low),some (cj w.on),some (cj w.ring),some ((nR w.rj w.stack).cL (sig [0,1,2,3,4,5,6,7,8,11] n))]
 rw[h1,h2];rfl
theorem CI (u:List aj) (b:aj):((u++ [b]).map fun x=>(cx x).map PV.iv)[0+((((u.length+1:Nat):Int)-1).toNat)]? =some [pS b]:=by
 rw[WQ,show(((u.length+1:Nat):Int)-1).toNat=u.length by omega];simp[cx]
theorem CJ (i:Nat) (u:List aj) (b:aj):(u.length=0∧nQ (some b) i u= .sl i 1 0 1)∨(0<u.length∧nQ (some b) i u= .sl i 0 u.length 1):=by
 cases u with
 |nil=>exact .inl ⟨rfl,rfl⟩
 |cons x r=>exact .inr ⟨by simp,rfl⟩
theorem wM (u:List aj) (b:aj):eU (aD 1 (u++ [b]) cx) (nR (some b) u):=by
 cases u with
 |nil=>exact .of_eq rfl
 |cons x r=>
  have e:nR (some b) (x::r)= .row 1 (((x::r++ [b]).map fun y=>(cx y).map PV.iv).take (x::r).length):=by
   rw[←List.map_take,List.take_left];rfl
  rw[e];exact .take
theorem rq {p:Prog}: ∀a∈ns p,∀b∈aT p a,b∈ns p:=fun _ _ _ h=>(WW.1 h).1
theorem ma {p:Prog} (hf:kf p):(ns p).length≤64:=by
 have:=hf.len;rw[ns,iH,W3];exact this
theorem Cm (hS:dH) {p:Prog} (hf:kf p) (hl:(aF p).length≤100000000) (f:Nat) (ih:Sx p f):Sx p (f+1):=by
 intro path a w hok hI h0 haV hp hw;have hn64:=ma hf;have hwp:=jK hI.lN haV h0;have hlen:=TW.len hok;have hstk:=TW.ug hok hI;have hadj:a∈p.ar.map Decl.name:=by rw[ns,c7] at haV;exact haV
 have hst:=TW.JN hok h0;have hok1:=TW.JO hok h0 haV;have hsl:=XB (eg p a) (ns p);refine sZ ae Tryz.func92 rfl (by decide) Tryz.ntmps92 rfl (by simp) ?_;refine go_cut 6 (fun _:Unit=>⟨(9,pI ((w.low.length:Int)+1))::(10,pI ((w.low.length:Int)+1))::vF a,tH (nf (bb p (aF p))) (w.push a) 10,11⟩) rfl ?_ ?_
 ·have hlk:bG .str (bS .str w.low a ((w.low.length:Int)+1)) a 0=(w.low.length:Int)+1:=by rw[fZ,if_pos rfl]
  by_cases hu:w.rj=none∨w.stack≠ []
  ·rw[show tO (nf (bb p (aF p))) w=[.cells [.mp 6], .cells [.mp 7], .cells [.sl 9 0 w.stack.length 1], .cells [.iv (nf (bb p (aF p)))], .cells [wA], .cells [.mp 8],cj w.low,cj w.on,cj w.ring,aD 1 w.stack cx] by
    unfold tO;rw[wJ hu,wL hu]]
   refine gA rfl (qm () [11] ?_)
   exact wk rfl rfl rfl ⟨.of_eq (congrArg pI hlk),rfl, .of_eq (congrArg pI hlk),rfl, .refl _,rfl, .refl _,rfl, .refl _,rfl, .refl _,rfl, .refl _,rfl, .refl _,rfl, .refl _,rfl,trivial⟩
    (rP (w:=w.push a) rfl rfl (fun i hi=>fc (by show i<10;omega)) rfl rfl rfl rfl rfl rfl rfl rfl rfl rfl (by show _=PV.sl 11 0 (w.stack++ [a]).length 1;rw[Wn];rfl) rfl rfl rfl (.of_eq (by show _=aD 1 (w.stack++ [a]) cx;rw[aD,Wq];rfl))) rfl
  ·obtain⟨y,hy,hs0⟩: ∃y,w.rj=some y∧w.stack=[]:=by
    cases hg:w.rj with
    |none=>exact absurd (.inl hg) hu
    |some y=>exact⟨y,rfl,XJ fun h=>hu (.inr h)⟩
   rw[show tO (nf (bb p (aF p))) w=[.cells [.mp 6], .cells [.mp 7], .cells [.sl 9 1 0 1], .cells [.iv (nf (bb p (aF p)))], .cells [wA], .cells [.mp 8],cj w.low,cj w.on,cj w.ring, .row 1 [[pS y]]] by
    unfold tO;rw[hy,hs0];rfl]
   refine gA rfl (vV ae rfl rfl rfl rfl rfl rfl rfl rfl rfl (by simp) (by simp) (jF rfl) rfl ?_);refine gA rfl (qm () [11] ?_)
   exact wk rfl rfl rfl ⟨.of_eq (congrArg pI hlk),rfl, .of_eq (congrArg pI hlk),rfl, .refl _,rfl, .refl _,rfl, .refl _,rfl, .refl _,rfl, .refl _,rfl, .refl _,rfl, .refl _,rfl,trivial⟩
    (rP (w:=w.push a) rfl rfl (fun i hi=>fc (by show i<10;omega)) rfl rfl rfl rfl rfl rfl rfl rfl rfl rfl (by show _=PV.sl 11 0 (w.stack++ [a]).length 1;rw[hs0];rfl) rfl rfl rfl (.of_eq (by show _=aD 1 (w.stack++ [a]) cx;rw[hs0];rfl))) rfl
 intro _;have hi:=xj hI h0 hp;rw[←hst] at hwp hi
 have hm:((w.push a).low.length:Int)=(w.low.length:Int)+1:=by
  have:=qD (v:=(w.low.length:Int)+1) (TW.key hok h0);show(((bS .str w.low a _).length:Nat):Int)=_;rw[this];omega
 have la:(w.push a).st.low a=(w.st.n:Int)+1:=by rw[hst];exact iT _ _ _
 have oa:(w.push a).st.on a=1:=by rw[hst];exact iT _ _ _
 have hL0:eB (aT p) path a w.st [] ((w.st.n:Int)+1,Go.Tj.push w.st a) []:=
  ⟨hst▸hi, .refl _,rfl,fun y hy=>(nomatch hy),Yi _,fun y hy=>(nomatch hy),fun z hz=>(nomatch hz),fun z hz=>(nomatch hz),⟨a,hst▸oa,hst▸la, .refl _⟩⟩
 have hpost:=fun pa b s=>nN (succ:=aT p) rq f pa b s
 let qf:Nat→Int×St aj:=fun i=>((aT p a).take i).foldl (Go.Tj.oB (dw (aT p) f)) ((w.st.n:Int)+1,Go.Tj.push w.st a)
 have hloop: ∀i,∃t,eB (aT p) path a w.st ((aT p a).take i) (qf i) t:=fun i=>by
  have:=pW rq hpost hI h0 haV (by rw[←hst];omega) ((aT p a).take i) [] _ [] hL0 fun b hb=>YF hb;rwa[Yg] at this
 refine gM 5 rfl (o7 ae (.iv (ov (bZ (aF p) a))) rfl rfl rfl rfl (mr p _ hadj) rfl ?_);refine gA rfl (an (Pp hS hf hl a) rfl rfl rfl rfl rfl rfl ?_);refine gA rfl ?_
 refine o8 0 (aT p a).length (WC _) (fun i w2=>⟨(9,pI ((w.low.length:Int)+1))::(10,pI (qf i).1)::(32, .iv (strs (aT p a)))::(33,pI (aT p a).length)::(34,pI i)::vF a,tH (nf (bb p (aF p))) w2 11,12⟩)
  (fun i w2=>w2.Ok (ns p)∧w2.st=(qf i).2) (w.push a) [10] ⟨hok1,hst⟩
  (wk rfl rfl rfl ⟨.refl _,rfl, .refl _,rfl, .refl _,rfl, .refl _,rfl, .refl _,rfl, .refl _,rfl, .refl _,rfl, .refl _,rfl, .refl _,rfl, .refl _,rfl, .refl _,rfl, .refl _,rfl,trivial⟩
   (rP rfl rfl (fun i hi=>fc (by show i<11;omega)) rfl rfl rfl rfl rfl rfl rfl rfl rfl rfl rfl rfl rfl rfl (.refl _)) rfl) fun i w2 hi2 hJ=>?_
 obtain⟨hok2,hst2⟩:=hJ;obtain⟨t2,hL2⟩:=hloop i;have hln2:(aT p a).length≤64:=WV hsl hn64;refine gA rfl ?_;refine Wl (fun h1=>?_) (fun h1=>?_)
 ·have h1:i<(aT p a).length:=by simpa using h1
  have hq1:qf (i+1)=Go.Tj.oB (dw (aT p) f) (qf i) ((aT p a).getD i default):=iL h1;have hb:((aT p a).getD i default)∈aT p a:=bO h1
  have hstep:Go.Tj.oB (dw (aT p) f) (qf i) ((aT p a).getD i default)=if w2.st.low ((aT p a).getD i default)=0 then(min (qf i).1 (dw (aT p) f ((aT p a).getD i default) w2.st).1,(dw (aT p) f ((aT p a).getD i default) w2.st).2)
    else if w2.st.on ((aT p a).getD i default)=1 then(min (qf i).1 (w2.st.low ((aT p a).getD i default)),w2.st) else(qf i):=by rw[hst2];rfl
  refine gA rfl ?_;refine Wl (fun h2=>?_) (fun h2=>?_)
  ·have h2:w2.st.low ((aT p a).getD i default)=0:=of_decide_eq_true h2
   rw[if_pos h2] at hstep
   have hreach: ∀g∈path++ [a],kT (aT p) g ((aT p a).getD i default):=by
    intro g hg;have hoa2:(qf i).2.on a=1:=(hL2.inv.ug a).2 (by rw[hL2.stack];simp);refine .step (hL2.inv.dn g hg a hoa2 ?_) hb;rcases WD.1 hg with e|e
    ·have:=hL2.pa hI h0 g e;omega
    ·rw[Wy] at e;rw[e];exact Yi _
   have hwh:iR (ns p) w2.st≤f:=by
    have:=tW (V:=ns p) hL2.le;rw[hst2];rw[hst] at hwp;omega
   refine gA rfl (xP [0,1,2,3,4,5,6,7,8,11] (ih (path++ [a]) ((aT p a).getD i default) w2 hok2 (hst2▸hL2.inv) h2 (rq a haV ((aT p a).getD i default) hb) hreach hwh) rfl rfl rfl rfl rfl (RB _ _) rfl ?_)
   rintro r h' n' ⟨w3,hok3,hst3,rfl,rfl,rfl⟩
   refine⟨_,rfl,?_⟩;refine gA rfl ?_;exact⟨h1,w3,[12],⟨hok3,by rw[hq1,hstep];exact hst3⟩,wk rfl rfl rfl ⟨.refl _,rfl, .of_eq (by rw[hq1,hstep];rfl),rfl, .refl _,rfl, .refl _,rfl, .refl _,rfl, .refl _,rfl, .refl _,rfl, .refl _,rfl, .refl _,rfl, .refl _,rfl, .refl _,rfl, .refl _,rfl,trivial⟩ (rP rfl rfl (fun i hi=>fc (by show i<11;omega)) rfl rfl rfl rfl rfl rfl rfl rfl rfl rfl (ki _ _ _ _) rfl rfl rfl (.of_eq (kj _ _ _))) rfl⟩
  ·have h2: ¬w2.st.low ((aT p a).getD i default)=0:=of_decide_eq_false h2
   rw[if_neg h2] at hstep;refine gA rfl ?_;refine Wl (fun h3=>?_) (fun h3=>?_)
   ·have h3:w2.st.on ((aT p a).getD i default)=1:=of_decide_eq_true h3
    rw[if_pos h3] at hstep;refine gA rfl ?_;exact⟨h1,w2,[11],⟨hok2,by rw[hq1,hstep]⟩,wk rfl rfl rfl ⟨.refl _,rfl, .of_eq (by rw[hq1,hstep];rfl),rfl, .refl _,rfl, .refl _,rfl, .refl _,rfl, .refl _,rfl, .refl _,rfl, .refl _,rfl, .refl _,rfl, .refl _,rfl, .refl _,rfl, .refl _,rfl,trivial⟩ (rP rfl rfl (fun i hi=>fc (by show i<11;omega)) rfl rfl rfl rfl rfl rfl rfl rfl rfl rfl rfl rfl rfl rfl (.refl _)) rfl⟩
   ·have h3: ¬w2.st.on ((aT p a).getD i default)=1:=of_decide_eq_false h3
    rw[if_neg h3] at hstep;refine gA rfl ?_;exact⟨h1,w2,[11],⟨hok2,by rw[hq1,hstep];exact hst2⟩,wk rfl rfl rfl ⟨.refl _,rfl, .of_eq (by rw[hq1,hstep];rfl),rfl, .refl _,rfl, .refl _,rfl, .refl _,rfl, .refl _,rfl, .refl _,rfl, .refl _,rfl, .refl _,rfl, .refl _,rfl, .refl _,rfl, .refl _,rfl,trivial⟩ (rP rfl rfl (fun i hi=>fc (by show i<11;omega)) rfl rfl rfl rfl rfl rfl rfl rfl rfl rfl rfl rfl rfl rfl (.refl _)) rfl⟩
 ·have h1:(aT p a).length≤i:=by simpa using h1
  have hie:i=(aT p a).length:=by omega
  subst hie
  have hvis:dw (aT p) (f+1) a w.st=rk a ((w.st.n:Int)+1) (qf (aT p a).length):=by
   show rk a _ ((aT p a).foldl _ _)=rk a _ (((aT p a).take (aT p a).length).foldl _ _);rw[Ya]
  have hend: ∀(w':TW) (k:Nat) (u:AS) (e:Exit),e= .normal∨e= .ret→10≤k→k<u.nx→lR vg u Tryz.f92.results.toList=some (pI (qf (aT p a).length).1)→w'.Ok (ns p)→w'.st=(rk a ((w.st.n:Int)+1) (qf (aT p a).length)).2→
    tU 11 (sg 10 [k]) u.h (tH (nf (bb p (aF p))) w' 10)→KU vg Tryz.f92.results.toList 10 (fun r h n=> ∃w':TW,w'.Ok (ns p)∧w'.st=(dw (aT p) (f+1) a w.st).2∧r=pI (dw (aT p) (f+1) a w.st).1∧h=tH (nf (bb p (aF p))) w' 10∧n=11) e u:=by
   intro w' k u e he hk hku hr hok' hst' hh;refine Av [k] he hr ⟨w',hok',by rw[hvis];exact hst',rfl,rfl,rfl⟩ ⟨rfl,by show 10≤u.nx;omega,by simpa using hku,⟨.of_eq ?_,rfl,trivial⟩,hh,?_⟩
   ·show pI (qf (aT p a).length).1=pI (dw (aT p) (f+1) a w.st).1
    rw[hvis];unfold rk;split<;>rfl
   ·show[0,1,2,3,4,5,6,7,8,k].Nodup
    simp;omega
  generalize qf (aT p a).length=q at*
  refine gA rfl ?_;refine Wl (fun h4=>?_) (fun h4=>?_);rotate_left
  ·have h4: ¬q.1=(w.st.n:Int)+1:=of_decide_eq_false h4
   refine gA rfl (hend w2 11 _ _ (.inr rfl) (by omega) (by show 11<12;omega) rfl hok2 (by rw[rk,if_neg h4];exact hst2) ?_);exact rP rfl rfl (fun i hi=>fc (by omega)) rfl rfl rfl rfl rfl rfl rfl rfl rfl rfl rfl rfl rfl rfl (.refl _)
  have h4:q.1=(w.st.n:Int)+1:=of_decide_eq_true h4;have hE:(rk a ((w.st.n:Int)+1) q).2=eM a ((w.st.n:Int)+1) q.2.stack.length q.2:=by rw[rk,if_pos h4]
  have hoa2:q.2.on a=1:=(hL2.inv.ug a).2 (by rw[hL2.stack];simp)
  have hF:eM a ((w.st.n:Int)+1) (t2.length+1) q.2=(rk a ((w.st.n:Int)+1) q).2:=by
   rw[hE,pP (by omega) hL2.stack hL2.at_ hoa2,pP (by rw[hL2.stack];simp;omega) hL2.stack hL2.at_ hoa2]
  generalize(rk a ((w.st.n:Int)+1) q).2=F at hF hend;refine gA rfl ?_
  refine mu (σ:={v:TW//v.Ok (ns p)∧((∃t,v.stack=w.stack++a::t∧a∉t∧v.stack.length≤64∧v.st.on a=1∧eM a ((w.st.n:Int)+1) (t.length+1) v.st=F)∨(v.st.on a≠1∧v.st=F))})
   (fun v=>⟨(9,pI ((w.low.length:Int)+1))::(10,pI q.1)::vF a,tH (nf (bb p (aF p))) v.1 12,13⟩) (fun v=>v.1.stack.length) ⟨w2,hok2, .inl ⟨t2,by rw[show w2.stack=w2.st.stack from rfl,hst2];exact hL2.stack,hL2.at_,WV (TW.ug hok2 (hst2▸hL2.inv)) hn64,by rw[hst2];exact hoa2,by rw[hst2];exact hF⟩⟩ [11]
   (wk rfl rfl rfl ⟨.refl _,rfl, .refl _,rfl, .refl _,rfl, .refl _,rfl, .refl _,rfl, .refl _,rfl, .refl _,rfl, .refl _,rfl, .refl _,rfl,trivial⟩ (rP rfl rfl (fun i hi=>fc (by show i<12;omega)) rfl rfl rfl rfl rfl rfl rfl rfl rfl rfl rfl rfl rfl rfl (.refl _)) rfl) fun v=>?_
  obtain⟨v,hokv,hJ⟩:=v;rcases hJ with⟨t,hs,hat,hs64,hon,hpop⟩|⟨hon,hF2⟩
  rotate_left
  ·refine gA rfl ?_
   refine Wl (fun h5=>?_) (fun h5=>?_)
   ·exact absurd (of_decide_eq_true h5) hon
   refine gA rfl (hend v 12 _ _ (.inr rfl) (by omega) (by show 12<13;omega) rfl hokv hF2 ?_);exact rP rfl rfl (fun i hi=>fc (by omega)) rfl rfl rfl rfl rfl rfl rfl rfl rfl rfl rfl rfl rfl rfl (.refl _)
  have key: ∃u b,v.stack=u++ [b]∧((b=a∧vA ((w.st.n:Int)+1) v.st=F)∨ ∃t',u=w.stack++a::t'∧a∉t'∧b≠a∧eM a ((w.st.n:Int)+1) (t'.length+1) (vA ((w.st.n:Int)+1) v.st)=F):=by
   rcases t.eq_nil_or_concat with e|⟨t',b,e⟩
   ·subst e
    refine⟨w.stack,a,hs, .inl ⟨rfl,?_⟩⟩;rw[X4,eM,if_pos hon] at hpop;exact hpop
   ·rw[List.concat_eq_append] at e
    subst e;refine⟨w.stack++a::t',b,by rw[hs];simp, .inr ⟨t',rfl,fun h=>hat (by simp[h]),fun h=>hat (by simp[h]),?_⟩⟩;rw[eM,if_pos hon,Wn] at hpop;exact hpop
  obtain⟨u,b,hub,hcase⟩:=key;have hul:u.length+1≤64:=by rw[hub,Wn] at hs64;exact hs64
  have hne:v.stack≠ []:=by rw[hub];simp
  have hub2:v.stack.length=u.length+1:=by rw[hub,Wn];rfl
  have htH:tH (nf (bb p (aF p))) v 12=[(0,some (.cells [.mp 6])),(1,some (.cells [.mp 7])),(2,some (.cells [.sl 12 0 (u.length+1) 1])),(3,some (.cells [.iv (nf (bb p (aF p)))])),(4,some (.cells [wA])),(5,some (.cells [.mp 8])),
    (6,some (cj v.low)),(7,some (cj v.on)),(8,some (cj v.ring)),(12,some (aD 1 (u++ [b]) cx))]:=by
   unfold tH;rw[wJ (.inr hne),wL (.inr hne),hub2,hub]
  show GO Tryz.prog _ _ _ ⟨_,tH (nf (bb p (aF p))) v 12,_⟩;rw[htH];refine gA rfl ?_;refine Wl (fun h5=>?_) (fun h5=>?_);rotate_left
  ·exact absurd hon (of_decide_eq_false h5)
  refine gM 9 rfl (ze ae rfl rfl rfl rfl rfl (CI u b) rfl rfl ?_)
  have hJ2:(v.pop u b ((w.st.n:Int)+1)).Ok (ns p)∧((∃t,(v.pop u b ((w.st.n:Int)+1)).stack=w.stack++a::t∧a∉t∧(v.pop u b ((w.st.n:Int)+1)).stack.length≤64∧(v.pop u b ((w.st.n:Int)+1)).st.on a=1∧eM a ((w.st.n:Int)+1) (t.length+1) (v.pop u b ((w.st.n:Int)+1)).st=F)∨((v.pop u b ((w.st.n:Int)+1)).st.on a≠1∧(v.pop u b ((w.st.n:Int)+1)).st=F)):=by
   refine⟨TW.RX hokv u b _,?_⟩;rcases hcase with⟨rfl,hF3⟩|⟨t',hu,hat',hba,hF3⟩
   ·refine .inr ⟨?_,by rw[TW.Di hub];exact hF3⟩
    show bG .str (bS .str v.on b 2) b 0≠1;rw[fZ,if_pos rfl];decide
   ·refine .inl ⟨t',hu,hat',by show u.length≤64;omega,?_,by rw[TW.Di hub];exact hF3⟩
    show bG .str (bS .str v.on b 2) a 0=1;rw[fZ,if_neg hba];exact hon
  have hmu:(v.pop u b ((w.st.n:Int)+1)).stack.length<v.stack.length:=by show u.length<v.stack.length;omega
  rcases CJ 12 u b with hc|hc
  ·refine gA rfl (Aq ae u.length rfl rfl rfl rfl rfl rfl rfl (by omega) (by omega) (by omega) (.inl ⟨hc.1,rfl⟩) rfl ?_)
   refine gA rfl ?_;exact⟨⟨v.pop u b ((w.st.n:Int)+1),hJ2⟩,[12],hmu,wk rfl rfl rfl ⟨.refl _,rfl, .refl _,rfl, .refl _,rfl, .refl _,rfl, .refl _,rfl, .refl _,rfl, .refl _,rfl, .refl _,rfl, .refl _,rfl,trivial⟩ (rP rfl rfl (fun i hi=>fc (by show i<12;omega)) rfl rfl rfl rfl rfl rfl rfl rfl rfl rfl hc.2.symm rfl rfl rfl (wM u b)) rfl⟩
  ·refine gA rfl (Aq ae u.length rfl rfl rfl rfl rfl rfl rfl (by omega) (by omega) (by omega) (.inr ⟨hc.1,rfl⟩) rfl ?_)
   refine gA rfl ?_;exact⟨⟨v.pop u b ((w.st.n:Int)+1),hJ2⟩,[12],hmu,wk rfl rfl rfl ⟨.refl _,rfl, .refl _,rfl, .refl _,rfl, .refl _,rfl, .refl _,rfl, .refl _,rfl, .refl _,rfl, .refl _,rfl, .refl _,rfl,trivial⟩ (rP rfl rfl (fun i hi=>fc (by show i<12;omega)) rfl rfl rfl rfl rfl rfl rfl rfl rfl rfl hc.2.symm rfl rfl rfl (wM u b)) rfl⟩
theorem SK (hS:dH) {p:Prog} (hf:kf p) (hl:(aF p).length≤100000000): ∀f,Sx p f
 |0=>fun path a w hok hI h0 haV hp hw=>by
  have:=jK hI.lN haV h0
  omega
 |f+1=>Cm hS hf hl f (SK hS hf hl f)
theorem kn (hS:dH) {p:Prog} (hf:kf p) (hs:List (aj×aj×Nat)):Pure Tryz.prog 51 [.iv (nf (bb p hs))] (.iv (strs (ns p))):=by
 have h:=CU hS (bb p hs) (by have:=hf.len;simp[bb];omega);rw[show(bb p hs).map (·.1)=p.ar.map Decl.name from za p hs] at h;exact h
abbrev JK:PV:= .cH (.func 92) [] [.ptr 4 0, .ptr 5 0, .ptr 7 0, .ptr 0 0, .ptr 8 0, .ptr 6 0]
abbrev rH (G:IV) (w:TW) (k:Nat):AH:=[(0,some (.cells [.iv G])),(1,some (cj w.low)),(2,some (cj w.on)),(3,some (cj w.ring)),(4,some (.cells [.mp 1])),(5,some (.cells [.mp 2])),(6,some (.cells [.mp 3])),(7,some (.cells [nQ w.rj k w.stack])),(8,some (.cells [JK])),(k,some (nR w.rj w.stack))]
theorem PL {n k:Nat} {σ:Nat→Nat} {h:AH} {G:IV} {w:TW} {q7:PV} {o1 o2 o3 o:AO} (b:YG 9 n=true) (bk:WU k n=true) (hs: ∀i,i<9→σ i=i)
  (g0:h.get 0=some (.cells [.iv G])) (g1:h.get 1=some o1) (g2:h.get 2=some o2) (g3:h.get 3=some o3)
  (g4:h.get 4=some (.cells [.mp 1])) (g5:h.get 5=some (.cells [.mp 2])) (g6:h.get 6=some (.cells [.mp 3])) (g7:h.get 7=some (.cells [q7])) (g8:h.get 8=some (.cells [JK])) (g9:h.get (σ k)=some o)
  (e1:eU o1 (cj w.low)) (e2:eU o2 (cj w.on)) (e3:eU o3 (cj w.ring)) (e7:q7=nQ w.rj (σ k) w.stack) (e9:eU o (nR w.rj w.stack)):tU n σ h (rH G w k):=by
 have b9:=Wj b;have bk:=Wj bk;have hb: ∀i,i<9→WU i n=true:=fun i hi=>Xi (by omega);subst e7;have r: ∀i,i<9→PV.mp (σ i)=PV.mp i:=fun i hi=>by rw[hs i hi]
 have rp: ∀i,i<9→PV.ptr (σ i) 0=PV.ptr i 0:=fun i hi=>by rw[hs i hi]
 have lm: ∀i,i<9→bz n [PV.mp i]=true:=fun i hi=>by simp only[bz,PV.low,hb i hi]
 refine⟨⟨_,by rw[hs 0 (by omega)];exact g0, .of_eq rfl⟩,by omega,rfl,
  ⟨_,by rw[hs 1 (by omega)];exact g1,e1⟩,by omega,trivial,
  ⟨_,by rw[hs 2 (by omega)];exact g2,e2⟩,by omega,trivial,
  ⟨_,by rw[hs 3 (by omega)];exact g3,e3⟩,by omega,trivial,
  ⟨_,by rw[hs 4 (by omega)];exact g4, .of_eq (by simp only[AO.cL,dJ,PV.cL,r 1 (by omega)])⟩,by omega,lm 1 (by omega),
  ⟨_,by rw[hs 5 (by omega)];exact g5, .of_eq (by simp only[AO.cL,dJ,PV.cL,r 2 (by omega)])⟩,by omega,lm 2 (by omega),
  ⟨_,by rw[hs 6 (by omega)];exact g6, .of_eq (by simp only[AO.cL,dJ,PV.cL,r 3 (by omega)])⟩,by omega,lm 3 (by omega),
  ⟨_,by rw[hs 7 (by omega)];exact g7, .of_eq (by simp only[AO.cL,dJ,ki])⟩,by omega,by simp only[AO.low,bz,wK (Xi bk)],
  ⟨_,by rw[hs 8 (by omega)];exact g8, .of_eq (by simp only[AO.cL,dJ,PV.cL,rp 0 (by omega),rp 4 (by omega),rp 5 (by omega),rp 6 (by omega),rp 7 (by omega),rp 8 (by omega)])⟩,by omega,by simp only[AO.low,bz,PV.low,hb 0 (by omega),hb 4 (by omega),hb 5 (by omega),hb 6 (by omega),hb 7 (by omega),hb 8 (by omega)],
  ⟨_,g9,by rw[kj];exact e9⟩,bk,wO _ _ _,trivial⟩
theorem sF {V:Type} {kc:KC} {ev:V→IV} {z:V} {zv:Value} {dv:PV→V} (hz: ∀M,IR M (ev z) zv):eU .eE (.map kc ev z zv dv []):=
 ⟨id,fun M N U w j hj=>⟨#[],0,hj,⟨rfl,by simp,by simp,by simp,by simp⟩,hz M⟩⟩
def TW.o:TW:=⟨[],[],[],[],none⟩
theorem RU (G:IV) (w:TW) {n:Nat}:[some (AO.cells [PV.mp 1]),some (.cells [.mp 2]),some (.cells [nQ w.rj 10 w.stack]),some (.cells [.iv G]),some (.cells [JK]),some (.cells [.mp 3]),some (cj w.low),some (cj w.on),some (cj w.ring),some (nR w.rj w.stack)]=
  (tO G w).map fun o=>some (o.cL (sig [4,5,7,0,8,6,1,2,3,10] n)):=by
 have h1:=ki (sig [4,5,7,0,8,6,1,2,3,10] n) w.rj 9 w.stack;have h2:=kj (sig [4,5,7,0,8,6,1,2,3,10] n) w.rj w.stack;show _=[some (AO.cells [PV.mp 1]),some (.cells [.mp 2]),some (.cells [(nQ w.rj 9 w.stack).cL (sig [4,5,7,0,8,6,1,2,3,10] n)]),some (.cells [.iv G]),some (.cells [JK]),some (.cells [.mp 3]),some (cj w.low),some (cj w.on),some (cj w.ring),some ((nR w.rj w.stack).cL (sig [4,5,7,0,8,6,1,2,3,10] n))]
 rw[h1,h2];rfl
theorem yF (hS:dH) {p:Prog} (hf:kf p) (hl:(aF p).length≤100000000):Go.Al.Fn Tryz.prog 53 [.iv (nf (bb p (aF p)))] [] fun r h n=> ∃m:NM,Go.Rg.kS (ns p) (eg p) (fun a=>bG .str m a 0)∧r= .iv (ov m)∧h=[]∧n=0:=by
 have hn64:=ma hf;refine sZ ae Tryz.func53 rfl (by decide) Tryz.ntmps53 rfl (by simp) ?_;refine gA rfl (an (kn hS hf (aF p)) rfl rfl rfl rfl rfl rfl ?_);refine gA rfl ?_;refine jk 7 0 1 rfl rfl ?_
 let sn:Nat→St aj:=fun i=>fE (aT p) (ns p).length ((ns p).take i) St.o
 have hinv: ∀i,Inv (aT p) [] (sn i):=fun i=>(pM rq (Wz _) ((ns p).take i) St.o (fun a h=>YF h) (Ps _)).1
 refine o8 0 (ns p).length (WC _) (fun i w=>⟨[(3, .ptr 4 0),(4, .ptr 5 0),(5, .ptr 6 0),(6, .ptr 7 0),(7, .ptr 8 0),(15, .iv (strs (ns p))),(16,pI (ns p).length),(17,pI i)],rH (nf (bb p (aF p))) w 10,11⟩)
  (fun i w=>w.Ok (ns p)∧w.st=sn i) TW.o [9] ⟨⟨fun a h=>(nomatch h),Xk,fun a h=>(nomatch h)⟩,rfl⟩
  (wk rfl rfl rfl ⟨.refl _,rfl, .refl _,rfl, .refl _,rfl, .refl _,rfl, .refl _,rfl, .refl _,rfl, .refl _,rfl, .refl _,rfl,trivial⟩
   (PL rfl rfl (fun i hi=>fc (by show i<10;omega)) rfl rfl rfl rfl rfl rfl rfl rfl rfl rfl (sF eR) (sF eR) (sF eR) rfl (.of_eq rfl)) rfl) fun i w hi hJ=>?_
 obtain⟨hok,hst⟩:=hJ;refine gA rfl ?_;refine Wl (fun h1=>?_) (fun h1=>?_)
 ·have h1:i<(ns p).length:=by simpa using h1
  have hs1:sn (i+1)=if(sn i).low ((ns p).getD i default)=0 then(dw (aT p) (ns p).length ((ns p).getD i default) (sn i)).2 else sn i:=iL h1;refine gA rfl ?_;refine Wl (fun h2=>?_) (fun h2=>?_)
  ·have h2:w.st.low ((ns p).getD i default)=0:=of_decide_eq_true h2
   rw[←hst,if_pos h2] at hs1;refine gA rfl (xP [4,5,7,0,8,6,1,2,3,10] (SK hS hf hl (ns p).length [] ((ns p).getD i default) w hok (hst▸hinv i) h2 (bO h1) (fun g hg=>nomatch hg) (XB _ _)) rfl rfl rfl rfl rfl (RU _ _) rfl ?_)
   rintro r h' n' ⟨w3,hok3,hst3,rfl,rfl,rfl⟩
   refine⟨_,rfl,?_⟩;refine gA rfl ?_
   exact⟨h1,w3,[11],⟨hok3,by rw[hs1];exact hst3⟩,wk rfl rfl rfl ⟨.refl _,rfl, .refl _,rfl, .refl _,rfl, .refl _,rfl, .refl _,rfl, .refl _,rfl, .refl _,rfl, .refl _,rfl,trivial⟩
    (PL rfl rfl (fun i hi=>fc (by show i<10;omega)) rfl rfl rfl rfl rfl rfl rfl rfl rfl rfl (.refl _) (.refl _) (.refl _) (ki _ _ _ _) (.of_eq (kj _ _ _))) rfl⟩
  ·have h2: ¬w.st.low ((ns p).getD i default)=0:=of_decide_eq_false h2
   rw[←hst,if_neg h2] at hs1;refine gA rfl ?_
   exact⟨h1,w,[10],⟨hok,hs1.symm⟩,wk rfl rfl rfl ⟨.refl _,rfl, .refl _,rfl, .refl _,rfl, .refl _,rfl, .refl _,rfl, .refl _,rfl, .refl _,rfl, .refl _,rfl,trivial⟩
    (PL rfl rfl (fun i hi=>fc (by show i<10;omega)) rfl rfl rfl rfl rfl rfl rfl rfl rfl rfl (.refl _) (.refl _) (.refl _) rfl (.refl _)) rfl⟩
 ·have h1:(ns p).length≤i:=by simpa using h1
  have hr:Go.Rg.kS (ns p) (eg p) (fun a=>bG .str w.ring a 0):=by
   have h2:=Dc hf.nodup (Wz (ns p).length);have h3:sn i=fE (aT p) (ns p).length (ns p) St.o:=by show fE _ _ ((ns p).take i) _=_;rw[WB h1]
   have h4:(fun a=>bG .str w.ring a 0)=(fE (aT p) (ns p).length (ns p) St.o).ring:=by rw[←h3,←hst];rfl
   rw[h4];exact h2
  refine gA rfl ⟨.inr rfl,_,rfl,fB.map 3 rfl (.done ⟨.iv (ov w.ring),[],0,[],⟨w.ring,hr,rfl,rfl,rfl⟩,?_⟩)⟩;exact⟨rfl,WC _,by simp,⟨.of_eq rfl,rfl,trivial⟩,trivial,Xk⟩
end Go.Proofs.YtflegjieadkonaaGreatDoor
namespace Go.Proofs.YtflegjieadkonaaGreatDoor
open Go Go.Al
set_option maxRecDepth 10000
theorem RL (l:List aj) (s:aj):Pure Tryz.prog 129 [.iv (strs l),pS s] (pI (oW (fun x:aj=>decide (s=x)) l)):=by
 refine Dh (bM Tryz.func129 rfl (by decide)) ⟨_,_,WM⟩ fun hlen=>?_;simp only[maxLen] at hlen;refine ax ae Tryz.func129 rfl (by decide) Tryz.ntmps129 rfl (by simp) rfl ?_;refine gA rfl ?_
 refine aK 0 l.length (WC _) (fun i=>⟨[(0, .iv (strs l)),(1,pS s),(7,pI l.length),(8,pI i)],[],0⟩) (fun i=>(l.take i).any (fun x:aj=>decide (s=x))=false) [] (by simp)
  (Cj rfl rfl ⟨.refl _,rfl, .refl _,rfl, .refl _,rfl, .refl _,rfl,trivial⟩ rfl) fun i hi hJ=>?_
 refine gA rfl ?_;refine Wl (fun h1=>?_) (fun h1=>?_)
 ·have h1:i<l.length:=by simpa using h1
  refine gA rfl ?_;refine Wl (fun h2=>?_) (fun h2=>?_)
  ·have h2:(fun x:aj=>decide (s=x)) (l.getD i default)=true:=h2
   rw[hD hJ h1 h2];refine gA rfl (aw (by first|exact .inr rfl|exact .inl rfl) rfl (.of_eq ?_));rfl
  ·have h2:(fun x:aj=>decide (s=x)) (l.getD i default)=false:=h2
   refine gA rfl ?_;exact⟨h1,(cN hJ h1).2 h2,[],Cj rfl rfl ⟨.refl _,rfl, .refl _,rfl, .refl _,rfl, .refl _,rfl,trivial⟩ rfl⟩
 ·have h1:l.length≤i:=by simpa using h1
  rw[fN (any_none hJ h1)];refine gA rfl (aw (by first|exact .inr rfl|exact .inl rfl) rfl (.of_eq ?_));rfl
theorem KJ (l:List aj) (s:aj):(l.any fun x=>decide (s=x))=c2 l s:=by
 rw[Xn,bt,Xr];constructor
 ·rintro⟨x,hx,h⟩;exact(of_decide_eq_true h)▸hx
 ·exact fun h=>⟨s,h,decide_eq_true rfl⟩
theorem Bj (l:List aj) (s:aj):Pure Tryz.prog 99 [.iv (strs l),pS s] (pB (c2 l s)):=by
 refine ax ae Tryz.func99 rfl (by decide) Tryz.ntmps99 rfl (by simp) rfl ?_;refine gA rfl (an (RL l s) rfl rfl rfl rfl rfl rfl ?_);refine gA rfl (aw (by first|exact .inr rfl|exact .inl rfl) rfl (.of_eq ?_));exact lL (by rw[←KJ];exact hP _ l)
def nq (m:NM) (r:ak) (l:Lit):Bool:=decide (l.kind=1)&&decide (bG .str m l.atom.rel 0=bG .str m r.head.rel 0)
abbrev RR (m:NM) (r:ak):List AO:=[.cells [.iv (ov m)],aE r.c]
abbrev JD (m:NM) (r:ak):AH:=[(0,some (.cells [.iv (ov m)])),(1,some (aE r.c))]
theorem Jy (m:NM) (r:ak) (l:Lit):cf Tryz.prog 102 [ag l.c, .ptr 0 0, .ptr 1 0] (RR m r) (pB (nq m r l)) (JD m r) 2:=by
 refine aH ae Tryz.func102 rfl (by decide) Tryz.ntmps102 rfl (by simp) ?_;refine gA rfl ?_;refine Wl (fun h1=>?_) (fun h1=>?_)
 ·have h1:l.kind=1:=of_decide_eq_true h1
  refine gA rfl (az [] (by first|exact .inr rfl|exact .inl rfl) rfl (wk rfl rfl rfl ⟨.of_eq (lL (by rw[nq,decide_eq_true h1,YA])),rfl,trivial⟩ (⟨⟨_,rfl, .of_eq rfl⟩,Wj rfl,rfl,hC rfl rfl rfl trivial⟩) rfl))
 ·have h1: ¬l.kind=1:=of_decide_eq_false h1
  refine gA rfl (az [] (by first|exact .inr rfl|exact .inl rfl) rfl (wk rfl rfl rfl ⟨.of_eq (lL (by rw[nq,decide_eq_false h1,Yd])),rfl,trivial⟩ (⟨⟨_,rfl, .of_eq rfl⟩,Wj rfl,rfl,hC rfl rfl rfl trivial⟩) rfl))
abbrev Da:PV:= .cH (.func 102) [] [.ptr 0 0, .ptr 1 0]
theorem Jw (m:NM) (r:ak) (l:List Lit):cf Tryz.prog 130 [.iv (cM 30 l Lit.c),Da] (RR m r) (pI (oW (nq m r) l)) (JD m r) 2:=by
 refine ql (bM Tryz.func130 rfl (by decide)) ⟨_,_,WM⟩ fun hlen=>?_;simp only[maxLen] at hlen;refine aH ae Tryz.func130 rfl (by decide) Tryz.ntmps130 rfl (by simp) ?_;refine gA rfl ?_
 refine aK 0 l.length (WC _) (fun i=>⟨[(0, .iv (cM 30 l Lit.c)),(1,Da),(7,pI l.length),(8,pI i)],JD m r,2⟩) (fun i=>(l.take i).any (nq m r)=false) [] (by simp)
  (wk rfl rfl rfl ⟨.refl _,rfl, .refl _,rfl, .refl _,rfl, .refl _,rfl,trivial⟩ (⟨⟨_,rfl, .of_eq rfl⟩,Wj rfl,rfl,hC rfl rfl rfl trivial⟩) rfl) fun i hi hJ=>?_
 refine gA rfl ?_;refine Wl (fun h1=>?_) (fun h1=>?_)
 ·have h1:i<l.length:=by simpa using h1
  refine gA rfl (aN [0,1] (Jy m r (l.getD i default)) rfl rfl rfl rfl rfl rfl rfl rfl ?_);refine gA rfl ?_;refine Wl (fun h2=>?_) (fun h2=>?_)
  ·have h2:nq m r (l.getD i default)=true:=h2
   rw[hD hJ h1 h2];refine gA rfl (az [] (by first|exact .inr rfl|exact .inl rfl) rfl (wk rfl rfl rfl ⟨.refl _,rfl,trivial⟩ (⟨⟨_,rfl, .of_eq rfl⟩,Wj rfl,rfl,hC rfl rfl rfl trivial⟩) rfl))
  ·have h2:nq m r (l.getD i default)=false:=h2
   refine gA rfl ?_;exact⟨h1,(cN hJ h1).2 h2,[],wk rfl rfl rfl ⟨.refl _,rfl, .refl _,rfl, .refl _,rfl, .refl _,rfl,trivial⟩ (⟨⟨_,rfl, .of_eq rfl⟩,Wj rfl,rfl,hC rfl rfl rfl trivial⟩) rfl⟩
 ·have h1:l.length≤i:=by simpa using h1
  rw[fN (any_none hJ h1)];refine gA rfl (az [] (by first|exact .inr rfl|exact .inl rfl) rfl (wk rfl rfl rfl ⟨.refl _,rfl,trivial⟩ (⟨⟨_,rfl, .of_eq rfl⟩,Wj rfl,rfl,hC rfl rfl rfl trivial⟩) rfl))
theorem Jx (m:NM) (r:ak) (l:List Lit):cf Tryz.prog 101 [.iv (cM 30 l Lit.c),Da] (RR m r) (pB (l.any (nq m r))) (JD m r) 2:=by
 refine aH ae Tryz.func101 rfl (by decide) Tryz.ntmps101 rfl (by simp) ?_;refine gA rfl (aN [0,1] (Jw m r l) rfl rfl rfl rfl rfl rfl rfl rfl ?_);refine gA rfl (az [] (by first|exact .inr rfl|exact .inl rfl) rfl (wk rfl rfl rfl ⟨.of_eq (lL (hP _ l)),rfl,trivial⟩ (⟨⟨_,rfl, .of_eq rfl⟩,Wj rfl,rfl,hC rfl rfl rfl trivial⟩) rfl))
theorem CW (m:NM) (r:ak):Pure Tryz.prog 60 [ag r.c, .iv (ov m)] (pB (r.body.any (nq m r))):=by
 refine ax ae Tryz.func60 rfl (by decide) Tryz.ntmps60 rfl (by simp) rfl ?_;refine gA rfl (aN [1,0] (Jx m r r.body) rfl rfl rfl rfl rfl rfl rfl rfl ?_);refine gA rfl (aw (by first|exact .inr rfl|exact .inl rfl) rfl (.of_eq ?_));rfl
def tG (m:NM) (r:ak) (l:Lit):Bool:=decide (l.kind≠1)&&(named l).any fun t=>decide (bG .str m t 0=bG .str m r.head.rel 0)
def tP (m:NM) (r:ak) (t:Term):Bool:=decide (t.kind=1)&&!c2 (j5 r) t.var&&r.body.any (nq m r)
def ie (m:NM) (r:ak):dI:=match r.body.find? (tG m r) with
 |some l=>(70,l.at)
 |none=>if r.head.aq.any (tP m r)=true then(71,r.at_) else dI.z
theorem RJ (m:NM) (r:ak) (hb:r.size≤10000000):Pure Tryz.prog 57 [ag r.c, .iv (ov m)] (ag (ie m r).c):=by
 have hbl:r.body.length≤10000000:=by have:=Lit.aL r.body;unfold ak.size at hb;omega
 have htl:r.head.aq.length≤10000000:=by unfold ak.size at hb;omega
 refine ax ae Tryz.func57 rfl (by decide) Tryz.ntmps57 rfl (by simp) rfl ?_;refine gA rfl ?_
 refine aK 0 r.body.length (WC _) (fun i=>⟨[(1, .iv (ov m)),(2, .ptr 0 0),(4, .ptr 1 0),(13, .iv (lits r.body)),(14,pI r.body.length),(15,pI i)],[(0,some (aE r.c)),(1,some (aE dI.z.c))],2⟩) (fun i=>(r.body.take i).any (tG m r)=false) [] (by simp)
  (wk rfl rfl rfl ⟨.refl _,rfl, .refl _,rfl, .refl _,rfl, .refl _,rfl, .refl _,rfl, .refl _,rfl,trivial⟩ (hC rfl rfl rfl (hC rfl rfl rfl trivial)) rfl) fun i hi hJ=>?_
 refine gA rfl ?_;refine Wl (fun h1=>?_) (fun h1=>?_)
 ·have h1:i<r.body.length:=by simpa using h1
  have hsz:(r.body.getD i default).size≤10000000:=by have:=Lit.bN r.body i h1;unfold ak.size at hb;omega
  have hnl:=kD (r.body.getD i default);refine gA rfl (an (zO (r.body.getD i default) (by omega)) rfl rfl rfl rfl rfl rfl ?_);refine gA rfl ?_
  refine aK 0 (named (r.body.getD i default)).length (WC _) (fun k=>⟨[(1, .iv (ov m)),(2, .ptr 0 0),(4, .ptr 1 0),(6, .ptr 2 0),(13, .iv (lits r.body)),(14,pI r.body.length),(15,pI i),(20, .iv (strs (named (r.body.getD i default)))),(21,pI (named (r.body.getD i default)).length),(22,pI k)],[(0,some (aE r.c)),(1,some (aE dI.z.c)),(2,some (aE (r.body.getD i default).c))],3⟩)
   (fun k=>decide ((r.body.getD i default).kind≠1)=false∨((named (r.body.getD i default)).take k).any (fun t=>decide (bG .str m t 0=bG .str m r.head.rel 0))=false) [] (.inr (by simp))
   (wk rfl rfl rfl ⟨.refl _,rfl, .refl _,rfl, .refl _,rfl, .refl _,rfl, .refl _,rfl, .refl _,rfl, .refl _,rfl, .refl _,rfl, .refl _,rfl, .refl _,rfl,trivial⟩ (hC rfl rfl rfl (hC rfl rfl rfl (hC rfl rfl rfl trivial))) rfl) fun k hk hK=>?_
  refine gA rfl ?_;refine Wl (fun h2=>?_) (fun h2=>?_)
  ·have h2:k<(named (r.body.getD i default)).length:=by simpa using h2
   refine gA rfl ?_;refine Wl (fun h3=>?_) (fun h3=>?_)
   ·have h3: ¬(r.body.getD i default).kind=1:=by simpa using h3
    have hK:=hK.resolve_left (by simpa using h3);refine gA rfl ?_;refine Wl (fun h4=>?_) (fun h4=>?_)
    ·have h4:bG .str m ((named (r.body.getD i default)).getD k default) 0=bG .str m r.head.rel 0:=of_decide_eq_true h4
     have hs:tG m r (r.body.getD i default)=true:=by
      rw[tG,decide_eq_true h3,YA];exact AU h2 (decide_eq_true h4)
     rw[ie,mB hJ h1 hs];refine gA rfl (aw (by first|exact .inr rfl|exact .inl rfl) rfl (.of_eq ?_));rfl
    ·have h4: ¬bG .str m ((named (r.body.getD i default)).getD k default) 0=bG .str m r.head.rel 0:=of_decide_eq_false h4
     refine gA rfl ?_;exact⟨h2, .inr ((cN hK h2).2 (decide_eq_false h4)),[],wk rfl rfl rfl ⟨.refl _,rfl, .refl _,rfl, .refl _,rfl, .refl _,rfl, .refl _,rfl, .refl _,rfl, .refl _,rfl, .refl _,rfl, .refl _,rfl, .refl _,rfl,trivial⟩ (hC rfl rfl rfl (hC rfl rfl rfl (hC rfl rfl rfl trivial))) rfl⟩
   ·have h3:(r.body.getD i default).kind=1:=by simpa using h3
    refine gA rfl ?_;exact⟨h2, .inl (decide_eq_false fun h=>h h3),[],wk rfl rfl rfl ⟨.refl _,rfl, .refl _,rfl, .refl _,rfl, .refl _,rfl, .refl _,rfl, .refl _,rfl, .refl _,rfl, .refl _,rfl, .refl _,rfl, .refl _,rfl,trivial⟩ (hC rfl rfl rfl (hC rfl rfl rfl (hC rfl rfl rfl trivial))) rfl⟩
  ·have h2:(named (r.body.getD i default)).length≤k:=by simpa using h2
   have hs:tG m r (r.body.getD i default)=false:=by
    rcases hK with hK|hK
    ·rw[tG,hK,Yd]
    ·rw[tG,any_none hK h2,Yu]
   refine gA rfl ?_;exact⟨h1,(cN hJ h1).2 hs,[],wk rfl rfl rfl ⟨.refl _,rfl, .refl _,rfl, .refl _,rfl, .refl _,rfl, .refl _,rfl, .refl _,rfl,trivial⟩ (hC rfl rfl rfl (hC rfl rfl rfl trivial)) rfl⟩
 have h1:r.body.length≤i:=by simpa using h1
 have hfn:r.body.find? (tG m r)=none:=kN (any_none hJ h1);rw[ie,hfn];refine gA rfl (an (VS r hb) rfl rfl rfl rfl rfl rfl ?_);refine gA rfl ?_
 refine aK 0 r.head.aq.length (WC _) (fun k=>⟨[(1, .iv (ov m)),(2, .ptr 0 0),(4, .ptr 1 0),(9, .iv (strs (j5 r))),(49, .iv (cM 5 r.head.aq Term.c)),(50,pI r.head.aq.length),(51,pI k)],[(0,some (aE r.c)),(1,some (aE dI.z.c))],2⟩) (fun k=>(r.head.aq.take k).any (tP m r)=false) [] (by simp)
  (wk rfl rfl rfl ⟨.refl _,rfl, .refl _,rfl, .refl _,rfl, .refl _,rfl, .refl _,rfl, .refl _,rfl, .refl _,rfl,trivial⟩ (hC rfl rfl rfl (hC rfl rfl rfl trivial)) rfl) fun k hk hK=>?_
 refine gA rfl ?_;refine Wl (fun h2=>?_) (fun h2=>?_)
 ·have h2:k<r.head.aq.length:=by simpa using h2
  have no:tP m r (r.head.aq.getD k default)=false→(r.head.aq.take (k+1)).any (tP m r)=false:=(cN hK h2).2;refine gA rfl ?_;refine Wl (fun h3=>?_) (fun h3=>?_)
  ·have h3:(r.head.aq.getD k default).kind=1:=of_decide_eq_true h3
   refine gA rfl (an (Bj (j5 r) (r.head.aq.getD k default).var) rfl rfl rfl rfl rfl rfl ?_);refine gA rfl ?_;refine Wl (fun h4=>?_) (fun h4=>?_)
   ·have h4:(!c2 (j5 r) (r.head.aq.getD k default).var)=true:=h4
    refine gA rfl (an (CW m r) rfl rfl rfl rfl rfl rfl ?_);refine gA rfl ?_;refine Wl (fun h5=>?_) (fun h5=>?_)
    ·have h5:r.body.any (nq m r)=true:=h5
     rw[if_pos (AU h2 (by rw[tP,decide_eq_true h3,h4,h5];rfl))];refine gA rfl (aw (by first|exact .inr rfl|exact .inl rfl) rfl (.of_eq ?_));rfl
    ·have h5:r.body.any (nq m r)=false:=h5
     refine gA rfl ?_;exact⟨h2,no (by rw[tP,h5,Yu]),[],wk rfl rfl rfl ⟨.refl _,rfl, .refl _,rfl, .refl _,rfl, .refl _,rfl, .refl _,rfl, .refl _,rfl, .refl _,rfl,trivial⟩ (hC rfl rfl rfl (hC rfl rfl rfl trivial)) rfl⟩
   ·have h4:(!c2 (j5 r) (r.head.aq.getD k default).var)=false:=h4
    refine gA rfl ?_;exact⟨h2,no (by rw[tP,h4,Yu,Yd]),[],wk rfl rfl rfl ⟨.refl _,rfl, .refl _,rfl, .refl _,rfl, .refl _,rfl, .refl _,rfl, .refl _,rfl, .refl _,rfl,trivial⟩ (hC rfl rfl rfl (hC rfl rfl rfl trivial)) rfl⟩
  ·have h3: ¬(r.head.aq.getD k default).kind=1:=of_decide_eq_false h3
   refine gA rfl ?_;exact⟨h2,no (by rw[tP,decide_eq_false h3,Yd,Yd]),[],wk rfl rfl rfl ⟨.refl _,rfl, .refl _,rfl, .refl _,rfl, .refl _,rfl, .refl _,rfl, .refl _,rfl, .refl _,rfl,trivial⟩ (hC rfl rfl rfl (hC rfl rfl rfl trivial)) rfl⟩
 ·have h2:r.head.aq.length≤k:=by simpa using h2
  rw[if_neg (by rw[any_none hK h2];decide)];refine gA rfl (aw (by first|exact .inr rfl|exact .inl rfl) rfl (.of_eq ?_));rfl
theorem find_congr {α:Type} {f g:α→Bool}: ∀{l:List α},(∀x∈l,f x=g x)→l.find? f=l.find? g
 | [],_=>rfl
 |x::l,h=>by
  rw[YP,YP,h x WM,find_congr fun y hy=>h y (WE _ hy)]
theorem tq {α:Type} {f g:α→Bool} {l:List α} (h: ∀x∈l,f x=g x):l.any f=l.any g:=by
 rw[Xn,Xr,Xr];exact⟨fun⟨x,hx,h1⟩=>⟨x,hx,by rw[←h x hx];exact h1⟩,fun⟨x,hx,h1⟩=>⟨x,hx,by rw[h x hx];exact h1⟩⟩
theorem vJ {p:Prog} {a:aj} (h:a∈p.ar.map Decl.name):a∈ns p:=by rw[ns,c7];exact h
theorem C9 {p:Prog} (hf:kf p) {m:NM} (hR:Go.Rg.kS (ns p) (eg p) (fun a=>bG .str m a 0)) {r:ak} (hr:r∈p.rules):r.body.any (nq m r)=j4 p r:=by
 refine tq fun l hl=>?_;rw[nq];by_cases hk:l.kind=1
 ·have hm:l.atom.rel∈named l:=by rw[oP,if_pos (.inl hk)];exact Yf _
  rw[qz hR (vJ (hf.lits r hr l hl _ hm)) (vJ (hf.Am r hr))]
 ·rw[decide_eq_false hk];rfl
theorem Ci {p:Prog} (hf:kf p) {m:NM} (hR:Go.Rg.kS (ns p) (eg p) (fun a=>bG .str m a 0)) {r:ak} (hr:r∈p.rules):ie m r=dP p r:=by
 have h1:r.body.find? (tG m r)=gH p r:=find_congr fun l hl=>by
  rw[tG];congr 1;exact tq fun t ht=>(qz hR (vJ (hf.lits r hr l hl t ht)) (vJ (hf.Am r hr))).symm
 have h2:r.head.aq.any (tP m r)=(qo r&&j4 p r):=by
  rw[←C9 hf hR hr,qo];have:tP m r=fun t=>(decide (t.kind=1)&&!c2 (j5 r) t.var)&&r.body.any (nq m r):=rfl;rw[this];generalize r.body.any (nq m r)=c;cases c<;>simp
 rw[ie,dP,h1]
 cases gH p r with
 |some l=>rfl
 |none=>
  simp only[h2,WN]
theorem vo (hS:dH) {p:Prog} (hb:p.fit) (h: ¬(bf p).1=0):Pure Tryz.prog 50 [ag p.c] (.bP [.iv (.v (.map none)),pB false]):=by
 have:=CX hS p hb;rwa[sS,if_neg h,decide_eq_false h] at this
theorem r5 (hS:dH) {p:Prog} (hb:p.fit) (h:(bf p).1=0):Pure Tryz.prog 50 [ag p.c] (.bP [.iv (nf (bb p (aF p))),pB true]):=by
 have:=CX hS p hb;rwa[sS,if_pos h,decide_eq_true h] at this
theorem oA {α β:Type} (f:α→List β) (g:α→Nat) (h: ∀a,(f a).length≤g a): ∀l:List α,(l.flatMap f).length≤(l.map g).sum
 | []=>Wz _
 |a::l=>by
  have h1:=oA f g h l;have h2:=h a;rw[XA,Wn,WI,XN];omega
theorem eZ: ∀l:List Lit,Lit.aC l=(l.map Lit.size).sum
 | []=>rfl
 |x::l=>by rw[Lit.aC,eZ l,WI,XN]
theorem mY {p:Prog} (hs:p.size≤10000000):(aF p).length≤100000000:=by
 have h1:=oA (fun r:ak=>r.body.flatMap fun l=>(named l).map fun t=>(r.head.rel,t,jJ l)) ak.size (fun r=>by
  have:=oA (fun l=>(named l).map fun t=>(r.head.rel,t,jJ l)) Lit.size (fun l=>by rw[W3];exact kD l) r.body;rw[←eZ] at this
  unfold ak.size;omega) p.rules
 unfold Prog.size at hs;show(p.rules.flatMap _).length≤_;omega
theorem r6 (hS:dH) (p:Prog) (hb:p.fit) (hs:p.size≤10000000):Pure Tryz.prog 17 [ag p.c] (ag (cB p).c):=by
 by_cases k1:(bf p).1=0;rotate_left
 ·rw[cB,if_pos k1]
  refine ax ae Tryz.func17 rfl (by decide) Tryz.ntmps17 rfl (by simp) rfl ?_;refine gA rfl (an (vo hS hb k1) rfl rfl rfl rfl rfl rfl ?_);refine gA rfl ?_;refine Wl (fun k2=>?_) (fun k2=>?_);rotate_left
  ·cases k2
  refine gA rfl (an (c24 p hb) rfl rfl rfl rfl rfl rfl ?_);refine gA rfl (aw (by first|exact .inr rfl|exact .inl rfl) rfl (.of_eq ?_));rfl
 have hf:=iF k1;have hrl:p.rules.length≤1000000000:=hb.2.1;rw[cB,if_neg (by simpa using k1)];refine ax ae Tryz.func17 rfl (by decide) Tryz.ntmps17 rfl (by simp) rfl ?_;refine gA rfl (an (r5 hS hb k1) rfl rfl rfl rfl rfl rfl ?_);refine gA rfl ?_;refine Wl (fun k2=>?_) (fun k2=>?_)
 ·cases k2
 refine gA rfl (xP [] (yF hS hf (mY hs)) rfl rfl rfl rfl rfl rfl rfl ?_)
 rintro r h' n' ⟨m,hR,rfl,rfl,rfl⟩
 refine⟨_,rfl,?_⟩;have hW:p.rules.map (ie m)=p.rules.map (dP p):=List.map_congr_left fun r hr=>Ci hf hR hr;rw[←hW]
 have hget: ∀i,i<p.rules.length→(p.rules.map (ie m)).getD i default=ie m (p.rules.getD i default):=fun i hi=>by
  rw[Ws,Ww,Wt hi,Ws,Wt hi];rfl
 have hlen:(p.rules.map (ie m)).length=p.rules.length:=W3 _;refine gA rfl ?_
 refine aK 0 p.rules.length (WC _) (fun i=>⟨[(1, .ptr 0 0),(2, .ptr 1 0),(5, .iv (ov m)),(21, .iv (cM 5 p.rules ak.c)),(22,pI p.rules.length),(23,pI i)],[(0,some (aE p.c)),(1,some (aE dI.z.c))],2⟩) (fun i=>((p.rules.map (ie m)).take i).any (fun d=>decide (d.1≠0))=false) [] (by simp)
  (wk rfl rfl rfl ⟨.refl _,rfl, .refl _,rfl, .refl _,rfl, .refl _,rfl, .refl _,rfl, .refl _,rfl,trivial⟩ (hC rfl rfl rfl (hC rfl rfl rfl trivial)) rfl) fun i hi hJ=>?_
 refine gA rfl ?_;refine Wl (fun h1=>?_) (fun h1=>?_)
 ·have h1:i<p.rules.length:=by simpa using h1
  have hfit:=hb.2.2 _ (bO h1);have hg:=hget i h1;refine gA rfl (an (RJ m (p.rules.getD i default) hfit.1) rfl rfl rfl rfl rfl rfl ?_);refine gA rfl ?_;refine Wl (fun h2=>?_) (fun h2=>?_)
  ·have h2: ¬(ie m (p.rules.getD i default)).1=0:=by simpa using h2
   rw[mB hJ (by rw[hlen];exact h1) (by rw[hg];exact decide_eq_true h2),hg];refine gA rfl (aw (by first|exact .inr rfl|exact .inl rfl) rfl (.of_eq ?_));rfl
  ·have h2:(ie m (p.rules.getD i default)).1=0:=by simpa using h2
   refine gA rfl ?_;exact⟨h1,(cN hJ (by rw[hlen];exact h1)).2 (by rw[hg];simpa using h2),[],wk rfl rfl rfl ⟨.refl _,rfl, .refl _,rfl, .refl _,rfl, .refl _,rfl, .refl _,rfl, .refl _,rfl,trivial⟩ (hC rfl rfl rfl (hC rfl rfl rfl trivial)) rfl⟩
 ·have h1:p.rules.length≤i:=by simpa using h1
  rw[kN (any_none hJ (by rw[hlen];exact h1))];refine gA rfl (aw (by first|exact .inr rfl|exact .inl rfl) rfl (.of_eq ?_));rfl
def jS (l:Lit):Bool:=decide (l.kind≠2)&&decide (l.kind≠4)
theorem Bi (hS:dH) (p:Prog) (hb:p.fit):Pure Tryz.prog 18 [ag p.c] (pB (ur p)):=by
 have hrl:p.rules.length≤1000000000:=hb.2.1;refine ax ae Tryz.func18 rfl (by decide) Tryz.ntmps18 rfl (by simp) rfl ?_;refine gA rfl (an (CX hS p hb) rfl rfl rfl rfl rfl rfl ?_);refine gA rfl ?_
 refine aK 0 p.rules.length (WC _) (fun i=>⟨[(1, .ptr 0 0),(4,pB (decide ((bf p).1=0)&&(p.rules.take i).all fun r=>r.body.all jS)),(15, .iv (cM 5 p.rules ak.c)),(16,pI p.rules.length),(17,pI i)],[(0,some (aE p.c))],1⟩) (fun _=>True) [] trivial
  (wk rfl rfl rfl ⟨.refl _,rfl, .of_eq (lL (by simp)),rfl, .refl _,rfl, .refl _,rfl, .refl _,rfl,trivial⟩ (hC rfl rfl rfl trivial) rfl) fun i hi _=>?_
 refine gA rfl ?_;refine Wl (fun h1=>?_) (fun h1=>?_)
 ·have h1:i<p.rules.length:=by simpa using h1
  have hfit:=(hb.2.2 _ (bO h1)).1;have hbl:(p.rules.getD i default).body.length≤10000000:=by have:=Lit.aL (p.rules.getD i default).body;unfold ak.size at hfit;omega
  have hst:(decide ((bf p).1=0)&&(p.rules.take (i+1)).all fun r=>r.body.all jS)=((decide ((bf p).1=0)&&(p.rules.take i).all fun r=>r.body.all jS)&&(p.rules.getD i default).body.all jS):=by
   rw[aW h1,Zn,Bool.and_assoc];simp
  generalize(decide ((bf p).1=0)&&(p.rules.take i).all fun r=>r.body.all jS)=b at*
  refine gA rfl ?_
  refine aK 0 (p.rules.getD i default).body.length (WC _) (fun k=>⟨[(1, .ptr 0 0),(4,pB (b&&((p.rules.getD i default).body.take k).all jS)),(6, .ptr 1 0),(15, .iv (cM 5 p.rules ak.c)),(16,pI p.rules.length),(17,pI i),(22, .iv (lits (p.rules.getD i default).body)),(23,pI (p.rules.getD i default).body.length),(24,pI k)],[(0,some (aE p.c)),(1,some (aE (p.rules.getD i default).c))],2⟩) (fun _=>True) [] trivial
   (wk rfl rfl rfl ⟨.refl _,rfl, .of_eq (lL (by simp)),rfl, .refl _,rfl, .refl _,rfl, .refl _,rfl, .refl _,rfl, .refl _,rfl, .refl _,rfl, .refl _,rfl,trivial⟩ (hC rfl rfl rfl (hC rfl rfl rfl trivial)) rfl) fun k hk _=>?_
  refine gA rfl ?_;refine Wl (fun h2=>?_) (fun h2=>?_)
  ·have h2:k<(p.rules.getD i default).body.length:=by simpa using h2
   have hs2:(b&&((p.rules.getD i default).body.take (k+1)).all jS)=((b&&((p.rules.getD i default).body.take k).all jS)&&jS ((p.rules.getD i default).body.getD k default)):=by
    rw[aW h2,Zn,Bool.and_assoc];simp
   generalize(b&&((p.rules.getD i default).body.take k).all jS)=c at*
   have fin: ∀d:Bool,d=(c&&jS ((p.rules.getD i default).body.getD k default))→d=(b&&((p.rules.getD i default).body.take (k+1)).all jS):=fun d h=>by rw[hs2,h]
   refine gA rfl ?_;refine Wl (fun g1=>?_) (fun g1=>?_)
   ·have g1:c=true:=g1
    refine gA rfl ?_;refine Wl (fun g2=>?_) (fun g2=>?_)
    ·refine gA rfl ?_
     exact⟨h2,trivial,[],wk rfl rfl rfl ⟨.refl _,rfl, .of_eq (lL (fin _ (by rw[g1,jS,decide_eq_true (show(((p.rules.getD i default).body.getD k default).kind≠2) by simpa using g2)];simp))),rfl, .refl _,rfl, .refl _,rfl, .refl _,rfl, .refl _,rfl, .refl _,rfl, .refl _,rfl, .refl _,rfl,trivial⟩ (hC rfl rfl rfl (hC rfl rfl rfl trivial)) rfl⟩
    ·refine gA rfl ?_
     exact⟨h2,trivial,[],wk rfl rfl rfl ⟨.refl _,rfl,ah.VB (fin _ (by rw[g1,jS,decide_eq_false (show¬(((p.rules.getD i default).body.getD k default).kind≠2) by simpa using g2)];simp)),rfl, .refl _,rfl, .refl _,rfl, .refl _,rfl, .refl _,rfl, .refl _,rfl, .refl _,rfl, .refl _,rfl,trivial⟩ (hC rfl rfl rfl (hC rfl rfl rfl trivial)) rfl⟩
   ·have g1:c=false:=g1
    refine gA rfl ?_;exact⟨h2,trivial,[],wk rfl rfl rfl ⟨.refl _,rfl,ah.VB (fin _ (by rw[g1];simp)),rfl, .refl _,rfl, .refl _,rfl, .refl _,rfl, .refl _,rfl, .refl _,rfl, .refl _,rfl, .refl _,rfl,trivial⟩ (hC rfl rfl rfl (hC rfl rfl rfl trivial)) rfl⟩
  ·have h2:(p.rules.getD i default).body.length≤k:=by simpa using h2
   refine gA rfl ?_;exact⟨h1,trivial,[],wk rfl rfl rfl ⟨.refl _,rfl, .of_eq (lL (by rw[hst,WB h2])),rfl, .refl _,rfl, .refl _,rfl, .refl _,rfl,trivial⟩ (hC rfl rfl rfl trivial) rfl⟩
 ·have h1:p.rules.length≤i:=by simpa using h1
  refine gA rfl (aw (by first|exact .inr rfl|exact .inl rfl) rfl (.of_eq ?_));rw[WB h1];rfl
abbrev Vt:=aj×aj×Bool
def zp (x:Vt):List IV:=[iS x.1,iS x.2.1, .v (.bool x.2.2)]
def ix (p:Prog):List Vt:=if(bf p).1=0 then oh p else[]
def bJ (p:Prog) (a:aj):List Vt:=(aT p a).map fun b=>(a,b,uh p a b)
theorem zm {p:Prog} {i:Nat} (h:i<(ns p).length):((ns p).take (i+1)).flatMap (bJ p)=((ns p).take i).flatMap (bJ p)++bJ p ((ns p).getD i default):=by
 rw[aW h,Ys];simp
theorem wH (p:Prog) (a:aj):(aT p a).length≤(ns p).length:=XB _ _
theorem x7 {p:Prog} (h:(ns p).length≤64) (i:Nat):(((ns p).take i).flatMap (bJ p)).length≤10000:=by
 have h1:=oA (bJ p) (fun _=>64) (fun a=>by unfold bJ;rw[W3];exact WV (wH p a) h) ((ns p).take i)
 have h2: ∀l:List aj,(l.map fun _=>64).sum=l.length*64:=by
  intro l
  induction l with
  |nil=>rfl
  |cons x l ih=>rw[WI,XN,ih,W2];omega
 rw[h2,Xb] at h1;omega
theorem yH (hS:dH) (p:Prog) (hb:p.fit) (hs:p.size≤10000000):Pure Tryz.prog 13 [ag p.c] (.iv (cM 3 (ix p) zp)):=by
 by_cases k1:(bf p).1=0;rotate_left
 ·rw[ix,if_neg k1]
  refine ax ae Tryz.func13 rfl (by decide) Tryz.ntmps13 rfl (by simp) rfl ?_;refine gA rfl (an (vo hS hb k1) rfl rfl rfl rfl rfl rfl ?_);refine gA rfl (an (nU hS) rfl rfl rfl rfl rfl rfl ?_);refine gA rfl ?_
  refine aK 0 0 (WC _) (fun i=>⟨[(5, .iv (.v (.slice none 0 0))),(17,pI 0),(18,pI 0)],[],1⟩) (fun _=>True) [] trivial
   (wk rfl rfl rfl ⟨.refl _,rfl, .refl _,rfl, .refl _,rfl,trivial⟩ trivial rfl) fun i hi _=>?_
  refine gA rfl ?_;refine Wl (fun h1=>?_) (fun h1=>?_)
  ·exact absurd h1 (by decide)
  refine gA rfl (aw (by first|exact .inr rfl|exact .inl rfl) rfl ?_);exact .nil _ _
 have hf:=iF k1;have hn:=ma hf;rw[ix,if_pos k1];refine ax ae Tryz.func13 rfl (by decide) Tryz.ntmps13 rfl (by simp) rfl ?_;refine gA rfl (an (r5 hS hb k1) rfl rfl rfl rfl rfl rfl ?_);refine gA rfl (an (kn hS hf (aF p)) rfl rfl rfl rfl rfl rfl ?_);refine gA rfl ?_;refine jW 5 3 rfl ?_
 refine aK 0 (ns p).length (WC _) (fun i=>⟨[(3, .iv (nf (bb p (aF p)))),(5, .sl 2 0 (((ns p).take i).flatMap (bJ p)).length 3),(16, .iv (strs (ns p))),(17,pI (ns p).length),(18,pI i)],[(2,some (aD 3 (((ns p).take i).flatMap (bJ p)) zp))],3⟩) (fun _=>True) [1] trivial
  (wk rfl rfl rfl ⟨.refl _,rfl, .refl _,rfl, .refl _,rfl, .refl _,rfl, .refl _,rfl,trivial⟩ (hR rfl rfl rfl trivial) rfl) fun i hi _=>?_
 refine gA rfl ?_;refine Wl (fun h1=>?_) (fun h1=>?_)
 ·have h1:i<(ns p).length:=by simpa using h1
  have ha:(ns p).getD i default∈p.ar.map Decl.name:=by have:=bO h1;rwa[ns,c7] at this
  have hst:=zm h1;have hle:=x7 hn i;have hsl:=wH p ((ns p).getD i default);refine gM 13 rfl (o7 ae (.iv (ov (bZ (aF p) ((ns p).getD i default)))) rfl rfl rfl rfl (mr p _ ha) rfl ?_);refine gA rfl (an (Pp hS hf (mY hs) ((ns p).getD i default)) rfl rfl rfl rfl rfl rfl ?_);refine gA rfl ?_
  refine aK 0 (aT p ((ns p).getD i default)).length (WC _) (fun k=>⟨[(3, .iv (nf (bb p (aF p)))),(7,pS ((ns p).getD i default)),(5, .sl 3 0 (((ns p).take i).flatMap (bJ p)++(bJ p ((ns p).getD i default)).take k).length 3),(16, .iv (strs (ns p))),(17,pI (ns p).length),(18,pI i),(25, .iv (strs (aT p ((ns p).getD i default)))),(26,pI (aT p ((ns p).getD i default)).length),(27,pI k)],[(3,some (aD 3 (((ns p).take i).flatMap (bJ p)++(bJ p ((ns p).getD i default)).take k) zp))],4⟩) (fun _=>True) [2] trivial
   (wk rfl rfl rfl ⟨.refl _,rfl, .refl _,rfl, .row (by simp),rfl, .refl _,rfl, .refl _,rfl, .refl _,rfl, .refl _,rfl, .refl _,rfl, .refl _,rfl,trivial⟩ (hR rfl (by simp) rfl trivial) rfl) fun k hk _=>?_
  refine gA rfl ?_;refine Wl (fun h2=>?_) (fun h2=>?_)
  ·have h2:k<(aT p ((ns p).getD i default)).length:=by simpa using h2
   have hk2:(bJ p ((ns p).getD i default)).take (k+1)=(bJ p ((ns p).getD i default)).take k++ [((ns p).getD i default,(aT p ((ns p).getD i default)).getD k default,uh p ((ns p).getD i default) ((aT p ((ns p).getD i default)).getD k default))]:=by
    unfold bJ;rw[←List.map_take,aW h2,Wq];simp
   have hkl:((bJ p ((ns p).getD i default)).take k).length≤64:=by rw[Xb];omega
   have hll:(((ns p).take i).flatMap (bJ p)++(bJ p ((ns p).getD i default)).take k).length≤100000:=by rw[Wn];omega
   have hq:decide (bG .str (bZ (aF p) ((ns p).getD i default)) ((aT p ((ns p).getD i default)).getD k default) 0=2)=uh p ((ns p).getD i default) ((aT p ((ns p).getD i default)).getD k default):=by
    rw[zT,uh];exact decide_eq_decide.2 (by omega)
   have hL:((ns p).take i).flatMap (bJ p)++(bJ p ((ns p).getD i default)).take (k+1)=(((ns p).take i).flatMap (bJ p)++(bJ p ((ns p).getD i default)).take k)++ [((ns p).getD i default,(aT p ((ns p).getD i default)).getD k default,decide (bG .str (bZ (aF p) ((ns p).getD i default)) ((aT p ((ns p).getD i default)).getD k default) 0=2))]:=by
    rw[hk2,hq,Wv]
   clear hk2 hq
   generalize((ns p).take i).flatMap (bJ p)++(bJ p ((ns p).getD i default)).take k=L at*
   refine gM 15 rfl (o7 ae (.iv (ov (bZ (aF p) ((ns p).getD i default)))) rfl rfl rfl rfl (mr p _ ha) rfl ?_);refine gA rfl ?_;exact⟨h2,trivial,[5],wk rfl rfl rfl ⟨.refl _,rfl, .refl _,rfl, .row (by rw[hL,Wn];rfl),rfl, .refl _,rfl, .refl _,rfl, .refl _,rfl, .refl _,rfl, .refl _,rfl, .refl _,rfl,trivial⟩ (hR rfl (by rw[hL,Wq];rfl) rfl trivial) rfl⟩
  ·have h2:(aT p ((ns p).getD i default)).length≤k:=by simpa using h2
   have e:(bJ p ((ns p).getD i default)).take k=bJ p ((ns p).getD i default):=WB (by unfold bJ;rw[W3];exact h2);refine gA rfl ?_;exact⟨h1,trivial,[3],wk rfl rfl rfl ⟨.refl _,rfl, .row (by rw[e,hst]),rfl, .refl _,rfl, .refl _,rfl, .refl _,rfl,trivial⟩ (hR rfl (by rw[e,hst]) rfl trivial) rfl⟩
 ·have h1:(ns p).length≤i:=by simpa using h1
  rw[WB h1];refine gA rfl (gj (by first|exact .inr rfl|exact .inl rfl) rfl rfl (rfl) (rfl))
end Go.Proofs.YtflegjieadkonaaGreatDoor
namespace Go.Al
section
variable {P:Program} {ty:Ty} {nt:Nat} {Q:AQ} {k:List KI} {s:AS}
theorem Sc (hty:bE P ty) {all:List Oper} {todo pend:List (Nat×Oper)} {j:Nat} {o:Oper} {c:Call} {g:FuncId} {asv args:List PV} {os:List AO} {R:PV→AH→Nat→Prop} {CA:Prop} (L:List Nat) (hc:Fn P g args os R)
  (hrd:fk todo=[(j,o)]) (ho:o.op= .call c) (ha:cK s.f c=some (g,asv)) (hn:ei L=true) (hl:L.all (fun j=>WU j s.nx)=true) (hob:L.map s.h.get=os.map fun o=>some (o.cL (sig L s.nx))) (hargs:asv=dJ (sig L s.nx) args)
  (hg:ck nt all s.f o=some true) (hpb:jd all pend o=true) (hE:pg todo [j]=true) (hag:tv ty nt all s todo pend=some CA) (hCA:CA)
  (h: ∀r h' n',R r h' n'→ ∃s',putDst nt o (r.cL (sig L s.nx)) (bj s L h' n')=some s'∧ ∃C2,dU ty nt all s' (bg pend o)=some C2∧C2∧GO P nt (.cv all (todo.filter fun x=>!WO x.1 j) (bg pend o)::k) Q s'):
  GO P nt (.cv all todo pend::k) Q s:=by
 have hmem:(j,o)∈fk todo:=by rw[hrd];simp
 obtain⟨h3,h4⟩:=WW.1 hmem;simp only[W5,XY,Xg] at h4
 have hagn: ∀y∈todo,aO y.2=true→ ∀y∈pend,fh P nt all s y.2:=by
  intro y hy hya;unfold tv at hag;split at hag
  ·exact cV hty hag hCA
  ·rename_i h2
   have:=Xg.1 h2 y hy;rw[hya] at this;exact absurd rfl this
 refine rF hE ⟨_,h3,h4.1⟩ hagn fun j' o' hj _ hu=>?_;simp only[Wy] at hj;subst hj;have:=hu o h3;subst this;refine⟨h4.1,fun y hy _=>by simpa using h4.2 y hy,hpb,hg,_,jY (S:=fun t=> ∃C2,dU ty nt all t (bg pend o)=some C2∧C2∧GO P nt (.cv all (todo.filter fun x=>!WO x.1 j') (bg pend o)::k) Q t) ho ha hc (ef hn) (fun j hj=>Wj (WX.1 hl j hj)) hob hargs h,fun t ⟨C2,h5,h6,h7⟩=>⟨cV hty h5 h6,h7⟩⟩
end
end Go.Al
namespace Go.Proofs.YtflegjieadkonaaGreatDoor
open Go Go.Al
set_option maxRecDepth 10000
theorem Jv (hS:dH) (p:Prog) (n:Int) (hb:p.fit) (hs:p.size≤10000000):Pure Tryz.prog 20 [ag p.c,pI n] (pB (iX p n)):=by
 have hrl:p.rules.length≤1000000000:=hb.2.1;by_cases k1:(bf p).1=0;rotate_left
 ·rw[show iX p n=false by unfold iX;rw[decide_eq_false k1];simp]
  refine ax ae Tryz.func20 rfl (by decide) Tryz.ntmps20 rfl (by simp) rfl ?_;refine gA rfl (an (vo hS hb k1) rfl rfl rfl rfl rfl rfl ?_);refine gA rfl ?_;refine Wl (fun k2=>?_) (fun k2=>?_)
  ·cases k2
  refine gA rfl (aw (by first|exact .inr rfl|exact .inl rfl) rfl (.of_eq ?_));rfl
 have hf:=iF k1;refine ax ae Tryz.func20 rfl (by decide) Tryz.ntmps20 rfl (by simp) rfl ?_;refine gA rfl (an (r5 hS hb k1) rfl rfl rfl rfl rfl rfl ?_);refine gA rfl ?_;refine Wl (fun k2=>?_) (fun k2=>?_);rotate_left
 ·cases k2
 refine gA rfl ?_;refine Wl (fun g1=>?_) (fun g1=>?_);rotate_left
 ·have g1: ¬1≤n:=by simpa using g1
  rw[show iX p n=false by unfold iX;rw[decide_eq_false g1];simp];refine gA rfl (aw (by first|exact .inr rfl|exact .inl rfl) rfl (.of_eq ?_));rfl
 have g1:1≤n:=by simpa using g1
 refine gA rfl ?_;refine Wl (fun g2=>?_) (fun g2=>?_);rotate_left
 ·have g2: ¬n≤p.rules.length:=by simpa using g2
  rw[show iX p n=false by unfold iX;rw[decide_eq_false g2];simp];refine gA rfl (aw (by first|exact .inr rfl|exact .inl rfl) rfl (.of_eq ?_));rfl
 have g2:n≤p.rules.length:=by simpa using g2
 have hi:(n-1).toNat<p.rules.length:=by omega
 have hr:=bO (l:=p.rules) hi;have hrd:iX p n=j4 p (p.rules.getD (n-1).toNat default):=by unfold iX;rw[decide_eq_true k1,decide_eq_true g1,decide_eq_true g2];rfl
 refine gA rfl (Sc ae [] (yF hS hf (mY hs)) rfl rfl rfl rfl rfl rfl rfl rfl rfl rfl rfl (by(repeat' (first|exact trivial|exact rfl|exact ah.refl _|exact ah.bk (by assumption)|apply Wl))<;>first|omega|(simp only[Wp];omega)|(simp;done)|(simp;omega)) ?_)
 rintro r h' n' ⟨m,hR,rfl,rfl,rfl⟩
 refine⟨_,rfl,_,rfl,(by(repeat' (first|exact trivial|exact rfl|exact ah.refl _|exact ah.bk (by assumption)|apply Wl))<;>first|omega|(simp only[Wp];omega)|(simp;done)|(simp;omega)),?_⟩;refine gA rfl (aX ae [] (Pure.lS (CW m (p.rules.getD (n-1).toNat default))) rfl rfl rfl rfl rfl rfl rfl rfl rfl rfl rfl rfl (by(repeat' (first|exact trivial|exact rfl|exact ah.refl _|exact ah.bk (by assumption)|apply Wl))<;>first|omega|(simp only[Wp];omega)|(simp;done)|(simp;omega)) rfl (by(repeat' (first|exact trivial|exact rfl|exact ah.refl _|exact ah.bk (by assumption)|apply Wl))<;>first|omega|(simp only[Wp];omega)|(simp;done)|(simp;omega)) ?_);refine gA rfl (aw (by first|exact .inr rfl|exact .inl rfl) rfl (.of_eq ?_));rw[hrd,←C9 hf hR hr];rfl
end Go.Proofs.YtflegjieadkonaaGreatDoor
namespace Go.Proofs.YtflegjieadkonaaGreatDoor
open Go Go.Al
set_option maxRecDepth 10000
section
variable {X:Type} (f:X→AO)
def gV (L:List (Nat×Nat×X)):aZ:=fun c=>(L.find? fun y=>y.1==c).map fun y=> .obj (f y.2.2) y.2.1
theorem lY (L:List (Nat×Nat×X)):(gV f L).still:=by
 intro b i e h;unfold gV at h;cases hf:L.find? fun y=>y.1==b<;>rw[hf] at h<;>cases h
theorem xW: ∀{L:List (Nat×Nat×X)} {j:Nat} {y:Nat×Nat×X},(L.map WT).Nodup→L[j]? =some y→L.find? (fun z=>z.1==y.1)=some y
 | [],_,_,_,h=>by simp at h
 |x::L,0,y,_,h=>by
  simp only[YR,Wo] at h
  subst h;simp
 |x::L,j+1,y,hn,h=>by
  rw[Yt] at h;rw[WI,Xu] at hn;have hne: ¬x.1=y.1:=fun e=>hn.1 (e▸Xs (WY h));rw[Zm (by simpa using hne)];exact xW hn.2 h
theorem gU {L:List (Nat×Nat×X)} {j:Nat} {y:Nat×Nat×X} (hn:(L.map WT).Nodup) (h:L[j]? =some y):gV f L y.1=some (.obj (f y.2.2) y.2.1):=by
 unfold gV;rw[xW hn h];rfl
theorem km {L:List (Nat×Nat×X)} {c:Nat} (h:c∉L.map WT):gV f L c=none:=by
 unfold gV;rw[Yh,XC];intro y hy;simp only[beq_iff_eq];exact fun e=>h (e▸Xs hy)
theorem wU {L:List (Nat×Nat×X)} {c:Nat} (h:gV f L c=none):c∉L.map WT:=by
 intro hm;obtain⟨y,hy,rfl⟩:=W4.1 hm;unfold gV at h;rw[Yh,XC] at h;exact h y hy (by simp)
theorem qG {L:List (Nat×Nat×X)} {y:Nat×Nat×X} (hn:(L.map WT).Nodup) (h:y.1∉L.map WT):((L++ [y]).map WT).Nodup:=by
 rw[Wq,XR];exact⟨hn,by simp,fun u hu v hv g=>h (by simp at hv;subst g;subst hv;exact hu)⟩
theorem yB {L:List (Nat×Nat×X)} {y:Nat×Nat×X} (hn:(L.map WT).Nodup) (h:y.1∉L.map WT):(gV f L).put y.1 (.obj (f y.2.2) y.2.1)=gV f (L++ [y]):=by
 funext c
 have hn2:=qG hn h;unfold aZ.put;by_cases hc:c=y.1
 ·subst hc
  rw[if_pos rfl,gU f hn2 (j:=L.length) (y:=y) (by simp)]
 ·rw[if_neg hc]
  by_cases hm:c∈L.map WT
  ·obtain⟨z,hz,rfl⟩:=W4.1 hm
   obtain⟨i,hi⟩:=W6 hz;rw[gU f hn hi,gU f hn2 (j:=i) (by rw[WH (Wr.1 hi).1];exact hi)]
  ·rw[km f hm,km f (by simp only[Wq,WD,not_or];exact⟨hm,by simpa using hc⟩)]
theorem Du {α:Type} {l:List α}:l.Nodup↔ ∀(i j:Nat) (x:α),l[i]? =some x→l[j]? =some x→i=j:=by
 constructor
 ·intro h i j x hi hj
  obtain⟨h1,h2⟩:=Wr.1 hi;obtain⟨h3,h4⟩:=Wr.1 hj;exact(YJ h).1 (h2.trans h4.symm)
 ·intro h
  rw[List.nodup_iff_pairwise_ne,YK];intro i j hi hj hij e;have:=h i j l[i] (Wt hi) (by rw[Wt hj,e]);omega
theorem sy {L:List (Nat×Nat×X)} {i:Nat} {y y':Nat×Nat×X} (hn:(L.map WT).Nodup) (hy:L[i]? =some y) (h:y'.1∉L.map WT∨y'.1=y.1):((L.set i y').map WT).Nodup:=by
 rw[YY];have hi:=(Wr.1 hy).1;have hiy:(L.map WT)[i]? =some y.1:=by rw[Ww,hy];rfl
 rw[Du] at hn ⊢
 have hin: ∀k,(L.map WT)[k]? =some y'.1→i=k:=by
  intro k e;rcases h with h|h
  ·exact absurd (WY e) h
  ·rw[h] at e;exact hn _ _ _ hiy e
 intro a b x ha hb;rw[XP] at ha hb;split at ha
 ·rw[if_pos (by simpa using hi)] at ha
  cases ha;split at hb
  ·omega
  ·have:=hin b hb;omega
 ·split at hb
  ·rw[if_pos (by simpa using hi)] at hb
   cases hb;have:=hin a ha;omega
  ·exact hn a b x ha hb
theorem Bg {L:List (Nat×Nat×X)} {i j e:Nat} {y y':Nat×Nat×X} (hn:(L.map WT).Nodup) (hy:L[i]? =some y) (h:y'.1∉L.map WT∨y'.1=y.1):
  (((gV f L).put y.1 (.out j e)).drop y.1).put y'.1 (.obj (f y'.2.2) y'.2.1)=gV f (L.set i y'):=by
 funext c
 have hn2:=sy hn hy h;have hi:=(Wr.1 hy).1;unfold aZ.put aZ.drop;by_cases hc:c=y'.1
 ·subst hc
  rw[if_pos rfl,gU f hn2 (j:=i) (y:=y') (by rw[XP,if_pos rfl,if_pos hi])]
 ·rw[if_neg hc]
  by_cases hcy:c=y.1
  ·rw[if_pos hcy,km f]
   rw[YY];intro hm;obtain⟨k,hk⟩:=W6 hm;rw[XP] at hk;split at hk
   ·rw[if_pos (by simpa using hi)] at hk;cases hk;exact hc rfl
   ·rename_i hik
    have hiy:(L.map WT)[i]? =some y.1:=by rw[Ww,hy];rfl
    rw[hcy] at hk;exact hik (Du.1 hn _ _ _ hiy hk)
  ·rw[if_neg hcy]
   show(if c=y.1 then _ else gV f L c)=_;rw[if_neg hcy];by_cases hm:c∈L.map WT
   ·obtain⟨z,hz,rfl⟩:=W4.1 hm
    obtain⟨k,hk⟩:=W6 hz;have hki: ¬i=k:=fun g=>hcy (by subst g;rw[hy] at hk;cases hk;rfl);rw[gU f hn hk,gU f hn2 (j:=k) (by rw[XP,if_neg hki];exact hk)]
   ·rw[km f hm,km f]
    rw[YY];intro hm2;obtain⟨k,hk⟩:=W6 hm2;rw[XP] at hk;split at hk
    ·rw[if_pos (by simpa using hi)] at hk;cases hk;exact hc rfl
    ·exact hm (WY hk)
end
end Go.Proofs.YtflegjieadkonaaGreatDoor
namespace Go.Al
structure BX where
 M:Mem
 N:Nm
 n:Nat
 h:AH
 X:aZ
 w:World
def Vh (nt:Nat) (B:BX) (R:XQ):Exit→Act→World→Prop:=fun e a' w'=>
 ∃M' N' s' X',fS B.M B.N B.n B.h B.X B.w M' N' s'.nx s'.h X' w'∧Fits M' N' s' nt a' w'∧cQ M' N' s'.nx s'.h X' w'∧R e s' X'
def wu (P:Program) (nt:Nat) (all:List Oper) (todo pend:List (Nat×Oper)) (R:XQ) (s:AS) (X:aZ):Prop:=
 Region.noSelect all.toArray=true→eS 0 all=true→gl P nt all→(∀x∈todo,aO x.2=false)→ ∀(B:BX) (B0:Bs) M N listed a w fuel,fS B.M B.N B.n B.h B.X B.w M N s.nx s.h X w→cQ M N s.nx s.h X w→
  kV P nt all todo pend B0 M N s listed a w→listed.toList.count false≤fuel→wpAny P .any all.toArray (Vh nt B R) fuel listed a w
section
variable {P:Program} {ty:Ty} {nt:Nat} {all:List Oper} {todo pend:List (Nat×Oper)} {Q R:XQ} {k:List XI} {s:AS} {X:aZ}
theorem AA (h:R .normal s X):wu P nt all [] pend R s X:=by
 intro hns hd hal hna B B0 M N listed a w fuel hB hs
 induction fuel generalizing listed a with
 |zero=>
  intro hi hc
  have hall: ∀i,listed.getD i true=true:=fun i=>by
   cases hx:listed.getD i true with
   |true=>rfl
   |false=>have:=kQ hx;omega
  exact⟨sw hall,M,N,s,X,hB,hi.done hall,hs,h⟩
 |succ fuel ih=>
  intro hi hc;refine⟨fun hr=>⟨M,N,s,X,hB,hi.done (iZ hi.size hd hr),hs,h⟩,fun i hir=>?_⟩;obtain⟨hu,o,ho,_⟩:=mem_ready.1 hir;have ho':all[i]? =some o:=by simpa using ho
  rcases hi.Cg i o ho' hu with hm|hm
  ·cases hm
  ·obtain⟨v,hv,hi'⟩:=hi.take hns hal hm hir
   refine wpOp_of_stOp (K:=fun a'=>a'=a.put o.dst v) (fun a' ha=>?_) (hv.stOp ho rfl);subst ha;exact ih _ _ hi' (by have:=cD hu;omega)
theorem s6 {i:Nat} {o:Oper} {s':AS} (hin:(i,o)∈todo) (hna:aO o=false) (hwa: ∀x∈todo,waits o x.1=false) (hadd:tw all pend o=true) (he:s'.h=s.h∧s'.nx=s.nx)
  (hy: ∀M N b w,Fits M N s nt b w→ ∃v,YieldsAt P all.toArray w o v b∧Fits M N s' nt (b.put o.dst v) w) (h:wu P nt all (todo.filter fun x=>!WO x.1 i) ((i,o)::pend) R s' X):wu P nt all todo pend R s X:=by
 intro hns hd hal hna' B B0 M N listed a w fuel hB hs hi hc;exact h hns hd hal (fun x hx=>hna' x (WW.1 hx).1) B B0 M N listed a w fuel (by rw[he.1,he.2];exact hB) (by rw[he.1,he.2];exact hs) (hi.read hns hin hna hwa hadd he hy) hc
theorem mE {T:AS→aZ→Prop} (h:SX nt s X T) (hk: ∀t Y,T t Y→wu P nt all todo pend R t Y):wu P nt all todo pend R s X:=by
 intro hns hd hal hna B B0 M N listed a w fuel hB hs hi hc;obtain⟨b,hb,hr⟩:=hi.ap;obtain⟨M',N',t,Y,h1,h2,h3,h4⟩:=h M N b w hb hs;obtain⟨bl,he1,_⟩:=hi.er
 have hno: ∀x∈todo,listed.getD x.1 true=true→False:=fun x hx hl=>by
  have:=(he1 x hx hl).alloc;rw[hna x hx] at this;cases this
 exact hk t Y h4 hns hd hal hna B B0 M' N' listed a w fuel (hB.trans h1) h3 ⟨hi.size,hi.tl,hi.pl,hi.dj,hi.Cg,hi.pw,hi.pp,hi.pa,⟨bl,fun x hx hl=>(hno x hx hl).elim,fun x hx _ _ hl=>(hno x hx hl).elim⟩,b,h2,hr⟩ hc
theorem Ks {j:Nat} {o:Oper} {T:AS→Prop} (hrd:fk todo=[(j,o)]) (hg:ck nt all s.f o=some true) (hpb:jd all pend o=true) (hE:pg todo [j]=true) (hOT:OT P nt o s T)
  (h: ∀s',T s'→(∀x∈bg pend o,fh P nt all s' x.2)∧wu P nt all (todo.filter fun x=>!WO x.1 j) (bg pend o) R s' X):wu P nt all todo pend R s X:=by
 have hmem:(j,o)∈fk todo:=by rw[hrd];simp
 obtain⟨hjt,h4⟩:=WW.1 hmem;simp only[W5,XY,Xg] at h4;intro hns hd hal hna B B0 M N listed a w fuel hB hs
 induction fuel generalizing listed a w with
 |zero=>
  intro hi hc;obtain⟨bl,he1,_⟩:=hi.er
  have hxu:listed.getD j true=false:=by
   cases hl:listed.getD j true with
   |false=>rfl
   |true=>have:=(he1 _ hjt hl).alloc;simp only at this;rw[h4.1] at this;cases this
  have:=kQ hxu
  omega
 |succ fuel ih=>
  intro hi hc;obtain⟨bl,he1,he2⟩:=hi.er
  have hunl: ∀x∈todo,aO x.2=false→listed.getD x.1 true=false:=fun x hx hxa=>by
   cases hl:listed.getD x.1 true with
   |false=>rfl
   |true=>have:=(he1 x hx hl).alloc;rw[hxa] at this;cases this
  refine⟨fun hr=>?_,fun i hir=>?_⟩
  ·have:=iZ hi.size hd hr j
   rw[hunl _ hjt h4.1] at this;cases this
  obtain⟨hu,q,hq,hall⟩:=mem_ready.1 hir;have hq':all[i]? =some q:=by simpa using hq
  rcases hi.Cg i q hq' hu with hm|hm
  ·have hij:i=j:=by
    have:=WX.1 hE _ hm;simp only[Xl,Xr,WN,W5] at this;rcases this with h1|h1|⟨y,hy,h0,h1⟩
    ·simpa using h1
    ·rw[hna _ hm] at h1;cases h1
    ·obtain⟨e,he,hb,hon⟩:=eF h1
     have:=hall e he hb;rw[hon,jA (hunl y hy h0)] at this;cases this
   subst hij
   have hqo:q=o:=by
    have:=hi.tl _ hjt;simp only at this;rw[hq'] at this;exact Xt this
   subst hqo;obtain⟨b,hb,hsame,hwan,hnew⟩:=hi.eff hns hd hal hjt (fun x hx hxa=>by rw[hna x hx] at hxa;cases hxa) hpb hir hu;unfold wpOp;simp only[hq];rw[if_pos (by rw[hwan];exact cY hg hb)];refine .inl (zz (K':=fun a' w'=> ∃M' N' s',Ext M N (· <s.nx) s.h w M' N' (· <s'.nx) s'.h w'∧Fits M' N' s' nt a' w'∧T s') hsame ?_ ?_ (hOT M N b w hb _ _ fun M' N' s' a' w' hx hf hr=>⟨M',N',s',hx,hf,hr⟩))
   ·rintro d w' ⟨M',N',s',_,hf,_⟩
    have:=hf.2.2.1;rw[iD] at this;cases this
   ·rintro v w' ⟨M',N',s',hx,hf,hr⟩
    obtain⟨h5,h6⟩:=h s' hr;obtain⟨g1,g2⟩:=fS.frame hx hs;exact h6 hns hd hal (fun x hx=>hna x (WW.1 hx).1) B B0 M' N' _ _ w' fuel (hB.trans g1) g2 (hnew v M' N' s' w' hx hf h5) (by have:=cD hu;omega)
  ·obtain⟨v,hv,hi'⟩:=hi.take hns hal hm hir
   refine wpOp_of_stOp (K:=fun a'=>a'=a.put q.dst v) (fun a' ha=>?_) (hv.stOp hq rfl);subst ha;exact ih _ _ _ hB hs hi' (by have:=cD hu;omega)
theorem DQ {id:Nat} {ops:Array Oper} (hm:P.follows .mixedOrders=true) (hns:pV ops.toList=true) (hd:eS 0 ops.toList=true) (hna:ops.toList.all (fun o=>!aO o)=true) (h:wu P nt ops.toList (eN 0 ops.toList) [] (kx P nt k Q) s X):GX P nt (.code (.region id ops true)::k) Q s X:=by
 intro M N a w hf hs;refine wp_region_any hm ?_;have hf':=hf.drew;have hna: ∀o∈ops.toList,aO o=false:=fun o ho=>by simpa using WX.1 hna o ho
 have hin: ∀x∈eN 0 ops.toList,ops.toList[x.1]? =some x.2:=fun x hx=>by
  obtain⟨_,h2⟩:=(fX _ 0 x.1 x.2).1 hx;simpa using h2
 have hfl: ∀i,i<ops.size→(XX ops.size false).getD i true=false:=fun i hi=>by simp[Wm,hi]
 have hno: ∀x∈eN 0 ops.toList,(XX ops.size false).getD x.1 true=true→False:=fun x hx hl=>by
  have:x.1<ops.size:=by simpa using(Wr.1 (hin x hx)).1
  rw[hfl _ this] at hl;cases hl
 have:=h (uB hns) hd (fun i o ho ha=>by rw[hna o (WY ho)] at ha;cases ha) (fun x hx=>hna _ (WY (hin x hx))) ⟨M,N,s.nx,s.h,X,w⟩ ⟨M,N,s.nx,s.h,w⟩ M N (XX ops.size false) a {w with drawn:=w.drawn+1} ops.size fS.drew hs.drew
  ⟨by simp,hin,fun _ hx=>(nomatch hx),fun _ hx=>(nomatch hx),fun i o ho _=> .inl ((fX _ 0 i o).2 ⟨WC _,by simpa using ho⟩),Zb,fun _ hx=>(nomatch hx),fun _ hx=>(nomatch hx),
   ⟨fun _=>0,fun x hx hl=>(hno x hx hl).elim,fun x hx _ _ hl=>(hno x hx hl).elim⟩,⟨a,hf',rfl,rfl,fun _ _ _=>rfl,fun _ hx=>(nomatch hx)⟩⟩ (by simp)
 rw[XG] at this;exact this
def Py (ty:Ty) (nt:Nat) (all:List Oper):Nat→List (Nat×Oper)→List (Nat×Oper)→AS→Prop→Prop×List (Nat×Oper)×List (Nat×Oper)×AS
 |0,todo,pend,s,C=>(C,todo,pend,s)
 |n+1,todo,pend,s,C=>match jR ty nt s all todo pend todo with
  |some (.read i o p C')=>match putDst nt o p s with
   |none=>(C,todo,pend,s)
   |some s'=>match vB o.op with
    |true=>Py ty nt all n (todo.filter fun x=>!WO x.1 i) ((i,o)::pend) s' (C∧C')
    |false=>Py ty nt all n (todo.filter fun x=>!WO x.1 i) ((i,o)::pend) s' C
  |some (.skip i o)=>Py ty nt all n (todo.filter fun x=>!WO x.1 i) ((i,o)::pend) (fj o s) C
  |_=>(C,todo,pend,s)
theorem v8 (hty:bE P ty): ∀{n:Nat} {todo pend:List (Nat×Oper)} {s:AS} {C C':Prop} {todo' pend':List (Nat×Oper)} {s':AS},Py ty nt all n todo pend s C=(C',todo',pend',s')→C'→C∧(wu P nt all todo' pend' R s' X→wu P nt all todo pend R s X)
 |0,todo,pend,s,C,C',todo',pend',s',h,hC=>by
  simp only[Py,WA] at h;obtain⟨rfl,rfl,rfl,rfl⟩:=h
  exact⟨hC,id⟩
 |n+1,todo,pend,s,C,C',todo',pend',s',h,hC=>by
  simp only[Py] at h;split at h
  ·rename_i i o p C1 hpk
   obtain⟨g1,ga,gb,g2,g3,g4⟩:=(l9 (fun _ h=>h)).1 hpk;split at h
   ·simp only[WA] at h
    obtain⟨rfl,rfl,rfl,rfl⟩:=h;exact⟨hC,id⟩
   ·rename_i s1 hp
    split at h
    ·obtain⟨⟨h1,h2⟩,h3⟩:=v8 hty h hC
     obtain⟨e1,e2⟩:=iJ hty g4 h2 hp;exact⟨h1,fun g=>s6 g1 ga gb g3 e1 (fun M N b w hf=>let ⟨x,f1,f2⟩:=e2 M N b w hf;⟨x, .inl ⟨cY g2 hf, .inl f1⟩,f2⟩) (h3 g)⟩
    ·rename_i ho
     obtain⟨h1,h3⟩:=v8 hty h hC;obtain⟨e1,e2⟩:=iJ hty g4 (ry g4 ho) hp;exact⟨h1,fun g=>s6 g1 ga gb g3 e1 (fun M N b w hf=>let ⟨x,f1,f2⟩:=e2 M N b w hf;⟨x, .inl ⟨cY g2 hf, .inl f1⟩,f2⟩) (h3 g)⟩
  ·rename_i i o hpk
   obtain⟨g1,ga,gb,g2,g3⟩:=(l9 (fun _ h=>h)).2 hpk;obtain⟨h1,h3⟩:=v8 hty h hC;exact⟨h1,fun g=>s6 g1 ga gb g3 (fM o s) (fun _ _ _ _ hf=>⟨undef, .inr ⟨cY g2 hf,rfl⟩,hf.skip o⟩) (h3 g)⟩
  ·simp only[WA] at h
   obtain⟨rfl,rfl,rfl,rfl⟩:=h;exact⟨hC,id⟩
def Vq (ty:Ty) (nt:Nat) (s:AS) (o:Oper):Option (Prop×AS):=match il ty s o.op with
 |some (p,C)=>(putDst nt o p s).map fun s'=>(C,s')
 |none=>match Ce ty s o.op with
  |some (p,s1)=>(putDst nt o p s1).map fun s'=>(True,s')
  |none=>match SH ty s o.op with
   |some (C,p,s1)=>(putDst nt o p s1).map fun s'=>(C,s')
   |none=>none
theorem Si (hty:bE P ty) {o:Oper} {C:Prop} {s':AS} (h:Vq ty nt s o=some (C,s')) (hC:C):OT P nt o s (fun t=>t=s'):=by
 unfold Vq at h;split at h
 ·rename_i p C1 hr
  obtain⟨s1,h1,h2⟩:=Wx.1 h;cases h2;exact pL hty hr hC h1
 ·split at h
  ·rename_i p s0 hm
   obtain⟨s1,h1,h2⟩:=Wx.1 h;cases h2;exact yU hty hm h1
  ·split at h
   ·rename_i C1 p s0 hm
    obtain⟨s1,h1,h2⟩:=Wx.1 h;cases h2;exact yp hty hm hC h1
   ·cases h
theorem Kr (hty:bE P ty) (n:Nat) {C':Prop} {todo' pend':List (Nat×Oper)} {s':AS} (h:Py ty nt all n todo pend s True=(C',todo',pend',s')) (hC:C') (g:wu P nt all todo' pend' R s' X):wu P nt all todo pend R s X:=(v8 hty h hC).2 g
theorem Sj (hty:bE P ty) {j:Nat} {o:Oper} {C C2:Prop} {s':AS} (hrd:fk todo=[(j,o)]) (ho:Vq ty nt s o=some (C,s')) (hg:ck nt all s.f o=some true) (hpb:jd all pend o=true) (hE:pg todo [j]=true) (hag:dU ty nt all s' (bg pend o)=some C2)
  (hC:C) (hC2:C2) (h:wu P nt all (todo.filter fun x=>!WO x.1 j) (bg pend o) R s' X):wu P nt all todo pend R s X:=
 Ks hrd hg hpb hE (Si hty ho hC) fun t ht=>by subst ht;exact⟨cV hty hag hC2,h⟩
end
end Go.Al
namespace Go.Proofs.YtflegjieadkonaaGreatDoor
open Go Go.Al
section
variable {nt:Nat} {all:List Oper} {todo pend:List (Nat×Oper)} {R:XQ} {s s':AS} {X:aZ}
theorem dR (n:Nat) {C:Prop} {todo' pend':List (Nat×Oper)} (h:Py vg nt all n todo pend s True=(C,todo',pend',s')) (g:wu Tryz.prog nt all todo' pend' R s' X)
  (hC:C:=by(repeat' (first|exact trivial|exact rfl|exact ah.refl _|exact ah.bk (by assumption)|apply Wl))<;>first|omega|exact ic (fun _=>rfl) _|(simp only[Wp];omega)|(simp;done)|(simp;omega)):wu Tryz.prog nt all todo pend R s X:=Kr ae n h hC g
theorem dO {j:Nat} {o:Oper} {C C2:Prop} (hrd:fk todo=[(j,o)]) (ho:Vq vg nt s o=some (C,s')) (hg:ck nt all s.f o=some true) (hpb:jd all pend o=true) (hE:pg todo [j]=true) (hag:dU vg nt all s' (bg pend o)=some C2)
  (h:wu Tryz.prog nt all (todo.filter fun x=>!WO x.1 j) (bg pend o) R s' X)
  (hC:C∧C2:=by(repeat' (first|exact trivial|exact rfl|exact ah.refl _|exact ah.bk (by assumption)|apply Wl))<;>first|omega|exact ic (fun _=>rfl) _|(simp only[Wp];omega)|(simp;done)|(simp;omega)):wu Tryz.prog nt all todo pend R s X:=
 Sj ae hrd ho hg hpb hE hag hC.1 hC.2 h
end
end Go.Proofs.YtflegjieadkonaaGreatDoor
namespace Go.Proofs.YtflegjieadkonaaGreatDoor
open Go Go.Al
section
variable {V:Type}
theorem Dz {m:List ((KC.int .i64).K×V)} {s t:Int} {v z:V}:bG (.int .i64) (bS (.int .i64) m s v) t z=if s=t then v else bG (.int .i64) m t z:=by
 induction m with
 |nil=>simp only[bS,bG]
 |cons x r ih=>
  obtain⟨a,b⟩:=x;simp only[bS];by_cases h:a=s
  ·rw[if_pos h];simp only[bG]
   by_cases h2:s=t
   ·simp[h2]
   ·have: ¬a=t:=fun e=>h2 (h▸e)
    rw[if_neg h2,if_neg h2,if_neg this]
  ·rw[if_neg h];simp only[bG,ih]
   by_cases h2:a=t
   ·have: ¬s=t:=fun e=>h (h2.trans e.symm)
    simp[h2,this]
   ·simp[h2]
theorem DG {m:List ((KC.int .i64).K×V)} {s:Int} {v:V} (h:s∈m.map WT):(bS (.int .i64) m s v).map WT=m.map WT:=by
 induction m with
 |nil=>simp at h
 |cons x r ih=>
  obtain⟨a,b⟩:=x;simp only[bS];by_cases h2:a=s
  ·rw[if_pos h2];simp[h2]
  ·have: ¬s=a:=fun e=>h2 e.symm
   rw[if_neg h2,WI,ih (by simpa[this] using h)];rfl
theorem xi {m:List ((KC.int .i64).K×V)} {s:Int} {v:V} (h:s∉m.map WT):bS (.int .i64) m s v=m++ [(s,v)]:=by
 induction m with
 |nil=>simp[bS]
 |cons x r ih=>
  obtain⟨a,b⟩:=x;simp only[WI,WG,not_or] at h;have: ¬a=s:=fun e=>h.1 e.symm;simp only[bS,if_neg this,ih h.2];rfl
theorem yW {m:List ((KC.int .i64).K×V)} {t:Int} {z:V} (h:t∉m.map WT):bG (.int .i64) m t z=z:=by
 induction m with
 |nil=>rfl
 |cons x r ih=>
  obtain⟨a,b⟩:=x;simp only[WI,WG,not_or] at h;have: ¬a=t:=fun e=>h.1 e.symm;simp only[bG,if_neg this];exact ih h.2
theorem J5 {m:List ((KC.int .i64).K×V)} {t:Int} {z:V} (h:t∈m.map WT):(t,bG (.int .i64) m t z)∈m:=by
 induction m with
 |nil=>simp at h
 |cons x r ih=>
  obtain⟨a,b⟩:=x;by_cases h2:a=t
  ·simp only[bG,if_pos h2];exact h2▸WM ..
  ·have h3: ¬t=a:=fun e=>h2 e.symm
   simp only[bG,if_neg h2];exact WE _ (ih (by simpa[h3] using h))
end
abbrev Vk:=List ((KC.int .i64).K×List aj)
def Cb (ring:aj→Int) (G:Vk) (a:aj):Vk:=bS (.int .i64) G (ring a) (bG (.int .i64) G (ring a) []++ [a])
def nv (ring:aj→Int) (l:List aj):Vk:=l.foldl (Cb ring) []
theorem xM (ring:aj→Int) (l:List aj) (a:aj):nv ring (l++ [a])=Cb ring (nv ring l) a:=by simp[nv,Ye]
theorem y9 (ring:aj→Int) (l:List aj) (k:Int):bG (.int .i64) (nv ring l) k []=l.filter fun b=>decide (ring b=k):=by
 induction l using iW with
 |h0=>rfl
 |h1 l a ih=>
  rw[xM,Cb,Dz,List.filter_append];by_cases h:ring a=k
  ·rw[if_pos h,h,ih];simp[h]
  ·rw[if_neg h,ih];simp[h]
theorem kJ (ring:aj→Int) (l:List aj):((nv ring l).map WT).Nodup∧ ∀k:Int,k∈(nv ring l).map WT↔ ∃a∈l,ring a=k:=by
 induction l using iW with
 |h0=>exact⟨Xk,fun k=>by simp[nv]⟩
 |h1 l a ih=>
  obtain⟨ih1,ih2⟩:=ih;rw[xM,Cb];by_cases h:ring a∈(nv ring l).map WT
  ·rw[DG h]
   refine⟨ih1,fun k=>?_⟩;rw[ih2];constructor
   ·rintro⟨b,hb,e⟩;exact⟨b,W0 _ hb,e⟩
   ·rintro⟨b,hb,e⟩
    rcases WD.1 hb with hb|hb
    ·exact⟨b,hb,e⟩
    ·rw[Wy] at hb;subst hb;rw[←e];exact(ih2 _).1 h
  ·rw[xi h,Wq]
   refine⟨XR.2 ⟨ih1,by simp,fun u hu v hv e=>?_⟩,fun k=>?_⟩
   ·simp only[WI,Xd,Wy] at hv
    subst hv;subst e;exact h hu
   ·rw[WD,ih2]
    constructor
    ·rintro(⟨b,hb,e⟩|hk)
     ·exact⟨b,W0 _ hb,e⟩
     ·simp only[WI,Xd,Wy] at hk
      exact⟨a,by simp,hk.symm⟩
    ·rintro⟨b,hb,e⟩
     rcases WD.1 hb with hb|hb
     ·exact .inl ⟨b,hb,e⟩
     ·rw[Wy] at hb;subst hb;exact .inr (by simp[e])
abbrev PI:=List ((KC.int .i64).K×Int)
def dn (dm:PI) (x:Int):Bool:=decide (x∈dm.map WT)
section
variable {p:Prog} {ring:aj→Int} {dm:PI} {out:List (List aj)}
def Js (p:Prog) (a:aj):List aj:=(ns p).filter (eg p a)
def D7 (p:Prog) (ring:aj→Int) (dm:PI) (a:aj):Bool:=Go.Rg.uU (ns p) (Js p) ring (dn dm) a
structure A0 (p:Prog) (ring:aj→Int) (dm:PI) (out:List (List aj)):Prop where
 one: ∀e∈dm,e.2=1
 nd:(dm.map WT).Nodup
 sub: ∀k∈dm.map WT,∃a∈ns p,ring a=k
 cl:Go.Co.closed (ns p).length (gi p) fun j=>dn dm (ring ((ns p).getD j default))
 eq: ∃f,f+dm.length=(ns p).length∧out++Go.Rg.jv (ns p) (Js p) ring f (dn dm)=Go.Rg.jv (ns p) (Js p) ring (ns p).length fun _=>false
 len:out.length=dm.length
theorem Sp:A0 p ring [] []:=
 ⟨fun _ h=>(nomatch h),Xk,fun _ h=>(nomatch h),fun _ _ _ h=>by simp[dn] at h,⟨(ns p).length,rfl,by congr 1⟩,rfl⟩
theorem A0.lk (h:A0 p ring dm out) (x:Int):bG (.int .i64) dm x 0=if dn dm x then 1 else 0:=by
 unfold dn;by_cases hx:x∈dm.map WT
 ·simp only[hx,decide_true,if_true];exact h.one _ (J5 hx)
 ·simp only[hx,decide_false,Yl,if_false];exact yW hx
theorem A0.le (h:A0 p ring dm out):dm.length≤(ns p).length:=by
 obtain⟨f,hf,_⟩:=h.eq;omega
theorem R9 (p:Prog) (ring:aj→Int):(nv ring (ns p)).length≤(ns p).length:=by
 have:=Xm (kJ ring (ns p)).1 (l₂:=(ns p).map ring) (fun k hk=>by
  obtain⟨a,ha,rfl⟩:=((kJ ring (ns p)).2 k).1 hk
  exact Xs ha)
 simpa using this
theorem A0.done (h:A0 p ring dm out) (hg:(nv ring (ns p)).length≤dm.length):out=Go.Rg.jv (ns p) (Js p) ring (ns p).length fun _=>false:=by
 have hall: ∀a∈ns p,dn dm (ring a)=true:=fun a ha=>by
  unfold dn;rw[decide_eq_true_eq];rcases ZG (ring a∈dm.map WT) with h1|h1
  ·exact h1
  ·exfalso
   have:=Xm (Xu.2 ⟨h1,h.nd⟩) (l₂:=(nv ring (ns p)).map WT) (fun k hk=>by
    rcases WG.1 hk with rfl|hk
    ·exact((kJ ring (ns p)).2 _).2 ⟨a,ha,rfl⟩
    ·exact((kJ ring (ns p)).2 _).2 (h.sub k hk))
   simp at this;omega
 obtain⟨f,_,he⟩:=h.eq
 have hn:Go.Rg.jv (ns p) (Js p) ring f (dn dm)=[]:=by
  cases f with
  |zero=>rfl
  |succ f=>
   unfold Go.Rg.jv;rw[XC.2 fun a ha=>by simp[hall a ha]]
 rw[hn,Xo] at he;exact he
theorem A0.has (hr:Go.Rg.kS (ns p) (eg p) ring) (h:A0 p ring dm out) (hg:dm.length<(nv ring (ns p)).length): ∃a∈ns p,dn dm (ring a)=false∧D7 p ring dm a=true:=by
 have hex: ∃i,i<(ns p).length∧dn dm (ring ((ns p).getD i default))=false:=by
  rcases ZG (∃i,i<(ns p).length∧dn dm (ring ((ns p).getD i default))=false) with h1|h1
  ·exact h1
  ·exfalso
   have:=Xm (kJ ring (ns p)).1 (l₂:=dm.map WT) (fun k hk=>by
    obtain⟨a,ha,rfl⟩:=((kJ ring (ns p)).2 k).1 hk;obtain⟨i,hi,rfl⟩:=Go.Rg.lr ha
    have h2:dn dm (ring ((ns p).getD i default))=true:=by
     cases h3:dn dm (ring ((ns p).getD i default)) with
     |true=>rfl
     |false=>exact absurd ⟨i,hi,h3⟩ h1
    exact of_decide_eq_true h2)
   simp at this;omega
 obtain⟨i,hi,h1,h2⟩:=Go.Co.qR (Go.Rg.js (ns p) (eg p)) (done:=fun j=>dn dm (ring ((ns p).getD j default))) hex;refine⟨_,Go.Rg.get_mem hi,h1,?_⟩;unfold D7;rw[Go.Rg.qj hr (fun a _ b=>by rw[Js,WW]) hi,←Go.Co.vX (Go.Rg.js (ns p) (eg p)) h.cl hi];exact h2
theorem A0.step (hr:Go.Rg.kS (ns p) (eg p) ring) (h:A0 p ring dm out) {i:Nat} (hi:i<(ns p).length) (hb: ∀b∈(ns p).take i,(!dn dm (ring b)&&D7 p ring dm b)=false) (h1:dn dm (ring ((ns p).getD i default))=false) (h2:D7 p ring dm ((ns p).getD i default)=true):
  A0 p ring (bS (.int .i64) dm (ring ((ns p).getD i default)) 1) (out++ [bG (.int .i64) (nv ring (ns p)) (ring ((ns p).getD i default)) []]):=by
 have hk:ring ((ns p).getD i default)∉dm.map WT:=of_decide_eq_false h1
 have hdn: ∀x:Int,dn (dm++ [(ring ((ns p).getD i default),1)]) x=(decide (x=ring ((ns p).getD i default))||dn dm x):=fun x=>by
  unfold dn;rw[Xn];simp only[Wq,WI,Xd,WD,Wy,Xl,decide_eq_true_eq];exact or_comm
 have hF:Go.Co.fO (ns p).length (gi p) (fun j=>dn dm (ring ((ns p).getD j default))) i=true:=by
  have:=h2;unfold D7 at this;rw[Go.Rg.qj hr (fun a _ b=>by rw[Js,WW]) hi,←Go.Co.vX (Go.Rg.js (ns p) (eg p)) h.cl hi] at this;exact this
 have hcl:=Go.Co.mI (Go.Rg.js (ns p) (eg p)) h.cl hi hF
 have hdj: ∀j,j<(ns p).length→dn (dm++ [(ring ((ns p).getD i default),1)]) (ring ((ns p).getD j default))=(dn dm (ring ((ns p).getD j default))||Go.Co.cls (gi p) i j):=fun j hj=>by
  rw[hdn,Bool.or_comm];congr 1;have:=hr j i hj hi;rw[Xn,decide_eq_true_eq,this];simp[Go.Co.cls,gi,and_comm]
 have hlt:dm.length<(ns p).length:=by
  have:=Xm (Xu.2 ⟨hk,h.nd⟩) (l₂:=(ns p).map ring) (fun k hk=>by
   rcases WG.1 hk with rfl|hk
   ·exact Xs (Go.Rg.get_mem hi)
   ·obtain⟨a,ha,rfl⟩:=h.sub k hk
    exact Xs ha)
  simp at this;omega
 rw[xi hk];refine⟨fun e he=>?_,?_,fun k hk2=>?_,fun a b ha hda hab=>?_,?_,by simp[h.len]⟩
 ·rcases WD.1 he with he|he
  ·exact h.one e he
  ·rw[Wy] at he;subst he;rfl
 ·rw[Wq]
  exact XR.2 ⟨h.nd,by simp,fun u hu v hv e=>by simp only[WI,Xd,Wy] at hv;subst hv;subst e;exact hk hu⟩
 ·rw[Wq] at hk2
  rcases WD.1 hk2 with hk2|hk2
  ·exact h.sub k hk2
  ·simp only[WI,Xd,Wy] at hk2
   exact⟨_,Go.Rg.get_mem hi,hk2.symm⟩
 ·have hbl:=(Go.Rg.js (ns p) (eg p)).lt a b ha hab
  have hda:=(hdj a ha).symm.trans hda;show dn _ _=true;rw[hdj b hbl];exact hcl a b ha hda hab
 ·obtain⟨f,hf,he⟩:=h.eq
  cases f with
  |zero=>omega
  |succ f=>
   refine⟨f,by simp;omega,?_⟩;rw[←he,Wv];congr 1
   conv=>rhs;unfold Go.Rg.jv
   have hfi:(ns p).find? (fun a=>!dn dm (ring a)&&Go.Rg.uU (ns p) (Js p) ring (dn dm) a)=some ((ns p).getD i default):=by
    rw[List.find?_eq_some_iff_getElem];refine⟨by simp only[h1,YW,YA];exact h2,i,hi,by rw[Ws,Wt hi];rfl,fun j hj=>?_⟩;have:=hb ((ns p)[j]'(by omega)) (by rw[List.mem_take_iff_getElem];exact⟨j,by omega,rfl⟩);unfold D7 at this;rw[this];rfl
   rw[hfi];simp only[y9];rw[show dn (dm++ [(ring ((ns p).getD i default),1)])=fun x=>decide (x=ring ((ns p).getD i default))||dn dm x from funext hdn];rfl
end
end Go.Proofs.YtflegjieadkonaaGreatDoor
namespace Go.Proofs.YtflegjieadkonaaGreatDoor
open Go Go.Al
set_option maxRecDepth 10000
abbrev Vl:=Int×Nat×List aj
abbrev GL:=List (Nat×Nat×Vl)
def fR (x:Vl):AO:=aD 1 x.2.2 cx
def RE (o:Option (Nat×Nat×Nat)):Value:=match o with
 |none=> .slice none 0 0
 |some (b,len,cap)=> .slice (some ⟨b,0,none⟩) len cap
def Vw (o:Option (Nat×Nat×Nat)):IV:= .v (RE o)
def dvS (p:PV):Option (Nat×Nat×Nat):=match p with
 | .iv (.v (.slice (some ⟨b,0,none⟩) len cap))=>some (b,len,cap)
 |_=>none
abbrev OM:=List ((KC.int .i64).K×Option (Nat×Nat×Nat))
abbrev UK (m:OM):AO:= .map (.int .i64) Vw none (.slice none 0 0) dvS m
def ofM (L:GL):OM:=L.map fun y=>(y.2.2.1,some (y.1,y.2.2.2.2.length,y.2.2.2.1))
def nu (L:GL):Vk:=L.map fun y=>(y.2.2.1,y.2.2.2.2)
structure SC (L:GL):Prop where
 nd:(L.map WT).Nodup
 ok: ∀y∈L,y.2.2.2.2≠ []∧y.2.2.2.2.length≤y.2.2.2.1∧y.2.2.2.1≤maxLen∧y.2.2.2.1*1=y.2.1
theorem Ax (L:GL) (k:Int):iw (.int .i64) (ofM L) k=iw (.int .i64) (nu L) k:=by
 induction L with
 |nil=>rfl
 |cons y L ih=>
  have ih:iw (.int .i64) (ofM L) k=iw (.int .i64) (nu L) k:=ih;unfold ofM nu at ih ⊢;simp only[WI,iw,ih]
theorem w6 (l:List aj):(aD 1 l cx).all PV.flat:=by
 intro e he q hq;obtain⟨s,_,rfl⟩:=W4.1 he;obtain⟨x,_,rfl⟩:=W4.1 hq;trivial
theorem C3 {l:List aj} {a:aj}:(aD 1 (l++ [a]) cx).real=true:=by cases l<;>rfl
theorem yz {L:GL} {b j e:Nat}:(((gV fR L).put b (.out j e)).drop b).still:=by
 intro c i g h;unfold aZ.drop aZ.put at h;split at h
 ·cases h
 ·exact lY fR L c i g h
theorem JV {ring:aj→Int} {L:GL} {l:List aj} {a:aj} (hg:nu L=nv ring l):
  (iw (.int .i64) (ofM L) (ring a)=none∧bG (.int .i64) (ofM L) (ring a) none=none∧(∀b e cap,bS (.int .i64) (ofM L) (ring a) (some (b,1,cap))=ofM (L++ [(b,e,ring a,cap,[a])])∧nu (L++ [(b,e,ring a,cap,[a])])=nv ring (l++ [a])))∨
  ∃i y,L[i]? =some y∧bG (.int .i64) (ofM L) (ring a) none=some (y.1,y.2.2.2.2.length,y.2.2.2.1)∧(∀b e cap,bS (.int .i64) (ofM L) (ring a) (some (b,y.2.2.2.2.length+1,cap))=ofM (L.set i (b,e,ring a,cap,y.2.2.2.2++ [a]))∧nu (L.set i (b,e,ring a,cap,y.2.2.2.2++ [a]))=nv ring (l++ [a])):=by
 have hgr:nv ring (l++ [a])=Cb ring (nu L) a:=by rw[hg];simp[nv,Ye]
 rw[hgr,Cb]
 cases hf:iw (.int .i64) (ofM L) (ring a) with
 |none=>
  obtain⟨h1,_,h2,_⟩:=iN hf;rw[Ax] at hf;obtain⟨h3,_,h4,_⟩:=iN hf
  exact .inl ⟨rfl,h1 none,fun b e cap=>⟨by rw[h2];simp[ofM],by rw[h4,h3];simp[nu]⟩⟩
 |some i=>
  right;obtain⟨v,h1,h2,_,h3,_⟩:=iM hf;rw[Ax] at hf;obtain⟨v',g1,g2,_,g3,_⟩:=iM hf
  have hy: ∃y,L[i]? =some y:=by
   unfold ofM at h1;rw[Ww,Wx] at h1;obtain⟨y,hy,_⟩:=h1;exact⟨y,hy⟩
  obtain⟨y,hy⟩:=hy
  have hv:v=some (y.1,y.2.2.2.2.length,y.2.2.2.1):=by
   unfold ofM at h1;rw[Ww,hy] at h1;simp only[Xy,Wo,WA] at h1;exact h1.2.symm
  have hv':v'=y.2.2.2.2:=by
   unfold nu at g1;rw[Ww,hy] at g1;simp only[Xy,Wo,WA] at g1;exact g1.2.symm
  refine⟨i,y,hy,by rw[h2 none,hv],fun b e cap=>⟨?_,?_⟩⟩
  ·rw[h3]
   unfold ofM;rw[YY];simp
  ·rw[g3,g2 [],hv']
   unfold nu;rw[YY]
theorem JS {L:GL} {y:Nat×Nat×Vl} (h:SC L) (hb:y.1∉L.map WT) (hy:y.2.2.2.2≠ []∧y.2.2.2.2.length≤y.2.2.2.1∧y.2.2.2.1≤maxLen∧y.2.2.2.1*1=y.2.1):SC (L++ [y]):=
 ⟨qG h.nd hb,fun z hz=>by
  rcases WD.1 hz with hz|hz
  ·exact h.ok z hz
  ·rw[Wy] at hz;subst hz;exact hy⟩
theorem RY {L:GL} {i:Nat} {y y':Nat×Nat×Vl} (h:SC L) (hi:L[i]? =some y) (hb:y'.1∉L.map WT∨y'.1=y.1) (hy:y'.2.2.2.2≠ []∧y'.2.2.2.2.length≤y'.2.2.2.1∧y'.2.2.2.1≤maxLen∧y'.2.2.2.1*1=y'.2.1):SC (L.set i y'):=
 ⟨sy h.nd hi hb,fun z hz=>by
  rcases Za hz with hz|rfl
  ·exact h.ok z hz
  ·exact hy⟩
theorem BZ {L:GL} {c j e:Nat} {y:Nat×Nat×Vl} (h:((gV fR L).put y.1 (.out j e)).drop y.1 c=none):c∉L.map WT∨c=y.1:=by
 by_cases hc:c=y.1
 ·exact .inr hc
 ·unfold aZ.drop aZ.put at h
  rw[if_neg hc,if_neg hc] at h;exact .inl (wU fR h)
def VE (_:PV):List aj:=[]
theorem SN {L:GL} (h:SC L):KP (gV fR L) (UK (ofM L)) (.map (.int .i64) strs [] (.slice none 0 0) VE (nu L)):=by
 refine .map _ _ _ _ _ _ _ _ _ _ (by simp[ofM,nu]) (fun j x' hx=>?_) fun M=> .gp ..
 ·unfold nu at hx
  rw[Ww,Wx] at hx;obtain⟨y,hy,rfl⟩:=hx;obtain⟨h1,h2,h3,h4⟩:=h.ok y (WY hy);refine⟨(y.2.2.1,some (y.1,y.2.2.2.2.length,y.2.2.2.1)), .slice (some ⟨y.1,0,none⟩) y.2.2.2.2.length y.2.2.2.1,?_,rfl,rfl,?_⟩
  ·unfold ofM;rw[Ww,hy];rfl
  ·exact .row y.1 _ _ 1 y.2.1 _ _ (gU fR h.nd hy) (by simp) h2 h3 (ch rfl)
abbrev UZ (G:Vk):AO:= .map (.int .i64) strs [] (.slice none 0 0) VE G
abbrev U4 (dm:PI):AO:= .map (.int .i64) s4 0 (.int .i64 0) Vr dm
def okC (p:Prog) (ring:aj→Int) (dm:PI) (a b:aj):Bool:=(aT p b).all fun c=>decide (ring c=ring a)||dn dm (ring c)
theorem Se (p:Prog) (ring:aj→Int) (dm:PI) (a:aj):D7 p ring dm a=(bG (.int .i64) (nv ring (ns p)) (ring a) []).all (okC p ring dm a):=by
 rw[y9];rfl
theorem mem_row {p:Prog} (h:kf p) (a b:aj):b∈(bZ (aF p) a).map WT↔b∈aT p a:=by
 rw[←jM h a,c7]
def gE (p:Prog):List (List aj):=if(bf p).1=0 then cA p else[]
def pq (l:List aj):List IV:=[strs l]
theorem zP (hS:dH) {p:Prog} (hb:p.fit) (hs:p.size≤10000000) (k1:(bf p).1=0):Pure Tryz.prog 14 [ag p.c] (.iv (cM 1 (cA p) pq)):=by
 have hf:=iF k1;have hn:=ma hf;refine ax ae Tryz.func14 rfl (by decide) Tryz.ntmps14 rfl (by simp) rfl ?_;refine gA rfl (an (r5 hS hb k1) rfl rfl rfl rfl rfl rfl ?_);refine gA rfl (xP [] (yF hS hf (mY hs)) rfl rfl rfl rfl rfl rfl rfl ?_)
 rintro r h' n' ⟨m,hRm,rfl,rfl,rfl⟩
 refine⟨_,rfl,?_⟩
 let ring:aj→Int:=fun a=>bG .str m a 0
 refine gM 2 rfl (Pw ?_);refine bR (fy ?_);refine gA rfl ?_;refine bR (bR (p5 ⟨[(3, .iv (nf (bb p (aF p)))),(5, .iv (ov m)),(6, .mp 1),(25, .iv (strs (ns p))),(26,pI (ns p).length),(27,pI 0)],[(1,some (UK []))],2⟩ ?_ ?_))
 ·refine gA rfl (an (kn hS hf (aF p)) rfl rfl rfl rfl rfl rfl ?_)
  refine gA rfl (sR [] ?_);exact wk rfl rfl rfl ⟨.refl _,rfl, .refl _,rfl, .refl _,rfl, .refl _,rfl, .refl _,rfl, .refl _,rfl,trivial⟩ (DO rfl (fun _=> .v _) rfl trivial) rfl
 refine fz (sQ 0 (ns p).length (WC _) (fun i (x:ULift.{1} GL)=>⟨[(3, .iv (nf (bb p (aF p)))),(5, .iv (ov m)),(6, .mp 1),(25, .iv (strs (ns p))),(26,pI (ns p).length),(27,pI i)],[(1,some (UK (ofM x.down)))],2⟩)
  (fun i x Y=>Y=gV fR x.down∧SC x.down∧nu x.down=nv ring ((ns p).take i)∧ ∀y∈x.down,y.2.2.2.2.length≤i) ⟨[]⟩ [] ⟨rfl,⟨Xk,fun y hy=>(nomatch hy)⟩,rfl,fun y hy=>(nomatch hy)⟩
  (wk rfl rfl rfl ⟨.refl _,rfl, .refl _,rfl, .refl _,rfl, .refl _,rfl, .refl _,rfl, .refl _,rfl,trivial⟩ (hM rfl rfl rfl trivial) rfl) (fun _ _ _ h=>h.1▸lY fR _) fun i x Y hi hJ=>?_)
 obtain⟨rfl,hok,hgr,hle⟩:=hJ;obtain⟨L⟩:=x;have hok:SC L:=hok;have hgr:nu L=nv ring ((ns p).take i):=hgr;have hle: ∀y∈L,y.2.2.2.2.length≤i:=hle;refine bR (fy ?_);refine gA rfl ?_;refine bR (o6 rfl (fun h1=>oZ ?_) (fun h1=>o5 ?_))
 ·have h1:i<(ns p).length:=by simpa using h1
  have hst:=JV (ring:=ring) (a:=(ns p).getD i default) hgr;rw[←aW h1] at hst;refine bR (fz (bR (fy ?_)));refine gA rfl ?_;refine DQ J0 rfl rfl rfl ?_;refine dR 10 rfl ?_;refine dO rfl rfl rfl rfl rfl rfl ?_;rcases hst with⟨_,hlk,hnew⟩|⟨j,y,hy,hlk,hnew⟩
  ·refine mE (Pm (d:=39) (p:= .iv (.v (.slice none 0 0))) (.of_eq (show PV.iv (.v (RE (bG (.int .i64) (ofM L) (ring ((ns p).getD i default)) none)))=_ by rw[hlk];rfl))) fun t Y ht=>?_
   obtain⟨rfl,rfl⟩:=ht;refine dO rfl rfl rfl rfl rfl rfl ?_;refine mE (Pl (t:=⟨[(3, .iv (nf (bb p (aF p)))),(5, .iv (ov m)),(6, .mp 1),(25, .iv (strs (ns p))),(26,pI (ns p).length),(27,pI i),(31, .mp 1),(34, .iv (s4 (ring ((ns p).getD i default)))),(42, .sl 4 0 1 1)],[(1,some (UK (ofM L))),(4,some (aD 1 [(ns p).getD i default] cx))],5⟩) (L:=[]) (wk rfl rfl rfl ⟨.refl _,rfl, .refl _,rfl, .refl _,rfl, .refl _,rfl, .refl _,rfl, .refl _,rfl, .refl _,rfl, .refl _,rfl, .refl _,rfl,trivial⟩ (hM rfl rfl rfl (hR rfl rfl rfl trivial)) rfl)) fun t Y ht=>?_;obtain⟨rfl,rfl⟩:=ht;refine mE (ue (i:=4) (d:=42) (lY fR L) rfl rfl (w6 _) rfl (by simp)) fun t Y ht=>?_;obtain⟨b,e,cap,hbn,g1,g2,g3,rfl,rfl⟩:=ht;refine dO rfl rfl rfl rfl rfl rfl ?_;refine AA ?_;refine vT (fy ?_);refine gA rfl ?_;have hb':=wU fR hbn;obtain⟨q1,q2⟩:=hnew b e cap
   exact⟨h1,⟨L++ [(b,e,ring ((ns p).getD i default),cap,[(ns p).getD i default])]⟩,[],⟨yB fR (y:=(b,e,ring ((ns p).getD i default),cap,[(ns p).getD i default])) hok.nd hb',JS hok hb' ⟨by simp,by simpa using g1,g2,g3⟩,q2,fun z hz=>by
    rcases WD.1 hz with hz|hz
    ·have:=hle z hz;omega
    ·rw[Wy] at hz;subst hz;simp⟩,wk rfl rfl rfl ⟨.refl _,rfl, .refl _,rfl, .refl _,rfl, .refl _,rfl, .refl _,rfl, .refl _,rfl,trivial⟩ (hM rfl q1 rfl trivial) rfl⟩
  ·obtain⟨k1,k2,k3,k4⟩:=hok.ok y (WY hy)
   have k5:=hle y (WY hy);refine mE (A5 (d:=39) (sz:=1) (gU fR hok.nd hy) (show PV.iv (.v (RE (bG (.int .i64) (ofM L) (ring ((ns p).getD i default)) none)))=_ by rw[hlk];rfl) (List.length_pos_iff.2 k1) k2 k3 k4) fun t Y ht=>?_;obtain⟨rfl,rfl⟩:=ht;refine mE (Pm (d:=39) (p:= .sl 3 0 (y.2.2.2.2.map fun x=>(cx x).map PV.iv).length 1) (ah.row (by simp))) fun t Y ht=>?_;obtain⟨rfl,rfl⟩:=ht;refine dO rfl rfl rfl rfl rfl rfl ?_ ⟨?_,?_⟩;rotate_left
   ·exact⟨rfl,by simp,rfl,by simp;omega,by simp;omega⟩
   ·repeat' (first|exact trivial|exact rfl|exact ah.refl _|apply Wl)
   refine mE (Pl (t:=⟨[(3, .iv (nf (bb p (aF p)))),(5, .iv (ov m)),(6, .mp 1),(25, .iv (strs (ns p))),(26,pI (ns p).length),(27,pI i),(31, .mp 1),(34, .iv (s4 (ring ((ns p).getD i default)))),(42, .sl 4 0 (y.2.2.2.2.length+1) 1)],[(1,some (UK (ofM L))),(4,some (aD 1 (y.2.2.2.2++ [(ns p).getD i default]) cx))],5⟩) (L:=[]) (wk rfl rfl rfl ⟨.refl _,rfl, .refl _,rfl, .refl _,rfl, .refl _,rfl, .refl _,rfl, .refl _,rfl, .refl _,rfl, .refl _,rfl, .row (by simp),rfl,trivial⟩ (hM rfl rfl rfl (hR rfl (by simp;rfl) rfl trivial)) rfl)) fun t Y ht=>?_;obtain⟨rfl,rfl⟩:=ht;refine mE (A8 y.1) fun t Y ht=>?_;obtain⟨rfl,rfl⟩:=ht;refine mE (ue (i:=4) (d:=42) yz rfl C3 (w6 _) rfl (by simp)) fun t Y ht=>?_;obtain⟨b,e,cap,hbn,g1,g2,g3,rfl,rfl⟩:=ht;refine dO rfl rfl rfl rfl rfl rfl ?_;refine AA ?_;refine vT (fy ?_);refine gA rfl ?_;have hb':=BZ hbn;obtain⟨q1,q2⟩:=hnew b e cap
   exact⟨h1,⟨L.set j (b,e,ring ((ns p).getD i default),cap,y.2.2.2.2++ [(ns p).getD i default])⟩,[],⟨Bg fR (y':=(b,e,ring ((ns p).getD i default),cap,y.2.2.2.2++ [(ns p).getD i default])) hok.nd hy hb',RY hok hy hb' ⟨by simp,by simpa using g1,g2,g3⟩,q2,fun z hz=>by
    rcases Za hz with hz|rfl
    ·have:=hle z hz;omega
    ·simp;exact k5⟩,wk rfl rfl rfl ⟨.refl _,rfl, .refl _,rfl, .refl _,rfl, .refl _,rfl, .refl _,rfl, .refl _,rfl,trivial⟩ (hM rfl q1 rfl trivial) rfl⟩
 ·have h1:(ns p).length≤i:=by simpa using h1
  rw[WB h1] at hgr
  change GX _ _ [.code _] _ _ _
  refine DP (CF (i:=1) (o':= .map (.int .i64) strs [] (.slice none 0 0) VE (nu L)) rfl (SN hok)) fun t Y ht=>?_;obtain⟨rfl,rfl⟩:=ht;rw[hgr];refine fy ?_;refine gA rfl ?_;refine jW 10 1 rfl ?_
  refine mu (σ:={x:PI×List (List aj)//A0 p ring x.1 x.2}) (fun x=>⟨[(3, .iv (nf (bb p (aF p)))),(5, .iv (ov m)),(6, .mp 1),(9, .mp 2),(10, .sl 4 0 x.1.2.length 1)],[(1,some (UZ (nv ring (ns p)))),(2,some (U4 x.1.1)),(4,some (aD 1 x.1.2 pq))],5⟩)
   (fun x=>(nv ring (ns p)).length-x.1.1.length) ⟨([],[]),Sp⟩ [3]
   (wk rfl rfl rfl ⟨.refl _,rfl, .refl _,rfl, .refl _,rfl, .refl _,rfl, .refl _,rfl,trivial⟩ (hM rfl rfl rfl (DO rfl (fun _=> .v _) rfl (hR rfl rfl rfl trivial))) rfl) ?_
  rintro⟨⟨dm,out⟩,hCI⟩
  have hCI:A0 p ring dm out:=hCI;have hdl:=hCI.le;have hgl:=R9 p ring;have hol:=hCI.len;refine gA rfl ?_;refine Wl (fun h2=>?_) (fun h2=>?_)
  ·have h2:dm.length<(nv ring (ns p)).length:=by simpa using h2
   refine gA rfl (an (kn hS hf (aF p)) rfl rfl rfl rfl rfl rfl ?_);refine gA rfl ?_
   refine aK 0 (ns p).length (WC _) (fun i=>⟨[(3, .iv (nf (bb p (aF p)))),(5, .iv (ov m)),(6, .mp 1),(9, .mp 2),(10, .sl 4 0 out.length 1),(51, .iv (strs (ns p))),(52,pI (ns p).length),(53,pI i)],[(1,some (UZ (nv ring (ns p)))),(2,some (U4 dm)),(4,some (aD 1 out pq))],5⟩)
    (fun i=> ∀b∈(ns p).take i,(!dn dm (ring b)&&D7 p ring dm b)=false) [] (fun b hb=>(nomatch hb)) (wk rfl rfl rfl ⟨.refl _,rfl, .refl _,rfl, .refl _,rfl, .refl _,rfl, .refl _,rfl, .refl _,rfl, .refl _,rfl, .refl _,rfl,trivial⟩ (hM rfl rfl rfl (hM rfl rfl rfl (hR rfl rfl rfl trivial))) rfl) fun i hi hJ=>?_
   refine gA rfl ?_;refine Wl (fun h3=>?_) (fun h3=>?_)
   ·have h3:i<(ns p).length:=by simpa using h3
    have hJ1:(!dn dm (ring ((ns p).getD i default))&&D7 p ring dm ((ns p).getD i default))=false→ ∀b∈(ns p).take (i+1),(!dn dm (ring b)&&D7 p ring dm b)=false:=fun h b hb=>by
     rw[aW h3] at hb;rcases WD.1 hb with hb|hb
     ·exact hJ b hb
     ·rw[Wy] at hb;subst hb;exact h
    have hlk:=hCI.lk (ring ((ns p).getD i default));have hfa:=Se p ring dm ((ns p).getD i default);have hst:=hCI.step hRm h3 hJ;have hla:=y9 ring (ns p) (ring ((ns p).getD i default));have hll:(bG (.int .i64) (nv ring (ns p)) (ring ((ns p).getD i default)) []).length≤64:=by rw[hla];exact WV (XB _ _) hn
    have hlm: ∀b∈bG (.int .i64) (nv ring (ns p)) (ring ((ns p).getD i default)) [],b∈p.ar.map Decl.name:=fun b hb=>by
     rw[hla] at hb;have:=(WW.1 hb).1;rwa[ns,c7] at this
    let a:=((ns p).getD i default)
    let l:List aj:=bG (.int .i64) (nv ring (ns p)) (ring a) []
    refine gA rfl ?_;refine Wl (fun h4=>?_) (fun h4=>?_)
    ·have h4:bG (.int .i64) dm (ring a) 0=1:=of_decide_eq_true h4
     have hd:dn dm (ring a)=true:=by
      rw[hlk] at h4
      cases hd:dn dm (ring a) with
      |true=>rfl
      |false=>rw[hd] at h4;simp at h4
     refine gA rfl ?_;exact⟨h3,hJ1 (by rw[hd];rfl),[],wk rfl rfl rfl ⟨.refl _,rfl, .refl _,rfl, .refl _,rfl, .refl _,rfl, .refl _,rfl, .refl _,rfl, .refl _,rfl, .refl _,rfl,trivial⟩ (hM rfl rfl rfl (hM rfl rfl rfl (hR rfl rfl rfl trivial))) rfl⟩
    ·have h4: ¬bG (.int .i64) dm (ring a) 0=1:=of_decide_eq_false h4
     have hd:dn dm (ring a)=false:=by
      rw[hlk] at h4
      cases hd:dn dm (ring a) with
      |false=>rfl
      |true=>rw[hd] at h4;simp at h4
     refine gA rfl ?_
     refine aK 0 l.length (WC _) (fun k=>⟨[(3, .iv (nf (bb p (aF p)))),(5, .iv (ov m)),(6, .mp 1),(9, .mp 2),(10, .sl 4 0 out.length 1),(51, .iv (strs (ns p))),(52,pI (ns p).length),(53,pI i),(12,pS a),(67, .iv (strs l)),(68,pI l.length),(69,pI k)],[(1,some (UZ (nv ring (ns p)))),(2,some (U4 dm)),(4,some (aD 1 out pq))],5⟩)
      (fun k=>(l.take k).all (okC p ring dm a)=true) [] rfl (wk rfl rfl rfl ⟨.refl _,rfl, .refl _,rfl, .refl _,rfl, .refl _,rfl, .refl _,rfl, .refl _,rfl, .refl _,rfl, .refl _,rfl, .refl _,rfl, .refl _,rfl, .refl _,rfl, .refl _,rfl,trivial⟩ (hM rfl rfl rfl (hM rfl rfl rfl (hR rfl rfl rfl trivial))) rfl) fun k hk hK=>?_
     refine gA rfl ?_;refine Wl (fun h5=>?_) (fun h5=>?_)
     ·have h5:k<l.length:=by simpa using h5
      have hb:=hlm _ (bO h5);have hll2:l.length≤64:=hll;refine gM 13 rfl (o7 ae (.iv (ov (bZ (aF p) (l.getD k default)))) rfl rfl rfl rfl (mr p _ hb) rfl ?_);refine gA rfl ?_
      refine eP (bZ (aF p) (l.getD k default)) (fun vs=>⟨[(3, .iv (nf (bb p (aF p)))),(5, .iv (ov m)),(6, .mp 1),(9, .mp 2),(10, .sl 4 0 out.length 1),(51, .iv (strs (ns p))),(52,pI (ns p).length),(53,pI i),(12,pS a),(67, .iv (strs l)),(68,pI l.length),(69,pI k),(76, .ptr 5 0)],[(1,some (UZ (nv ring (ns p)))),(2,some (U4 dm)),(4,some (aD 1 out pq)),(5,some (.bq .str s4 (bZ (aF p) (l.getD k default)) vs none))],6⟩)
       (fun vs=> ∀j∈vs,∀x,(bZ (aF p) (l.getD k default))[j]? =some x→(decide (ring x.1=ring a)||dn dm (ring x.1))=true) [] (fun j hj=>(nomatch hj))
       (wk rfl rfl rfl ⟨.refl _,rfl, .refl _,rfl, .refl _,rfl, .refl _,rfl, .refl _,rfl, .refl _,rfl, .refl _,rfl, .refl _,rfl, .refl _,rfl, .refl _,rfl, .refl _,rfl, .refl _,rfl, .refl _,rfl,trivial⟩ (hM rfl rfl rfl (hM rfl rfl rfl (hR rfl rfl rfl (hI rfl rfl (.inl rfl) rfl trivial)))) rfl) fun vs hV=>?_
      refine lU rfl trivial (db rfl rfl rfl rfl rfl (by decide) (fun hall=>?_) fun j x hx hj=>?_)
      ·refine gA rfl ?_
       refine⟨h5,?_,[],wk rfl rfl rfl ⟨.refl _,rfl, .refl _,rfl, .refl _,rfl, .refl _,rfl, .refl _,rfl, .refl _,rfl, .refl _,rfl, .refl _,rfl, .refl _,rfl, .refl _,rfl, .refl _,rfl, .refl _,rfl,trivial⟩ (hM rfl rfl rfl (hM rfl rfl rfl (hR rfl rfl rfl trivial))) rfl⟩;rw[aW h5,Zn,hK,YA,List.all_cons,List.all_nil,Zf];refine WX.2 fun c hc=>?_;obtain⟨e,he,rfl⟩:=W4.1 ((mem_row hf _ _).2 hc);obtain⟨i',hi'⟩:=W6 he;exact hV i' (hall i' (Wr.1 hi').1) e hi'
      ·have hfin:(ring x.1=ring a∨dn dm (ring x.1)=true)→(decide (ring x.1=ring a)||dn dm (ring x.1))=true:=fun h=>by simpa using h
       have hlx:=hCI.lk (ring x.1);refine gA rfl ?_;refine Wl (fun h6=>?_) (fun h6=>?_)
       ·have h6: ¬ring x.1=ring a:=by simpa using h6
        refine gA rfl ?_;refine Wl (fun h7=>?_) (fun h7=>?_)
        ·have h7:bG (.int .i64) dm (ring x.1) 0=0:=of_decide_eq_true h7
         have hdx:dn dm (ring x.1)=false:=by
          cases hd:dn dm (ring x.1) with
          |false=>rfl
          |true=>rw[hlx,hd] at h7;simp at h7
         have hno:D7 p ring dm a=false:=by
          rw[hfa];refine YB.2 ⟨_,bO h5,?_⟩;rw[Bool.not_eq_true];refine YB.2 ⟨x.1,(mem_row hf _ _).1 (Xs (WY hx)),?_⟩;simp only[hdx,Bool.or_false,decide_eq_true_eq];exact h6
         refine gA rfl ?_;exact⟨h3,hJ1 (by rw[hno,Yu]),[],wk rfl rfl rfl ⟨.refl _,rfl, .refl _,rfl, .refl _,rfl, .refl _,rfl, .refl _,rfl, .refl _,rfl, .refl _,rfl, .refl _,rfl,trivial⟩ (hM rfl rfl rfl (hM rfl rfl rfl (hR rfl rfl rfl trivial))) rfl⟩
        ·have h7: ¬bG (.int .i64) dm (ring x.1) 0=0:=of_decide_eq_false h7
         have hdx:dn dm (ring x.1)=true:=by
          cases hd:dn dm (ring x.1) with
          |true=>rfl
          |false=>rw[hlx,hd] at h7;simp at h7
         refine gA rfl ?_
         exact⟨j,x,hx,hj,(fun i hi y hy=>by
         rcases WG.1 hi with rfl|hi
         ·rw[hx] at hy;cases hy;exact hfin (.inr hdx)
         ·exact hV i hi y hy),[],wk rfl rfl rfl ⟨.refl _,rfl, .refl _,rfl, .refl _,rfl, .refl _,rfl, .refl _,rfl, .refl _,rfl, .refl _,rfl, .refl _,rfl, .refl _,rfl, .refl _,rfl, .refl _,rfl, .refl _,rfl, .refl _,rfl,trivial⟩ (hM rfl rfl rfl (hM rfl rfl rfl (hR rfl rfl rfl (hI rfl rfl (.inr rfl) rfl trivial)))) rfl⟩
       ·have h6:ring x.1=ring a:=by simpa using h6
        refine gA rfl ?_
        exact⟨j,x,hx,hj,(fun i hi y hy=>by
         rcases WG.1 hi with rfl|hi
         ·rw[hx] at hy;cases hy;exact hfin (.inl h6)
         ·exact hV i hi y hy),[],wk rfl rfl rfl ⟨.refl _,rfl, .refl _,rfl, .refl _,rfl, .refl _,rfl, .refl _,rfl, .refl _,rfl, .refl _,rfl, .refl _,rfl, .refl _,rfl, .refl _,rfl, .refl _,rfl, .refl _,rfl, .refl _,rfl,trivial⟩ (hM rfl rfl rfl (hM rfl rfl rfl (hR rfl rfl rfl (hI rfl rfl (.inr rfl) rfl trivial)))) rfl⟩
     ·have h5:l.length≤k:=by simpa using h5
      rw[WB h5] at hK;have hst2:=hst hd (by rw[hfa];exact hK);have hl1:=hst2.len;rw[Wn,Xp] at hl1;refine gA rfl ?_ ⟨⟨trivial, .refl _⟩,by simp,by simp,rfl,by omega,by omega⟩;refine⟨⟨(bS (.int .i64) dm (ring a) 1,out++ [l]),hst2⟩,[6],?_,wk rfl rfl rfl ⟨.refl _,rfl, .refl _,rfl, .refl _,rfl, .refl _,rfl, .row (by rw[Wn];rfl),rfl,trivial⟩ (hM rfl rfl rfl (hM rfl rfl rfl (hR rfl (by rw[Wq];rfl) rfl trivial))) rfl⟩;show(nv ring (ns p)).length-(bS (.int .i64) dm (ring a) 1).length<(nv ring (ns p)).length-dm.length;have hl2:out.length+1=(bS (.int .i64) dm (ring a) 1).length:=hl1;omega
   ·exfalso
    have h3:(ns p).length≤i:=by simpa using h3
    rw[WB h3] at hJ;obtain⟨a,ha,g1,g2⟩:=hCI.has hRm h2;have:=hJ a ha;rw[g1,g2] at this;cases this
  ·have h2:(nv ring (ns p)).length≤dm.length:=by simpa using h2
   have:=hCI.done h2;rw[show Go.Rg.jv (ns p) (Js p) ring (ns p).length (fun _=>false)=cA p from ya hRm] at this;subst this;refine gA rfl (gj (by first|exact .inr rfl|exact .inl rfl) rfl rfl (rfl) (rfl))
theorem Jz (hS:dH):Pure Tryz.prog 53 [.iv (.v (.map none))] (.iv (ov [])):=by
 refine ax ae Tryz.func53 rfl (by decide) Tryz.ntmps53 rfl (by simp) rfl ?_;refine gA rfl (an (nU hS) rfl rfl rfl rfl rfl rfl ?_);refine gA rfl ?_
 refine aK 0 0 (WC _) (fun i=>⟨[(5, .ptr 6 0),(16,pI 0),(17,pI 0)],[(3,some (cj [])),(6,some (.cells [.mp 3]))],9⟩) (fun _=>True) [] trivial
  (wk rfl rfl rfl ⟨.refl _,rfl, .refl _,rfl, .refl _,rfl,trivial⟩ (DO rfl (fun _=> .v _) rfl ⟨⟨_,rfl, .of_eq rfl⟩,Wj rfl,rfl,trivial⟩) rfl) fun i hi _=>?_
 refine gA rfl ?_;refine Wl (fun h1=>?_) (fun h1=>?_)
 ·exact absurd h1 (by decide)
 refine gA rfl ⟨.inr rfl,_,rfl,fB.map 3 rfl (.done (.of_eq rfl))⟩
theorem yI (hS:dH) (p:Prog) (hb:p.fit) (hs:p.size≤10000000):Pure Tryz.prog 14 [ag p.c] (.iv (cM 1 (gE p) pq)):=by
 by_cases k1:(bf p).1=0
 ·rw[gE,if_pos k1];exact zP hS hb hs k1
 rw[gE,if_neg k1];refine ax ae Tryz.func14 rfl (by decide) Tryz.ntmps14 rfl (by simp) rfl ?_;refine gA rfl (an (vo hS hb k1) rfl rfl rfl rfl rfl rfl ?_);refine gA rfl (an (Jz hS) rfl rfl rfl rfl rfl rfl ?_);refine gA rfl (an (nU hS) rfl rfl rfl rfl rfl rfl ?_);refine gA rfl ?_
 refine aK 0 0 (WC _) (fun i=>⟨[(6, .mp 1),(26,pI 0),(27,pI 0)],[(1,some .eE)],2⟩) (fun _=>True) [] trivial
  (wk rfl rfl rfl ⟨.refl _,rfl, .refl _,rfl, .refl _,rfl,trivial⟩ ⟨⟨_,rfl, .of_eq rfl⟩,Wj rfl,trivial,trivial⟩ rfl) fun i hi _=>?_
 refine gA rfl ?_;refine Wl (fun h1=>?_) (fun h1=>?_)
 ·exact absurd h1 (by decide)
 refine gA rfl ?_
 refine aK 0 0 (WC _) (fun i=>⟨[(6, .mp 1),(9, .mp 2),(10, .iv (.v (.slice none 0 0)))],[(1,some (UZ [])),(2,some (U4 []))],3⟩) (fun _=>True) [] trivial
  (wk rfl rfl rfl ⟨.refl _,rfl, .refl _,rfl, .refl _,rfl,trivial⟩ (DO rfl (fun _=> .gp ..) rfl (DO rfl (fun _=> .v _) rfl trivial)) rfl) fun i hi _=>?_
 refine gA rfl ?_;refine Wl (fun h1=>?_) (fun h1=>?_)
 ·exact absurd h1 (by decide)
 refine gA rfl (aw (by first|exact .inr rfl|exact .inl rfl) rfl ?_);exact .nil _ _
end Go.Proofs.YtflegjieadkonaaGreatDoor
namespace Go.Proofs.YtflegjieadkonaaGreatDoor
open Go Go.Al
section
variable {p:Prog}
def eD (p:Prog):Nat→Nat→Bool:=Go.Rg.ed (ns p) (eg p)
def sD (p:Prog) (i j:Nat):Bool:=uh p ((ns p).getD i default) ((ns p).getD j default)
def tN (p:Prog):List (List Nat):=Go.Co.dD (ns p).length (Go.Co.fO (ns p).length (gi p)) (Go.Co.cls (gi p)) (ns p).length (fun _=>false)
def vD (p:Prog) (i:Nat):aj:=(ns p).getD i default
theorem po (p:Prog):cA p=(tN p).map fun c=>c.map (vD p):=rfl
theorem uO {n:Nat} {F:(Nat→Bool)→Nat→Bool} {K:Nat→Nat→Bool}: ∀(f:Nat) (d:Nat→Bool),∀c∈Go.Co.dD n F K f d,∀i∈c,i<n
 |0,_,c,hc,_,_=>by cases hc
 |f+1,d,c,hc,i,hi=>by
  unfold Go.Co.dD at hc;split at hc
  ·cases hc
  ·rcases WG.1 hc with rfl|hc
   ·exact WZ.1 (WW.1 hi).1
   ·exact uO f _ c hc i hi
theorem Ep {c:List Nat} (hc:c∈tN p) {i:Nat} (hi:i∈c):i<(ns p).length:=uO _ _ c hc i hi
theorem KX (hf:kf p) {i j:Nat} (hi:i<(ns p).length) (hj:j<(ns p).length) (h:vD p i=vD p j):i=j:=by
 have hn:=tD.Ds (eY hf.nodup);unfold vD at h;rw[Ws,Ws,Wt hi,Wt hj] at h;exact(YJ hn).1 h
def Cf (p:Prog) (k:Nat):Nat→Nat:=Go.Le.Ka (ns p).length (eD p) (sD p) ((tN p).take k) fun _=>0
structure EO (p:Prog) (k:Nat) (H:NM):Prop where
 is: ∀i,i<(ns p).length→bG .str H (vD p i) 0=(Cf p k i:Int)
 le: ∀i,Cf p k i≤k
theorem xC (n:Nat) (e s:Nat→Nat→Bool) (c:List Nat): ∀(l:List (List Nat)) (h:Nat→Nat),Go.Le.Ka n e s (l++ [c]) h=fun x=>if x∈c then Go.Le.top n e s (Go.Le.Ka n e s l h) c else Go.Le.Ka n e s l h x
 | [],h=>rfl
 |d::l,h=>by
  rw[XF,Go.Le.Ka,xC n e s c l];rfl
theorem R3:EO p 0 []:=⟨fun i _=>by rfl,fun i=>Wz _⟩
theorem zR {a:aj} {x:(KC.str).K×Int} (hx:x∈bZ (aF p) a):x.2=(gD (aF p) a x.1:Int):=by
 have hn:=(mW (aF p) a).1;rw[←zT];generalize bZ (aF p) a=m at hx hn
 induction m with
 |nil=>cases hx
 |cons y r ih=>
  obtain⟨s,v⟩:=y;rw[WI,Xu] at hn;rcases WG.1 hx with rfl|hx
  ·simp[bG]
  ·have: ¬s=x.1:=fun e=>hn.1 (W4.2 ⟨x,hx,e.symm⟩)
   simp only[bG,if_neg this];exact ih hx hn.2
theorem zS (hf:kf p) {a:aj} {x:(KC.str).K×Int} (hx:x∈bZ (aF p) a):1≤x.2∧x.2≤2:=by
 have h1:=zR hx;have h2:=D5 p a x.1;obtain⟨k,hk⟩:=((mW (aF p) a).2 x.1).1 (Xs hx);have h3:=xT hk;have h4:=(hf.aF hk).2.2;simp only at h4;omega
theorem kr (hf:kf p) {i:Nat} (hi:i<(ns p).length) {x:(KC.str).K×Int} (hx:x∈bZ (aF p) (vD p i)): ∃j,j<(ns p).length∧vD p j=x.1∧eD p i j=true∧x.2=(Go.Lv.wt (sD p) i j:Int)+1:=by
 have hs:x.1∈aT p (vD p i):=by rw[←jM hf,c7];exact Xs hx
 obtain⟨h1,h2⟩:=WW.1 hs;obtain⟨j,hj,hv⟩:=Go.Rg.lr h1;have hv':vD p j=x.1:=hv;refine⟨j,hj,hv,Go.Rg.en.2 ⟨hi,hj,?_⟩,?_⟩
 ·show eg p (vD p i) (vD p j)=true
  rw[hv'];exact h2
 ·have h3:=zR hx
  have h4:=zS hf hx;unfold Go.Lv.wt sD;show x.2=((if uh p (vD p i) (vD p j)=true then 1 else 0:Nat):Int)+1;rw[hv'];unfold uh;by_cases h5:gD (aF p) (vD p i) x.1=2
  ·rw[if_pos (by simpa using h5)];omega
  ·rw[if_neg (by simpa using h5)];omega
theorem Ed (hf:kf p) {i j:Nat} (h:eD p i j=true): ∃x∈bZ (aF p) (vD p i),x.1=vD p j∧x.2=(Go.Lv.wt (sD p) i j:Int)+1:=by
 obtain⟨hi,hj,he⟩:=Go.Rg.en.1 h;have hs:vD p j∈aT p (vD p i):=WW.2 ⟨Go.Rg.get_mem hj,he⟩;rw[←jM hf,c7] at hs;obtain⟨x,hx,hxj⟩:=W4.1 hs;obtain⟨j',hj',hv,_,hw⟩:=kr hf hi hx;have:j'=j:=KX hf hj' hj (hv.trans hxj);subst this;exact⟨x,hx,hxj,hw⟩
def vd (p:Prog) (H:NM) (c:List aj) (v:Int):Prop:=0≤v∧(∀a∈c,∀x∈bZ (aF p) a,bG .str H x.1 0+x.2-1≤v)∧(v=0∨ ∃a∈c,∃x∈bZ (aF p) a,v=bG .str H x.1 0+x.2-1)
theorem Jh (H:NM):vd p H [] 0:=⟨Yi _,fun _ h=>(nomatch h), .inl rfl⟩
def nn (H row:NM) (v:Int) (vs:List Nat):Int:=vs.foldr (fun j m=>max m (bG .str H (row.getD j default).1 0+(row.getD j default).2-1)) v
theorem pA (H row:NM) (v:Int): ∀vs:List Nat,v≤nn H row v vs∧(∀j∈vs,bG .str H (row.getD j default).1 0+(row.getD j default).2-1≤nn H row v vs)∧
  (nn H row v vs=v∨ ∃j∈vs,nn H row v vs=bG .str H (row.getD j default).1 0+(row.getD j default).2-1)
 | []=>⟨Yi _,fun _ h=>(nomatch h), .inl rfl⟩
 |j::vs=>by
  obtain⟨h1,h2,h3⟩:=pA H row v vs;show v≤max (nn H row v vs) _∧(∀i∈j::vs,_≤max (nn H row v vs) _)∧(max (nn H row v vs) _=v∨ ∃i∈j::vs,max (nn H row v vs) _=_)
  generalize hg:bG .str H (row.getD j default).1 0+(row.getD j default).2-1=g;refine⟨by omega,fun i hi=>?_,?_⟩
  ·rcases WG.1 hi with rfl|hi
   ·rw[hg];omega
   ·have:=h2 i hi;omega
  ·rcases Int.le_total (nn H row v vs) g with h4|h4
   ·exact .inr ⟨j,by simp,by rw[hg];omega⟩
   ·rcases h3 with h3|⟨i,hi,h3⟩
    ·exact .inl (by omega)
    ·exact .inr ⟨i,WE _ hi,by omega⟩
theorem Cw {H:NM} {c:List aj} {a:aj} {v:Int} (h:vd p H c v) {vs:List Nat} (h1: ∀j∈vs,j<(bZ (aF p) a).length) (h2: ∀j,j<(bZ (aF p) a).length→j∈vs):vd p H (c++ [a]) (nn H (bZ (aF p) a) v vs):=by
 obtain⟨g1,g2,g3⟩:=pA H (bZ (aF p) a) v vs;refine⟨Int.le_trans h.1 g1,fun b hb x hx=>?_,?_⟩
 ·rcases WD.1 hb with hb|hb
  ·exact Int.le_trans (h.2.1 b hb x hx) g1
  ·rw[Wy] at hb;subst hb
   obtain⟨j,hj⟩:=W6 hx;have hjl:=(Wr.1 hj).1;have:=g2 j (h2 j hjl);rw[Ws,hj] at this;exact this
 ·rcases g3 with g3|⟨j,hj,g3⟩
  ·rcases h.2.2 with h3|⟨b,hb,x,hx,h3⟩
   ·exact .inl (g3.trans h3)
   ·exact .inr ⟨b,W0 _ hb,x,hx,g3.trans h3⟩
  ·exact .inr ⟨a,by simp,_,bO (h1 j hj),g3⟩
theorem Jg (hf:kf p) {k:Nat} {H:NM} (hH:EO p k H) {c:List Nat} (hc:c∈tN p) {v:Int} (h:vd p H (c.map (vD p)) v):v=(Go.Le.top (ns p).length (eD p) (sD p) (Cf p k) c:Int):=by
 obtain⟨h1,h2,h3⟩:=h;apply Int.le_antisymm
 ·rcases h3 with h3|⟨a,ha,x,hx,h3⟩
  ·omega
  ·obtain⟨i,hi,rfl⟩:=W4.1 ha
   obtain⟨j,hj,hv,he,hw⟩:=kr hf (Ep hc hi) hx;have:=Go.Le.Cx (s:=sD p) (h:=Cf p k) hi hj he;rw[←hv,hH.is j hj] at h3;omega
 ·rcases Go.Le.yv (n:=(ns p).length) (e:=eD p) (s:=sD p) (Cf p k) c with h4|⟨i,hi,j,hj,he,h4⟩
  ·rw[h4];exact h1
  ·obtain⟨x,hx,hxj,hw⟩:=Ed hf he
   have:=h2 _ (Xs hi) x hx;rw[hxj,hH.is j hj] at this;omega
theorem Rx {k:Nat} {H:NM} (hH:EO p k H) (c:List Nat):Go.Le.top (ns p).length (eD p) (sD p) (Cf p k) c≤k+1:=by
 rcases Go.Le.yv (n:=(ns p).length) (e:=eD p) (s:=sD p) (Cf p k) c with h4|⟨i,hi,j,hj,he,h4⟩
 ·omega
 ·have:=hH.le j
  have h5:Go.Lv.wt (sD p) i j≤1:=by unfold Go.Lv.wt;split<;>omega
  omega
theorem EO.step (hf:kf p) {k:Nat} {H H':NM} (hH:EO p k H) (hk:k<(tN p).length) {v:Int} (h:vd p H (((tN p).getD k default).map (vD p)) v)
  (h':(∀b∈((tN p).getD k default).map (vD p),bG .str H' b 0=v)∧ ∀b:aj,b∉((tN p).getD k default).map (vD p)→bG .str H' b 0=bG .str H b 0):EO p (k+1) H':=by
 have hc:(tN p).getD k default∈tN p:=bO hk;have hv:=Jg hf hH hc h;have hle:=Rx hH ((tN p).getD k default)
 have hlv:Cf p (k+1)=fun x=>if x∈(tN p).getD k default then Go.Le.top (ns p).length (eD p) (sD p) (Cf p k) ((tN p).getD k default) else Cf p k x:=by
  unfold Cf;rw[aW hk,xC]
 refine⟨fun i hi=>?_,fun i=>?_⟩
 ·rw[hlv]
  by_cases hm:i∈(tN p).getD k default
  ·rw[h'.1 _ (Xs hm),hv];simp only[hm,if_true]
  ·rw[h'.2 _ ?_,hH.is i hi]
   ·simp only[hm,if_false]
   ·intro h2
    obtain⟨j,hj,he⟩:=W4.1 h2;have:=KX hf (Ep hc hj) hi he;subst this;exact hm hj
 ·rw[hlv]
  simp only;split
  ·exact hle
  ·have:=hH.le i;omega
end
end Go.Proofs.YtflegjieadkonaaGreatDoor
namespace Go.Proofs.YtflegjieadkonaaGreatDoor
open Go Go.Al
set_option maxRecDepth 10000
def yV (x:aj×Nat):List IV:=[iS x.1,iI x.2]
def gJ (p:Prog):List (aj×Nat):=if(cB p).1=0 then a7 p else[]
theorem jy {p:Prog} (h:(cB p).1=0):(bf p).1=0∧cB p=dI.z:=by
 unfold cB at h ⊢;by_cases k1:(bf p).1=0
 ·rw[if_neg (by simpa using k1)] at h ⊢
  refine⟨k1,?_⟩
  cases hf:(p.rules.map (dP p)).find? fun d=>decide (d.1≠0) with
  |none=>rfl
  |some d=>
   rw[hf] at h;have:=Y5 hf;simp only[decide_eq_true_eq] at this;exact absurd h this
 ·rw[if_pos k1] at h;exact absurd h k1
theorem lC {n:Nat} {F:(Nat→Bool)→Nat→Bool} {K:Nat→Nat→Bool}: ∀(f:Nat) (d:Nat→Bool),(Go.Co.dD n F K f d).length≤f∧ ∀c∈Go.Co.dD n F K f d,c.length≤n
 |0,_=>⟨Wz _,fun _ h=>(nomatch h)⟩
 |f+1,d=>by
  unfold Go.Co.dD;split
  ·exact⟨WC _,fun _ h=>(nomatch h)⟩
  ·obtain⟨h1,h2⟩:=lC (n:=n) (F:=F) (K:=K) f _
   refine⟨Nat.succ_le_succ h1,fun c hc=>?_⟩;rcases WG.1 hc with rfl|hc
   ·exact WV (XB _ _) (by simp)
   ·exact h2 c hc
theorem EO.bd {p:Prog} (hf:kf p) {k:Nat} {H:NM} (h:EO p k H) {i:Nat} (hi:i<(ns p).length) {x:(KC.str).K×Int} (hx:x∈bZ (aF p) (vD p i)):0≤bG .str H x.1 0∧bG .str H x.1 0≤k:=by
 obtain⟨j,hj,hv,_⟩:=kr hf hi hx;have:=h.is j hj;have h2:=h.le j;rw[hv] at this;omega
theorem UO {p:Prog} (h0:(cB p).1=0) {H:NM} (h:EO p (tN p).length H) {i:Nat} (hi:i<(ns p).length):bG .str H (vD p i) 0=(gr p i:Int):=by
 have h1:=oS (qy fun r hr=>ij (iQ (jy h0).1 h0 r hr)) hi;rw[h.is i hi,h1];unfold Cf;rw[WB (Wz _)];rfl
theorem n9 (p:Prog) {i:Nat} (hi:i<(ns p).length):(a7 p).getD i default=(vD p i,gr p i):=by
 unfold a7;rw[Ws,Ww,Yr hi];rfl
theorem jf (p:Prog):(a7 p).length=(ns p).length:=by simp[a7]
theorem rr (hS:dH) (p:Prog) (hb:p.fit) (hs:p.size≤10000000):Pure Tryz.prog 15 [ag p.c] (.bP [.iv (cM 2 (gJ p) yV),ag (cB p).c]):=by
 by_cases k1:(cB p).1=0;rotate_left
 ·rw[gJ,if_neg k1]
  refine ax ae Tryz.func15 rfl (by decide) Tryz.ntmps15 rfl (by simp) rfl ?_;refine gA rfl (an (r6 hS p hb hs) rfl rfl rfl rfl rfl rfl ?_);refine gA rfl ?_;refine Wl (fun k2=>?_) (fun k2=>?_)
  ·refine gA rfl (aw (by first|exact .inr rfl|exact .inl rfl) rfl ?_)
   exact .bP ⟨.nil _ _, .refl _,trivial⟩
  ·exact absurd (by simpa using k2) k1
 obtain⟨k0,kz⟩:=jy k1;have hf:=iF k0;have hn:=ma hf;have hcl:(tN p).length≤(ns p).length:=(lC _ _).1;have hce: ∀c∈tN p,c.length≤(ns p).length:=(lC _ _).2;have hcc:(cA p).length=(tN p).length:=by rw[po,W3]
 rw[gJ,if_pos k1];refine ax ae Tryz.func15 rfl (by decide) Tryz.ntmps15 rfl (by simp) rfl ?_;refine gA rfl (an (r6 hS p hb hs) rfl rfl rfl rfl rfl rfl ?_);refine gA rfl ?_;refine Wl (fun k2=>?_) (fun k2=>?_)
 ·exact absurd k1 (by simpa using k2)
 refine gA rfl (an (r5 hS hb k0) rfl rfl rfl rfl rfl rfl ?_);refine gA rfl (an (zP hS hb hs k0) rfl rfl rfl rfl rfl rfl ?_);refine gA rfl ?_
 refine o8 0 (cA p).length (WC _) (fun k (H:NM)=>⟨[(3, .ptr 1 0),(5, .iv (nf (bb p (aF p)))),(7, .mp 3),(33, .iv (cM 1 (cA p) pq)),(34,pI (cA p).length),(35,pI k)],[(1,some (aE dI.z.c)),(3,some (cj H))],4⟩) (fun k H=>EO p k H) [] [] R3
  (wk rfl rfl rfl ⟨.refl _,rfl, .refl _,rfl, .refl _,rfl, .refl _,rfl, .refl _,rfl, .refl _,rfl,trivial⟩ (hC rfl rfl rfl (DO rfl (fun _=> .v _) rfl trivial)) rfl) fun k H hk hH=>?_
 refine gA rfl ?_;refine Wl (fun h1=>?_) (fun h1=>?_)
 ·have h1:k<(cA p).length:=by simpa using h1
  have h1c:k<(tN p).length:=by omega
  let c:List aj:=(cA p).getD k default
  have hcv:c=((tN p).getD k default).map (vD p):=by
   show(cA p).getD k default=_;rw[po,Ws,Ww,Wt h1c,Ws,Wt h1c];rfl
  have hck:=hce _ (bO h1c);have hcln:c.length≤64:=by rw[hcv,W3];omega
  have hca: ∀b∈c,∃i,i<(ns p).length∧vD p i=b:=fun b hb=>by
   rw[hcv] at hb;obtain⟨i,hi,e⟩:=W4.1 hb;exact⟨i,Ep (bO h1c) hi,e⟩
  refine gA rfl ?_
  refine o8 0 c.length (WC _) (fun t (v:Int)=>⟨[(3, .ptr 1 0),(5, .iv (nf (bb p (aF p)))),(7, .mp 3),(33, .iv (cM 1 (cA p) pq)),(34,pI (cA p).length),(35,pI k),(9, .iv (strs c)),(10,pI v),(39, .iv (strs c)),(40,pI c.length),(41,pI t)],[(1,some (aE dI.z.c)),(3,some (cj H))],4⟩) (fun t v=>vd p H (c.take t) v∧v≤1000) 0 [] ⟨Jh H,by decide⟩
   (wk rfl rfl rfl ⟨.refl _,rfl, .refl _,rfl, .refl _,rfl, .refl _,rfl, .refl _,rfl, .refl _,rfl, .refl _,rfl, .refl _,rfl, .refl _,rfl, .refl _,rfl, .refl _,rfl,trivial⟩ (hC rfl rfl rfl (hM rfl rfl rfl trivial)) rfl) fun t v ht hV=>?_
  obtain⟨hV,hvl⟩:=hV;have hv0:=hV.1;refine gA rfl ?_;refine Wl (fun h2=>?_) (fun h2=>?_)
  ·have h2:t<c.length:=by simpa using h2
   obtain⟨ia,hia,hva⟩:=hca _ (bO h2)
   have hna:c.getD t default∈p.ar.map Decl.name:=by
    rw[←hva];have:=Go.Rg.get_mem hia;rwa[ns,c7] at this
   have hbd: ∀x∈bZ (aF p) (c.getD t default),(0≤bG .str H x.1 0∧bG .str H x.1 0≤64)∧1≤x.2∧x.2≤2:=fun x hx=>by
    have h3:=zS hf hx;rw[←hva] at hx;have h4:=hH.bd hf hia hx;omega
   refine gM 13 rfl (o7 ae (.iv (ov (bZ (aF p) (c.getD t default)))) rfl rfl rfl rfl (mr p _ hna) rfl ?_);refine gA rfl ?_
   refine eP (bZ (aF p) (c.getD t default)) (fun vs=>⟨[(3, .ptr 1 0),(5, .iv (nf (bb p (aF p)))),(7, .mp 3),(33, .iv (cM 1 (cA p) pq)),(34,pI (cA p).length),(35,pI k),(9, .iv (strs c)),(10,pI (nn H (bZ (aF p) (c.getD t default)) v vs)),(39, .iv (strs c)),(40,pI c.length),(41,pI t),(48, .ptr 4 0)],[(1,some (aE dI.z.c)),(3,some (cj H)),(4,some (.bq .str s4 (bZ (aF p) (c.getD t default)) vs none))],5⟩)
    (fun vs=> ∀j∈vs,j<(bZ (aF p) (c.getD t default)).length) [] (fun j hj=>(nomatch hj))
    (wk rfl rfl rfl ⟨.refl _,rfl, .refl _,rfl, .refl _,rfl, .refl _,rfl, .refl _,rfl, .refl _,rfl, .refl _,rfl, .refl _,rfl, .refl _,rfl, .refl _,rfl, .refl _,rfl, .refl _,rfl,trivial⟩ (hC rfl rfl rfl (hM rfl rfl rfl (hI rfl rfl (.inl rfl) rfl trivial))) rfl) fun vs hJ=>?_
   obtain⟨g1,g2,g3⟩:=pA H (bZ (aF p) (c.getD t default)) v vs
   have hvm:nn H (bZ (aF p) (c.getD t default)) v vs≤1000:=by
    rcases g3 with g3|⟨j,hj,g3⟩
    ·omega
    ·have:=hbd _ (bO (hJ j hj));omega
   refine lU rfl trivial (db rfl rfl rfl rfl rfl (by decide) (fun hall=>?_) fun j x hx hj=>?_)
   ·refine gA rfl ?_
    exact⟨h2,nn H (bZ (aF p) (c.getD t default)) v vs,[],⟨by rw[aW h2];exact Cw hV hJ hall,hvm⟩,wk rfl rfl rfl ⟨.refl _,rfl, .refl _,rfl, .refl _,rfl, .refl _,rfl, .refl _,rfl, .refl _,rfl, .refl _,rfl, .refl _,rfl, .refl _,rfl, .refl _,rfl, .refl _,rfl,trivial⟩ (hC rfl rfl rfl (hM rfl rfl rfl trivial)) rfl⟩
   ·have hxb:=hbd x (WY hx)
    have hxj:(bZ (aF p) (c.getD t default)).getD j default=x:=by rw[Ws,hx];rfl
    have hvs:max (nn H (bZ (aF p) (c.getD t default)) v vs) (bG .str H x.1 0+x.2-1)=nn H (bZ (aF p) (c.getD t default)) v (j::vs):=by
     show _=max (nn H (bZ (aF p) (c.getD t default)) v vs) _;rw[hxj]
    refine gA rfl ?_;exact⟨j,x,hx,hj,fun i hi=>(WG.1 hi).elim (fun h=>h▸(Wr.1 hx).1) (hJ i),[],wk rfl rfl rfl ⟨.refl _,rfl, .refl _,rfl, .refl _,rfl, .refl _,rfl, .refl _,rfl, .refl _,rfl, .refl _,rfl, .of_eq (by rw[←hvs];rfl),rfl, .refl _,rfl, .refl _,rfl, .refl _,rfl, .refl _,rfl,trivial⟩ (hC rfl rfl rfl (hM rfl rfl rfl (hI rfl rfl (.inr rfl) rfl trivial))) rfl⟩
  ·have h2:c.length≤t:=by simpa using h2
   rw[WB h2] at hV;refine gA rfl ?_
   refine o8 0 c.length (WC _) (fun t (H2:NM)=>⟨[(3, .ptr 1 0),(5, .iv (nf (bb p (aF p)))),(7, .mp 3),(33, .iv (cM 1 (cA p) pq)),(34,pI (cA p).length),(35,pI k),(10,pI v),(63, .iv (strs c)),(64,pI c.length),(65,pI t)],[(1,some (aE dI.z.c)),(3,some (cj H2))],4⟩) (fun t H2=>(∀b∈c.take t,bG .str H2 b 0=v)∧ ∀b:aj,b∉c.take t→bG .str H2 b 0=bG .str H b 0) H [] ⟨fun b hb=>(nomatch hb),fun b _=>rfl⟩
    (wk rfl rfl rfl ⟨.refl _,rfl, .refl _,rfl, .refl _,rfl, .refl _,rfl, .refl _,rfl, .refl _,rfl, .refl _,rfl, .refl _,rfl, .refl _,rfl, .refl _,rfl,trivial⟩ (hC rfl rfl rfl (hM rfl rfl rfl trivial)) rfl) fun t H2 ht hJ=>?_
   obtain⟨hJ1,hJ2⟩:=hJ;refine gA rfl ?_;refine Wl (fun h3=>?_) (fun h3=>?_)
   ·have h3:t<c.length:=by simpa using h3
    refine gA rfl ?_;refine⟨h3,bS .str H2 (c.getD t default) v,[],⟨fun b hb=>?_,fun b hb=>?_⟩,wk rfl rfl rfl ⟨.refl _,rfl, .refl _,rfl, .refl _,rfl, .refl _,rfl, .refl _,rfl, .refl _,rfl, .refl _,rfl, .refl _,rfl, .refl _,rfl, .refl _,rfl,trivial⟩ (hC rfl rfl rfl (hM rfl rfl rfl trivial)) rfl⟩
    ·rw[fZ]
     by_cases hbc:c.getD t default=b
     ·rw[if_pos hbc]
     ·rw[if_neg hbc]
      rw[aW h3] at hb;rcases WD.1 hb with hb|hb
      ·exact hJ1 b hb
      ·exact absurd (Wy.1 hb).symm hbc
    ·rw[aW h3,WD,not_or] at hb
     rw[fZ,if_neg (fun e=>hb.2 (by rw[e];simp)),hJ2 b hb.1]
   ·have h3:c.length≤t:=by simpa using h3
    rw[WB h3] at hJ1 hJ2;refine gA rfl ?_;exact⟨h1,H2,[],hH.step hf h1c (hcv▸hV) (hcv▸⟨hJ1,hJ2⟩),wk rfl rfl rfl ⟨.refl _,rfl, .refl _,rfl, .refl _,rfl, .refl _,rfl, .refl _,rfl, .refl _,rfl,trivial⟩ (hC rfl rfl rfl (hM rfl rfl rfl trivial)) rfl⟩
 ·have h1:(cA p).length≤k:=by simpa using h1
  have hkc:k=(tN p).length:=by omega
  subst hkc;refine gA rfl (an (kn hS hf (aF p)) rfl rfl rfl rfl rfl rfl ?_);refine gA rfl ?_;refine jW 17 2 rfl ?_
  refine aK 0 (ns p).length (WC _) (fun i=>⟨[(3, .ptr 1 0),(7, .mp 3),(17, .sl 5 0 ((a7 p).take i).length 2),(75, .iv (strs (ns p))),(76,pI (ns p).length),(77,pI i)],[(1,some (aE dI.z.c)),(3,some (cj H)),(5,some (aD 2 ((a7 p).take i) yV))],6⟩) (fun _=>True) [4] trivial
   (wk rfl rfl rfl ⟨.refl _,rfl, .refl _,rfl, .refl _,rfl, .refl _,rfl, .refl _,rfl, .refl _,rfl,trivial⟩ (hC rfl rfl rfl (hM rfl rfl rfl (hR rfl rfl rfl trivial))) rfl) fun i hi _=>?_
  refine gA rfl ?_;refine Wl (fun h2=>?_) (fun h2=>?_)
  ·have h2:i<(ns p).length:=by simpa using h2
   have hll:((a7 p).take i).length≤64:=by rw[Xb,jf];omega
   have hst:(a7 p).take (i+1)=(a7 p).take i++ [(vD p i,gr p i)]:=by rw[aW (by rw[jf];exact h2),n9 p h2]
   have hlv:=UO k1 hH h2;refine gA rfl ?_
   exact⟨h2,trivial,[7],wk rfl rfl rfl ⟨.refl _,rfl, .refl _,rfl, .row (by rw[hst,Wn];rfl),rfl, .refl _,rfl, .refl _,rfl, .refl _,rfl,trivial⟩ (hC rfl rfl rfl (hM rfl rfl rfl (hR rfl (by
    rw[hst,Wq];show _=_++ [[PV.iv (iS (vD p i)),PV.iv (iI (gr p i:Int))]]
    rw[←hlv];rfl) rfl trivial))) rfl⟩
  ·have h2:(ns p).length≤i:=by simpa using h2
   have e:(a7 p).take i=a7 p:=WB (by rw[jf];exact h2);rw[kz];refine gA rfl ⟨.inr rfl,_,rfl,?_⟩;rw[e];refine .row 5 (fun k=>yV ((a7 p).getD k default)) rfl (ch rfl) ?_ (.done (.bP ⟨?_, .refl _,trivial⟩))
   ·refine⟨?_,⟨trivial,trivial,trivial,trivial⟩,trivial⟩
    show PV.bm 5 2 _ (.sl 5 0 (a7 p).length 2);simp[PV.bm]
   ·show ah (.iv (.cz 2 (a7 p).length fun k=>yV ((a7 p).getD (0+k) default))) (.iv (cM 2 (a7 p) yV))
    simp only[WQ];exact .refl _
end Go.Proofs.YtflegjieadkonaaGreatDoor
namespace Go.Proofs.YtflegjieadkonaaGreatDoor
open Go Go.Al
section
variable (l:List (aj×Nat)) (c:List (List aj)) (rel:aj)
end
section
variable {p:Prog}
theorem BN (h0:(cB p).1=0):(∀i j,eD p i j=true→gr p j+Go.Lv.wt (sD p) i j≤gr p i)∧Go.Le.AZ (ns p).length (eD p) (sD p) (gr p):=by
 have hs:=qy fun r hr=>ij (iQ (jy h0).1 h0 r hr);have hlt: ∀i j,eD p i j=true→i<(ns p).length∧j<(ns p).length:=fun i j h=>⟨(Go.Rg.en.1 h).1,(Go.Rg.en.1 h).2.1⟩
 obtain⟨all,h1,h2⟩:=Go.Le.sJ (Go.Rg.js (ns p) (eg p)) hs (ns p).length _ _ (Go.Le.wq.nil _ _ _ _) (by have:=Y0 (p:=fun x:Nat=>!false) (l:=WL (ns p).length);rwa[Yp] at this);have hl:=fun i (hi:i<(ns p).length)=>oS hs hi;refine⟨fun i j he=>?_,fun S hS=>?_⟩
 ·obtain⟨hi,hj⟩:=hlt i j he
  have:=h2.ph i j hi (h1 i hi) he;rw[hl i hi,hl j hj];exact this
 ·obtain⟨x,hx,hS⟩:=hS
  obtain⟨y,hy,_,h4,h5⟩:=h2.ground S ⟨x,hx,h1 x hx,hS⟩;refine⟨y,hy,h4,?_⟩;rcases h5 with h5|⟨z,hz,h6,h7,h8⟩
  ·left
   rw[hl y hy];exact h5
  ·right
   refine⟨z,hz,h6,h7,?_⟩;rw[hl y hy,hl z hz];exact h8
end
end Go.Proofs.YtflegjieadkonaaGreatDoor
namespace Go.Proofs.YtflegjieadkonaaGreatDoor
open Go Go.Al
def rb (L:List ak) (k i:Nat):List ak:=(WL L.length).map fun j=>if j<i then L.getD ((j+k) % L.length) default else L.getD j default
theorem dx (L:List ak) (k i:Nat):(rb L k i).length=L.length:=by simp[rb]
theorem ky (L:List ak) (k i:Nat) {j:Nat} (hj:j<L.length):(rb L k i)[j]? =some (if j<i then L.getD ((j+k) % L.length) default else L.getD j default):=by
 unfold rb;rw[Ww,Yr hj];rfl
theorem Bm (L:List ak) (k:Nat):rb L k 0=L:=by
 apply Yo;intro j;rcases W9 j L.length with h|h
 ·rw[ky L k 0 h,if_neg (Yz _),Ws,Wt h];rfl
 ·rw[XU (by rw[dx];exact h),XU h]
theorem C7 (L:List ak) (k:Nat) {i:Nat} (hi:i<L.length):(rb L k i).set i (L.getD ((i+k) % L.length) default)=rb L k (i+1):=by
 apply Yo;intro j;rw[XP];rcases W9 j L.length with h|h
 ·rw[ky L k i h,ky L k (i+1) h,dx]
  by_cases hij:i=j
  ·subst hij
   rw[if_pos rfl,if_pos hi,if_pos (XT _)]
  ·rw[if_neg hij]
   congr 1;by_cases h2:j<i
   ·rw[if_pos h2,if_pos (by omega)]
   ·rw[if_neg h2,if_neg (by omega)]
 ·rw[XU (by rw[dx];exact h),XU (by rw[dx];exact h),if_neg (by omega)]
def iY (L:List ak) (k:Nat):List ak:=rb L k L.length
theorem w8 {L:List ak} {k:Nat} {r:ak} (h:r∈iY L k):r∈L:=by
 obtain⟨j,hj,rfl⟩:=XH.1 h;rw[iY,dx] at hj;have:=ky L k L.length hj;rw[if_pos hj] at this;have hj':j<(rb L k L.length).length:=by rw[dx];exact hj
 rw[Wt hj'] at this;simp only[Wo] at this;show(rb L k L.length)[j]∈L;rw[this];exact bO (Nat.mod_lt _ (by omega))
theorem Dx {L:List ak} {k:Nat} {r:ak} (h:r∈L):r∈iY L k:=by
 obtain⟨j,hj,rfl⟩:=XH.1 h;have hlt:(j+(L.length-k % L.length)) % L.length<L.length:=Nat.mod_lt _ (by omega);refine List.mem_iff_getElem?.2 ⟨(j+(L.length-k % L.length)) % L.length,?_⟩;rw[iY,ky L k _ hlt,if_pos hlt];have hk:k % L.length<L.length:=Nat.mod_lt _ (by omega)
 have e:((j+(L.length-k % L.length)) % L.length+k) % L.length=j:=by
  rw[Zu,Nat.mod_mod,←Zu];have h1:k=L.length*(k/L.length)+k % L.length:=(Nat.div_add_mod k L.length).symm;rw[show j+(L.length-k % L.length)+k=j+L.length*(k/L.length)+L.length by omega,Nat.add_mod_right,Nat.add_mul_mod_self_left,Yj hj]
 rw[e,Ws,Wt hj];rfl
structure gu (p q:Prog):Prop where
 ar:q.ar=p.ar
 len:q.rules.length=p.rules.length
 mem: ∀r,r∈q.rules↔r∈p.rules
section
variable {p q:Prog}
theorem gu.symm (h:gu p q):gu q p:=⟨h.ar.symm,h.len.symm,fun r=>(h.mem r).symm⟩
theorem jx (h:gu p q):(bf q).1=0↔(bf p).1=0:=
 ⟨fun g=>qs h.ar.symm (YX h.len.symm) (fun r hr=>(h.mem r).2 hr) ((jw q).1 g),fun g=>qs h.ar (YX h.len) (fun r hr=>(h.mem r).1 hr) ((jw p).1 g)⟩
theorem gI (h:q.ar=p.ar):ns q=ns p:=by unfold ns;rw[h]
theorem mX (h: ∀r∈q.rules,r∈p.rules) {x:aj×aj×Nat} (hx:x∈aF q):x∈aF p:=by
 unfold aF at*
 obtain⟨r,hr,hx⟩:=X9.1 hx;exact X9.2 ⟨r,h r hr,hx⟩
theorem xS (h:gu p q) (a b:aj):gD (aF q) a b=gD (aF p) a b:=Km (fun _=>⟨mX fun r hr=>(h.mem r).1 hr,mX fun r hr=>(h.mem r).2 hr⟩) a b
theorem v7 (h:gu p q):eg q=eg p:=by funext a b;unfold eg;rw[xS h]
theorem wV (h:gu p q):uh q=uh p:=by funext a b;unfold uh;rw[xS h]
theorem zn (h:gu p q):oh q=oh p:=by unfold oh;rw[gI h.ar,v7 h,wV h]
theorem xX (h:gu p q):gi q=gi p:=by unfold gi;rw[gI h.ar,v7 h]
theorem zr (h:gu p q):cA q=cA p:=by unfold cA;rw[gI h.ar,xX h]
theorem BL (h:gu p q):gr q=gr p:=by unfold gr;rw[gI h.ar,v7 h,wV h]
theorem xB (h:gu p q):a7 q=a7 p:=by unfold a7;rw[gI h.ar,BL h]
theorem Bp (h:gu p q):ringEq q=ringEq p:=by funext a b;unfold ringEq;rw[gI h.ar,xX h]
theorem yq (h:gu p q):dP q=dP p:=by funext r;unfold dP gH j4;rw[Bp h]
theorem oq:(cB p).1=0↔(bf p).1=0∧ ∀r∈p.rules,(dP p r).1=0:=by
 constructor
 ·intro h
  have h1:=(jy h).1;exact⟨h1,iQ h1 h⟩
 ·rintro⟨h1,h2⟩
  unfold cB
  rw[if_neg (by simpa using h1),XC.2 fun d hd=>by
   obtain⟨r,hr,rfl⟩:=W4.1 hd
   simpa using h2 r hr]
  rfl
theorem ye (h:gu p q):(cB q).1=0↔(cB p).1=0:=by
 rw[oq,oq,jx h,yq h];exact and_congr_right fun _=>⟨fun g r hr=>g r ((h.mem r).2 hr),fun g r hr=>g r ((h.mem r).1 hr)⟩
structure vc (p q:Prog):Prop where
 ar:q.ar=p.ar
 len:q.rules.length≤p.rules.length
 mem: ∀r∈q.rules,r∈p.rules
theorem xY (h:vc p q) {i j:Nat} (hi:i<(ns p).length) (hf:gi q i j=true):gi p i j=true:=by
 have e:=gI h.ar;have fq:=Go.Rg.js (ns q) (eg q);have fp:=Go.Rg.js (ns p) (eg p)
 cases hc:gi p i j with
 |true=>rfl
 |false=>
  exfalso;obtain⟨u,v,hu,h1,h2,h3,h4,h5⟩:=fq.split i j (fun z=>gi p i z=true) (by rw[e];exact hi) hf (fp.refl i hi) (by rw[hc];simp);apply h4;obtain⟨g1,g2,g3⟩:=Go.Rg.en.1 h3;rw[e] at g1 g2 g3
  have g4:eD p u v=true:=Go.Rg.en.2 ⟨g1,g2,by
   have h6:gD (aF q) ((ns p).getD u default) ((ns p).getD v default)≠0:=of_decide_eq_true g3;have h7:=Au (fun x=>mX (p:=p) (q:=q) h.mem) ((ns p).getD u default) ((ns p).getD v default)
   exact decide_eq_true (by omega)⟩
  exact fp.trans _ _ _ h2 (fp.ph _ _ g1 g4)
theorem ui (h:vc p q) {a b:aj} (hr:ringEq q a b=true):ringEq p a b=true:=by
 rw[nW] at hr ⊢;rw[gI h.ar] at hr;obtain⟨i,j,hi,hj,h1,h2,h3,h4⟩:=hr;exact⟨i,j,hi,hj,h1,h2,xY h hi h3,xY h hj h4⟩
theorem yr (h:vc p q) {r:ak} (hw:(dP p r).1=0):(dP q r).1=0:=by
 have h1:=ij hw
 have h2:gH q r=none:=by
  unfold gH at h1 ⊢;rw[XC] at h1 ⊢;intro l hl hc;apply h1 l hl;simp only[WN,decide_eq_true_eq,Xr] at hc ⊢;obtain⟨hk,t,ht,hr⟩:=hc;exact⟨hk,t,ht,ui h hr⟩
 unfold dP at hw ⊢;rw[h1] at hw;rw[h2];simp only at hw ⊢;split
 ·rename_i hc
  rw[if_pos] at hw
  ·cases hw
  ·refine⟨hc.1,?_⟩
   have:=hc.2;unfold j4 at this ⊢;rw[Xr] at this ⊢;obtain⟨l,hl,hx⟩:=this;simp only[WN,decide_eq_true_eq] at hx;exact⟨l,hl,by simp only[WN,decide_eq_true_eq];exact⟨hx.1,ui h hx.2⟩⟩
 ·rfl
theorem yf (h:vc p q) (h0:(cB p).1=0):(cB q).1=0:=by
 rw[oq] at h0 ⊢;exact⟨qs h.ar h.len h.mem ((jw p).1 h0.1),fun r hr=>yr h (h0.2 r (h.mem r hr))⟩
theorem BM (h:vc p q) (h0:(cB p).1=0) (i:Nat):gr q i≤gr p i:=by
 have e:=gI h.ar;have hm:=fun a b=>Au (fun x=>mX (p:=p) (q:=q) h.mem) a b
 have:=Go.Or.DN (e:=eD p) (s:=sD p) (e':=eD q) (s':=sD q) (n:=(ns q).length) (L:=gr p) (BN h0).1 (fun a b g=>by
  obtain⟨g1,g2,g3⟩:=Go.Rg.en.1 g;rw[e] at g1 g2 g3;refine Go.Rg.en.2 ⟨g1,g2,?_⟩;have h6:gD (aF q) ((ns p).getD a default) ((ns p).getD b default)≠0:=of_decide_eq_true g3;have h7:=hm ((ns p).getD a default) ((ns p).getD b default)
  exact decide_eq_true (by omega)) (fun a b g=>by
  have g:uh q ((ns q).getD a default) ((ns q).getD b default)=true:=g;show uh p ((ns p).getD a default) ((ns p).getD b default)=true;rw[e] at g;have h6:gD (aF q) ((ns p).getD a default) ((ns p).getD b default)=2:=of_decide_eq_true g;have h7:=hm ((ns p).getD a default) ((ns p).getD b default);have h8:=D5 p ((ns p).getD a default) ((ns p).getD b default)
  exact decide_eq_true (by omega)) ((ns q).length+1) i
 exact this
end
def ff (L:List ak) (n:Nat):List ak:=L.take n++L.drop (n+1)
theorem zq (p:Prog) (n:Nat):vc p ⟨p.ar,ff p.rules n⟩:=
 ⟨rfl,by show(ff p.rules n).length≤_;unfold ff;rw[Wn,Xb,X8];omega,fun r hr=>(WD.1 hr).elim YF List.mem_of_mem_drop⟩
theorem Bl (p:Prog) (k:Nat):gu p ⟨p.ar,iY p.rules k⟩:=⟨rfl,dx _ _ _,fun _=>⟨w8,Dx⟩⟩
end Go.Proofs.YtflegjieadkonaaGreatDoor
namespace Go.Proofs.YtflegjieadkonaaGreatDoor
open Go Go.Al
set_option maxRecDepth 10000
theorem oF {α:Type} [Inhabited α] {a b:List α} (hl:a.length=b.length) (h: ∀j,j<a.length→a.getD j default=b.getD j default):a=b:=by
 refine List.ext_getElem hl fun j h1 h2=>?_;have:=h j h1;rwa[Ws,Ws,Wt h1,Wt h2] at this
theorem yC (a b:List aj) (ha:a.length≤1000000):Pure Tryz.prog 64 [.iv (strs a), .iv (strs b)] (pB (decide (a=b))):=by
 refine ax ae Tryz.func64 rfl (by decide) Tryz.ntmps64 rfl (by simp) rfl ?_;refine gA rfl ?_;refine Wl (fun h1=>?_) (fun h1=>?_)
 ·have h1: ¬a=b:=fun g=>by rw[g] at h1;simp at h1
  rw[decide_eq_false h1];refine gA rfl (aw (by first|exact .inr rfl|exact .inl rfl) rfl (.of_eq ?_));rfl
 have h1:a.length=b.length:=by have h1:=h1;simp at h1;omega
 refine gA rfl ?_
 refine aK 0 a.length (WC _) (fun i=>⟨[(0, .iv (strs a)),(1, .iv (strs b)),(5,pI i)],[],0⟩) (fun i=> ∀j,j<i→a.getD j default=b.getD j default) [] (fun j hj=>(nomatch hj))
  (Cj rfl rfl ⟨.refl _,rfl, .refl _,rfl, .refl _,rfl,trivial⟩ rfl) fun i hi hJ=>?_
 refine gA rfl ?_;refine Wl (fun h2=>?_) (fun h2=>?_)
 ·have h2:i<a.length:=by simpa using h2
  refine gA rfl ?_;refine Wl (fun h3=>?_) (fun h3=>?_)
  ·have h3: ¬a.getD i default=b.getD i default:=by simpa using h3
   have h4: ¬a=b:=fun g=>h3 (by rw[g]);rw[decide_eq_false h4];refine gA rfl (aw (by first|exact .inr rfl|exact .inl rfl) rfl (.of_eq ?_));rfl
  ·have h3:a.getD i default=b.getD i default:=by simpa using h3
   refine gA rfl ?_;exact⟨h2,fun j hj=>(XW.1 hj).elim (hJ j) (fun e=>e▸h3),[],Cj rfl rfl ⟨.refl _,rfl, .refl _,rfl, .refl _,rfl,trivial⟩ rfl⟩
 ·have h2:a.length≤i:=by simpa using h2
  rw[decide_eq_true (oF h1 fun j hj=>hJ j (by omega))];refine gA rfl (aw (by first|exact .inr rfl|exact .inl rfl) rfl (.of_eq ?_));rfl
theorem wX (a b:List (aj×Nat)) (ha:a.length≤1000000):Pure Tryz.prog 26 [.iv (cM 2 a yV), .iv (cM 2 b yV)] (pB (decide (a=b))):=by
 refine ax ae Tryz.func26 rfl (by decide) Tryz.ntmps26 rfl (by simp) rfl ?_;refine gA rfl ?_;refine Wl (fun h1=>?_) (fun h1=>?_)
 ·have h1: ¬a=b:=fun g=>by rw[g] at h1;simp at h1
  rw[decide_eq_false h1];refine gA rfl (aw (by first|exact .inr rfl|exact .inl rfl) rfl (.of_eq ?_));rfl
 have h1:a.length=b.length:=by have h1:=h1;simp at h1;omega
 refine gA rfl ?_
 refine aK 0 a.length (WC _) (fun i=>⟨[(0, .iv (cM 2 a yV)),(1, .iv (cM 2 b yV)),(5,pI i)],[],0⟩) (fun i=> ∀j,j<i→a.getD j default=b.getD j default) [] (fun j hj=>(nomatch hj))
  (Cj rfl rfl ⟨.refl _,rfl, .refl _,rfl, .refl _,rfl,trivial⟩ rfl) fun i hi hJ=>?_
 refine gA rfl ?_;refine Wl (fun h2=>?_) (fun h2=>?_)
 ·have h2:i<a.length:=by simpa using h2
  refine gA rfl ?_;refine Wl (fun h3=>?_) (fun h3=>?_)
  ·have h3: ¬a.getD i default=b.getD i default:=by
    have h3:(!(decide ((a.getD i default).1=(b.getD i default).1)&&(decide (((a.getD i default).2:Int)=(b.getD i default).2)&&true)))=true:=h3;generalize a.getD i default=x at h3;generalize b.getD i default=y at h3
    rintro rfl;simp at h3
   have h4: ¬a=b:=fun g=>h3 (by rw[g]);rw[decide_eq_false h4];refine gA rfl (aw (by first|exact .inr rfl|exact .inl rfl) rfl (.of_eq ?_));rfl
  ·have h3:a.getD i default=b.getD i default:=by
    have h3:(!(decide ((a.getD i default).1=(b.getD i default).1)&&(decide (((a.getD i default).2:Int)=(b.getD i default).2)&&true)))=false:=h3;generalize a.getD i default=x at h3;generalize b.getD i default=y at h3;obtain⟨x1,x2⟩:=x;obtain⟨y1,y2⟩:=y;simp only[Zf,XL,WN,decide_eq_true_eq] at h3;obtain⟨g1,g2⟩:=h3;rw[g1,Int.ofNat_inj.1 g2]
   refine gA rfl ?_;exact⟨h2,fun j hj=>(XW.1 hj).elim (hJ j) (fun e=>e▸h3),[],Cj rfl rfl ⟨.refl _,rfl, .refl _,rfl, .refl _,rfl,trivial⟩ rfl⟩
 ·have h2:a.length≤i:=by simpa using h2
  rw[decide_eq_true (oF h1 fun j hj=>hJ j (by omega))];refine gA rfl (aw (by first|exact .inr rfl|exact .inl rfl) rfl (.of_eq ?_));rfl
theorem yE (a b:List Vt) (ha:a.length≤1000000):Pure Tryz.prog 22 [.iv (cM 3 a zp), .iv (cM 3 b zp)] (pB (decide (a=b))):=by
 refine ax ae Tryz.func22 rfl (by decide) Tryz.ntmps22 rfl (by simp) rfl ?_;refine gA rfl ?_;refine Wl (fun h1=>?_) (fun h1=>?_)
 ·have h1: ¬a=b:=fun g=>by rw[g] at h1;simp at h1
  rw[decide_eq_false h1];refine gA rfl (aw (by first|exact .inr rfl|exact .inl rfl) rfl (.of_eq ?_));rfl
 have h1:a.length=b.length:=by have h1:=h1;simp at h1;omega
 refine gA rfl ?_
 refine aK 0 a.length (WC _) (fun i=>⟨[(0, .iv (cM 3 a zp)),(1, .iv (cM 3 b zp)),(5,pI i)],[],0⟩) (fun i=> ∀j,j<i→a.getD j default=b.getD j default) [] (fun j hj=>(nomatch hj))
  (Cj rfl rfl ⟨.refl _,rfl, .refl _,rfl, .refl _,rfl,trivial⟩ rfl) fun i hi hJ=>?_
 refine gA rfl ?_;refine Wl (fun h2=>?_) (fun h2=>?_)
 ·have h2:i<a.length:=by simpa using h2
  refine gA rfl ?_;refine Wl (fun h3=>?_) (fun h3=>?_)
  ·have h3: ¬a.getD i default=b.getD i default:=by
    have h3:(!(decide ((a.getD i default).1=(b.getD i default).1)&&(decide ((a.getD i default).2.1=(b.getD i default).2.1)&&((a.getD i default).2.2==(b.getD i default).2.2&&true))))=true:=h3;generalize a.getD i default=x at h3;generalize b.getD i default=y at h3
    rintro rfl;simp at h3
   have h4: ¬a=b:=fun g=>h3 (by rw[g]);rw[decide_eq_false h4];refine gA rfl (aw (by first|exact .inr rfl|exact .inl rfl) rfl (.of_eq ?_));rfl
  ·have h3:a.getD i default=b.getD i default:=by
    have h3:(!(decide ((a.getD i default).1=(b.getD i default).1)&&(decide ((a.getD i default).2.1=(b.getD i default).2.1)&&((a.getD i default).2.2==(b.getD i default).2.2&&true))))=false:=h3;generalize a.getD i default=x at h3;generalize b.getD i default=y at h3;obtain⟨x1,x2,x3⟩:=x;obtain⟨y1,y2,y3⟩:=y;simp only[Zf,XL,WN,decide_eq_true_eq,beq_iff_eq] at h3;obtain⟨g1,g2,g3⟩:=h3;rw[g1,g2,g3]
   refine gA rfl ?_;exact⟨h2,fun j hj=>(XW.1 hj).elim (hJ j) (fun e=>e▸h3),[],Cj rfl rfl ⟨.refl _,rfl, .refl _,rfl, .refl _,rfl,trivial⟩ rfl⟩
 ·have h2:a.length≤i:=by simpa using h2
  rw[decide_eq_true (oF h1 fun j hj=>hJ j (by omega))];refine gA rfl (aw (by first|exact .inr rfl|exact .inl rfl) rfl (.of_eq ?_));rfl
theorem yD (a b:List (List aj)) (ha:a.length≤1000000) (hra: ∀r∈a,r.length≤1000000):Pure Tryz.prog 24 [.iv (cM 1 a pq), .iv (cM 1 b pq)] (pB (decide (a=b))):=by
 refine ax ae Tryz.func24 rfl (by decide) Tryz.ntmps24 rfl (by simp) rfl ?_;refine gA rfl ?_;refine Wl (fun h1=>?_) (fun h1=>?_)
 ·have h1: ¬a=b:=fun g=>by rw[g] at h1;simp at h1
  rw[decide_eq_false h1];refine gA rfl (aw (by first|exact .inr rfl|exact .inl rfl) rfl (.of_eq ?_));rfl
 have h1:a.length=b.length:=by have h1:=h1;simp at h1;omega
 refine gA rfl ?_
 refine aK 0 a.length (WC _) (fun i=>⟨[(0, .iv (cM 1 a pq)),(1, .iv (cM 1 b pq)),(5,pI i)],[],0⟩) (fun i=> ∀j,j<i→a.getD j default=b.getD j default) [] (fun j hj=>(nomatch hj))
  (Cj rfl rfl ⟨.refl _,rfl, .refl _,rfl, .refl _,rfl,trivial⟩ rfl) fun i hi hJ=>?_
 refine gA rfl ?_;refine Wl (fun h2=>?_) (fun h2=>?_)
 ·have h2:i<a.length:=by simpa using h2
  refine gA rfl (aX ae [] (Pure.lS (yC (a.getD i default) (b.getD i default) (hra _ (bO h2)))) rfl rfl rfl rfl rfl rfl rfl rfl rfl rfl rfl rfl (by(repeat' (first|exact trivial|exact rfl|exact ah.refl _|exact ah.bk (by assumption)|apply Wl))<;>first|omega|(simp only[Wp];omega)|(simp;done)|(simp;omega)) rfl (by(repeat' (first|exact trivial|exact rfl|exact ah.refl _|exact ah.bk (by assumption)|apply Wl))<;>first|omega|(simp only[Wp];omega)|(simp;done)|(simp;omega)) ?_);refine gA rfl ?_;refine Wl (fun h3=>?_) (fun h3=>?_)
  ·have h3: ¬a.getD i default=b.getD i default:=by simpa using h3
   have h4: ¬a=b:=fun g=>h3 (by rw[g]);rw[decide_eq_false h4];refine gA rfl (aw (by first|exact .inr rfl|exact .inl rfl) rfl (.of_eq ?_));rfl
  ·have h3:a.getD i default=b.getD i default:=by simpa using h3
   refine gA rfl ?_;exact⟨h2,fun j hj=>(XW.1 hj).elim (hJ j) (fun e=>e▸h3),[],Cj rfl rfl ⟨.refl _,rfl, .refl _,rfl, .refl _,rfl,trivial⟩ rfl⟩
 ·have h2:a.length≤i:=by simpa using h2
  rw[decide_eq_true (oF h1 fun j hj=>hJ j (by omega))];refine gA rfl (aw (by first|exact .inr rfl|exact .inl rfl) rfl (.of_eq ?_));rfl
def Ea:Expr:= .mk 0 Wu ⟨0,0,Wu⟩ 0 []
def tX:Term:=⟨1,⟨#[88]⟩,⟨0,0,Wu⟩⟩
def vL (k:Int) (rel:aj):Lit:= .mk k ⟨rel,[tX]⟩ 0 Ea Ea 0 Wu Ea [] ⟨k,7⟩
theorem sV (k:Int) (rel:aj):Pure Tryz.prog 88 [pI k,pS rel] (ag (vL k rel).c):=by
 refine ax ae Tryz.func88 rfl (by decide) Tryz.ntmps88 rfl (by simp) rfl ?_;refine gA rfl ⟨.inr rfl,_,rfl,fB.sa 1 [tX] Term.c rfl rfl ?_ (.done ?_)⟩
 ·simp[PV.bm,b5]
 ·refine ah.agg ⟨.refl _, .refl _,?_, .refl _, .refl _, .refl _, .refl _, .refl _, .refl _, .refl _, .nil _ _, .refl _, .refl _, .refl _, .refl _, .refl _, .refl _, .nil _ _, .refl _, .refl _, .refl _, .refl _, .refl _, .refl _, .refl _, .refl _, .nil _ _, .nil _ _, .refl _, .refl _,trivial⟩
  show ah (.iv (.cz 5 1 fun k=>([tX].getD (0+k) default).c)) (.iv (cM 5 [tX] Term.c));simp only[WQ];exact .refl _
def ln:aj:=⟨#[97]⟩
def mb:aj:=⟨#[98]⟩
def rf:aj:=⟨#[99]⟩
def xmB (b:Bool):List Lit:=if b then[vL 1 ln,vL 2 rf,vL 2 ln] else[vL 1 ln,vL 2 rf]
def kY (b:Bool):Prog:=⟨[⟨ln,[1],⟨0,0⟩⟩,⟨mb,[1],⟨0,0⟩⟩,⟨rf,[1],⟨0,0⟩⟩],[⟨⟨ln,[tX]⟩,[vL 1 mb],⟨0,0⟩⟩,⟨⟨mb,[tX]⟩,xmB b,⟨0,0⟩⟩]⟩
set_option maxHeartbeats 4000000 in
theorem sEx (b:Bool):Pure Tryz.prog 47 [.kb b] (ag (kY b).c):=by
 refine ax ae Tryz.func47 rfl (by decide) Tryz.ntmps47 rfl (by simp) rfl ?_;refine gA rfl (aX ae [] (Pure.lS (sV 1 mb)) rfl rfl rfl rfl rfl rfl rfl rfl rfl rfl rfl rfl (by(repeat' (first|exact trivial|exact rfl|exact ah.refl _|exact ah.bk (by assumption)|apply Wl))<;>first|omega|(simp only[Wp];omega)|(simp;done)|(simp;omega)) rfl (by(repeat' (first|exact trivial|exact rfl|exact ah.refl _|exact ah.bk (by assumption)|apply Wl))<;>first|omega|(simp only[Wp];omega)|(simp;done)|(simp;omega)) ?_);refine gA rfl (an (sV 1 ln) rfl rfl rfl rfl rfl rfl ?_);refine gA rfl (an (sV 2 rf) rfl rfl rfl rfl rfl rfl ?_);cases b
 ·refine gM 10 rfl (bU [] (t:=⟨[(0, .kb false),(32, .kb false),(2, .ptr 0 0),(4, .ptr 6 0),(5, .ptr 12 0)],[(0,some (.cells [.iv (.v (.slice none 0 0)), .iv (.v (.slice none 0 0))])),(1,some (aD 5 [tX] Term.c)),(2,some (aD 1 [(1:Int)] fH)),(3,some (aD 1 [(1:Int)] fH)),(4,some (aD 1 [(1:Int)] fH)),(5,some (.row 4 [[pS ln, .sl 2 0 1 1,pI 0,pI 0],[pS mb, .sl 3 0 1 1,pI 0,pI 0],[pS rf, .sl 4 0 1 1,pI 0,pI 0]])),(6,some (.cells [.sl 5 0 3 4, .sl 10 0 1 5])),(7,some (aD 30 [vL 1 mb] Lit.c)),(10,some (.row 5 [[pS ln, .sl 1 0 1 5, .sl 7 0 1 30,pI 0,pI 0]])),(11,some (aD 30 [vL 1 ln,vL 2 rf] Lit.c)),(12,some (.cells [pS mb, .sl 1 0 1 5, .sl 11 0 2 30,pI 0,pI 0]))],13⟩) (wk rfl rfl rfl ⟨.refl _,rfl, .refl _,rfl, .refl _,rfl, .refl _,rfl, .refl _,rfl,trivial⟩ ⟨⟨_,rfl, .of_eq rfl⟩,Wj rfl,rfl,(hR rfl rfl rfl (hR rfl rfl rfl (hR rfl rfl rfl (hR rfl rfl rfl ⟨⟨_,rfl, .of_eq rfl⟩,Wj rfl,ru rfl,⟨⟨_,rfl, .of_eq rfl⟩,Wj rfl,rfl,(hR rfl rfl rfl ⟨⟨_,rfl, .of_eq rfl⟩,Wj rfl,ru rfl,(hR rfl rfl rfl ⟨⟨_,rfl, .of_eq rfl⟩,Wj rfl,rfl,trivial⟩)⟩)⟩⟩))))⟩ rfl) ?_)
  refine dY 1 (fun k=>Term.c ([tX].getD k default)) rfl (ch rfl) (by simp[AF.kX,PV.bm]) (dQ rfl) ?_;refine dY 2 (fun k=>fH ([(1:Int)].getD k default)) rfl (ch rfl) (by simp[AF.kX,AF.ft,PV.cZ,PV.bm]) (dQ rfl) ?_;refine dY 3 (fun k=>fH ([(1:Int)].getD k default)) rfl (ch rfl) (by simp[AF.kX,AF.ft,PV.cZ,PV.bm]) (dQ rfl) ?_;refine dY 4 (fun k=>fH ([(1:Int)].getD k default)) rfl (ch rfl) (by simp[AF.kX,AF.ft,PV.cZ,PV.bm]) (dQ rfl) ?_;refine dY 7 (fun k=>Lit.c ([vL 1 mb].getD k default)) rfl (ch rfl) (by simp[AF.kX,AF.ft,PV.cZ,PV.bm]) (dQ rfl) ?_;refine dY 11 (fun k=>Lit.c ([vL 1 ln,vL 2 rf].getD k default)) rfl (ch rfl) (by simp[AF.kX,AF.ft,PV.cZ,PV.bm]) (dQ rfl) ?_
  refine bU (L:=[]) (t:=⟨[(0, .kb false),(32, .kb false),(2, .ptr 0 0),(4, .ptr 6 0),(5, .ptr 12 0)],[(0,some (.cells [.iv (.v (.slice none 0 0)), .iv (.v (.slice none 0 0))])),(5,some (aD 4 (kY false).ar Decl.c)),(6,some (.cells [.sl 5 0 3 4, .sl 10 0 1 5])),
   (10,some (aD 5 [(⟨⟨ln,[tX]⟩,[vL 1 mb],⟨0,0⟩⟩:ak)] ak.c)),(12,some (aE (⟨⟨mb,[tX]⟩,[vL 1 ln,vL 2 rf],⟨0,0⟩⟩:ak).c))],13⟩)
   (wk rfl rfl rfl ⟨.refl _,rfl, .refl _,rfl, .refl _,rfl, .refl _,rfl, .refl _,rfl,trivial⟩ ⟨⟨_,rfl, .of_eq rfl⟩,Wj rfl,rfl,(hR rfl (by
   show[[pS ln, .iv (.cz 1 1 fun k=>fH ([(1:Int)].getD (0+k) default)),pI 0,pI 0],[pS mb, .iv (.cz 1 1 fun k=>fH ([(1:Int)].getD (0+k) default)),pI 0,pI 0],[pS rf, .iv (.cz 1 1 fun k=>fH ([(1:Int)].getD (0+k) default)),pI 0,pI 0]]=_
   simp only[WQ];rfl) rfl ⟨⟨_,rfl, .of_eq rfl⟩,Wj rfl,rfl,(hR rfl (by
   show[[pS ln, .iv (.cz 5 1 fun k=>Term.c ([tX].getD (0+k) default)), .iv (.cz 30 1 fun k=>Lit.c ([vL 1 mb].getD (0+k) default)),pI 0,pI 0]]=_
   simp only[WQ];rfl) rfl ⟨⟨_,rfl, .of_eq (by
   show AO.cells [pS mb, .iv (.cz 5 1 fun k=>Term.c ([tX].getD (0+k) default)), .iv (.cz 30 2 fun k=>Lit.c ([vL 1 ln,vL 2 rf].getD (0+k) default)),pI 0,pI 0]=_
   simp only[WQ];rfl)⟩,Wj rfl,rfl,trivial⟩)⟩)⟩ rfl) ?_
  refine gA rfl (gP (.inr rfl) rfl (fB.sa 5 (kY false).ar Decl.c rfl rfl ?_ (fB.sa 14 (kY false).rules ak.c rfl rfl ?_ (.done ?_))))
  ·simp[PV.bm,b5,kY]
  ·simp[PV.cZ,mv,PV.bm,b5,kY]
   show PV.bm 14 5 2 (.sl 14 0 2 5);simp[PV.bm]
  ·show ah (.agg [.iv (.cz 4 3 fun k=>Decl.c ((kY false).ar.getD (0+k) default)), .iv (.cz 5 2 fun k=>ak.c ((kY false).rules.getD (0+k) default))]) (ag (kY false).c)
   simp only[WQ];exact .refl _
 ·refine gA rfl (aX ae [] (Pure.lS (sV 2 ln)) rfl rfl rfl rfl rfl rfl rfl rfl rfl rfl rfl rfl (by(repeat' (first|exact trivial|exact rfl|exact ah.refl _|exact ah.bk (by assumption)|apply Wl))<;>first|omega|(simp only[Wp];omega)|(simp;done)|(simp;omega)) rfl (by(repeat' (first|exact trivial|exact rfl|exact ah.refl _|exact ah.bk (by assumption)|apply Wl))<;>first|omega|(simp only[Wp];omega)|(simp;done)|(simp;omega)) ?_)
  refine gM 5 rfl (bU [] (t:=⟨[(0, .kb true),(32, .kb true),(2, .ptr 0 0),(4, .ptr 6 0),(5, .ptr 12 0)],[(0,some (.cells [.iv (.v (.slice none 0 0)), .iv (.v (.slice none 0 0))])),(1,some (aD 5 [tX] Term.c)),(2,some (aD 1 [(1:Int)] fH)),(3,some (aD 1 [(1:Int)] fH)),(4,some (aD 1 [(1:Int)] fH)),(5,some (.row 4 [[pS ln, .sl 2 0 1 1,pI 0,pI 0],[pS mb, .sl 3 0 1 1,pI 0,pI 0],[pS rf, .sl 4 0 1 1,pI 0,pI 0]])),(6,some (.cells [.sl 5 0 3 4, .sl 10 0 1 5])),(7,some (aD 30 [vL 1 mb] Lit.c)),(10,some (.row 5 [[pS ln, .sl 1 0 1 5, .sl 7 0 1 30,pI 0,pI 0]])),(14,some (aD 30 [vL 1 ln,vL 2 rf,vL 2 ln] Lit.c)),(12,some (.cells [pS mb, .sl 1 0 1 5, .sl 14 0 3 30,pI 0,pI 0]))],15⟩) (wk rfl rfl rfl ⟨.refl _,rfl, .refl _,rfl, .refl _,rfl, .refl _,rfl, .refl _,rfl,trivial⟩ ⟨⟨_,rfl, .of_eq rfl⟩,Wj rfl,rfl,(hR rfl rfl rfl (hR rfl rfl rfl (hR rfl rfl rfl (hR rfl rfl rfl ⟨⟨_,rfl, .of_eq rfl⟩,Wj rfl,ru rfl,⟨⟨_,rfl, .of_eq rfl⟩,Wj rfl,rfl,(hR rfl rfl rfl ⟨⟨_,rfl, .of_eq rfl⟩,Wj rfl,ru rfl,(hR rfl rfl rfl ⟨⟨_,rfl, .of_eq rfl⟩,Wj rfl,rfl,trivial⟩)⟩)⟩⟩))))⟩ rfl) ?_);refine dY 1 (fun k=>Term.c ([tX].getD k default)) rfl (ch rfl) (by simp[AF.kX,PV.bm]) (dQ rfl) ?_;refine dY 2 (fun k=>fH ([(1:Int)].getD k default)) rfl (ch rfl) (by simp[AF.kX,AF.ft,PV.cZ,PV.bm]) (dQ rfl) ?_;refine dY 3 (fun k=>fH ([(1:Int)].getD k default)) rfl (ch rfl) (by simp[AF.kX,AF.ft,PV.cZ,PV.bm]) (dQ rfl) ?_;refine dY 4 (fun k=>fH ([(1:Int)].getD k default)) rfl (ch rfl) (by simp[AF.kX,AF.ft,PV.cZ,PV.bm]) (dQ rfl) ?_;refine dY 7 (fun k=>Lit.c ([vL 1 mb].getD k default)) rfl (ch rfl) (by simp[AF.kX,AF.ft,PV.cZ,PV.bm]) (dQ rfl) ?_;refine dY 14 (fun k=>Lit.c ([vL 1 ln,vL 2 rf,vL 2 ln].getD k default)) rfl (ch rfl) (by simp[AF.kX,AF.ft,PV.cZ,PV.bm]) (dQ rfl) ?_
  refine bU (L:=[]) (t:=⟨[(0, .kb true),(32, .kb true),(2, .ptr 0 0),(4, .ptr 6 0),(5, .ptr 12 0)],[(0,some (.cells [.iv (.v (.slice none 0 0)), .iv (.v (.slice none 0 0))])),(5,some (aD 4 (kY true).ar Decl.c)),(6,some (.cells [.sl 5 0 3 4, .sl 10 0 1 5])),
   (10,some (aD 5 [(⟨⟨ln,[tX]⟩,[vL 1 mb],⟨0,0⟩⟩:ak)] ak.c)),(12,some (aE (⟨⟨mb,[tX]⟩,[vL 1 ln,vL 2 rf,vL 2 ln],⟨0,0⟩⟩:ak).c))],15⟩)
   (wk rfl rfl rfl ⟨.refl _,rfl, .refl _,rfl, .refl _,rfl, .refl _,rfl, .refl _,rfl,trivial⟩ ⟨⟨_,rfl, .of_eq rfl⟩,Wj rfl,rfl,(hR rfl (by
   show[[pS ln, .iv (.cz 1 1 fun k=>fH ([(1:Int)].getD (0+k) default)),pI 0,pI 0],[pS mb, .iv (.cz 1 1 fun k=>fH ([(1:Int)].getD (0+k) default)),pI 0,pI 0],[pS rf, .iv (.cz 1 1 fun k=>fH ([(1:Int)].getD (0+k) default)),pI 0,pI 0]]=_
   simp only[WQ];rfl) rfl ⟨⟨_,rfl, .of_eq rfl⟩,Wj rfl,rfl,(hR rfl (by
   show[[pS ln, .iv (.cz 5 1 fun k=>Term.c ([tX].getD (0+k) default)), .iv (.cz 30 1 fun k=>Lit.c ([vL 1 mb].getD (0+k) default)),pI 0,pI 0]]=_
   simp only[WQ];rfl) rfl ⟨⟨_,rfl, .of_eq (by
   show AO.cells [pS mb, .iv (.cz 5 1 fun k=>Term.c ([tX].getD (0+k) default)), .iv (.cz 30 3 fun k=>Lit.c ([vL 1 ln,vL 2 rf,vL 2 ln].getD (0+k) default)),pI 0,pI 0]=_
   simp only[WQ];rfl)⟩,Wj rfl,rfl,trivial⟩)⟩)⟩ rfl) ?_
  refine gA rfl (gP (.inr rfl) rfl (fB.sa 5 (kY true).ar Decl.c rfl rfl ?_ (fB.sa 16 (kY true).rules ak.c rfl rfl ?_ (.done ?_))))
  ·simp[PV.bm,b5,kY]
  ·simp[PV.cZ,mv,PV.bm,b5,kY]
   show PV.bm 16 5 2 (.sl 16 0 2 5);simp[PV.bm]
  ·show ah (.agg [.iv (.cz 4 3 fun k=>Decl.c ((kY true).ar.getD (0+k) default)), .iv (.cz 5 2 fun k=>ak.c ((kY true).rules.getD (0+k) default))]) (ag (kY true).c)
   simp only[WQ];exact .refl _
instance (a b:aj):Decidable (EN a b):=inferInstanceAs (Decidable (lP a<lP b))
theorem uz (b:Bool):ns (kY b)=[ln,mb,rf]:=
 kZ (eY (show[ln,mb,rf].Nodup by decide)) (by unfold tD;decide+kernel) fun x=>by rw[ns,c7];rfl
theorem Es:cA (kY false)=[[rf],[ln,mb]]:=by
 unfold cA gi;rw[uz];decide+kernel
theorem Ec:oh (kY false)=[(ln,mb,false),(mb,ln,false),(mb,rf,true)]:=by
 unfold oh;rw[uz];decide+kernel
theorem BH:a7 (kY false)=[(ln,1),(mb,1),(rf,0)]:=by
 unfold a7 gr uh;rw[uz];decide+kernel
theorem yd (b:Bool):(bf (kY b)).1=0:=by
 cases b<;>decide+kernel
theorem u2:cB (kY false)=dI.z:=by
 delta cB dP gH j4 ringEq gi
 rw[uz];decide+kernel
theorem zs:cB (kY true)=(70,⟨2,7⟩):=by
 delta cB dP gH j4 ringEq gi
 rw[uz];decide+kernel
theorem C6:iX (kY false) 1=true:=by
 delta iX j4 ringEq gi
 rw[uz];decide+kernel
theorem xk:ur (kY false)=false:=by decide+kernel
theorem B4:gE (kY false)=[[rf],[ln,mb]]:=by rw[gE,if_pos (yd false),Es]
theorem y5:gJ (kY false)=[(ln,1),(mb,1),(rf,0)]:=by rw[gJ,u2,BH];rfl
theorem BY:ix (kY false)=[(ln,mb,false),(mb,ln,false),(mb,rf,true)]:=by rw[ix,if_pos (yd false),Ec]
theorem qk (b:Bool):(kY b).fit:=by
 have h: ∀r∈(kY b).rules,r.size≤10000000∧r.head.ts≤900000000∧ ∀l∈r.body,l.ts≤900000000:=by cases b<;>decide+kernel
 exact⟨by cases b<;>decide+kernel,by cases b<;>decide+kernel,h⟩
theorem UC (b:Bool):Pure Tryz.prog 47 [pB b] (ag (kY b).c):=(sEx b).le (aa:=[pB b]) ⟨.bk rfl,trivial⟩
theorem oC (b:Bool):(kY b).size≤10000000:=by cases b<;>decide+kernel
theorem CV (hS:dH):Pure Tryz.prog 11 [] (pB true):=by
 have h1:=rr hS (kY false) (qk false) (oC false);have h2:=yI hS (kY false) (qk false) (oC false);have h3:=yH hS (kY false) (qk false) (oC false);have h4:=r6 hS (kY true) (qk true) (oC true);have h5:=Jv hS (kY false) 1 (qk false) (oC false);have h6:=Bi hS (kY false) (qk false);rw[y5,u2] at h1;rw[B4] at h2;rw[BY] at h3;rw[zs] at h4;rw[C6] at h5;rw[xk] at h6;refine ax ae Tryz.func11 rfl (by decide) Tryz.ntmps11 rfl (by simp) rfl ?_;refine gA rfl (an (UC false) rfl rfl rfl rfl rfl rfl ?_);refine gA rfl (an (h1) rfl rfl rfl rfl rfl rfl ?_);refine gA rfl (an (h2) rfl rfl rfl rfl rfl rfl ?_);refine gA rfl (an (h3) rfl rfl rfl rfl rfl rfl ?_);refine gA rfl (an (UC true) rfl rfl rfl rfl rfl rfl ?_);refine gA rfl (an (h4) rfl rfl rfl rfl rfl rfl ?_)
 repeat(refine gA rfl (Wl (fun q=>?_) (fun q=>?_))<;>try(exact absurd q (by decide)))
 refine gA rfl (UX (d:=83) (p:= .agg [pS mb,pS rf,pB true]) (.agg ⟨.refl _, .refl _, .VB rfl,trivial⟩) ?_)
 repeat(refine gA rfl (Wl (fun q=>?_) (fun q=>?_))<;>try(exact absurd q (by decide)))
 refine gA rfl (an (h5) rfl rfl rfl rfl rfl rfl ?_)
 repeat(refine gA rfl (Wl (fun q=>?_) (fun q=>?_))<;>try(exact absurd q (by decide)))
 refine gA rfl (an (h6) rfl rfl rfl rfl rfl rfl ?_)
 repeat(refine gA rfl (Wl (fun q=>?_) (fun q=>?_))<;>try(exact absurd q (by decide)))
 refine gA rfl (aw (by first|exact .inr rfl|exact .inl rfl) rfl ?_);exact .of_eq (lL (by decide+kernel))
end Go.Proofs.YtflegjieadkonaaGreatDoor
namespace Go.Al
section
variable {P:Program} {nt:Nat} {Q:AQ} {k:List KI} {s s':AS}
theorem PO {o:Oper} {p:PV} (hv: ∀M N a w,Fits M N s nt a w→ ∃x,(execOp a.eval o).run P w= .ok (.value x) w∧VR M N (· <s.nx) p x) (hp:putDst nt o p s=some s'):OT P nt o s (fun t=>t=s'):=by
 intro M N a w hf K Z hk;obtain⟨x,hx,hv⟩:=hv M N a w hf;unfold Oper.wp;rw[hx];simp only[Oper.upon]
 cases hd:o.dst with
 |none=>
  have:=dM hp hd;subst this
  exact hk M N s' _ w (.refl _ _ _ _ _) hf rfl
 |some d=>
  obtain⟨h1,rfl⟩:=dL hp hd;exact hk M N {s with f:=(d,p)::s.f} _ w (.refl _ _ _ _ _) (hf.put d p x h1 hv) rfl
theorem go_neg {all rest:List Oper} {o:Oper} {t:TypeId} {x:Operand} {c:Int} (hg:o.guard=none) (ho:o.op= .unOp .neg t x) (hx:ev s.f x= .iv (.v (.int .i64 c))) (h1: -9223372036854775807≤c) (h2:c≤9223372036854775807)
  (hp:putDst nt o (.iv (.v (.int .i64 (-c)))) s=some s') (h:GO P nt (.ops all rest::k) Q s'):GO P nt (.ops all (o::rest)::k) Q s:=by
 refine dE hg (PO (p:= .iv (.v (.int .i64 (-c)))) (fun M N a w hf=>?_) hp) fun t ht=>by subst ht;exact h
 have hv:=aS hf.2.1 x;rw[hx] at hv;generalize hve:a.eval x=v at hv
 cases hv with
 |iv _ _ hi=>cases hi with
  |v=>
   refine⟨.int .i64 (-c),?_, .iv _ _ (.v _)⟩;unfold execOp;rw[ho];simp only[hve];have hw:IntKind.i64.wrap (0-c)= -c:=by rw[Int.zero_sub];exact IntWalk.i64_in _ (by constructor<;>omega)
   have e:(Op.unary UnOp.neg (.int .i64 c)).run P w= .ok (.int .i64 (IntKind.i64.wrap (0-c))) w:=rfl;rw[←hw];exact bc e
end
end Go.Al
namespace Go.Proofs.YtflegjieadkonaaGreatDoor
open Go Go.Al
set_option maxRecDepth 10000
def dN (c:Int) (n:Nat):Int:=(if c<0 then-(c+1) else c).tmod n
theorem Pq (c:Int) (n:Nat) (h1: -9223372036854775808≤c) (h2:c≤9223372036854775807) (hn:0<n) (hn2:n≤1000000000):Pure Tryz.prog 33 [pI c,pI n] (pI (dN c n)):=by
 refine ax ae Tryz.func33 rfl (by decide) Tryz.ntmps33 rfl (by simp) rfl ?_;refine gA rfl ?_;refine Wl (fun h3=>?_) (fun h3=>?_)
 ·have h3:c<0:=by simpa using h3
  refine gA rfl (go_neg rfl rfl rfl (by omega) (by omega) rfl ?_);refine gA rfl (aw (by first|exact .inr rfl|exact .inl rfl) rfl (.of_eq ?_));unfold dN;rw[if_pos h3];rfl
 ·have h3: ¬c<0:=by simpa using h3
  refine gA rfl (aw (by first|exact .inr rfl|exact .inl rfl) rfl (.of_eq ?_));unfold dN;rw[if_neg h3];rfl
end Go.Proofs.YtflegjieadkonaaGreatDoor
