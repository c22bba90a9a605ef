/-
  What the proofs of the claims need: part 6 of 6.
-/
import Derived.Test.YtflegjieadkonaaGreatDoorPart5
open And renaming intro→VJ
open Array renaming getD_eq_getD_getElem?→VK,replicate→Xm,toArray_toList→W9
open Bool renaming and_eq_false_iff→Xl,and_eq_true→Wc,and_false→XO,eq_iff_iff→WK,false_and→XA,false_eq_true→Xn,false_or→Xr,not_eq_true'→Ws,not_false→Yf,or_eq_false_iff→Xf,or_eq_true→Wy,true_and→XU
open ByteArray renaming empty→VT
open Classical renaming byContradiction→Xa,em→YX
open Int renaming le_refl→XB,toNat_natCast→VQ
open List.Nodup renaming length_le_of_subset→WJ
open List.Pairwise renaming imp→YV,nil→Yt
open List renaming all_append→YI,all_eq_false→XW,all_eq_true→Wl,any_eq_false→WA,any_eq_true→WU,append_assoc→VU,append_eq_nil_iff→XT,append_nil→WL,cons_append→W7,countP_le_length→XV,filter_append→YT,filter_cons→Xp,filter_nil→Y3,find?_cons→X9,find?_cons_of_neg→YG,find?_eq_none→W3,find?_some→Ya,flatMap_append→XM,flatMap_cons→WT,foldl_append→Xe,foldl_cons→Wm,getD_eq_getElem?_getD→VP,getElem?_append_left→V9,getElem?_cons_succ→W5,getElem?_cons_zero→XN,getElem?_eq_getElem→VS,getElem?_eq_some_iff→VO,getElem?_map→VV,getElem?_of_mem→WE,getElem?_range→XL,getElem?_set→XC,getElem?_zipWith→YL,getElem_inj→X4,getElem_map→Yi,length_append→VL,length_cons→Wu,length_filter_le→WR,length_map→Wr,length_nil→XH,length_range→Xt,length_singleton→WM,length_take→Xc,map_append→VN,map_cons→V6,map_nil→Wv,map_set→Yo,mem_append→V3,mem_append_left→Wp,mem_cons→V4,mem_cons_of_mem→V2,mem_cons_self→V8,mem_filter→Wi,mem_flatMap→WY,mem_iff_getElem→Xh,mem_map→Wo,mem_map_of_mem→WD,mem_of_find?_eq_some→Xu,mem_of_getElem?→Wj,mem_of_mem_take→YP,mem_or_eq_of_mem_set→Ys,mem_range→Wf,mem_singleton→VX,mem_singleton_self→XD,mem_take_iff_getElem→Yr,nil_append→XJ,nodup_append→W8,nodup_cons→WC,nodup_nil→WB,pairwise_iff_getElem→XG,range→V5,range_succ→Y4,sum_cons→Xy,take_length→Xx,take_of_length_le→VY,take_succ_cons→W4,zipWith→YE,zipWith_cons_cons→YF
open Nat renaming beq→Wd,ble→X0,ble_eq_true_of_le→WH,blt→Wg,le_of_ble_eq_true→VI,le_of_eq→YW,le_of_not_lt→Ww,le_refl→VZ,le_trans→Wh,not_lt_zero→X7,zero_add→Wn,zero_le→V1
open Option renaming bind_some→Xi,getD_some→W6,map_eq_none_iff→XE,map_eq_some_iff→VW,map_some→W1
open Option.some renaming inj→WQ,injEq→VM
open Prod renaming fst→We
open Prod.mk renaming injEq→V0
namespace Go.Al
section
variable {P:Program}
section
variable {nt:Nat} {Q:XQ} {k0:List XI} {s:AS} {X:aX}
theorem zd {t:AS} (hh:t.h=s.h) (hn:t.nx=s.nx) (h: ∀M N a w,Fits M N s nt a w→cR M N s.nx s.h X w→FR M N (· <s.nx) t.f a.tmps):SX nt s X (fun t' Y=>t'=t∧Y=X):=by
 intro M N a w hf hs;obtain⟨f,h',n⟩:=t;simp only at hh hn;subst hh;subst hn;exact⟨M,N,⟨f,s.h,s.nx⟩,X, .refl _ _ _ _ _ _,⟨hf.1,h M N a w hf hs,hf.2.2⟩,hs,rfl,rfl⟩
theorem OL {d:Nat} {p:PV} (hle:ak (s.f.get d) p):SX nt s X (fun t Y=>t=⟨(d,p)::s.f,s.h,s.nx⟩∧Y=X):=
 zd rfl rfl fun M N a w hf _ k=>by
  rw[AF.ay];split
  ·rename_i hk;subst hk;exact hle M N _ _ (hf.2.1 k)
  ·exact hf.2.1 k
theorem B5 {b j e d:Nat} {p:PV} (hX:X b=some (.out j e)) (hp: ∀(M:Mem) (N:Nm) (U:Nat→Prop) (x:Value),U j→N.aH j=b→N.ext j=e→VR M N U (s.f.get d) x→VR M N U p x):
  SX nt s X (fun t Y=>t=⟨(d,p)::s.f,s.h,s.nx⟩∧Y=X):=
 zd rfl rfl fun M N a w hf hs k=>by
  obtain⟨h1,h2,h3⟩:=hs.out b j e hX;rw[AF.ay];split
  ·rename_i hk;subst hk;exact hp M N _ _ h1 h2 h3 (hf.2.1 k)
  ·exact hf.2.1 k
theorem yq {M:Mem} {N:Nm} {n:Nat} {h:AH} {w:World} (hr:Rel M N (· <n) h w) {i:Nat} {o o':AO} (hi:h.get i=some o) (hre:o'.real=true→o.real=true) (ho:OR M N (· <n) w i o'):Rel M N (· <n) ((i,some o')::h) w:=by
 have hget: ∀j q,AH.get ((i,some o')::h) j=some q→(j=i∧q=o')∨(j≠i∧h.get j=some q):=by
  intro j q hj;rw[AH.ay] at hj;split at hj
  ·rename_i hji;exact .inl ⟨hji,by simpa using hj.symm⟩
  ·rename_i hji;exact .inr ⟨hji,hj⟩
 refine⟨hr.du,fun j q hj=>?_,fun j q hj hrr=>?_,fun j q hj=>?_,fun j k q r hj hk hq hrr he=>?_⟩
 ·rcases hget j q hj with⟨rfl,rfl⟩|⟨_,h2⟩
  ·exact hr.used j o hi
  ·exact hr.used j q h2
 ·rcases hget j q hj with⟨rfl,rfl⟩|⟨_,h2⟩
  ·exact hr.dz j o hi (hre hrr)
  ·exact hr.dz j q h2 hrr
 ·rcases hget j q hj with⟨rfl,rfl⟩|⟨_,h2⟩
  ·exact ho
  ·exact hr.obj j q h2
 ·rcases hget j q hj with⟨rfl,rfl⟩|⟨g1,h2⟩<;>rcases hget k r hk with⟨g2,h3⟩|⟨g2,h3⟩
  ·exact g2.symm
  ·exact hr.inj j k o r hi h3 (hre hq) hrr he
  ·subst g2;subst h3
   exact hr.inj j k q o h2 hi hq (hre hrr) he
  ·exact hr.inj j k q r h2 h3 hq hrr he
theorem QX {i:Nat} {o o':AO} (hi:s.h.get i=some o) (hre:o'.real=true→o.real=true) (ho: ∀M N w,cR M N s.nx s.h X w→OR M N (· <s.nx) w i o→OR M N (· <s.nx) w i o'):
  SX nt s X (fun t Y=>t=⟨s.f,(i,some o')::s.h,s.nx⟩∧Y=X):=by
 intro M N a w hf hs
 have hget: ∀j q,AH.get ((i,some o')::s.h) j=some q→q.real=true→ ∃q',s.h.get j=some q'∧q'.real=true:=by
  intro j q hj hq;rw[AH.ay] at hj;split at hj
  ·rename_i hji;subst hji;cases hj;exact⟨o,hi,hre hq⟩
  ·exact⟨q,hj,hq⟩
 refine⟨M,N,⟨s.f,(i,some o')::s.h,s.nx⟩,X,⟨rfl,rfl,rfl,VZ _,fun _ _ _=>rfl, .refl _,fun b c h1 h2=>by simp[h1] at h2, .refl _ _,VZ _,fun b hb=> .inr ?_⟩,
  ⟨yq hf.1 hi hre (ho M N w hs (hf.1.obj i o hi)),hf.2⟩,⟨hs.real,hs.obj,hs.du,fun b p e hb j q hj hq=>?_,hs.out⟩,rfl,rfl⟩
 ·rcases hb with⟨j,q,h1,h2,h3⟩|hb
  ·obtain⟨q',g1,g2⟩:=hget j q h1 h2
   exact .inl ⟨j,q',g1,g2,h3⟩
  ·exact .inr hb
 ·obtain⟨q',g1,g2⟩:=hget j q hj hq
  exact hs.apart b p e hb j q' g1 g2
theorem QY {i:Nat} {o o':AO} (hi:s.h.get i=some o) (hle:eP o o'):SX nt s X (fun t Y=>t=⟨s.f,(i,some o')::s.h,s.nx⟩∧Y=X):=
 QX hi hle.1 fun M N w _ h=>hle.2 M N _ w i h
end
end
end Go.Al
namespace Go.Al
section
variable {P:Program} {nt:Nat} {Q:XQ} {k0:List XI} {s:AS} {X:aX} {ty:Ty}
theorem yI {c:Code} {R R':AS→aX→Prop} (h: ∀t Y,R t Y→R' t Y) (hg:GX P nt (.code c:: .lp R::k0) Q s X):GX P nt (.code c:: .lp R'::k0) Q s X:=by
 intro M N a w hf hs;refine AX.then hg hf hs fun e a' w' M' N' s' X' hx hf' hs' hr=>⟨M',N',s',X',hx,hf',hs',?_⟩
 cases e with
 |normal=>exact h _ _ hr
 |_=>exact hr
theorem sq {body:Code} {σ:Type 1} (i0 n:Nat) (hi0:i0≤n) (I:Nat→σ→AS) (J:Nat→σ→aX→Prop) (x0:σ) (L0:List Nat) (j0:J i0 x0 X) (h0:Wk s.nx L0 s (I i0 x0)) (hst: ∀i x Y,J i x Y→Y.still)
  (round: ∀i x Y,i≤n→J i x Y→GX P nt (.code body:: .lp (fun t Y'=>i<n∧ ∃x' L,J (i+1) x' Y'∧Wk s.nx L t (I (i+1) x'))::k0) Q (I i x) Y):GX P nt (.code (.loop body)::k0) Q s X:=by
 refine Um (σ:={p:Nat×σ×aX//p.1≤n∧J p.1 p.2.1 p.2.2}) (fun p=>I p.1.1 p.1.2.1) (fun p=>p.1.2.2) (fun p=>n-p.1.1) ⟨(i0,x0,X),hi0,j0⟩ L0 h0 rfl (fun p=>hst _ _ _ p.2.2) fun p=>?_;obtain⟨⟨i,x,Y⟩,h1,h2⟩:=p;refine yI ?_ (round i x Y h1 h2)
 rintro t Y' ⟨h3,x',L,h4,h5⟩
 exact⟨⟨(i+1,x',Y'),h3,h4⟩,L,by show n-(i+1)<n-i;omega,h5,rfl⟩
end
end Go.Al
namespace Go.Al
section
variable {P:Program} {nt:Nat} {Q:XQ} {k:List XI} {s:AS} {X:aX}
def GoW (P:Program) (nt:Nat) (k:List XI) (Q:XQ) (X:aX) (n0:Nat) (t:AS):AQ:=fun e u=>(e= .normal∧ ∃L,Wk n0 L u t)∨(e≠ .normal∧kx P nt k Q e u X)
theorem sr {n0:Nat} {t u:AS} (L:List Nat) (h:Wk n0 L u t):GoW P nt k Q X n0 t .normal u:= .inl ⟨rfl,L,h⟩
theorem pF {c:Code} (t:AS) (h1:GO P nt [.code c] (GoW P nt k Q X s.nx t) s) (h2:GX P nt k Q t X):GX P nt (.code c::k) Q s X:=by
 intro M N a w hf hs;refine AW.then h1 hf fun e a' w' M' N' u hx hfu hr=>?_;rcases hr with⟨rfl,L,hw⟩|⟨_,hr⟩
 ·obtain⟨g1,g2⟩:=fP.frame (hw.ext hx) hs
  exact⟨M',_,t,X,g1,hw.fits hfu,g2,h2⟩
 ·obtain⟨g1,g2⟩:=fP.frame hx hs
  exact⟨M',N',u,X,g1,hfu,g2,hr⟩
def aX.drop (X:aX) (b:Nat):aX:=fun c=>if c=b then none else X c
theorem Au (b:Nat):SX nt s X (fun t Y=>t=s∧Y=X.drop b):=by
 intro M N a w hf hs
 have h: ∀c y,X.drop b c=some y→X c=some y:=fun c y hc=>by
  unfold aX.drop at hc;split at hc
  ·cases hc
  ·exact hc
 refine⟨M,N,s,X.drop b,⟨rfl,rfl,rfl,VZ _,fun _ _ _=>rfl, .refl _,fun c d h1 h2=>by simp[h1] at h2, .refl _ _,VZ _,fun c hc=> .inr ?_⟩,hf,⟨fun c o e hc=>hs.real c o e (h c _ hc),fun c o e hc=>hs.obj c o e (h c _ hc),fun c o e hc=>hs.du c o e (h c _ hc),fun c o e hc=>hs.apart c o e (h c _ hc),fun c i e hc=>hs.out c i e (h c _ hc)⟩,rfl,rfl⟩;rcases hc with hc|⟨o,e,hc⟩
 ·exact .inl hc
 ·exact .inr ⟨o,e,h c _ hc⟩
end
end Go.Al
namespace Go.Proofs.YtflegjieadkonaaGreatDoor
open Go Go.Al
set_option maxRecDepth 10000
def UY (b:Option Nat):IV:= .v (.map b)
def dvR (p:PV):Option Nat:=match p with
 | .iv (.v (.map b))=>b
 |_=>none
abbrev RM:=List ((KC.str).K×Option Nat)
abbrev gO (m:RM):AO:= .map .str UY none (.map none) dvR m
abbrev wc:=Nat×Nat
def iV (l:List Decl) (B:List wc):RM:=YE (fun d b=>(d.name,some b.1)) l B
def de (L:List (Nat×Nat×NM)):aX:=fun b=>(L.find? fun y=>y.1==b).map fun y=> .obj (cf y.2.2) y.2.1
theorem fU (L:List (Nat×Nat×NM)):(de L).still:=by
 intro b i e h;unfold de at h;cases hf:L.find? fun y=>y.1==b<;>rw[hf] at h<;>cases h
def rowsOf (l:List Decl) (B:List wc) (hs:List (ah×ah×Nat)):List (Nat×Nat×NM):=YE (fun d b=>(b.1,b.2,bZ hs d.name)) l B
theorem A6 {V:Type} {kc:KC} {ev:V→IV} {z:V} {zv:Value} {dv:PV→V} (hz: ∀M,IR M (ev z) zv):eP .ej (.map kc ev z zv dv []):=
 ⟨id,fun M N U w j hj=>⟨#[],0,hj,⟨rfl,by simp,by simp,by simp,by simp⟩,hz M⟩⟩
structure BOK (l:List Decl) (i:Nat) (B:List wc):Prop where
 len:B.length=i
 nd:(B.map We).Nodup
theorem wY (l:List Decl):iV l []=[]:=by cases l<;>rfl
theorem rD (l:List Decl) (hs:List (ah×ah×Nat)):rowsOf l [] hs=[]:=by cases l<;>rfl
theorem yi (l:List Decl) (hs:List (ah×ah×Nat)):de (rowsOf l [] hs)=aX.nil:=by rw[rD];rfl
theorem ra {α β γ:Type} [Inhabited α] (f:α→β→γ): ∀(l:List α) (B:List β) (x:β),B.length<l.length→YE f l (B++ [x])=YE f l B++ [f (l.getD B.length default) x]
 |a::l,[],x,_=>by simp
 |a::l,b::B,x,h=>by
  have:=ra f l B x (by simpa using h)
  simp[this]
 | [],B,x,h=>absurd h (X7 _)
theorem Js {B:List wc} {b e:Nat} (h:(B.map We).Nodup) (hb:b∉B.map We):((B++ [(b,e)]).map We).Nodup:=by
 rw[VN,W8];exact⟨h,by simp,fun u hu v hv g=>hb (by simp at hv;subst g;subst hv;exact hu)⟩
theorem lI (hs:List (ah×ah×Nat)): ∀(l:List Decl) (B:List wc),B.length≤l.length→(rowsOf l B hs).map We=B.map We
 |_,[],_=>by simp[rD]
 |d::l,b::B,h=>by
  have:=lI hs l B (by simpa using h);simp only[rowsOf,YF,V6] at this ⊢
  rw[this]
 | [],b::B,h=>absurd h (by simp)
theorem AB {l:List Decl} {B:List wc} {hs:List (ah×ah×Nat)} {b:Nat} (hl:B.length≤l.length) (h:de (rowsOf l B hs) b=none):b∉B.map We:=by
 rw[←lI hs l B hl];intro hm;obtain⟨y,hy,rfl⟩:=Wo.1 hm;unfold de at h;rw[XE,W3] at h;exact h y hy (by simp)
theorem wG (L:List (Nat×Nat×NM)) (y:Nat×Nat×NM) (h:y.1∉L.map We):de (L++ [y])=(de L).put y.1 (.obj (cf y.2.2) y.2.1):=by
 funext c
 unfold de aX.put;rw[List.find?_append];by_cases hc:c=y.1
 ·subst hc
  rw[if_pos rfl]
  have:L.find? (fun z=>z.1==y.1)=none:=W3.2 fun z hz=>by
   simp only[beq_iff_eq];exact fun e=>h (e▸WD hz)
  rw[this];simp
 ·rw[if_neg hc]
  have: ¬y.1=c:=fun e=>hc e.symm;cases hf:L.find? (fun z=>z.1==c)<;>simp[this,hf]
theorem AA {l:List Decl} {B:List wc} {b e:Nat} (hl:B.length<l.length) (hb:b∉B.map We):de (rowsOf l (B++ [(b,e)]) [])=(de (rowsOf l B [])).put b (.obj (cf []) e):=by
 have h:rowsOf l (B++ [(b,e)]) []=rowsOf l B []++ [(b,e,[])]:=ra _ l B (b,e) hl;rw[h];exact wG _ _ (by rw[lI _ _ _ (Nat.le_of_lt hl)];exact hb)
theorem wX: ∀(l:List Decl) (B:List wc),B.length≤l.length→(iV l B).map We=(l.take B.length).map Decl.name
 |_,[],_=>by simp[wY]
 |d::l,b::B,h=>by
  have:=wX l B (by simpa using h);simp only[iV,YF,V6,Wu,W4] at this ⊢
  rw[this]
 | [],b::B,h=>absurd h (by simp)
theorem Jh {V:Type} {m:List ((KC.str).K×V)} {s:ah} {v:V} (h:s∉m.map We):bQ .str m s v=m++ [(s,v)]:=by
 induction m with
 |nil=>rfl
 |cons x r ih=>
  obtain⟨a,c⟩:=x;simp only[V6,V4,not_or] at h;have: ¬a=s:=fun e=>h.1 e.symm;simp only[bQ,if_neg this,ih h.2];rfl
theorem CB {l:List Decl} {B:List wc} {i b e:Nat} (hn:(l.map Decl.name).Nodup) (hi:B.length=i) (hl:i<l.length):bQ .str (iV l B) (l.getD i default).name (some b)=iV l (B++ [(b,e)]):=by
 subst hi;have h:iV l (B++ [(b,e)])=iV l B++ [((l.getD B.length default).name,some b)]:=ra _ l B (b,e) hl;rw[h];apply Jh;rw[wX l B (Nat.le_of_lt hl)];intro hm;have h2:l.map Decl.name=(l.take B.length).map Decl.name++(l.drop B.length).map Decl.name:=by rw[←VN,List.take_append_drop]
 rw[h2,W8] at hn;refine hn.2.2 _ hm _ (Wo.2 ⟨l.getD B.length default,?_,rfl⟩) rfl;rw[VP,VS hl];exact List.mem_drop_iff_getElem.2 ⟨0,by simpa using hl,by simp⟩
def oD (r:aw) (l:Lit):List (ah×ah×Nat):=(named l).map fun t=>(r.head.rel,t,iD l)
def zO (r:aw):List (ah×ah×Nat):=r.body.flatMap (oD r)
theorem zX: ∀{L:List (Nat×Nat×NM)} {j:Nat} {y:Nat×Nat×NM},(L.map We).Nodup→L[j]? =some y→L.find? (fun z=>z.1==y.1)=some y
 | [],_,_,_,h=>by simp at h
 |x::L,0,y,_,h=>by
  simp only[XN,VM] at h
  subst h;simp
 |x::L,j+1,y,hn,h=>by
  rw[W5] at h;rw[V6,WC] at hn;have hne: ¬x.1=y.1:=fun e=>hn.1 (e▸WD (Wj h));rw[YG (by simpa using hne)];exact zX hn.2 h
theorem n9 {l:List Decl} {B:List wc} {hs:List (ah×ah×Nat)} {j:Nat} {d:Decl} {b:wc} (hl:B.length=l.length) (hn:(B.map We).Nodup) (hd:l[j]? =some d) (hb:B[j]? =some b):de (rowsOf l B hs) b.1=some (.obj (cf (bZ hs d.name)) b.2):=by
 have h:(rowsOf l B hs)[j]? =some (b.1,b.2,bZ hs d.name):=by
  unfold rowsOf;rw[YL,hd,hb]
 have h2:=zX (by rw[lI hs l B (YW hl)];exact hn) h;unfold de;rw[h2];rfl
theorem wF {l:List Decl} {B:List wc} {hs:List (ah×ah×Nat)} {c:Nat} (hl:B.length≤l.length) (h:c∉B.map We):de (rowsOf l B hs) c=none:=by
 rw[←lI hs l B hl] at h;unfold de;rw[XE,W3];intro y hy;simp only[beq_iff_eq];exact fun e=>h (e▸WD hy)
theorem Az {l:List Decl} {B:List wc} {hs:List (ah×ah×Nat)} {j h:Nat} {d:Decl} {b:wc} {t:ah} (hl:B.length=l.length) (hn:(B.map We).Nodup) (hnn:(l.map Decl.name).Nodup) (hd:l[j]? =some d) (hb:B[j]? =some b):
  (de (rowsOf l B hs)).put b.1 (.obj (cf (y4 (bZ hs d.name) t h)) b.2)=de (rowsOf l B (hs++ [(d.name,t,h)])):=by
 funext c
 unfold aX.put;by_cases hc:c=b.1
 ·subst hc
  rw[if_pos rfl,n9 hl hn hd hb,j7,if_pos rfl]
 ·rw[if_neg hc]
  by_cases hm:c∈B.map We
  ·obtain⟨b',hb',rfl⟩:=Wo.1 hm
   obtain⟨i,hi,rfl⟩:=Xh.1 hb';have hil:i<l.length:=by omega
   have hij:i≠j:=fun e=>hc (by subst e;rw[VS hi] at hb;cases hb;rfl);rw[n9 hl hn (VS hil) (VS hi),n9 hl hn (VS hil) (VS hi),j7,if_neg];intro e;have hj:=(VO.1 hd)
   obtain⟨hj1,hj2⟩:=hj;apply hij;refine(X4 hnn (h₀:=by simpa using hil) (h₁:=by simpa using hj1)).1 ?_;rw[Yi,Yi,hj2];exact e.symm
  ·rw[wF (YW hl) hm,wF (YW hl) hm]
theorem Rl {l:List Decl} {B:List wc} {a:ah} (hl:B.length=l.length) (hnn:(l.map Decl.name).Nodup) (ha:a∈l.map Decl.name): ∃(j:Nat) (d:Decl) (b:wc),l[j]? =some d∧B[j]? =some b∧d.name=a∧bF .str (iV l B) a none=some b.1:=by
 induction l generalizing B with
 |nil=>cases ha
 |cons d l ih=>
  cases B with
  |nil=>cases hl
  |cons b B=>
   by_cases h:d.name=a
   ·exact⟨0,d,b,rfl,rfl,h,by simp[iV,bF,h]⟩
   ·rw[V6,WC] at hnn
    rw[V6,V4] at ha;obtain⟨j,d',b',h1,h2,h3,h4⟩:=ih (by simpa using hl) hnn.2 (ha.resolve_left fun e=>h e.symm);exact⟨j+1,d',b',h1,h2,h3,by simpa[iV,bF,h] using h4⟩
def dvG (_:PV):Option NM:=none
theorem BN {p:Prog} {B:List wc} (hl:B.length=p.aS.length) (hn:(B.map We).Nodup) {hs:List (ah×ah×Nat)}:Kh (de (rowsOf p.aS B hs)) (gO (iV p.aS B)) (.map .str AZ none (.map none) dvG (ba p hs)):=by
 refine .map _ _ _ _ _ _ _ _ _ _ (by simp[ba,iV,hl]) (fun j x' hx=>?_) fun M=> .v _
 obtain⟨d,hd,rfl⟩: ∃d,p.aS[j]? =some d∧x'=(d.name,some (bZ hs d.name)):=by
  unfold ba at hx;rw[VV,VW] at hx;obtain⟨d,h1,h2⟩:=hx;exact⟨d,h1,h2.symm⟩
 have hjl:j<B.length:=by rw[hl];exact(VO.1 hd).1
 refine⟨(d.name,some B[j].1), .map (some B[j].1),?_,rfl,rfl,?_⟩
 ·unfold iV
  rw[YL,hd,VS hjl]
 ·refine .map B[j].1 B[j].2 .str sE 0 (.int .i64 0) US (bZ hs d.name) ?_
  exact n9 hl hn hd (VS hjl)
theorem Ck (hS:dD) (p:Prog) (hb:p.fit):Pure Tryz.prog 50 [ag p.c] (.bM [.iv (su p),pB (decide ((bm p).1=0))]):=by
 refine az ae Tryz.func50 rfl (by decide) Tryz.ntmps50 rfl (by simp) rfl ?_;refine gA rfl (aj (c24 p hb) rfl rfl rfl rfl rfl rfl ?_);refine gA rfl ?_;refine VJ (fun k1=>?_) (fun k1=>?_)
 ·have k1: ¬(bm p).1=0:=by simpa using k1
  rw[su,if_neg k1,decide_eq_false k1];refine gA rfl (au (by first|exact .inr rfl|exact .inl rfl) rfl (.of_eq ?_));rfl
 have k1:(bm p).1=0:=by simpa using k1
 have hf:=fw k1;have hln:=hf.len;rw[su,if_pos k1,decide_eq_true k1];refine gM 1 rfl ?_;refine OY ?_;refine bO (fq ?_);refine gA rfl ?_;refine bO (bO (pF ⟨[(1, .ptr 0 0),(4, .mp 2),(20, .iv (cV 4 p.aS Decl.c)),(21,pI p.aS.length),(22,pI 0)],[(0,some (aE p.c)),(2,some (gO []))],3⟩ ?_ ?_))
 ·refine gA rfl (sr [1] ?_)
  exact wk rfl rfl rfl ⟨.refl _,rfl, .refl _,rfl, .refl _,rfl, .refl _,rfl, .refl _,rfl,trivial⟩ (hC rfl rfl rfl (Dc rfl (fun _=> .v _) rfl trivial)) rfl
 refine ft (sq 0 p.aS.length (V1 _) (fun i (x:ULift.{1} (List wc))=>⟨[(1, .ptr 0 0),(4, .mp 2),(20, .iv (cV 4 p.aS Decl.c)),(21,pI p.aS.length),(22,pI i)],[(0,some (aE p.c)),(2,some (gO (iV p.aS x.down)))],3⟩)
  (fun i x Y=>BOK p.aS i x.down∧Y=de (rowsOf p.aS x.down [])) ⟨[]⟩ [] ⟨⟨rfl,WB⟩,(yi p.aS []).symm⟩
  (wk rfl rfl rfl ⟨.refl _,rfl, .refl _,rfl, .refl _,rfl, .refl _,rfl, .refl _,rfl,trivial⟩ (hC rfl rfl rfl (hM rfl (wY p.aS).symm rfl trivial)) rfl) (fun _ _ _ h=>h.2▸fU _) fun i x Y hi hJ=>?_)
 obtain⟨hB,rfl⟩:=hJ;obtain⟨B⟩:=x;refine bO (fq ?_);refine gA rfl ?_;refine bO (oG rfl (fun h1=>oE ?_) (fun h1=>oF ?_))
 ·have h1:i<p.aS.length:=by simpa using h1
  refine bO (ft (bO (fq ?_)));refine gA rfl ?_;refine ur (qU 4 ?_);refine gA rfl ?_;refine vG (QY (i:=4) (o':=cf []) rfl (A6 eL)) fun t Y ht=>?_;obtain⟨rfl,rfl⟩:=ht;refine vG (As (i:=4) (d:=29) (fU _) rfl rfl trivial rfl) fun t Y ht=>?_;obtain⟨b,e,hbn,rfl,rfl⟩:=ht;refine qU 1 ?_;refine gA rfl ?_;refine sk (vH (fq ?_));refine gA rfl ?_;have hbn':=AB (by rw[hB.len];exact hi) hbn;exact⟨h1,⟨B++ [(b,e)]⟩,[],⟨⟨by rw[VL,hB.len];rfl,Js hB.nd hbn'⟩,(AA (by rw[hB.len];exact h1) hbn').symm⟩,wk rfl rfl rfl ⟨.refl _,rfl, .refl _,rfl, .refl _,rfl, .refl _,rfl, .refl _,rfl,trivial⟩ (hC rfl rfl rfl (hM rfl (CB hf.nodup hB.len h1) rfl trivial)) rfl⟩
 have h1:p.aS.length≤i:=by simpa using h1
 have hBl:B.length=p.aS.length:=by have:B.length=i:=hB.len;omega
 have hBn:=hB.nd
 clear hB
 have hrl:p.rules.length≤1000000000:=hb.2.1
 let G:Nat→List (ah×ah×Nat):=fun r=>(p.rules.take r).flatMap zO
 change GX _ _ [.code _] _ _ _
 refine bO (bO (pF ⟨[(1, .ptr 0 0),(4, .mp 2),(32, .iv (cV 5 p.rules aw.c)),(33,pI p.rules.length),(34,pI 0)],[(0,some (aE p.c)),(2,some (gO (iV p.aS B)))],3⟩ ?_ ?_))
 ·refine gA rfl (sr [] ?_)
  exact wk rfl rfl rfl ⟨.refl _,rfl, .refl _,rfl, .refl _,rfl, .refl _,rfl, .refl _,rfl,trivial⟩ (hC rfl rfl rfl (hM rfl rfl rfl trivial)) rfl
 refine ft (sq 0 p.rules.length (V1 _) (fun i (_:PUnit.{2})=>⟨[(1, .ptr 0 0),(4, .mp 2),(32, .iv (cV 5 p.rules aw.c)),(33,pI p.rules.length),(34,pI i)],[(0,some (aE p.c)),(2,some (gO (iV p.aS B)))],3⟩)
  (fun i _ Y=>Y=de (rowsOf p.aS B (G i))) ⟨⟩ [] rfl (wk rfl rfl rfl ⟨.refl _,rfl, .refl _,rfl, .refl _,rfl, .refl _,rfl, .refl _,rfl,trivial⟩ (hC rfl rfl rfl (hM rfl rfl rfl trivial)) rfl) (fun _ _ _ h=>h▸fU _) fun n _ Y hn hJ=>?_)
 subst hJ;refine bO (fq ?_);refine gA rfl ?_;refine bO (oG rfl (fun h1=>oE ?_) (fun h1=>oF ?_));rotate_left
 ·have h1:p.rules.length≤n:=by simpa using h1
  have hGn:G n=aC p:=by show((p.rules.take n).flatMap zO)=_;rw[VY h1];rfl
  rw[hGn]
  change GX _ _ [.code _] _ _ _
  refine Dd (B4 (i:=2) (o':= .map .str AZ none (.map none) dvG (ba p (aC p))) rfl (BN hBl hBn)) fun t Y ht=>?_;obtain⟨rfl,rfl⟩:=ht;refine fq ?_;refine gA rfl (oO (.inr rfl) rfl (hD.map 2 rfl (.done (.refl _))))
 have h1:n<p.rules.length:=by simpa using h1
 have hR:p.rules.getD n default∈p.rules:=bp h1;have hG1:G (n+1)=G n++zO (p.rules.getD n default):=by show((p.rules.take (n+1)).flatMap zO)=_;rw[aY h1,XM];simp;rfl
 have hfit:=hb.2.2 _ hR;have hszR:=hfit.1;have hhead:=hf.zN _ hR;have hlits:=hf.lits _ hR;generalize hRe:p.rules.getD n default=R at hR hG1 hfit hszR hhead hlits;refine bO (ft (bO (fq ?_)));refine gA rfl ?_;refine bO (pF ⟨[(1, .ptr 0 0),(4, .mp 2),(8, .ptr 3 0),(32, .iv (cV 5 p.rules aw.c)),(33,pI p.rules.length),(34,pI n),(39, .iv (lits R.body)),(40,pI R.body.length),(41,pI 0)],[(0,some (aE p.c)),(2,some (gO (iV p.aS B))),(3,some (aE R.c))],4⟩ ?_ ?_)
 ·refine gA rfl (sr [] ?_)
  subst hRe;exact wk rfl rfl rfl ⟨.refl _,rfl, .refl _,rfl, .refl _,rfl, .refl _,rfl, .refl _,rfl, .refl _,rfl, .refl _,rfl, .refl _,rfl, .refl _,rfl,trivial⟩ (hC rfl rfl rfl (hM rfl rfl rfl (hC rfl rfl rfl trivial))) rfl
 have hbl:R.body.length≤10000000:=by have:=Lit.aI R.body;unfold aw.size at hszR;omega
 refine ft (sq 0 R.body.length (V1 _) (fun i (_:PUnit.{2})=>⟨[(1, .ptr 0 0),(4, .mp 2),(8, .ptr 3 0),(32, .iv (cV 5 p.rules aw.c)),(33,pI p.rules.length),(34,pI n),(39, .iv (lits R.body)),(40,pI R.body.length),(41,pI i)],[(0,some (aE p.c)),(2,some (gO (iV p.aS B))),(3,some (aE R.c))],4⟩)
  (fun i _ Y=>Y=de (rowsOf p.aS B (G n++(R.body.take i).flatMap (oD R)))) ⟨⟩ [] (by simp) (wk rfl rfl rfl ⟨.refl _,rfl, .refl _,rfl, .refl _,rfl, .refl _,rfl, .refl _,rfl, .refl _,rfl, .refl _,rfl, .refl _,rfl, .refl _,rfl,trivial⟩ (hC rfl rfl rfl (hM rfl rfl rfl (hC rfl rfl rfl trivial))) rfl) (fun _ _ _ h=>h▸fU _) fun i _ Y hi2 hJ=>?_)
 subst hJ;refine bO (fq ?_);refine gA rfl ?_;refine bO (oG rfl (fun h2=>oE ?_) (fun h2=>oF ?_));rotate_left
 ·have h2:R.body.length≤i:=by simpa using h2
  rw[VY h2,show G n++R.body.flatMap (oD R)=G (n+1) from hG1.symm]
  change GX _ _ (.code _::_) _ _ _
  refine fq ?_;refine gA rfl ?_;exact⟨h1,⟨⟩,[],rfl,wk rfl rfl rfl ⟨.refl _,rfl, .refl _,rfl, .refl _,rfl, .refl _,rfl, .refl _,rfl,trivial⟩ (hC rfl rfl rfl (hM rfl rfl rfl trivial)) rfl⟩
 have h2:i<R.body.length:=by simpa using h2
 have hl:R.body.getD i default∈R.body:=bp h2;have hT1:(R.body.take (i+1)).flatMap (oD R)=(R.body.take i).flatMap (oD R)++oD R (R.body.getD i default):=by rw[aY h2,XM];simp
 have hszl:(R.body.getD i default).size≤10000000:=by have:=Lit.bS R.body i h2;unfold aw.size at hszR;omega
 have hlit:=hlits _ hl;generalize hle:R.body.getD i default=l at hl hT1 hszl hlit;refine bO (ft (bO (fq ?_)));refine gA rfl ?_;refine bO (pF ⟨[(1, .ptr 0 0),(4, .mp 2),(8, .ptr 3 0),(10, .ptr 4 0),(32, .iv (cV 5 p.rules aw.c)),(33,pI p.rules.length),(34,pI n),(39, .iv (lits R.body)),(40,pI R.body.length),(41,pI i),(46, .iv (strs (named l))),(47,pI (named l).length),(48,pI 0)],[(0,some (aE p.c)),(2,some (gO (iV p.aS B))),(3,some (aE R.c)),(4,some (aE l.c))],5⟩ ?_ ?_)
 ·subst hle
  refine gA rfl (aj (zk (R.body.getD i default) (by omega)) rfl rfl rfl rfl rfl rfl ?_);refine gA rfl (sr [] ?_);exact wk rfl rfl rfl ⟨.refl _,rfl, .refl _,rfl, .refl _,rfl, .refl _,rfl, .refl _,rfl, .refl _,rfl, .refl _,rfl, .refl _,rfl, .refl _,rfl, .refl _,rfl, .refl _,rfl, .refl _,rfl, .refl _,rfl,trivial⟩ (hC rfl rfl rfl (hM rfl rfl rfl (hC rfl rfl rfl (hC rfl rfl rfl trivial)))) rfl
 have hnl:=ke l
 refine ft (sq 0 (named l).length (V1 _) (fun k (_:PUnit.{2})=>⟨[(1, .ptr 0 0),(4, .mp 2),(8, .ptr 3 0),(10, .ptr 4 0),(32, .iv (cV 5 p.rules aw.c)),(33,pI p.rules.length),(34,pI n),(39, .iv (lits R.body)),(40,pI R.body.length),(41,pI i),(46, .iv (strs (named l))),(47,pI (named l).length),(48,pI k)],[(0,some (aE p.c)),(2,some (gO (iV p.aS B))),(3,some (aE R.c)),(4,some (aE l.c))],5⟩)
  (fun k _ Y=>Y=de (rowsOf p.aS B ((G n++(R.body.take i).flatMap (oD R))++((named l).take k).map fun t=>(R.head.rel,t,iD l)))) ⟨⟩ [] (by simp) (wk rfl rfl rfl ⟨.refl _,rfl, .refl _,rfl, .refl _,rfl, .refl _,rfl, .refl _,rfl, .refl _,rfl, .refl _,rfl, .refl _,rfl, .refl _,rfl, .refl _,rfl, .refl _,rfl, .refl _,rfl, .refl _,rfl,trivial⟩ (hC rfl rfl rfl (hM rfl rfl rfl (hC rfl rfl rfl (hC rfl rfl rfl trivial)))) rfl) (fun _ _ _ h=>h▸fU _) fun k _ Y hk hJ=>?_)
 subst hJ;refine bO (fq ?_);refine gA rfl ?_;refine bO (oG rfl (fun h3=>oE ?_) (fun h3=>oF ?_));rotate_left
 ·have h3:(named l).length≤k:=by simpa using h3
  have eX:(G n++(R.body.take i).flatMap (oD R))++(named l).map (fun t=>(R.head.rel,t,iD l))=G n++(R.body.take (i+1)).flatMap (oD R):=by rw[VU,hT1];rfl
  rw[VY h3,eX]
  change GX _ _ (.code _::_) _ _ _
  refine fq ?_;refine gA rfl ?_;exact⟨h2,⟨⟩,[],rfl,wk rfl rfl rfl ⟨.refl _,rfl, .refl _,rfl, .refl _,rfl, .refl _,rfl, .refl _,rfl, .refl _,rfl, .refl _,rfl, .refl _,rfl, .refl _,rfl,trivial⟩ (hC rfl rfl rfl (hM rfl rfl rfl (hC rfl rfl rfl trivial))) rfl⟩
 have h3:k<(named l).length:=by simpa using h3
 obtain⟨j,d,b,hd,hbj,hdn,hlk⟩:=Rl hBl hf.nodup hhead;have hX:=n9 (hs:=(G n++(R.body.take i).flatMap (oD R))++((named l).take k).map fun t=>(R.head.rel,t,iD l)) hBl hBn hd hbj;have hst:=Az (hs:=(G n++(R.body.take i).flatMap (oD R))++((named l).take k).map fun t=>(R.head.rel,t,iD l)) (t:=(named l).getD k default) (h:=iD l) hBl hBn hf.nodup hd hbj;rw[hdn] at hX hst
 have hs2:((G n++(R.body.take i).flatMap (oD R))++((named l).take k).map fun t=>(R.head.rel,t,iD l))++ [(R.head.rel,(named l).getD k default,iD l)]=(G n++(R.body.take i).flatMap (oD R))++((named l).take (k+1)).map fun t=>(R.head.rel,t,iD l):=by
  rw[aY h3,VN,VU];rfl
 rw[hs2] at hst;generalize(G n++(R.body.take i).flatMap (oD R))++((named l).take k).map (fun t=>(R.head.rel,t,iD l))=hs at hX hst;refine bO (ft (bO (fq ?_)));refine gA rfl ?_;refine bO (fq ?_);refine gA rfl ?_;refine bO (pF ⟨[(1, .ptr 0 0),(4, .mp 2),(8, .ptr 3 0),(10, .ptr 4 0),(32, .iv (cV 5 p.rules aw.c)),(33,pI p.rules.length),(34,pI n),(39, .iv (lits R.body)),(40,pI R.body.length),(41,pI i),(46, .iv (strs (named l))),(47,pI (named l).length),(48,pI k),(12,pS ((named l).getD k default)),(13,pI (iD l))],[(0,some (aE p.c)),(2,some (gO (iV p.aS B))),(3,some (aE R.c)),(4,some (aE l.c))],5⟩ ?_ ?_)
 ·refine gA rfl ?_
  refine VJ (fun h4=>?_) (fun h4=>?_)
  ·have h4:l.kind=1:=of_decide_eq_true h4
   refine gA rfl (sr [] ?_);exact wk rfl rfl rfl ⟨.refl _,rfl, .refl _,rfl, .refl _,rfl, .refl _,rfl, .refl _,rfl, .refl _,rfl, .refl _,rfl, .refl _,rfl, .refl _,rfl, .refl _,rfl, .refl _,rfl, .refl _,rfl, .refl _,rfl, .refl _,rfl, .of_eq (by rw[iD,if_pos h4];rfl),rfl,trivial⟩ (hC rfl rfl rfl (hM rfl rfl rfl (hC rfl rfl rfl (hC rfl rfl rfl trivial)))) rfl
  ·have h4: ¬l.kind=1:=of_decide_eq_false h4
   refine gA rfl (sr [] ?_);exact wk rfl rfl rfl ⟨.refl _,rfl, .refl _,rfl, .refl _,rfl, .refl _,rfl, .refl _,rfl, .refl _,rfl, .refl _,rfl, .refl _,rfl, .refl _,rfl, .refl _,rfl, .refl _,rfl, .refl _,rfl, .refl _,rfl, .refl _,rfl, .of_eq (by rw[iD,if_neg h4];rfl),rfl,trivial⟩ (hC rfl rfl rfl (hM rfl rfl rfl (hC rfl rfl rfl (hC rfl rfl rfl trivial)))) rfl
 refine ur (qU 12 ?_);refine gA rfl ?_;refine vG (Ar (d:=65) hX (show PV.iv (.v (.map (bF .str (iV p.aS B) R.head.rel none)))=_ by rw[hlk])) fun t Y ht=>?_;obtain⟨rfl,rfl⟩:=ht;refine vG (B5 (b:=b.1) (j:=5) (e:=b.2) (d:=59) (p:= .mp 5) (aX.eC _ _ _) fun M N U x hu hb2 _ hv=>?_) fun t Y ht=>?_
 ·have hv:VR M N U (PV.iv (.v (.map (bF .str (iV p.aS B) R.head.rel none)))) x:=hv
  rw[hlk] at hv
  cases hv with
  |iv _ _ hi=>cases hi with
   |v=>rw[←hb2];exact .mp 5 hu
 obtain⟨rfl,rfl⟩:=ht;refine qU 4 ?_;refine gA rfl ?_;refine sk (vH (Dd (T1 (b:=b.1) (e:=b.2) (i:=5) (o:=cf (y4 (bZ hs R.head.rel) ((named l).getD k default) (iD l))) (aX.eC _ _ _) rfl rfl trivial) fun t Y ht=>?_));obtain⟨rfl,rfl⟩:=ht;rw[aX.Jg];refine fq ?_;refine gA rfl ?_;exact⟨h3,⟨⟩,[],hst,wk rfl rfl rfl ⟨.refl _,rfl, .refl _,rfl, .refl _,rfl, .refl _,rfl, .refl _,rfl, .refl _,rfl, .refl _,rfl, .refl _,rfl, .refl _,rfl, .refl _,rfl, .refl _,rfl, .refl _,rfl, .refl _,rfl,trivial⟩ (hC rfl rfl rfl (hM rfl rfl rfl (hC rfl rfl rfl (hC rfl rfl rfl trivial)))) rfl⟩
end Go.Proofs.YtflegjieadkonaaGreatDoor
namespace Go.Proofs.YtflegjieadkonaaGreatDoor
open Go Go.Al Go.Tj
set_option maxRecDepth 10000
def nA (e:Option ah) (i:Nat) (l:List ah):PV:=match e,l with
 |some _,[]=> .sl i 1 0 1
 |_,l=> .sl i 0 l.length 1
def nB (e:Option ah) (l:List ah):AO:=match e,l with
 |some y,[]=> .row 1 [[pS y]]
 |_,l=>a7 1 l ch
theorem jY (σ:Nat→Nat) (e:Option ah) (i:Nat) (l:List ah):(nA e i l).cN σ=nA e (σ i) l:=by cases e<;>cases l<;>rfl
theorem jZ (σ:Nat→Nat) (e:Option ah) (l:List ah):(nB e l).cN σ=nB e l:=by
 cases e<;>cases l<;>first|rfl|exact cj σ
theorem wz {n i:Nat} (h:Wg i n=true) (e:Option ah) (l:List ah):(nA e i l).low n=true:=by cases e<;>cases l<;>exact h
theorem wC (n:Nat) (e:Option ah) (l:List ah):(nB e l).low n:=by
 cases e with
 |none=>exact dT n
 |some y=>
  cases l with
  |nil=>
   intro k e he
   cases k with
   |zero=>cases he;rfl
   |succ k=>cases he
  |cons=>exact dT n
theorem wy {e:Option ah} {i:Nat} {l:List ah} (h:e=none∨l≠ []):nA e i l= .sl i 0 l.length 1:=by
 cases e with
 |none=>rfl
 |some y=>cases l with
  |nil=>exact absurd rfl (h.resolve_left (by simp))
  |cons=>rfl
theorem wA {e:Option ah} {l:List ah} (h:e=none∨l≠ []):nB e l=a7 1 l ch:=by
 cases e with
 |none=>rfl
 |some y=>cases l with
  |nil=>exact absurd rfl (h.resolve_left (by simp))
  |cons=>rfl
structure TW where
 low:NM
 on:NM
 ring:NM
 stack:List ah
 qJ:Option ah
def TW.st (w:TW):St ah:=⟨fun a=>bF .str w.low a 0,fun a=>bF .str w.on a 0,fun a=>bF .str w.ring a 0,w.low.length,w.stack⟩
structure TW.Ok (V:List ah) (w:TW):Prop where
 nz: ∀a∈w.low.map We,bF .str w.low a 0≠0
 nd:(w.low.map We).Nodup
 sub: ∀a∈w.low.map We,a∈V
abbrev wj:PV:= .cH (.func 92) [] [.ptr 0 0, .ptr 1 0, .ptr 2 0, .ptr 3 0, .ptr 4 0, .ptr 5 0]
abbrev tO (G:IV) (w:TW):List AO:=[.cells [.mp 6], .cells [.mp 7], .cells [nA w.qJ 9 w.stack], .cells [.iv G], .cells [wj], .cells [.mp 8],cf w.low,cf w.on,cf w.ring,nB w.qJ w.stack]
abbrev tH (G:IV) (w:TW) (k:Nat):AH:=[(0,some (.cells [.mp 6])),(1,some (.cells [.mp 7])),(2,some (.cells [nA w.qJ k w.stack])),(3,some (.cells [.iv G])),(4,some (.cells [wj])),(5,some (.cells [.mp 8])),
 (6,some (cf w.low)),(7,some (cf w.on)),(8,some (cf w.ring)),(k,some (nB w.qJ w.stack))]
theorem rh {n k:Nat} {σ:Nat→Nat} {h:AH} {G:IV} {w:TW} {q2:PV} {l6 l7 l8:NM} {o:AO} (b:X0 9 n=true) (bk:Wg k n=true) (hs: ∀i,i<9→σ i=i)
  (g0:h.get 0=some (.cells [.mp 6])) (g1:h.get 1=some (.cells [.mp 7])) (g2:h.get 2=some (.cells [q2])) (g3:h.get 3=some (.cells [.iv G])) (g4:h.get 4=some (.cells [wj])) (g5:h.get 5=some (.cells [.mp 8]))
  (g6:h.get 6=some (cf l6)) (g7:h.get 7=some (cf l7)) (g8:h.get 8=some (cf l8)) (g9:h.get (σ k)=some o)
  (e2:q2=nA w.qJ (σ k) w.stack) (e6:l6=w.low) (e7:l7=w.on) (e8:l8=w.ring) (e9:eP o (nB w.qJ w.stack)):tx n σ h (tH G w k):=by
 have b9:=VI b;have bk:=VI bk;have hb: ∀i,i<9→Wg i n=true:=fun i hi=>WH (by omega);subst e2 e6 e7 e8;have r: ∀i,i<9→PV.mp (σ i)=PV.mp i:=fun i hi=>by rw[hs i hi]
 have rp: ∀i,i<9→PV.ptr (σ i) 0=PV.ptr i 0:=fun i hi=>by rw[hs i hi]
 have lm: ∀i,i<9→bz n [PV.mp i]=true:=fun i hi=>by simp only[bz,PV.low,hb i hi]
 refine⟨⟨_,by rw[hs 0 (by omega)];exact g0, .of_eq (by simp only[AO.cN,dF,PV.cN,r 6 (by omega)])⟩,by omega,lm 6 (by omega),
  ⟨_,by rw[hs 1 (by omega)];exact g1, .of_eq (by simp only[AO.cN,dF,PV.cN,r 7 (by omega)])⟩,by omega,lm 7 (by omega),
  ⟨_,by rw[hs 2 (by omega)];exact g2, .of_eq (by simp only[AO.cN,dF,jY])⟩,by omega,by simp only[AO.low,bz,wz (WH bk)],
  ⟨_,by rw[hs 3 (by omega)];exact g3, .of_eq rfl⟩,by omega,rfl,
  ⟨_,by rw[hs 4 (by omega)];exact g4, .of_eq (by simp only[AO.cN,dF,PV.cN,rp 0 (by omega),rp 1 (by omega),rp 2 (by omega),rp 3 (by omega),rp 4 (by omega),rp 5 (by omega)])⟩,by omega,by simp only[AO.low,bz,PV.low,hb 0 (by omega),hb 1 (by omega),hb 2 (by omega),hb 3 (by omega),hb 4 (by omega),hb 5 (by omega)],
  ⟨_,by rw[hs 5 (by omega)];exact g5, .of_eq (by simp only[AO.cN,dF,PV.cN,r 8 (by omega)])⟩,by omega,lm 8 (by omega),
  ⟨_,by rw[hs 6 (by omega)];exact g6, .of_eq rfl⟩,by omega,trivial,
  ⟨_,by rw[hs 7 (by omega)];exact g7, .of_eq rfl⟩,by omega,trivial,
  ⟨_,by rw[hs 8 (by omega)];exact g8, .of_eq rfl⟩,by omega,trivial,
  ⟨_,g9,by rw[jZ];exact e9⟩,bk,wC _ _ _,trivial⟩
theorem u0 (m:NM) (b:ah) (v:Int):(fun x=>bF .str (bQ .str m b v) x 0)=uS (fun x=>bF .str m x 0) b v:=by
 funext x
 rw[fZ,uS];by_cases h:b=x
 ·rw[if_pos h,if_pos h.symm]
 ·rw[if_neg h,if_neg fun e=>h e.symm]
def TW.push (w:TW) (a:ah):TW:=⟨bQ .str w.low a ((w.low.length:Int)+1),bQ .str w.on a 1,w.ring,w.stack++ [a],none⟩
theorem TW.key {V:List ah} {w:TW} (h:w.Ok V) {a:ah} (h0:w.st.low a=0):a∉w.low.map We:=fun g=>h.nz a g h0
theorem p6 {m:NM} {a:ah} {v:Int} (h:a∉m.map We):(bQ .str m a v).length=m.length+1:=by
 have:=congrArg List.length (df (v:=v) h);simpa using this
theorem TW.Ji {V:List ah} {w:TW} (h:w.Ok V) {a:ah} (h0:w.st.low a=0):(w.push a).st=Go.Tj.push w.st a:=
 St.eq (u0 _ _ _) (u0 _ _ _) rfl (p6 (TW.key h h0)) rfl
theorem TW.Jj {V:List ah} {w:TW} (h:w.Ok V) {a:ah} (h0:w.st.low a=0) (ha:a∈V):(w.push a).Ok V:=by
 have hk:=TW.key h h0;refine⟨fun x hx=>?_,?_,fun x hx=>?_⟩
 ·show bF .str (bQ .str w.low a _) x 0≠0
  rw[fZ];split
  ·omega
  ·rename_i hne
   have hx:x∈(bQ .str w.low a ((w.low.length:Int)+1)).map We:=hx;rw[df hk,V3,VX] at hx;exact h.nz x (hx.resolve_right fun e=>hne e.symm)
 ·show((bQ .str w.low a _).map We).Nodup
  rw[df hk,W8];exact⟨h.nd,by simp,fun u hu v hv e=>hk (by rw[VX] at hv;subst e;subst hv;exact hu)⟩
 ·have hx:x∈(bQ .str w.low a ((w.low.length:Int)+1)).map We:=hx
  rw[df hk,V3,VX] at hx;rcases hx with hx|rfl
  ·exact h.sub x hx
  ·exact ha
theorem TW.len {V:List ah} {w:TW} (h:w.Ok V):w.low.length≤V.length:=by
 have:=WJ h.nd (l₂:=V) h.sub;simpa using this
theorem TW.tK {V:List ah} {w:TW} (h:w.Ok V) {succ:ah→List ah} {path:List ah} (hI:Inv succ path w.st):w.stack.length≤V.length:=by
 refine WJ (l₂:=V) ?_ fun y hy=>?_
 ·refine YV ?_ hI.R5
  intro x y hxy e;subst e;omega
 ·have h1:=(hI.tK y).2 hy
  have h2:w.st.low y≠0:=rN hI h1;refine h.sub y (Xa fun hc=>h2 (yD hc))
def TW.pop (w:TW) (u:List ah) (b:ah) (mine:Int):TW:=⟨w.low,bQ .str w.on b 2,bQ .str w.ring b mine,u,some b⟩
theorem TW.CE {w:TW} {u:List ah} {b:ah} (h:w.stack=u++ [b]) (mine:Int):(w.pop u b mine).st=vg mine w.st:=by
 have h1:w.st.stack.getLast? =some b:=by show w.stack.getLast? =_;rw[h];simp
 have h2:w.st.stack.dropLast=u:=by show w.stack.dropLast=_;rw[h];simp
 unfold vg;rw[h1];exact St.eq rfl (u0 _ _ _) (u0 _ _ _) rfl h2.symm
theorem TW.Rp {V:List ah} {w:TW} (h:w.Ok V) (u:List ah) (b:ah) (mine:Int):(w.pop u b mine).Ok V:=⟨h.nz,h.nd,h.sub⟩
theorem OP (hS:dD) {p:Prog} (hf:hP p) (hl:(aC p).length≤100000000) (a:ah):Pure Tryz.prog 52 [.iv (nY (bZ (aC p) a))] (.iv (strs (aQ p a))):=by
 rw[←jy hf];exact Cg hS _ (Wh (Cr _ _) hl)
abbrev Sc (a:ah):List PV:=[pS a, .ptr 0 0, .ptr 1 0, .ptr 2 0, .ptr 3 0, .ptr 4 0, .ptr 5 0]
abbrev vF (a:ah):AF:=[(0,pS a),(1, .ptr 0 0),(2, .ptr 1 0),(3, .ptr 2 0),(4, .ptr 3 0),(5, .ptr 4 0),(6, .ptr 5 0)]
def RZ (p:Prog) (f:Nat):Prop:= ∀(path:List ah) (a:ah) (w:TW),w.Ok (ns p)→Inv (aQ p) path w.st→w.st.low a=0→a∈ns p→(∀g∈path,ky (aQ p) g a)→iN (ns p) w.st≤f→
 Go.Al.Fn Tryz.prog 92 (Sc a) (tO (mG (ba p (aC p))) w) fun r h n=> ∃w':TW,w'.Ok (ns p)∧w'.st=(dx (aQ p) f a w.st).2∧r=pI (dx (aQ p) f a w.st).1∧h=tH (mG (ba p (aC p))) w' 10∧n=11
theorem lY (p:Prog) (hs:List (ah×ah×Nat)) {a:ah} (h:a∈p.aS.map Decl.name):(AZ (bF .str (ba p hs) a none)).pv= .iv (nY (bZ hs a)):=by rw[Df p hs h];rfl
theorem QW (G:IV) (w:TW) {n:Nat}:[some (AO.cells [PV.mp 6]),some (.cells [.mp 7]),some (.cells [nA w.qJ 11 w.stack]),some (.cells [.iv G]),some (.cells [wj]),some (.cells [.mp 8]),some (cf w.low),some (cf w.on),some (cf w.ring),some (nB w.qJ w.stack)]=
  (tO G w).map fun o=>some (o.cN (sig [0,1,2,3,4,5,6,7,8,11] n)):=by
 have h1:=jY (sig [0,1,2,3,4,5,6,7,8,11] n) w.qJ 9 w.stack;have h2:=jZ (sig [0,1,2,3,4,5,6,7,8,11] n) w.qJ w.stack;show _=[some (AO.cells [PV.mp 6]),some (.cells [.mp 7]),some (.cells [(nA w.qJ 9 w.stack).cN (sig [0,1,2,3,4,5,6,7,8,11] n)]),some (.cells [.iv G]),some (.cells [wj]),some (.cells [.mp 8]),some (cf w.low),some (cf w.on),some (cf w.ring),some ((nB w.qJ w.stack).cN (sig [0,1,2,3,4,5,6,7,8,11] n))]
 rw[h1,h2];rfl
theorem B7 (u:List ah) (b:ah):((u++ [b]).map fun x=>(ch x).map PV.iv)[0+((((u.length+1:Nat):Int)-1).toNat)]? =some [pS b]:=by
 rw[Wn,show(((u.length+1:Nat):Int)-1).toNat=u.length by omega];simp[ch]
theorem B8 (i:Nat) (u:List ah) (b:ah):(u.length=0∧nA (some b) i u= .sl i 1 0 1)∨(0<u.length∧nA (some b) i u= .sl i 0 u.length 1):=by
 cases u with
 |nil=>exact .inl ⟨rfl,rfl⟩
 |cons x r=>exact .inr ⟨by simp,rfl⟩
theorem wB (u:List ah) (b:ah):eP (a7 1 (u++ [b]) ch) (nB (some b) u):=by
 cases u with
 |nil=>exact .of_eq rfl
 |cons x r=>
  have e:nB (some b) (x::r)= .row 1 (((x::r++ [b]).map fun y=>(ch y).map PV.iv).take (x::r).length):=by
   rw[←List.map_take,List.take_left];rfl
  rw[e];exact .take
theorem qL {p:Prog}: ∀a∈ns p,∀b∈aQ p a,b∈ns p:=fun _ _ _ h=>(Wi.1 h).1
theorem lN {p:Prog} (hf:hP p):(ns p).length≤64:=by
 have:=hf.len;rw[ns,gr,Wr];exact this
theorem BL (hS:dD) {p:Prog} (hf:hP p) (hl:(aC p).length≤100000000) (f:Nat) (ih:RZ p f):RZ p (f+1):=by
 intro path a w hok hI h0 haV hp hw;have hn64:=lN hf;have hwp:=jw hI.lv haV h0;have hlen:=TW.len hok;have hstk:=TW.tK hok hI;have hadj:a∈p.aS.map Decl.name:=by rw[ns,cJ] at haV;exact haV
 have hst:=TW.Ji hok h0;have hok1:=TW.Jj hok h0 haV;have hsl:=WR (eg p a) (ns p);refine sB ae Tryz.func92 rfl (by decide) Tryz.ntmps92 rfl (by simp) ?_;refine go_cut 6 (fun _:Unit=>⟨(9,pI ((w.low.length:Int)+1))::(10,pI ((w.low.length:Int)+1))::vF a,tH (mG (ba p (aC p))) (w.push a) 10,11⟩) rfl ?_ ?_
 ·have hlk:bF .str (bQ .str w.low a ((w.low.length:Int)+1)) a 0=(w.low.length:Int)+1:=by rw[fZ,if_pos rfl]
  by_cases hu:w.qJ=none∨w.stack≠ []
  ·rw[show tO (mG (ba p (aC p))) w=[.cells [.mp 6], .cells [.mp 7], .cells [.sl 9 0 w.stack.length 1], .cells [.iv (mG (ba p (aC p)))], .cells [wj], .cells [.mp 8],cf w.low,cf w.on,cf w.ring,a7 1 w.stack ch] by
    unfold tO;rw[wy hu,wA hu]]
   refine gA rfl (vR () [11] ?_)
   exact wk rfl rfl rfl ⟨.of_eq (congrArg pI hlk),rfl, .of_eq (congrArg pI hlk),rfl, .refl _,rfl, .refl _,rfl, .refl _,rfl, .refl _,rfl, .refl _,rfl, .refl _,rfl, .refl _,rfl,trivial⟩
    (rh (w:=w.push a) rfl rfl (fun i hi=>eW (by show i<10;omega)) rfl rfl rfl rfl rfl rfl rfl rfl rfl rfl (by show _=PV.sl 11 0 (w.stack++ [a]).length 1;rw[VL];rfl) rfl rfl rfl (.of_eq (by show _=a7 1 (w.stack++ [a]) ch;rw[a7,VN];rfl))) rfl
  ·obtain⟨y,hy,hs0⟩: ∃y,w.qJ=some y∧w.stack=[]:=by
    cases hg:w.qJ with
    |none=>exact absurd (.inl hg) hu
    |some y=>exact⟨y,rfl,Xa fun h=>hu (.inr h)⟩
   rw[show tO (mG (ba p (aC p))) w=[.cells [.mp 6], .cells [.mp 7], .cells [.sl 9 1 0 1], .cells [.iv (mG (ba p (aC p)))], .cells [wj], .cells [.mp 8],cf w.low,cf w.on,cf w.ring, .row 1 [[pS y]]] by
    unfold tO;rw[hy,hs0];rfl]
   refine gA rfl (vK ae rfl rfl rfl rfl rfl rfl rfl rfl rfl (by simp) (by simp) (js rfl) rfl ?_);refine gA rfl (vR () [11] ?_)
   exact wk rfl rfl rfl ⟨.of_eq (congrArg pI hlk),rfl, .of_eq (congrArg pI hlk),rfl, .refl _,rfl, .refl _,rfl, .refl _,rfl, .refl _,rfl, .refl _,rfl, .refl _,rfl, .refl _,rfl,trivial⟩
    (rh (w:=w.push a) rfl rfl (fun i hi=>eW (by show i<10;omega)) rfl rfl rfl rfl rfl rfl rfl rfl rfl rfl (by show _=PV.sl 11 0 (w.stack++ [a]).length 1;rw[hs0];rfl) rfl rfl rfl (.of_eq (by show _=a7 1 (w.stack++ [a]) ch;rw[hs0];rfl))) rfl
 intro _;have hi:=w6 hI h0 hp;rw[←hst] at hwp hi
 have hm:((w.push a).low.length:Int)=(w.low.length:Int)+1:=by
  have:=p6 (v:=(w.low.length:Int)+1) (TW.key hok h0);show(((bQ .str w.low a _).length:Nat):Int)=_;rw[this];omega
 have la:(w.push a).st.low a=(w.st.n:Int)+1:=by rw[hst];exact iO _ _ _
 have oa:(w.push a).st.on a=1:=by rw[hst];exact iO _ _ _
 have hL0:eh (aQ p) path a w.st [] ((w.st.n:Int)+1,Go.Tj.push w.st a) []:=
  ⟨hst▸hi, .refl _,rfl,fun y hy=>(nomatch hy),XB _,fun y hy=>(nomatch hy),fun z hz=>(nomatch hz),fun z hz=>(nomatch hz),⟨a,hst▸oa,hst▸la, .refl _⟩⟩
 have hpost:=fun pa b s=>nu (succ:=aQ p) qL f pa b s
 let qf:Nat→Int×St ah:=fun i=>((aQ p a).take i).foldl (Go.Tj.n7 (dx (aQ p) f)) ((w.st.n:Int)+1,Go.Tj.push w.st a)
 have hloop: ∀i,∃t,eh (aQ p) path a w.st ((aQ p a).take i) (qf i) t:=fun i=>by
  have:=pt qL hpost hI h0 haV (by rw[←hst];omega) ((aQ p a).take i) [] _ [] hL0 fun b hb=>YP hb;rwa[XJ] at this
 refine gM 5 rfl (oH ae (.iv (nY (bZ (aC p) a))) rfl rfl rfl rfl (lY p _ hadj) rfl ?_);refine gA rfl (aj (OP hS hf hl a) rfl rfl rfl rfl rfl rfl ?_);refine gA rfl ?_
 refine gf 0 (aQ p a).length (V1 _) (fun i w2=>⟨(9,pI ((w.low.length:Int)+1))::(10,pI (qf i).1)::(32, .iv (strs (aQ p a)))::(33,pI (aQ p a).length)::(34,pI i)::vF a,tH (mG (ba p (aC p))) w2 11,12⟩)
  (fun i w2=>w2.Ok (ns p)∧w2.st=(qf i).2) (w.push a) [10] ⟨hok1,hst⟩
  (wk rfl rfl rfl ⟨.refl _,rfl, .refl _,rfl, .refl _,rfl, .refl _,rfl, .refl _,rfl, .refl _,rfl, .refl _,rfl, .refl _,rfl, .refl _,rfl, .refl _,rfl, .refl _,rfl, .refl _,rfl,trivial⟩
   (rh rfl rfl (fun i hi=>eW (by show i<11;omega)) rfl rfl rfl rfl rfl rfl rfl rfl rfl rfl rfl rfl rfl rfl (.refl _)) rfl) fun i w2 hi2 hJ=>?_
 obtain⟨hok2,hst2⟩:=hJ;obtain⟨t2,hL2⟩:=hloop i;have hln2:(aQ p a).length≤64:=Wh hsl hn64;refine gA rfl ?_;refine VJ (fun h1=>?_) (fun h1=>?_)
 ·have h1:i<(aQ p a).length:=by simpa using h1
  have hq1:qf (i+1)=Go.Tj.n7 (dx (aQ p) f) (qf i) ((aQ p a).getD i default):=c8 h1;have hb:((aQ p a).getD i default)∈aQ p a:=bp h1
  have hstep:Go.Tj.n7 (dx (aQ p) f) (qf i) ((aQ p a).getD i default)=if w2.st.low ((aQ p a).getD i default)=0 then(min (qf i).1 (dx (aQ p) f ((aQ p a).getD i default) w2.st).1,(dx (aQ p) f ((aQ p a).getD i default) w2.st).2)
    else if w2.st.on ((aQ p a).getD i default)=1 then(min (qf i).1 (w2.st.low ((aQ p a).getD i default)),w2.st) else(qf i):=by rw[hst2];rfl
  refine gA rfl ?_;refine VJ (fun h2=>?_) (fun h2=>?_)
  ·have h2:w2.st.low ((aQ p a).getD i default)=0:=of_decide_eq_true h2
   rw[if_pos h2] at hstep
   have hreach: ∀g∈path++ [a],ky (aQ p) g ((aQ p a).getD i default):=by
    intro g hg;have hoa2:(qf i).2.on a=1:=(hL2.inv.tK a).2 (by rw[hL2.stack];simp);refine .step (hL2.inv.dn g hg a hoa2 ?_) hb;rcases V3.1 hg with e|e
    ·have:=hL2.pa hI h0 g e;omega
    ·rw[VX] at e;rw[e];exact XB _
   have hwh:iN (ns p) w2.st≤f:=by
    have:=tA (V:=ns p) hL2.le;rw[hst2];rw[hst] at hwp;omega
   refine gA rfl (xF [0,1,2,3,4,5,6,7,8,11] (ih (path++ [a]) ((aQ p a).getD i default) w2 hok2 (hst2▸hL2.inv) h2 (qL a haV ((aQ p a).getD i default) hb) hreach hwh) rfl rfl rfl rfl rfl (QW _ _) rfl ?_)
   rintro r h' n' ⟨w3,hok3,hst3,rfl,rfl,rfl⟩
   refine⟨_,rfl,?_⟩;refine gA rfl ?_;exact⟨h1,w3,[12],⟨hok3,by rw[hq1,hstep];exact hst3⟩,wk rfl rfl rfl ⟨.refl _,rfl, .of_eq (by rw[hq1,hstep];rfl),rfl, .refl _,rfl, .refl _,rfl, .refl _,rfl, .refl _,rfl, .refl _,rfl, .refl _,rfl, .refl _,rfl, .refl _,rfl, .refl _,rfl, .refl _,rfl,trivial⟩ (rh rfl rfl (fun i hi=>eW (by show i<11;omega)) rfl rfl rfl rfl rfl rfl rfl rfl rfl rfl (jY _ _ _ _) rfl rfl rfl (.of_eq (jZ _ _ _))) rfl⟩
  ·have h2: ¬w2.st.low ((aQ p a).getD i default)=0:=of_decide_eq_false h2
   rw[if_neg h2] at hstep;refine gA rfl ?_;refine VJ (fun h3=>?_) (fun h3=>?_)
   ·have h3:w2.st.on ((aQ p a).getD i default)=1:=of_decide_eq_true h3
    rw[if_pos h3] at hstep;refine gA rfl ?_;exact⟨h1,w2,[11],⟨hok2,by rw[hq1,hstep]⟩,wk rfl rfl rfl ⟨.refl _,rfl, .of_eq (by rw[hq1,hstep];rfl),rfl, .refl _,rfl, .refl _,rfl, .refl _,rfl, .refl _,rfl, .refl _,rfl, .refl _,rfl, .refl _,rfl, .refl _,rfl, .refl _,rfl, .refl _,rfl,trivial⟩ (rh rfl rfl (fun i hi=>eW (by show i<11;omega)) rfl rfl rfl rfl rfl rfl rfl rfl rfl rfl rfl rfl rfl rfl (.refl _)) rfl⟩
   ·have h3: ¬w2.st.on ((aQ p a).getD i default)=1:=of_decide_eq_false h3
    rw[if_neg h3] at hstep;refine gA rfl ?_;exact⟨h1,w2,[11],⟨hok2,by rw[hq1,hstep];exact hst2⟩,wk rfl rfl rfl ⟨.refl _,rfl, .of_eq (by rw[hq1,hstep];rfl),rfl, .refl _,rfl, .refl _,rfl, .refl _,rfl, .refl _,rfl, .refl _,rfl, .refl _,rfl, .refl _,rfl, .refl _,rfl, .refl _,rfl, .refl _,rfl,trivial⟩ (rh rfl rfl (fun i hi=>eW (by show i<11;omega)) rfl rfl rfl rfl rfl rfl rfl rfl rfl rfl rfl rfl rfl rfl (.refl _)) rfl⟩
 ·have h1:(aQ p a).length≤i:=by simpa using h1
  have hie:i=(aQ p a).length:=by omega
  subst hie
  have hvis:dx (aQ p) (f+1) a w.st=qK a ((w.st.n:Int)+1) (qf (aQ p a).length):=by
   show qK a _ ((aQ p a).foldl _ _)=qK a _ (((aQ p a).take (aQ p a).length).foldl _ _);rw[Xx]
  have hend: ∀(w':TW) (k:Nat) (u:AS) (e:Exit),e= .normal∨e= .ret→10≤k→k<u.nx→lz uT u Tryz.f92.results.toList=some (pI (qf (aQ p a).length).1)→w'.Ok (ns p)→w'.st=(qK a ((w.st.n:Int)+1) (qf (aQ p a).length)).2→
    tx 11 (sg 10 [k]) u.h (tH (mG (ba p (aC p))) w' 10)→Kl uT Tryz.f92.results.toList 10 (fun r h n=> ∃w':TW,w'.Ok (ns p)∧w'.st=(dx (aQ p) (f+1) a w.st).2∧r=pI (dx (aQ p) (f+1) a w.st).1∧h=tH (mG (ba p (aC p))) w' 10∧n=11) e u:=by
   intro w' k u e he hk hku hr hok' hst' hh;refine zW [k] he hr ⟨w',hok',by rw[hvis];exact hst',rfl,rfl,rfl⟩ ⟨rfl,by show 10≤u.nx;omega,by simpa using hku,⟨.of_eq ?_,rfl,trivial⟩,hh,?_⟩
   ·show pI (qf (aQ p a).length).1=pI (dx (aQ p) (f+1) a w.st).1
    rw[hvis];unfold qK;split<;>rfl
   ·show[0,1,2,3,4,5,6,7,8,k].Nodup
    simp;omega
  generalize qf (aQ p a).length=q at*
  refine gA rfl ?_;refine VJ (fun h4=>?_) (fun h4=>?_);rotate_left
  ·have h4: ¬q.1=(w.st.n:Int)+1:=of_decide_eq_false h4
   refine gA rfl (hend w2 11 _ _ (.inr rfl) (by omega) (by show 11<12;omega) rfl hok2 (by rw[qK,if_neg h4];exact hst2) ?_);exact rh rfl rfl (fun i hi=>eW (by omega)) rfl rfl rfl rfl rfl rfl rfl rfl rfl rfl rfl rfl rfl rfl (.refl _)
  have h4:q.1=(w.st.n:Int)+1:=of_decide_eq_true h4;have hE:(qK a ((w.st.n:Int)+1) q).2=eF a ((w.st.n:Int)+1) q.2.stack.length q.2:=by rw[qK,if_pos h4]
  have hoa2:q.2.on a=1:=(hL2.inv.tK a).2 (by rw[hL2.stack];simp)
  have hF:eF a ((w.st.n:Int)+1) (t2.length+1) q.2=(qK a ((w.st.n:Int)+1) q).2:=by
   rw[hE,ph (by omega) hL2.stack hL2.at_ hoa2,ph (by rw[hL2.stack];simp;omega) hL2.stack hL2.at_ hoa2]
  generalize(qK a ((w.st.n:Int)+1) q).2=F at hF hend;refine gA rfl ?_
  refine lZ (σ:={v:TW//v.Ok (ns p)∧((∃t,v.stack=w.stack++a::t∧a∉t∧v.stack.length≤64∧v.st.on a=1∧eF a ((w.st.n:Int)+1) (t.length+1) v.st=F)∨(v.st.on a≠1∧v.st=F))})
   (fun v=>⟨(9,pI ((w.low.length:Int)+1))::(10,pI q.1)::vF a,tH (mG (ba p (aC p))) v.1 12,13⟩) (fun v=>v.1.stack.length) ⟨w2,hok2, .inl ⟨t2,by rw[show w2.stack=w2.st.stack from rfl,hst2];exact hL2.stack,hL2.at_,Wh (TW.tK hok2 (hst2▸hL2.inv)) hn64,by rw[hst2];exact hoa2,by rw[hst2];exact hF⟩⟩ [11]
   (wk rfl rfl rfl ⟨.refl _,rfl, .refl _,rfl, .refl _,rfl, .refl _,rfl, .refl _,rfl, .refl _,rfl, .refl _,rfl, .refl _,rfl, .refl _,rfl,trivial⟩ (rh rfl rfl (fun i hi=>eW (by show i<12;omega)) rfl rfl rfl rfl rfl rfl rfl rfl rfl rfl rfl rfl rfl rfl (.refl _)) rfl) fun v=>?_
  obtain⟨v,hokv,hJ⟩:=v;rcases hJ with⟨t,hs,hat,hs64,hon,hpop⟩|⟨hon,hF2⟩
  rotate_left
  ·refine gA rfl ?_
   refine VJ (fun h5=>?_) (fun h5=>?_)
   ·exact absurd (of_decide_eq_true h5) hon
   refine gA rfl (hend v 12 _ _ (.inr rfl) (by omega) (by show 12<13;omega) rfl hokv hF2 ?_);exact rh rfl rfl (fun i hi=>eW (by omega)) rfl rfl rfl rfl rfl rfl rfl rfl rfl rfl rfl rfl rfl rfl (.refl _)
  have key: ∃u b,v.stack=u++ [b]∧((b=a∧vg ((w.st.n:Int)+1) v.st=F)∨ ∃t',u=w.stack++a::t'∧a∉t'∧b≠a∧eF a ((w.st.n:Int)+1) (t'.length+1) (vg ((w.st.n:Int)+1) v.st)=F):=by
   rcases t.eq_nil_or_concat with e|⟨t',b,e⟩
   ·subst e
    refine⟨w.stack,a,hs, .inl ⟨rfl,?_⟩⟩;rw[XH,eF,if_pos hon] at hpop;exact hpop
   ·rw[List.concat_eq_append] at e
    subst e;refine⟨w.stack++a::t',b,by rw[hs];simp, .inr ⟨t',rfl,fun h=>hat (by simp[h]),fun h=>hat (by simp[h]),?_⟩⟩;rw[eF,if_pos hon,VL] at hpop;exact hpop
  obtain⟨u,b,hub,hcase⟩:=key;have hul:u.length+1≤64:=by rw[hub,VL] at hs64;exact hs64
  have hne:v.stack≠ []:=by rw[hub];simp
  have hub2:v.stack.length=u.length+1:=by rw[hub,VL];rfl
  have htH:tH (mG (ba p (aC p))) v 12=[(0,some (.cells [.mp 6])),(1,some (.cells [.mp 7])),(2,some (.cells [.sl 12 0 (u.length+1) 1])),(3,some (.cells [.iv (mG (ba p (aC p)))])),(4,some (.cells [wj])),(5,some (.cells [.mp 8])),
    (6,some (cf v.low)),(7,some (cf v.on)),(8,some (cf v.ring)),(12,some (a7 1 (u++ [b]) ch))]:=by
   unfold tH;rw[wy (.inr hne),wA (.inr hne),hub2,hub]
  show GO Tryz.prog _ _ _ ⟨_,tH (mG (ba p (aC p))) v 12,_⟩;rw[htH];refine gA rfl ?_;refine VJ (fun h5=>?_) (fun h5=>?_);rotate_left
  ·exact absurd hon (of_decide_eq_false h5)
  refine gM 9 rfl (yQ ae rfl rfl rfl rfl rfl (B7 u b) rfl rfl ?_)
  have hJ2:(v.pop u b ((w.st.n:Int)+1)).Ok (ns p)∧((∃t,(v.pop u b ((w.st.n:Int)+1)).stack=w.stack++a::t∧a∉t∧(v.pop u b ((w.st.n:Int)+1)).stack.length≤64∧(v.pop u b ((w.st.n:Int)+1)).st.on a=1∧eF a ((w.st.n:Int)+1) (t.length+1) (v.pop u b ((w.st.n:Int)+1)).st=F)∨((v.pop u b ((w.st.n:Int)+1)).st.on a≠1∧(v.pop u b ((w.st.n:Int)+1)).st=F)):=by
   refine⟨TW.Rp hokv u b _,?_⟩;rcases hcase with⟨rfl,hF3⟩|⟨t',hu,hat',hba,hF3⟩
   ·refine .inr ⟨?_,by rw[TW.CE hub];exact hF3⟩
    show bF .str (bQ .str v.on b 2) b 0≠1;rw[fZ,if_pos rfl];decide
   ·refine .inl ⟨t',hu,hat',by show u.length≤64;omega,?_,by rw[TW.CE hub];exact hF3⟩
    show bF .str (bQ .str v.on b 2) a 0=1;rw[fZ,if_neg hba];exact hon
  have hmu:(v.pop u b ((w.st.n:Int)+1)).stack.length<v.stack.length:=by show u.length<v.stack.length;omega
  rcases B8 12 u b with hc|hc
  ·refine gA rfl (zS ae u.length rfl rfl rfl rfl rfl rfl rfl (by omega) (by omega) (by omega) (.inl ⟨hc.1,rfl⟩) rfl ?_)
   refine gA rfl ?_;exact⟨⟨v.pop u b ((w.st.n:Int)+1),hJ2⟩,[12],hmu,wk rfl rfl rfl ⟨.refl _,rfl, .refl _,rfl, .refl _,rfl, .refl _,rfl, .refl _,rfl, .refl _,rfl, .refl _,rfl, .refl _,rfl, .refl _,rfl,trivial⟩ (rh rfl rfl (fun i hi=>eW (by show i<12;omega)) rfl rfl rfl rfl rfl rfl rfl rfl rfl rfl hc.2.symm rfl rfl rfl (wB u b)) rfl⟩
  ·refine gA rfl (zS ae u.length rfl rfl rfl rfl rfl rfl rfl (by omega) (by omega) (by omega) (.inr ⟨hc.1,rfl⟩) rfl ?_)
   refine gA rfl ?_;exact⟨⟨v.pop u b ((w.st.n:Int)+1),hJ2⟩,[12],hmu,wk rfl rfl rfl ⟨.refl _,rfl, .refl _,rfl, .refl _,rfl, .refl _,rfl, .refl _,rfl, .refl _,rfl, .refl _,rfl, .refl _,rfl, .refl _,rfl,trivial⟩ (rh rfl rfl (fun i hi=>eW (by show i<12;omega)) rfl rfl rfl rfl rfl rfl rfl rfl rfl rfl hc.2.symm rfl rfl rfl (wB u b)) rfl⟩
theorem Sb (hS:dD) {p:Prog} (hf:hP p) (hl:(aC p).length≤100000000): ∀f,RZ p f
 |0=>fun path a w hok hI h0 haV hp hw=>by
  have:=jw hI.lv haV h0
  omega
 |f+1=>BL hS hf hl f (Sb hS hf hl f)
theorem j3 (hS:dD) {p:Prog} (hf:hP p) (hs:List (ah×ah×Nat)):Pure Tryz.prog 51 [.iv (mG (ba p hs))] (.iv (strs (ns p))):=by
 have h:=Ch hS (ba p hs) (by have:=hf.len;simp[ba];omega);rw[show(ba p hs).map (·.1)=p.aS.map Decl.name from yM p hs] at h;exact h
abbrev Jf:PV:= .cH (.func 92) [] [.ptr 4 0, .ptr 5 0, .ptr 7 0, .ptr 0 0, .ptr 8 0, .ptr 6 0]
abbrev rH (G:IV) (w:TW) (k:Nat):AH:=[(0,some (.cells [.iv G])),(1,some (cf w.low)),(2,some (cf w.on)),(3,some (cf w.ring)),(4,some (.cells [.mp 1])),(5,some (.cells [.mp 2])),(6,some (.cells [.mp 3])),(7,some (.cells [nA w.qJ k w.stack])),(8,some (.cells [Jf])),(k,some (nB w.qJ w.stack))]
theorem Pb {n k:Nat} {σ:Nat→Nat} {h:AH} {G:IV} {w:TW} {q7:PV} {o1 o2 o3 o:AO} (b:X0 9 n=true) (bk:Wg k n=true) (hs: ∀i,i<9→σ i=i)
  (g0:h.get 0=some (.cells [.iv G])) (g1:h.get 1=some o1) (g2:h.get 2=some o2) (g3:h.get 3=some o3)
  (g4:h.get 4=some (.cells [.mp 1])) (g5:h.get 5=some (.cells [.mp 2])) (g6:h.get 6=some (.cells [.mp 3])) (g7:h.get 7=some (.cells [q7])) (g8:h.get 8=some (.cells [Jf])) (g9:h.get (σ k)=some o)
  (e1:eP o1 (cf w.low)) (e2:eP o2 (cf w.on)) (e3:eP o3 (cf w.ring)) (e7:q7=nA w.qJ (σ k) w.stack) (e9:eP o (nB w.qJ w.stack)):tx n σ h (rH G w k):=by
 have b9:=VI b;have bk:=VI bk;have hb: ∀i,i<9→Wg i n=true:=fun i hi=>WH (by omega);subst e7;have r: ∀i,i<9→PV.mp (σ i)=PV.mp i:=fun i hi=>by rw[hs i hi]
 have rp: ∀i,i<9→PV.ptr (σ i) 0=PV.ptr i 0:=fun i hi=>by rw[hs i hi]
 have lm: ∀i,i<9→bz n [PV.mp i]=true:=fun i hi=>by simp only[bz,PV.low,hb i hi]
 refine⟨⟨_,by rw[hs 0 (by omega)];exact g0, .of_eq rfl⟩,by omega,rfl,
  ⟨_,by rw[hs 1 (by omega)];exact g1,e1⟩,by omega,trivial,
  ⟨_,by rw[hs 2 (by omega)];exact g2,e2⟩,by omega,trivial,
  ⟨_,by rw[hs 3 (by omega)];exact g3,e3⟩,by omega,trivial,
  ⟨_,by rw[hs 4 (by omega)];exact g4, .of_eq (by simp only[AO.cN,dF,PV.cN,r 1 (by omega)])⟩,by omega,lm 1 (by omega),
  ⟨_,by rw[hs 5 (by omega)];exact g5, .of_eq (by simp only[AO.cN,dF,PV.cN,r 2 (by omega)])⟩,by omega,lm 2 (by omega),
  ⟨_,by rw[hs 6 (by omega)];exact g6, .of_eq (by simp only[AO.cN,dF,PV.cN,r 3 (by omega)])⟩,by omega,lm 3 (by omega),
  ⟨_,by rw[hs 7 (by omega)];exact g7, .of_eq (by simp only[AO.cN,dF,jY])⟩,by omega,by simp only[AO.low,bz,wz (WH bk)],
  ⟨_,by rw[hs 8 (by omega)];exact g8, .of_eq (by simp only[AO.cN,dF,PV.cN,rp 0 (by omega),rp 4 (by omega),rp 5 (by omega),rp 6 (by omega),rp 7 (by omega),rp 8 (by omega)])⟩,by omega,by simp only[AO.low,bz,PV.low,hb 0 (by omega),hb 4 (by omega),hb 5 (by omega),hb 6 (by omega),hb 7 (by omega),hb 8 (by omega)],
  ⟨_,g9,by rw[jZ];exact e9⟩,bk,wC _ _ _,trivial⟩
theorem rY {V:Type} {kc:KC} {ev:V→IV} {z:V} {zv:Value} {dv:PV→V} (hz: ∀M,IR M (ev z) zv):eP .ej (.map kc ev z zv dv []):=
 ⟨id,fun M N U w j hj=>⟨#[],0,hj,⟨rfl,by simp,by simp,by simp,by simp⟩,hz M⟩⟩
def TW.o:TW:=⟨[],[],[],[],none⟩
theorem Rm (G:IV) (w:TW) {n:Nat}:[some (AO.cells [PV.mp 1]),some (.cells [.mp 2]),some (.cells [nA w.qJ 10 w.stack]),some (.cells [.iv G]),some (.cells [Jf]),some (.cells [.mp 3]),some (cf w.low),some (cf w.on),some (cf w.ring),some (nB w.qJ w.stack)]=
  (tO G w).map fun o=>some (o.cN (sig [4,5,7,0,8,6,1,2,3,10] n)):=by
 have h1:=jY (sig [4,5,7,0,8,6,1,2,3,10] n) w.qJ 9 w.stack;have h2:=jZ (sig [4,5,7,0,8,6,1,2,3,10] n) w.qJ w.stack;show _=[some (AO.cells [PV.mp 1]),some (.cells [.mp 2]),some (.cells [(nA w.qJ 9 w.stack).cN (sig [4,5,7,0,8,6,1,2,3,10] n)]),some (.cells [.iv G]),some (.cells [Jf]),some (.cells [.mp 3]),some (cf w.low),some (cf w.on),some (cf w.ring),some ((nB w.qJ w.stack).cN (sig [4,5,7,0,8,6,1,2,3,10] n))]
 rw[h1,h2];rfl
theorem yk (hS:dD) {p:Prog} (hf:hP p) (hl:(aC p).length≤100000000):Go.Al.Fn Tryz.prog 53 [.iv (mG (ba p (aC p)))] [] fun r h n=> ∃m:NM,Go.Rg.kv (ns p) (eg p) (fun a=>bF .str m a 0)∧r= .iv (nY m)∧h=[]∧n=0:=by
 have hn64:=lN hf;refine sB ae Tryz.func53 rfl (by decide) Tryz.ntmps53 rfl (by simp) ?_;refine gA rfl (aj (j3 hS hf (aC p)) rfl rfl rfl rfl rfl rfl ?_);refine gA rfl ?_;refine xC 7 0 1 rfl rfl ?_
 let sn:Nat→St ah:=fun i=>fz (aQ p) (ns p).length ((ns p).take i) St.o
 have hinv: ∀i,Inv (aQ p) [] (sn i):=fun i=>(pd qL (VZ _) ((ns p).take i) St.o (fun a h=>YP h) (OS _)).1
 refine gf 0 (ns p).length (V1 _) (fun i w=>⟨[(3, .ptr 4 0),(4, .ptr 5 0),(5, .ptr 6 0),(6, .ptr 7 0),(7, .ptr 8 0),(15, .iv (strs (ns p))),(16,pI (ns p).length),(17,pI i)],rH (mG (ba p (aC p))) w 10,11⟩)
  (fun i w=>w.Ok (ns p)∧w.st=sn i) TW.o [9] ⟨⟨fun a h=>(nomatch h),WB,fun a h=>(nomatch h)⟩,rfl⟩
  (wk rfl rfl rfl ⟨.refl _,rfl, .refl _,rfl, .refl _,rfl, .refl _,rfl, .refl _,rfl, .refl _,rfl, .refl _,rfl, .refl _,rfl,trivial⟩
   (Pb rfl rfl (fun i hi=>eW (by show i<10;omega)) rfl rfl rfl rfl rfl rfl rfl rfl rfl rfl (rY eL) (rY eL) (rY eL) rfl (.of_eq rfl)) rfl) fun i w hi hJ=>?_
 obtain⟨hok,hst⟩:=hJ;refine gA rfl ?_;refine VJ (fun h1=>?_) (fun h1=>?_)
 ·have h1:i<(ns p).length:=by simpa using h1
  have hs1:sn (i+1)=if(sn i).low ((ns p).getD i default)=0 then(dx (aQ p) (ns p).length ((ns p).getD i default) (sn i)).2 else sn i:=c8 h1;refine gA rfl ?_;refine VJ (fun h2=>?_) (fun h2=>?_)
  ·have h2:w.st.low ((ns p).getD i default)=0:=of_decide_eq_true h2
   rw[←hst,if_pos h2] at hs1;refine gA rfl (xF [4,5,7,0,8,6,1,2,3,10] (Sb hS hf hl (ns p).length [] ((ns p).getD i default) w hok (hst▸hinv i) h2 (bp h1) (fun g hg=>nomatch hg) (WR _ _)) rfl rfl rfl rfl rfl (Rm _ _) rfl ?_)
   rintro r h' n' ⟨w3,hok3,hst3,rfl,rfl,rfl⟩
   refine⟨_,rfl,?_⟩;refine gA rfl ?_
   exact⟨h1,w3,[11],⟨hok3,by rw[hs1];exact hst3⟩,wk rfl rfl rfl ⟨.refl _,rfl, .refl _,rfl, .refl _,rfl, .refl _,rfl, .refl _,rfl, .refl _,rfl, .refl _,rfl, .refl _,rfl,trivial⟩
    (Pb rfl rfl (fun i hi=>eW (by show i<10;omega)) rfl rfl rfl rfl rfl rfl rfl rfl rfl rfl (.refl _) (.refl _) (.refl _) (jY _ _ _ _) (.of_eq (jZ _ _ _))) rfl⟩
  ·have h2: ¬w.st.low ((ns p).getD i default)=0:=of_decide_eq_false h2
   rw[←hst,if_neg h2] at hs1;refine gA rfl ?_
   exact⟨h1,w,[10],⟨hok,hs1.symm⟩,wk rfl rfl rfl ⟨.refl _,rfl, .refl _,rfl, .refl _,rfl, .refl _,rfl, .refl _,rfl, .refl _,rfl, .refl _,rfl, .refl _,rfl,trivial⟩
    (Pb rfl rfl (fun i hi=>eW (by show i<10;omega)) rfl rfl rfl rfl rfl rfl rfl rfl rfl rfl (.refl _) (.refl _) (.refl _) rfl (.refl _)) rfl⟩
 ·have h1:(ns p).length≤i:=by simpa using h1
  have hr:Go.Rg.kv (ns p) (eg p) (fun a=>bF .str w.ring a 0):=by
   have h2:=Cx hf.nodup (VZ (ns p).length);have h3:sn i=fz (aQ p) (ns p).length (ns p) St.o:=by show fz _ _ ((ns p).take i) _=_;rw[VY h1]
   have h4:(fun a=>bF .str w.ring a 0)=(fz (aQ p) (ns p).length (ns p) St.o).ring:=by rw[←h3,←hst];rfl
   rw[h4];exact h2
  refine gA rfl ⟨.inr rfl,_,rfl,hD.map 3 rfl (.done ⟨.iv (nY w.ring),[],0,[],⟨w.ring,hr,rfl,rfl,rfl⟩,?_⟩)⟩;exact⟨rfl,V1 _,by simp,⟨.of_eq rfl,rfl,trivial⟩,trivial,WB⟩
end Go.Proofs.YtflegjieadkonaaGreatDoor
namespace Go.Proofs.YtflegjieadkonaaGreatDoor
open Go Go.Al
set_option maxRecDepth 10000
theorem Rc (l:List ah) (s:ah):Pure Tryz.prog 129 [.iv (strs l),pS s] (pI (oC (fun x:ah=>decide (s=x)) l)):=by
 refine CD (bL Tryz.func129 rfl (by decide)) ⟨_,_,V8⟩ fun hlen=>?_;simp only[maxLen] at hlen;refine az ae Tryz.func129 rfl (by decide) Tryz.ntmps129 rfl (by simp) rfl ?_;refine gA rfl ?_
 refine aL 0 l.length (V1 _) (fun i=>⟨[(0, .iv (strs l)),(1,pS s),(7,pI l.length),(8,pI i)],[],0⟩) (fun i=>(l.take i).any (fun x:ah=>decide (s=x))=false) [] (by simp)
  (Ei rfl rfl ⟨.refl _,rfl, .refl _,rfl, .refl _,rfl, .refl _,rfl,trivial⟩ rfl) fun i hi hJ=>?_
 refine gA rfl ?_;refine VJ (fun h1=>?_) (fun h1=>?_)
 ·have h1:i<l.length:=by simpa using h1
  refine gA rfl ?_;refine VJ (fun h2=>?_) (fun h2=>?_)
  ·have h2:(fun x:ah=>decide (s=x)) (l.getD i default)=true:=h2
   rw[gQ hJ h1 h2];refine gA rfl (au (by first|exact .inr rfl|exact .inl rfl) rfl (.of_eq ?_));rfl
  ·have h2:(fun x:ah=>decide (s=x)) (l.getD i default)=false:=h2
   refine gA rfl ?_;exact⟨h1,(cG hJ h1).2 h2,[],Ei rfl rfl ⟨.refl _,rfl, .refl _,rfl, .refl _,rfl, .refl _,rfl,trivial⟩ rfl⟩
 ·have h1:l.length≤i:=by simpa using h1
  rw[fL (any_none hJ h1)];refine gA rfl (au (by first|exact .inr rfl|exact .inl rfl) rfl (.of_eq ?_));rfl
theorem Kc (l:List ah) (s:ah):(l.any fun x=>decide (s=x))=c4 l s:=by
 rw[WK,bw,WU];constructor
 ·rintro⟨x,hx,h⟩;exact(of_decide_eq_true h)▸hx
 ·exact fun h=>⟨s,h,decide_eq_true rfl⟩
theorem AI (l:List ah) (s:ah):Pure Tryz.prog 99 [.iv (strs l),pS s] (pB (c4 l s)):=by
 refine az ae Tryz.func99 rfl (by decide) Tryz.ntmps99 rfl (by simp) rfl ?_;refine gA rfl (aj (Rc l s) rfl rfl rfl rfl rfl rfl ?_);refine gA rfl (au (by first|exact .inr rfl|exact .inl rfl) rfl (.of_eq ?_));exact kE (by rw[←Kc];exact gT _ l)
def mP (m:NM) (r:aw) (l:Lit):Bool:=decide (l.kind=1)&&decide (bF .str m l.atom.rel 0=bF .str m r.head.rel 0)
abbrev Rj (m:NM) (r:aw):List AO:=[.cells [.iv (nY m)],aE r.c]
abbrev I8 (m:NM) (r:aw):AH:=[(0,some (.cells [.iv (nY m)])),(1,some (aE r.c))]
theorem I2 (m:NM) (r:aw) (l:Lit):b8 Tryz.prog 102 [ag l.c, .ptr 0 0, .ptr 1 0] (Rj m r) (pB (mP m r l)) (I8 m r) 2:=by
 refine aF ae Tryz.func102 rfl (by decide) Tryz.ntmps102 rfl (by simp) ?_;refine gA rfl ?_;refine VJ (fun h1=>?_) (fun h1=>?_)
 ·have h1:l.kind=1:=of_decide_eq_true h1
  refine gA rfl (ax [] (by first|exact .inr rfl|exact .inl rfl) rfl (wk rfl rfl rfl ⟨.of_eq (kE (by rw[mP,decide_eq_true h1,XU])),rfl,trivial⟩ (⟨⟨_,rfl, .of_eq rfl⟩,VI rfl,rfl,hC rfl rfl rfl trivial⟩) rfl))
 ·have h1: ¬l.kind=1:=of_decide_eq_false h1
  refine gA rfl (ax [] (by first|exact .inr rfl|exact .inl rfl) rfl (wk rfl rfl rfl ⟨.of_eq (kE (by rw[mP,decide_eq_false h1,XA])),rfl,trivial⟩ (⟨⟨_,rfl, .of_eq rfl⟩,VI rfl,rfl,hC rfl rfl rfl trivial⟩) rfl))
abbrev Cv:PV:= .cH (.func 102) [] [.ptr 0 0, .ptr 1 0]
theorem I0 (m:NM) (r:aw) (l:List Lit):b8 Tryz.prog 130 [.iv (cV 30 l Lit.c),Cv] (Rj m r) (pI (oC (mP m r) l)) (I8 m r) 2:=by
 refine pP (bL Tryz.func130 rfl (by decide)) ⟨_,_,V8⟩ fun hlen=>?_;simp only[maxLen] at hlen;refine aF ae Tryz.func130 rfl (by decide) Tryz.ntmps130 rfl (by simp) ?_;refine gA rfl ?_
 refine aL 0 l.length (V1 _) (fun i=>⟨[(0, .iv (cV 30 l Lit.c)),(1,Cv),(7,pI l.length),(8,pI i)],I8 m r,2⟩) (fun i=>(l.take i).any (mP m r)=false) [] (by simp)
  (wk rfl rfl rfl ⟨.refl _,rfl, .refl _,rfl, .refl _,rfl, .refl _,rfl,trivial⟩ (⟨⟨_,rfl, .of_eq rfl⟩,VI rfl,rfl,hC rfl rfl rfl trivial⟩) rfl) fun i hi hJ=>?_
 refine gA rfl ?_;refine VJ (fun h1=>?_) (fun h1=>?_)
 ·have h1:i<l.length:=by simpa using h1
  refine gA rfl (aK [0,1] (I2 m r (l.getD i default)) rfl rfl rfl rfl rfl rfl rfl rfl ?_);refine gA rfl ?_;refine VJ (fun h2=>?_) (fun h2=>?_)
  ·have h2:mP m r (l.getD i default)=true:=h2
   rw[gQ hJ h1 h2];refine gA rfl (ax [] (by first|exact .inr rfl|exact .inl rfl) rfl (wk rfl rfl rfl ⟨.refl _,rfl,trivial⟩ (⟨⟨_,rfl, .of_eq rfl⟩,VI rfl,rfl,hC rfl rfl rfl trivial⟩) rfl))
  ·have h2:mP m r (l.getD i default)=false:=h2
   refine gA rfl ?_;exact⟨h1,(cG hJ h1).2 h2,[],wk rfl rfl rfl ⟨.refl _,rfl, .refl _,rfl, .refl _,rfl, .refl _,rfl,trivial⟩ (⟨⟨_,rfl, .of_eq rfl⟩,VI rfl,rfl,hC rfl rfl rfl trivial⟩) rfl⟩
 ·have h1:l.length≤i:=by simpa using h1
  rw[fL (any_none hJ h1)];refine gA rfl (ax [] (by first|exact .inr rfl|exact .inl rfl) rfl (wk rfl rfl rfl ⟨.refl _,rfl,trivial⟩ (⟨⟨_,rfl, .of_eq rfl⟩,VI rfl,rfl,hC rfl rfl rfl trivial⟩) rfl))
theorem I1 (m:NM) (r:aw) (l:List Lit):b8 Tryz.prog 101 [.iv (cV 30 l Lit.c),Cv] (Rj m r) (pB (l.any (mP m r))) (I8 m r) 2:=by
 refine aF ae Tryz.func101 rfl (by decide) Tryz.ntmps101 rfl (by simp) ?_;refine gA rfl (aK [0,1] (I0 m r l) rfl rfl rfl rfl rfl rfl rfl rfl ?_);refine gA rfl (ax [] (by first|exact .inr rfl|exact .inl rfl) rfl (wk rfl rfl rfl ⟨.of_eq (kE (gT _ l)),rfl,trivial⟩ (⟨⟨_,rfl, .of_eq rfl⟩,VI rfl,rfl,hC rfl rfl rfl trivial⟩) rfl))
theorem Cj (m:NM) (r:aw):Pure Tryz.prog 60 [ag r.c, .iv (nY m)] (pB (r.body.any (mP m r))):=by
 refine az ae Tryz.func60 rfl (by decide) Tryz.ntmps60 rfl (by simp) rfl ?_;refine gA rfl (aK [1,0] (I1 m r r.body) rfl rfl rfl rfl rfl rfl rfl rfl ?_);refine gA rfl (au (by first|exact .inr rfl|exact .inl rfl) rfl (.of_eq ?_));rfl
def ti (m:NM) (r:aw) (l:Lit):Bool:=decide (l.kind≠1)&&(named l).any fun t=>decide (bF .str m t 0=bF .str m r.head.rel 0)
def tq (m:NM) (r:aw) (t:Term):Bool:=decide (t.kind=1)&&!c4 (jQ r) t.var&&r.body.any (mP m r)
def hQ (m:NM) (r:aw):dE:=match r.body.find? (ti m r) with
 |some l=>(70,l.at)
 |none=>if r.head.an.any (tq m r)=true then(71,r.at_) else dE.z
theorem Q8 (m:NM) (r:aw) (hb:r.size≤10000000):Pure Tryz.prog 57 [ag r.c, .iv (nY m)] (ag (hQ m r).c):=by
 have hbl:r.body.length≤10000000:=by have:=Lit.aI r.body;unfold aw.size at hb;omega
 have htl:r.head.an.length≤10000000:=by unfold aw.size at hb;omega
 refine az ae Tryz.func57 rfl (by decide) Tryz.ntmps57 rfl (by simp) rfl ?_;refine gA rfl ?_
 refine aL 0 r.body.length (V1 _) (fun i=>⟨[(1, .iv (nY m)),(2, .ptr 0 0),(4, .ptr 1 0),(13, .iv (lits r.body)),(14,pI r.body.length),(15,pI i)],[(0,some (aE r.c)),(1,some (aE dE.z.c))],2⟩) (fun i=>(r.body.take i).any (ti m r)=false) [] (by simp)
  (wk rfl rfl rfl ⟨.refl _,rfl, .refl _,rfl, .refl _,rfl, .refl _,rfl, .refl _,rfl, .refl _,rfl,trivial⟩ (hC rfl rfl rfl (hC rfl rfl rfl trivial)) rfl) fun i hi hJ=>?_
 refine gA rfl ?_;refine VJ (fun h1=>?_) (fun h1=>?_)
 ·have h1:i<r.body.length:=by simpa using h1
  have hsz:(r.body.getD i default).size≤10000000:=by have:=Lit.bS r.body i h1;unfold aw.size at hb;omega
  have hnl:=ke (r.body.getD i default);refine gA rfl (aj (zk (r.body.getD i default) (by omega)) rfl rfl rfl rfl rfl rfl ?_);refine gA rfl ?_
  refine aL 0 (named (r.body.getD i default)).length (V1 _) (fun k=>⟨[(1, .iv (nY m)),(2, .ptr 0 0),(4, .ptr 1 0),(6, .ptr 2 0),(13, .iv (lits r.body)),(14,pI r.body.length),(15,pI i),(20, .iv (strs (named (r.body.getD i default)))),(21,pI (named (r.body.getD i default)).length),(22,pI k)],[(0,some (aE r.c)),(1,some (aE dE.z.c)),(2,some (aE (r.body.getD i default).c))],3⟩)
   (fun k=>decide ((r.body.getD i default).kind≠1)=false∨((named (r.body.getD i default)).take k).any (fun t=>decide (bF .str m t 0=bF .str m r.head.rel 0))=false) [] (.inr (by simp))
   (wk rfl rfl rfl ⟨.refl _,rfl, .refl _,rfl, .refl _,rfl, .refl _,rfl, .refl _,rfl, .refl _,rfl, .refl _,rfl, .refl _,rfl, .refl _,rfl, .refl _,rfl,trivial⟩ (hC rfl rfl rfl (hC rfl rfl rfl (hC rfl rfl rfl trivial))) rfl) fun k hk hK=>?_
  refine gA rfl ?_;refine VJ (fun h2=>?_) (fun h2=>?_)
  ·have h2:k<(named (r.body.getD i default)).length:=by simpa using h2
   refine gA rfl ?_;refine VJ (fun h3=>?_) (fun h3=>?_)
   ·have h3: ¬(r.body.getD i default).kind=1:=by simpa using h3
    have hK:=hK.resolve_left (by simpa using h3);refine gA rfl ?_;refine VJ (fun h4=>?_) (fun h4=>?_)
    ·have h4:bF .str m ((named (r.body.getD i default)).getD k default) 0=bF .str m r.head.rel 0:=of_decide_eq_true h4
     have hs:ti m r (r.body.getD i default)=true:=by
      rw[ti,decide_eq_true h3,XU];exact Ah h2 (decide_eq_true h4)
     rw[hQ,jj hJ h1 hs];refine gA rfl (au (by first|exact .inr rfl|exact .inl rfl) rfl (.of_eq ?_));rfl
    ·have h4: ¬bF .str m ((named (r.body.getD i default)).getD k default) 0=bF .str m r.head.rel 0:=of_decide_eq_false h4
     refine gA rfl ?_;exact⟨h2, .inr ((cG hK h2).2 (decide_eq_false h4)),[],wk rfl rfl rfl ⟨.refl _,rfl, .refl _,rfl, .refl _,rfl, .refl _,rfl, .refl _,rfl, .refl _,rfl, .refl _,rfl, .refl _,rfl, .refl _,rfl, .refl _,rfl,trivial⟩ (hC rfl rfl rfl (hC rfl rfl rfl (hC rfl rfl rfl trivial))) rfl⟩
   ·have h3:(r.body.getD i default).kind=1:=by simpa using h3
    refine gA rfl ?_;exact⟨h2, .inl (decide_eq_false fun h=>h h3),[],wk rfl rfl rfl ⟨.refl _,rfl, .refl _,rfl, .refl _,rfl, .refl _,rfl, .refl _,rfl, .refl _,rfl, .refl _,rfl, .refl _,rfl, .refl _,rfl, .refl _,rfl,trivial⟩ (hC rfl rfl rfl (hC rfl rfl rfl (hC rfl rfl rfl trivial))) rfl⟩
  ·have h2:(named (r.body.getD i default)).length≤k:=by simpa using h2
   have hs:ti m r (r.body.getD i default)=false:=by
    rcases hK with hK|hK
    ·rw[ti,hK,XA]
    ·rw[ti,any_none hK h2,XO]
   refine gA rfl ?_;exact⟨h1,(cG hJ h1).2 hs,[],wk rfl rfl rfl ⟨.refl _,rfl, .refl _,rfl, .refl _,rfl, .refl _,rfl, .refl _,rfl, .refl _,rfl,trivial⟩ (hC rfl rfl rfl (hC rfl rfl rfl trivial)) rfl⟩
 have h1:r.body.length≤i:=by simpa using h1
 have hfn:r.body.find? (ti m r)=none:=iJ (any_none hJ h1);rw[hQ,hfn];refine gA rfl (aj (Vj r hb) rfl rfl rfl rfl rfl rfl ?_);refine gA rfl ?_
 refine aL 0 r.head.an.length (V1 _) (fun k=>⟨[(1, .iv (nY m)),(2, .ptr 0 0),(4, .ptr 1 0),(9, .iv (strs (jQ r))),(49, .iv (cV 5 r.head.an Term.c)),(50,pI r.head.an.length),(51,pI k)],[(0,some (aE r.c)),(1,some (aE dE.z.c))],2⟩) (fun k=>(r.head.an.take k).any (tq m r)=false) [] (by simp)
  (wk rfl rfl rfl ⟨.refl _,rfl, .refl _,rfl, .refl _,rfl, .refl _,rfl, .refl _,rfl, .refl _,rfl, .refl _,rfl,trivial⟩ (hC rfl rfl rfl (hC rfl rfl rfl trivial)) rfl) fun k hk hK=>?_
 refine gA rfl ?_;refine VJ (fun h2=>?_) (fun h2=>?_)
 ·have h2:k<r.head.an.length:=by simpa using h2
  have no:tq m r (r.head.an.getD k default)=false→(r.head.an.take (k+1)).any (tq m r)=false:=(cG hK h2).2;refine gA rfl ?_;refine VJ (fun h3=>?_) (fun h3=>?_)
  ·have h3:(r.head.an.getD k default).kind=1:=of_decide_eq_true h3
   refine gA rfl (aj (AI (jQ r) (r.head.an.getD k default).var) rfl rfl rfl rfl rfl rfl ?_);refine gA rfl ?_;refine VJ (fun h4=>?_) (fun h4=>?_)
   ·have h4:(!c4 (jQ r) (r.head.an.getD k default).var)=true:=h4
    refine gA rfl (aj (Cj m r) rfl rfl rfl rfl rfl rfl ?_);refine gA rfl ?_;refine VJ (fun h5=>?_) (fun h5=>?_)
    ·have h5:r.body.any (mP m r)=true:=h5
     rw[if_pos (Ah h2 (by rw[tq,decide_eq_true h3,h4,h5];rfl))];refine gA rfl (au (by first|exact .inr rfl|exact .inl rfl) rfl (.of_eq ?_));rfl
    ·have h5:r.body.any (mP m r)=false:=h5
     refine gA rfl ?_;exact⟨h2,no (by rw[tq,h5,XO]),[],wk rfl rfl rfl ⟨.refl _,rfl, .refl _,rfl, .refl _,rfl, .refl _,rfl, .refl _,rfl, .refl _,rfl, .refl _,rfl,trivial⟩ (hC rfl rfl rfl (hC rfl rfl rfl trivial)) rfl⟩
   ·have h4:(!c4 (jQ r) (r.head.an.getD k default).var)=false:=h4
    refine gA rfl ?_;exact⟨h2,no (by rw[tq,h4,XO,XA]),[],wk rfl rfl rfl ⟨.refl _,rfl, .refl _,rfl, .refl _,rfl, .refl _,rfl, .refl _,rfl, .refl _,rfl, .refl _,rfl,trivial⟩ (hC rfl rfl rfl (hC rfl rfl rfl trivial)) rfl⟩
  ·have h3: ¬(r.head.an.getD k default).kind=1:=of_decide_eq_false h3
   refine gA rfl ?_;exact⟨h2,no (by rw[tq,decide_eq_false h3,XA,XA]),[],wk rfl rfl rfl ⟨.refl _,rfl, .refl _,rfl, .refl _,rfl, .refl _,rfl, .refl _,rfl, .refl _,rfl, .refl _,rfl,trivial⟩ (hC rfl rfl rfl (hC rfl rfl rfl trivial)) rfl⟩
 ·have h2:r.head.an.length≤k:=by simpa using h2
  rw[if_neg (by rw[any_none hK h2];decide)];refine gA rfl (au (by first|exact .inr rfl|exact .inl rfl) rfl (.of_eq ?_));rfl
theorem find_congr {α:Type} {f g:α→Bool}: ∀{l:List α},(∀x∈l,f x=g x)→l.find? f=l.find? g
 | [],_=>rfl
 |x::l,h=>by
  rw[X9,X9,h x V8,find_congr fun y hy=>h y (V2 _ hy)]
theorem sZ {α:Type} {f g:α→Bool} {l:List α} (h: ∀x∈l,f x=g x):l.any f=l.any g:=by
 rw[WK,WU,WU];exact⟨fun⟨x,hx,h1⟩=>⟨x,hx,by rw[←h x hx];exact h1⟩,fun⟨x,hx,h1⟩=>⟨x,hx,by rw[h x hx];exact h1⟩⟩
theorem vo {p:Prog} {a:ah} (h:a∈p.aS.map Decl.name):a∈ns p:=by rw[ns,cJ];exact h
theorem Cu {p:Prog} (hf:hP p) {m:NM} (hR:Go.Rg.kv (ns p) (eg p) (fun a=>bF .str m a 0)) {r:aw} (hr:r∈p.rules):r.body.any (mP m r)=lJ p r:=by
 refine sZ fun l hl=>?_;rw[mP];by_cases hk:l.kind=1
 ·have hm:l.atom.rel∈named l:=by rw[ov,if_pos (.inl hk)];exact XD _
  rw[p3 hR (vo (hf.lits r hr l hl _ hm)) (vo (hf.zN r hr))]
 ·rw[decide_eq_false hk];rfl
theorem BI {p:Prog} (hf:hP p) {m:NM} (hR:Go.Rg.kv (ns p) (eg p) (fun a=>bF .str m a 0)) {r:aw} (hr:r∈p.rules):hQ m r=hZ p r:=by
 have h1:r.body.find? (ti m r)=kH p r:=find_congr fun l hl=>by
  rw[ti];congr 1;exact sZ fun t ht=>(p3 hR (vo (hf.lits r hr l hl t ht)) (vo (hf.zN r hr))).symm
 have h2:r.head.an.any (tq m r)=(pQ r&&lJ p r):=by
  rw[←Cu hf hR hr,pQ];have:tq m r=fun t=>(decide (t.kind=1)&&!c4 (jQ r) t.var)&&r.body.any (mP m r):=rfl;rw[this];generalize r.body.any (mP m r)=c;cases c<;>simp
 rw[hQ,hZ,h1]
 cases kH p r with
 |some l=>rfl
 |none=>
  simp only[h2,Wc]
theorem u3 (hS:dD) {p:Prog} (hb:p.fit) (h: ¬(bm p).1=0):Pure Tryz.prog 50 [ag p.c] (.bM [.iv (.v (.map none)),pB false]):=by
 have:=Ck hS p hb;rwa[su,if_neg h,decide_eq_false h] at this
theorem rA (hS:dD) {p:Prog} (hb:p.fit) (h:(bm p).1=0):Pure Tryz.prog 50 [ag p.c] (.bM [.iv (mG (ba p (aC p))),pB true]):=by
 have:=Ck hS p hb;rwa[su,if_pos h,decide_eq_true h] at this
theorem n6 {α β:Type} (f:α→List β) (g:α→Nat) (h: ∀a,(f a).length≤g a): ∀l:List α,(l.flatMap f).length≤(l.map g).sum
 | []=>VZ _
 |a::l=>by
  have h1:=n6 f g h l;have h2:=h a;rw[WT,VL,V6,Xy];omega
theorem eS: ∀l:List Lit,Lit.aB l=(l.map Lit.size).sum
 | []=>rfl
 |x::l=>by rw[Lit.aB,eS l,V6,Xy]
theorem mF {p:Prog} (hs:p.size≤10000000):(aC p).length≤100000000:=by
 have h1:=n6 (fun r:aw=>r.body.flatMap fun l=>(named l).map fun t=>(r.head.rel,t,iD l)) aw.size (fun r=>by
  have:=n6 (fun l=>(named l).map fun t=>(r.head.rel,t,iD l)) Lit.size (fun l=>by rw[Wr];exact ke l) r.body;rw[←eS] at this
  unfold aw.size;omega) p.rules
 unfold Prog.size at hs;show(p.rules.flatMap _).length≤_;omega
theorem u4 (hS:dD) (p:Prog) (hb:p.fit) (hs:p.size≤10000000):Pure Tryz.prog 17 [ag p.c] (ag (cQ p).c):=by
 by_cases k1:(bm p).1=0;rotate_left
 ·rw[cQ,if_pos k1]
  refine az ae Tryz.func17 rfl (by decide) Tryz.ntmps17 rfl (by simp) rfl ?_;refine gA rfl (aj (u3 hS hb k1) rfl rfl rfl rfl rfl rfl ?_);refine gA rfl ?_;refine VJ (fun k2=>?_) (fun k2=>?_);rotate_left
  ·cases k2
  refine gA rfl (aj (c24 p hb) rfl rfl rfl rfl rfl rfl ?_);refine gA rfl (au (by first|exact .inr rfl|exact .inl rfl) rfl (.of_eq ?_));rfl
 have hf:=fw k1;have hrl:p.rules.length≤1000000000:=hb.2.1;rw[cQ,if_neg (by simpa using k1)];refine az ae Tryz.func17 rfl (by decide) Tryz.ntmps17 rfl (by simp) rfl ?_;refine gA rfl (aj (rA hS hb k1) rfl rfl rfl rfl rfl rfl ?_);refine gA rfl ?_;refine VJ (fun k2=>?_) (fun k2=>?_)
 ·cases k2
 refine gA rfl (xF [] (yk hS hf (mF hs)) rfl rfl rfl rfl rfl rfl rfl ?_)
 rintro r h' n' ⟨m,hR,rfl,rfl,rfl⟩
 refine⟨_,rfl,?_⟩;have hW:p.rules.map (hQ m)=p.rules.map (hZ p):=List.map_congr_left fun r hr=>BI hf hR hr;rw[←hW]
 have hget: ∀i,i<p.rules.length→(p.rules.map (hQ m)).getD i default=hQ m (p.rules.getD i default):=fun i hi=>by
  rw[VP,VV,VS hi,VP,VS hi];rfl
 have hlen:(p.rules.map (hQ m)).length=p.rules.length:=Wr _;refine gA rfl ?_
 refine aL 0 p.rules.length (V1 _) (fun i=>⟨[(1, .ptr 0 0),(2, .ptr 1 0),(5, .iv (nY m)),(21, .iv (cV 5 p.rules aw.c)),(22,pI p.rules.length),(23,pI i)],[(0,some (aE p.c)),(1,some (aE dE.z.c))],2⟩) (fun i=>((p.rules.map (hQ m)).take i).any (fun d=>decide (d.1≠0))=false) [] (by simp)
  (wk rfl rfl rfl ⟨.refl _,rfl, .refl _,rfl, .refl _,rfl, .refl _,rfl, .refl _,rfl, .refl _,rfl,trivial⟩ (hC rfl rfl rfl (hC rfl rfl rfl trivial)) rfl) fun i hi hJ=>?_
 refine gA rfl ?_;refine VJ (fun h1=>?_) (fun h1=>?_)
 ·have h1:i<p.rules.length:=by simpa using h1
  have hfit:=hb.2.2 _ (bp h1);have hg:=hget i h1;refine gA rfl (aj (Q8 m (p.rules.getD i default) hfit.1) rfl rfl rfl rfl rfl rfl ?_);refine gA rfl ?_;refine VJ (fun h2=>?_) (fun h2=>?_)
  ·have h2: ¬(hQ m (p.rules.getD i default)).1=0:=by simpa using h2
   rw[jj hJ (by rw[hlen];exact h1) (by rw[hg];exact decide_eq_true h2),hg];refine gA rfl (au (by first|exact .inr rfl|exact .inl rfl) rfl (.of_eq ?_));rfl
  ·have h2:(hQ m (p.rules.getD i default)).1=0:=by simpa using h2
   refine gA rfl ?_;exact⟨h1,(cG hJ (by rw[hlen];exact h1)).2 (by rw[hg];simpa using h2),[],wk rfl rfl rfl ⟨.refl _,rfl, .refl _,rfl, .refl _,rfl, .refl _,rfl, .refl _,rfl, .refl _,rfl,trivial⟩ (hC rfl rfl rfl (hC rfl rfl rfl trivial)) rfl⟩
 ·have h1:p.rules.length≤i:=by simpa using h1
  rw[iJ (any_none hJ (by rw[hlen];exact h1))];refine gA rfl (au (by first|exact .inr rfl|exact .inl rfl) rfl (.of_eq ?_));rfl
def jE (l:Lit):Bool:=decide (l.kind≠2)&&decide (l.kind≠4)
theorem AG (hS:dD) (p:Prog) (hb:p.fit):Pure Tryz.prog 18 [ag p.c] (pB (tT p)):=by
 have hrl:p.rules.length≤1000000000:=hb.2.1;refine az ae Tryz.func18 rfl (by decide) Tryz.ntmps18 rfl (by simp) rfl ?_;refine gA rfl (aj (Ck hS p hb) rfl rfl rfl rfl rfl rfl ?_);refine gA rfl ?_
 refine aL 0 p.rules.length (V1 _) (fun i=>⟨[(1, .ptr 0 0),(4,pB (decide ((bm p).1=0)&&(p.rules.take i).all fun r=>r.body.all jE)),(15, .iv (cV 5 p.rules aw.c)),(16,pI p.rules.length),(17,pI i)],[(0,some (aE p.c))],1⟩) (fun _=>True) [] trivial
  (wk rfl rfl rfl ⟨.refl _,rfl, .of_eq (kE (by simp)),rfl, .refl _,rfl, .refl _,rfl, .refl _,rfl,trivial⟩ (hC rfl rfl rfl trivial) rfl) fun i hi _=>?_
 refine gA rfl ?_;refine VJ (fun h1=>?_) (fun h1=>?_)
 ·have h1:i<p.rules.length:=by simpa using h1
  have hfit:=(hb.2.2 _ (bp h1)).1;have hbl:(p.rules.getD i default).body.length≤10000000:=by have:=Lit.aI (p.rules.getD i default).body;unfold aw.size at hfit;omega
  have hst:(decide ((bm p).1=0)&&(p.rules.take (i+1)).all fun r=>r.body.all jE)=((decide ((bm p).1=0)&&(p.rules.take i).all fun r=>r.body.all jE)&&(p.rules.getD i default).body.all jE):=by
   rw[aY h1,YI,Bool.and_assoc];simp
  generalize(decide ((bm p).1=0)&&(p.rules.take i).all fun r=>r.body.all jE)=b at*
  refine gA rfl ?_
  refine aL 0 (p.rules.getD i default).body.length (V1 _) (fun k=>⟨[(1, .ptr 0 0),(4,pB (b&&((p.rules.getD i default).body.take k).all jE)),(6, .ptr 1 0),(15, .iv (cV 5 p.rules aw.c)),(16,pI p.rules.length),(17,pI i),(22, .iv (lits (p.rules.getD i default).body)),(23,pI (p.rules.getD i default).body.length),(24,pI k)],[(0,some (aE p.c)),(1,some (aE (p.rules.getD i default).c))],2⟩) (fun _=>True) [] trivial
   (wk rfl rfl rfl ⟨.refl _,rfl, .of_eq (kE (by simp)),rfl, .refl _,rfl, .refl _,rfl, .refl _,rfl, .refl _,rfl, .refl _,rfl, .refl _,rfl, .refl _,rfl,trivial⟩ (hC rfl rfl rfl (hC rfl rfl rfl trivial)) rfl) fun k hk _=>?_
  refine gA rfl ?_;refine VJ (fun h2=>?_) (fun h2=>?_)
  ·have h2:k<(p.rules.getD i default).body.length:=by simpa using h2
   have hs2:(b&&((p.rules.getD i default).body.take (k+1)).all jE)=((b&&((p.rules.getD i default).body.take k).all jE)&&jE ((p.rules.getD i default).body.getD k default)):=by
    rw[aY h2,YI,Bool.and_assoc];simp
   generalize(b&&((p.rules.getD i default).body.take k).all jE)=c at*
   have fin: ∀d:Bool,d=(c&&jE ((p.rules.getD i default).body.getD k default))→d=(b&&((p.rules.getD i default).body.take (k+1)).all jE):=fun d h=>by rw[hs2,h]
   refine gA rfl ?_;refine VJ (fun g1=>?_) (fun g1=>?_)
   ·have g1:c=true:=g1
    refine gA rfl ?_;refine VJ (fun g2=>?_) (fun g2=>?_)
    ·refine gA rfl ?_
     exact⟨h2,trivial,[],wk rfl rfl rfl ⟨.refl _,rfl, .of_eq (kE (fin _ (by rw[g1,jE,decide_eq_true (show(((p.rules.getD i default).body.getD k default).kind≠2) by simpa using g2)];simp))),rfl, .refl _,rfl, .refl _,rfl, .refl _,rfl, .refl _,rfl, .refl _,rfl, .refl _,rfl, .refl _,rfl,trivial⟩ (hC rfl rfl rfl (hC rfl rfl rfl trivial)) rfl⟩
    ·refine gA rfl ?_
     exact⟨h2,trivial,[],wk rfl rfl rfl ⟨.refl _,rfl,ak.U4 (fin _ (by rw[g1,jE,decide_eq_false (show¬(((p.rules.getD i default).body.getD k default).kind≠2) by simpa using g2)];simp)),rfl, .refl _,rfl, .refl _,rfl, .refl _,rfl, .refl _,rfl, .refl _,rfl, .refl _,rfl, .refl _,rfl,trivial⟩ (hC rfl rfl rfl (hC rfl rfl rfl trivial)) rfl⟩
   ·have g1:c=false:=g1
    refine gA rfl ?_;exact⟨h2,trivial,[],wk rfl rfl rfl ⟨.refl _,rfl,ak.U4 (fin _ (by rw[g1];simp)),rfl, .refl _,rfl, .refl _,rfl, .refl _,rfl, .refl _,rfl, .refl _,rfl, .refl _,rfl, .refl _,rfl,trivial⟩ (hC rfl rfl rfl (hC rfl rfl rfl trivial)) rfl⟩
  ·have h2:(p.rules.getD i default).body.length≤k:=by simpa using h2
   refine gA rfl ?_;exact⟨h1,trivial,[],wk rfl rfl rfl ⟨.refl _,rfl, .of_eq (kE (by rw[hst,VY h2])),rfl, .refl _,rfl, .refl _,rfl, .refl _,rfl,trivial⟩ (hC rfl rfl rfl trivial) rfl⟩
 ·have h1:p.rules.length≤i:=by simpa using h1
  refine gA rfl (au (by first|exact .inr rfl|exact .inl rfl) rfl (.of_eq ?_));rw[VY h1];rfl
abbrev VH:=ah×ah×Bool
def RK (x:VH):List IV:=[iS x.1,iS x.2.1, .v (.bool x.2.2)]
def sG (p:Prog):List VH:=if(bm p).1=0 then yZ p else[]
def bI (p:Prog) (a:ah):List VH:=(aQ p a).map fun b=>(a,b,tL p a b)
theorem yY {p:Prog} {i:Nat} (h:i<(ns p).length):((ns p).take (i+1)).flatMap (bI p)=((ns p).take i).flatMap (bI p)++bI p ((ns p).getD i default):=by
 rw[aY h,XM];simp
theorem wv (p:Prog) (a:ah):(aQ p a).length≤(ns p).length:=WR _ _
theorem DC {p:Prog} (h:(ns p).length≤64) (i:Nat):(((ns p).take i).flatMap (bI p)).length≤10000:=by
 have h1:=n6 (bI p) (fun _=>64) (fun a=>by unfold bI;rw[Wr];exact Wh (wv p a) h) ((ns p).take i)
 have h2: ∀l:List ah,(l.map fun _=>64).sum=l.length*64:=by
  intro l
  induction l with
  |nil=>rfl
  |cons x l ih=>rw[V6,Xy,ih,Wu];omega
 rw[h2,Xc] at h1;omega
theorem Rf (hS:dD) (p:Prog) (hb:p.fit) (hs:p.size≤10000000):Pure Tryz.prog 13 [ag p.c] (.iv (cV 3 (sG p) RK)):=by
 by_cases k1:(bm p).1=0;rotate_left
 ·rw[sG,if_neg k1]
  refine az ae Tryz.func13 rfl (by decide) Tryz.ntmps13 rfl (by simp) rfl ?_;refine gA rfl (aj (u3 hS hb k1) rfl rfl rfl rfl rfl rfl ?_);refine gA rfl (aj (nE hS) rfl rfl rfl rfl rfl rfl ?_);refine gA rfl ?_
  refine aL 0 0 (V1 _) (fun i=>⟨[(5, .iv (.v (.slice none 0 0))),(17,pI 0),(18,pI 0)],[],1⟩) (fun _=>True) [] trivial
   (wk rfl rfl rfl ⟨.refl _,rfl, .refl _,rfl, .refl _,rfl,trivial⟩ trivial rfl) fun i hi _=>?_
  refine gA rfl ?_;refine VJ (fun h1=>?_) (fun h1=>?_)
  ·exact absurd h1 (by decide)
  refine gA rfl (au (by first|exact .inr rfl|exact .inl rfl) rfl ?_);exact .nil _ _
 have hf:=fw k1;have hn:=lN hf;rw[sG,if_pos k1];refine az ae Tryz.func13 rfl (by decide) Tryz.ntmps13 rfl (by simp) rfl ?_;refine gA rfl (aj (rA hS hb k1) rfl rfl rfl rfl rfl rfl ?_);refine gA rfl (aj (j3 hS hf (aC p)) rfl rfl rfl rfl rfl rfl ?_);refine gA rfl ?_;refine jI 5 3 rfl ?_
 refine aL 0 (ns p).length (V1 _) (fun i=>⟨[(3, .iv (mG (ba p (aC p)))),(5, .sl 2 0 (((ns p).take i).flatMap (bI p)).length 3),(16, .iv (strs (ns p))),(17,pI (ns p).length),(18,pI i)],[(2,some (a7 3 (((ns p).take i).flatMap (bI p)) RK))],3⟩) (fun _=>True) [1] trivial
  (wk rfl rfl rfl ⟨.refl _,rfl, .refl _,rfl, .refl _,rfl, .refl _,rfl, .refl _,rfl,trivial⟩ (hR rfl rfl rfl trivial) rfl) fun i hi _=>?_
 refine gA rfl ?_;refine VJ (fun h1=>?_) (fun h1=>?_)
 ·have h1:i<(ns p).length:=by simpa using h1
  have ha:(ns p).getD i default∈p.aS.map Decl.name:=by have:=bp h1;rwa[ns,cJ] at this
  have hst:=yY h1;have hle:=DC hn i;have hsl:=wv p ((ns p).getD i default);refine gM 13 rfl (oH ae (.iv (nY (bZ (aC p) ((ns p).getD i default)))) rfl rfl rfl rfl (lY p _ ha) rfl ?_);refine gA rfl (aj (OP hS hf (mF hs) ((ns p).getD i default)) rfl rfl rfl rfl rfl rfl ?_);refine gA rfl ?_
  refine aL 0 (aQ p ((ns p).getD i default)).length (V1 _) (fun k=>⟨[(3, .iv (mG (ba p (aC p)))),(7,pS ((ns p).getD i default)),(5, .sl 3 0 (((ns p).take i).flatMap (bI p)++(bI p ((ns p).getD i default)).take k).length 3),(16, .iv (strs (ns p))),(17,pI (ns p).length),(18,pI i),(25, .iv (strs (aQ p ((ns p).getD i default)))),(26,pI (aQ p ((ns p).getD i default)).length),(27,pI k)],[(3,some (a7 3 (((ns p).take i).flatMap (bI p)++(bI p ((ns p).getD i default)).take k) RK))],4⟩) (fun _=>True) [2] trivial
   (wk rfl rfl rfl ⟨.refl _,rfl, .refl _,rfl, .row (by simp),rfl, .refl _,rfl, .refl _,rfl, .refl _,rfl, .refl _,rfl, .refl _,rfl, .refl _,rfl,trivial⟩ (hR rfl (by simp) rfl trivial) rfl) fun k hk _=>?_
  refine gA rfl ?_;refine VJ (fun h2=>?_) (fun h2=>?_)
  ·have h2:k<(aQ p ((ns p).getD i default)).length:=by simpa using h2
   have hk2:(bI p ((ns p).getD i default)).take (k+1)=(bI p ((ns p).getD i default)).take k++ [((ns p).getD i default,(aQ p ((ns p).getD i default)).getD k default,tL p ((ns p).getD i default) ((aQ p ((ns p).getD i default)).getD k default))]:=by
    unfold bI;rw[←List.map_take,aY h2,VN];simp
   have hkl:((bI p ((ns p).getD i default)).take k).length≤64:=by rw[Xc];omega
   have hll:(((ns p).take i).flatMap (bI p)++(bI p ((ns p).getD i default)).take k).length≤100000:=by rw[VL];omega
   have hq:decide (bF .str (bZ (aC p) ((ns p).getD i default)) ((aQ p ((ns p).getD i default)).getD k default) 0=2)=tL p ((ns p).getD i default) ((aQ p ((ns p).getD i default)).getD k default):=by
    rw[zq,tL];exact decide_eq_decide.2 (by omega)
   have hL:((ns p).take i).flatMap (bI p)++(bI p ((ns p).getD i default)).take (k+1)=(((ns p).take i).flatMap (bI p)++(bI p ((ns p).getD i default)).take k)++ [((ns p).getD i default,(aQ p ((ns p).getD i default)).getD k default,decide (bF .str (bZ (aC p) ((ns p).getD i default)) ((aQ p ((ns p).getD i default)).getD k default) 0=2))]:=by
    rw[hk2,hq,VU]
   clear hk2 hq
   generalize((ns p).take i).flatMap (bI p)++(bI p ((ns p).getD i default)).take k=L at*
   refine gM 15 rfl (oH ae (.iv (nY (bZ (aC p) ((ns p).getD i default)))) rfl rfl rfl rfl (lY p _ ha) rfl ?_);refine gA rfl ?_;exact⟨h2,trivial,[5],wk rfl rfl rfl ⟨.refl _,rfl, .refl _,rfl, .row (by rw[hL,VL];rfl),rfl, .refl _,rfl, .refl _,rfl, .refl _,rfl, .refl _,rfl, .refl _,rfl, .refl _,rfl,trivial⟩ (hR rfl (by rw[hL,VN];rfl) rfl trivial) rfl⟩
  ·have h2:(aQ p ((ns p).getD i default)).length≤k:=by simpa using h2
   have e:(bI p ((ns p).getD i default)).take k=bI p ((ns p).getD i default):=VY (by unfold bI;rw[Wr];exact h2);refine gA rfl ?_;exact⟨h1,trivial,[3],wk rfl rfl rfl ⟨.refl _,rfl, .row (by rw[e,hst]),rfl, .refl _,rfl, .refl _,rfl, .refl _,rfl,trivial⟩ (hR rfl (by rw[e,hst]) rfl trivial) rfl⟩
 ·have h1:(ns p).length≤i:=by simpa using h1
  rw[VY h1];refine gA rfl (eU (by first|exact .inr rfl|exact .inl rfl) rfl rfl (rfl) (rfl))
end Go.Proofs.YtflegjieadkonaaGreatDoor
namespace Go.Al
section
variable {P:Program} {ty:Ty} {nt:Nat} {Q:AQ} {k:List KI} {s:AS}
theorem RF (hty:bP P ty) {all:List Oper} {todo pend:List (Nat×Oper)} {j:Nat} {o:Oper} {c:Call} {g:FuncId} {asv args:List PV} {os:List AO} {R:PV→AH→Nat→Prop} {CA:Prop} (L:List Nat) (hc:Fn P g args os R)
  (hrd:fe todo=[(j,o)]) (ho:o.op= .call c) (ha:cM s.f c=some (g,asv)) (hn:dY L=true) (hl:L.all (fun j=>Wg j s.nx)=true) (hob:L.map s.h.get=os.map fun o=>some (o.cN (sig L s.nx))) (hargs:asv=dF (sig L s.nx) args)
  (hg:cy nt all s.f o=some true) (hpb:iW all pend o=true) (hE:oP todo [j]=true) (hag:s6 ty nt all s todo pend=some CA) (hCA:CA)
  (h: ∀r h' n',R r h' n'→ ∃s',putDst nt o (r.cN (sig L s.nx)) (bf s L h' n')=some s'∧ ∃C2,dP ty nt all s' (bb pend o)=some C2∧C2∧GO P nt (.cA all (todo.filter fun x=>!Wd x.1 j) (bb pend o)::k) Q s'):
  GO P nt (.cA all todo pend::k) Q s:=by
 have hmem:(j,o)∈fe todo:=by rw[hrd];simp
 obtain⟨h3,h4⟩:=Wi.1 hmem;simp only[Ws,Xf,WA] at h4
 have hagn: ∀y∈todo,aM y.2=true→ ∀y∈pend,fa P nt all s y.2:=by
  intro y hy hya;unfold s6 at hag;split at hag
  ·exact cU hty hag hCA
  ·rename_i h2
   have:=WA.1 h2 y hy;rw[hya] at this;exact absurd rfl this
 refine qW hE ⟨_,h3,h4.1⟩ hagn fun j' o' hj _ hu=>?_;simp only[VX] at hj;subst hj;have:=hu o h3;subst this;refine⟨h4.1,fun y hy _=>by simpa using h4.2 y hy,hpb,hg,_,jL (S:=fun t=> ∃C2,dP ty nt all t (bb pend o)=some C2∧C2∧GO P nt (.cA all (todo.filter fun x=>!Wd x.1 j') (bb pend o)::k) Q t) ho ha hc (dW hn) (fun j hj=>VI (Wl.1 hl j hj)) hob hargs h,fun t ⟨C2,h5,h6,h7⟩=>⟨cU hty h5 h6,h7⟩⟩
end
end Go.Al
namespace Go.Proofs.YtflegjieadkonaaGreatDoor
open Go Go.Al
set_option maxRecDepth 10000
theorem IZ (hS:dD) (p:Prog) (n:Int) (hb:p.fit) (hs:p.size≤10000000):Pure Tryz.prog 20 [ag p.c,pI n] (pB (iQ p n)):=by
 have hrl:p.rules.length≤1000000000:=hb.2.1;by_cases k1:(bm p).1=0;rotate_left
 ·rw[show iQ p n=false by unfold iQ;rw[decide_eq_false k1];simp]
  refine az ae Tryz.func20 rfl (by decide) Tryz.ntmps20 rfl (by simp) rfl ?_;refine gA rfl (aj (u3 hS hb k1) rfl rfl rfl rfl rfl rfl ?_);refine gA rfl ?_;refine VJ (fun k2=>?_) (fun k2=>?_)
  ·cases k2
  refine gA rfl (au (by first|exact .inr rfl|exact .inl rfl) rfl (.of_eq ?_));rfl
 have hf:=fw k1;refine az ae Tryz.func20 rfl (by decide) Tryz.ntmps20 rfl (by simp) rfl ?_;refine gA rfl (aj (rA hS hb k1) rfl rfl rfl rfl rfl rfl ?_);refine gA rfl ?_;refine VJ (fun k2=>?_) (fun k2=>?_);rotate_left
 ·cases k2
 refine gA rfl ?_;refine VJ (fun g1=>?_) (fun g1=>?_);rotate_left
 ·have g1: ¬1≤n:=by simpa using g1
  rw[show iQ p n=false by unfold iQ;rw[decide_eq_false g1];simp];refine gA rfl (au (by first|exact .inr rfl|exact .inl rfl) rfl (.of_eq ?_));rfl
 have g1:1≤n:=by simpa using g1
 refine gA rfl ?_;refine VJ (fun g2=>?_) (fun g2=>?_);rotate_left
 ·have g2: ¬n≤p.rules.length:=by simpa using g2
  rw[show iQ p n=false by unfold iQ;rw[decide_eq_false g2];simp];refine gA rfl (au (by first|exact .inr rfl|exact .inl rfl) rfl (.of_eq ?_));rfl
 have g2:n≤p.rules.length:=by simpa using g2
 have hi:(n-1).toNat<p.rules.length:=by omega
 have hr:=bp (l:=p.rules) hi;have hrd:iQ p n=lJ p (p.rules.getD (n-1).toNat default):=by unfold iQ;rw[decide_eq_true k1,decide_eq_true g1,decide_eq_true g2];rfl
 refine gA rfl (RF ae [] (yk hS hf (mF hs)) rfl rfl rfl rfl rfl rfl rfl rfl rfl rfl rfl (by(repeat' (first|exact trivial|exact rfl|exact ak.refl _|exact ak.bk (by assumption)|apply VJ))<;>first|omega|(simp only[VQ];omega)|(simp;done)|(simp;omega)) ?_)
 rintro r h' n' ⟨m,hR,rfl,rfl,rfl⟩
 refine⟨_,rfl,_,rfl,(by(repeat' (first|exact trivial|exact rfl|exact ak.refl _|exact ak.bk (by assumption)|apply VJ))<;>first|omega|(simp only[VQ];omega)|(simp;done)|(simp;omega)),?_⟩;refine gA rfl (cz ae [] (Pure.xO (Cj m (p.rules.getD (n-1).toNat default))) rfl rfl rfl rfl rfl rfl rfl rfl rfl rfl rfl rfl (by(repeat' (first|exact trivial|exact rfl|exact ak.refl _|exact ak.bk (by assumption)|apply VJ))<;>first|omega|(simp only[VQ];omega)|(simp;done)|(simp;omega)) rfl (by(repeat' (first|exact trivial|exact rfl|exact ak.refl _|exact ak.bk (by assumption)|apply VJ))<;>first|omega|(simp only[VQ];omega)|(simp;done)|(simp;omega)) ?_);refine gA rfl (au (by first|exact .inr rfl|exact .inl rfl) rfl (.of_eq ?_));rw[hrd,←Cu hf hR hr];rfl
end Go.Proofs.YtflegjieadkonaaGreatDoor
namespace Go.Proofs.YtflegjieadkonaaGreatDoor
open Go Go.Al
set_option maxRecDepth 10000
section
variable {X:Type} (f:X→AO)
def gI (L:List (Nat×Nat×X)):aX:=fun c=>(L.find? fun y=>y.1==c).map fun y=> .obj (f y.2.2) y.2.1
theorem lH (L:List (Nat×Nat×X)):(gI f L).still:=by
 intro b i e h;unfold gI at h;cases hf:L.find? fun y=>y.1==b<;>rw[hf] at h<;>cases h
theorem xM: ∀{L:List (Nat×Nat×X)} {j:Nat} {y:Nat×Nat×X},(L.map We).Nodup→L[j]? =some y→L.find? (fun z=>z.1==y.1)=some y
 | [],_,_,_,h=>by simp at h
 |x::L,0,y,_,h=>by
  simp only[XN,VM] at h
  subst h;simp
 |x::L,j+1,y,hn,h=>by
  rw[W5] at h;rw[V6,WC] at hn;have hne: ¬x.1=y.1:=fun e=>hn.1 (e▸WD (Wj h));rw[YG (by simpa using hne)];exact xM hn.2 h
theorem gH {L:List (Nat×Nat×X)} {j:Nat} {y:Nat×Nat×X} (hn:(L.map We).Nodup) (h:L[j]? =some y):gI f L y.1=some (.obj (f y.2.2) y.2.1):=by
 unfold gI;rw[xM hn h];rfl
theorem j1 {L:List (Nat×Nat×X)} {c:Nat} (h:c∉L.map We):gI f L c=none:=by
 unfold gI;rw[XE,W3];intro y hy;simp only[beq_iff_eq];exact fun e=>h (e▸WD hy)
theorem wH {L:List (Nat×Nat×X)} {c:Nat} (h:gI f L c=none):c∉L.map We:=by
 intro hm;obtain⟨y,hy,rfl⟩:=Wo.1 hm;unfold gI at h;rw[XE,W3] at h;exact h y hy (by simp)
theorem p9 {L:List (Nat×Nat×X)} {y:Nat×Nat×X} (hn:(L.map We).Nodup) (h:y.1∉L.map We):((L++ [y]).map We).Nodup:=by
 rw[VN,W8];exact⟨hn,by simp,fun u hu v hv g=>h (by simp at hv;subst g;subst hv;exact hu)⟩
theorem yj {L:List (Nat×Nat×X)} {y:Nat×Nat×X} (hn:(L.map We).Nodup) (h:y.1∉L.map We):(gI f L).put y.1 (.obj (f y.2.2) y.2.1)=gI f (L++ [y]):=by
 funext c
 have hn2:=p9 hn h;unfold aX.put;by_cases hc:c=y.1
 ·subst hc
  rw[if_pos rfl,gH f hn2 (j:=L.length) (y:=y) (by simp)]
 ·rw[if_neg hc]
  by_cases hm:c∈L.map We
  ·obtain⟨z,hz,rfl⟩:=Wo.1 hm
   obtain⟨i,hi⟩:=WE hz;rw[gH f hn hi,gH f hn2 (j:=i) (by rw[V9 (VO.1 hi).1];exact hi)]
  ·rw[j1 f hm,j1 f (by simp only[VN,V3,not_or];exact⟨hm,by simpa using hc⟩)]
theorem CQ {α:Type} {l:List α}:l.Nodup↔ ∀(i j:Nat) (x:α),l[i]? =some x→l[j]? =some x→i=j:=by
 constructor
 ·intro h i j x hi hj
  obtain⟨h1,h2⟩:=VO.1 hi;obtain⟨h3,h4⟩:=VO.1 hj;exact(X4 h).1 (h2.trans h4.symm)
 ·intro h
  rw[List.nodup_iff_pairwise_ne,XG];intro i j hi hj hij e;have:=h i j l[i] (VS hi) (by rw[VS hj,e]);omega
theorem rS {L:List (Nat×Nat×X)} {i:Nat} {y y':Nat×Nat×X} (hn:(L.map We).Nodup) (hy:L[i]? =some y) (h:y'.1∉L.map We∨y'.1=y.1):((L.set i y').map We).Nodup:=by
 rw[Yo];have hi:=(VO.1 hy).1;have hiy:(L.map We)[i]? =some y.1:=by rw[VV,hy];rfl
 rw[CQ] at hn ⊢
 have hin: ∀k,(L.map We)[k]? =some y'.1→i=k:=by
  intro k e;rcases h with h|h
  ·exact absurd (Wj e) h
  ·rw[h] at e;exact hn _ _ _ hiy e
 intro a b x ha hb;rw[XC] at ha hb;split at ha
 ·rw[if_pos (by simpa using hi)] at ha
  cases ha;split at hb
  ·omega
  ·have:=hin b hb;omega
 ·split at hb
  ·rw[if_pos (by simpa using hi)] at hb
   cases hb;have:=hin a ha;omega
  ·exact hn a b x ha hb
theorem AD {L:List (Nat×Nat×X)} {i j e:Nat} {y y':Nat×Nat×X} (hn:(L.map We).Nodup) (hy:L[i]? =some y) (h:y'.1∉L.map We∨y'.1=y.1):
  (((gI f L).put y.1 (.out j e)).drop y.1).put y'.1 (.obj (f y'.2.2) y'.2.1)=gI f (L.set i y'):=by
 funext c
 have hn2:=rS hn hy h;have hi:=(VO.1 hy).1;unfold aX.put aX.drop;by_cases hc:c=y'.1
 ·subst hc
  rw[if_pos rfl,gH f hn2 (j:=i) (y:=y') (by rw[XC,if_pos rfl,if_pos hi])]
 ·rw[if_neg hc]
  by_cases hcy:c=y.1
  ·rw[if_pos hcy,j1 f]
   rw[Yo];intro hm;obtain⟨k,hk⟩:=WE hm;rw[XC] at hk;split at hk
   ·rw[if_pos (by simpa using hi)] at hk;cases hk;exact hc rfl
   ·rename_i hik
    have hiy:(L.map We)[i]? =some y.1:=by rw[VV,hy];rfl
    rw[hcy] at hk;exact hik (CQ.1 hn _ _ _ hiy hk)
  ·rw[if_neg hcy]
   show(if c=y.1 then _ else gI f L c)=_;rw[if_neg hcy];by_cases hm:c∈L.map We
   ·obtain⟨z,hz,rfl⟩:=Wo.1 hm
    obtain⟨k,hk⟩:=WE hz;have hki: ¬i=k:=fun g=>hcy (by subst g;rw[hy] at hk;cases hk;rfl);rw[gH f hn hk,gH f hn2 (j:=k) (by rw[XC,if_neg hki];exact hk)]
   ·rw[j1 f hm,j1 f]
    rw[Yo];intro hm2;obtain⟨k,hk⟩:=WE hm2;rw[XC] at hk;split at hk
    ·rw[if_pos (by simpa using hi)] at hk;cases hk;exact hc rfl
    ·exact hm (Wj hk)
end
end Go.Proofs.YtflegjieadkonaaGreatDoor
namespace Go.Al
structure BX where
 M:Mem
 N:Nm
 n:Nat
 h:AH
 X:aX
 w:World
def UH (nt:Nat) (B:BX) (R:XQ):Exit→Act→World→Prop:=fun e a' w'=>
 ∃M' N' s' X',fP B.M B.N B.n B.h B.X B.w M' N' s'.nx s'.h X' w'∧Fits M' N' s' nt a' w'∧cR M' N' s'.nx s'.h X' w'∧R e s' X'
def wb (P:Program) (nt:Nat) (all:List Oper) (todo pend:List (Nat×Oper)) (R:XQ) (s:AS) (X:aX):Prop:=
 Region.noSelect all.toArray=true→eM 0 all=true→gk P nt all→(∀x∈todo,aM x.2=false)→ ∀(B:BX) (B0:Bs) M N listed a w fuel,fP B.M B.N B.n B.h B.X B.w M N s.nx s.h X w→cR M N s.nx s.h X w→
  kC P nt all todo pend B0 M N s listed a w→listed.toList.count false≤fuel→wpAny P .any all.toArray (UH nt B R) fuel listed a w
section
variable {P:Program} {ty:Ty} {nt:Nat} {all:List Oper} {todo pend:List (Nat×Oper)} {Q R:XQ} {k:List XI} {s:AS} {X:aX}
theorem z7 (h:R .normal s X):wb P nt all [] pend R s X:=by
 intro hns hd hal hna B B0 M N listed a w fuel hB hs
 induction fuel generalizing listed a with
 |zero=>
  intro hi hc
  have hall: ∀i,listed.getD i true=true:=fun i=>by
   cases hx:listed.getD i true with
   |true=>rfl
   |false=>have:=kq hx;omega
  exact⟨rQ hall,M,N,s,X,hB,hi.done hall,hs,h⟩
 |succ fuel ih=>
  intro hi hc;refine⟨fun hr=>⟨M,N,s,X,hB,hi.done (iR hi.size hd hr),hs,h⟩,fun i hir=>?_⟩;obtain⟨hu,o,ho,_⟩:=mem_ready.1 hir;have ho':all[i]? =some o:=by simpa using ho
  rcases hi.BG i o ho' hu with hm|hm
  ·cases hm
  ·obtain⟨v,hv,hi'⟩:=hi.take hns hal hm hir
   refine wpOp_of_stOp (K:=fun a'=>a'=a.put o.dst v) (fun a' ha=>?_) (hv.stOp ho rfl);subst ha;exact ih _ _ hi' (by have:=cB hu;omega)
theorem sH {i:Nat} {o:Oper} {s':AS} (hin:(i,o)∈todo) (hna:aM o=false) (hwa: ∀x∈todo,waits o x.1=false) (hadd:tw all pend o=true) (he:s'.h=s.h∧s'.nx=s.nx)
  (hy: ∀M N b w,Fits M N s nt b w→ ∃v,YieldsAt P all.toArray w o v b∧Fits M N s' nt (b.put o.dst v) w) (h:wb P nt all (todo.filter fun x=>!Wd x.1 i) ((i,o)::pend) R s' X):wb P nt all todo pend R s X:=by
 intro hns hd hal hna' B B0 M N listed a w fuel hB hs hi hc;exact h hns hd hal (fun x hx=>hna' x (Wi.1 hx).1) B B0 M N listed a w fuel (by rw[he.1,he.2];exact hB) (by rw[he.1,he.2];exact hs) (hi.read hns hin hna hwa hadd he hy) hc
theorem mf {T:AS→aX→Prop} (h:SX nt s X T) (hk: ∀t Y,T t Y→wb P nt all todo pend R t Y):wb P nt all todo pend R s X:=by
 intro hns hd hal hna B B0 M N listed a w fuel hB hs hi hc;obtain⟨b,hb,hr⟩:=hi.ap;obtain⟨M',N',t,Y,h1,h2,h3,h4⟩:=h M N b w hb hs;obtain⟨bl,he1,_⟩:=hi.er
 have hno: ∀x∈todo,listed.getD x.1 true=true→False:=fun x hx hl=>by
  have:=(he1 x hx hl).alloc;rw[hna x hx] at this;cases this
 exact hk t Y h4 hns hd hal hna B B0 M' N' listed a w fuel (hB.trans h1) h3 ⟨hi.size,hi.tl,hi.pl,hi.dj,hi.BG,hi.pw,hi.pp,hi.pa,⟨bl,fun x hx hl=>(hno x hx hl).elim,fun x hx _ _ hl=>(hno x hx hl).elim⟩,b,h2,hr⟩ hc
theorem JX {j:Nat} {o:Oper} {T:AS→Prop} (hrd:fe todo=[(j,o)]) (hg:cy nt all s.f o=some true) (hpb:iW all pend o=true) (hE:oP todo [j]=true) (hOT:OT P nt o s T)
  (h: ∀s',T s'→(∀x∈bb pend o,fa P nt all s' x.2)∧wb P nt all (todo.filter fun x=>!Wd x.1 j) (bb pend o) R s' X):wb P nt all todo pend R s X:=by
 have hmem:(j,o)∈fe todo:=by rw[hrd];simp
 obtain⟨hjt,h4⟩:=Wi.1 hmem;simp only[Ws,Xf,WA] at h4;intro hns hd hal hna B B0 M N listed a w fuel hB hs
 induction fuel generalizing listed a w with
 |zero=>
  intro hi hc;obtain⟨bl,he1,_⟩:=hi.er
  have hxu:listed.getD j true=false:=by
   cases hl:listed.getD j true with
   |false=>rfl
   |true=>have:=(he1 _ hjt hl).alloc;simp only at this;rw[h4.1] at this;cases this
  have:=kq hxu
  omega
 |succ fuel ih=>
  intro hi hc;obtain⟨bl,he1,he2⟩:=hi.er
  have hunl: ∀x∈todo,aM x.2=false→listed.getD x.1 true=false:=fun x hx hxa=>by
   cases hl:listed.getD x.1 true with
   |false=>rfl
   |true=>have:=(he1 x hx hl).alloc;rw[hxa] at this;cases this
  refine⟨fun hr=>?_,fun i hir=>?_⟩
  ·have:=iR hi.size hd hr j
   rw[hunl _ hjt h4.1] at this;cases this
  obtain⟨hu,q,hq,hall⟩:=mem_ready.1 hir;have hq':all[i]? =some q:=by simpa using hq
  rcases hi.BG i q hq' hu with hm|hm
  ·have hij:i=j:=by
    have:=Wl.1 hE _ hm;simp only[Wy,WU,Wc,Ws] at this;rcases this with h1|h1|⟨y,hy,h0,h1⟩
    ·simpa using h1
    ·rw[hna _ hm] at h1;cases h1
    ·obtain⟨e,he,hb,hon⟩:=ep h1
     have:=hall e he hb;rw[hon,jn (hunl y hy h0)] at this;cases this
   subst hij
   have hqo:q=o:=by
    have:=hi.tl _ hjt;simp only at this;rw[hq'] at this;exact WQ this
   subst hqo;obtain⟨b,hb,hsame,hwan,hnew⟩:=hi.eff hns hd hal hjt (fun x hx hxa=>by rw[hna x hx] at hxa;cases hxa) hpb hir hu;unfold wpOp;simp only[hq];rw[if_pos (by rw[hwan];exact cY hg hb)];refine .inl (y6 (K':=fun a' w'=> ∃M' N' s',Ext M N (· <s.nx) s.h w M' N' (· <s'.nx) s'.h w'∧Fits M' N' s' nt a' w'∧T s') hsame ?_ ?_ (hOT M N b w hb _ _ fun M' N' s' a' w' hx hf hr=>⟨M',N',s',hx,hf,hr⟩))
   ·rintro d w' ⟨M',N',s',_,hf,_⟩
    have:=hf.2.2.1;rw[iy] at this;cases this
   ·rintro v w' ⟨M',N',s',hx,hf,hr⟩
    obtain⟨h5,h6⟩:=h s' hr;obtain⟨g1,g2⟩:=fP.frame hx hs;exact h6 hns hd hal (fun x hx=>hna x (Wi.1 hx).1) B B0 M' N' _ _ w' fuel (hB.trans g1) g2 (hnew v M' N' s' w' hx hf h5) (by have:=cB hu;omega)
  ·obtain⟨v,hv,hi'⟩:=hi.take hns hal hm hir
   refine wpOp_of_stOp (K:=fun a'=>a'=a.put q.dst v) (fun a' ha=>?_) (hv.stOp hq rfl);subst ha;exact ih _ _ _ hB hs hi' (by have:=cB hu;omega)
theorem De {id:Nat} {ops:Array Oper} (hm:P.follows .mixedOrders=true) (hns:pr ops.toList=true) (hd:eM 0 ops.toList=true) (hna:ops.toList.all (fun o=>!aM o)=true) (h:wb P nt ops.toList (eG 0 ops.toList) [] (kx P nt k Q) s X):GX P nt (.code (.region id ops true)::k) Q s X:=by
 intro M N a w hf hs;refine wp_region_any hm ?_;have hf':=hf.drew;have hna: ∀o∈ops.toList,aM o=false:=fun o ho=>by simpa using Wl.1 hna o ho
 have hin: ∀x∈eG 0 ops.toList,ops.toList[x.1]? =some x.2:=fun x hx=>by
  obtain⟨_,h2⟩:=(fX _ 0 x.1 x.2).1 hx;simpa using h2
 have hfl: ∀i,i<ops.size→(Xm ops.size false).getD i true=false:=fun i hi=>by simp[VK,hi]
 have hno: ∀x∈eG 0 ops.toList,(Xm ops.size false).getD x.1 true=true→False:=fun x hx hl=>by
  have:x.1<ops.size:=by simpa using(VO.1 (hin x hx)).1
  rw[hfl _ this] at hl;cases hl
 have:=h (uc hns) hd (fun i o ho ha=>by rw[hna o (Wj ho)] at ha;cases ha) (fun x hx=>hna _ (Wj (hin x hx))) ⟨M,N,s.nx,s.h,X,w⟩ ⟨M,N,s.nx,s.h,w⟩ M N (Xm ops.size false) a {w with drawn:=w.drawn+1} ops.size fP.drew hs.drew
  ⟨by simp,hin,fun _ hx=>(nomatch hx),fun _ hx=>(nomatch hx),fun i o ho _=> .inl ((fX _ 0 i o).2 ⟨V1 _,by simpa using ho⟩),Yt,fun _ hx=>(nomatch hx),fun _ hx=>(nomatch hx),
   ⟨fun _=>0,fun x hx hl=>(hno x hx hl).elim,fun x hx _ _ hl=>(hno x hx hl).elim⟩,⟨a,hf',rfl,rfl,fun _ _ _=>rfl,fun _ hx=>(nomatch hx)⟩⟩ (by simp)
 rw[W9] at this;exact this
def O0 (ty:Ty) (nt:Nat) (all:List Oper):Nat→List (Nat×Oper)→List (Nat×Oper)→AS→Prop→Prop×List (Nat×Oper)×List (Nat×Oper)×AS
 |0,todo,pend,s,C=>(C,todo,pend,s)
 |n+1,todo,pend,s,C=>match jD ty nt s all todo pend todo with
  |some (.read i o p C')=>match putDst nt o p s with
   |none=>(C,todo,pend,s)
   |some s'=>match vi o.op with
    |true=>O0 ty nt all n (todo.filter fun x=>!Wd x.1 i) ((i,o)::pend) s' (C∧C')
    |false=>O0 ty nt all n (todo.filter fun x=>!Wd x.1 i) ((i,o)::pend) s' C
  |some (.skip i o)=>O0 ty nt all n (todo.filter fun x=>!Wd x.1 i) ((i,o)::pend) (fc o s) C
  |_=>(C,todo,pend,s)
theorem vQ (hty:bP P ty): ∀{n:Nat} {todo pend:List (Nat×Oper)} {s:AS} {C C':Prop} {todo' pend':List (Nat×Oper)} {s':AS},O0 ty nt all n todo pend s C=(C',todo',pend',s')→C'→C∧(wb P nt all todo' pend' R s' X→wb P nt all todo pend R s X)
 |0,todo,pend,s,C,C',todo',pend',s',h,hC=>by
  simp only[O0,V0] at h;obtain⟨rfl,rfl,rfl,rfl⟩:=h
  exact⟨hC,id⟩
 |n+1,todo,pend,s,C,C',todo',pend',s',h,hC=>by
  simp only[O0] at h;split at h
  ·rename_i i o p C1 hpk
   obtain⟨g1,ga,gb,g2,g3,g4⟩:=(lM (fun _ h=>h)).1 hpk;split at h
   ·simp only[V0] at h
    obtain⟨rfl,rfl,rfl,rfl⟩:=h;exact⟨hC,id⟩
   ·rename_i s1 hp
    split at h
    ·obtain⟨⟨h1,h2⟩,h3⟩:=vQ hty h hC
     obtain⟨e1,e2⟩:=iG hty g4 h2 hp;exact⟨h1,fun g=>sH g1 ga gb g3 e1 (fun M N b w hf=>let ⟨x,f1,f2⟩:=e2 M N b w hf;⟨x, .inl ⟨cY g2 hf, .inl f1⟩,f2⟩) (h3 g)⟩
    ·rename_i ho
     obtain⟨h1,h3⟩:=vQ hty h hC;obtain⟨e1,e2⟩:=iG hty g4 (qP g4 ho) hp;exact⟨h1,fun g=>sH g1 ga gb g3 e1 (fun M N b w hf=>let ⟨x,f1,f2⟩:=e2 M N b w hf;⟨x, .inl ⟨cY g2 hf, .inl f1⟩,f2⟩) (h3 g)⟩
  ·rename_i i o hpk
   obtain⟨g1,ga,gb,g2,g3⟩:=(lM (fun _ h=>h)).2 hpk;obtain⟨h1,h3⟩:=vQ hty h hC;exact⟨h1,fun g=>sH g1 ga gb g3 (fI o s) (fun _ _ _ _ hf=>⟨undef, .inr ⟨cY g2 hf,rfl⟩,hf.skip o⟩) (h3 g)⟩
  ·simp only[V0] at h
   obtain⟨rfl,rfl,rfl,rfl⟩:=h;exact⟨hC,id⟩
def UR (ty:Ty) (nt:Nat) (s:AS) (o:Oper):Option (Prop×AS):=match ic ty s o.op with
 |some (p,C)=>(putDst nt o p s).map fun s'=>(C,s')
 |none=>match BF ty s o.op with
  |some (p,s1)=>(putDst nt o p s1).map fun s'=>(True,s')
  |none=>match R8 ty s o.op with
   |some (C,p,s1)=>(putDst nt o p s1).map fun s'=>(C,s')
   |none=>none
theorem RN (hty:bP P ty) {o:Oper} {C:Prop} {s':AS} (h:UR ty nt s o=some (C,s')) (hC:C):OT P nt o s (fun t=>t=s'):=by
 unfold UR at h;split at h
 ·rename_i p C1 hr
  obtain⟨s1,h1,h2⟩:=VW.1 h;cases h2;exact pc hty hr hC h1
 ·split at h
  ·rename_i p s0 hm
   obtain⟨s1,h1,h2⟩:=VW.1 h;cases h2;exact yB hty hm h1
  ·split at h
   ·rename_i C1 p s0 hm
    obtain⟨s1,h1,h2⟩:=VW.1 h;cases h2;exact yc hty hm hC h1
   ·cases h
theorem JW (hty:bP P ty) (n:Nat) {C':Prop} {todo' pend':List (Nat×Oper)} {s':AS} (h:O0 ty nt all n todo pend s True=(C',todo',pend',s')) (hC:C') (g:wb P nt all todo' pend' R s' X):wb P nt all todo pend R s X:=(vQ hty h hC).2 g
theorem RO (hty:bP P ty) {j:Nat} {o:Oper} {C C2:Prop} {s':AS} (hrd:fe todo=[(j,o)]) (ho:UR ty nt s o=some (C,s')) (hg:cy nt all s.f o=some true) (hpb:iW all pend o=true) (hE:oP todo [j]=true) (hag:dP ty nt all s' (bb pend o)=some C2)
  (hC:C) (hC2:C2) (h:wb P nt all (todo.filter fun x=>!Wd x.1 j) (bb pend o) R s' X):wb P nt all todo pend R s X:=
 JX hrd hg hpb hE (RN hty ho hC) fun t ht=>by subst ht;exact⟨cU hty hag hC2,h⟩
end
end Go.Al
namespace Go.Proofs.YtflegjieadkonaaGreatDoor
open Go Go.Al
section
variable {nt:Nat} {all:List Oper} {todo pend:List (Nat×Oper)} {R:XQ} {s s':AS} {X:aX}
theorem dR (n:Nat) {C:Prop} {todo' pend':List (Nat×Oper)} (h:O0 uT nt all n todo pend s True=(C,todo',pend',s')) (g:wb Tryz.prog nt all todo' pend' R s' X)
  (hC:C:=by(repeat' (first|exact trivial|exact rfl|exact ak.refl _|exact ak.bk (by assumption)|apply VJ))<;>first|omega|exact gZ (fun _=>rfl) _|(simp only[VQ];omega)|(simp;done)|(simp;omega)):wb Tryz.prog nt all todo pend R s X:=JW ae n h hC g
theorem dO {j:Nat} {o:Oper} {C C2:Prop} (hrd:fe todo=[(j,o)]) (ho:UR uT nt s o=some (C,s')) (hg:cy nt all s.f o=some true) (hpb:iW all pend o=true) (hE:oP todo [j]=true) (hag:dP uT nt all s' (bb pend o)=some C2)
  (h:wb Tryz.prog nt all (todo.filter fun x=>!Wd x.1 j) (bb pend o) R s' X)
  (hC:C∧C2:=by(repeat' (first|exact trivial|exact rfl|exact ak.refl _|exact ak.bk (by assumption)|apply VJ))<;>first|omega|exact gZ (fun _=>rfl) _|(simp only[VQ];omega)|(simp;done)|(simp;omega)):wb Tryz.prog nt all todo pend R s X:=
 RO ae hrd ho hg hpb hE hag hC.1 hC.2 h
end
end Go.Proofs.YtflegjieadkonaaGreatDoor
namespace Go.Proofs.YtflegjieadkonaaGreatDoor
open Go Go.Al
section
variable {V:Type}
theorem CW {m:List ((KC.int .i64).K×V)} {s t:Int} {v z:V}:bF (.int .i64) (bQ (.int .i64) m s v) t z=if s=t then v else bF (.int .i64) m t z:=by
 induction m with
 |nil=>simp only[bQ,bF]
 |cons x r ih=>
  obtain⟨a,b⟩:=x;simp only[bQ];by_cases h:a=s
  ·rw[if_pos h];simp only[bF]
   by_cases h2:s=t
   ·simp[h2]
   ·have: ¬a=t:=fun e=>h2 (h▸e)
    rw[if_neg h2,if_neg h2,if_neg this]
  ·rw[if_neg h];simp only[bF,ih]
   by_cases h2:a=t
   ·have: ¬s=t:=fun e=>h (h2.trans e.symm)
    simp[h2,this]
   ·simp[h2]
theorem C8 {m:List ((KC.int .i64).K×V)} {s:Int} {v:V} (h:s∈m.map We):(bQ (.int .i64) m s v).map We=m.map We:=by
 induction m with
 |nil=>simp at h
 |cons x r ih=>
  obtain⟨a,b⟩:=x;simp only[bQ];by_cases h2:a=s
  ·rw[if_pos h2];simp[h2]
  ·have: ¬s=a:=fun e=>h2 e.symm
   rw[if_neg h2,V6,ih (by simpa[this] using h)];rfl
theorem w5 {m:List ((KC.int .i64).K×V)} {s:Int} {v:V} (h:s∉m.map We):bQ (.int .i64) m s v=m++ [(s,v)]:=by
 induction m with
 |nil=>simp[bQ]
 |cons x r ih=>
  obtain⟨a,b⟩:=x;simp only[V6,V4,not_or] at h;have: ¬a=s:=fun e=>h.1 e.symm;simp only[bQ,if_neg this,ih h.2];rfl
theorem yC {m:List ((KC.int .i64).K×V)} {t:Int} {z:V} (h:t∉m.map We):bF (.int .i64) m t z=z:=by
 induction m with
 |nil=>rfl
 |cons x r ih=>
  obtain⟨a,b⟩:=x;simp only[V6,V4,not_or] at h;have: ¬a=t:=fun e=>h.1 e.symm;simp only[bF,if_neg this];exact ih h.2
theorem JA {m:List ((KC.int .i64).K×V)} {t:Int} {z:V} (h:t∈m.map We):(t,bF (.int .i64) m t z)∈m:=by
 induction m with
 |nil=>simp at h
 |cons x r ih=>
  obtain⟨a,b⟩:=x;by_cases h2:a=t
  ·simp only[bF,if_pos h2];exact h2▸V8 ..
  ·have h3: ¬t=a:=fun e=>h2 e.symm
   simp only[bF,if_neg h2];exact V2 _ (ih (by simpa[h3] using h))
end
abbrev UK:=List ((KC.int .i64).K×List ah)
def BC (ring:ah→Int) (G:UK) (a:ah):UK:=bQ (.int .i64) G (ring a) (bF (.int .i64) G (ring a) []++ [a])
def mS (ring:ah→Int) (l:List ah):UK:=l.foldl (BC ring) []
theorem xB (ring:ah→Int) (l:List ah) (a:ah):mS ring (l++ [a])=BC ring (mS ring l) a:=by simp[mS,Xe]
theorem yL (ring:ah→Int) (l:List ah) (k:Int):bF (.int .i64) (mS ring l) k []=l.filter fun b=>decide (ring b=k):=by
 induction l using iP with
 |h0=>rfl
 |h1 l a ih=>
  rw[xB,BC,CW,YT];by_cases h:ring a=k
  ·rw[if_pos h,h,ih];simp[h]
  ·rw[if_neg h,ih];simp[h]
theorem kj (ring:ah→Int) (l:List ah):((mS ring l).map We).Nodup∧ ∀k:Int,k∈(mS ring l).map We↔ ∃a∈l,ring a=k:=by
 induction l using iP with
 |h0=>exact⟨WB,fun k=>by simp[mS]⟩
 |h1 l a ih=>
  obtain⟨ih1,ih2⟩:=ih;rw[xB,BC];by_cases h:ring a∈(mS ring l).map We
  ·rw[C8 h]
   refine⟨ih1,fun k=>?_⟩;rw[ih2];constructor
   ·rintro⟨b,hb,e⟩;exact⟨b,Wp _ hb,e⟩
   ·rintro⟨b,hb,e⟩
    rcases V3.1 hb with hb|hb
    ·exact⟨b,hb,e⟩
    ·rw[VX] at hb;subst hb;rw[←e];exact(ih2 _).1 h
  ·rw[w5 h,VN]
   refine⟨W8.2 ⟨ih1,by simp,fun u hu v hv e=>?_⟩,fun k=>?_⟩
   ·simp only[V6,Wv,VX] at hv
    subst hv;subst e;exact h hu
   ·rw[V3,ih2]
    constructor
    ·rintro(⟨b,hb,e⟩|hk)
     ·exact⟨b,Wp _ hb,e⟩
     ·simp only[V6,Wv,VX] at hk
      exact⟨a,by simp,hk.symm⟩
    ·rintro⟨b,hb,e⟩
     rcases V3.1 hb with hb|hb
     ·exact .inl ⟨b,hb,e⟩
     ·rw[VX] at hb;subst hb;exact .inr (by simp[e])
abbrev O8:=List ((KC.int .i64).K×Int)
def dn (dm:O8) (x:Int):Bool:=decide (x∈dm.map We)
section
variable {p:Prog} {ring:ah→Int} {dm:O8} {out:List (List ah)}
def IX (p:Prog) (a:ah):List ah:=(ns p).filter (eg p a)
def Dx (p:Prog) (ring:ah→Int) (dm:O8) (a:ah):Bool:=Go.Rg.uA (ns p) (IX p) ring (dn dm) a
structure Ak (p:Prog) (ring:ah→Int) (dm:O8) (out:List (List ah)):Prop where
 one: ∀e∈dm,e.2=1
 nd:(dm.map We).Nodup
 sub: ∀k∈dm.map We,∃a∈ns p,ring a=k
 cl:Go.Co.closed (ns p).length (fO p) fun j=>dn dm (ring ((ns p).getD j default))
 eq: ∃f,f+dm.length=(ns p).length∧out++Go.Rg.jl (ns p) (IX p) ring f (dn dm)=Go.Rg.jl (ns p) (IX p) ring (ns p).length fun _=>false
 len:out.length=dm.length
theorem RT:Ak p ring [] []:=
 ⟨fun _ h=>(nomatch h),WB,fun _ h=>(nomatch h),fun _ _ _ h=>by simp[dn] at h,⟨(ns p).length,rfl,by congr 1⟩,rfl⟩
theorem Ak.lk (h:Ak p ring dm out) (x:Int):bF (.int .i64) dm x 0=if dn dm x then 1 else 0:=by
 unfold dn;by_cases hx:x∈dm.map We
 ·simp only[hx,decide_true,if_true];exact h.one _ (JA hx)
 ·simp only[hx,decide_false,Xn,if_false];exact yC hx
theorem Ak.le (h:Ak p ring dm out):dm.length≤(ns p).length:=by
 obtain⟨f,hf,_⟩:=h.eq;omega
theorem RC (p:Prog) (ring:ah→Int):(mS ring (ns p)).length≤(ns p).length:=by
 have:=WJ (kj ring (ns p)).1 (l₂:=(ns p).map ring) (fun k hk=>by
  obtain⟨a,ha,rfl⟩:=((kj ring (ns p)).2 k).1 hk
  exact WD ha)
 simpa using this
theorem Ak.done (h:Ak p ring dm out) (hg:(mS ring (ns p)).length≤dm.length):out=Go.Rg.jl (ns p) (IX p) ring (ns p).length fun _=>false:=by
 have hall: ∀a∈ns p,dn dm (ring a)=true:=fun a ha=>by
  unfold dn;rw[decide_eq_true_eq];rcases YX (ring a∈dm.map We) with h1|h1
  ·exact h1
  ·exfalso
   have:=WJ (WC.2 ⟨h1,h.nd⟩) (l₂:=(mS ring (ns p)).map We) (fun k hk=>by
    rcases V4.1 hk with rfl|hk
    ·exact((kj ring (ns p)).2 _).2 ⟨a,ha,rfl⟩
    ·exact((kj ring (ns p)).2 _).2 (h.sub k hk))
   simp at this;omega
 obtain⟨f,_,he⟩:=h.eq
 have hn:Go.Rg.jl (ns p) (IX p) ring f (dn dm)=[]:=by
  cases f with
  |zero=>rfl
  |succ f=>
   unfold Go.Rg.jl;rw[W3.2 fun a ha=>by simp[hall a ha]]
 rw[hn,WL] at he;exact he
theorem Ak.has (hr:Go.Rg.kv (ns p) (eg p) ring) (h:Ak p ring dm out) (hg:dm.length<(mS ring (ns p)).length): ∃a∈ns p,dn dm (ring a)=false∧Dx p ring dm a=true:=by
 have hex: ∃i,i<(ns p).length∧dn dm (ring ((ns p).getD i default))=false:=by
  rcases YX (∃i,i<(ns p).length∧dn dm (ring ((ns p).getD i default))=false) with h1|h1
  ·exact h1
  ·exfalso
   have:=WJ (kj ring (ns p)).1 (l₂:=dm.map We) (fun k hk=>by
    obtain⟨a,ha,rfl⟩:=((kj ring (ns p)).2 k).1 hk;obtain⟨i,hi,rfl⟩:=Go.Rg.iA ha
    have h2:dn dm (ring ((ns p).getD i default))=true:=by
     cases h3:dn dm (ring ((ns p).getD i default)) with
     |true=>rfl
     |false=>exact absurd ⟨i,hi,h3⟩ h1
    exact of_decide_eq_true h2)
   simp at this;omega
 obtain⟨i,hi,h1,h2⟩:=Go.Co.me (Go.Rg.im (ns p) (eg p)) (done:=fun j=>dn dm (ring ((ns p).getD j default))) hex;refine⟨_,Go.Rg.get_mem hi,h1,?_⟩;unfold Dx;rw[Go.Rg.pM hr (fun a _ b=>by rw[IX,Wi]) hi,←Go.Co.vN (Go.Rg.im (ns p) (eg p)) h.cl hi];exact h2
theorem Ak.step (hr:Go.Rg.kv (ns p) (eg p) ring) (h:Ak p ring dm out) {i:Nat} (hi:i<(ns p).length) (hb: ∀b∈(ns p).take i,(!dn dm (ring b)&&Dx p ring dm b)=false) (h1:dn dm (ring ((ns p).getD i default))=false) (h2:Dx p ring dm ((ns p).getD i default)=true):
  Ak p ring (bQ (.int .i64) dm (ring ((ns p).getD i default)) 1) (out++ [bF (.int .i64) (mS ring (ns p)) (ring ((ns p).getD i default)) []]):=by
 have hk:ring ((ns p).getD i default)∉dm.map We:=of_decide_eq_false h1
 have hdn: ∀x:Int,dn (dm++ [(ring ((ns p).getD i default),1)]) x=(decide (x=ring ((ns p).getD i default))||dn dm x):=fun x=>by
  unfold dn;rw[WK];simp only[VN,V6,Wv,V3,VX,Wy,decide_eq_true_eq];exact or_comm
 have hF:Go.Co.dI (ns p).length (fO p) (fun j=>dn dm (ring ((ns p).getD j default))) i=true:=by
  have:=h2;unfold Dx at this;rw[Go.Rg.pM hr (fun a _ b=>by rw[IX,Wi]) hi,←Go.Co.vN (Go.Rg.im (ns p) (eg p)) h.cl hi] at this;exact this
 have hcl:=Go.Co.jK (Go.Rg.im (ns p) (eg p)) h.cl hi hF
 have hdj: ∀j,j<(ns p).length→dn (dm++ [(ring ((ns p).getD i default),1)]) (ring ((ns p).getD j default))=(dn dm (ring ((ns p).getD j default))||Go.Co.cls (fO p) i j):=fun j hj=>by
  rw[hdn,Bool.or_comm];congr 1;have:=hr j i hj hi;rw[WK,decide_eq_true_eq,this];simp[Go.Co.cls,fO,and_comm]
 have hlt:dm.length<(ns p).length:=by
  have:=WJ (WC.2 ⟨hk,h.nd⟩) (l₂:=(ns p).map ring) (fun k hk=>by
   rcases V4.1 hk with rfl|hk
   ·exact WD (Go.Rg.get_mem hi)
   ·obtain⟨a,ha,rfl⟩:=h.sub k hk
    exact WD ha)
  simp at this;omega
 rw[w5 hk];refine⟨fun e he=>?_,?_,fun k hk2=>?_,fun a b ha hda hab=>?_,?_,by simp[h.len]⟩
 ·rcases V3.1 he with he|he
  ·exact h.one e he
  ·rw[VX] at he;subst he;rfl
 ·rw[VN]
  exact W8.2 ⟨h.nd,by simp,fun u hu v hv e=>by simp only[V6,Wv,VX] at hv;subst hv;subst e;exact hk hu⟩
 ·rw[VN] at hk2
  rcases V3.1 hk2 with hk2|hk2
  ·exact h.sub k hk2
  ·simp only[V6,Wv,VX] at hk2
   exact⟨_,Go.Rg.get_mem hi,hk2.symm⟩
 ·have hbl:=(Go.Rg.im (ns p) (eg p)).lt a b ha hab
  have hda:=(hdj a ha).symm.trans hda;show dn _ _=true;rw[hdj b hbl];exact hcl a b ha hda hab
 ·obtain⟨f,hf,he⟩:=h.eq
  cases f with
  |zero=>omega
  |succ f=>
   refine⟨f,by simp;omega,?_⟩;rw[←he,VU];congr 1
   conv=>rhs;unfold Go.Rg.jl
   have hfi:(ns p).find? (fun a=>!dn dm (ring a)&&Go.Rg.uA (ns p) (IX p) ring (dn dm) a)=some ((ns p).getD i default):=by
    rw[List.find?_eq_some_iff_getElem];refine⟨by simp only[h1,Yf,XU];exact h2,i,hi,by rw[VP,VS hi];rfl,fun j hj=>?_⟩;have:=hb ((ns p)[j]'(by omega)) (by rw[Yr];exact⟨j,by omega,rfl⟩);unfold Dx at this;rw[this];rfl
   rw[hfi];simp only[yL];rw[show dn (dm++ [(ring ((ns p).getD i default),1)])=fun x=>decide (x=ring ((ns p).getD i default))||dn dm x from funext hdn];rfl
end
end Go.Proofs.YtflegjieadkonaaGreatDoor
namespace Go.Proofs.YtflegjieadkonaaGreatDoor
open Go Go.Al
set_option maxRecDepth 10000
abbrev UL:=Int×Nat×List ah
abbrev GL:=List (Nat×Nat×UL)
def fR (x:UL):AO:=a7 1 x.2.2 ch
def QZ (o:Option (Nat×Nat×Nat)):Value:=match o with
 |none=> .slice none 0 0
 |some (b,len,cap)=> .slice (some ⟨b,0,none⟩) len cap
def UX (o:Option (Nat×Nat×Nat)):IV:= .v (QZ o)
def dvS (p:PV):Option (Nat×Nat×Nat):=match p with
 | .iv (.v (.slice (some ⟨b,0,none⟩) len cap))=>some (b,len,cap)
 |_=>none
abbrev OM:=List ((KC.int .i64).K×Option (Nat×Nat×Nat))
abbrev Ub (m:OM):AO:= .map (.int .i64) UX none (.slice none 0 0) dvS m
def ofM (L:GL):OM:=L.map fun y=>(y.2.2.1,some (y.1,y.2.2.2.2.length,y.2.2.2.1))
def mR (L:GL):UK:=L.map fun y=>(y.2.2.1,y.2.2.2.2)
structure R3 (L:GL):Prop where
 nd:(L.map We).Nodup
 ok: ∀y∈L,y.2.2.2.2≠ []∧y.2.2.2.2.length≤y.2.2.2.1∧y.2.2.2.1≤maxLen∧y.2.2.2.1*1=y.2.1
theorem zY (L:GL) (k:Int):il (.int .i64) (ofM L) k=il (.int .i64) (mR L) k:=by
 induction L with
 |nil=>rfl
 |cons y L ih=>
  have ih:il (.int .i64) (ofM L) k=il (.int .i64) (mR L) k:=ih;unfold ofM mR at ih ⊢;simp only[V6,il,ih]
theorem wM (l:List ah):(a7 1 l ch).all PV.flat:=by
 intro e he q hq;obtain⟨s,_,rfl⟩:=Wo.1 he;obtain⟨x,_,rfl⟩:=Wo.1 hq;trivial
theorem Cn {l:List ah} {a:ah}:(a7 1 (l++ [a]) ch).real=true:=by cases l<;>rfl
theorem yh {L:GL} {b j e:Nat}:(((gI fR L).put b (.out j e)).drop b).still:=by
 intro c i g h;unfold aX.drop aX.put at h;split at h
 ·cases h
 ·exact lH fR L c i g h
theorem Jq {ring:ah→Int} {L:GL} {l:List ah} {a:ah} (hg:mR L=mS ring l):
  (il (.int .i64) (ofM L) (ring a)=none∧bF (.int .i64) (ofM L) (ring a) none=none∧(∀b e cap,bQ (.int .i64) (ofM L) (ring a) (some (b,1,cap))=ofM (L++ [(b,e,ring a,cap,[a])])∧mR (L++ [(b,e,ring a,cap,[a])])=mS ring (l++ [a])))∨
  ∃i y,L[i]? =some y∧bF (.int .i64) (ofM L) (ring a) none=some (y.1,y.2.2.2.2.length,y.2.2.2.1)∧(∀b e cap,bQ (.int .i64) (ofM L) (ring a) (some (b,y.2.2.2.2.length+1,cap))=ofM (L.set i (b,e,ring a,cap,y.2.2.2.2++ [a]))∧mR (L.set i (b,e,ring a,cap,y.2.2.2.2++ [a]))=mS ring (l++ [a])):=by
 have hgr:mS ring (l++ [a])=BC ring (mR L) a:=by rw[hg];simp[mS,Xe]
 rw[hgr,BC]
 cases hf:il (.int .i64) (ofM L) (ring a) with
 |none=>
  obtain⟨h1,_,h2,_⟩:=iL hf;rw[zY] at hf;obtain⟨h3,_,h4,_⟩:=iL hf
  exact .inl ⟨rfl,h1 none,fun b e cap=>⟨by rw[h2];simp[ofM],by rw[h4,h3];simp[mR]⟩⟩
 |some i=>
  right;obtain⟨v,h1,h2,_,h3,_⟩:=iK hf;rw[zY] at hf;obtain⟨v',g1,g2,_,g3,_⟩:=iK hf
  have hy: ∃y,L[i]? =some y:=by
   unfold ofM at h1;rw[VV,VW] at h1;obtain⟨y,hy,_⟩:=h1;exact⟨y,hy⟩
  obtain⟨y,hy⟩:=hy
  have hv:v=some (y.1,y.2.2.2.2.length,y.2.2.2.1):=by
   unfold ofM at h1;rw[VV,hy] at h1;simp only[W1,VM,V0] at h1;exact h1.2.symm
  have hv':v'=y.2.2.2.2:=by
   unfold mR at g1;rw[VV,hy] at g1;simp only[W1,VM,V0] at g1;exact g1.2.symm
  refine⟨i,y,hy,by rw[h2 none,hv],fun b e cap=>⟨?_,?_⟩⟩
  ·rw[h3]
   unfold ofM;rw[Yo];simp
  ·rw[g3,g2 [],hv']
   unfold mR;rw[Yo]
theorem Jn {L:GL} {y:Nat×Nat×UL} (h:R3 L) (hb:y.1∉L.map We) (hy:y.2.2.2.2≠ []∧y.2.2.2.2.length≤y.2.2.2.1∧y.2.2.2.1≤maxLen∧y.2.2.2.1*1=y.2.1):R3 (L++ [y]):=
 ⟨p9 h.nd hb,fun z hz=>by
  rcases V3.1 hz with hz|hz
  ·exact h.ok z hz
  ·rw[VX] at hz;subst hz;exact hy⟩
theorem Rq {L:GL} {i:Nat} {y y':Nat×Nat×UL} (h:R3 L) (hi:L[i]? =some y) (hb:y'.1∉L.map We∨y'.1=y.1) (hy:y'.2.2.2.2≠ []∧y'.2.2.2.2.length≤y'.2.2.2.1∧y'.2.2.2.1≤maxLen∧y'.2.2.2.1*1=y'.2.1):R3 (L.set i y'):=
 ⟨rS h.nd hi hb,fun z hz=>by
  rcases Ys hz with hz|rfl
  ·exact h.ok z hz
  ·exact hy⟩
theorem Bq {L:GL} {c j e:Nat} {y:Nat×Nat×UL} (h:((gI fR L).put y.1 (.out j e)).drop y.1 c=none):c∉L.map We∨c=y.1:=by
 by_cases hc:c=y.1
 ·exact .inr hc
 ·unfold aX.drop aX.put at h
  rw[if_neg hc,if_neg hc] at h;exact .inl (wH fR h)
def U7 (_:PV):List ah:=[]
theorem Sd {L:GL} (h:R3 L):Kh (gI fR L) (Ub (ofM L)) (.map (.int .i64) strs [] (.slice none 0 0) U7 (mR L)):=by
 refine .map _ _ _ _ _ _ _ _ _ _ (by simp[ofM,mR]) (fun j x' hx=>?_) fun M=> .iC ..
 ·unfold mR at hx
  rw[VV,VW] at hx;obtain⟨y,hy,rfl⟩:=hx;obtain⟨h1,h2,h3,h4⟩:=h.ok y (Wj hy);refine⟨(y.2.2.1,some (y.1,y.2.2.2.2.length,y.2.2.2.1)), .slice (some ⟨y.1,0,none⟩) y.2.2.2.2.length y.2.2.2.1,?_,rfl,rfl,?_⟩
  ·unfold ofM;rw[VV,hy];rfl
  ·exact .row y.1 _ _ 1 y.2.1 _ _ (gH fR h.nd hy) (by simp) h2 h3 (cZ rfl)
abbrev Uq (G:UK):AO:= .map (.int .i64) strs [] (.slice none 0 0) U7 G
abbrev Ut (dm:O8):AO:= .map (.int .i64) sE 0 (.int .i64 0) US dm
def okC (p:Prog) (ring:ah→Int) (dm:O8) (a b:ah):Bool:=(aQ p b).all fun c=>decide (ring c=ring a)||dn dm (ring c)
theorem RH (p:Prog) (ring:ah→Int) (dm:O8) (a:ah):Dx p ring dm a=(bF (.int .i64) (mS ring (ns p)) (ring a) []).all (okC p ring dm a):=by
 rw[yL];rfl
theorem mem_row {p:Prog} (h:hP p) (a b:ah):b∈(bZ (aC p) a).map We↔b∈aQ p a:=by
 rw[←jy h a,cJ]
def mn (p:Prog):List (List ah):=if(bm p).1=0 then bh p else[]
def kr (l:List ah):List IV:=[strs l]
theorem zm (hS:dD) {p:Prog} (hb:p.fit) (hs:p.size≤10000000) (k1:(bm p).1=0):Pure Tryz.prog 14 [ag p.c] (.iv (cV 1 (bh p) kr)):=by
 have hf:=fw k1;have hn:=lN hf;refine az ae Tryz.func14 rfl (by decide) Tryz.ntmps14 rfl (by simp) rfl ?_;refine gA rfl (aj (rA hS hb k1) rfl rfl rfl rfl rfl rfl ?_);refine gA rfl (xF [] (yk hS hf (mF hs)) rfl rfl rfl rfl rfl rfl rfl ?_)
 rintro r h' n' ⟨m,hRm,rfl,rfl,rfl⟩
 refine⟨_,rfl,?_⟩
 let ring:ah→Int:=fun a=>bF .str m a 0
 refine gM 2 rfl (OY ?_);refine bO (fq ?_);refine gA rfl ?_;refine bO (bO (pF ⟨[(3, .iv (mG (ba p (aC p)))),(5, .iv (nY m)),(6, .mp 1),(25, .iv (strs (ns p))),(26,pI (ns p).length),(27,pI 0)],[(1,some (Ub []))],2⟩ ?_ ?_))
 ·refine gA rfl (aj (j3 hS hf (aC p)) rfl rfl rfl rfl rfl rfl ?_)
  refine gA rfl (sr [] ?_);exact wk rfl rfl rfl ⟨.refl _,rfl, .refl _,rfl, .refl _,rfl, .refl _,rfl, .refl _,rfl, .refl _,rfl,trivial⟩ (Dc rfl (fun _=> .v _) rfl trivial) rfl
 refine ft (sq 0 (ns p).length (V1 _) (fun i (x:ULift.{1} GL)=>⟨[(3, .iv (mG (ba p (aC p)))),(5, .iv (nY m)),(6, .mp 1),(25, .iv (strs (ns p))),(26,pI (ns p).length),(27,pI i)],[(1,some (Ub (ofM x.down)))],2⟩)
  (fun i x Y=>Y=gI fR x.down∧R3 x.down∧mR x.down=mS ring ((ns p).take i)∧ ∀y∈x.down,y.2.2.2.2.length≤i) ⟨[]⟩ [] ⟨rfl,⟨WB,fun y hy=>(nomatch hy)⟩,rfl,fun y hy=>(nomatch hy)⟩
  (wk rfl rfl rfl ⟨.refl _,rfl, .refl _,rfl, .refl _,rfl, .refl _,rfl, .refl _,rfl, .refl _,rfl,trivial⟩ (hM rfl rfl rfl trivial) rfl) (fun _ _ _ h=>h.1▸lH fR _) fun i x Y hi hJ=>?_)
 obtain⟨rfl,hok,hgr,hle⟩:=hJ;obtain⟨L⟩:=x;have hok:R3 L:=hok;have hgr:mR L=mS ring ((ns p).take i):=hgr;have hle: ∀y∈L,y.2.2.2.2.length≤i:=hle;refine bO (fq ?_);refine gA rfl ?_;refine bO (oG rfl (fun h1=>oE ?_) (fun h1=>oF ?_))
 ·have h1:i<(ns p).length:=by simpa using h1
  have hst:=Jq (ring:=ring) (a:=(ns p).getD i default) hgr;rw[←aY h1] at hst;refine bO (ft (bO (fq ?_)));refine gA rfl ?_;refine De Jv rfl rfl rfl ?_;refine dR 10 rfl ?_;refine dO rfl rfl rfl rfl rfl rfl ?_;rcases hst with⟨_,hlk,hnew⟩|⟨j,y,hy,hlk,hnew⟩
  ·refine mf (OL (d:=39) (p:= .iv (.v (.slice none 0 0))) (.of_eq (show PV.iv (.v (QZ (bF (.int .i64) (ofM L) (ring ((ns p).getD i default)) none)))=_ by rw[hlk];rfl))) fun t Y ht=>?_
   obtain⟨rfl,rfl⟩:=ht;refine dO rfl rfl rfl rfl rfl rfl ?_;refine mf (OK (t:=⟨[(3, .iv (mG (ba p (aC p)))),(5, .iv (nY m)),(6, .mp 1),(25, .iv (strs (ns p))),(26,pI (ns p).length),(27,pI i),(31, .mp 1),(34, .iv (sE (ring ((ns p).getD i default)))),(42, .sl 4 0 1 1)],[(1,some (Ub (ofM L))),(4,some (a7 1 [(ns p).getD i default] ch))],5⟩) (L:=[]) (wk rfl rfl rfl ⟨.refl _,rfl, .refl _,rfl, .refl _,rfl, .refl _,rfl, .refl _,rfl, .refl _,rfl, .refl _,rfl, .refl _,rfl, .refl _,rfl,trivial⟩ (hM rfl rfl rfl (hR rfl rfl rfl trivial)) rfl)) fun t Y ht=>?_;obtain⟨rfl,rfl⟩:=ht;refine mf (tI (i:=4) (d:=42) (lH fR L) rfl rfl (wM _) rfl (by simp)) fun t Y ht=>?_;obtain⟨b,e,cap,hbn,g1,g2,g3,rfl,rfl⟩:=ht;refine dO rfl rfl rfl rfl rfl rfl ?_;refine z7 ?_;refine vH (fq ?_);refine gA rfl ?_;have hb':=wH fR hbn;obtain⟨q1,q2⟩:=hnew b e cap
   exact⟨h1,⟨L++ [(b,e,ring ((ns p).getD i default),cap,[(ns p).getD i default])]⟩,[],⟨yj fR (y:=(b,e,ring ((ns p).getD i default),cap,[(ns p).getD i default])) hok.nd hb',Jn hok hb' ⟨by simp,by simpa using g1,g2,g3⟩,q2,fun z hz=>by
    rcases V3.1 hz with hz|hz
    ·have:=hle z hz;omega
    ·rw[VX] at hz;subst hz;simp⟩,wk rfl rfl rfl ⟨.refl _,rfl, .refl _,rfl, .refl _,rfl, .refl _,rfl, .refl _,rfl, .refl _,rfl,trivial⟩ (hM rfl q1 rfl trivial) rfl⟩
  ·obtain⟨k1,k2,k3,k4⟩:=hok.ok y (Wj hy)
   have k5:=hle y (Wj hy);refine mf (Aq (d:=39) (sz:=1) (gH fR hok.nd hy) (show PV.iv (.v (QZ (bF (.int .i64) (ofM L) (ring ((ns p).getD i default)) none)))=_ by rw[hlk];rfl) (List.length_pos_iff.2 k1) k2 k3 k4) fun t Y ht=>?_;obtain⟨rfl,rfl⟩:=ht;refine mf (OL (d:=39) (p:= .sl 3 0 (y.2.2.2.2.map fun x=>(ch x).map PV.iv).length 1) (ak.row (by simp))) fun t Y ht=>?_;obtain⟨rfl,rfl⟩:=ht;refine dO rfl rfl rfl rfl rfl rfl ?_ ⟨?_,?_⟩;rotate_left
   ·exact⟨rfl,by simp,rfl,by simp;omega,by simp;omega⟩
   ·repeat' (first|exact trivial|exact rfl|exact ak.refl _|apply VJ)
   refine mf (OK (t:=⟨[(3, .iv (mG (ba p (aC p)))),(5, .iv (nY m)),(6, .mp 1),(25, .iv (strs (ns p))),(26,pI (ns p).length),(27,pI i),(31, .mp 1),(34, .iv (sE (ring ((ns p).getD i default)))),(42, .sl 4 0 (y.2.2.2.2.length+1) 1)],[(1,some (Ub (ofM L))),(4,some (a7 1 (y.2.2.2.2++ [(ns p).getD i default]) ch))],5⟩) (L:=[]) (wk rfl rfl rfl ⟨.refl _,rfl, .refl _,rfl, .refl _,rfl, .refl _,rfl, .refl _,rfl, .refl _,rfl, .refl _,rfl, .refl _,rfl, .row (by simp),rfl,trivial⟩ (hM rfl rfl rfl (hR rfl (by simp;rfl) rfl trivial)) rfl)) fun t Y ht=>?_;obtain⟨rfl,rfl⟩:=ht;refine mf (Au y.1) fun t Y ht=>?_;obtain⟨rfl,rfl⟩:=ht;refine mf (tI (i:=4) (d:=42) yh rfl Cn (wM _) rfl (by simp)) fun t Y ht=>?_;obtain⟨b,e,cap,hbn,g1,g2,g3,rfl,rfl⟩:=ht;refine dO rfl rfl rfl rfl rfl rfl ?_;refine z7 ?_;refine vH (fq ?_);refine gA rfl ?_;have hb':=Bq hbn;obtain⟨q1,q2⟩:=hnew b e cap
   exact⟨h1,⟨L.set j (b,e,ring ((ns p).getD i default),cap,y.2.2.2.2++ [(ns p).getD i default])⟩,[],⟨AD fR (y':=(b,e,ring ((ns p).getD i default),cap,y.2.2.2.2++ [(ns p).getD i default])) hok.nd hy hb',Rq hok hy hb' ⟨by simp,by simpa using g1,g2,g3⟩,q2,fun z hz=>by
    rcases Ys hz with hz|rfl
    ·have:=hle z hz;omega
    ·simp;exact k5⟩,wk rfl rfl rfl ⟨.refl _,rfl, .refl _,rfl, .refl _,rfl, .refl _,rfl, .refl _,rfl, .refl _,rfl,trivial⟩ (hM rfl q1 rfl trivial) rfl⟩
 ·have h1:(ns p).length≤i:=by simpa using h1
  rw[VY h1] at hgr
  change GX _ _ [.code _] _ _ _
  refine Dd (B4 (i:=1) (o':= .map (.int .i64) strs [] (.slice none 0 0) U7 (mR L)) rfl (Sd hok)) fun t Y ht=>?_;obtain⟨rfl,rfl⟩:=ht;rw[hgr];refine fq ?_;refine gA rfl ?_;refine jI 10 1 rfl ?_
  refine lZ (σ:={x:O8×List (List ah)//Ak p ring x.1 x.2}) (fun x=>⟨[(3, .iv (mG (ba p (aC p)))),(5, .iv (nY m)),(6, .mp 1),(9, .mp 2),(10, .sl 4 0 x.1.2.length 1)],[(1,some (Uq (mS ring (ns p)))),(2,some (Ut x.1.1)),(4,some (a7 1 x.1.2 kr))],5⟩)
   (fun x=>(mS ring (ns p)).length-x.1.1.length) ⟨([],[]),RT⟩ [3]
   (wk rfl rfl rfl ⟨.refl _,rfl, .refl _,rfl, .refl _,rfl, .refl _,rfl, .refl _,rfl,trivial⟩ (hM rfl rfl rfl (Dc rfl (fun _=> .v _) rfl (hR rfl rfl rfl trivial))) rfl) ?_
  rintro⟨⟨dm,out⟩,hCI⟩
  have hCI:Ak p ring dm out:=hCI;have hdl:=hCI.le;have hgl:=RC p ring;have hol:=hCI.len;refine gA rfl ?_;refine VJ (fun h2=>?_) (fun h2=>?_)
  ·have h2:dm.length<(mS ring (ns p)).length:=by simpa using h2
   refine gA rfl (aj (j3 hS hf (aC p)) rfl rfl rfl rfl rfl rfl ?_);refine gA rfl ?_
   refine aL 0 (ns p).length (V1 _) (fun i=>⟨[(3, .iv (mG (ba p (aC p)))),(5, .iv (nY m)),(6, .mp 1),(9, .mp 2),(10, .sl 4 0 out.length 1),(51, .iv (strs (ns p))),(52,pI (ns p).length),(53,pI i)],[(1,some (Uq (mS ring (ns p)))),(2,some (Ut dm)),(4,some (a7 1 out kr))],5⟩)
    (fun i=> ∀b∈(ns p).take i,(!dn dm (ring b)&&Dx p ring dm b)=false) [] (fun b hb=>(nomatch hb)) (wk rfl rfl rfl ⟨.refl _,rfl, .refl _,rfl, .refl _,rfl, .refl _,rfl, .refl _,rfl, .refl _,rfl, .refl _,rfl, .refl _,rfl,trivial⟩ (hM rfl rfl rfl (hM rfl rfl rfl (hR rfl rfl rfl trivial))) rfl) fun i hi hJ=>?_
   refine gA rfl ?_;refine VJ (fun h3=>?_) (fun h3=>?_)
   ·have h3:i<(ns p).length:=by simpa using h3
    have hJ1:(!dn dm (ring ((ns p).getD i default))&&Dx p ring dm ((ns p).getD i default))=false→ ∀b∈(ns p).take (i+1),(!dn dm (ring b)&&Dx p ring dm b)=false:=fun h b hb=>by
     rw[aY h3] at hb;rcases V3.1 hb with hb|hb
     ·exact hJ b hb
     ·rw[VX] at hb;subst hb;exact h
    have hlk:=hCI.lk (ring ((ns p).getD i default));have hfa:=RH p ring dm ((ns p).getD i default);have hst:=hCI.step hRm h3 hJ;have hla:=yL ring (ns p) (ring ((ns p).getD i default));have hll:(bF (.int .i64) (mS ring (ns p)) (ring ((ns p).getD i default)) []).length≤64:=by rw[hla];exact Wh (WR _ _) hn
    have hlm: ∀b∈bF (.int .i64) (mS ring (ns p)) (ring ((ns p).getD i default)) [],b∈p.aS.map Decl.name:=fun b hb=>by
     rw[hla] at hb;have:=(Wi.1 hb).1;rwa[ns,cJ] at this
    let a:=((ns p).getD i default)
    let l:List ah:=bF (.int .i64) (mS ring (ns p)) (ring a) []
    refine gA rfl ?_;refine VJ (fun h4=>?_) (fun h4=>?_)
    ·have h4:bF (.int .i64) dm (ring a) 0=1:=of_decide_eq_true h4
     have hd:dn dm (ring a)=true:=by
      rw[hlk] at h4
      cases hd:dn dm (ring a) with
      |true=>rfl
      |false=>rw[hd] at h4;simp at h4
     refine gA rfl ?_;exact⟨h3,hJ1 (by rw[hd];rfl),[],wk rfl rfl rfl ⟨.refl _,rfl, .refl _,rfl, .refl _,rfl, .refl _,rfl, .refl _,rfl, .refl _,rfl, .refl _,rfl, .refl _,rfl,trivial⟩ (hM rfl rfl rfl (hM rfl rfl rfl (hR rfl rfl rfl trivial))) rfl⟩
    ·have h4: ¬bF (.int .i64) dm (ring a) 0=1:=of_decide_eq_false h4
     have hd:dn dm (ring a)=false:=by
      rw[hlk] at h4
      cases hd:dn dm (ring a) with
      |false=>rfl
      |true=>rw[hd] at h4;simp at h4
     refine gA rfl ?_
     refine aL 0 l.length (V1 _) (fun k=>⟨[(3, .iv (mG (ba p (aC p)))),(5, .iv (nY m)),(6, .mp 1),(9, .mp 2),(10, .sl 4 0 out.length 1),(51, .iv (strs (ns p))),(52,pI (ns p).length),(53,pI i),(12,pS a),(67, .iv (strs l)),(68,pI l.length),(69,pI k)],[(1,some (Uq (mS ring (ns p)))),(2,some (Ut dm)),(4,some (a7 1 out kr))],5⟩)
      (fun k=>(l.take k).all (okC p ring dm a)=true) [] rfl (wk rfl rfl rfl ⟨.refl _,rfl, .refl _,rfl, .refl _,rfl, .refl _,rfl, .refl _,rfl, .refl _,rfl, .refl _,rfl, .refl _,rfl, .refl _,rfl, .refl _,rfl, .refl _,rfl, .refl _,rfl,trivial⟩ (hM rfl rfl rfl (hM rfl rfl rfl (hR rfl rfl rfl trivial))) rfl) fun k hk hK=>?_
     refine gA rfl ?_;refine VJ (fun h5=>?_) (fun h5=>?_)
     ·have h5:k<l.length:=by simpa using h5
      have hb:=hlm _ (bp h5);have hll2:l.length≤64:=hll;refine gM 13 rfl (oH ae (.iv (nY (bZ (aC p) (l.getD k default)))) rfl rfl rfl rfl (lY p _ hb) rfl ?_);refine gA rfl ?_
      refine eJ (bZ (aC p) (l.getD k default)) (fun vs=>⟨[(3, .iv (mG (ba p (aC p)))),(5, .iv (nY m)),(6, .mp 1),(9, .mp 2),(10, .sl 4 0 out.length 1),(51, .iv (strs (ns p))),(52,pI (ns p).length),(53,pI i),(12,pS a),(67, .iv (strs l)),(68,pI l.length),(69,pI k),(76, .ptr 5 0)],[(1,some (Uq (mS ring (ns p)))),(2,some (Ut dm)),(4,some (a7 1 out kr)),(5,some (.bt .str sE (bZ (aC p) (l.getD k default)) vs none))],6⟩)
       (fun vs=> ∀j∈vs,∀x,(bZ (aC p) (l.getD k default))[j]? =some x→(decide (ring x.1=ring a)||dn dm (ring x.1))=true) [] (fun j hj=>(nomatch hj))
       (wk rfl rfl rfl ⟨.refl _,rfl, .refl _,rfl, .refl _,rfl, .refl _,rfl, .refl _,rfl, .refl _,rfl, .refl _,rfl, .refl _,rfl, .refl _,rfl, .refl _,rfl, .refl _,rfl, .refl _,rfl, .refl _,rfl,trivial⟩ (hM rfl rfl rfl (hM rfl rfl rfl (hR rfl rfl rfl (hI rfl rfl (.inl rfl) rfl trivial)))) rfl) fun vs hV=>?_
      refine lB rfl trivial (db rfl rfl rfl rfl rfl (by decide) (fun hall=>?_) fun j x hx hj=>?_)
      ·refine gA rfl ?_
       refine⟨h5,?_,[],wk rfl rfl rfl ⟨.refl _,rfl, .refl _,rfl, .refl _,rfl, .refl _,rfl, .refl _,rfl, .refl _,rfl, .refl _,rfl, .refl _,rfl, .refl _,rfl, .refl _,rfl, .refl _,rfl, .refl _,rfl,trivial⟩ (hM rfl rfl rfl (hM rfl rfl rfl (hR rfl rfl rfl trivial))) rfl⟩;rw[aY h5,YI,hK,XU,List.all_cons,List.all_nil,Bool.and_true];refine Wl.2 fun c hc=>?_;obtain⟨e,he,rfl⟩:=Wo.1 ((mem_row hf _ _).2 hc);obtain⟨i',hi'⟩:=WE he;exact hV i' (hall i' (VO.1 hi').1) e hi'
      ·have hfin:(ring x.1=ring a∨dn dm (ring x.1)=true)→(decide (ring x.1=ring a)||dn dm (ring x.1))=true:=fun h=>by simpa using h
       have hlx:=hCI.lk (ring x.1);refine gA rfl ?_;refine VJ (fun h6=>?_) (fun h6=>?_)
       ·have h6: ¬ring x.1=ring a:=by simpa using h6
        refine gA rfl ?_;refine VJ (fun h7=>?_) (fun h7=>?_)
        ·have h7:bF (.int .i64) dm (ring x.1) 0=0:=of_decide_eq_true h7
         have hdx:dn dm (ring x.1)=false:=by
          cases hd:dn dm (ring x.1) with
          |false=>rfl
          |true=>rw[hlx,hd] at h7;simp at h7
         have hno:Dx p ring dm a=false:=by
          rw[hfa];refine XW.2 ⟨_,bp h5,?_⟩;rw[Bool.not_eq_true];refine XW.2 ⟨x.1,(mem_row hf _ _).1 (WD (Wj hx)),?_⟩;simp only[hdx,Bool.or_false,decide_eq_true_eq];exact h6
         refine gA rfl ?_;exact⟨h3,hJ1 (by rw[hno,XO]),[],wk rfl rfl rfl ⟨.refl _,rfl, .refl _,rfl, .refl _,rfl, .refl _,rfl, .refl _,rfl, .refl _,rfl, .refl _,rfl, .refl _,rfl,trivial⟩ (hM rfl rfl rfl (hM rfl rfl rfl (hR rfl rfl rfl trivial))) rfl⟩
        ·have h7: ¬bF (.int .i64) dm (ring x.1) 0=0:=of_decide_eq_false h7
         have hdx:dn dm (ring x.1)=true:=by
          cases hd:dn dm (ring x.1) with
          |true=>rfl
          |false=>rw[hlx,hd] at h7;simp at h7
         refine gA rfl ?_
         exact⟨j,x,hx,hj,(fun i hi y hy=>by
         rcases V4.1 hi with rfl|hi
         ·rw[hx] at hy;cases hy;exact hfin (.inr hdx)
         ·exact hV i hi y hy),[],wk rfl rfl rfl ⟨.refl _,rfl, .refl _,rfl, .refl _,rfl, .refl _,rfl, .refl _,rfl, .refl _,rfl, .refl _,rfl, .refl _,rfl, .refl _,rfl, .refl _,rfl, .refl _,rfl, .refl _,rfl, .refl _,rfl,trivial⟩ (hM rfl rfl rfl (hM rfl rfl rfl (hR rfl rfl rfl (hI rfl rfl (.inr rfl) rfl trivial)))) rfl⟩
       ·have h6:ring x.1=ring a:=by simpa using h6
        refine gA rfl ?_
        exact⟨j,x,hx,hj,(fun i hi y hy=>by
         rcases V4.1 hi with rfl|hi
         ·rw[hx] at hy;cases hy;exact hfin (.inl h6)
         ·exact hV i hi y hy),[],wk rfl rfl rfl ⟨.refl _,rfl, .refl _,rfl, .refl _,rfl, .refl _,rfl, .refl _,rfl, .refl _,rfl, .refl _,rfl, .refl _,rfl, .refl _,rfl, .refl _,rfl, .refl _,rfl, .refl _,rfl, .refl _,rfl,trivial⟩ (hM rfl rfl rfl (hM rfl rfl rfl (hR rfl rfl rfl (hI rfl rfl (.inr rfl) rfl trivial)))) rfl⟩
     ·have h5:l.length≤k:=by simpa using h5
      rw[VY h5] at hK;have hst2:=hst hd (by rw[hfa];exact hK);have hl1:=hst2.len;rw[VL,WM] at hl1;refine gA rfl ?_ ⟨⟨trivial, .refl _⟩,by simp,by simp,rfl,by omega,by omega⟩;refine⟨⟨(bQ (.int .i64) dm (ring a) 1,out++ [l]),hst2⟩,[6],?_,wk rfl rfl rfl ⟨.refl _,rfl, .refl _,rfl, .refl _,rfl, .refl _,rfl, .row (by rw[VL];rfl),rfl,trivial⟩ (hM rfl rfl rfl (hM rfl rfl rfl (hR rfl (by rw[VN];rfl) rfl trivial))) rfl⟩;show(mS ring (ns p)).length-(bQ (.int .i64) dm (ring a) 1).length<(mS ring (ns p)).length-dm.length;have hl2:out.length+1=(bQ (.int .i64) dm (ring a) 1).length:=hl1;omega
   ·exfalso
    have h3:(ns p).length≤i:=by simpa using h3
    rw[VY h3] at hJ;obtain⟨a,ha,g1,g2⟩:=hCI.has hRm h2;have:=hJ a ha;rw[g1,g2] at this;cases this
  ·have h2:(mS ring (ns p)).length≤dm.length:=by simpa using h2
   have:=hCI.done h2;rw[show Go.Rg.jl (ns p) (IX p) ring (ns p).length (fun _=>false)=bh p from xR hRm] at this;subst this;refine gA rfl (eU (by first|exact .inr rfl|exact .inl rfl) rfl rfl (rfl) (rfl))
theorem I3 (hS:dD):Pure Tryz.prog 53 [.iv (.v (.map none))] (.iv (nY [])):=by
 refine az ae Tryz.func53 rfl (by decide) Tryz.ntmps53 rfl (by simp) rfl ?_;refine gA rfl (aj (nE hS) rfl rfl rfl rfl rfl rfl ?_);refine gA rfl ?_
 refine aL 0 0 (V1 _) (fun i=>⟨[(5, .ptr 6 0),(16,pI 0),(17,pI 0)],[(3,some (cf [])),(6,some (.cells [.mp 3]))],9⟩) (fun _=>True) [] trivial
  (wk rfl rfl rfl ⟨.refl _,rfl, .refl _,rfl, .refl _,rfl,trivial⟩ (Dc rfl (fun _=> .v _) rfl ⟨⟨_,rfl, .of_eq rfl⟩,VI rfl,rfl,trivial⟩) rfl) fun i hi _=>?_
 refine gA rfl ?_;refine VJ (fun h1=>?_) (fun h1=>?_)
 ·exact absurd h1 (by decide)
 refine gA rfl ⟨.inr rfl,_,rfl,hD.map 3 rfl (.done (.of_eq rfl))⟩
theorem Cm (hS:dD) (p:Prog) (hb:p.fit) (hs:p.size≤10000000):Pure Tryz.prog 14 [ag p.c] (.iv (cV 1 (mn p) kr)):=by
 by_cases k1:(bm p).1=0
 ·rw[mn,if_pos k1];exact zm hS hb hs k1
 rw[mn,if_neg k1];refine az ae Tryz.func14 rfl (by decide) Tryz.ntmps14 rfl (by simp) rfl ?_;refine gA rfl (aj (u3 hS hb k1) rfl rfl rfl rfl rfl rfl ?_);refine gA rfl (aj (I3 hS) rfl rfl rfl rfl rfl rfl ?_);refine gA rfl (aj (nE hS) rfl rfl rfl rfl rfl rfl ?_);refine gA rfl ?_
 refine aL 0 0 (V1 _) (fun i=>⟨[(6, .mp 1),(26,pI 0),(27,pI 0)],[(1,some .ej)],2⟩) (fun _=>True) [] trivial
  (wk rfl rfl rfl ⟨.refl _,rfl, .refl _,rfl, .refl _,rfl,trivial⟩ ⟨⟨_,rfl, .of_eq rfl⟩,VI rfl,trivial,trivial⟩ rfl) fun i hi _=>?_
 refine gA rfl ?_;refine VJ (fun h1=>?_) (fun h1=>?_)
 ·exact absurd h1 (by decide)
 refine gA rfl ?_
 refine aL 0 0 (V1 _) (fun i=>⟨[(6, .mp 1),(9, .mp 2),(10, .iv (.v (.slice none 0 0)))],[(1,some (Uq [])),(2,some (Ut []))],3⟩) (fun _=>True) [] trivial
  (wk rfl rfl rfl ⟨.refl _,rfl, .refl _,rfl, .refl _,rfl,trivial⟩ (Dc rfl (fun _=> .iC ..) rfl (Dc rfl (fun _=> .v _) rfl trivial)) rfl) fun i hi _=>?_
 refine gA rfl ?_;refine VJ (fun h1=>?_) (fun h1=>?_)
 ·exact absurd h1 (by decide)
 refine gA rfl (au (by first|exact .inr rfl|exact .inl rfl) rfl ?_);exact .nil _ _
end Go.Proofs.YtflegjieadkonaaGreatDoor
namespace Go.Proofs.YtflegjieadkonaaGreatDoor
open Go Go.Al
section
variable {p:Prog}
def eD (p:Prog):Nat→Nat→Bool:=Go.Rg.ed (ns p) (eg p)
def sD (p:Prog) (i j:Nat):Bool:=tL p ((ns p).getD i default) ((ns p).getD j default)
def mj (p:Prog):List (List Nat):=Go.Co.cE (ns p).length (Go.Co.dI (ns p).length (fO p)) (Go.Co.cls (fO p)) (ns p).length (fun _=>false)
def vD (p:Prog) (i:Nat):ah:=(ns p).getD i default
theorem gW (p:Prog):bh p=(mj p).map fun c=>c.map (vD p):=rfl
theorem uv {n:Nat} {F:(Nat→Bool)→Nat→Bool} {K:Nat→Nat→Bool}: ∀(f:Nat) (d:Nat→Bool),∀c∈Go.Co.cE n F K f d,∀i∈c,i<n
 |0,_,c,hc,_,_=>by cases hc
 |f+1,d,c,hc,i,hi=>by
  unfold Go.Co.cE at hc;split at hc
  ·cases hc
  ·rcases V4.1 hc with rfl|hc
   ·exact Wf.1 (Wi.1 hi).1
   ·exact uv f _ c hc i hi
theorem xQ {c:List Nat} (hc:c∈mj p) {i:Nat} (hi:i∈c):i<(ns p).length:=uv _ _ c hc i hi
theorem wi (hf:hP p) {i j:Nat} (hi:i<(ns p).length) (hj:j<(ns p).length) (h:vD p i=vD p j):i=j:=by
 have hn:=te.CO (dK hf.nodup);unfold vD at h;rw[VP,VP,VS hi,VS hj] at h;exact(X4 hn).1 h
def vt (p:Prog) (k:Nat):Nat→Nat:=Go.Le.JH (ns p).length (eD p) (sD p) ((mj p).take k) fun _=>0
structure Eh (p:Prog) (k:Nat) (H:NM):Prop where
 is: ∀i,i<(ns p).length→bF .str H (vD p i) 0=(vt p k i:Int)
 le: ∀i,vt p k i≤k
theorem r9 (n:Nat) (e s:Nat→Nat→Bool) (c:List Nat): ∀(l:List (List Nat)) (h:Nat→Nat),Go.Le.JH n e s (l++ [c]) h=fun x=>if x∈c then Go.Le.top n e s (Go.Le.JH n e s l h) c else Go.Le.JH n e s l h x
 | [],h=>rfl
 |d::l,h=>by
  rw[W7,Go.Le.JH,r9 n e s c l];rfl
theorem Rw:Eh p 0 []:=⟨fun i _=>by rfl,fun i=>VZ _⟩
theorem zo {a:ah} {x:(KC.str).K×Int} (hx:x∈bZ (aC p) a):x.2=(gD (aC p) a x.1:Int):=by
 have hn:=(mE (aC p) a).1;rw[←zq];generalize bZ (aC p) a=m at hx hn
 induction m with
 |nil=>cases hx
 |cons y r ih=>
  obtain⟨s,v⟩:=y;rw[V6,WC] at hn;rcases V4.1 hx with rfl|hx
  ·simp[bF]
  ·have: ¬s=x.1:=fun e=>hn.1 (Wo.2 ⟨x,hx,e.symm⟩)
   simp only[bF,if_neg this];exact ih hx hn.2
theorem zp (hf:hP p) {a:ah} {x:(KC.str).K×Int} (hx:x∈bZ (aC p) a):1≤x.2∧x.2≤2:=by
 have h1:=zo hx;have h2:=Du p a x.1;obtain⟨k,hk⟩:=((mE (aC p) a).2 x.1).1 (WD hx);have h3:=Dv hk;have h4:=(hf.aC hk).2.2;simp only at h4;omega
theorem j6 (hf:hP p) {i:Nat} (hi:i<(ns p).length) {x:(KC.str).K×Int} (hx:x∈bZ (aC p) (vD p i)): ∃j,j<(ns p).length∧vD p j=x.1∧eD p i j=true∧x.2=(Go.Lv.wt (sD p) i j:Int)+1:=by
 have hs:x.1∈aQ p (vD p i):=by rw[←jy hf,cJ];exact WD hx
 obtain⟨h1,h2⟩:=Wi.1 hs;obtain⟨j,hj,hv⟩:=Go.Rg.iA h1;have hv':vD p j=x.1:=hv;refine⟨j,hj,hv,Go.Rg.fi.2 ⟨hi,hj,?_⟩,?_⟩
 ·show eg p (vD p i) (vD p j)=true
  rw[hv'];exact h2
 ·have h3:=zo hx
  have h4:=zp hf hx;unfold Go.Lv.wt sD;show x.2=((if tL p (vD p i) (vD p j)=true then 1 else 0:Nat):Int)+1;rw[hv'];unfold tL;by_cases h5:gD (aC p) (vD p i) x.1=2
  ·rw[if_pos (by simpa using h5)];omega
  ·rw[if_neg (by simpa using h5)];omega
theorem DE (hf:hP p) {i j:Nat} (h:eD p i j=true): ∃x∈bZ (aC p) (vD p i),x.1=vD p j∧x.2=(Go.Lv.wt (sD p) i j:Int)+1:=by
 obtain⟨hi,hj,he⟩:=Go.Rg.fi.1 h;have hs:vD p j∈aQ p (vD p i):=Wi.2 ⟨Go.Rg.get_mem hj,he⟩;rw[←jy hf,cJ] at hs;obtain⟨x,hx,hxj⟩:=Wo.1 hs;obtain⟨j',hj',hv,_,hw⟩:=j6 hf hi hx;have:j'=j:=wi hf hj' hj (hv.trans hxj);subst this;exact⟨x,hx,hxj,hw⟩
def uP (p:Prog) (H:NM) (c:List ah) (v:Int):Prop:=0≤v∧(∀a∈c,∀x∈bZ (aC p) a,bF .str H x.1 0+x.2-1≤v)∧(v=0∨ ∃a∈c,∃x∈bZ (aC p) a,v=bF .str H x.1 0+x.2-1)
theorem IJ (H:NM):uP p H [] 0:=⟨XB _,fun _ h=>(nomatch h), .inl rfl⟩
def mN (H row:NM) (v:Int) (vs:List Nat):Int:=vs.foldr (fun j m=>max m (bF .str H (row.getD j default).1 0+(row.getD j default).2-1)) v
theorem oX (H row:NM) (v:Int): ∀vs:List Nat,v≤mN H row v vs∧(∀j∈vs,bF .str H (row.getD j default).1 0+(row.getD j default).2-1≤mN H row v vs)∧
  (mN H row v vs=v∨ ∃j∈vs,mN H row v vs=bF .str H (row.getD j default).1 0+(row.getD j default).2-1)
 | []=>⟨XB _,fun _ h=>(nomatch h), .inl rfl⟩
 |j::vs=>by
  obtain⟨h1,h2,h3⟩:=oX H row v vs;show v≤max (mN H row v vs) _∧(∀i∈j::vs,_≤max (mN H row v vs) _)∧(max (mN H row v vs) _=v∨ ∃i∈j::vs,max (mN H row v vs) _=_)
  generalize hg:bF .str H (row.getD j default).1 0+(row.getD j default).2-1=g;refine⟨by omega,fun i hi=>?_,?_⟩
  ·rcases V4.1 hi with rfl|hi
   ·rw[hg];omega
   ·have:=h2 i hi;omega
  ·rcases Int.le_total (mN H row v vs) g with h4|h4
   ·exact .inr ⟨j,by simp,by rw[hg];omega⟩
   ·rcases h3 with h3|⟨i,hi,h3⟩
    ·exact .inl (by omega)
    ·exact .inr ⟨i,V2 _ hi,by omega⟩
theorem BU {H:NM} {c:List ah} {a:ah} {v:Int} (h:uP p H c v) {vs:List Nat} (h1: ∀j∈vs,j<(bZ (aC p) a).length) (h2: ∀j,j<(bZ (aC p) a).length→j∈vs):uP p H (c++ [a]) (mN H (bZ (aC p) a) v vs):=by
 obtain⟨g1,g2,g3⟩:=oX H (bZ (aC p) a) v vs;refine⟨Int.le_trans h.1 g1,fun b hb x hx=>?_,?_⟩
 ·rcases V3.1 hb with hb|hb
  ·exact Int.le_trans (h.2.1 b hb x hx) g1
  ·rw[VX] at hb;subst hb
   obtain⟨j,hj⟩:=WE hx;have hjl:=(VO.1 hj).1;have:=g2 j (h2 j hjl);rw[VP,hj] at this;exact this
 ·rcases g3 with g3|⟨j,hj,g3⟩
  ·rcases h.2.2 with h3|⟨b,hb,x,hx,h3⟩
   ·exact .inl (g3.trans h3)
   ·exact .inr ⟨b,Wp _ hb,x,hx,g3.trans h3⟩
  ·exact .inr ⟨a,by simp,_,bp (h1 j hj),g3⟩
theorem II (hf:hP p) {k:Nat} {H:NM} (hH:Eh p k H) {c:List Nat} (hc:c∈mj p) {v:Int} (h:uP p H (c.map (vD p)) v):v=(Go.Le.top (ns p).length (eD p) (sD p) (vt p k) c:Int):=by
 obtain⟨h1,h2,h3⟩:=h;apply Int.le_antisymm
 ·rcases h3 with h3|⟨a,ha,x,hx,h3⟩
  ·omega
  ·obtain⟨i,hi,rfl⟩:=Wo.1 ha
   obtain⟨j,hj,hv,he,hw⟩:=j6 hf (xQ hc hi) hx;have:=Go.Le.BV (s:=sD p) (h:=vt p k) hi hj he;rw[←hv,hH.is j hj] at h3;omega
 ·rcases Go.Le.uV (n:=(ns p).length) (e:=eD p) (s:=sD p) (vt p k) c with h4|⟨i,hi,j,hj,he,h4⟩
  ·rw[h4];exact h1
  ·obtain⟨x,hx,hxj,hw⟩:=DE hf he
   have:=h2 _ (WD hi) x hx;rw[hxj,hH.is j hj] at this;omega
theorem QQ {k:Nat} {H:NM} (hH:Eh p k H) (c:List Nat):Go.Le.top (ns p).length (eD p) (sD p) (vt p k) c≤k+1:=by
 rcases Go.Le.uV (n:=(ns p).length) (e:=eD p) (s:=sD p) (vt p k) c with h4|⟨i,hi,j,hj,he,h4⟩
 ·omega
 ·have:=hH.le j
  have h5:Go.Lv.wt (sD p) i j≤1:=by unfold Go.Lv.wt;split<;>omega
  omega
theorem Eh.step (hf:hP p) {k:Nat} {H H':NM} (hH:Eh p k H) (hk:k<(mj p).length) {v:Int} (h:uP p H (((mj p).getD k default).map (vD p)) v)
  (h':(∀b∈((mj p).getD k default).map (vD p),bF .str H' b 0=v)∧ ∀b:ah,b∉((mj p).getD k default).map (vD p)→bF .str H' b 0=bF .str H b 0):Eh p (k+1) H':=by
 have hc:(mj p).getD k default∈mj p:=bp hk;have hv:=II hf hH hc h;have hle:=QQ hH ((mj p).getD k default)
 have hlv:vt p (k+1)=fun x=>if x∈(mj p).getD k default then Go.Le.top (ns p).length (eD p) (sD p) (vt p k) ((mj p).getD k default) else vt p k x:=by
  unfold vt;rw[aY hk,r9]
 refine⟨fun i hi=>?_,fun i=>?_⟩
 ·rw[hlv]
  by_cases hm:i∈(mj p).getD k default
  ·rw[h'.1 _ (WD hm),hv];simp only[hm,if_true]
  ·rw[h'.2 _ ?_,hH.is i hi]
   ·simp only[hm,if_false]
   ·intro h2
    obtain⟨j,hj,he⟩:=Wo.1 h2;have:=wi hf (xQ hc hj) hi he;subst this;exact hm hj
 ·rw[hlv]
  simp only;split
  ·exact hle
  ·have:=hH.le i;omega
end
end Go.Proofs.YtflegjieadkonaaGreatDoor
namespace Go.Proofs.YtflegjieadkonaaGreatDoor
open Go Go.Al
set_option maxRecDepth 10000
def yb (x:ah×Nat):List IV:=[iS x.1,iI x.2]
def iB (p:Prog):List (ah×Nat):=if(cQ p).1=0 then aT p else[]
theorem gX {p:Prog} (h:(cQ p).1=0):(bm p).1=0∧cQ p=dE.z:=by
 unfold cQ at h ⊢;by_cases k1:(bm p).1=0
 ·rw[if_neg (by simpa using k1)] at h ⊢
  refine⟨k1,?_⟩
  cases hf:(p.rules.map (hZ p)).find? fun d=>decide (d.1≠0) with
  |none=>rfl
  |some d=>
   rw[hf] at h;have:=Ya hf;simp only[decide_eq_true_eq] at this;exact absurd h this
 ·rw[if_pos k1] at h;exact absurd h k1
theorem jc {n:Nat} {F:(Nat→Bool)→Nat→Bool} {K:Nat→Nat→Bool}: ∀(f:Nat) (d:Nat→Bool),(Go.Co.cE n F K f d).length≤f∧ ∀c∈Go.Co.cE n F K f d,c.length≤n
 |0,_=>⟨VZ _,fun _ h=>(nomatch h)⟩
 |f+1,d=>by
  unfold Go.Co.cE;split
  ·exact⟨V1 _,fun _ h=>(nomatch h)⟩
  ·obtain⟨h1,h2⟩:=jc (n:=n) (F:=F) (K:=K) f _
   refine⟨Nat.succ_le_succ h1,fun c hc=>?_⟩;rcases V4.1 hc with rfl|hc
   ·exact Wh (WR _ _) (by simp)
   ·exact h2 c hc
theorem Eh.bd {p:Prog} (hf:hP p) {k:Nat} {H:NM} (h:Eh p k H) {i:Nat} (hi:i<(ns p).length) {x:(KC.str).K×Int} (hx:x∈bZ (aC p) (vD p i)):0≤bF .str H x.1 0∧bF .str H x.1 0≤k:=by
 obtain⟨j,hj,hv,_⟩:=j6 hf hi hx;have:=h.is j hj;have h2:=h.le j;rw[hv] at this;omega
theorem Ue {p:Prog} (h0:(cQ p).1=0) {H:NM} (h:Eh p (mj p).length H) {i:Nat} (hi:i<(ns p).length):bF .str H (vD p i) 0=(cv p i:Int):=by
 have h1:=kX (jz fun r hr=>fv (fQ (gX h0).1 h0 r hr)) hi;rw[h.is i hi,h1];unfold vt;rw[VY (VZ _)];rfl
theorem fB (p:Prog) {i:Nat} (hi:i<(ns p).length):(aT p).getD i default=(vD p i,cv p i):=by
 unfold aT;rw[VP,VV,XL hi];rfl
theorem eH (p:Prog):(aT p).length=(ns p).length:=by simp[aT]
theorem zl (hS:dD) (p:Prog) (hb:p.fit) (hs:p.size≤10000000):Pure Tryz.prog 15 [ag p.c] (.bM [.iv (cV 2 (iB p) yb),ag (cQ p).c]):=by
 by_cases k1:(cQ p).1=0;rotate_left
 ·rw[iB,if_neg k1]
  refine az ae Tryz.func15 rfl (by decide) Tryz.ntmps15 rfl (by simp) rfl ?_;refine gA rfl (aj (u4 hS p hb hs) rfl rfl rfl rfl rfl rfl ?_);refine gA rfl ?_;refine VJ (fun k2=>?_) (fun k2=>?_)
  ·refine gA rfl (au (by first|exact .inr rfl|exact .inl rfl) rfl ?_)
   exact .bM ⟨.nil _ _, .refl _,trivial⟩
  ·exact absurd (by simpa using k2) k1
 obtain⟨k0,kz⟩:=gX k1;have hf:=fw k0;have hn:=lN hf;have hcl:(mj p).length≤(ns p).length:=(jc _ _).1;have hce: ∀c∈mj p,c.length≤(ns p).length:=(jc _ _).2;have hcc:(bh p).length=(mj p).length:=by rw[gW,Wr]
 rw[iB,if_pos k1];refine az ae Tryz.func15 rfl (by decide) Tryz.ntmps15 rfl (by simp) rfl ?_;refine gA rfl (aj (u4 hS p hb hs) rfl rfl rfl rfl rfl rfl ?_);refine gA rfl ?_;refine VJ (fun k2=>?_) (fun k2=>?_)
 ·exact absurd k1 (by simpa using k2)
 refine gA rfl (aj (rA hS hb k0) rfl rfl rfl rfl rfl rfl ?_);refine gA rfl (aj (zm hS hb hs k0) rfl rfl rfl rfl rfl rfl ?_);refine gA rfl ?_
 refine gf 0 (bh p).length (V1 _) (fun k (H:NM)=>⟨[(3, .ptr 1 0),(5, .iv (mG (ba p (aC p)))),(7, .mp 3),(33, .iv (cV 1 (bh p) kr)),(34,pI (bh p).length),(35,pI k)],[(1,some (aE dE.z.c)),(3,some (cf H))],4⟩) (fun k H=>Eh p k H) [] [] Rw
  (wk rfl rfl rfl ⟨.refl _,rfl, .refl _,rfl, .refl _,rfl, .refl _,rfl, .refl _,rfl, .refl _,rfl,trivial⟩ (hC rfl rfl rfl (Dc rfl (fun _=> .v _) rfl trivial)) rfl) fun k H hk hH=>?_
 refine gA rfl ?_;refine VJ (fun h1=>?_) (fun h1=>?_)
 ·have h1:k<(bh p).length:=by simpa using h1
  have h1c:k<(mj p).length:=by omega
  let c:List ah:=(bh p).getD k default
  have hcv:c=((mj p).getD k default).map (vD p):=by
   show(bh p).getD k default=_;rw[gW,VP,VV,VS h1c,VP,VS h1c];rfl
  have hck:=hce _ (bp h1c);have hcln:c.length≤64:=by rw[hcv,Wr];omega
  have hca: ∀b∈c,∃i,i<(ns p).length∧vD p i=b:=fun b hb=>by
   rw[hcv] at hb;obtain⟨i,hi,e⟩:=Wo.1 hb;exact⟨i,xQ (bp h1c) hi,e⟩
  refine gA rfl ?_
  refine gf 0 c.length (V1 _) (fun t (v:Int)=>⟨[(3, .ptr 1 0),(5, .iv (mG (ba p (aC p)))),(7, .mp 3),(33, .iv (cV 1 (bh p) kr)),(34,pI (bh p).length),(35,pI k),(9, .iv (strs c)),(10,pI v),(39, .iv (strs c)),(40,pI c.length),(41,pI t)],[(1,some (aE dE.z.c)),(3,some (cf H))],4⟩) (fun t v=>uP p H (c.take t) v∧v≤1000) 0 [] ⟨IJ H,by decide⟩
   (wk rfl rfl rfl ⟨.refl _,rfl, .refl _,rfl, .refl _,rfl, .refl _,rfl, .refl _,rfl, .refl _,rfl, .refl _,rfl, .refl _,rfl, .refl _,rfl, .refl _,rfl, .refl _,rfl,trivial⟩ (hC rfl rfl rfl (hM rfl rfl rfl trivial)) rfl) fun t v ht hV=>?_
  obtain⟨hV,hvl⟩:=hV;have hv0:=hV.1;refine gA rfl ?_;refine VJ (fun h2=>?_) (fun h2=>?_)
  ·have h2:t<c.length:=by simpa using h2
   obtain⟨ia,hia,hva⟩:=hca _ (bp h2)
   have hna:c.getD t default∈p.aS.map Decl.name:=by
    rw[←hva];have:=Go.Rg.get_mem hia;rwa[ns,cJ] at this
   have hbd: ∀x∈bZ (aC p) (c.getD t default),(0≤bF .str H x.1 0∧bF .str H x.1 0≤64)∧1≤x.2∧x.2≤2:=fun x hx=>by
    have h3:=zp hf hx;rw[←hva] at hx;have h4:=hH.bd hf hia hx;omega
   refine gM 13 rfl (oH ae (.iv (nY (bZ (aC p) (c.getD t default)))) rfl rfl rfl rfl (lY p _ hna) rfl ?_);refine gA rfl ?_
   refine eJ (bZ (aC p) (c.getD t default)) (fun vs=>⟨[(3, .ptr 1 0),(5, .iv (mG (ba p (aC p)))),(7, .mp 3),(33, .iv (cV 1 (bh p) kr)),(34,pI (bh p).length),(35,pI k),(9, .iv (strs c)),(10,pI (mN H (bZ (aC p) (c.getD t default)) v vs)),(39, .iv (strs c)),(40,pI c.length),(41,pI t),(48, .ptr 4 0)],[(1,some (aE dE.z.c)),(3,some (cf H)),(4,some (.bt .str sE (bZ (aC p) (c.getD t default)) vs none))],5⟩)
    (fun vs=> ∀j∈vs,j<(bZ (aC p) (c.getD t default)).length) [] (fun j hj=>(nomatch hj))
    (wk rfl rfl rfl ⟨.refl _,rfl, .refl _,rfl, .refl _,rfl, .refl _,rfl, .refl _,rfl, .refl _,rfl, .refl _,rfl, .refl _,rfl, .refl _,rfl, .refl _,rfl, .refl _,rfl, .refl _,rfl,trivial⟩ (hC rfl rfl rfl (hM rfl rfl rfl (hI rfl rfl (.inl rfl) rfl trivial))) rfl) fun vs hJ=>?_
   obtain⟨g1,g2,g3⟩:=oX H (bZ (aC p) (c.getD t default)) v vs
   have hvm:mN H (bZ (aC p) (c.getD t default)) v vs≤1000:=by
    rcases g3 with g3|⟨j,hj,g3⟩
    ·omega
    ·have:=hbd _ (bp (hJ j hj));omega
   refine lB rfl trivial (db rfl rfl rfl rfl rfl (by decide) (fun hall=>?_) fun j x hx hj=>?_)
   ·refine gA rfl ?_
    exact⟨h2,mN H (bZ (aC p) (c.getD t default)) v vs,[],⟨by rw[aY h2];exact BU hV hJ hall,hvm⟩,wk rfl rfl rfl ⟨.refl _,rfl, .refl _,rfl, .refl _,rfl, .refl _,rfl, .refl _,rfl, .refl _,rfl, .refl _,rfl, .refl _,rfl, .refl _,rfl, .refl _,rfl, .refl _,rfl,trivial⟩ (hC rfl rfl rfl (hM rfl rfl rfl trivial)) rfl⟩
   ·have hxb:=hbd x (Wj hx)
    have hxj:(bZ (aC p) (c.getD t default)).getD j default=x:=by rw[VP,hx];rfl
    have hvs:max (mN H (bZ (aC p) (c.getD t default)) v vs) (bF .str H x.1 0+x.2-1)=mN H (bZ (aC p) (c.getD t default)) v (j::vs):=by
     show _=max (mN H (bZ (aC p) (c.getD t default)) v vs) _;rw[hxj]
    refine gA rfl ?_;exact⟨j,x,hx,hj,fun i hi=>(V4.1 hi).elim (fun h=>h▸(VO.1 hx).1) (hJ i),[],wk rfl rfl rfl ⟨.refl _,rfl, .refl _,rfl, .refl _,rfl, .refl _,rfl, .refl _,rfl, .refl _,rfl, .refl _,rfl, .of_eq (by rw[←hvs];rfl),rfl, .refl _,rfl, .refl _,rfl, .refl _,rfl, .refl _,rfl,trivial⟩ (hC rfl rfl rfl (hM rfl rfl rfl (hI rfl rfl (.inr rfl) rfl trivial))) rfl⟩
  ·have h2:c.length≤t:=by simpa using h2
   rw[VY h2] at hV;refine gA rfl ?_
   refine gf 0 c.length (V1 _) (fun t (H2:NM)=>⟨[(3, .ptr 1 0),(5, .iv (mG (ba p (aC p)))),(7, .mp 3),(33, .iv (cV 1 (bh p) kr)),(34,pI (bh p).length),(35,pI k),(10,pI v),(63, .iv (strs c)),(64,pI c.length),(65,pI t)],[(1,some (aE dE.z.c)),(3,some (cf H2))],4⟩) (fun t H2=>(∀b∈c.take t,bF .str H2 b 0=v)∧ ∀b:ah,b∉c.take t→bF .str H2 b 0=bF .str H b 0) H [] ⟨fun b hb=>(nomatch hb),fun b _=>rfl⟩
    (wk rfl rfl rfl ⟨.refl _,rfl, .refl _,rfl, .refl _,rfl, .refl _,rfl, .refl _,rfl, .refl _,rfl, .refl _,rfl, .refl _,rfl, .refl _,rfl, .refl _,rfl,trivial⟩ (hC rfl rfl rfl (hM rfl rfl rfl trivial)) rfl) fun t H2 ht hJ=>?_
   obtain⟨hJ1,hJ2⟩:=hJ;refine gA rfl ?_;refine VJ (fun h3=>?_) (fun h3=>?_)
   ·have h3:t<c.length:=by simpa using h3
    refine gA rfl ?_;refine⟨h3,bQ .str H2 (c.getD t default) v,[],⟨fun b hb=>?_,fun b hb=>?_⟩,wk rfl rfl rfl ⟨.refl _,rfl, .refl _,rfl, .refl _,rfl, .refl _,rfl, .refl _,rfl, .refl _,rfl, .refl _,rfl, .refl _,rfl, .refl _,rfl, .refl _,rfl,trivial⟩ (hC rfl rfl rfl (hM rfl rfl rfl trivial)) rfl⟩
    ·rw[fZ]
     by_cases hbc:c.getD t default=b
     ·rw[if_pos hbc]
     ·rw[if_neg hbc]
      rw[aY h3] at hb;rcases V3.1 hb with hb|hb
      ·exact hJ1 b hb
      ·exact absurd (VX.1 hb).symm hbc
    ·rw[aY h3,V3,not_or] at hb
     rw[fZ,if_neg (fun e=>hb.2 (by rw[e];simp)),hJ2 b hb.1]
   ·have h3:c.length≤t:=by simpa using h3
    rw[VY h3] at hJ1 hJ2;refine gA rfl ?_;exact⟨h1,H2,[],hH.step hf h1c (hcv▸hV) (hcv▸⟨hJ1,hJ2⟩),wk rfl rfl rfl ⟨.refl _,rfl, .refl _,rfl, .refl _,rfl, .refl _,rfl, .refl _,rfl, .refl _,rfl,trivial⟩ (hC rfl rfl rfl (hM rfl rfl rfl trivial)) rfl⟩
 ·have h1:(bh p).length≤k:=by simpa using h1
  have hkc:k=(mj p).length:=by omega
  subst hkc;refine gA rfl (aj (j3 hS hf (aC p)) rfl rfl rfl rfl rfl rfl ?_);refine gA rfl ?_;refine jI 17 2 rfl ?_
  refine aL 0 (ns p).length (V1 _) (fun i=>⟨[(3, .ptr 1 0),(7, .mp 3),(17, .sl 5 0 ((aT p).take i).length 2),(75, .iv (strs (ns p))),(76,pI (ns p).length),(77,pI i)],[(1,some (aE dE.z.c)),(3,some (cf H)),(5,some (a7 2 ((aT p).take i) yb))],6⟩) (fun _=>True) [4] trivial
   (wk rfl rfl rfl ⟨.refl _,rfl, .refl _,rfl, .refl _,rfl, .refl _,rfl, .refl _,rfl, .refl _,rfl,trivial⟩ (hC rfl rfl rfl (hM rfl rfl rfl (hR rfl rfl rfl trivial))) rfl) fun i hi _=>?_
  refine gA rfl ?_;refine VJ (fun h2=>?_) (fun h2=>?_)
  ·have h2:i<(ns p).length:=by simpa using h2
   have hll:((aT p).take i).length≤64:=by rw[Xc,eH];omega
   have hst:(aT p).take (i+1)=(aT p).take i++ [(vD p i,cv p i)]:=by rw[aY (by rw[eH];exact h2),fB p h2]
   have hlv:=Ue k1 hH h2;refine gA rfl ?_
   exact⟨h2,trivial,[7],wk rfl rfl rfl ⟨.refl _,rfl, .refl _,rfl, .row (by rw[hst,VL];rfl),rfl, .refl _,rfl, .refl _,rfl, .refl _,rfl,trivial⟩ (hC rfl rfl rfl (hM rfl rfl rfl (hR rfl (by
    rw[hst,VN];show _=_++ [[PV.iv (iS (vD p i)),PV.iv (iI (cv p i:Int))]]
    rw[←hlv];rfl) rfl trivial))) rfl⟩
  ·have h2:(ns p).length≤i:=by simpa using h2
   have e:(aT p).take i=aT p:=VY (by rw[eH];exact h2);rw[kz];refine gA rfl ⟨.inr rfl,_,rfl,?_⟩;rw[e];refine .row 5 (fun k=>yb ((aT p).getD k default)) rfl (cZ rfl) ?_ (.done (.bM ⟨?_, .refl _,trivial⟩))
   ·refine⟨?_,⟨trivial,trivial,trivial,trivial⟩,trivial⟩
    show PV.bW 5 2 _ (.sl 5 0 (aT p).length 2);simp[PV.bW]
   ·show ak (.iv (.cK 2 (aT p).length fun k=>yb ((aT p).getD (0+k) default))) (.iv (cV 2 (aT p) yb))
    simp only[Wn];exact .refl _
def lW (l:List (ah×Nat)) (a:ah):Int:=match l.find? fun x=>decide (x.1=a) with
 |some x=>x.2
 |none=> -1
theorem ym (l:List (ah×Nat)) (a:ah) (hl:l.length≤1000000):Pure Tryz.prog 31 [.iv (cV 2 l yb),pS a] (pI (lW l a)):=by
 refine az ae Tryz.func31 rfl (by decide) Tryz.ntmps31 rfl (by simp) rfl ?_;refine gA rfl ?_
 refine aL 0 l.length (V1 _) (fun i=>⟨[(0, .iv (cV 2 l yb)),(1,pS a),(5,pI i)],[],0⟩) (fun i=>(l.take i).any (fun x=>decide (x.1=a))=false) [] rfl
  (Ei rfl rfl ⟨.refl _,rfl, .refl _,rfl, .refl _,rfl,trivial⟩ rfl) fun i hi hJ=>?_
 refine gA rfl ?_;refine VJ (fun h1=>?_) (fun h1=>?_)
 ·have h1:i<l.length:=by simpa using h1
  refine gA rfl ?_;refine VJ (fun h2=>?_) (fun h2=>?_)
  ·have h2:(l.getD i default).1=a:=of_decide_eq_true h2
   unfold lW;rw[jj hJ h1 (by simpa using h2)];refine gA rfl (au (by first|exact .inr rfl|exact .inl rfl) rfl (.of_eq ?_));rfl
  ·have h2: ¬(l.getD i default).1=a:=of_decide_eq_false h2
   refine gA rfl ?_;exact⟨h1,(cG hJ h1).2 (by simpa using h2),[],Ei rfl rfl ⟨.refl _,rfl, .refl _,rfl, .refl _,rfl,trivial⟩ rfl⟩
 ·have h1:l.length≤i:=by simpa using h1
  unfold lW;rw[iJ (any_none hJ h1)];refine gA rfl (au (by first|exact .inr rfl|exact .inl rfl) rfl (.of_eq ?_));rfl
def fT (a:ah) (i:Nat) (s:Option Int) (x:ah):Option Int:=s.bind fun at_=>if x=a then(if 0≤at_ then none else some (i:Int)) else some at_
def p2 (c:List (List ah)) (a:ah) (s:Option Int) (i:Nat):Option Int:=(c.getD i default).foldl (fT a i) s
def vh (c:List (List ah)) (a:ah):Option Int:=(V5 c.length).foldl (p2 c a) (some (-1))
def fW (c:List (List ah)) (a:ah):Int:=(vh c a).getD (-1)
theorem lG (a:ah) (i:Nat): ∀l:List ah,l.foldl (fT a i) none=none
 | []=>rfl
 |_::l=>lG a i l
theorem rF (c:List (List ah)) (a:ah): ∀l:List Nat,l.foldl (p2 c a) none=none
 | []=>rfl
 |i::l=>by rw[Wm,p2,lG];exact rF c a l
theorem l3 {α β:Type} {g:Option β→α→Option β} (hg: ∀l:List α,l.foldl g none=none) {l:List α} {i:Nat} {s:Option β} (h:(l.take i).foldl g s=none):l.foldl g s=none:=by
 rw[←List.take_append_drop i l,Xe,h,hg]
theorem wZ {n i:Nat} (h:i<n):(V5 n).getD i default=i:=by rw[VP,XL h];rfl
theorem eA (c:List (List ah)) (a:ah) (hc:c.length≤1000000) (hr: ∀r∈c,r.length≤1000000):Pure Tryz.prog 30 [.iv (cV 1 c kr),pS a] (pI (fW c a)):=by
 refine az ae Tryz.func30 rfl (by decide) Tryz.ntmps30 rfl (by simp) rfl ?_;refine gA rfl ?_
 refine gf 0 c.length (V1 _) (fun i (at_:Int)=>⟨[(0, .iv (cV 1 c kr)),(1,pS a),(5,pI at_),(6,pI i)],[],0⟩) (fun i at_=>((V5 c.length).take i).foldl (p2 c a) (some (-1))=some at_) (-1) [] rfl
  (Ei rfl rfl ⟨.refl _,rfl, .refl _,rfl, .refl _,rfl, .refl _,rfl,trivial⟩ rfl) fun i at_ hi hJ=>?_
 refine gA rfl ?_;refine VJ (fun h1=>?_) (fun h1=>?_)
 ·have h1:i<c.length:=by simpa using h1
  have hrl:=hr _ (bp h1);have hs:=c8 (l:=V5 c.length) (g:=p2 c a) (b:=some (-1)) (i:=i) (by simpa using h1);rw[hJ,wZ h1] at hs;refine gA rfl ?_
  refine gf 0 (c.getD i default).length (V1 _) (fun k (a2:Int)=>⟨[(0, .iv (cV 1 c kr)),(1,pS a),(5,pI a2),(6,pI i),(7,pI k)],[],0⟩) (fun k a2=>((c.getD i default).take k).foldl (fT a i) (some at_)=some a2) at_ [] rfl
   (Ei rfl rfl ⟨.refl _,rfl, .refl _,rfl, .refl _,rfl, .refl _,rfl, .refl _,rfl,trivial⟩ rfl) fun k a2 hk hK=>?_
  refine gA rfl ?_;refine VJ (fun h2=>?_) (fun h2=>?_)
  ·have h2:k<(c.getD i default).length:=by simpa using h2
   have ht:=c8 (l:=c.getD i default) (g:=fT a i) (b:=some at_) (i:=k) h2;rw[hK] at ht;refine gA rfl ?_;refine VJ (fun h3=>?_) (fun h3=>?_)
   ·have h3:(c.getD i default).getD k default=a:=of_decide_eq_true h3
    refine gA rfl ?_;refine VJ (fun h4=>?_) (fun h4=>?_)
    ·have h4:0≤a2:=by simpa using h4
     have e1:((c.getD i default).take (k+1)).foldl (fT a i) (some at_)=none:=by rw[ht];simp only[fT,Xi,h3,h4,if_true,if_false]
     have e2:p2 c a (some at_) i=none:=l3 (lG a i) e1;have e3:vh c a=none:=l3 (rF c a) (hs.trans e2);refine gA rfl (au (by first|exact .inr rfl|exact .inl rfl) rfl (.of_eq ?_));unfold fW;rw[e3];rfl
    ·have h4: ¬0≤a2:=by simpa using h4
     refine gA rfl ?_;refine VJ (fun h5=>?_) (fun h5=>?_)
     ·refine gA rfl ?_
      exact⟨h2,(i:Int),[],by rw[ht];simp only[fT,Xi,h3,h4,if_true,if_false],Ei rfl rfl ⟨.refl _,rfl, .refl _,rfl, .refl _,rfl, .refl _,rfl, .refl _,rfl,trivial⟩ rfl⟩
     ·exact absurd h3 (of_decide_eq_false h5)
   ·have h3: ¬(c.getD i default).getD k default=a:=by simpa using h3
    refine gA rfl ?_;refine VJ (fun h5=>?_) (fun h5=>?_)
    ·exact absurd (of_decide_eq_true h5) h3
    ·refine gA rfl ?_
     exact⟨h2,a2,[],by rw[ht];simp only[fT,Xi,h3,if_false],Ei rfl rfl ⟨.refl _,rfl, .refl _,rfl, .refl _,rfl, .refl _,rfl, .refl _,rfl,trivial⟩ rfl⟩
  ·have h2:(c.getD i default).length≤k:=by simpa using h2
   rw[VY h2] at hK;refine gA rfl ?_;exact⟨h1,a2,[],by rw[hs];exact hK,Ei rfl rfl ⟨.refl _,rfl, .refl _,rfl, .refl _,rfl, .refl _,rfl,trivial⟩ rfl⟩
 ·have h1:c.length≤i:=by simpa using h1
  rw[VY (by simpa using h1)] at hJ;refine gA rfl (au (by first|exact .inr rfl|exact .inl rfl) rfl (.of_eq ?_));unfold fW vh;rw[hJ];rfl
def og (b:List Lit):List ah:=(b.filter fun x=>decide (x.kind≠3)).map fun x=>x.atom.rel
def bq (l:Lit):List ah:=if l.kind=3 then[] else if l.kind≠4 then[l.atom.rel] else og l.ar
theorem yp {b:List Lit} {i:Nat} (h:i<b.length):og (b.take (i+1))=og (b.take i)++(if(b.getD i default).kind≠3 then[(b.getD i default).atom.rel] else[]):=by
 unfold og;rw[aY h,YT,VN];congr 1;by_cases h3:(b.getD i default).kind=3
 ·simp only[Xp,h3,ne_eq,not_true_eq_false,decide_false,if_false,Y3,Wv,Xn]
 ·simp only[Xp,h3,ne_eq,not_false_eq_true,decide_true,if_true,Y3,V6,Wv]
theorem wU (b:List Lit) (i:Nat):(og (b.take i)).length≤b.length:=by
 unfold og;rw[Wr];exact Wh (WR _ _) (by rw[Xc];omega)
theorem I4 (l:Lit) (h:l.size≤100000000000):Pure Tryz.prog 67 [ag l.c] (.iv (strs (bq l))):=by
 have hal:=Lit.aI l.ar;have hsz:=l.size_eq;refine Al.Pure.le (aa:=[ag l.c]) (args:=[ag l.c1]) ?_ ⟨l.zE,trivial⟩;unfold bq;refine az ae Tryz.func67 rfl (by decide) Tryz.ntmps67 rfl (by simp) rfl ?_;refine gA rfl ?_;refine VJ (fun k1=>?_) (fun k1=>?_)
 ·have k1:l.kind=3:=by simpa using k1
  rw[if_pos k1];refine gA rfl (au (by first|exact .inr rfl|exact .inl rfl) rfl ?_);exact .nil _ _
 have k1: ¬l.kind=3:=by simpa using k1
 rw[if_neg k1];refine gA rfl ?_;refine VJ (fun k2=>?_) (fun k2=>?_)
 ·have k2: ¬l.kind=4:=by simpa using k2
  rw[if_pos k2];refine gA rfl (eU (by first|exact .inr rfl|exact .inl rfl) rfl rfl (rfl) (rfl))
 have k2:l.kind=4:=by simpa using k2
 rw[if_neg (by simpa using k2)];refine gA rfl ?_;refine jI 3 1 rfl ?_
 refine aL 0 l.ar.length (V1 _) (fun i=>⟨[(1, .ptr 0 0),(3, .sl 2 0 (og (l.ar.take i)).length 1),(4,pI i)],[(0,some (aE l.c1)),(2,some (a7 1 (og (l.ar.take i)) ch))],3⟩) (fun _=>True) [1] trivial
  (wk rfl rfl rfl ⟨.refl _,rfl, .refl _,rfl, .refl _,rfl,trivial⟩ (hC rfl rfl rfl (hR rfl rfl rfl trivial)) rfl) fun i hi _=>?_
 have hle:=wU l.ar i;refine gA rfl ?_;refine VJ (fun h1=>?_) (fun h1=>?_)
 ·have h1:i<l.ar.length:=by simpa using h1
  have hst:=yp h1;refine gA rfl ?_;refine VJ (fun h2=>?_) (fun h2=>?_)
  ·have h2: ¬(l.ar.getD i default).kind=3:=by simpa using h2
   rw[if_pos h2] at hst;refine gA rfl ?_;exact⟨h1,trivial,[4],wk rfl rfl rfl ⟨.refl _,rfl, .row (by rw[hst,VL];rfl),rfl, .refl _,rfl,trivial⟩ (hC rfl rfl rfl (hR rfl (by rw[hst,VN];rfl) rfl trivial)) rfl⟩
  ·have h2:(l.ar.getD i default).kind=3:=by simpa using h2
   rw[if_neg (by simpa using h2),WL] at hst;refine gA rfl ?_;exact⟨h1,trivial,[2],wk rfl rfl rfl ⟨.refl _,rfl, .row (by rw[hst]),rfl, .refl _,rfl,trivial⟩ (hC rfl rfl rfl (hR rfl (by rw[hst]) rfl trivial)) rfl⟩
 ·have h1:l.ar.length≤i:=by simpa using h1
  rw[VY h1];refine gA rfl (eU (by first|exact .inr rfl|exact .inl rfl) rfl rfl (rfl) (rfl))
end Go.Proofs.YtflegjieadkonaaGreatDoor
namespace Go.Proofs.YtflegjieadkonaaGreatDoor
open Go Go.Al
set_option maxRecDepth 10000
section
variable (l:List (ah×Nat)) (c:List (List ah)) (rel:ah)
def A7 (k:Int) (t:ah):Int:=if k≠1 then lW l t+1 else lW l t
def vu (k:Int) (t:ah):Bool:=decide (fW c t>fW c rel)||decide (fW c t<0)||(decide (k≠1)&&decide (fW c t=fW c rel))
def CU (k:Int) (s:Option Int) (t:ah):Option Int:=s.bind fun n=>if vu c rel k t then none else some (if A7 l k t>n then A7 l k t else n)
def Rx (s:Option Int) (x:Lit):Option Int:=(bq x).foldl (CU l c rel x.kind) s
def OW (s:Option Int) (r:aw):Option Int:=if r.head.rel≠rel then s else r.body.foldl (Rx l c rel) s
def nP (p:Prog):Option Int:=p.rules.foldl (OW l c rel) (some 0)
theorem rZ (k:Int): ∀a:List ah,a.foldl (CU l c rel k) none=none
 | []=>rfl
 |_::a=>rZ k a
theorem r5: ∀a:List Lit,a.foldl (Rx l c rel) none=none
 | []=>rfl
 |x::a=>by rw[Wm,Rx,rZ];exact r5 a
theorem xm: ∀a:List aw,a.foldl (OW l c rel) none=none
 | []=>rfl
 |r::a=>by
  rw[Wm,OW,r5,ite_self];exact xm a
end
theorem JG {l:List (ah×Nat)} (h: ∀x∈l,x.2≤1000000) (t:ah): -1≤lW l t∧lW l t≤1000000:=by
 unfold lW
 cases hf:l.find? fun x=>decide (x.1=t) with
 |none=>simp
 |some x=>have:=h x (Xu hf);simp only;omega
theorem yz (x:Lit):(bq x).length≤x.size+1:=by
 have h1:=x.size_eq;have h2:=Lit.aI x.ar;have h3:=wU x.ar x.ar.length;rw[VY (VZ _)] at h3;unfold bq;split
 ·simp
 ·split
  ·simp
  ·omega
theorem Rb (p:Prog) (hb:p.fit) (l:List (ah×Nat)) (c:List (List ah)) (rel:ah) (hl:l.length≤1000000) (hl2: ∀x∈l,x.2≤1000000) (hc:c.length≤1000000) (hr: ∀r∈c,r.length≤1000000):
  Pure Tryz.prog 29 [ag p.c, .iv (cV 2 l yb), .iv (cV 1 c kr),pS rel] (.bM [pI ((nP l c rel p).getD 0),pB (nP l c rel p).isSome]):=by
 have hrl:p.rules.length≤1000000000:=hb.2.1;refine az ae Tryz.func29 rfl (by decide) Tryz.ntmps29 rfl (by simp) rfl ?_;refine gA rfl ?_
 refine gf 0 p.rules.length (V1 _) (fun i (n:Int)=>⟨[(1, .iv (cV 2 l yb)),(2, .iv (cV 1 c kr)),(3,pS rel),(4, .ptr 0 0),(10,pI n),(11,pI i)],[(0,some (aE p.c))],1⟩) (fun i n=>(p.rules.take i).foldl (OW l c rel) (some 0)=some n) 0 [] rfl
  (wk rfl rfl rfl ⟨.refl _,rfl, .refl _,rfl, .refl _,rfl, .refl _,rfl, .refl _,rfl, .refl _,rfl,trivial⟩ (hC rfl rfl rfl trivial) rfl) fun i n hi hJ=>?_
 refine gA rfl ?_;refine VJ (fun h1=>?_) (fun h1=>?_);rotate_left
 ·have h1:p.rules.length≤i:=by simpa using h1
  rw[VY h1] at hJ;rw[nP,hJ];refine gA rfl (au (by first|exact .inr rfl|exact .inl rfl) rfl (.of_eq ?_));rfl
 have h1:i<p.rules.length:=by simpa using h1
 have hfit:=hb.2.2 _ (bp h1);have hsz:=hfit.1;have hst:=c8 (g:=OW l c rel) (b:=some (0:Int)) h1;rw[hJ] at hst;refine gA rfl ?_;refine VJ (fun h2=>?_) (fun h2=>?_)
 ·have h2: ¬(p.rules.getD i default).head.rel=rel:=by simpa using h2
  refine gA rfl ?_;exact⟨h1,n,[],by rw[hst,OW,if_pos h2],wk rfl rfl rfl ⟨.refl _,rfl, .refl _,rfl, .refl _,rfl, .refl _,rfl, .refl _,rfl, .refl _,rfl,trivial⟩ (hC rfl rfl rfl trivial) rfl⟩
 have h2:(p.rules.getD i default).head.rel=rel:=by simpa using h2
 rw[OW,if_neg (by simpa using h2)] at hst;have hbl:(p.rules.getD i default).body.length≤10000000:=by have:=Lit.aI (p.rules.getD i default).body;unfold aw.size at hsz;omega
 refine gA rfl ?_
 refine gf 0 (p.rules.getD i default).body.length (V1 _) (fun j (n:Int)=>⟨[(1, .iv (cV 2 l yb)),(2, .iv (cV 1 c kr)),(3,pS rel),(4, .ptr 0 0),(10,pI n),(11,pI i),(12,pI j)],[(0,some (aE p.c))],1⟩) (fun j n2=>((p.rules.getD i default).body.take j).foldl (Rx l c rel) (some n)=some n2) n [] rfl
  (wk rfl rfl rfl ⟨.refl _,rfl, .refl _,rfl, .refl _,rfl, .refl _,rfl, .refl _,rfl, .refl _,rfl, .refl _,rfl,trivial⟩ (hC rfl rfl rfl trivial) rfl) fun j n2 hj hJ2=>?_
 refine gA rfl ?_;refine VJ (fun h3=>?_) (fun h3=>?_);rotate_left
 ·have h3:(p.rules.getD i default).body.length≤j:=by simpa using h3
  rw[VY h3] at hJ2;refine gA rfl ?_;exact⟨h1,n2,[],by rw[hst];exact hJ2,wk rfl rfl rfl ⟨.refl _,rfl, .refl _,rfl, .refl _,rfl, .refl _,rfl, .refl _,rfl, .refl _,rfl,trivial⟩ (hC rfl rfl rfl trivial) rfl⟩
 have h3:j<(p.rules.getD i default).body.length:=by simpa using h3
 have hst2:=c8 (g:=Rx l c rel) (b:=some n) h3;rw[hJ2,Rx] at hst2;have hxs:((p.rules.getD i default).body.getD j default).size≤10000000:=by have:=Lit.bS (p.rules.getD i default).body j h3;unfold aw.size at hsz;omega
 have hnl:=yz ((p.rules.getD i default).body.getD j default);refine gA rfl (aj (I4 ((p.rules.getD i default).body.getD j default) (by omega)) rfl rfl rfl rfl rfl rfl ?_);refine gA rfl ?_
 refine gf 0 (bq ((p.rules.getD i default).body.getD j default)).length (V1 _) (fun k (n:Int)=>⟨[(1, .iv (cV 2 l yb)),(2, .iv (cV 1 c kr)),(3,pS rel),(4, .ptr 0 0),(10,pI n),(11,pI i),(12,pI j),(13, .ptr 1 0),(14, .iv (strs (bq ((p.rules.getD i default).body.getD j default)))),(15,pI k)],[(0,some (aE p.c)),(1,some (aE ((p.rules.getD i default).body.getD j default).c))],2⟩) (fun k n3=>((bq ((p.rules.getD i default).body.getD j default)).take k).foldl (CU l c rel ((p.rules.getD i default).body.getD j default).kind) (some n2)=some n3) n2 [] rfl
  (wk rfl rfl rfl ⟨.refl _,rfl, .refl _,rfl, .refl _,rfl, .refl _,rfl, .refl _,rfl, .refl _,rfl, .refl _,rfl, .refl _,rfl, .refl _,rfl, .refl _,rfl,trivial⟩ (hC rfl rfl rfl (hC rfl rfl rfl trivial)) rfl) fun k n3 hk hJ3=>?_
 refine gA rfl ?_;refine VJ (fun h4=>?_) (fun h4=>?_);rotate_left
 ·have h4:(bq ((p.rules.getD i default).body.getD j default)).length≤k:=by simpa using h4
  rw[VY h4] at hJ3;refine gA rfl ?_;exact⟨h3,n3,[],by rw[hst2];exact hJ3,wk rfl rfl rfl ⟨.refl _,rfl, .refl _,rfl, .refl _,rfl, .refl _,rfl, .refl _,rfl, .refl _,rfl, .refl _,rfl,trivial⟩ (hC rfl rfl rfl trivial) rfl⟩
 have h4:k<(bq ((p.rules.getD i default).body.getD j default)).length:=by simpa using h4
 have hst3:=c8 (g:=CU l c rel ((p.rules.getD i default).body.getD j default).kind) (b:=some n2) h4;rw[hJ3] at hst3
 have hret:vu c rel ((p.rules.getD i default).body.getD j default).kind ((bq ((p.rules.getD i default).body.getD j default)).getD k default)=true→nP l c rel p=none:=fun h=>by
  have e1:CU l c rel ((p.rules.getD i default).body.getD j default).kind (some n3) ((bq ((p.rules.getD i default).body.getD j default)).getD k default)=none:=by unfold CU;simp only[Xi,h,if_true]
  have e2:=l3 (rZ l c rel _) (hst3.trans e1);have e3:=l3 (r5 l c rel) (hst2.trans e2);exact l3 (xm l c rel) (hst.trans e3)
 have hcon:vu c rel ((p.rules.getD i default).body.getD j default).kind ((bq ((p.rules.getD i default).body.getD j default)).getD k default)=false→((bq ((p.rules.getD i default).body.getD j default)).take (k+1)).foldl (CU l c rel ((p.rules.getD i default).body.getD j default).kind) (some n2)=some (if A7 l ((p.rules.getD i default).body.getD j default).kind ((bq ((p.rules.getD i default).body.getD j default)).getD k default)>n3 then A7 l ((p.rules.getD i default).body.getD j default).kind ((bq ((p.rules.getD i default).body.getD j default)).getD k default) else n3):=fun h=>by
  rw[hst3];unfold CU;simp only[Xi,h,Xn,if_false]
 have hlb:=JG hl2 ((bq ((p.rules.getD i default).body.getD j default)).getD k default);refine gA rfl (aj (ym l ((bq ((p.rules.getD i default).body.getD j default)).getD k default) hl) rfl rfl rfl rfl rfl rfl ?_);refine gA rfl ?_;refine VJ (fun h5=>?_) (fun h5=>?_)
 ·have h5:((p.rules.getD i default).body.getD j default).kind≠1:=by simpa using h5
  have hm:A7 l ((p.rules.getD i default).body.getD j default).kind ((bq ((p.rules.getD i default).body.getD j default)).getD k default)=lW l ((bq ((p.rules.getD i default).body.getD j default)).getD k default)+1:=if_pos h5;refine gA rfl ?_;refine VJ (fun h6=>?_) (fun h6=>?_)
  ·have h6:lW l ((bq ((p.rules.getD i default).body.getD j default)).getD k default)+1>n3:=of_decide_eq_true h6
   refine gA rfl (aj (eA c ((bq ((p.rules.getD i default).body.getD j default)).getD k default) hc hr) rfl rfl rfl rfl rfl rfl ?_);refine gA rfl (aj (eA c rel hc hr) rfl rfl rfl rfl rfl rfl ?_);refine gA rfl ?_;refine VJ (fun h7=>?_) (fun h7=>?_);rotate_left
   ·have h7:=of_decide_eq_true h7
    have e:=hret (by unfold vu;rw[decide_eq_true h7];rfl);refine gA rfl (au (by first|exact .inr rfl|exact .inl rfl) rfl (.of_eq ?_));rw[e];rfl
   have h7:=of_decide_eq_false h7;refine gA rfl (aj (eA c ((bq ((p.rules.getD i default).body.getD j default)).getD k default) hc hr) rfl rfl rfl rfl rfl rfl ?_);refine gA rfl ?_;refine VJ (fun h8=>?_) (fun h8=>?_);rotate_left
   ·have h8:=of_decide_eq_true h8
    have e:=hret (by unfold vu;rw[decide_eq_true h8];simp);refine gA rfl (au (by first|exact .inr rfl|exact .inl rfl) rfl (.of_eq ?_));rw[e];rfl
   have h8:=of_decide_eq_false h8;refine gA rfl ?_;refine VJ (fun hk=>?_) (fun hk=>?_);rotate_left
   ·exact absurd h5 (by simpa using hk)
   refine gA rfl (aj (eA c ((bq ((p.rules.getD i default).body.getD j default)).getD k default) hc hr) rfl rfl rfl rfl rfl rfl ?_);refine gA rfl (aj (eA c rel hc hr) rfl rfl rfl rfl rfl rfl ?_);refine gA rfl ?_;refine VJ (fun h9=>?_) (fun h9=>?_)
   ·have h9:=of_decide_eq_true h9
    have e:=hret (by unfold vu;rw[decide_eq_true h9,decide_eq_true h5];simp);refine gA rfl (au (by first|exact .inr rfl|exact .inl rfl) rfl (.of_eq ?_));rw[e];rfl
   have h9:=of_decide_eq_false h9;have e:=hcon (by unfold vu;rw[decide_eq_false h7,decide_eq_false h8,decide_eq_false h9];simp);rw[hm,if_pos h6] at e;refine gA rfl ?_;exact⟨h4,_,[],e,wk rfl rfl rfl ⟨.refl _,rfl, .refl _,rfl, .refl _,rfl, .refl _,rfl, .refl _,rfl, .refl _,rfl, .refl _,rfl, .refl _,rfl, .refl _,rfl, .refl _,rfl,trivial⟩ (hC rfl rfl rfl (hC rfl rfl rfl trivial)) rfl⟩
  ·have h6: ¬lW l ((bq ((p.rules.getD i default).body.getD j default)).getD k default)+1>n3:=of_decide_eq_false h6
   refine gA rfl (aj (eA c ((bq ((p.rules.getD i default).body.getD j default)).getD k default) hc hr) rfl rfl rfl rfl rfl rfl ?_);refine gA rfl (aj (eA c rel hc hr) rfl rfl rfl rfl rfl rfl ?_);refine gA rfl ?_;refine VJ (fun h7=>?_) (fun h7=>?_);rotate_left
   ·have h7:=of_decide_eq_true h7
    have e:=hret (by unfold vu;rw[decide_eq_true h7];rfl);refine gA rfl (au (by first|exact .inr rfl|exact .inl rfl) rfl (.of_eq ?_));rw[e];rfl
   have h7:=of_decide_eq_false h7;refine gA rfl (aj (eA c ((bq ((p.rules.getD i default).body.getD j default)).getD k default) hc hr) rfl rfl rfl rfl rfl rfl ?_);refine gA rfl ?_;refine VJ (fun h8=>?_) (fun h8=>?_);rotate_left
   ·have h8:=of_decide_eq_true h8
    have e:=hret (by unfold vu;rw[decide_eq_true h8];simp);refine gA rfl (au (by first|exact .inr rfl|exact .inl rfl) rfl (.of_eq ?_));rw[e];rfl
   have h8:=of_decide_eq_false h8;refine gA rfl ?_;refine VJ (fun hk=>?_) (fun hk=>?_);rotate_left
   ·exact absurd h5 (by simpa using hk)
   refine gA rfl (aj (eA c ((bq ((p.rules.getD i default).body.getD j default)).getD k default) hc hr) rfl rfl rfl rfl rfl rfl ?_);refine gA rfl (aj (eA c rel hc hr) rfl rfl rfl rfl rfl rfl ?_);refine gA rfl ?_;refine VJ (fun h9=>?_) (fun h9=>?_)
   ·have h9:=of_decide_eq_true h9
    have e:=hret (by unfold vu;rw[decide_eq_true h9,decide_eq_true h5];simp);refine gA rfl (au (by first|exact .inr rfl|exact .inl rfl) rfl (.of_eq ?_));rw[e];rfl
   have h9:=of_decide_eq_false h9;have e:=hcon (by unfold vu;rw[decide_eq_false h7,decide_eq_false h8,decide_eq_false h9];simp);rw[hm,if_neg h6] at e;refine gA rfl ?_;exact⟨h4,_,[],e,wk rfl rfl rfl ⟨.refl _,rfl, .refl _,rfl, .refl _,rfl, .refl _,rfl, .refl _,rfl, .refl _,rfl, .refl _,rfl, .refl _,rfl, .refl _,rfl, .refl _,rfl,trivial⟩ (hC rfl rfl rfl (hC rfl rfl rfl trivial)) rfl⟩
 ·have h5:((p.rules.getD i default).body.getD j default).kind=1:=by simpa using h5
  have hm:A7 l ((p.rules.getD i default).body.getD j default).kind ((bq ((p.rules.getD i default).body.getD j default)).getD k default)=lW l ((bq ((p.rules.getD i default).body.getD j default)).getD k default):=if_neg (fun g=>g h5);refine gA rfl ?_;refine VJ (fun h6=>?_) (fun h6=>?_)
  ·have h6:lW l ((bq ((p.rules.getD i default).body.getD j default)).getD k default)>n3:=of_decide_eq_true h6
   refine gA rfl (aj (eA c ((bq ((p.rules.getD i default).body.getD j default)).getD k default) hc hr) rfl rfl rfl rfl rfl rfl ?_);refine gA rfl (aj (eA c rel hc hr) rfl rfl rfl rfl rfl rfl ?_);refine gA rfl ?_;refine VJ (fun h7=>?_) (fun h7=>?_);rotate_left
   ·have h7:=of_decide_eq_true h7
    have e:=hret (by unfold vu;rw[decide_eq_true h7];rfl);refine gA rfl (au (by first|exact .inr rfl|exact .inl rfl) rfl (.of_eq ?_));rw[e];rfl
   have h7:=of_decide_eq_false h7;refine gA rfl (aj (eA c ((bq ((p.rules.getD i default).body.getD j default)).getD k default) hc hr) rfl rfl rfl rfl rfl rfl ?_);refine gA rfl ?_;refine VJ (fun h8=>?_) (fun h8=>?_);rotate_left
   ·have h8:=of_decide_eq_true h8
    have e:=hret (by unfold vu;rw[decide_eq_true h8];simp);refine gA rfl (au (by first|exact .inr rfl|exact .inl rfl) rfl (.of_eq ?_));rw[e];rfl
   have h8:=of_decide_eq_false h8;refine gA rfl ?_;refine VJ (fun hk=>?_) (fun hk=>?_)
   ·exact absurd h5 (by simpa using hk)
   have e:=hcon (by unfold vu;rw[decide_eq_false h7,decide_eq_false h8,decide_eq_false (fun g=>g h5)];simp);rw[hm,if_pos h6] at e;refine gA rfl ?_;exact⟨h4,_,[],e,wk rfl rfl rfl ⟨.refl _,rfl, .refl _,rfl, .refl _,rfl, .refl _,rfl, .refl _,rfl, .refl _,rfl, .refl _,rfl, .refl _,rfl, .refl _,rfl, .refl _,rfl,trivial⟩ (hC rfl rfl rfl (hC rfl rfl rfl trivial)) rfl⟩
  ·have h6: ¬lW l ((bq ((p.rules.getD i default).body.getD j default)).getD k default)>n3:=of_decide_eq_false h6
   refine gA rfl (aj (eA c ((bq ((p.rules.getD i default).body.getD j default)).getD k default) hc hr) rfl rfl rfl rfl rfl rfl ?_);refine gA rfl (aj (eA c rel hc hr) rfl rfl rfl rfl rfl rfl ?_);refine gA rfl ?_;refine VJ (fun h7=>?_) (fun h7=>?_);rotate_left
   ·have h7:=of_decide_eq_true h7
    have e:=hret (by unfold vu;rw[decide_eq_true h7];rfl);refine gA rfl (au (by first|exact .inr rfl|exact .inl rfl) rfl (.of_eq ?_));rw[e];rfl
   have h7:=of_decide_eq_false h7;refine gA rfl (aj (eA c ((bq ((p.rules.getD i default).body.getD j default)).getD k default) hc hr) rfl rfl rfl rfl rfl rfl ?_);refine gA rfl ?_;refine VJ (fun h8=>?_) (fun h8=>?_);rotate_left
   ·have h8:=of_decide_eq_true h8
    have e:=hret (by unfold vu;rw[decide_eq_true h8];simp);refine gA rfl (au (by first|exact .inr rfl|exact .inl rfl) rfl (.of_eq ?_));rw[e];rfl
   have h8:=of_decide_eq_false h8;refine gA rfl ?_;refine VJ (fun hk=>?_) (fun hk=>?_)
   ·exact absurd h5 (by simpa using hk)
   have e:=hcon (by unfold vu;rw[decide_eq_false h7,decide_eq_false h8,decide_eq_false (fun g=>g h5)];simp);rw[hm,if_neg h6] at e;refine gA rfl ?_;exact⟨h4,_,[],e,wk rfl rfl rfl ⟨.refl _,rfl, .refl _,rfl, .refl _,rfl, .refl _,rfl, .refl _,rfl, .refl _,rfl, .refl _,rfl, .refl _,rfl, .refl _,rfl, .refl _,rfl,trivial⟩ (hC rfl rfl rfl (hC rfl rfl rfl trivial)) rfl⟩
end Go.Proofs.YtflegjieadkonaaGreatDoor
namespace Go.Proofs.YtflegjieadkonaaGreatDoor
open Go Go.Al
theorem qM {a:ah} {i:Nat}: ∀{l:List ah} {s:Option Int},a∉l→l.foldl (fT a i) s=s
 | [],s,_=>rfl
 |x::l,s,h=>by
  simp only[V4,not_or] at h;have hx: ¬x=a:=fun e=>h.1 e.symm;rw[Wm]
  have:fT a i s x=s:=by
   cases s with
   |none=>rfl
   |some v=>simp only[fT,Xi,if_neg hx]
  rw[this];exact qM h.2
theorem B9 {a:ah} {i:Nat} {l:List ah} (hn:l.Nodup) (h:a∈l):l.foldl (fT a i) (some (-1))=some (i:Int):=by
 obtain⟨l1,l2,rfl⟩:=List.append_of_mem h;rw[W8] at hn;obtain⟨_,h2,h3⟩:=hn;rw[Xe,qM (fun hm=>h3 a hm a (V8 ..) rfl),Wm];have:fT a i (some (-1)) a=some (i:Int):=by simp[fT]
 rw[this];exact qM (WC.1 h2).1
theorem CF {c:List (List ah)} {a:ah} {i:Nat} (hi:i<c.length) (h1:a∈c.getD i default) (hn:(c.getD i default).Nodup) (h2: ∀j,j<c.length→j≠i→a∉c.getD j default):fW c a=i:=by
 have key: ∀k,k≤c.length→((V5 c.length).take k).foldl (p2 c a) (some (-1))=if k≤i then some (-1) else some (i:Int):=by
  intro k
  induction k with
  |zero=>intro _;rw[if_pos (V1 _)];rfl
  |succ k ih=>
   intro hk;rw[c8 (by rw[Xt];omega),ih (by omega),wZ (by omega)];by_cases hki:k=i
   ·subst hki
    rw[if_pos (VZ _),if_neg (by omega)];exact B9 hn h1
   ·unfold p2
    rw[qM (h2 k (by omega) hki)];by_cases hlt:k≤i
    ·rw[if_pos hlt,if_pos (by omega)]
    ·rw[if_neg hlt,if_neg (by omega)]
 have:=key c.length (VZ _);rw[VY (by simp),if_neg (by omega)] at this;unfold fW vh;rw[this];rfl
theorem uu {n:Nat} {F:(Nat→Bool)→Nat→Bool} {K:Nat→Nat→Bool}: ∀(f:Nat) (d:Nat→Bool),∀c∈Go.Co.cE n F K f d,c.Nodup
 |0,_,c,hc=>by cases hc
 |f+1,d,c,hc=>by
  unfold Go.Co.cE at hc;split at hc
  ·cases hc
  ·rcases V4.1 hc with rfl|hc
   ·exact List.Nodup.sublist List.filter_sublist List.nodup_range
   ·exact uu f _ c hc
theorem rT {p:Prog} (hf:hP p): ∀{c:List Nat},c.Nodup→(∀i∈c,i<(ns p).length)→(c.map (vD p)).Nodup
 | [],_,_=>WB
 |i::c,hn,hl=>by
  rw[WC] at hn;rw[V6,WC];refine⟨fun h=>?_,rT hf hn.2 fun j hj=>hl j (V2 _ hj)⟩;obtain⟨j,hj,e⟩:=Wo.1 h;have:=wi hf (hl j (V2 _ hj)) (hl i (V8 ..)) e;subst this;exact hn.1 hj
theorem lf {p:Prog} {i:Nat} (hi:i<(mj p).length):(bh p).getD i default=((mj p).getD i default).map (vD p):=by
 rw[gW,VP,VV,VS hi,VP,VS hi];rfl
theorem kP {p:Prog} (hf:hP p) {x i:Nat} {c:List Nat} (hx:x<(ns p).length) (h:Go.Or.pX (ns p).length (fO p) (fun _=>false) (mj p) x i c):fW (bh p) (vD p x)=i:=by
 have hi:=(VO.1 h.at_).1;have hci:(mj p).getD i default=c:=by rw[VP,h.at_];rfl
 have hcm:c∈mj p:=Wj h.at_;refine CF (by rw[gW,Wr];exact hi) ?_ ?_ fun j hj hji hm=>?_
 ·rw[lf hi,hci];exact WD h.mem
 ·rw[lf hi,hci]
  exact rT hf (uu _ _ c hcm) fun y hy=>xQ hcm hy
 ·rw[gW,Wr] at hj
  rw[lf hj] at hm;obtain⟨y,hy,e⟩:=Wo.1 hm;have:=wi hf (xQ (bp hj) hy) hx e;subst this;exact hji (h.one j _ (by rw[VP,VS hj];rfl) hy)
theorem vB {p:Prog} (hf:hP p) {x:Nat} (hx:x<(ns p).length):lW (aT p) (vD p x)=(cv p x:Int):=by
 have hb:((aT p).take x).any (fun y=>decide (y.1=vD p x))=false:=by
  rw[WA];intro y hy;obtain⟨j,hj,rfl⟩:=Yr.1 hy;have hjl:j<(ns p).length:=by rw[eH] at hj;omega
  have e:=fB p hjl;rw[VP,VS (by rw[eH];exact hjl)] at e;simp only[W6] at e;rw[e,decide_eq_true_eq];intro g;have:=wi hf hjl hx g;rw[eH] at hj;omega
 unfold lW;rw[jj hb (by rw[eH];exact hx) (by rw[fB p hx];exact decide_eq_true rfl),fB p hx]
end Go.Proofs.YtflegjieadkonaaGreatDoor
namespace Go.Proofs.YtflegjieadkonaaGreatDoor
open Go Go.Al
theorem uj {n:Nat} {l:Lit} {w:WS} (h:(cX (n+1) l w).bad=false):l.kind=1∨l.kind=2∨l.kind=3∨l.kind=4:=by
 rcases YX (l.kind=1∨l.kind=2∨l.kind=3∨l.kind=4) with h1|h1
 ·exact h1
 ·exfalso
  simp only[not_or] at h1;rw[cX,vz,if_neg h1.2.1,if_neg h1.1,if_neg h1.2.2.1,if_neg h1.2.2.2] at h;cases h
theorem tQ: ∀(ss:List ah) (w:WS),(aU w ss).bad=w.bad
 | [],_=>rfl
 |s::ss,w=>tQ ss (vc w s)
theorem JB {f:Lit→WS→WS} {l:List Lit} {w:WS} (h:(cx f l w l.length).bad=false) {i:Nat} (hi:i<l.length): ∃w',(f (l.getD i default) w').bad=false:=by
 have key: ∀j,j≤l.length→(cx f l w j).bad=false:=by
  intro j hj
  cases hb:(cx f l w j).bad with
  |false=>rfl
  |true=>
   have:=pV hb (l.length-j);rw[show j+(l.length-j)=l.length by omega] at this;rw[this,hb] at h;cases h
 have h1:=key (i+1) hi;rw[cx,if_neg (by rw[key i (by omega)];simp)] at h1;exact⟨_,h1⟩
theorem A9 {n:Nat} {l:Lit} {w:WS} (h:(cX (n+2) l w).bad=false) (h4:l.kind=4): ∀x∈l.ar,x.kind=1∨x.kind=2∨x.kind=3∨x.kind=4:=by
 intro x hx;rw[cX,vz,if_neg (by omega),if_neg (by omega),if_neg (by omega),if_pos h4,tv] at h;split at h
 ·cases h
 ·rw[tQ] at h
  obtain⟨i,hi,rfl⟩:=Xh.1 hx;obtain⟨w',h1⟩:=JB (l:=l.agg.body) h (i:=i) hi;have h2:=uj h1;rw[VP] at h2;have e:l.agg.body[i]? =some l.ar[i]:=VS hi;rw[e] at h2;exact h2
theorem AJ {p:Prog} {r:aw} {n:Int} (h:(oc p r n).1=0): ∀l∈r.body,lV l=false:=by
 intro l hl;unfold oc at h;split at h
 ·cases h
 ·split at h
  ·cases h
  ·rename_i h1
   simpa using W3.1 h1 l hl
theorem ou {p:Prog} (h:(bm p).1=0): ∀r∈p.rules,∀l∈r.body,bq l=named l:=by
 intro r hr l hl;have hF:=(sK p).1 h;unfold iE at hF;have h2:=(rB p _).1 (XT.1 hF).2;obtain⟨i,hi,rfl⟩:=Xh.1 hr;have h3:=h2 i hi
 have h4:(oc p p.rules[i] ((i:Int)+1)).1=0:=by
  rw[qF,VP,VS hi] at h3;exact h3
 have hb:=AJ h4 l hl;have hp:=l.size_pos;unfold lV at hb;obtain⟨m,hm⟩: ∃m,l.size=m+2:=⟨l.size-2,by omega⟩
 rw[hm] at hb;have hk:=uj hb;have hin:=A9 hb;have hfl:=(fw h).flat _ hr l hl;rw[xj l hfl,bq,yA];by_cases h3:l.kind=3
 ·rw[if_pos h3,if_neg (by omega),if_neg (by omega)]
 ·rw[if_neg h3]
  by_cases h4:l.kind=4
  ·rw[if_neg (by simpa using h4),if_neg (by omega),if_pos h4,og]
   congr 1;refine List.filter_congr fun x hx=>?_;have h5:=hin h4 x hx;have h6:=hfl h4 x hx;rw[decide_eq_decide];omega
  ·rw[if_pos (by simpa using h4),if_pos (by omega)]
section
variable (l:List (ah×Nat)) (c:List (List ah)) (rel:ah)
def meets (p:Prog) (a:ah):List (Int×ah):=p.rules.flatMap fun r=>if r.head.rel=a then r.body.flatMap fun x=>(bq x).map fun t=>(x.kind,t) else[]
theorem pN {α β γ:Type} (f:α→List β) (g:γ→β→γ): ∀(l:List α) (b:γ),(l.flatMap f).foldl g b=l.foldl (fun b x=>(f x).foldl g b) b
 | [],_=>rfl
 |x::l,b=>by rw[WT,Xe,pN f g l];rfl
theorem fold_eq {α γ:Type} {g g':γ→α→γ}: ∀(l:List α) (b:γ),(∀x∈l,∀b,g b x=g' b x)→l.foldl g b=l.foldl g' b
 | [],_,_=>rfl
 |x::l,b,h=>by
  rw[Wm,Wm,h x (V8 ..)];exact fold_eq l _ fun y hy=>h y (V2 _ hy)
theorem xp (p:Prog):nP l c rel p=(meets p rel).foldl (fun s x=>CU l c rel x.1 s x.2) (some 0):=by
 unfold nP meets;rw[pN];refine fold_eq _ _ fun r _ b=>?_;unfold OW;by_cases h:r.head.rel=rel
 ·rw[if_neg (by simpa using h),if_pos h,pN]
  refine fold_eq _ _ fun x _ b=>?_;rw[Rx,List.foldl_map]
 ·rw[if_pos h,if_neg h];rfl
theorem xL: ∀(m:List (Int×ah)) (n:Int),(∀x∈m,vu c rel x.1 x.2=false)→
  ∃v,m.foldl (fun s x=>CU l c rel x.1 s x.2) (some n)=some v∧n≤v∧(∀x∈m,A7 l x.1 x.2≤v)∧(v=n∨ ∃x∈m,v=A7 l x.1 x.2)
 | [],n,_=>⟨n,rfl,XB _,fun _ h=>(nomatch h), .inl rfl⟩
 |x::m,n,h=>by
  have hx:=h x (V8 ..);obtain⟨v,h1,h2,h3,h4⟩:=xL m (if A7 l x.1 x.2>n then A7 l x.1 x.2 else n) fun y hy=>h y (V2 _ hy);refine⟨v,?_,?_,fun y hy=>?_,?_⟩
  ·rw[Wm,CU,Xi,hx]
   exact h1
  ·split at h2<;>omega
  ·rcases V4.1 hy with rfl|hy
   ·split at h2<;>omega
   ·exact h3 y hy
  ·rcases h4 with h4|⟨y,hy,h4⟩
   ·split at h4
    ·exact .inr ⟨x,V8 ..,h4⟩
    ·exact .inl h4
   ·exact .inr ⟨y,V2 _ hy,h4⟩
end
theorem xl {p:Prog} (h:(bm p).1=0) {a:ah} {x:Int×ah} (hx:x∈meets p a):(a,x.2,if x.1=1 then 1 else 2)∈aC p:=by
 unfold meets at hx;obtain⟨r,hr,hx⟩:=WY.1 hx;by_cases hh:r.head.rel=a
 ·rw[if_pos hh] at hx
  obtain⟨y,hy,hx⟩:=WY.1 hx;obtain⟨t,ht,rfl⟩:=Wo.1 hx;rw[ou h r hr y hy] at ht;unfold aC;rw[WY];refine⟨r,hr,WY.2 ⟨y,hy,Wo.2 ⟨t,ht,?_⟩⟩⟩;rw[hh,iD]
 ·rw[if_neg hh] at hx;cases hx
theorem xA {p:Prog} (h:(bm p).1=0) {a t:ah} {k:Nat} (hx:(a,t,k)∈aC p): ∃x∈meets p a,x.2=t∧k=if x.1=1 then 1 else 2:=by
 unfold aC at hx;obtain⟨r,hr,hx⟩:=WY.1 hx;obtain⟨y,hy,hx⟩:=WY.1 hx;obtain⟨s,hs,hx⟩:=Wo.1 hx;simp only[V0] at hx;obtain⟨h1,rfl,h3⟩:=hx;refine⟨(y.kind,s),?_,rfl,?_⟩
 ·unfold meets
  refine WY.2 ⟨r,hr,?_⟩;rw[if_pos h1];exact WY.2 ⟨y,hy,Wo.2 ⟨s,by rw[ou h r hr y hy];exact hs,rfl⟩⟩
 ·rw[←h3,iD]
section
variable {p:Prog}
theorem pE (h0:(cQ p).1=0):(∀i j,eD p i j=true→cv p j+Go.Lv.wt (sD p) i j≤cv p i)∧Go.Le.q9 (ns p).length (eD p) (sD p) (cv p):=by
 have hs:=jz fun r hr=>fv (fQ (gX h0).1 h0 r hr);have hlt: ∀i j,eD p i j=true→i<(ns p).length∧j<(ns p).length:=fun i j h=>⟨(Go.Rg.fi.1 h).1,(Go.Rg.fi.1 h).2.1⟩
 obtain⟨all,h1,h2⟩:=Go.Le.sa (Go.Rg.im (ns p) (eg p)) hs (ns p).length _ _ (Go.Le.wa.nil _ _ _ _) (by have:=XV (p:=fun x:Nat=>!false) (l:=V5 (ns p).length);rwa[Xt] at this);have hl:=fun i (hi:i<(ns p).length)=>kX hs hi;refine⟨fun i j he=>?_,fun S hS=>?_⟩
 ·obtain⟨hi,hj⟩:=hlt i j he
  have:=h2.oQ i j hi (h1 i hi) he;rw[hl i hi,hl j hj];exact this
 ·obtain⟨x,hx,hS⟩:=hS
  obtain⟨y,hy,_,h4,h5⟩:=h2.ground S ⟨x,hx,h1 x hx,hS⟩;refine⟨y,hy,h4,?_⟩;rcases h5 with h5|⟨z,hz,h6,h7,h8⟩
  ·left
   rw[hl y hy];exact h5
  ·right
   refine⟨z,hz,h6,h7,?_⟩;rw[hl y hy,hl z hz];exact h8
theorem xx (h0:(cQ p).1=0) {i j:Nat} (hi:i<(ns p).length) (h:fO p i j=true):cv p j≤cv p i:=by
 refine Ww fun hc=>?_;obtain⟨u,v,hu,h1,h2,h3,h4,h5⟩:=(Go.Rg.im (ns p) (eg p)).split i j (fun z=>cv p z≤cv p i) hi h (VZ _) (by omega);have:=(pE h0).1 u v h3;omega
theorem rX (h:(bm p).1=0) {i:Nat} (hi:i<(ns p).length) {x:Int×ah} (hx:x∈meets p (vD p i)): ∃j,j<(ns p).length∧vD p j=x.2∧eD p i j=true∧(x.1≠1→sD p i j=true):=by
 have h1:=xl h hx;have hf:=fw h;have h2:=hf.aC h1;have hm:x.2∈ns p:=by rw[ns,cJ];exact h2.2.1
 obtain⟨j,hj,hv⟩:=Go.Rg.iA hm;have hg:=Dv h1;refine⟨j,hj,hv,Go.Rg.fi.2 ⟨hi,hj,?_⟩,fun hk=>?_⟩
 ·show eg p (vD p i) (vD p j)=true
  rw[show vD p j=x.2 from hv,eg,decide_eq_true_eq];split at hg<;>omega
 ·show tL p (vD p i) (vD p j)=true
  rw[if_neg hk] at hg;have:=Du p (vD p i) x.2;rw[show vD p j=x.2 from hv,tL,decide_eq_true_eq];omega
theorem o5 (p:Prog) {i:Nat} (hi:i<(ns p).length): ∃k c,Go.Or.pX (ns p).length (fO p) (fun _=>false) (mj p) i k c:=Go.Or.Q3 (Go.Rg.im (ns p) (eg p)) hi
theorem AT {hf:hP p} {i j k:Nat} {c:List Nat} (hj:j<(ns p).length) (hs:Go.Or.pX (ns p).length (fO p) (fun _=>false) (mj p) i k c) (h:fO p i j=true):0≤fW (bh p) (vD p j)∧fW (bh p) (vD p j)≤k∧(fW (bh p) (vD p j)=k→j∈c):=by
 obtain⟨k',c',hs'⟩:=o5 p hj;rw[kP hf hj hs'];rcases hs.low j hj h with h1|⟨m,c2,h1,h2,h3⟩
 ·cases h1
 ·have:=hs'.one m c2 h2 h3
  subst this;refine⟨Int.natCast_nonneg _,by omega,fun e=>?_⟩;have e2:m=k:=by omega
  subst e2;have:=hs.at_.symm.trans h2;cases this;exact h3
theorem yH (h0:(cQ p).1=0) {i:Nat} (hi:i<(ns p).length):nP (aT p) (bh p) (vD p i) p=some (cv p i:Int):=by
 have h:=(gX h0).1;have hf:=fw h;have hsf:=jz fun r hr=>fv (fQ h h0 r hr);have hd:=pE h0;obtain⟨k,c,hst⟩:=o5 p hi;have hpi:=kP hf hi hst;rw[xp]
 obtain⟨v,h1,h2,h3,h4⟩:=xL (aT p) (bh p) (vD p i) (meets p (vD p i)) 0 fun x hx=>by
  obtain⟨j,hj,hv,he,hk⟩:=rX h hi hx;obtain⟨g1,g2,g3⟩:=AT (hf:=hf) hj hst ((Go.Rg.im (ns p) (eg p)).oQ i j hi he);unfold vu;rw[←hv,hpi];simp only[Xf,Xl,decide_eq_false_iff_not];refine⟨⟨by omega,by omega⟩,?_⟩;by_cases hk1:x.1=1
  ·exact .inl (fun g=>g hk1)
  ·refine .inr fun e=>?_
   have hc:=((hst.cl j).1 (g3 e)).2;simp only[Go.Co.cls,Wc] at hc;have:=hsf i j he hc.2;have h5:tL p ((ns p).getD i default) ((ns p).getD j default)=true:=hk hk1;rw[h5] at this;cases this
 rw[h1];congr 1
 have hm: ∀x∈meets p (vD p i),∃j,j<(ns p).length∧eD p i j=true∧A7 (aT p) x.1 x.2≤(cv p j+Go.Lv.wt (sD p) i j:Nat):=by
  intro x hx;obtain⟨j,hj,hv,he,hk⟩:=rX h hi hx;refine⟨j,hj,he,?_⟩;unfold A7;rw[←hv,vB hf hj];split
  ·rename_i hk1
   unfold Go.Lv.wt;rw[if_pos (hk hk1)];omega
  ·omega
 apply Int.le_antisymm
 ·rcases h4 with h4|⟨x,hx,h4⟩
  ·omega
  ·obtain⟨j,hj,he,h5⟩:=hm x hx
   have:=hd.1 i j he;omega
 ·rcases Go.Or.C4 hd.2 hi with h5|⟨j,hj,he,h5⟩
  ·omega
  ·obtain⟨_,_,hg⟩:=Go.Rg.fi.1 he
   rcases zV (aC p) (vD p i) (vD p j) with h6|h6
   ·have:gD (aC p) ((ns p).getD i default) ((ns p).getD j default)≠0:=of_decide_eq_true hg
    exact absurd h6 this
   ·obtain⟨x,hx,hx2,hx3⟩:=xA h h6
    have h7:=h3 x hx;unfold A7 at h7;rw[hx2,vB hf hj] at h7
    have h8:Go.Lv.wt (sD p) i j=if x.1=1 then 0 else 1:=by
     show(if tL p (vD p i) (vD p j)=true then 1 else 0)=_;unfold tL;rw[hx3];by_cases h9:x.1=1
     ·simp[h9]
     ·simp[h9]
    split at h7
    ·rename_i h9
     rw[if_neg h9] at h8;omega
    ·rename_i h9
     rw[if_pos (by simpa using h9)] at h8;omega
end
end Go.Proofs.YtflegjieadkonaaGreatDoor
namespace Go.Proofs.YtflegjieadkonaaGreatDoor
open Go Go.Al
set_option maxRecDepth 10000
def DA:Expr:= .mk 0 VT ⟨0,0,VT⟩ 0 []
def tX:Term:=⟨1,⟨#[88]⟩,⟨0,0,VT⟩⟩
def vL (k:Int) (rel:ah):Lit:= .mk k ⟨rel,[tX]⟩ 0 DA DA 0 VT DA [] ⟨k,7⟩
theorem sV (k:Int) (rel:ah):Pure Tryz.prog 88 [pI k,pS rel] (ag (vL k rel).c):=by
 refine az ae Tryz.func88 rfl (by decide) Tryz.ntmps88 rfl (by simp) rfl ?_;refine gA rfl ⟨.inr rfl,_,rfl,hD.Cq 1 [tX] Term.c rfl rfl ?_ (.done ?_)⟩
 ·simp[PV.bW,fD]
 ·refine ak.agg ⟨.refl _, .refl _,?_, .refl _, .refl _, .refl _, .refl _, .refl _, .refl _, .refl _, .nil _ _, .refl _, .refl _, .refl _, .refl _, .refl _, .refl _, .nil _ _, .refl _, .refl _, .refl _, .refl _, .refl _, .refl _, .refl _, .refl _, .nil _ _, .nil _ _, .refl _, .refl _,trivial⟩
  show ak (.iv (.cK 5 1 fun k=>([tX].getD (0+k) default).c)) (.iv (cV 5 [tX] Term.c));simp only[Wn];exact .refl _
def kR:ah:=⟨#[97]⟩
def lO:ah:=⟨#[98]⟩
def qH:ah:=⟨#[99]⟩
def xmB (b:Bool):List Lit:=if b then[vL 1 kR,vL 2 qH,vL 2 kR] else[vL 1 kR,vL 2 qH]
def kF (b:Bool):Prog:=⟨[⟨kR,[1],⟨0,0⟩⟩,⟨lO,[1],⟨0,0⟩⟩,⟨qH,[1],⟨0,0⟩⟩],[⟨⟨kR,[tX]⟩,[vL 1 lO],⟨0,0⟩⟩,⟨⟨lO,[tX]⟩,xmB b,⟨0,0⟩⟩]⟩
set_option maxHeartbeats 4000000 in
theorem sEx (b:Bool):Pure Tryz.prog 47 [.kb b] (ag (kF b).c):=by
 refine az ae Tryz.func47 rfl (by decide) Tryz.ntmps47 rfl (by simp) rfl ?_;refine gA rfl (cz ae [] (Pure.xO (sV 1 lO)) rfl rfl rfl rfl rfl rfl rfl rfl rfl rfl rfl rfl (by(repeat' (first|exact trivial|exact rfl|exact ak.refl _|exact ak.bk (by assumption)|apply VJ))<;>first|omega|(simp only[VQ];omega)|(simp;done)|(simp;omega)) rfl (by(repeat' (first|exact trivial|exact rfl|exact ak.refl _|exact ak.bk (by assumption)|apply VJ))<;>first|omega|(simp only[VQ];omega)|(simp;done)|(simp;omega)) ?_);refine gA rfl (aj (sV 1 kR) rfl rfl rfl rfl rfl rfl ?_);refine gA rfl (aj (sV 2 qH) rfl rfl rfl rfl rfl rfl ?_);cases b
 ·refine gM 10 rfl (sv [] (t:=⟨[(0, .kb false),(32, .kb false),(2, .ptr 0 0),(4, .ptr 6 0),(5, .ptr 12 0)],[(0,some (.cells [.iv (.v (.slice none 0 0)), .iv (.v (.slice none 0 0))])),(1,some (a7 5 [tX] Term.c)),(2,some (a7 1 [(1:Int)] gx)),(3,some (a7 1 [(1:Int)] gx)),(4,some (a7 1 [(1:Int)] gx)),(5,some (.row 4 [[pS kR, .sl 2 0 1 1,pI 0,pI 0],[pS lO, .sl 3 0 1 1,pI 0,pI 0],[pS qH, .sl 4 0 1 1,pI 0,pI 0]])),(6,some (.cells [.sl 5 0 3 4, .sl 10 0 1 5])),(7,some (a7 30 [vL 1 lO] Lit.c)),(10,some (.row 5 [[pS kR, .sl 1 0 1 5, .sl 7 0 1 30,pI 0,pI 0]])),(11,some (a7 30 [vL 1 kR,vL 2 qH] Lit.c)),(12,some (.cells [pS lO, .sl 1 0 1 5, .sl 11 0 2 30,pI 0,pI 0]))],13⟩) (wk rfl rfl rfl ⟨.refl _,rfl, .refl _,rfl, .refl _,rfl, .refl _,rfl, .refl _,rfl,trivial⟩ ⟨⟨_,rfl, .of_eq rfl⟩,VI rfl,rfl,(hR rfl rfl rfl (hR rfl rfl rfl (hR rfl rfl rfl (hR rfl rfl rfl ⟨⟨_,rfl, .of_eq rfl⟩,VI rfl,qN rfl,⟨⟨_,rfl, .of_eq rfl⟩,VI rfl,rfl,(hR rfl rfl rfl ⟨⟨_,rfl, .of_eq rfl⟩,VI rfl,qN rfl,(hR rfl rfl rfl ⟨⟨_,rfl, .of_eq rfl⟩,VI rfl,rfl,trivial⟩)⟩)⟩⟩))))⟩ rfl) ?_)
  refine dU 1 (fun k=>Term.c ([tX].getD k default)) rfl (cZ rfl) (by simp[AF.oq,PV.bW]) (dL rfl) ?_;refine dU 2 (fun k=>gx ([(1:Int)].getD k default)) rfl (cZ rfl) (by simp[AF.oq,AF.fh,PV.du,PV.bW]) (dL rfl) ?_;refine dU 3 (fun k=>gx ([(1:Int)].getD k default)) rfl (cZ rfl) (by simp[AF.oq,AF.fh,PV.du,PV.bW]) (dL rfl) ?_;refine dU 4 (fun k=>gx ([(1:Int)].getD k default)) rfl (cZ rfl) (by simp[AF.oq,AF.fh,PV.du,PV.bW]) (dL rfl) ?_;refine dU 7 (fun k=>Lit.c ([vL 1 lO].getD k default)) rfl (cZ rfl) (by simp[AF.oq,AF.fh,PV.du,PV.bW]) (dL rfl) ?_;refine dU 11 (fun k=>Lit.c ([vL 1 kR,vL 2 qH].getD k default)) rfl (cZ rfl) (by simp[AF.oq,AF.fh,PV.du,PV.bW]) (dL rfl) ?_
  refine sv (L:=[]) (t:=⟨[(0, .kb false),(32, .kb false),(2, .ptr 0 0),(4, .ptr 6 0),(5, .ptr 12 0)],[(0,some (.cells [.iv (.v (.slice none 0 0)), .iv (.v (.slice none 0 0))])),(5,some (a7 4 (kF false).aS Decl.c)),(6,some (.cells [.sl 5 0 3 4, .sl 10 0 1 5])),
   (10,some (a7 5 [(⟨⟨kR,[tX]⟩,[vL 1 lO],⟨0,0⟩⟩:aw)] aw.c)),(12,some (aE (⟨⟨lO,[tX]⟩,[vL 1 kR,vL 2 qH],⟨0,0⟩⟩:aw).c))],13⟩)
   (wk rfl rfl rfl ⟨.refl _,rfl, .refl _,rfl, .refl _,rfl, .refl _,rfl, .refl _,rfl,trivial⟩ ⟨⟨_,rfl, .of_eq rfl⟩,VI rfl,rfl,(hR rfl (by
   show[[pS kR, .iv (.cK 1 1 fun k=>gx ([(1:Int)].getD (0+k) default)),pI 0,pI 0],[pS lO, .iv (.cK 1 1 fun k=>gx ([(1:Int)].getD (0+k) default)),pI 0,pI 0],[pS qH, .iv (.cK 1 1 fun k=>gx ([(1:Int)].getD (0+k) default)),pI 0,pI 0]]=_
   simp only[Wn];rfl) rfl ⟨⟨_,rfl, .of_eq rfl⟩,VI rfl,rfl,(hR rfl (by
   show[[pS kR, .iv (.cK 5 1 fun k=>Term.c ([tX].getD (0+k) default)), .iv (.cK 30 1 fun k=>Lit.c ([vL 1 lO].getD (0+k) default)),pI 0,pI 0]]=_
   simp only[Wn];rfl) rfl ⟨⟨_,rfl, .of_eq (by
   show AO.cells [pS lO, .iv (.cK 5 1 fun k=>Term.c ([tX].getD (0+k) default)), .iv (.cK 30 2 fun k=>Lit.c ([vL 1 kR,vL 2 qH].getD (0+k) default)),pI 0,pI 0]=_
   simp only[Wn];rfl)⟩,VI rfl,rfl,trivial⟩)⟩)⟩ rfl) ?_
  refine gA rfl (oO (.inr rfl) rfl (hD.Cq 5 (kF false).aS Decl.c rfl rfl ?_ (hD.Cq 14 (kF false).rules aw.c rfl rfl ?_ (.done ?_))))
  ·simp[PV.bW,fD,kF]
  ·simp[PV.du,tn,PV.bW,fD,kF]
   show PV.bW 14 5 2 (.sl 14 0 2 5);simp[PV.bW]
  ·show ak (.agg [.iv (.cK 4 3 fun k=>Decl.c ((kF false).aS.getD (0+k) default)), .iv (.cK 5 2 fun k=>aw.c ((kF false).rules.getD (0+k) default))]) (ag (kF false).c)
   simp only[Wn];exact .refl _
 ·refine gA rfl (cz ae [] (Pure.xO (sV 2 kR)) rfl rfl rfl rfl rfl rfl rfl rfl rfl rfl rfl rfl (by(repeat' (first|exact trivial|exact rfl|exact ak.refl _|exact ak.bk (by assumption)|apply VJ))<;>first|omega|(simp only[VQ];omega)|(simp;done)|(simp;omega)) rfl (by(repeat' (first|exact trivial|exact rfl|exact ak.refl _|exact ak.bk (by assumption)|apply VJ))<;>first|omega|(simp only[VQ];omega)|(simp;done)|(simp;omega)) ?_)
  refine gM 5 rfl (sv [] (t:=⟨[(0, .kb true),(32, .kb true),(2, .ptr 0 0),(4, .ptr 6 0),(5, .ptr 12 0)],[(0,some (.cells [.iv (.v (.slice none 0 0)), .iv (.v (.slice none 0 0))])),(1,some (a7 5 [tX] Term.c)),(2,some (a7 1 [(1:Int)] gx)),(3,some (a7 1 [(1:Int)] gx)),(4,some (a7 1 [(1:Int)] gx)),(5,some (.row 4 [[pS kR, .sl 2 0 1 1,pI 0,pI 0],[pS lO, .sl 3 0 1 1,pI 0,pI 0],[pS qH, .sl 4 0 1 1,pI 0,pI 0]])),(6,some (.cells [.sl 5 0 3 4, .sl 10 0 1 5])),(7,some (a7 30 [vL 1 lO] Lit.c)),(10,some (.row 5 [[pS kR, .sl 1 0 1 5, .sl 7 0 1 30,pI 0,pI 0]])),(14,some (a7 30 [vL 1 kR,vL 2 qH,vL 2 kR] Lit.c)),(12,some (.cells [pS lO, .sl 1 0 1 5, .sl 14 0 3 30,pI 0,pI 0]))],15⟩) (wk rfl rfl rfl ⟨.refl _,rfl, .refl _,rfl, .refl _,rfl, .refl _,rfl, .refl _,rfl,trivial⟩ ⟨⟨_,rfl, .of_eq rfl⟩,VI rfl,rfl,(hR rfl rfl rfl (hR rfl rfl rfl (hR rfl rfl rfl (hR rfl rfl rfl ⟨⟨_,rfl, .of_eq rfl⟩,VI rfl,qN rfl,⟨⟨_,rfl, .of_eq rfl⟩,VI rfl,rfl,(hR rfl rfl rfl ⟨⟨_,rfl, .of_eq rfl⟩,VI rfl,qN rfl,(hR rfl rfl rfl ⟨⟨_,rfl, .of_eq rfl⟩,VI rfl,rfl,trivial⟩)⟩)⟩⟩))))⟩ rfl) ?_);refine dU 1 (fun k=>Term.c ([tX].getD k default)) rfl (cZ rfl) (by simp[AF.oq,PV.bW]) (dL rfl) ?_;refine dU 2 (fun k=>gx ([(1:Int)].getD k default)) rfl (cZ rfl) (by simp[AF.oq,AF.fh,PV.du,PV.bW]) (dL rfl) ?_;refine dU 3 (fun k=>gx ([(1:Int)].getD k default)) rfl (cZ rfl) (by simp[AF.oq,AF.fh,PV.du,PV.bW]) (dL rfl) ?_;refine dU 4 (fun k=>gx ([(1:Int)].getD k default)) rfl (cZ rfl) (by simp[AF.oq,AF.fh,PV.du,PV.bW]) (dL rfl) ?_;refine dU 7 (fun k=>Lit.c ([vL 1 lO].getD k default)) rfl (cZ rfl) (by simp[AF.oq,AF.fh,PV.du,PV.bW]) (dL rfl) ?_;refine dU 14 (fun k=>Lit.c ([vL 1 kR,vL 2 qH,vL 2 kR].getD k default)) rfl (cZ rfl) (by simp[AF.oq,AF.fh,PV.du,PV.bW]) (dL rfl) ?_
  refine sv (L:=[]) (t:=⟨[(0, .kb true),(32, .kb true),(2, .ptr 0 0),(4, .ptr 6 0),(5, .ptr 12 0)],[(0,some (.cells [.iv (.v (.slice none 0 0)), .iv (.v (.slice none 0 0))])),(5,some (a7 4 (kF true).aS Decl.c)),(6,some (.cells [.sl 5 0 3 4, .sl 10 0 1 5])),
   (10,some (a7 5 [(⟨⟨kR,[tX]⟩,[vL 1 lO],⟨0,0⟩⟩:aw)] aw.c)),(12,some (aE (⟨⟨lO,[tX]⟩,[vL 1 kR,vL 2 qH,vL 2 kR],⟨0,0⟩⟩:aw).c))],15⟩)
   (wk rfl rfl rfl ⟨.refl _,rfl, .refl _,rfl, .refl _,rfl, .refl _,rfl, .refl _,rfl,trivial⟩ ⟨⟨_,rfl, .of_eq rfl⟩,VI rfl,rfl,(hR rfl (by
   show[[pS kR, .iv (.cK 1 1 fun k=>gx ([(1:Int)].getD (0+k) default)),pI 0,pI 0],[pS lO, .iv (.cK 1 1 fun k=>gx ([(1:Int)].getD (0+k) default)),pI 0,pI 0],[pS qH, .iv (.cK 1 1 fun k=>gx ([(1:Int)].getD (0+k) default)),pI 0,pI 0]]=_
   simp only[Wn];rfl) rfl ⟨⟨_,rfl, .of_eq rfl⟩,VI rfl,rfl,(hR rfl (by
   show[[pS kR, .iv (.cK 5 1 fun k=>Term.c ([tX].getD (0+k) default)), .iv (.cK 30 1 fun k=>Lit.c ([vL 1 lO].getD (0+k) default)),pI 0,pI 0]]=_
   simp only[Wn];rfl) rfl ⟨⟨_,rfl, .of_eq (by
   show AO.cells [pS lO, .iv (.cK 5 1 fun k=>Term.c ([tX].getD (0+k) default)), .iv (.cK 30 3 fun k=>Lit.c ([vL 1 kR,vL 2 qH,vL 2 kR].getD (0+k) default)),pI 0,pI 0]=_
   simp only[Wn];rfl)⟩,VI rfl,rfl,trivial⟩)⟩)⟩ rfl) ?_
  refine gA rfl (oO (.inr rfl) rfl (hD.Cq 5 (kF true).aS Decl.c rfl rfl ?_ (hD.Cq 16 (kF true).rules aw.c rfl rfl ?_ (.done ?_))))
  ·simp[PV.bW,fD,kF]
  ·simp[PV.du,tn,PV.bW,fD,kF]
   show PV.bW 16 5 2 (.sl 16 0 2 5);simp[PV.bW]
  ·show ak (.agg [.iv (.cK 4 3 fun k=>Decl.c ((kF true).aS.getD (0+k) default)), .iv (.cK 5 2 fun k=>aw.c ((kF true).rules.getD (0+k) default))]) (ag (kF true).c)
   simp only[Wn];exact .refl _
instance (a b:ah):Decidable (CV a b):=inferInstanceAs (Decidable (ly a<ly b))
theorem ua (b:Bool):ns (kF b)=[kR,lO,qH]:=
 kI (dK (show[kR,lO,qH].Nodup by decide)) (by unfold te;decide+kernel) fun x=>by rw[ns,cJ];rfl
theorem DT:bh (kF false)=[[qH],[kR,lO]]:=by
 unfold bh fO;rw[ua];decide+kernel
theorem DD:yZ (kF false)=[(kR,lO,false),(lO,kR,false),(lO,qH,true)]:=by
 unfold yZ;rw[ua];decide+kernel
theorem Bc:aT (kF false)=[(kR,1),(lO,1),(qH,0)]:=by
 unfold aT cv tL;rw[ua];decide+kernel
theorem xT (b:Bool):(bm (kF b)).1=0:=by
 cases b<;>decide+kernel
theorem uH:cQ (kF false)=dE.z:=by
 delta cQ hZ kH lJ ringEq fO
 rw[ua];decide+kernel
theorem y0:cQ (kF true)=(70,⟨2,7⟩):=by
 delta cQ hZ kH lJ ringEq fO
 rw[ua];decide+kernel
theorem Cs:iQ (kF false) 1=true:=by
 delta iQ lJ ringEq fO
 rw[ua];decide+kernel
theorem w7:tT (kF false)=false:=by decide+kernel
theorem Bv:mn (kF false)=[[qH],[kR,lO]]:=by rw[mn,if_pos (xT false),DT]
theorem yG:iB (kF false)=[(kR,1),(lO,1),(qH,0)]:=by rw[iB,uH,Bc];rfl
theorem Bp:sG (kF false)=[(kR,lO,false),(lO,kR,false),(lO,qH,true)]:=by rw[sG,if_pos (xT false),DD]
theorem pO (b:Bool):(kF b).fit:=by
 have h: ∀r∈(kF b).rules,r.size≤10000000∧r.head.ts≤900000000∧ ∀l∈r.body,l.ts≤900000000:=by cases b<;>decide+kernel
 exact⟨by cases b<;>decide+kernel,by cases b<;>decide+kernel,h⟩
theorem T4 (b:Bool):Pure Tryz.prog 47 [pB b] (ag (kF b).c):=(sEx b).le (aa:=[pB b]) ⟨.bk rfl,trivial⟩
theorem n8 (b:Bool):(kF b).size≤10000000:=by cases b<;>decide+kernel
theorem Ci (hS:dD):Pure Tryz.prog 11 [] (pB true):=by
 have h1:=zl hS (kF false) (pO false) (n8 false);have h2:=Cm hS (kF false) (pO false) (n8 false);have h3:=Rf hS (kF false) (pO false) (n8 false);have h4:=u4 hS (kF true) (pO true) (n8 true);have h5:=IZ hS (kF false) 1 (pO false) (n8 false);have h6:=AG hS (kF false) (pO false);rw[yG,uH] at h1;rw[Bv] at h2;rw[Bp] at h3;rw[y0] at h4;rw[Cs] at h5;rw[w7] at h6;refine az ae Tryz.func11 rfl (by decide) Tryz.ntmps11 rfl (by simp) rfl ?_;refine gA rfl (aj (T4 false) rfl rfl rfl rfl rfl rfl ?_);refine gA rfl (aj (h1) rfl rfl rfl rfl rfl rfl ?_);refine gA rfl (aj (h2) rfl rfl rfl rfl rfl rfl ?_);refine gA rfl (aj (h3) rfl rfl rfl rfl rfl rfl ?_);refine gA rfl (aj (T4 true) rfl rfl rfl rfl rfl rfl ?_);refine gA rfl (aj (h4) rfl rfl rfl rfl rfl rfl ?_)
 repeat(refine gA rfl (VJ (fun q=>?_) (fun q=>?_))<;>try(exact absurd q (by decide)))
 refine gA rfl (Un (d:=83) (p:= .agg [pS lO,pS qH,pB true]) (.agg ⟨.refl _, .refl _, .U4 rfl,trivial⟩) ?_)
 repeat(refine gA rfl (VJ (fun q=>?_) (fun q=>?_))<;>try(exact absurd q (by decide)))
 refine gA rfl (aj (h5) rfl rfl rfl rfl rfl rfl ?_)
 repeat(refine gA rfl (VJ (fun q=>?_) (fun q=>?_))<;>try(exact absurd q (by decide)))
 refine gA rfl (aj (h6) rfl rfl rfl rfl rfl rfl ?_)
 repeat(refine gA rfl (VJ (fun q=>?_) (fun q=>?_))<;>try(exact absurd q (by decide)))
 refine gA rfl (au (by first|exact .inr rfl|exact .inl rfl) rfl ?_);exact .of_eq (kE (by decide+kernel))
end Go.Proofs.YtflegjieadkonaaGreatDoor
namespace Go.Proofs.YtflegjieadkonaaGreatDoor
open Go Go.Al
set_option maxRecDepth 10000
section
variable {p:Prog}
theorem CT: ∀k,k≤(mj p).length→ ∀i,vt p k i≤k
 |0,_,i=>VZ _
 |k+1,hk,i=>by
  have ih:=CT k (by omega)
  have hlv:vt p (k+1)=fun x=>if x∈(mj p).getD k default then Go.Le.top (ns p).length (eD p) (sD p) (vt p k) ((mj p).getD k default) else vt p k x:=by
   unfold vt;rw[aY (by omega),r9]
  rw[hlv];simp only;split
  ·rcases Go.Le.uV (n:=(ns p).length) (e:=eD p) (s:=sD p) (vt p k) ((mj p).getD k default) with h4|⟨x,hx,j,hj,he,h4⟩
   ·omega
   ·have:=ih j
    have h5:Go.Lv.wt (sD p) x j≤1:=by unfold Go.Lv.wt;split<;>omega
    omega
  ·have:=ih i;omega
theorem pD (h0:(cQ p).1=0) {i:Nat} (hi:i<(ns p).length):cv p i≤64:=by
 have hf:=fw (gX h0).1;have h1:=kX (jz fun r hr=>fv (fQ (gX h0).1 h0 r hr)) hi;have h2:=CT (p:=p) (mj p).length (VZ _) i;have h3:=(jc (n:=(ns p).length) (F:=Go.Co.dI (ns p).length (fO p)) (K:=Go.Co.cls (fO p)) (ns p).length (fun _=>false)).1;have h4:=lN hf;unfold vt at h2;rw[VY (VZ _)] at h2;rw[h1];exact Wh h2 (Wh h3 h4)
theorem Bb (h0:(cQ p).1=0): ∀x∈aT p,x.2≤1000000:=by
 intro x hx;obtain⟨i,hi,rfl⟩:=Wo.1 hx;have:=pD h0 (Wf.1 hi);show cv p i≤1000000;omega
theorem Bu (hf:hP p):(bh p).length≤64∧ ∀r∈bh p,r.length≤64:=by
 have h4:=lN hf;have h3:=jc (n:=(ns p).length) (F:=Go.Co.dI (ns p).length (fO p)) (K:=Go.Co.cls (fO p)) (ns p).length (fun _=>false);constructor
 ·rw[gW,Wr];exact Wh h3.1 h4
 ·intro r hr
  rw[gW] at hr;obtain⟨c,hc,rfl⟩:=Wo.1 hr;rw[Wr];exact Wh (h3.2 c hc) h4
theorem Uc (hf:hP p) {i j:Nat} (hij:i<j) (hj:j<(ns p).length):CV (vD p i) (vD p j):=by
 have hn:=dK hf.nodup;have h:=XG.1 hn i j (by show i<(ns p).length;omega) hj hij;unfold vD;rw[VP,VP,VS hj,VS (by omega)];exact h
theorem DW (h0:(cQ p).1=0) {x k:Nat} {c:List Nat} (hx:x<(ns p).length) (h:Go.Or.pX (ns p).length (fO p) (fun _=>false) (mj p) x k c) {b:ah} (hb:b∈(bh p).getD k default):lW (aT p) b=(cv p x:Int):=by
 have hf:=fw (gX h0).1;have hk:=(VO.1 h.at_).1;have hc:(mj p).getD k default=c:=by rw[VP,h.at_];rfl
 rw[lf hk,hc] at hb;obtain⟨y,hy,rfl⟩:=Wo.1 hb;obtain⟨hyl,hcl⟩:=(h.cl y).1 hy;simp only[Go.Co.cls,Wc] at hcl;rw[vB hf hyl];have h1:=xx h0 hx hcl.1;have h2:=xx h0 hyl hcl.2;omega
end
set_option maxHeartbeats 1000000 in
theorem Ra (hS:dD) (p:Prog) (hb:p.fit) (hs:p.size≤10000000):Pure Tryz.prog 5 [ag p.c] (pB true):=by
 have h1:=u4 hS p hb hs;have h2:=zl hS p hb hs;have h3:=Cm hS p hb hs;by_cases k0:(cQ p).1=0;rotate_left
 ·have e:iB p=[]:=by rw[iB,if_neg k0]
  rw[e] at h2;generalize mn p=C at h3;generalize cQ p=d at*
  refine az ae Tryz.func5 rfl (by decide) Tryz.ntmps5 rfl (by simp) rfl ?_;refine gA rfl (aj (Ci hS) rfl rfl rfl rfl rfl rfl ?_);refine gA rfl (aj (h1) rfl rfl rfl rfl rfl rfl ?_);refine gA rfl (aj (h2) rfl rfl rfl rfl rfl rfl ?_);refine gA rfl (aj (h3) rfl rfl rfl rfl rfl rfl ?_);refine gA rfl ?_;refine VJ (fun q1=>?_) (fun q1=>?_);rotate_left
  ·exact absurd q1 (by decide)
  refine gA rfl ?_;refine VJ (fun q2=>?_) (fun q2=>?_);rotate_left
  ·simp at q2
  refine gA rfl ?_;refine VJ (fun q3=>?_) (fun q3=>?_);rotate_left
  ·exact absurd (by simpa using q3) k0
  refine gA rfl ?_;refine VJ (fun q4=>?_) (fun q4=>?_);rotate_left
  ·exact absurd q4 (by decide)
  refine gA rfl ?_;refine VJ (fun q5=>?_) (fun q5=>?_);rotate_left
  ·simp at q5
  refine gA rfl (au (by first|exact .inr rfl|exact .inl rfl) rfl ?_);exact .of_eq rfl
 have kz:=gX k0;have hf:=fw kz.1;have e1:iB p=aT p:=by rw[iB,if_pos k0]
 have e2:mn p=bh p:=by rw[mn,if_pos kz.1]
 rw[e1,kz.2] at h2;rw[kz.2] at h1;rw[e2] at h3;have hn:=lN hf;have hll:=eH p;have hnr:(ns p).length=p.aS.length:=by rw[ns,gr,Wr]
 have hcl:=Bu hf;have hbig:=Bb k0;have hrl:p.aS.length≤64:=hf.len;refine az ae Tryz.func5 rfl (by decide) Tryz.ntmps5 rfl (by simp) rfl ?_;refine gA rfl (aj (Ci hS) rfl rfl rfl rfl rfl rfl ?_);refine gA rfl (aj (h1) rfl rfl rfl rfl rfl rfl ?_);refine gA rfl (aj (h2) rfl rfl rfl rfl rfl rfl ?_);refine gA rfl (aj (h3) rfl rfl rfl rfl rfl rfl ?_)
 repeat(refine gA rfl (VJ (fun q=>?_) (fun q=>?_))<;>try(exact absurd q (by decide)))
 ·simp[hll,hnr] at q
 refine gA rfl ?_
 refine aL 0 p.aS.length (V1 _) (fun i=>⟨[(1, .ptr 0 0),(5, .iv (cV 2 (aT p) yb)),(7, .iv (cV 1 (bh p) kr)),(8,pI i)],[(0,some (aE p.c))],3⟩) (fun _=>True) [] trivial
  (wk rfl rfl rfl ⟨.refl _,rfl, .refl _,rfl, .refl _,rfl, .refl _,rfl,trivial⟩ (hC rfl rfl rfl trivial) rfl) fun i hi _=>?_
 refine gA rfl ?_;refine VJ (fun g1=>?_) (fun g1=>?_)
 ·have g1:i<p.aS.length:=by simpa using g1
  have hm:(p.aS.getD i default).name∈ns p:=by rw[ns,cJ];exact WD (bp g1)
  obtain⟨x,hx,hv⟩:=Go.Rg.iA hm;have hv:vD p x=(p.aS.getD i default).name:=hv;obtain⟨k,c,hst⟩:=o5 p hx;have hk:k<(bh p).length:=by rw[gW,Wr];exact(VO.1 hst.at_).1
  have hle:=yH k0 hx;have hpl:=kP hf hx hst;have hlv:=vB hf hx;rw[hv] at hle hpl hlv;have hlt:=hcl.2 _ (bp hk);have hLeast:=Rb p hb (aT p) (bh p) (p.aS.getD i default).name (by omega) hbig (by omega) (fun r hr=>by have:=hcl.2 r hr;omega);have hPlace:=eA (bh p) (p.aS.getD i default).name (by omega) (fun r hr=>by have:=hcl.2 r hr;omega);have hLevel:=ym (aT p) (p.aS.getD i default).name (by omega);rw[hle] at hLeast;rw[hpl] at hPlace;rw[hlv] at hLevel;refine gA rfl (aj (hLeast) rfl rfl rfl rfl rfl rfl ?_);refine gA rfl (aj (hPlace) rfl rfl rfl rfl rfl rfl ?_);refine gM 2 rfl (go_cut 1 (fun(_:Unit)=>⟨[(1, .ptr 0 0),(5, .iv (cV 2 (aT p) yb)),(7, .iv (cV 1 (bh p) kr)),(8,pI i),(9,pS (p.aS.getD i default).name),(12,pI k)],[(0,some (aE p.c))],3⟩) rfl ?_ ?_)
  ·refine gA rfl ?_
   refine VJ (fun q1=>?_) (fun q1=>?_);rotate_left
   ·simp at q1
   refine gA rfl ?_;refine VJ (fun q2=>?_) (fun q2=>?_);rotate_left
   ·have q2:decide ((k:Int)<0)=true:=q2
    have:=of_decide_eq_true q2;omega
   refine gA rfl ?_;refine VJ (fun q3=>?_) (fun q3=>?_)
   ·refine gA rfl (aj (hLevel) rfl rfl rfl rfl rfl rfl ?_)
    refine gA rfl ?_;refine VJ (fun q4=>?_) (fun q4=>?_);rotate_left
    ·simp at q4
    refine gA rfl (aj (hLevel) rfl rfl rfl rfl rfl rfl ?_);refine gA rfl ?_;refine VJ (fun q5=>?_) (fun q5=>?_)
    ·simp at q5
    refine gA rfl ?_;exact vR () [] (wk rfl rfl rfl ⟨.refl _,rfl, .refl _,rfl, .refl _,rfl, .refl _,rfl, .refl _,rfl, .refl _,rfl,trivial⟩ (hC rfl rfl rfl trivial) rfl)
   ·refine gA rfl (aj (hLevel) rfl rfl rfl rfl rfl rfl ?_)
    refine gA rfl ?_;refine VJ (fun q5=>?_) (fun q5=>?_)
    ·simp at q5
    refine gA rfl ?_;exact vR () [] (wk rfl rfl rfl ⟨.refl _,rfl, .refl _,rfl, .refl _,rfl, .refl _,rfl, .refl _,rfl, .refl _,rfl,trivial⟩ (hC rfl rfl rfl trivial) rfl)
  rintro⟨⟩
  refine gA rfl ?_
  refine aL 0 ((bh p).getD k default).length (V1 _) (fun j=>⟨[(1, .ptr 0 0),(5, .iv (cV 2 (aT p) yb)),(7, .iv (cV 1 (bh p) kr)),(8,pI i),(9,pS (p.aS.getD i default).name),(12,pI k),(13,pI j)],[(0,some (aE p.c))],3⟩) (fun _=>True) [] trivial
   (wk rfl rfl rfl ⟨.refl _,rfl, .refl _,rfl, .refl _,rfl, .refl _,rfl, .refl _,rfl, .refl _,rfl, .refl _,rfl,trivial⟩ (hC rfl rfl rfl trivial) rfl) fun j hj _=>?_
  refine gA rfl ?_;refine VJ (fun g2=>?_) (fun g2=>?_)
  ·have g2:j<((bh p).getD k default).length:=by simpa using g2
   have hc2:=DW k0 hx hst (bp g2);have hLev2:=ym (aT p) (((bh p).getD k default).getD j default) (by omega);rw[hc2] at hLev2;refine gA rfl (aj (hLev2) rfl rfl rfl rfl rfl rfl ?_);refine gA rfl (aj (hLevel) rfl rfl rfl rfl rfl rfl ?_);refine gA rfl ?_;refine VJ (fun q6=>?_) (fun q6=>?_)
   ·simp at q6
   refine gA rfl ?_;exact⟨g2,trivial,[],wk rfl rfl rfl ⟨.refl _,rfl, .refl _,rfl, .refl _,rfl, .refl _,rfl, .refl _,rfl, .refl _,rfl, .refl _,rfl,trivial⟩ (hC rfl rfl rfl trivial) rfl⟩
  ·refine gA rfl ?_
   exact⟨g1,trivial,[],wk rfl rfl rfl ⟨.refl _,rfl, .refl _,rfl, .refl _,rfl, .refl _,rfl,trivial⟩ (hC rfl rfl rfl trivial) rfl⟩
 have g1:p.aS.length≤i:=by simpa using g1
 have hd:=(pE k0).2;refine gA rfl ?_
 refine aL 0 (ns p).length (V1 _) (fun i=>⟨[(5, .iv (cV 2 (aT p) yb)),(14,pI i)],[],3⟩) (fun _=>True) [] trivial
  (wk rfl rfl rfl ⟨.refl _,rfl, .refl _,rfl,trivial⟩ trivial rfl) fun i hi _=>?_
 refine gA rfl ?_;refine VJ (fun g3=>?_) (fun g3=>?_);rotate_left
 ·refine gA rfl (au (by first|exact .inr rfl|exact .inl rfl) rfl (.of_eq ?_))
  rfl
 have g3:i<(aT p).length:=by simpa using g3
 have g4:i<(ns p).length:=by omega
 have hLi:=fB p g4;have hbig2:=pD k0 g4;have hLi2:(aT p)[i]?.getD default=(vD p i,cv p i):=by rw[←VP];exact hLi
 have hLi3:((aT p)[i]?.getD default).2≤64:=by rw[hLi2];exact hbig2
 refine gA rfl ?_
 refine gf 0 (ns p).length (V1 _) (fun j (b:Bool)=>⟨[(5, .iv (cV 2 (aT p) yb)),(14,pI i),(15,pB b),(16,pI j)],[],3⟩)
  (fun j b=>b=(decide (cv p i=0)||(V5 j).any fun y=>decide (cv p y+1=cv p i))) (decide (cv p i=0)) [] (by simp)
  (wk rfl rfl rfl ⟨.refl _,rfl, .refl _,rfl, .of_eq (kE (by rw[VQ,hLi,decide_eq_decide];show((cv p i:Nat):Int)=0↔_;omega)),rfl, .refl _,rfl,trivial⟩ trivial rfl) fun j b hj hJ=>?_
 refine gA rfl ?_;refine VJ (fun g5=>?_) (fun g5=>?_)
 ·have g5:j<(aT p).length:=by simpa using g5
  have g6:j<(ns p).length:=by omega
  have hLj:=fB p g6;have hbig3:=pD k0 g6
  have hst: ∀c:Bool,c=decide (cv p j+1=cv p i)→(b||c)=(decide (cv p i=0)||(V5 (j+1)).any fun y=>decide (cv p y+1=cv p i)):=by
   intro c hc;rw[Y4,List.any_append,hJ,hc];simp[Bool.or_assoc]
  refine gA rfl ?_;refine VJ (fun g7=>?_) (fun g7=>?_)
  ·have g7:b=true:=g7
   have h8:=hst false;refine gA rfl ?_;exact⟨g6,true,[],by rw[hJ] at g7;rw[Y4,List.any_append,←Bool.or_assoc,g7];rfl,wk rfl rfl rfl ⟨.refl _,rfl, .refl _,rfl, .kb _,rfl, .refl _,rfl,trivial⟩ trivial rfl⟩
  ·have g7:b=false:=g7
   refine gA rfl ?_;refine⟨g6,b||decide (cv p j+1=cv p i),[],hst _ rfl,wk rfl rfl rfl ⟨.refl _,rfl, .refl _,rfl, .of_eq (kE ?_),rfl, .refl _,rfl,trivial⟩ trivial rfl⟩;rw[g7,Xr];rw[VQ,VQ,hLi,hLj,decide_eq_decide];show((cv p j:Nat):Int)=((cv p i:Nat):Int)-1↔_;omega
 ·have g5:(aT p).length≤j:=by simpa using g5
  have hbt:b=true:=by
   rw[hJ];by_cases hz:cv p i=0
   ·simp[hz]
   ·obtain⟨y,hy,h5⟩:=Go.Or.Ru hd g4 (by omega)
    rw[Wy];right;rw[WU];exact⟨y,Wf.2 (by omega),decide_eq_true h5⟩
  subst hbt;refine gA rfl ?_;refine VJ (fun g7=>?_) (fun g7=>?_)
  ·exact absurd g7 (by decide)
  refine gA rfl ?_;refine VJ (fun g8=>?_) (fun g8=>?_)
  ·have g8:0<i:=by have:=of_decide_eq_true (show decide ((i:Int)>0)=true from g8);omega
   have hlt:Op.bytesLess (vD p (i-1)).toList (vD p i).toList=true:=(D3 _ _).2 (Uc hf (by omega) g4);have hLp:=fB p (i:=i-1) (by omega);have hei:((i:Int)-1).toNat=i-1:=by omega
   refine gA rfl ?_;refine VJ (fun g9=>?_) (fun g9=>?_)
   ·have g9:(!Op.bytesLess ((aT p).getD ((i:Int)-1).toNat default).1.toList ((aT p).getD (i:Int).toNat default).1.toList)=true:=g9
    rw[hei,VQ,hLp,hLi,hlt] at g9;cases g9
   refine gA rfl ?_;refine VJ (fun g10=>?_) (fun g10=>?_)
   ·have g10:decide ((((aT p).getD (i:Int).toNat default).2:Int)<0)=true:=g10
    have:=of_decide_eq_true g10;omega
   refine gA rfl ?_;exact⟨g4,trivial,[],wk rfl rfl rfl ⟨.refl _,rfl, .refl _,rfl,trivial⟩ trivial rfl⟩
  ·refine gA rfl ?_
   refine VJ (fun g10=>?_) (fun g10=>?_)
   ·have g10:decide ((((aT p).getD (i:Int).toNat default).2:Int)<0)=true:=g10
    have:=of_decide_eq_true g10;omega
   refine gA rfl ?_;exact⟨g4,trivial,[],wk rfl rfl rfl ⟨.refl _,rfl, .refl _,rfl,trivial⟩ trivial rfl⟩
end Go.Proofs.YtflegjieadkonaaGreatDoor
