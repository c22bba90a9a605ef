/-
  What the proofs of the claims need: part 4 of 5.
-/
import Derived.Test.YtlmhfgbkchnfbaaGreatDoorPart3
import Derived.KernelRfl
import Derived.Test.YtlmhfgbkchnfbaaGreatDoorRows
import Derived.WalkKit
import Derived.ProofKit
import Derived.OpenShut
import Derived.Deep.DeepHandedRow
import Derived.Lib.LaidTab
import Derived.LaidSub
import Derived.MakeChecks
import Derived.Test.YtlmhfgbkchnfbaaGreatDoorCards
import Derived.Test.YtlmhfgbkchnfbaaGreatDoorTie
import Derived.Lib.Bytealg
import Derived.Laws.Externs
import Derived.Shelf.SlSortCmp.NoneTotal
import Derived.Shelf.SlMaps.Clone
open And renaming intro→Vo
open Array renaming eq_empty_of_size_eq_zero→WJ,toList_inj→Yy
open Bool renaming and_eq_true→Wf,and_false→XV,eq_iff_iff→WR,false_eq_true→Xe,not_eq_false'→Xf,not_eq_true'→WA,not_true→XO,or_eq_false_iff→Xg,or_eq_true→Xz
open ByteArray renaming empty→Vx
open Classical renaming byContradiction→WV
open Decidable renaming byContradiction→XY
open Int renaming fdiv_eq_ediv_of_nonneg→WL,le_refl→XL,ofNat_eq_zero→Y0,toNat→XP,toNat_natCast→Vu
open List.Pairwise renaming filter→XE,imp→Yw,nil→XB
open List renaming all_eq_true→Wc,any_eq_false→Wm,any_eq_true→WN,append_assoc→VF,append_eq_nil_iff→Yf,append_nil→We,cons_append→VT,drop_eq_getElem_cons→Xc,drop_of_length_le→WW,eq_nil_of_length_eq_zero→V9,ext_getElem→XX,ext_getElem?→XD,filter_congr→Xs,filter_cons→Xh,find?_eq_none→Xy,flatMap_append→X3,flatMap_cons→Wt,foldl_cons→Ws,getD_cons_succ→WQ,getD_cons_zero→Xk,getD_eq_getElem?_getD→Vr,getElem?_cons_succ→X8,getElem?_eq_getElem→Vt,getElem?_eq_some_iff→Vs,getElem?_map→Vv,getElem?_set→Xd,getElem?_take→V8,getElem?_zipWith→YJ,getElem_map→Xb,getElem_mem→Wj,length_append→Vp,length_cons→VX,length_eq_zero_iff→WT,length_filter_le→WO,length_map→VS,length_pos_iff→WD,length_singleton→VW,length_take→V7,map_append→VD,map_congr_left→WE,map_cons→Vy,map_map→Wx,map_nil→VQ,mem_append→VM,mem_append_left→Wi,mem_append_right→WY,mem_cons→VH,mem_cons_of_mem→VE,mem_cons_self→VG,mem_filter→V4,mem_flatMap→Ym,mem_iff_getElem→Xp,mem_map→V5,mem_map_of_mem→Yp,mem_of_getElem?→V2,mem_range→WX,mem_reverse→Y4,mem_singleton→Vz,mem_singleton_self→Xt,nil_append→VU,nodup_append→W3,nodup_cons→Wb,nodup_nil→Wn,pairwise_append→Xq,pairwise_cons→Wz,pairwise_iff_getElem→WI,pairwise_singleton→XK,perm_ext_iff_of_nodup→W6,range→V0,replicate→XU,singleton_append→Yi,sum_cons→WU,take_append_drop→XR,take_length→WG,take_of_length_le→VI,take_succ_cons→WM,zipWith→YF,zipWith_cons_cons→YG
open List.cons renaming injEq→YH
open Nat renaming add_assoc→WB,beq→VP,ble→Xr,ble_eq_true_of_le→Wo,blt→VV,le_of_ble_eq_true→Vm,le_of_eq→YD,le_of_lt→YZ,le_of_not_lt→W9,le_refl→VA,le_succ→Xx,le_trans→Wr,lt_succ_iff_lt_or_eq→Xo,lt_succ_of_lt→W2,lt_succ_self→Xa,max_eq_right→Y5,not_lt_zero→Xl,succ_le_succ→Y3,zero_add→VL,zero_le→VB
open Option renaming bind_some→XJ,getD_some→Wv,map_eq_none_iff→XM,map_eq_some_iff→Vw,map_some→Ww
open Option.some renaming inj→Wq,injEq→Vq
open Prod renaming fst→Wy
open Prod.mk renaming injEq→VC
set_option maxRecDepth 100000
open Bool renaming false→jp,true→is
open Decidable renaming decide→kw
open Inhabited renaming default→ci
open Option renaming none→io,some→co
open Array renaming getD_eq_getD_getElem?→Vn
open Array renaming range→Yu
open Array renaming getElem?_map→X6
open Array renaming getElem?_eq_getElem→V6
open Nat renaming mul_le_mul_right→VO
open Nat renaming add_mul→Wg
open Array renaming append_assoc→X7
open Array renaming getElem?_append_left→V3
open List renaming getElem?_append_right→VK
open Nat renaming sub_mul→YM
open Array renaming getElem?_append_right→Xi
open Array renaming getElem?_toList→VY
open Nat renaming mod_eq_of_lt→XH
open List renaming getElem?_toArray→Wd
open List renaming getElem?_append_left→VJ
namespace Go.Proofs.YtlmhfgbkchnfbaaGreatDoor
open Go Go.Al Go.Proofs.Tryz
def Jy(n:Nat):Prop:= ∀(l:Lit) (w:WS),l.size<=n->0<=w.br->w.br<=16->w.l.length+l.ts<=900000000->bg prog 172 [.ptr 0 0,ag l.c] w.O (.aZ []) (dw n l w).H 3
set_option maxHeartbeats 1000000 in
theorem d214(n:Nat)(D:Jy n)(w:WS)(j:List Lit)(hs:Lit.aC j<=n)(I:0<=w.br)(J:w.br<=16)(hb:w.l.length+Lit.mq j+2<=900000000)(hn:n<=100000000):
  bg prog 124 [.ptr 0 0,.iv (lits j)] w.O (.aZ []) (c8 (dw n) j w j.length).H 3:=by
 have G:wq.size=2:=rfl;have b0:=Lit.aJ j;refine aj ab func124 Z (by decide) ntmps124 Z (by simp) ?_;refine gA Z ?_;refine aM 0 j.length (VB _) (fun i=>⟨[(0,.ptr 0 0),(6,.iv (lits j)),(7,pI j.length),(8,pI i)],[(0,co ((c8 (dw n) j w i).qt 0 2)),(2,co (.bu (c8 (dw n) j w i).l 5))],3⟩) (fun _=>True) _ ac
  (JE (w:=w) Z Z Z Z Z (.refl _) (.refl _) Z Z Z Z Z (bi (bi (bi (bi trivial))))) fun i hi _=>?_
 have a0:=me (dw n) (q8 n) j w i hi;have Y:=mf (dw n) (tU n) j w i;have d0:=Lit.GA j i;refine zE Z Z (fun h1=>?_) fun h1=>?_
 .have h1:j.length<=i:=zG h1;have C:i=j.length:=by omega
  subst C;refine gA Z iZ
 have h1:i<j.length:=zN h1;have e0:=Lit.zA j i h1;have c0:=Lit.bT j i h1;have u:c8 (dw n) j w (i+1)=if(c8 (dw n) j w i).bad=is then c8 (dw n) j w i else dw n (j.getD i ci) (eV i (c8 (dw n) j w i)):=rfl;have x:=fun h=>x4 (f:=dw n) (l:=j) (w:=w) (i:=i) h (j.length-i);rw[Nat.add_sub_cancel' (YZ h1)]at x;have B:=iV i (c8 (dw n) j w i);have A:=oT i (c8 (dw n) j w i);generalize c8 (dw n) j w i=w2 at*
 refine zJ Z Z (fun g=>?_) fun g=>?_
 .have g:w2.bad=is:=g;rw[x g];refine gA Z iZ
 have g: ¬w2.bad=is:=by
  have g:w2.bad=jp:=g;rw[g];decide
 rw[be g]at u;refine zJ Z Z (fun y=>?_) fun y=>?_
 .have y: ¬i=0:=by have:=zT y;omega
  rw[eV,be y]at u B A;refine gA Z (jn (d147 w2 [wq] (by simp) (by rw[bt,G];omega)) ?_);refine gA Z (iB (D (j.getD i ci) (aT w2 [wq]) (by omega) (by omega) (by omega) (by omega)) ?_);refine gA Z ⟨h1,ac,_,qz (u.symm)⟩
 .have y:i=0:=by have:=zF y;omega
  rw[eV,am y]at u B A;refine gA Z (iB (D (j.getD i ci) w2 (by omega) (by omega) (by omega) (by omega)) ?_);refine gA Z ⟨h1,ac,_,qz (u.symm)⟩
def gJ.ts(a:gJ):Nat:=a.var.size+a.j7.ts+Lit.mq a.body
set_option maxHeartbeats 4000000 in
theorem d190(n:Nat)(ih:Jy n)(w:WS)(a:gJ)(hs:Lit.aC a.body<=n)(a0:0<=w.br)(b0:w.br<=16)(hb:w.l.length+a.ts+30<=900000000)(hn:n<=100000000):
  bg prog 213 [.ptr 0 0,ag a.c] w.O (.aZ []) (zj (dw n) w a).H 3:=by
 refine bg.le (args:=[.ptr 0 0,ag a.c1]) ?_ ⟨.refl _,a.Gl,ac⟩;have e4:Ah.size=2:=rfl;have e5:Gi.size=3:=rfl;have c0:=Lit.aJ a.body;have d0:a.ts=a.var.size+a.j7.ts+Lit.mq a.body:=rfl;have hW: ¬(a.func<1∨5<=a.func∨16<=w.br∨a.body.length=0)->zj (dw n) w a=aT (we (c8 (dw n) a.body (we (qU (aT (aU w (fX a.var)) [a.var,rS,jD a.func,rT]) a) 1) a.body.length) (-1)) [Ah]:=fun h=>be h;have hB:a.func<1∨5<=a.func∨16<=w.br∨a.body.length=0->zj (dw n) w a=nE w:=fun h=>am h;have hh:=xC w a;have A:=DY (aT (aU w (fX a.var)) [a.var,rS,jD a.func,rT]) a;have x:=HI (aT (aU w (fX a.var)) [a.var,rS,jD a.func,rT]) a;rw[bP,u4]at x;have B:(we (qU (aT (aU w (fX a.var)) [a.var,rS,jD a.func,rT]) a) 1).l.length=(qU (aT (aU w (fX a.var)) [a.var,rS,jD a.func,rT]) a).l.length:=rfl;have C:(we (qU (aT (aU w (fX a.var)) [a.var,rS,jD a.func,rT]) a) 1).br=(qU (aT (aU w (fX a.var)) [a.var,rS,jD a.func,rT]) a).br+1:=rfl;have y:=me (dw n) (q8 n) a.body (we (qU (aT (aU w (fX a.var)) [a.var,rS,jD a.func,rT]) a) 1) a.body.length (VA _);rw[WG]at y;have D:=mf (dw n) (tU n) a.body (we (qU (aT (aU w (fX a.var)) [a.var,rS,jD a.func,rT]) a) 1) a.body.length;have G:eB [a.var,rS,jD a.func,rT]=a.var.size+(3+((jD a.func).size+3)):=by simp[eB,rS,rT];rfl
 have I:=Bz a.func;obtain⟨u,var,j,body⟩:=a;dsimp only at*
 refine aj ab func213 Z (by decide) ntmps213 Z (by simp) ?_;refine zE Z Z (fun g1=>?_) fun g1=>?_
 .rw[hB (.inl (zT g1))];refine gA Z iZ
 refine zE Z Z (fun g2=>?_) fun g2=>?_
 .rw[hB (.inr (.inl (zT g2)))];refine gA Z iZ
 refine zE Z Z (fun g3=>?_) fun g3=>?_
 .rw[hB (.inr (.inr (.inl (zT g3))))];refine gA Z iZ
 refine zJ Z Z (fun g4=>?_) fun g4=>?_
 .rw[hB (.inr (.inr (.inr (Y0.1 (zT g4)))))];refine gA Z iZ
 have g1: ¬u<1:=zF g1;have g2: ¬u>=5:=zF g2;have g3: ¬w.br>=16:=zF g3;have g4: ¬body.length=0:=fun h=>zF g4 (Y0.2 h);rw[hW (by rintro(h|h|h|h)<;>omega)];have hf:u=1∨u=2∨u=3∨u=4:=by omega
 clear hW hB;rcases hf with rfl|rfl|rfl|rfl
 .have e:jD 1=⟨#[99,111,117,110,116]⟩:=rfl;rw[e]at hh A x B C y D G I ⊢;refine gA Z (zp (De var) ?_);refine gA Z (iB (d146 w (fX var)) ?_);refine gA Z (yY (d147 (aU w (fX var)) [var,rS,⟨#[99,111,117,110,116]⟩,rT] (by simp) (by rw[G,aR];omega)) Z Z Z Z Z Z Z Z Z Z Z Z Z Z Z Z (by(repeat' (first|exact ac|exact rfl|exact ae.refl _|exact ae.bk (by assumption)|apply Vo))<;>first|omega|(simp only[Vu];omega)|(simp;done)|(simp;omega)) Z (by(repeat' (first|exact ac|exact rfl|exact ae.refl _|exact ae.bk (by assumption)|apply Vo))<;>first|omega|(simp only[Vu];omega)|(simp;done)|(simp;omega)) ?_);generalize Y:aT (aU w (fX var)) [var,rS,⟨#[99,111,117,110,116]⟩,rT]=w1 at*
  have J:qU w1 ⟨1,var,j,body⟩=aU w1 (jR j):=rfl;rw[J]at A x B C y D ⊢;refine zE Z Z (fun q=>?_) fun q=>?_
  .exact absurd (show is=jp from q) (by decide)
  refine gA Z (zp (MU j) ?_);refine gA Z (iB (d146 w1 (jR j)) ?_);generalize aU w1 (jR j)=w2 at*
  refine gA Z (iB (d214 n ih (we w2 1) body hs (by omega) (by omega) (by omega) hn) ?_);generalize c8 (dw n) body (we w2 1) body.length=w3 at*
  refine gA Z (go_wp (d147 (we w3 (-1)) [Ah] (by simp) (by rw[bt,e4];show w3.l.length+2<=_;omega)) Z Z Z Z Z Z Z Z Z Z Z Z ?_);refine gA Z iZ
 .have e:jD 2=⟨#[115,117,109]⟩:=rfl;rw[e]at hh A x B C y D G I ⊢;refine gA Z (zp (De var) ?_);refine gA Z (iB (d146 w (fX var)) ?_);refine gA Z (yY (d147 (aU w (fX var)) [var,rS,⟨#[115,117,109]⟩,rT] (by simp) (by rw[G,aR];omega)) Z Z Z Z Z Z Z Z Z Z Z Z Z Z Z Z (by(repeat' (first|exact ac|exact rfl|exact ae.refl _|exact ae.bk (by assumption)|apply Vo))<;>first|omega|(simp only[Vu];omega)|(simp;done)|(simp;omega)) Z (by(repeat' (first|exact ac|exact rfl|exact ae.refl _|exact ae.bk (by assumption)|apply Vo))<;>first|omega|(simp only[Vu];omega)|(simp;done)|(simp;omega)) ?_);generalize Y:aT (aU w (fX var)) [var,rS,⟨#[115,117,109]⟩,rT]=w1 at*
  have J:qU w1 ⟨2,var,j,body⟩=aT (cV 17 w1 j) [Gi]:=rfl;rw[J]at A x B C y D ⊢;refine zJ Z Z (fun q=>?_) fun q=>?_
  .exact absurd (show jp=is from q) (by decide)
  have hx:=di 17 w1 j;refine gA Z (iB (pC w1 j (by omega)) ?_);refine gA Z (jn (d147 (cV 17 w1 j) [Gi] (by simp) (by rw[bt,e5];omega)) ?_);generalize aT (cV 17 w1 j) [Gi]=w2 at*
  refine gA Z (iB (d214 n ih (we w2 1) body hs (by omega) (by omega) (by omega) hn) ?_);generalize c8 (dw n) body (we w2 1) body.length=w3 at*
  refine gA Z (go_wp (d147 (we w3 (-1)) [Ah] (by simp) (by rw[bt,e4];show w3.l.length+2<=_;omega)) Z Z Z Z Z Z Z Z Z Z Z Z ?_);refine gA Z iZ
 .have e:jD 3=⟨#[109,105,110]⟩:=rfl;rw[e]at hh A x B C y D G I ⊢;refine gA Z (zp (De var) ?_);refine gA Z (iB (d146 w (fX var)) ?_);refine gA Z (yY (d147 (aU w (fX var)) [var,rS,⟨#[109,105,110]⟩,rT] (by simp) (by rw[G,aR];omega)) Z Z Z Z Z Z Z Z Z Z Z Z Z Z Z Z (by(repeat' (first|exact ac|exact rfl|exact ae.refl _|exact ae.bk (by assumption)|apply Vo))<;>first|omega|(simp only[Vu];omega)|(simp;done)|(simp;omega)) Z (by(repeat' (first|exact ac|exact rfl|exact ae.refl _|exact ae.bk (by assumption)|apply Vo))<;>first|omega|(simp only[Vu];omega)|(simp;done)|(simp;omega)) ?_);generalize Y:aT (aU w (fX var)) [var,rS,⟨#[109,105,110]⟩,rT]=w1 at*
  have J:qU w1 ⟨3,var,j,body⟩=aT (cV 17 w1 j) [Gi]:=rfl;rw[J]at A x B C y D ⊢;refine zJ Z Z (fun q=>?_) fun q=>?_
  .exact absurd (show jp=is from q) (by decide)
  have hx:=di 17 w1 j;refine gA Z (iB (pC w1 j (by omega)) ?_);refine gA Z (jn (d147 (cV 17 w1 j) [Gi] (by simp) (by rw[bt,e5];omega)) ?_);generalize aT (cV 17 w1 j) [Gi]=w2 at*
  refine gA Z (iB (d214 n ih (we w2 1) body hs (by omega) (by omega) (by omega) hn) ?_);generalize c8 (dw n) body (we w2 1) body.length=w3 at*
  refine gA Z (go_wp (d147 (we w3 (-1)) [Ah] (by simp) (by rw[bt,e4];show w3.l.length+2<=_;omega)) Z Z Z Z Z Z Z Z Z Z Z Z ?_);refine gA Z iZ
 .have e:jD 4=⟨#[109,97,120]⟩:=rfl;rw[e]at hh A x B C y D G I ⊢;refine gA Z (zp (De var) ?_);refine gA Z (iB (d146 w (fX var)) ?_);refine gA Z (yY (d147 (aU w (fX var)) [var,rS,⟨#[109,97,120]⟩,rT] (by simp) (by rw[G,aR];omega)) Z Z Z Z Z Z Z Z Z Z Z Z Z Z Z Z (by(repeat' (first|exact ac|exact rfl|exact ae.refl _|exact ae.bk (by assumption)|apply Vo))<;>first|omega|(simp only[Vu];omega)|(simp;done)|(simp;omega)) Z (by(repeat' (first|exact ac|exact rfl|exact ae.refl _|exact ae.bk (by assumption)|apply Vo))<;>first|omega|(simp only[Vu];omega)|(simp;done)|(simp;omega)) ?_);generalize Y:aT (aU w (fX var)) [var,rS,⟨#[109,97,120]⟩,rT]=w1 at*
  have J:qU w1 ⟨4,var,j,body⟩=aT (cV 17 w1 j) [Gi]:=rfl;rw[J]at A x B C y D ⊢;refine zJ Z Z (fun q=>?_) fun q=>?_
  .exact absurd (show jp=is from q) (by decide)
  have hx:=di 17 w1 j;refine gA Z (iB (pC w1 j (by omega)) ?_);refine gA Z (jn (d147 (cV 17 w1 j) [Gi] (by simp) (by rw[bt,e5];omega)) ?_);generalize aT (cV 17 w1 j) [Gi]=w2 at*
  refine gA Z (iB (d214 n ih (we w2 1) body hs (by omega) (by omega) (by omega) hn) ?_);generalize c8 (dw n) body (we w2 1) body.length=w3 at*
  refine gA Z (go_wp (d147 (we w3 (-1)) [Ah] (by simp) (by rw[bt,e4];show w3.l.length+2<=_;omega)) Z Z Z Z Z Z Z Z Z Z Z Z ?_);refine gA Z iZ
set_option maxHeartbeats 4000000 in
theorem F4(n:Nat)(ih:Jy n)(hn:n<=100000000):Jy (n+1):=by
 intro l w hs Y a0 hb;have G:Ce.size=4:=rfl;have C:=l.size_eq;have D:=l.sK;have B:l.agg.ts=l.bE.size+l.jT.ts+Lit.mq l.ay:=rfl;have J:dw (n+1) l w=CI (dw n) l (aU w (lx l)):=rfl;rw[J];have b0:(aU w (lx l)).l.length=w.l.length:=rfl;have c0:=u4 w (lx l);have hx:=di 17 (aU w (lx l)) l.left;obtain⟨kind,atom,op,left,right,dP,bE,jT,ay,at_⟩:=l;dsimp only[Lit.atom,Lit.left,Lit.right,Lit.bE,Lit.jT,Lit.ay]at C D B hx;refine aj ab func172 Z (by decide) ntmps172 Z (by simp) ?_;refine gA Z (zp (U0 (.mk kind atom op left right dP bE jT ay at_)) ?_);refine gA Z (iB (d146 w (lx (.mk kind atom op left right dP bE jT ay at_))) ?_);generalize aU w (lx (.mk kind atom op left right dP bE jT ay at_))=w1 at*
 have I:CI (dw n) (.mk kind atom op left right dP bE jT ay at_) w1=if kind=2 then il (aT w1 [Ce]) atom else if kind=1 then il w1 atom
  else if kind=3 then(if op<1∨7<=op then nE (cV 17 w1 left) else cV 17 (aT (cV 17 w1 left) [vJ op]) right)
  else if kind=4 then zj (dw n) w1 (Lit.mk kind atom op left right dP bE jT ay at_).agg else nE w1:=rfl
 rw[I];refine zJ Z Z (fun x=>?_) fun x=>?_
 .have x:kind=2:=zT x;rw[am x];refine gA Z (jn (d147 w1 [Ce] (by simp) (by rw[bt,G];omega)) ?_);refine gA Z (iB (d104 (aT w1 [Ce]) atom (by rw[aK,G];omega)) ?_);refine gA Z iZ
 have x: ¬kind=2:=zF x;rw[be x];refine zJ Z Z (fun u=>?_) fun u=>?_
 .have u:kind=1:=zT u;rw[am u];refine gA Z (iB (d104 w1 atom (by omega)) ?_);refine gA Z iZ
 have u: ¬kind=1:=zF u;rw[be u];refine zE Z Z (fun y=>?_) fun y=>?_
 .have y: ¬kind=3:=zF y;rw[be y];refine zJ Z Z (fun A=>?_) fun A=>?_
  .have A:kind=4:=zT A;rw[am A];refine gA Z (iB (d190 n ih w1 (Lit.mk kind atom op left right dP bE jT ay at_).agg (by show Lit.aC ay<=n;omega) (by omega) (by omega) (by omega) hn) ?_);refine gA Z iZ
  .have A: ¬kind=4:=zF A;rw[be A];refine gA Z iZ
 have y:kind=3:=zT y;rw[am y];refine gA Z (iB (pC w1 left (by omega)) ?_);refine zE Z Z (fun g1=>?_) fun g1=>?_
 .rw[am (.inl (zT g1))];refine gA Z iZ
 refine zJ Z Z (fun g2=>?_) fun g2=>?_
 .rw[am (.inr (zT g2))];refine gA Z iZ
 have g1: ¬op<1:=zF g1;have g2: ¬op>=7:=zF g2;rw[be (by rintro(h|h)<;>omega)];generalize cV 17 w1 left=w2 at*
 have ho:op=1∨op=2∨op=3∨op=4∨op=5∨op=6:=by omega
 clear I J;rcases ho with rfl|rfl|rfl|rfl|rfl|rfl
 .have e:vJ 1=⟨#[32,61,32]⟩:=rfl;have j:((⟨#[32,61,32]⟩:aq)).size=3:=rfl;rw[e];refine fP Z (by dsimp only[Lit.op];exact(by(repeat' (first|exact ac|exact rfl|exact ae.refl _|exact ae.bk (by assumption)|apply Vo))<;>first|omega|(simp only[Vu];omega)|(simp;done)|(simp;omega))) (go_wp (d147 w2 [⟨#[32,61,32]⟩] (by simp) (by rw[bt,j];omega)) Z Z Z Z Z Z Z Z Z Z Z Z ?_);refine gA Z (iB (pC (aT w2 [⟨#[32,61,32]⟩]) right (by rw[aK,j];omega)) ?_);refine gA Z iZ
 .have e:vJ 2=⟨#[32,33,61,32]⟩:=rfl;have j:((⟨#[32,33,61,32]⟩:aq)).size=4:=rfl;rw[e];refine fP Z (by dsimp only[Lit.op];exact(by(repeat' (first|exact ac|exact rfl|exact ae.refl _|exact ae.bk (by assumption)|apply Vo))<;>first|omega|(simp only[Vu];omega)|(simp;done)|(simp;omega))) (go_wp (d147 w2 [⟨#[32,33,61,32]⟩] (by simp) (by rw[bt,j];omega)) Z Z Z Z Z Z Z Z Z Z Z Z ?_);refine gA Z (iB (pC (aT w2 [⟨#[32,33,61,32]⟩]) right (by rw[aK,j];omega)) ?_);refine gA Z iZ
 .have e:vJ 3=⟨#[32,60,32]⟩:=rfl;have j:((⟨#[32,60,32]⟩:aq)).size=3:=rfl;rw[e];refine fP Z (by dsimp only[Lit.op];exact(by(repeat' (first|exact ac|exact rfl|exact ae.refl _|exact ae.bk (by assumption)|apply Vo))<;>first|omega|(simp only[Vu];omega)|(simp;done)|(simp;omega))) (go_wp (d147 w2 [⟨#[32,60,32]⟩] (by simp) (by rw[bt,j];omega)) Z Z Z Z Z Z Z Z Z Z Z Z ?_);refine gA Z (iB (pC (aT w2 [⟨#[32,60,32]⟩]) right (by rw[aK,j];omega)) ?_);refine gA Z iZ
 .have e:vJ 4=⟨#[32,60,61,32]⟩:=rfl;have j:((⟨#[32,60,61,32]⟩:aq)).size=4:=rfl;rw[e];refine fP Z (by dsimp only[Lit.op];exact(by(repeat' (first|exact ac|exact rfl|exact ae.refl _|exact ae.bk (by assumption)|apply Vo))<;>first|omega|(simp only[Vu];omega)|(simp;done)|(simp;omega))) (go_wp (d147 w2 [⟨#[32,60,61,32]⟩] (by simp) (by rw[bt,j];omega)) Z Z Z Z Z Z Z Z Z Z Z Z ?_);refine gA Z (iB (pC (aT w2 [⟨#[32,60,61,32]⟩]) right (by rw[aK,j];omega)) ?_);refine gA Z iZ
 .have e:vJ 5=⟨#[32,62,32]⟩:=rfl;have j:((⟨#[32,62,32]⟩:aq)).size=3:=rfl;rw[e];refine fP Z (by dsimp only[Lit.op];exact(by(repeat' (first|exact ac|exact rfl|exact ae.refl _|exact ae.bk (by assumption)|apply Vo))<;>first|omega|(simp only[Vu];omega)|(simp;done)|(simp;omega))) (go_wp (d147 w2 [⟨#[32,62,32]⟩] (by simp) (by rw[bt,j];omega)) Z Z Z Z Z Z Z Z Z Z Z Z ?_);refine gA Z (iB (pC (aT w2 [⟨#[32,62,32]⟩]) right (by rw[aK,j];omega)) ?_);refine gA Z iZ
 .have e:vJ 6=⟨#[32,62,61,32]⟩:=rfl;have j:((⟨#[32,62,61,32]⟩:aq)).size=4:=rfl;rw[e];refine fP Z (by dsimp only[Lit.op];exact(by(repeat' (first|exact ac|exact rfl|exact ae.refl _|exact ae.bk (by assumption)|apply Vo))<;>first|omega|(simp only[Vu];omega)|(simp;done)|(simp;omega))) (go_wp (d147 w2 [⟨#[32,62,61,32]⟩] (by simp) (by rw[bt,j];omega)) Z Z Z Z Z Z Z Z Z Z Z Z ?_);refine gA Z (iB (pC (aT w2 [⟨#[32,62,61,32]⟩]) right (by rw[aK,j];omega)) ?_);refine gA Z iZ
theorem QP: ∀n,n<=100000001->Jy n
 |0,_=>fun l w hs=>by have:=l.size_pos;omega
 |n+1,h=>F4 n (QP n (by omega)) (by omega)
section
abbrev WS.o:WS:=⟨is,[],jp,0⟩
section
variable {nt:NT} {Q:AQ} {k:List KI} {s:AS}
def wN(s:AS)(i:Nat):AS:=match s with|⟨f,h,n⟩=>⟨f,(i,co (WS.o.qt i n))::(n,co (.bu [] 5))::h,n+1⟩
theorem yX{P:Program}{c:Code}{s':AS}(i:Nat)(hi:s.h.get i=co (.cells [.iv (.v (.pointer io)),.iv (.v (.slice io 0 0)),pB jp,pI 0] (co 186)))
  (hs:wN s i=s') (h:GO P nt (.code c::k) Q s'):GO P nt (.code c::k) Q s:=by
 subst hs;intro M N a w hf;obtain⟨sf,sh,x⟩:=s;obtain⟨h1,h2⟩:=hf.1.Nk 5;have G:i<x:=hf.1.used i _ hi;have I:i≠x:=fun e=>by omega
 have y:AH.get ((x,co (AO.bu [] 5))::sh) i=co (.cells [.iv (.v (.pointer io)),.iv (.v (.slice io 0 0)),pB jp,pI 0] (co 186)):=by
  rw[AH.ax,be I];exact hi
 obtain⟨A,T,e1,e2,e3,B,e5⟩:=h2.obj i _ y;have hv: ∀(j:Nat) (p:PV),[PV.eL is i,.sl x 0 0 1,pB jp,pI 0][j]? =co p->VR M N (· <x+1) p (A.getD j undef):=by
  intro j p u
  match j,u with
  |0,u=>
   cases u;have:=B 0 _ Z;generalize A.getD 0 undef=v at this ⊢;cases this with
   |iv _ _ h=>cases h with
    |v=>exact .eL is i (W2 G)
  |1,u=>
   cases u;have:=B 1 _ Z;generalize A.getD 1 undef=v at this ⊢;cases this with
   |iv _ _ h=>cases h with
    |v=>exact .kP _ _ (Xa _)
  |2,u=>exact B 2 p u
  |3,u=>exact B 3 p u
  |j+4,u=>cases u
 obtain⟨g1,g2⟩:=h2.write (i:=i) (o0:= .cells [.iv (.v (.pointer io)),.iv (.v (.slice io 0 0)),pB jp,pI 0] (co 186)) y Z w (WS.o.qt i x) Z Z Z Z (fun _ _=>rfl) ⟨A,T,e1,e2,e3,hv,e5⟩;have C:Fits M N ⟨sf,(i,co (WS.o.qt i x))::(x,co (.bu [] 5))::sh,x+1⟩ nt a w:=
  ⟨g2,fun k=>(hf.2.1 k).mono (.refl _) (.refl _ _) (fun i hi=>W2 hi),hf.2.2⟩
 exact AW.then h C fun e a2 w2 M2 N2 s2 Y D J=>⟨M2,N2,s2,(h1.trans g1).trans Y,D,J⟩
end
def WS.told(w:WS):PV:= .aZ [pS (if w.bad=is then⟨#[]⟩ else⟨w.l.toArray⟩),pI (if w.bad=is then 50 else 0)]
theorem d105(w:WS):bg prog 94 [.ptr 0 0] w.O w.told [] 2:=by
 refine aj ab func94 Z (by decide) ntmps94 Z (by simp) ?_;refine zJ Z Z (fun g=>?_) fun g=>?_
 .have g:w.bad=is:=g;unfold WS.told;rw[am g,am g];refine gA Z (zD [] Z (zW ac))
 .have g: ¬w.bad=is:=by
   have g:w.bad=jp:=g;rw[g];decide
  unfold WS.told;rw[be g,be g];refine gA Z (zq [0,1] (d150 w) ?_);refine gA Z (zD [] Z (zW ac))
def TV(a:Atom):PV:=(il WS.o a).told
def UC(l:Lit):PV:=(dw l.size l WS.o).told
theorem c61(a:Atom)(hb:a.ts<=900000000):Pure prog 175 [ag a.c] (TV a):=by
 refine ah ab func175 Z (by decide) ntmps175 Z (by simp) Z ?_;refine gM 12 Z (yX 1 Z Z ?_);refine gA Z (iB (d104 WS.o a (by simpa using hb)) ?_);refine gA Z (zq [1,3] (d105 (il WS.o a)) ?_);exact zU Z
theorem Vd(l:Lit)(hb:l.ts<=900000000)(hs:l.size<=100000000):Pure prog 176 [ag l.c] (UC l):=by
 refine ah ab func176 Z (by decide) ntmps176 Z (by simp) Z ?_;refine gM 12 Z (yX 1 Z Z ?_);refine gA Z (iB (QP l.size (by omega) l WS.o (VA _) (by decide) (by decide) (by simpa using hb)) ?_);refine gA Z (zq [1,3] (d105 (dw l.size l WS.o)) ?_);exact zU Z
end
def p5(d:Decl)(i k:Int):Int:=
 if(d.types.any fun x=>!kw (x=1)&&!kw (x=2))=is∨fM d.name=jp then 1
 else if i>=64∨(d.types.length:Int)>8 then 66 else if k>0 then 60 else 0
theorem Ve(d:Decl)(i k:Int):Pure prog 127 [ag d.c,pI i,pI k] (pI (p5 d i k)):=by
 refine ah ab func127 Z (by decide) ntmps127 Z (by simp) Z ?_;refine gA Z (zq [] (d153 d.types) ?_);refine zE Z Z (fun g1=>?_) fun g1=>?_
 .rw[p5,am (.inl (by simpa using g1))];exact zU Z
 have g1: ¬(d.types.any fun x=>!kw (x=1)&&!kw (x=2))=is:=by
  have g1:(d.types.any fun x=>!kw (x=1)&&!kw (x=2))=jp:=g1;rw[g1];decide
 refine gA Z (zp (TP d.name) ?_);refine zJ Z Z (fun g2=>?_) fun g2=>?_
 .have g2:fM d.name=jp:=by simpa using g2
  rw[p5,am (.inr g2)];exact zU Z
 have g2: ¬fM d.name=jp:=by
  have g2:fM d.name=is:=by simpa using g2
  rw[g2];decide
 rw[p5,be (by rintro(h|h);exact g1 h;exact g2 h)];refine zE Z Z (fun g3=>?_) fun g3=>?_
 .rw[am (.inl (by simpa using g3))];exact zU Z
 have g3: ¬i>=64:=zF g3;refine zJ Z Z (fun g4=>?_) fun g4=>?_
 .rw[am (.inr (zT g4))];exact zU Z
 have g4: ¬(d.types.length:Int)>8:=zF g4;rw[be (by rintro(h|h);exact g3 h;exact g4 h)];refine zJ Z Z (fun g5=>?_) fun g5=>?_
 .rw[am (zT g5)];exact zU Z
 .rw[be (zF g5)];exact zU Z
abbrev cx:=(KC.si .i64).K
def cx.z:cx:=(Vx,0)
def cx.c(s:cx):List IV:=[iS s.1,iI s.2]
def spE(s:cx):IV:= .agg s.c
def spZ:Value:= .agg #[.string Vx,.int .i64 0]
def dvP:PV->cx
 | .agg [.iv (.v (.string s)),.iv (.v (.int _ a))]=>(s,a)
 |_=>cx.z
abbrev UM:=List (cx×cx)
abbrev KM:=List (cx×Int)
abbrev pd(m:UM):AO:= .map (.si .i64) spE cx.z spZ dvP m
abbrev upI(m:UM):IV:= .eG (.si .i64) spE cx.z spZ m
abbrev pq(m:KM):AO:= .map (.si .i64) zn 0 (.int .i64 0) UH m
abbrev kdI(m:KM):IV:= .eG (.si .i64) zn 0 (.int .i64 0) m
structure Want where
 lit:Int
 at_:cx
 kind:Int
 has:Int
 deriving Inhabited
def Want.c(w:Want):List IV:=[iI w.lit,iS w.at_.1,iI w.at_.2,iI w.kind,iI w.has]
structure TS where
 up:UM
 ws:List Want
 kind:KM
abbrev TS.cell(r:aw)(u j n k:Nat):AO:= .cells [.iv (cD r),.mp u,.sl j 0 n 5,.mp k]
abbrev TS.O(r:aw)(t:TS):List AO:=[TS.cell r 1 2 t.ws.length 3,pd t.up,aV 5 t.ws Want.c,pq t.kind]
abbrev TS.K(r:aw)(t:TS):AH:=[(0,co (TS.cell r 1 2 t.ws.length 3)),(1,co (pd t.up)),(2,co (aV 5 t.ws Want.c)),(3,co (pq t.kind))]
abbrev TS.H(r:aw)(t:TS):AH:=[(0,co (TS.cell r 1 4 t.ws.length 3)),(1,co (pd t.up)),(4,co (aV 5 t.ws Want.c)),(3,co (pq t.kind))]
def dZ(r:aw)(s:aq)(w:Int):cx:=(s,if dQ .str (aL (aH r)) s 0>0 then-1 else w)
theorem d136(r:aw)(t:TS)(s:aq)(w:Int):bg prog 249 [.ptr 0 0,pS s,pI w] (t.O r) (ag (dZ r s w).c) (t.K r) 4:=by
 refine aj ab func249 Z (by decide) ntmps249 Z (by simp) ?_;refine zJ Z Z (fun g=>?_) fun g=>?_
 .have e:dZ r s w=(s, -1):=by unfold dZ;rw[am (zT g)]
  rw[e];refine gA Z (zD [] Z (zW (zO (zC ⟨⟨_,rfl,.of_eq (b3 _).symm⟩,Vm Z,eC _,zC ac⟩))))
 .have e:dZ r s w=(s,w):=by unfold dZ;rw[be (zF g)]
  rw[e];refine gA Z (zD [] Z (zW (zO (zC ⟨⟨_,rfl,.of_eq (b3 _).symm⟩,Vm Z,eC _,zC ac⟩))))
def bW:UM->cx->cx
 | [],v=>v
 |(x,y)::r,v=>if x=v then bW r y else bW r v
def iK:UM->Prop
 | []=>True
 |(x,y)::r=>x≠y∧(∀q∈r,q.1≠x)∧(∀q∈r,q.2≠x)∧iK r
def EP:UM->cx->Nat
 | [],_=>0
 |(x,_)::r,v=>if x=v then r.length+1 else EP r v
theorem Gw: ∀(m:UM) (v:cx),EP m v<=m.length
 | [],_=>VA _
 |(x,y)::r,v=>by
  have:=Gw r v;unfold EP;split
  .simp
  .simp;omega
theorem qM: ∀(m:UM) (v:cx),dr (.si .i64) m v=jp->bW m v=v
 | [],_,_=>rfl
 |(x,y)::r,v,h=>by
  unfold dr at h;unfold bW;split at h
  .cases h
  .rename_i j;rw[be j];exact qM r v h
theorem nT: ∀(m:UM) (v:cx),iK m->dr (.si .i64) m v=is->bW m (dQ (.si .i64) m v cx.z)=bW m v∧EP m (dQ (.si .i64) m v cx.z)<EP m v
 | [],_,_,h=>nomatch h
 |(x,y)::r,v,ok,h=>by
  obtain⟨G,Y,I,J⟩:=ok;by_cases A:x=v
  .subst A;have e:dQ (.si .i64) ((x,y)::r) x cx.z=y:=am Z;rw[e];refine⟨?_,?_⟩
   .show(if x=y then bW r y else bW r y)=if x=x then bW r y else bW r x;rw[am Z];split<;>rfl
   .show(if x=y then r.length+1 else EP r y)<if x=x then r.length+1 else EP r x;rw[am Z,be G];have:=Gw r y;omega
  .have e:dQ (.si .i64) ((x,y)::r) v cx.z=dQ (.si .i64) r v cx.z:=be A;have B:dr (.si .i64) r v=is:=by
    unfold dr at h;rw[be A]at h;exact h
   rw[e];obtain⟨g1,g2⟩:=nT r v J B;have u:dQ (.si .i64) r v cx.z≠x:=by
    have: ∀(m:UM),(∀q∈m,q.2≠x)->dr (.si .i64) m v=is->dQ (.si .i64) m v cx.z≠x:=by
     intro m
     induction m with
     |nil=>intro _ h;cases h
     |cons a r ih=>
      obtain⟨x',y'⟩:=a;intro C h;unfold dr at h;unfold dQ;split at h
      .rename_i j;rw[am j];exact C _ VG
      .rename_i j;rw[be j];exact ih (fun q D=>C q (VE _ D)) h
    exact this r I B
   refine⟨?_,?_⟩
   .show(if x=_ then bW r y else bW r _)=if x=v then bW r y else bW r v;rw[be (fun e=>u e.symm),be A];exact g1
   .show(if x=_ then r.length+1 else EP r _)<if x=v then r.length+1 else EP r v;rw[be (fun e=>u e.symm),be A];exact g2
theorem d52(r:aw)(t:TS)(v0:cx)(ok:iK t.up):bg prog 226 [.ptr 0 0,ag v0.c] (t.O r) (ag (bW t.up v0).c) (t.K r) 4:=by
 refine aj ab func226 Z (by decide) ntmps226 Z (by simp) ?_;refine gA Z ?_
 refine ic (σ:={v:cx//bW t.up v=bW t.up v0}) (fun v=>⟨[(0,.ptr 0 0),(3,.ptr 4 0),(4,.ptr 5 0)],
  [(0,co (TS.cell r 1 2 t.ws.length 3)),(1,co (pd t.up)),(2,co (aV 5 t.ws Want.c)),(3,co (pq t.kind)),(4,co (.cells [pS v.1.1,pI v.1.2])),(5,co (.cells [pS ⟨#[]⟩,pI 0]))],6⟩) (fun v=>EP t.up v.1) ⟨v0,rfl⟩ []
  (zW (zO (zC ⟨⟨_,rfl,.of_eq (b3 _).symm⟩,Vm Z,eC _,zC ⟨⟨_,rfl,.of_eq Z⟩,Vm Z,rfl,⟨_,rfl,.of_eq Z⟩,Vm Z,rfl,ac⟩⟩))) fun v=>?_
 obtain⟨v,j⟩:=v;refine zJ Z Z (fun g=>?_) fun g=>?_
 .have h:dr (.si .i64) t.up v=jp:=by simpa using g
  have e:bW t.up v0=v:=by rw[<-j];exact qM t.up v h
  refine gA Z (zD [] Z (zM ⟨.of_eq (congrArg (fun x:cx=>ag x.c) e.symm),rfl,ac⟩ (zO (zC ⟨⟨_,rfl,.of_eq (b3 _).symm⟩,Vm Z,eC _,zC ac⟩))))
 .have h:dr (.si .i64) t.up v=is:=by simpa using g
  obtain⟨h1,u⟩:=nT t.up v ok h;refine gA Z ⟨⟨dQ (.si .i64) t.up v cx.z,h1.trans j⟩,[],u,zW (zO (zC ⟨⟨_,rfl,.of_eq (b3 _).symm⟩,Vm Z,eC _,zC ⟨⟨_,rfl,.of_eq Z⟩,Vm Z,rfl,⟨_,rfl,.of_eq Z⟩,Vm Z,rfl,ac⟩⟩))⟩
def PJ(r:aw)(t:TS):IV:= .kK [cD r,upI t.up,a7 5 t.ws Want.c,kdI t.kind]
theorem c52(r:aw)(t:TS)(v0:cx)(ok:iK t.up):Pure prog 226 [.iv (PJ r t),ag v0.c] (ag (bW t.up v0).c):=by
 refine ah ab func226 Z (by decide) ntmps226 Z (by simp) Z ?_;refine gA Z ?_
 refine ic (σ:={v:cx//bW t.up v=bW t.up v0}) (fun v=>⟨[(0,.iv (PJ r t)),(3,.ptr 0 0),(4,.ptr 1 0)],
  [(0,co (.cells [pS v.1.1,pI v.1.2])),(1,co (.cells [pS ⟨#[]⟩,pI 0]))],2⟩) (fun v=>EP t.up v.1) ⟨v0,rfl⟩ []
  (zW ⟨⟨_,rfl,.of_eq Z⟩,Vm Z,rfl,⟨_,rfl,.of_eq Z⟩,Vm Z,rfl,ac⟩) fun v=>?_
 obtain⟨v,j⟩:=v;refine zJ Z Z (fun g=>?_) fun g=>?_
 .have h:dr (.si .i64) t.up v=jp:=by simpa using g
  have e:bW t.up v0=v:=by rw[<-j];exact qM t.up v h
  refine gA Z (zL (.of_eq ?_));exact congrArg (fun x:cx=>ag x.c) e.symm
 .have h:dr (.si .i64) t.up v=is:=by simpa using g
  obtain⟨h1,u⟩:=nT t.up v ok h;refine gA Z ⟨⟨dQ (.si .i64) t.up v cx.z,h1.trans j⟩,[],u,zW ⟨⟨_,rfl,.of_eq Z⟩,Vm Z,rfl,⟨_,rfl,.of_eq Z⟩,Vm Z,rfl,ac⟩⟩
def uo(t:TS)(w:Want):Int:=if w.has=0 then dQ (.si .i64) t.kind (bW t.up w.at_) 0 else w.has
def sJ(t:TS)(lit:Int)(w:Want):Bool:=kw (w.lit=lit)&&!kw (uo t w=w.kind)
def rK(t:TS)(lit:Int):Bool:=t.ws.any (sJ t lit)
theorem Va(r:aw)(t:TS)(lit:Int)(ok:iK t.up)(hb:t.ws.length<=1000000000000):Pure prog 188 [.iv (PJ r t),pI lit] (pB (rK t lit)):=by
 refine ah ab func188 Z (by decide) ntmps188 Z (by simp) Z ?_;refine gA Z ?_;refine aM 0 t.ws.length (VB _) (fun i=>⟨[(0,.iv (PJ r t)),(1,pI lit),(11,.iv (a7 5 t.ws Want.c)),(12,pI t.ws.length),(13,pI i)],[],0⟩) (fun i=>(t.ws.take i).any (sJ t lit)=jp) [] Z
  (zW trivial) fun i B A=>?_
 refine zJ Z Z (fun h1=>?_) fun h1=>?_
 .have h1:i<t.ws.length:=by simpa using h1
  have y:=cW A h1;refine zJ Z Z (fun x=>?_) fun x=>?_
  .have x:(t.ws.getD i ci).has=0:=zT x;refine gA Z (Di (c52 r t (t.ws.getD i ci).at_ ok) ?_);have hk:uo t (t.ws.getD i ci)=dQ (.si .i64) t.kind (bW t.up (t.ws.getD i ci).at_) 0:=am x;refine zJ Z Z (fun j=>?_) fun j=>?_
   .have j:(t.ws.getD i ci).lit=lit:=zT j;refine zJ Z Z (fun u=>?_) fun u=>?_
    .have u: ¬uo t (t.ws.getD i ci)=(t.ws.getD i ci).kind:=by rw[hk];simpa using u
     have e:rK t lit=is:=WN.2 ⟨t.ws.getD i ci,by rw[Vr,Vt h1];exact Wj h1,by rw[sJ,decide_eq_true j,decide_eq_false u];rfl⟩;refine gA Z (zL (.of_eq ?_));rw[e]
    .have u:uo t (t.ws.getD i ci)=(t.ws.getD i ci).kind:=by rw[hk];simpa using u
     refine gA Z ⟨h1,y.2 (by rw[sJ,decide_eq_true u,XO,XV]),[],zW ac⟩
   .have j: ¬(t.ws.getD i ci).lit=lit:=by simpa using j
    refine gA Z ⟨h1,y.2 (by rw[sJ,decide_eq_false j];rfl),[],zW ac⟩
  .have x: ¬(t.ws.getD i ci).has=0:=zF x;have hk:uo t (t.ws.getD i ci)=(t.ws.getD i ci).has:=be x;refine zJ Z Z (fun j=>?_) fun j=>?_
   .have j:(t.ws.getD i ci).lit=lit:=zT j;refine zJ Z Z (fun u=>?_) fun u=>?_
    .have u: ¬uo t (t.ws.getD i ci)=(t.ws.getD i ci).kind:=by rw[hk];simpa using u
     have e:rK t lit=is:=WN.2 ⟨t.ws.getD i ci,by rw[Vr,Vt h1];exact Wj h1,by rw[sJ,decide_eq_true j,decide_eq_false u];rfl⟩;refine gA Z (zL (.of_eq ?_));rw[e]
    .have u:uo t (t.ws.getD i ci)=(t.ws.getD i ci).kind:=by rw[hk];simpa using u
     refine gA Z ⟨h1,y.2 (by rw[sJ,decide_eq_true u,XO,XV]),[],zW ac⟩
   .have j: ¬(t.ws.getD i ci).lit=lit:=by simpa using j
    refine gA Z ⟨h1,y.2 (by rw[sJ,decide_eq_false j];rfl),[],zW ac⟩
 .have h1:t.ws.length<=i:=by simpa using h1
  rw[VI h1]at A;refine gA Z (zL (.of_eq ?_));rw[rK,A]
section
section
variable (r:aw) (lit w:Int)
def mL(e:Expr):List Want:=if e.kind=1 then[⟨lit,dZ r e.var w,1,0⟩] else if e.kind=2 then[⟨lit,cx.z,1,e.val.kind⟩] else[]
mutual
def gr:Expr->List Want
 | .mk k v val op args=>mL r lit w (.mk k v val op args)++(if k=4 then sX args else[])
def sX:List Expr->List Want
 | []=> []
 |e::s=>gr e++sX s
end
theorem AY: ∀l:List Expr,sX r lit w l=l.flatMap (gr r lit w)
 | []=>rfl
 |e::s=>by rw[sX,Wt,AY s]
def iR(e:Expr):List Want:=if e.kind=4 then e.args.flatMap (gr r lit w) else[]
theorem DZ(e:Expr):gr r lit w e=mL r lit w e++iR r lit w e:=by
 cases e;rw[gr,AY];rfl
end
abbrev TS.add(t:TS)(l:List Want):TS:=⟨t.up,t.ws++l,t.kind⟩
section
variable {nt:NT} {Q:AQ} {k:List KI} {s:AS}
def tS(s:AS)(r:aw)(t:TS)(i u j m:Nat):AS:=match s with|⟨f,h,n⟩=>⟨f,(i,co (TS.cell r u n t.ws.length m))::(u,co (pd t.up))::(n,co (aV 5 t.ws Want.c))::(m,co (pq t.kind))::(i,io)::(u,io)::(j,io)::(m,io)::h,n+1⟩
theorem Su(s:AS)(r:aw)(t:TS)(i u j m:Nat):tS s r t i u j m=⟨s.f,(i,co (TS.cell r u s.nx t.ws.length m))::(u,co (pd t.up))::(s.nx,co (aV 5 t.ws Want.c))::(m,co (pq t.kind))::(i,io)::(u,io)::(j,io)::(m,io)::s.h,s.nx+1⟩:=by cases s;rfl
def tR(s:AS)(r:aw)(t:TS)(i u j m:Nat):AS:=match s with|⟨f,h,n⟩=>⟨f,(i,co (TS.cell r u j t.ws.length m))::(u,co (pd t.up))::(j,co (aV 5 t.ws Want.c))::(m,co (pq t.kind))::(i,io)::(u,io)::(j,io)::(m,io)::h,n⟩
theorem Sv(s:AS)(r:aw)(t:TS)(i u j m:Nat):tR s r t i u j m=⟨s.f,(i,co (TS.cell r u j t.ws.length m))::(u,co (pd t.up))::(j,co (aV 5 t.ws Want.c))::(m,co (pq t.kind))::(i,io)::(u,io)::(j,io)::(m,io)::s.h,s.nx⟩:=by cases s;rfl
theorem GH{o:Oper}{c:Call}{g:FuncId}{args B:List PV}{r:aw}{t C:TS}{A:PV}{i u j m n:Nat}{es:List (List PV)}{s':AS}(hc:bg prog g (.ptr 0 0::args) (t.O r) A (C.H r) 5)(ho:o.op= .call c)(ha:bN s.f c=co (g,.ptr i 0::B))
  (hi:s.h.get i=co (TS.cell r u j n m)) (hu:s.h.get u=co (pd t.up)) (hj:s.h.get j=co (.row 5 es)) (hm:s.h.get m=co (pq t.kind)) (hn:n=t.ws.length) (he:es=t.ws.map fun x=>(Want.c x).map .iv)
  (hlt:[i,u,j,m].all (fun x=>VV x s.nx)=is) (hnd:cA [i,u,j,m]=is) (has:B=args) (hlow:bp 0 args=is) (hr:A.low 0=is)
  (hp:putDst nt o A (tS s r C i u j m)=co s'):OT prog nt o s (fun t=>t=s'):=by
 subst has;subst hn;subst he;have y: ∀σ,c7 σ B=B:=fun σ=>ix σ B hlow;refine lj ho ha hc (eE hnd) (fun j hj=>Vm (Wc.1 hlt j hj)) ?_ ?_ ?_
 .simp only[Vy,VQ,hi,hu,hj,hm,b3];rfl
 .simp only[c7,y];rfl
 .rintro q D n0 ⟨rfl,rfl,rfl⟩;rw[PV.jN _ _ hr];rw[Su]at hp;refine⟨s',?_,rfl⟩;rw[<-hp];simp only[TS.H,aA,nA,Ww,b3];rfl
theorem GB{o:Oper}{c:Call}{g:FuncId}{args B:List PV}{r:aw}{t:TS}{A:PV}{i u j m n:Nat}{es:List (List PV)}{s':AS}(hc:bg prog g (.ptr 0 0::args) (t.O r) A (t.K r) 4)(ho:o.op= .call c)(ha:bN s.f c=co (g,.ptr i 0::B))
  (hi:s.h.get i=co (TS.cell r u j n m)) (hu:s.h.get u=co (pd t.up)) (hj:s.h.get j=co (.row 5 es)) (hm:s.h.get m=co (pq t.kind)) (hn:n=t.ws.length) (he:es=t.ws.map fun x=>(Want.c x).map .iv)
  (hlt:[i,u,j,m].all (fun x=>VV x s.nx)=is) (hnd:cA [i,u,j,m]=is) (has:B=args) (hlow:bp 0 args=is) (hr:A.low 0=is)
  (hp:putDst nt o A (tR s r t i u j m)=co s'):OT prog nt o s (fun t=>t=s'):=by
 subst has;subst hn;subst he;have y: ∀σ,c7 σ B=B:=fun σ=>ix σ B hlow;refine lj ho ha hc (eE hnd) (fun j hj=>Vm (Wc.1 hlt j hj)) ?_ ?_ ?_
 .simp only[Vy,VQ,hi,hu,hj,hm,b3];rfl
 .simp only[c7,y];rfl
 .rintro q C n0 ⟨rfl,rfl,rfl⟩;rw[PV.jN _ _ hr];rw[Sv]at hp;refine⟨s',?_,rfl⟩;rw[<-hp];simp only[TS.K,aA,nA,Ww,b3];rfl
theorem Bq{all rest:List Oper}{o:Oper}{c:Call}{g:FuncId}{args A:List PV}{r:aw}{t B:TS}{y:PV}{i u j m n:Nat}{es:List (List PV)}{s':AS}(hc:bg prog g (.ptr 0 0::args) (t.O r) y (B.H r) 5)(ho:o.op= .call c)(hg:o.guard=io)(ha:bN s.f c=co (g,.ptr i 0::A))
  (hi:s.h.get i=co (TS.cell r u j n m)) (hu:s.h.get u=co (pd t.up)) (hj:s.h.get j=co (.row 5 es)) (hm:s.h.get m=co (pq t.kind)) (hn:n=t.ws.length) (he:es=t.ws.map fun x=>(Want.c x).map .iv)
  (hlt:[i,u,j,m].all (fun x=>VV x s.nx)=is) (hnd:cA [i,u,j,m]=is) (has:A=args) (hlow:bp 0 args=is) (hr:y.low 0=is)
  (hp:putDst nt o y (tS s r B i u j m)=co s') (h:GO prog nt (.ops all rest::k) Q s'):GO prog nt (.ops all (o::rest)::k) Q s:=
 bz hg (GH hc ho ha hi hu hj hm hn he hlt hnd has hlow hr hp) fun t ht=>by subst ht;exact h
theorem Ei{all rest:List Oper}{o:Oper}{c:Call}{g:FuncId}{args A:List PV}{r:aw}{t B:TS}{y:PV}{i u j m n:Nat}{es:List (List PV)}{s':AS}(hc:bg prog g (.ptr 0 0::args) (t.O r) y (B.H r) 5)(h:GO prog nt (.ops all rest::k) Q s')(ho:o.op= .call c:=by exact rfl)(hg:o.guard=io:=by exact rfl)(ha:bN s.f c=co (g,.ptr i 0::A):=by exact rfl)(hi:s.h.get i=co (TS.cell r u j n m):=by exact rfl)(hu:s.h.get u=co (pd t.up):=by exact rfl)(hj:s.h.get j=co (.row 5 es):=by exact rfl)(hm:s.h.get m=co (pq t.kind):=by exact rfl)(hn:n=t.ws.length:=by first|rfl|(rw[Vp];rfl)|simp)(he:es=t.ws.map fun x=>(Want.c x).map .iv:=by first|rfl|(rw[VD];rfl)|(simp only[VD,VF];rfl))(hlt:[i,u,j,m].all (fun x=>VV x s.nx)=is:=by exact rfl)(hnd:cA [i,u,j,m]=is:=by exact rfl)(has:A=args:=by exact rfl)(hlow:bp 0 args=is:=by exact rfl)(hr:y.low 0=is:=by exact rfl)(hp:putDst nt o y (tS s r B i u j m)=co s':=by exact rfl):GO prog nt (.ops all (o::rest)::k) Q s:=Bq (hc:=hc) (ho:=ho) (hg:=hg) (ha:=ha) (hi:=hi) (hu:=hu) (hj:=hj) (hm:=hm) (hn:=hn) (he:=he) (hlt:=hlt) (hnd:=hnd) (has:=has) (hlow:=hlow) (hr:=hr) (hp:=hp) (h:=h)
theorem Q4{all:List Oper}{todo pend:List (Nat×Oper)}{A:Nat}{C B:Prop}{o:Oper}{c:Call}{g:FuncId}{args D:List PV}{r:aw}{t:TS}{y:PV}{i u j m n:Nat}{es:List (List PV)}{s':AS}(hc:bg prog g (.ptr 0 0::args) (t.O r) y (t.K r) 4)
  (hrd:dq todo=[(A,o)]) (ho:o.op= .call c) (ha:bN s.f c=co (g,.ptr i 0::D))
  (hi:s.h.get i=co (TS.cell r u j n m)) (hu:s.h.get u=co (pd t.up)) (hj:s.h.get j=co (.row 5 es)) (hm:s.h.get m=co (pq t.kind)) (hn:n=t.ws.length) (he:es=t.ws.map fun x=>(Want.c x).map .iv)
  (hlt:[i,u,j,m].all (fun x=>VV x s.nx)=is) (hnd:cA [i,u,j,m]=is) (has:D=args) (hlow:bp 0 args=is) (hr:y.low 0=is)
  (hp:putDst nt o y (tR s r t i u j m)=co s')
  (hg:bQ nt all s.f o=co is) (hpb:gC all pend o=is) (hE:mW todo [A]=is)
  (hag:lD pJ nt all s todo pend=co C) (hCA:C) (hag2:cX pJ nt all s' (aX pend o)=co B) (hC2:B)
  (h:GO prog nt (.bR all (todo.filter fun x=>!VP x.1 A) (aX pend o)::k) Q s'):GO prog nt (.bR all todo pend::k) Q s:=
 iC ab hrd hg hpb hE hag hCA (GB hc ho ha hi hu hj hm hn he hlt hnd has hlow hr hp) hag2 hC2 h
theorem oe{all:List Oper}{todo pend:List (Nat×Oper)}{A:Nat}{C B:Prop}{o:Oper}{c:Call}{g:FuncId}{args D:List PV}{r:aw}{t:TS}{y:PV}{i u j m n:Nat}{es:List (List PV)}{s':AS}(hc:bg prog g (.ptr 0 0::args) (t.O r) y (t.K r) 4)(h:GO prog nt (.bR all (todo.filter fun x=>!VP x.1 A) (aX pend o)::k) Q s')(hrd:dq todo=[(A,o)]:=by exact rfl)(ho:o.op= .call c:=by exact rfl)(ha:bN s.f c=co (g,.ptr i 0::D):=by exact rfl)(hi:s.h.get i=co (TS.cell r u j n m):=by exact rfl)(hu:s.h.get u=co (pd t.up):=by exact rfl)(hj:s.h.get j=co (.row 5 es):=by exact rfl)(hm:s.h.get m=co (pq t.kind):=by exact rfl)(hn:n=t.ws.length:=by first|rfl|(rw[Vp];rfl)|simp)(he:es=t.ws.map fun x=>(Want.c x).map .iv:=by first|rfl|(rw[VD];rfl)|(simp only[VD,VF];rfl))(hlt:[i,u,j,m].all (fun x=>VV x s.nx)=is:=by exact rfl)(hnd:cA [i,u,j,m]=is:=by exact rfl)(has:D=args:=by exact rfl)(hlow:bp 0 args=is:=by exact rfl)(hr:y.low 0=is:=by exact rfl)(hp:putDst nt o y (tR s r t i u j m)=co s':=by exact rfl)(hg:bQ nt all s.f o=co is:=by exact rfl)(hpb:gC all pend o=is:=by exact rfl)(hE:mW todo [A]=is:=by exact rfl)(hag:lD pJ nt all s todo pend=co C:=by exact rfl)(hCA:C:=by(repeat' (first|exact ac|exact rfl|exact ae.refl _|exact ae.bk (by assumption)|apply Vo))<;>first|omega|(simp only[Vu];omega)|(simp;done)|(simp;omega))(hag2:cX pJ nt all s' (aX pend o)=co B:=by exact rfl)(hC2:B:=by(repeat' (first|exact ac|exact rfl|exact ae.refl _|exact ae.bk (by assumption)|apply Vo))<;>first|omega|(simp only[Vu];omega)|(simp;done)|(simp;omega)):GO prog nt (.bR all todo pend::k) Q s:=Q4 (hc:=hc) (hrd:=hrd) (ho:=ho) (ha:=ha) (hi:=hi) (hu:=hu) (hj:=hj) (hm:=hm) (hn:=hn) (he:=he) (hlt:=hlt) (hnd:=hnd) (has:=has) (hlow:=hlow) (hr:=hr) (hp:=hp) (hg:=hg) (hpb:=hpb) (hE:=hE) (hag:=hag) (hCA:=hCA) (hag2:=hag2) (hC2:=hC2) (h:=h)
theorem OY{l:List ResultVar}{r0:PV}{e:Exit}{r:aw}{y:TS}{u:PV}{j n:Nat}{es:List (List PV)}(he:e= .normal∨e= .ret)(hr:iL pJ s l=co r0)(hi:s.h.get 0=co (TS.cell r 1 j n 3))(hu:s.h.get 1=co (pd y.up))(hj:s.h.get j=co (.row 5 es))(hm:s.h.get 3=co (pq y.kind))
  (hn:n=y.ws.length) (hes:es=y.ws.map fun x=>(Want.c x).map .iv) (hlt:VV j s.nx=is) (hnd:cA [0,1,j,3]=is) (hns:Xr 4 s.nx=is) (hrl:ae r0 u) (hlow:u.low 0=is) (hlow5:u.low 5=is):Dh pJ l 4 u (y.H r) 5 e s:=by
 subst hn;subst hes;refine ar [j] he hr ⟨rfl,Vm hns,fun x A=>?_,⟨?_,hlow5,ac⟩,⟨⟨_,hi,.of_eq Z⟩,Vm Z,rfl,⟨_,hu,.of_eq Z⟩,Vm Z,ac,⟨_,hj,.of_eq (b3 _).symm⟩,Vm Z,eC _,⟨_,hm,.of_eq Z⟩,Vm Z,ac,ac⟩,?_⟩
 .simp only[Vz]at A;subst A;exact Vm hlt
 .rw[PV.jN _ _ hlow];exact hrl
 .exact eE hnd
theorem wj{l:List ResultVar}{r0:PV}{e:Exit}{r:aw}{y:TS}{u:PV}{j n:Nat}{es:List (List PV)}(he:e= .normal∨e= .ret:=by first|exact .inr Z|exact .inl Z)(hr:iL pJ s l=co r0:=by exact rfl)(hi:s.h.get 0=co (TS.cell r 1 j n 3):=by exact rfl)(hu:s.h.get 1=co (pd y.up):=by exact rfl)(hj:s.h.get j=co (.row 5 es):=by exact rfl)(hm:s.h.get 3=co (pq y.kind):=by exact rfl)(hn:n=y.ws.length:=by first|rfl|(rw[Vp];rfl)|simp)(hes:es=y.ws.map fun x=>(Want.c x).map .iv:=by first|rfl|(rw[VD];rfl)|(simp only[VD,VF];rfl))(hlt:VV j s.nx=is:=by exact rfl)(hnd:cA [0,1,j,3]=is:=by exact rfl)(hns:Xr 4 s.nx=is:=by exact rfl)(hrl:ae r0 u:=by exact .refl _)(hlow:u.low 0=is:=by exact rfl)(hlow5:u.low 5=is:=by exact rfl):Dh pJ l 4 u (y.H r) 5 e s:=OY (he:=he) (hr:=hr) (hi:=hi) (hu:=hu) (hj:=hj) (hm:=hm) (hn:=hn) (hes:=hes) (hlt:=hlt) (hnd:=hnd) (hns:=hns) (hrl:=hrl) (hlow:=hlow) (hlow5:=hlow5)
theorem Ni{n0 i u j m n:Nat}{es:List (List PV)}{Y:AF}{r:aw}{t y:TS}(hw:t=y)(hi:s.h.get i=co (TS.cell r u j n m))(hu:s.h.get u=co (pd t.up))(hj:s.h.get j=co (.row 5 es))(hm:s.h.get m=co (pq t.kind))
  (hn:n=t.ws.length) (hes:es=t.ws.map fun x=>(Want.c x).map .iv) (hlt:VV j s.nx=is) (hnd:cA [i,u,j,m]=is) (h0:[i,u,m].all (fun x=>VV x n0)=is) (hns:Xr n0 s.nx=is) (hf:Gq (n0+1) (sg n0 [j]) s.f Y):
  Wk n0 [j] s ⟨Y,[(i,co (TS.cell r u n0 y.ws.length m)),(u,co (pd y.up)),(n0,co (aV 5 y.ws Want.c)),(m,co (pq y.kind))],n0+1⟩:=by
 subst hw;subst hn;subst hes;simp only[List.all_cons,List.all_nil,Bool.and_true,Wf]at h0;have A:i<n0:=Vm h0.1;have C:u<n0:=Vm h0.2.1;have B:m<n0:=Vm h0.2.2;have s0:sg n0 [j] i=i:=gm A;have D:sg n0 [j] u=u:=gm C;have G:sg n0 [j] m=m:=gm B;have b0:VV n0 n0=jp:=Bool.eq_false_iff.2 fun e=>absurd (Vm e) (by omega);have I:sg n0 [j] n0=j:=by simp[sg,b0]
 have c1:VV u (n0+1)=is:=Wo (by omega);have c3:VV m (n0+1)=is:=Wo (by omega);have cn:VV n0 (n0+1)=is:=Wo (by omega);refine⟨rfl,Vm hns,fun x J=>?_,hf,⟨⟨_,by rw[s0];exact hi,?_⟩,by show i<n0+1;omega,?_,⟨_,by rw[D];exact hu,.of_eq Z⟩,by show u<n0+1;omega,ac,⟨_,by rw[I];exact hj,.of_eq (b3 _).symm⟩,Xa _,eC _,⟨_,by rw[G];exact hm,.of_eq Z⟩,by show m<n0+1;omega,ac,ac⟩,?_⟩
 .simp only[Vz]at J;subst J;exact Vm hlt
 .simp only[AO.bY,c7,PV.bY,D,G,I];exact .of_eq Z
 .simp[AO.low,bp,PV.low,c1,c3,cn]
 .simp only[fg,s0,D,G,I];exact eE hnd
theorem pF{n0 i u j m n:Nat}{es:List (List PV)}{A:AF}{r:aw}{t y:TS}(hw:t=y)(hi:s.h.get i=co (TS.cell r u j n m):=by exact rfl)(hu:s.h.get u=co (pd t.up):=by exact rfl)(hj:s.h.get j=co (.row 5 es):=by exact rfl)(hm:s.h.get m=co (pq t.kind):=by exact rfl)(hn:n=t.ws.length:=by first|rfl|(rw[Vp];rfl)|simp)(hes:es=t.ws.map fun x=>(Want.c x).map .iv:=by first|rfl|(rw[VD];rfl)|(simp only[VD,VF];rfl))(hlt:VV j s.nx=is:=by exact rfl)(hnd:cA [i,u,j,m]=is:=by exact rfl)(h0:[i,u,m].all (fun x=>VV x n0)=is:=by exact rfl)(hns:Xr n0 s.nx=is:=by exact rfl)(hf:Gq (n0+1) (sg n0 [j]) s.f A:=by repeat' (first|exact ac|exact ae.refl _|exact rfl|apply Vo)):Wk n0 [j] s ⟨A,[(i,co (TS.cell r u n0 y.ws.length m)),(u,co (pd y.up)),(n0,co (aV 5 y.ws Want.c)),(m,co (pq y.kind))],n0+1⟩:=Ni (hw:=hw) (hi:=hi) (hu:=hu) (hj:=hj) (hm:=hm) (hn:=hn) (hes:=hes) (hlt:=hlt) (hnd:=hnd) (h0:=h0) (hns:=hns) (hf:=hf)
end
theorem TS.add_add(t:TS)(a b:List Want):(t.add a).add b=t.add (a++b):=by simp[TS.add]
theorem TS.add_nil(t:TS):t.add []=t:=by simp[TS.add]
def Ng(r:aw)(n:Nat):Prop:= ∀(t:TS) (e:Expr) (lit w:Int),e.size<=n->t.ws.length+Expr.aC e.args<=1000000000->bg prog 250 [.ptr 0 0,ag e.c,pI lit,pI w] (t.O r) (.aZ []) ((t.add (iR r lit w e)).H r) 5
def Rw(r:aw)(n:Nat):Prop:= ∀(t:TS) (e:Expr) (lit w:Int),e.size<=n->t.ws.length+e.size<=1000000000->bg prog 224 [.ptr 0 0,ag e.c,pI lit,pI w] (t.O r) (.aZ []) ((t.add (gr r lit w e)).H r) 5
theorem d92(r:aw)(n:Nat)(x:Ng r n):Rw r n:=by
 intro t e lit w hs hb;have y:=e.size_eq;rw[DZ,<-TS.add_add];refine aj ab func224 Z (by decide) ntmps224 Z (by simp) ?_;refine zJ Z Z (fun j=>?_) fun j=>?_
 .have j:e.kind=1:=zT j;have hl:mL r lit w e=[⟨lit,dZ r e.var w,1,0⟩]:=am j;rw[hl];refine gA Z (oe (d136 r t e.var w) ?_);refine gA Z (Bq (x (t.add [⟨lit,dZ r e.var w,1,0⟩]) e lit w hs (by show(t.ws++_).length+_<=_;rw[Vp,VW];omega)) Z Z Z Z Z Z Z (by first|rfl|(rw[Vp];rfl)|simp) (by first|rfl|(rw[VD];rfl)|(simp only[VD,VF];rfl)) Z Z Z Z Z Z ?_);refine gA Z wj
 have j: ¬e.kind=1:=zF j;refine zJ Z Z (fun u=>?_) fun u=>?_
 .have u:e.kind=2:=zT u;have hl:mL r lit w e=[⟨lit,cx.z,1,e.val.kind⟩]:=by unfold mL;rw[be j,am u]
  rw[hl];refine gA Z (Bq (x (t.add [⟨lit,cx.z,1,e.val.kind⟩]) e lit w hs (by show(t.ws++_).length+_<=_;rw[Vp,VW];omega)) Z Z Z Z Z Z Z (by first|rfl|(rw[Vp];rfl)|simp) (by first|rfl|(rw[VD];rfl)|(simp only[VD,VF];rfl)) Z Z Z Z Z Z ?_);refine gA Z wj
 .have u: ¬e.kind=2:=zF u;have hl:mL r lit w e=[]:=by unfold mL;rw[be j,be u]
  rw[hl,TS.add_nil];refine gA Z (Ei (x t e lit w hs (by omega)) ?_);refine gA Z wj
theorem iy(r:aw)(lit w:Int): ∀e:Expr,(gr r lit w e).length<=e.size
 | .mk k v val op args=>by
  rw[gr,Expr.size,Vp];have h1:(mL r lit w (.mk k v val op args)).length<=1:=by
   unfold mL
   repeat' split
   all_goals simp
  have j:(if k=4 then sX r lit w args else[]).length<=Expr.aC args:=by
   split
   .exact numRs_len args
   .simp
  omega
where
 numRs_len: ∀l:List Expr,(sX r lit w l).length<=Expr.aC l
 | []=>by simp[sX]
 |e::s=>by
  have h1:=iy r lit w e;have h2:=numRs_len s;rw[sX,Expr.aC,Vp];omega
theorem HJ(r:aw)(lit w:Int)(l:List Expr)(i:Nat)(h:i<l.length):((l.take i).flatMap (gr r lit w)).length+(l.getD i ci).size<=Expr.aC l:=by
 have h1: ∀l:List Expr,(l.flatMap (gr r lit w)).length<=Expr.aC l:=by
  intro l
  induction l with
  |nil=>simp
  |cons e s ih=>
   have:=iy r lit w e;rw[Wt,Vp,Expr.aC];omega
 have u:=h1 (l.take i);have j: ∀(l:List Expr) (i:Nat),i<l.length->Expr.aC (l.take i)+(l.getD i ci).size<=Expr.aC l:=by
  intro l
  induction l with
  |nil=>intro i h;simp at h
  |cons e s ih=>
   intro i h;cases i with
   |zero=>simp[Expr.aC]
   |succ i=>
    have:=ih i (by simpa using h);simp only[WM,WQ,Expr.aC];omega
 have:=j l i h;omega
theorem d137(r:aw)(n:Nat)(y:Rw r n):Ng r (n+1):=by
 intro t e lit w hs hb;have x:=e.size_eq;refine bg.le (args:=[.ptr 0 0,ag e.c1,pI lit,pI w]) ?_ ⟨.refl _,e.Gl,.refl _,.refl _,ac⟩;have u:=Expr.aJ e.args;refine aj ab func250 Z (by decide) ntmps250 Z (by simp) ?_;refine zE Z Z (fun k=>?_) fun k=>?_
 .have k: ¬e.kind=4:=zF k;have hl:iR r lit w e=[]:=be k;rw[hl,TS.add_nil];refine gA Z wj
 have k:e.kind=4:=zT k;have hl:iR r lit w e=e.args.flatMap (gr r lit w):=am k;rw[hl];refine gA Z ?_
 refine aM 0 e.args.length (VB _) (fun i=>⟨[(0,.ptr 0 0),(2,pI lit),(3,pI w),(14,.iv (a7 7 e.args Expr.c)),(15,pI e.args.length),(16,pI i)],
  [(0,co (TS.cell r 1 5 (t.add ((e.args.take i).flatMap (gr r lit w))).ws.length 3)),(1,co (pd (t.add ((e.args.take i).flatMap (gr r lit w))).up)),(5,co (aV 5 (t.add ((e.args.take i).flatMap (gr r lit w))).ws Want.c)),(3,co (pq (t.add ((e.args.take i).flatMap (gr r lit w))).kind))],6⟩) (fun _=>True) _ ac
  (Ni (t:=t) (TS.add_nil t).symm Z Z Z Z Z Z Z Z Z Z (bi (bi (bi (bi (bi (bi trivial))))))) fun i B _=>?_
 refine zJ Z Z (fun h1=>?_) fun h1=>?_
 .have h1:i<e.args.length:=by simpa using h1
  have j:=bA (f:=gr r lit w) h1;have C:=HJ r lit w e.args i h1;have A:=Expr.bT e.args i h1;refine gA Z (Bq (y (t.add ((e.args.take i).flatMap (gr r lit w))) (e.args.getD i ci) lit w (by omega) (by show(t.ws++_).length+_<=_;rw[Vp];omega)) Z Z Z Z Z Z Z (by first|rfl|(rw[Vp];rfl)|simp) (by first|rfl|(rw[VD];rfl)|(simp only[VD,VF];rfl)) Z Z Z Z Z Z ?_);refine gA Z ⟨h1,ac,_,Ni ((by rw[TS.add_add,j])) Z Z Z Z (by first|rfl|(rw[Vp];rfl)|simp) (by first|rfl|(rw[VD];rfl)|(simp only[VD,VF];rfl)) Z Z Z Z (bi (bi (bi (bi (bi (bi ac))))))⟩
 .have h1:e.args.length<=i:=by simpa using h1
  rw[VI h1];refine gA Z wj
end
theorem r9(r:aw): ∀n,Rw r n∧Ng r n
 |0=>by
  have j:Ng r 0:=fun t e lit w hs=>by have:=e.size_pos;omega
  exact⟨d92 r 0 j,j⟩
 |n+1=>by
  have h1:=d137 r n (r9 r n).1;exact⟨d92 r (n+1) h1,h1⟩
theorem I3(r:aw)(t:TS)(e:Expr)(lit w:Int)(hb:t.ws.length+e.size<=1000000000):bg prog 224 [.ptr 0 0,ag e.c,pI lit,pI w] (t.O r) (.aZ []) ((t.add (gr r lit w e)).H r) 5:=(r9 r e.size).1 t e lit w (VA _) hb
theorem O2(r:aw)(t:TS)(e:Expr)(lit w:Int)(hb:t.ws.length+e.size<=1000000000):bg prog 250 [.ptr 0 0,ag e.c,pI lit,pI w] (t.O r) (.aZ []) ((t.add (iR r lit w e)).H r) 5:=(r9 r e.size).2 t e lit w (VA _) (by have:=e.size_eq;omega)
def typeAt(p:Prog)(a:Atom)(i:Nat):Int:=(gZ p a.rel).types.getD i ci
def mv(p:Prog)(a:Atom)(i:Nat):Bool:=kw (i<(gZ p a.rel).types.length)&&(kw (typeAt p a i=1)||decide (typeAt p a i=2))
def lq(p:Prog)(r:aw)(a:Atom)(lit w:Int)(i:Nat):List Want:=
 if mv p a i=jp then[]
 else if(a.an.getD i ci).kind=1 then[⟨lit,dZ r (a.an.getD i ci).var w,typeAt p a i,0⟩]
 else if(a.an.getD i ci).kind=2 then[⟨lit,cx.z,typeAt p a i,(a.an.getD i ci).val.kind⟩] else[]
def gx(p:Prog)(r:aw)(a:Atom)(lit w:Int):Nat->List Want
 |0=> []
 |i+1=>gx p r a lit w i++lq p r a lit w i
theorem B5(p:Prog)(r:aw)(a:Atom)(lit w:Int)(i:Nat):(lq p r a lit w i).length<=1:=by
 unfold lq
 repeat' split
 all_goals simp
theorem nf(p:Prog)(r:aw)(a:Atom)(lit w:Int): ∀i,(gx p r a lit w i).length<=i
 |0=>VA _
 |i+1=>by
  have h1:=nf p r a lit w i;have j:=B5 p r a lit w i;rw[gx,Vp];omega
set_option maxHeartbeats 1000000 in
theorem d90(p:Prog)(r:aw)(t:TS)(a:Atom)(lit w:Int)(hb:t.ws.length+a.an.length<=1000000000):bg prog 222 [.ptr 0 0,.iv (cO p),ag a.c,pI lit,pI w] (t.O r) (.aZ []) ((t.add (gx p r a lit w a.an.length)).H r) 5:=by
 refine aj ab func222 Z (by decide) ntmps222 Z (by simp) ?_;refine gA Z ?_
 refine aM 0 a.an.length (VB _) (fun i=>⟨[(0,.ptr 0 0),(3,pI lit),(4,pI w),(10,.iv (a7 1 (gZ p a.rel).types kg)),(19,.iv (a7 5 a.an Term.c)),(20,pI a.an.length),(21,pI i)],
  [(0,co (TS.cell r 1 5 (t.add (gx p r a lit w i)).ws.length 3)),(1,co (pd (t.add (gx p r a lit w i)).up)),(5,co (aV 5 (t.add (gx p r a lit w i)).ws Want.c)),(3,co (pq (t.add (gx p r a lit w i)).kind))],6⟩) (fun _=>True) _ ac
  (Ni (t:=t) (TS.add_nil t).symm Z Z Z Z Z Z Z Z Z Z (bi (bi (bi (bi (bi (bi (bi trivial)))))))) fun i A _=>?_
 refine zE Z Z (fun h1=>?_) fun h1=>?_
 .have h1:a.an.length<=i:=by simpa using h1
  have:i=a.an.length:=by omega
  subst this;refine gA Z wj
 have h1:i<a.an.length:=by simpa using h1
 have hl:=nf p r a lit w i;have hs:t.add (gx p r a lit w (i+1))=(t.add (gx p r a lit w i)).add (lq p r a lit w i):=by rw[TS.add_add];rfl
 have y:(t.add (gx p r a lit w i)).ws.length<=t.ws.length+i:=by show(t.ws++_).length<=_;rw[Vp];omega
 generalize t.add (gx p r a lit w i)=t1 at*
 refine zE Z Z (fun g1=>?_) fun g1=>?_
 .have g1: ¬i<(gZ p a.rel).types.length:=by have g:=zT (show kw ((i:Int)>=((gZ p a.rel).types.length:Int))=is from g1);omega
  have hf:mv p a i=jp:=by rw[mv,decide_eq_false g1];rfl
  have x:lq p r a lit w i=[]:=am hf;rw[x,TS.add_nil]at hs;refine gA Z ⟨h1,ac,_,pF (hs.symm)⟩
 have g1:i<(gZ p a.rel).types.length:=by have g:=zF (show kw ((i:Int)>=((gZ p a.rel).types.length:Int))=jp from g1);omega
 refine zJ Z Z (fun g2=>?_) fun g2=>?_
 .have g2: ¬typeAt p a i=1:=by simpa[typeAt]using g2
  refine zJ Z Z (fun g3=>?_) fun g3=>?_
  .have g3: ¬typeAt p a i=2:=by simpa[typeAt]using g3
   have hf:mv p a i=jp:=by rw[mv,decide_eq_true g1,decide_eq_false g2,decide_eq_false g3];rfl
   have x:lq p r a lit w i=[]:=am hf;rw[x,TS.add_nil]at hs;refine gA Z ⟨h1,ac,_,pF (hs.symm)⟩
  .have g3:typeAt p a i=2:=by simpa[typeAt]using g3
   have ht:mv p a i=is:=by rw[mv,decide_eq_true g1,decide_eq_true g3,Bool.or_true];rfl
   have x:lq p r a lit w i=if(a.an.getD i ci).kind=1 then[⟨lit,dZ r (a.an.getD i ci).var w,typeAt p a i,0⟩]
    else if(a.an.getD i ci).kind=2 then[⟨lit,cx.z,typeAt p a i,(a.an.getD i ci).val.kind⟩] else[]:=by unfold lq;rw[ht];exact be (by decide)
   rw[x]at hs;refine zJ Z Z (fun j=>?_) fun j=>?_
   .have j:(a.an.getD i ci).kind=1:=zT j;rw[am j]at hs;refine gA Z (oe (d136 r t1 (a.an.getD i ci).var w) ?_);refine gA Z ⟨h1,ac,_,pF (hs.symm)⟩
   have j: ¬(a.an.getD i ci).kind=1:=zF j;rw[be j]at hs;refine zJ Z Z (fun u=>?_) fun u=>?_
   .have u:(a.an.getD i ci).kind=2:=zT u;rw[am u]at hs;refine gA Z ⟨h1,ac,_,pF (hs.symm)⟩
   .have u: ¬(a.an.getD i ci).kind=2:=zF u;rw[be u,TS.add_nil]at hs;refine gA Z ⟨h1,ac,_,pF (hs.symm)⟩
 .have g2:typeAt p a i=1:=by simpa[typeAt]using g2
  have ht:mv p a i=is:=by rw[mv,decide_eq_true g1,decide_eq_true g2];rfl
  have x:lq p r a lit w i=if(a.an.getD i ci).kind=1 then[⟨lit,dZ r (a.an.getD i ci).var w,typeAt p a i,0⟩]
   else if(a.an.getD i ci).kind=2 then[⟨lit,cx.z,typeAt p a i,(a.an.getD i ci).val.kind⟩] else[]:=by unfold lq;rw[ht];exact be (by decide)
  rw[x]at hs;refine zJ Z Z (fun j=>?_) fun j=>?_
  .have j:(a.an.getD i ci).kind=1:=zT j;rw[am j]at hs;refine gA Z (oe (d136 r t1 (a.an.getD i ci).var w) ?_);refine gA Z ⟨h1,ac,_,pF (hs.symm)⟩
  have j: ¬(a.an.getD i ci).kind=1:=zF j;rw[be j]at hs;refine zJ Z Z (fun u=>?_) fun u=>?_
  .have u:(a.an.getD i ci).kind=2:=zT u;rw[am u]at hs;refine gA Z ⟨h1,ac,_,pF (hs.symm)⟩
  .have u: ¬(a.an.getD i ci).kind=2:=zF u;rw[be u,TS.add_nil]at hs;refine gA Z ⟨h1,ac,_,pF (hs.symm)⟩
def wi(t:TS)(u v:cx):TS:=if u=v then t else⟨cJ (.si .i64) t.up u v,t.ws,t.kind⟩
def tC(y:Expr):Int:=if y.kind=2 then y.val.kind else 1
def gy(r:aw)(lit w:Int)(t:TS)(x y:Expr):TS:=
 if y.kind=1 then wi t (bW t.up (dZ r x.var w)) (bW t.up (dZ r y.var w))
 else t.add (if x.kind=1 then[⟨lit,dZ r x.var w,tC y,0⟩] else if x.kind=2 then[⟨lit,cx.z,tC y,x.val.kind⟩] else[⟨lit,cx.z,tC y,1⟩])
def iX(r:aw)(lit w:Int)(t:TS)(a b:Expr):TS:=
 if b.kind=1 then gy r lit w ((t.add (iR r lit w a)).add (iR r lit w b)) b a else gy r lit w ((t.add (iR r lit w a)).add (iR r lit w b)) a b
theorem Li{u v:cx}(h:(!(kw (u.1=v.1)&&(kw (u.2=v.2)&&is)))=is):u≠v:=by
 rintro rfl;simp at h
theorem Lj{u v:cx}(h:(!(kw (u.1=v.1)&&(kw (u.2=v.2)&&is)))=jp):u=v:=by
 simp at h;exact Prod.ext h.1 h.2
theorem rf(r:aw)(lit w:Int)(e:Expr):(iR r lit w e).length<=e.size:=by
 have h1:=iy r lit w e;rw[DZ,Vp]at h1;omega
set_option maxHeartbeats 1000000 in
theorem d93(r:aw)(t:TS)(a b:Expr)(lit w:Int)(ok:iK t.up)(hb:t.ws.length+a.size+b.size<=1000000000):bg prog 225 [.ptr 0 0,ag a.c,ag b.c,pI lit,pI w] (t.O r) (.aZ []) ((iX r lit w t a b).H r) 5:=by
 have h1:=rf r lit w a;have I:=rf r lit w b;have G:iX r lit w t a b=if b.kind=1 then gy r lit w ((t.add (iR r lit w a)).add (iR r lit w b)) b a else gy r lit w ((t.add (iR r lit w a)).add (iR r lit w b)) a b:=rfl;rw[G];have C:iK ((t.add (iR r lit w a)).add (iR r lit w b)).up:=ok;refine aj ab func225 Z (by decide) ntmps225 Z (by simp) ?_;refine gA Z (Ei (O2 r t a lit w (by omega)) ?_);refine gA Z (Bq (O2 r (t.add (iR r lit w a)) b lit w (by show(t.ws++_).length+_<=_;rw[Vp];omega)) Z Z Z Z Z Z Z (by first|rfl|(rw[Vp];rfl)|simp) (by first|rfl|(rw[VD];rfl)|(simp only[VD,VF];rfl)) Z Z Z Z Z Z ?_);have hl:((t.add (iR r lit w a)).add (iR r lit w b)).ws.length<=t.ws.length+a.size+b.size:=by
  show((t.ws++_)++_).length<=_;rw[Vp,Vp];omega
 generalize(t.add (iR r lit w a)).add (iR r lit w b)=t1 at*
 refine zJ Z Z (fun x=>?_) fun x=>?_
 .have x:b.kind=1:=zT x;rw[am x];refine zJ Z Z (fun u=>?_) fun u=>?_
  .have u:a.kind=2:=zT u;have D: ¬a.kind=1:=by omega
   have hh:tC a=a.val.kind:=am u;have A:gy r lit w t1 b a=t1.add [⟨lit,dZ r b.var w,tC a,0⟩]:=by unfold gy;rw[be D,am x]
   rw[A,hh];refine zJ Z Z (fun y=>?_) fun y=>?_
   .exact absurd (zT y) D
   refine zE Z Z (fun j=>?_) fun j=>?_
   .exact absurd x (zF j)
   refine gA Z (oe (d136 r t1 b.var w) ?_);refine gA Z wj
  .have u: ¬a.kind=2:=zF u;refine zJ Z Z (fun y=>?_) fun y=>?_
   .have y:a.kind=1:=zT y;have A:gy r lit w t1 b a=wi t1 (bW t1.up (dZ r b.var w)) (bW t1.up (dZ r a.var w)):=am y;rw[A];refine gA Z (oe (d136 r t1 b.var w) ?_);refine gA Z (oe (d52 r t1 (dZ r b.var w) C) ?_);refine gA Z (oe (d136 r t1 a.var w) ?_);refine gA Z (oe (d52 r t1 (dZ r a.var w) C) ?_);refine zJ Z Z (fun j=>?_) fun j=>?_
    .have e:wi t1 (bW t1.up (dZ r b.var w)) (bW t1.up (dZ r a.var w))=⟨cJ (.si .i64) t1.up (bW t1.up (dZ r b.var w)) (bW t1.up (dZ r a.var w)),t1.ws,t1.kind⟩:=be (Li j);rw[e];refine fP Z (by repeat' (first|exact ac|exact rfl|exact Uc (cx.c (bW t1.up (dZ r a.var w)))|exact ae.refl _|apply Vo)) (OY (by first|exact .inr Z|exact .inl Z) Z Z Z Z Z Z Z Z Z Z (.refl _) Z Z)
    .have e:wi t1 (bW t1.up (dZ r b.var w)) (bW t1.up (dZ r a.var w))=t1:=am (Lj j);rw[e];refine gA Z wj
   .have D: ¬a.kind=1:=zF y;have hh:tC a=1:=be u;have A:gy r lit w t1 b a=t1.add [⟨lit,dZ r b.var w,tC a,0⟩]:=by unfold gy;rw[be D,am x]
    rw[A,hh];refine zE Z Z (fun j=>?_) fun j=>?_
    .exact absurd x (zF j)
    refine gA Z (oe (d136 r t1 b.var w) ?_);refine gA Z wj
 have x: ¬b.kind=1:=zF x;rw[be x];have A:gy r lit w t1 a b=t1.add (if a.kind=1 then[⟨lit,dZ r a.var w,tC b,0⟩] else if a.kind=2 then[⟨lit,cx.z,tC b,a.val.kind⟩] else[⟨lit,cx.z,tC b,1⟩]):=be x;rw[A];refine zJ Z Z (fun u=>?_) fun u=>?_
 .have u:b.kind=2:=zT u;have hh:tC b=b.val.kind:=am u;rw[hh];refine zJ Z Z (fun y=>?_) fun y=>?_
  .exact absurd (zT y) x
  refine zJ Z Z (fun j=>?_) fun j=>?_
  .rw[am (zT j)];refine gA Z (oe (d136 r t1 a.var w) ?_);refine gA Z wj
  rw[be (zF j)];refine zJ Z Z (fun B=>?_) fun B=>?_
  .rw[am (zT B)];refine gA Z wj
  .rw[be (zF B)];refine gA Z wj
 .have u: ¬b.kind=2:=zF u;have hh:tC b=1:=be u;rw[hh];refine zJ Z Z (fun y=>?_) fun y=>?_
  .exact absurd (zT y) x
  refine zJ Z Z (fun j=>?_) fun j=>?_
  .rw[am (zT j)];refine gA Z (oe (d136 r t1 a.var w) ?_);refine gA Z wj
  rw[be (zF j)];refine zJ Z Z (fun B=>?_) fun B=>?_
  .rw[am (zT B)];refine gA Z wj
  .rw[be (zF B)];refine gA Z wj
def o8(p:Prog)(r:aw)(lit w:Int)(t:TS)(l:Lit):TS:=
 if l.kind=1∨l.kind=2 then t.add (gx p r l.atom lit w l.atom.an.length)
 else if l.kind=3 then(if l.op=1∨l.op=2 then iX r lit w t l.left l.right else(t.add (gr r lit w l.left)).add (gr r lit w l.right)) else t
theorem d91(p:Prog)(r:aw)(t:TS)(l:Lit)(lit w:Int)(ok:iK t.up)(hb:t.ws.length+l.size<=1000000000):bg prog 223 [.ptr 0 0,.iv (cO p),ag l.c,pI lit,pI w] (t.O r) (.aZ []) ((o8 p r lit w t l).H r) 5:=by
 have C:=l.size_eq;have D:=iy r lit w l.left;refine aj ab func223 Z (by decide) ntmps223 Z (by simp) ?_;refine zE Z Z (fun u=>?_) fun u=>?_
 .have u:l.kind=1:=by simpa using u
  have j:o8 p r lit w t l=t.add (gx p r l.atom lit w l.atom.an.length):=am (.inl u);rw[j];refine gA Z (Ei (d90 p r t l.atom lit w (by omega)) ?_);refine gA Z wj
 have u: ¬l.kind=1:=zF u;refine zJ Z Z (fun x=>?_) fun x=>?_
 .have x:l.kind=2:=zT x;have j:o8 p r lit w t l=t.add (gx p r l.atom lit w l.atom.an.length):=am (.inr x);rw[j];refine gA Z (Ei (d90 p r t l.atom lit w (by omega)) ?_);refine gA Z wj
 have x: ¬l.kind=2:=zF x;have j:o8 p r lit w t l=if l.kind=3 then(if l.op=1∨l.op=2 then iX r lit w t l.left l.right else(t.add (gr r lit w l.left)).add (gr r lit w l.right)) else t:=be (by rintro(h|h);exact u h;exact x h);refine zJ Z Z (fun y=>?_) fun y=>?_
 .have y: ¬l.kind=3:=by simpa using y
  rw[be y]at j;rw[j];refine gA Z wj
 have y:l.kind=3:=by simpa using y
 rw[am y]at j;refine zE Z Z (fun A=>?_) fun A=>?_
 .have A:l.op=1:=by simpa using A
  rw[am (.inl A)]at j;rw[j];refine gA Z (Ei (d93 r t l.left l.right lit w ok (by omega)) ?_);refine gA Z wj
 have A: ¬l.op=1:=zF A;refine zJ Z Z (fun B=>?_) fun B=>?_
 .have B:l.op=2:=zT B;rw[am (.inr B)]at j;rw[j];refine gA Z (Ei (d93 r t l.left l.right lit w ok (by omega)) ?_);refine gA Z wj
 .have B: ¬l.op=2:=zF B;rw[be (by rintro(h|h);exact A h;exact B h)]at j;rw[j];refine gA Z (Ei (I3 r t l.left lit w (by omega)) ?_);refine gA Z (Bq (I3 r (t.add (gr r lit w l.left)) l.right lit w (by show(t.ws++_).length+_<=_;rw[Vp];omega)) Z Z Z Z Z Z Z (by first|rfl|(rw[Vp];rfl)|simp) (by first|rfl|(rw[VD];rfl)|(simp only[VD,VF];rfl)) Z Z Z Z Z Z ?_);refine gA Z wj
theorem pZ: ∀(n:Nat) (m:UM) (v:cx),iK m->EP m v<=n->dr (.si .i64) m (bW m v)=jp
 |n,m,v,ok,hn=>by
  cases h:dr (.si .i64) m v with
  |false=>rw[qM m v h];exact h
  |true=>
   obtain⟨h1,j⟩:=nT m v ok h;cases n with
   |zero=>omega
   |succ n=>rw[<-h1];exact pZ n m _ ok (by omega)
theorem AA: ∀(m:UM) (u v:cx),dr (.si .i64) m u=jp->cJ (.si .i64) m u v=m++ [(u,v)]
 | [],_,_,_=>rfl
 |(x,y)::r,u,v,h=>by
  unfold dr at h;split at h
  .cases h
  .rename_i j;show(if x=u then _ else(x,y)::cJ (.si .i64) r u v)=_;rw[be j,AA r u v h];rfl
theorem Bp{m:UM}{u:cx}(h:dr (.si .i64) m u=jp): ∀q∈m,q.1≠u:=by
 induction m with
 |nil=>intro q hq;cases hq
 |cons a r ih=>
  obtain⟨x,y⟩:=a;unfold dr at h;split at h
  .cases h
  .rename_i j;intro q hq;rcases VH.1 hq with rfl|hq
   .exact j
   .exact ih h q hq
theorem wP: ∀{m:UM} {u v:cx},iK m->(∀q∈m,q.1≠u)->(∀q∈m,q.1≠v)->u≠v->iK (m++ [(u,v)])
 | [],u,v,_,_,_,hne=>⟨hne,fun q hq=>(nomatch hq),fun q hq=>(nomatch hq),ac⟩
 |(x,y)::r,u,v,⟨o1,o2,o3,o4⟩,hu,hv,hne=>by
  refine⟨o1,fun q hq=>?_,fun q hq=>?_,wP o4 (fun q hq=>hu q (VE _ hq)) (fun q hq=>hv q (VE _ hq)) hne⟩
  .rcases VM.1 hq with hq|hq
   .exact o2 q hq
   .simp only[Vz]at hq;subst hq;exact fun e=>hu _ VG e.symm
  .rcases VM.1 hq with hq|hq
   .exact o3 q hq
   .simp only[Vz]at hq;subst hq;exact fun e=>hv _ VG e.symm
theorem PQ{t:TS}(ok:iK t.up)(a b:cx):iK (wi t (bW t.up a) (bW t.up b)).up:=by
 unfold wi;split
 .exact ok
 .rename_i j;have h1:=pZ _ t.up a ok (VA _);have u:=pZ _ t.up b ok (VA _);show iK (cJ _ _ _ _);rw[AA _ _ _ h1];exact wP ok (Bp h1) (Bp u) j
theorem yc(r:aw)(lit w:Int){t:TS}(ok:iK t.up)(x y:Expr):iK (gy r lit w t x y).up:=by
 unfold gy;split
 .exact PQ ok _ _
 .exact ok
theorem BV(r:aw)(lit w:Int){t:TS}(ok:iK t.up)(a b:Expr):iK (iX r lit w t a b).up:=by
 unfold iX;split
 .exact yc r lit w (t:=(t.add (iR r lit w a)).add (iR r lit w b)) ok _ _
 .exact yc r lit w (t:=(t.add (iR r lit w a)).add (iR r lit w b)) ok _ _
theorem HZ(p:Prog)(r:aw)(lit w:Int){t:TS}(ok:iK t.up)(l:Lit):iK (o8 p r lit w t l).up:=by
 unfold o8
 repeat' split
 .exact ok
 .exact BV r lit w ok _ _
 .exact ok
 .exact ok
theorem PO(t:TS)(u v:cx):(wi t u v).ws=t.ws:=by unfold wi;split<;>rfl
theorem vW(r:aw)(lit w:Int)(t:TS)(x y:Expr):(gy r lit w t x y).ws.length<=t.ws.length+1:=by
 unfold gy
 repeat' split
 .rw[PO];omega
 all_goals(show(t.ws++_).length<=_;rw[Vp,VW];omega)
theorem yb(r:aw)(lit w:Int)(t:TS)(a b:Expr):(iX r lit w t a b).ws.length<=t.ws.length+a.size+b.size+1:=by
 have h1:=rf r lit w a;have j:=rf r lit w b;have u:((t.add (iR r lit w a)).add (iR r lit w b)).ws.length<=t.ws.length+a.size+b.size:=by
  show((t.ws++_)++_).length<=_;rw[Vp,Vp];omega
 unfold iX;split
 .exact Wr (vW _ _ _ _ _ _) (by omega)
 .exact Wr (vW _ _ _ _ _ _) (by omega)
theorem D4(p:Prog)(r:aw)(lit w:Int)(t:TS)(l:Lit):(o8 p r lit w t l).ws.length<=t.ws.length+l.size:=by
 have j:=l.size_eq;have h1:=nf p r l.atom lit w l.atom.an.length;have u:=yb r lit w t l.left l.right;have x:=iy r lit w l.left;have y:=iy r lit w l.right;unfold o8
 repeat' split
 .show(t.ws++_).length<=_;rw[Vp];omega
 .omega
 .show((t.ws++_)++_).length<=_;rw[Vp,Vp];omega
 .omega
theorem cP{P:Program}{nt:NT}{Q:AQ}{k:List KI}{s t:AS}{c:Code}(L:List Nat)(h0:Wk s.nx L s t)(h:GO P nt (.code c::k) Q t):GO P nt (.code c::k) Q s:=by
 intro M N a w hf;exact AW.then h (h0.fits hf) fun e B C u x s' A j y=>⟨u,x,s',(h0.ext (.refl _ _ _ _ _)).trans A,j,y⟩
theorem Ma:eJ .fh (pd []):=⟨id,fun M N U w j u=>⟨#[],0,u,⟨rfl,by simp,by simp,by simp,by simp⟩,.agg _ _ Z fun j p u=>by
 match j,u with
 |0,u=>cases u;exact .v _
 |1,u=>cases u;exact .v _
 |j+2,u=>simp[cx.c]at u⟩⟩
theorem Mb:eJ .fh (pq []):=⟨id,fun M N U w j u=>⟨#[],0,u,⟨rfl,by simp,by simp,by simp,by simp⟩,fT M⟩⟩
def oZ(s:aq):Expr:= .mk 1 s ⟨0,0,Vx⟩ 0 []
abbrev JM(s:aq):PV:= .agg [pI 1,pS s,pI 0,pI 0,pS Vx,pI 0,.iv (.v (.slice io 0 0))]
theorem yh(s:aq):ae (JM s) (ag (oZ s).c):= .agg ⟨.refl _,.refl _,.refl _,.refl _,.refl _,.refl _,.nil _ _,ac⟩
theorem lG(s:aq):(oZ s).size=1:=rfl
def wh(r:aw)(i:Int)(t:TS)(f:Int)(v:aq)(o:Expr):TS:=
 if f=2 then(t.add (gr r i i o)).add (gr r i i (oZ v)) else if f=1 then t.add (gr r i i (oZ v)) else iX r i i t (oZ v) o
def qj(p:Prog)(r:aw)(i:Int)(t:TS)(j:List Lit):Nat->TS
 |0=>t
 |k+1=>o8 p r i i (qj p r i t j k) (j.getD k ci)
def stepT(p:Prog)(r:aw)(i:Int)(t:TS)(l:Lit):TS:=
 if l.kind=4 then qj p r i (wh r i t l.dP l.bE l.jT) l.ay l.ay.length else o8 p r i (-1) t l
def TS.o:TS:=⟨[],[],[]⟩
def eN(p:Prog)(r:aw):Nat->TS
 |0=>TS.o.add (gx p r r.head (-1) (-1) r.head.an.length)
 |k+1=>stepT p r k (eN p r k) (r.body.getD k ci)
def cI(j:UM)(m:KM)(w:Want):KM:=if w.has=0∧dQ (.si .i64) m (bW j w.at_) 0=0 then cJ (.si .i64) m (bW j w.at_) w.kind else m
def nL(p:Prog)(r:aw):TS:=⟨(eN p r r.body.length).up,(eN p r r.body.length).ws,(eN p r r.body.length).ws.foldl (cI (eN p r r.body.length).up) []⟩
theorem Gt(r:aw)(i:Int){t:TS}(ok:iK t.up)(f:Int)(v:aq)(o:Expr):iK (wh r i t f v o).up:=by
 unfold wh
 repeat' split
 .exact ok
 .exact ok
 .exact BV r i i ok _ _
theorem Bm(p:Prog)(r:aw)(i:Int){t:TS}(ok:iK t.up)(j:List Lit): ∀k,iK (qj p r i t j k).up
 |0=>ok
 |k+1=>HZ p r i i (Bm p r i ok j k) _
theorem Lf(p:Prog)(r:aw)(i:Int){t:TS}(ok:iK t.up)(l:Lit):iK (stepT p r i t l).up:=by
 unfold stepT;split
 .exact Bm p r i (Gt r i ok _ _ _) _ _
 .exact HZ p r i (-1) ok l
theorem y9(p:Prog)(r:aw): ∀k,iK (eN p r k).up
 |0=>trivial
 |k+1=>Lf p r k (y9 p r k) _
theorem vV(r:aw)(lit w:Int)(t:TS)(a b:Expr):(iX r lit w t a b).kind=t.kind:=by
 have h1: ∀(t:TS) u v,(wi t u v).kind=t.kind:=fun t u v=>by unfold wi;split<;>rfl
 have j: ∀(t:TS) x y,(gy r lit w t x y).kind=t.kind:=fun t x y=>by
  unfold gy;split
  .exact h1 _ _ _
  .rfl
 unfold iX;split<;>exact j _ _ _
theorem Bb(p:Prog)(r:aw)(lit w:Int)(t:TS)(l:Lit):(o8 p r lit w t l).kind=t.kind:=by
 unfold o8
 repeat' split
 .rfl
 .exact vV r lit w t _ _
 .rfl
 .rfl
theorem Ef(p:Prog)(r:aw)(i:Int)(t:TS)(j:List Lit): ∀k,(qj p r i t j k).kind=t.kind
 |0=>rfl
 |k+1=>by rw[qj,Bb,Ef p r i t j k]
theorem EW(p:Prog)(r:aw)(i:Int)(t:TS)(l:Lit):(stepT p r i t l).kind=t.kind:=by
 unfold stepT;split
 .rw[Ef];unfold wh
  repeat' split
  .rfl
  .rfl
  .exact vV r i i t _ _
 .exact Bb p r i (-1) t l
theorem x3(p:Prog)(r:aw): ∀k,(eN p r k).kind=[]
 |0=>rfl
 |k+1=>by rw[eN,EW,x3 p r k]
theorem Dq(r:aw)(i:Int)(t:TS)(f:Int)(v:aq)(o:Expr):(wh r i t f v o).ws.length<=t.ws.length+o.size+2:=by
 have h1:=iy r i i o;have j:=iy r i i (oZ v);have u:=yb r i i t (oZ v) o;rw[lG]at j u;unfold wh
 repeat' split
 .show((t.ws++_)++_).length<=_;rw[Vp,Vp];omega
 .show(t.ws++_).length<=_;rw[Vp];omega
 .omega
theorem je: ∀(l:List Lit) (i:Nat),i<l.length->Lit.aC (l.take i)+(l.getD i ci).size<=Lit.aC l
 | [],i,h=>by simp at h
 |s::r,0,_=>by simp[Lit.aC]
 |s::r,i+1,h=>by
  have:=je r i (by simpa using h);simp only[WM,WQ,Lit.aC];omega
theorem Lit.uB(l:List Lit)(i:Nat)(h:i<l.length):Lit.aC (l.take (i+1))=Lit.aC (l.take i)+(l.getD i ci).size:=by
 rw[bS h];have: ∀(a:List Lit) (b:Lit),Lit.aC (a++ [b])=Lit.aC a+b.size:=by
  intro a b
  induction a with
  |nil=>simp[Lit.aC]
  |cons x r ih=>simp only[VT,Lit.aC,ih];omega
 exact this _ _
theorem vh(p:Prog)(r:aw)(i:Int)(t:TS)(j:List Lit): ∀k,k<=j.length->(qj p r i t j k).ws.length<=t.ws.length+Lit.aC (j.take k)
 |0,_=>by simp[qj,Lit.aC]
 |k+1,h=>by
  have h1:=vh p r i t j k (by omega);have u:=D4 p r i i (qj p r i t j k) (j.getD k ci);rw[qj,Lit.uB j k (by omega)];omega
theorem GS(p:Prog)(r:aw)(i:Int)(t:TS)(l:Lit):(stepT p r i t l).ws.length<=t.ws.length+l.size:=by
 have j:=l.size_eq;unfold stepT;split
 .have h1:=vh p r i (wh r i t l.dP l.bE l.jT) l.ay l.ay.length (VA _);have u:=Dq r i t l.dP l.bE l.jT;rw[WG]at h1;omega
 .exact D4 p r i (-1) t l
theorem vL(p:Prog)(r:aw): ∀k,k<=r.body.length->(eN p r k).ws.length<=r.head.an.length+Lit.aC (r.body.take k)
 |0,_=>by
  have:=nf p r r.head (-1) (-1) r.head.an.length;show([]++_).length<=_;simp only[VU];omega
 |k+1,h=>by
  have h1:=vL p r k (by omega);have j:=GS p r k (eN p r k) (r.body.getD k ci);rw[eN,Lit.uB r.body k (by omega)];omega
theorem UR(r:aw)(j:UM)(u:KM)(W:IV)(v0:cx)(ok:iK j):bg prog 226 [.ptr 0 0,ag v0.c] [.cells [.iv (cD r),.mp 1,.iv W,.mp 2],pd j,pq u] (ag (bW j v0).c) [(0,co (.cells [.iv (cD r),.mp 1,.iv W,.mp 2])),(1,co (pd j)),(2,co (pq u))] 3:=by
 refine aj ab func226 Z (by decide) ntmps226 Z (by simp) ?_;refine gA Z ?_
 refine ic (σ:={v:cx//bW j v=bW j v0}) (fun v=>⟨[(0,.ptr 0 0),(3,.ptr 3 0),(4,.ptr 4 0)],
  [(0,co (.cells [.iv (cD r),.mp 1,.iv W,.mp 2])),(1,co (pd j)),(2,co (pq u)),(3,co (.cells [pS v.1.1,pI v.1.2])),(4,co (.cells [pS ⟨#[]⟩,pI 0]))],5⟩) (fun v=>EP j v.1) ⟨v0,rfl⟩ []
  (zW (zO (zC (zC ⟨⟨_,rfl,.of_eq Z⟩,Vm Z,rfl,⟨_,rfl,.of_eq Z⟩,Vm Z,rfl,ac⟩)))) fun v=>?_
 obtain⟨v,y⟩:=v;refine zJ Z Z (fun g=>?_) fun g=>?_
 .have h:dr (.si .i64) j v=jp:=by simpa using g
  have e:bW j v0=v:=by rw[<-y];exact qM j v h
  refine gA Z (zD [] Z (zM ⟨.of_eq (congrArg (fun x:cx=>ag x.c) e.symm),rfl,ac⟩ (zO (zC (zC ac)))))
 .have h:dr (.si .i64) j v=is:=by simpa using g
  obtain⟨h1,A⟩:=nT j v ok h;refine gA Z ⟨⟨dQ (.si .i64) j v cx.z,h1.trans y⟩,[],A,zW (zO (zC (zC ⟨⟨_,rfl,.of_eq Z⟩,Vm Z,rfl,⟨_,rfl,.of_eq Z⟩,Vm Z,rfl,ac⟩)))⟩
set_option maxHeartbeats 2000000 in
theorem c49(p:Prog)(r:aw)(hb:r.size<=100000000):Pure prog 187 [.iv (cO p),.iv (cD r)] (.iv (PJ r (nL p r))):=by
 unfold aw.size at hb;have Y:=Lit.aJ r.body;have g0:r.body.length<=Lit.aC r.body:=Y;refine ah ab func187 Z (by decide) ntmps187 Z (by simp) Z ?_;refine gM 14 Z (km 2 2 5 Z Z ?_);refine cP [] (t:=⟨[(0,.iv (cO p)),(1,.iv (cD r)),(5,.ptr 2 0)],[(2,co (TS.cell r 0 3 TS.o.ws.length 1)),(0,co (pd TS.o.up)),(3,co (aV 5 TS.o.ws Want.c)),(1,co (pq TS.o.kind))],4⟩)
  (zW ⟨⟨_,rfl,.of_eq Z⟩,Vm Z,rfl,⟨_,rfl,Ma⟩,Vm Z,ac,⟨_,rfl,.of_eq Z⟩,Vm Z,eC _,⟨_,rfl,Mb⟩,Vm Z,ac,ac⟩) ?_
 refine gA Z (Bq (d90 p r TS.o r.head (-1) (-1) (by show 0+_<=_;omega)) Z Z Z Z Z Z Z (by first|rfl|(rw[Vp];rfl)|simp) (by first|rfl|(rw[VD];rfl)|(simp only[VD,VF];rfl)) Z Z Z Z Z Z ?_);refine gA Z ?_
 refine aM 0 r.body.length (VB _) (fun i=>⟨[(0,.iv (cO p)),(1,.iv (cD r)),(5,.ptr 2 0),(31,.iv (lits r.body)),(32,pI r.body.length),(33,pI i)],
  [(2,co (TS.cell r 0 5 (eN p r i).ws.length 1)),(0,co (pd (eN p r i).up)),(5,co (aV 5 (eN p r i).ws Want.c)),(1,co (pq (eN p r i).kind))],6⟩) (fun _=>True) _ ac
  (Ni (t:=eN p r 0) Z Z Z Z Z Z Z Z Z Z Z (bi (bi (bi (bi (bi (bi trivial))))))) fun i hi _=>?_
 have d0:=vL p r i hi;have hok:=y9 p r i;refine zJ Z Z (fun h1=>?_) fun h1=>?_
 .have h1:i<r.body.length:=by simpa using h1
  have j0:=je r.body i h1;have hs:eN p r (i+1)=stepT p r i (eN p r i) (r.body.getD i ci):=rfl;generalize eN p r i=t1 at*
  have k0:=(r.body.getD i ci).size_eq;refine zJ Z Z (fun A=>?_) fun A=>?_
  .have A: ¬(r.body.getD i ci).kind=4:=by have g:(!kw ((r.body.getD i ci).kind=4))=is:=A;simpa only[WA,decide_eq_false_iff_not]using g
   have hS:stepT p r i t1 (r.body.getD i ci)=o8 p r i (-1) t1 (r.body.getD i ci):=be A;rw[hS]at hs;refine gA Z (Ei (d91 p r t1 (r.body.getD i ci) i (-1) hok (by omega)) ?_);refine gA Z ⟨h1,ac,_,pF (hs.symm)⟩
  have A:(r.body.getD i ci).kind=4:=by have g:(!kw ((r.body.getD i ci).kind=4))=jp:=A;simpa only[Xf,decide_eq_true_eq]using g
  have hS:stepT p r i t1 (r.body.getD i ci)=qj p r i (wh r i t1 (r.body.getD i ci).dP (r.body.getD i ci).bE (r.body.getD i ci).jT) (r.body.getD i ci).ay (r.body.getD i ci).ay.length:=am A;rw[hS]at hs;have I:wh r i t1 (r.body.getD i ci).dP (r.body.getD i ci).bE (r.body.getD i ci).jT=if(r.body.getD i ci).dP=2 then(t1.add (gr r i i (r.body.getD i ci).jT)).add (gr r i i (oZ (r.body.getD i ci).bE)) else if(r.body.getD i ci).dP=1 then t1.add (gr r i i (oZ (r.body.getD i ci).bE)) else iX r i i t1 (oZ (r.body.getD i ci).bE) (r.body.getD i ci).jT:=rfl;have y:=Gt r i hok (r.body.getD i ci).dP (r.body.getD i ci).bE (r.body.getD i ci).jT;have f0:=Dq r i t1 (r.body.getD i ci).dP (r.body.getD i ci).bE (r.body.getD i ci).jT;have a0:=Lit.aJ (r.body.getD i ci).ay;have m0:=lG (r.body.getD i ci).bE;have i0:=iy r i i (r.body.getD i ci).jT;generalize wh r i t1 (r.body.getD i ci).dP (r.body.getD i ci).bE (r.body.getD i ci).jT=V at*
  refine zJ Z Z (fun f2=>?_) fun f2=>?_
  .have f2:(r.body.getD i ci).dP=2:=zT f2;have G:V=(t1.add (gr r i i (r.body.getD i ci).jT)).add (gr r i i (oZ (r.body.getD i ci).bE)):=by rw[I,am f2]
   refine gA Z (Ei (I3 r t1 (r.body.getD i ci).jT i i (by omega)) ?_);refine gA Z (Bq (bg.le (aa:=[.ptr 0 0,JM (r.body.getD i ci).bE,pI i,pI i]) (I3 r (t1.add (gr r i i (r.body.getD i ci).jT)) (oZ (r.body.getD i ci).bE) i i (by show(t1.ws++_).length+_<=_;rw[Vp,lG];omega)) ⟨.refl _,yh _,.refl _,.refl _,ac⟩) Z Z Z Z Z Z Z (by first|rfl|(rw[Vp];rfl)|simp) (by first|rfl|(rw[VD];rfl)|(simp only[VD,VF];rfl)) Z Z Z Z Z Z ?_);refine gA Z ?_;refine aM 0 (r.body.getD i ci).ay.length (VB _) (fun k=>⟨[(0,.iv (cO p)),(1,.iv (cD r)),(5,.ptr 2 0),(6,pI i),(31,.iv (lits r.body)),(32,pI r.body.length),(33,pI i),(79,.iv (lits (r.body.getD i ci).ay)),(80,pI (r.body.getD i ci).ay.length),(81,pI k)],[(2,co (TS.cell r 0 10 (qj p r i V (r.body.getD i ci).ay k).ws.length 1)),(0,co (pd (qj p r i V (r.body.getD i ci).ay k).up)),(10,co (aV 5 (qj p r i V (r.body.getD i ci).ay k).ws Want.c)),(1,co (pq (qj p r i V (r.body.getD i ci).ay k).kind))],11⟩) (fun _=>True) _ ac
    (Ni G.symm Z Z Z Z Z Z Z Z Z Z (bi (bi (bi (bi (bi (bi (bi ⟨.iv (mJ _),rfl,bi (bi trivial)⟩)))))))) fun k hk _=>?_
   have B:=vh p r i V (r.body.getD i ci).ay k hk;have u:=Bm p r i y (r.body.getD i ci).ay k;have C:qj p r i V (r.body.getD i ci).ay (k+1)=o8 p r i i (qj p r i V (r.body.getD i ci).ay k) ((r.body.getD i ci).ay.getD k ci):=rfl;refine zJ Z Z (fun j=>?_) fun j=>?_
   .have j:k<(r.body.getD i ci).ay.length:=zN j;have D:=je (r.body.getD i ci).ay k j;refine gA Z (Ei (d91 p r (qj p r i V (r.body.getD i ci).ay k) ((r.body.getD i ci).ay.getD k ci) i i u (by omega)) ?_);refine gA Z ⟨j,ac,_,pF (rfl)⟩
   .have j:(r.body.getD i ci).ay.length<=k:=zG j;have x:k=(r.body.getD i ci).ay.length:=by omega
    subst x;refine gA Z ⟨h1,ac,_,pF (hs.symm)⟩
  have f2: ¬(r.body.getD i ci).dP=2:=zF f2;rw[be f2]at I;refine zJ Z Z (fun f1=>?_) fun f1=>?_
  .have f1:(r.body.getD i ci).dP=1:=zT f1;have G:V=t1.add (gr r i i (oZ (r.body.getD i ci).bE)):=by rw[I,am f1]
   refine gA Z (Ei (bg.le (aa:=[.ptr 0 0,JM (r.body.getD i ci).bE,pI i,pI i]) (I3 r t1 (oZ (r.body.getD i ci).bE) i i (by rw[lG];omega)) ⟨.refl _,yh _,.refl _,.refl _,ac⟩) ?_);refine gA Z ?_;refine aM 0 (r.body.getD i ci).ay.length (VB _) (fun k=>⟨[(0,.iv (cO p)),(1,.iv (cD r)),(5,.ptr 2 0),(6,pI i),(31,.iv (lits r.body)),(32,pI r.body.length),(33,pI i),(79,.iv (lits (r.body.getD i ci).ay)),(80,pI (r.body.getD i ci).ay.length),(81,pI k)],[(2,co (TS.cell r 0 9 (qj p r i V (r.body.getD i ci).ay k).ws.length 1)),(0,co (pd (qj p r i V (r.body.getD i ci).ay k).up)),(9,co (aV 5 (qj p r i V (r.body.getD i ci).ay k).ws Want.c)),(1,co (pq (qj p r i V (r.body.getD i ci).ay k).kind))],10⟩) (fun _=>True) _ ac
    (Ni G.symm Z Z Z Z Z Z Z Z Z Z (bi (bi (bi (bi (bi (bi (bi ⟨.iv (mJ _),rfl,bi (bi trivial)⟩)))))))) fun k hk _=>?_
   have B:=vh p r i V (r.body.getD i ci).ay k hk;have u:=Bm p r i y (r.body.getD i ci).ay k;have C:qj p r i V (r.body.getD i ci).ay (k+1)=o8 p r i i (qj p r i V (r.body.getD i ci).ay k) ((r.body.getD i ci).ay.getD k ci):=rfl;refine zJ Z Z (fun j=>?_) fun j=>?_
   .have j:k<(r.body.getD i ci).ay.length:=zN j;have D:=je (r.body.getD i ci).ay k j;refine gA Z (Ei (d91 p r (qj p r i V (r.body.getD i ci).ay k) ((r.body.getD i ci).ay.getD k ci) i i u (by omega)) ?_);refine gA Z ⟨j,ac,_,pF (rfl)⟩
   .have j:(r.body.getD i ci).ay.length<=k:=zG j;have x:k=(r.body.getD i ci).ay.length:=by omega
    subst x;refine gA Z ⟨h1,ac,_,pF (hs.symm)⟩
  .have f1: ¬(r.body.getD i ci).dP=1:=zF f1;have G:V=iX r i i t1 (oZ (r.body.getD i ci).bE) (r.body.getD i ci).jT:=by rw[I,be f1]
   refine gA Z (Ei (bg.le (aa:=[.ptr 0 0,JM (r.body.getD i ci).bE,ag (r.body.getD i ci).jT.c,pI i,pI i]) (d93 r t1 (oZ (r.body.getD i ci).bE) (r.body.getD i ci).jT i i hok (by rw[lG];omega)) ⟨.refl _,yh _,.refl _,.refl _,.refl _,ac⟩) ?_);refine gA Z ?_;refine aM 0 (r.body.getD i ci).ay.length (VB _) (fun k=>⟨[(0,.iv (cO p)),(1,.iv (cD r)),(5,.ptr 2 0),(6,pI i),(31,.iv (lits r.body)),(32,pI r.body.length),(33,pI i),(79,.iv (lits (r.body.getD i ci).ay)),(80,pI (r.body.getD i ci).ay.length),(81,pI k)],[(2,co (TS.cell r 0 9 (qj p r i V (r.body.getD i ci).ay k).ws.length 1)),(0,co (pd (qj p r i V (r.body.getD i ci).ay k).up)),(9,co (aV 5 (qj p r i V (r.body.getD i ci).ay k).ws Want.c)),(1,co (pq (qj p r i V (r.body.getD i ci).ay k).kind))],10⟩) (fun _=>True) _ ac
    (Ni G.symm Z Z Z Z Z Z Z Z Z Z (bi (bi (bi (bi (bi (bi (bi ⟨.iv (mJ _),rfl,bi (bi trivial)⟩)))))))) fun k hk _=>?_
   have B:=vh p r i V (r.body.getD i ci).ay k hk;have u:=Bm p r i y (r.body.getD i ci).ay k;have C:qj p r i V (r.body.getD i ci).ay (k+1)=o8 p r i i (qj p r i V (r.body.getD i ci).ay k) ((r.body.getD i ci).ay.getD k ci):=rfl;refine zJ Z Z (fun j=>?_) fun j=>?_
   .have j:k<(r.body.getD i ci).ay.length:=zN j;have D:=je (r.body.getD i ci).ay k j;refine gA Z (Ei (d91 p r (qj p r i V (r.body.getD i ci).ay k) ((r.body.getD i ci).ay.getD k ci) i i u (by omega)) ?_);refine gA Z ⟨j,ac,_,pF (rfl)⟩
   .have j:(r.body.getD i ci).ay.length<=k:=zG j;have x:k=(r.body.getD i ci).ay.length:=by omega
    subst x;refine gA Z ⟨h1,ac,_,pF (hs.symm)⟩
 .have h1:r.body.length<=i:=by simpa using h1
  have b0:i=r.body.length:=by omega
  subst b0;have hT:nL p r=⟨(eN p r r.body.length).up,(eN p r r.body.length).ws,(eN p r r.body.length).ws.foldl (cI (eN p r r.body.length).up) []⟩:=rfl;rw[hT];rw[WG]at d0;have c0:(eN p r r.body.length).kind=[]:=x3 p r _;generalize eN p r r.body.length=t1 at*
  have J:t1.kind=(t1.ws.take 0).foldl (cI t1.up) []:=c0;refine gA Z ?_;refine jS 5 (fun k=>Want.c (t1.ws.getD k ci)) Z (cQ Z) (by simp[AF.lO,PV.ba,mj]) ⟨(by simp[AO.lO,a8,PV.ba]),ac,fG _ _ _ _ _ _,ac,ac⟩ ?_
  refine aM 0 t1.ws.length (VB _) (fun i=>⟨[(5,.ptr 2 0),(96,.iv (a7 5 t1.ws Want.c)),(97,pI t1.ws.length),(98,pI i)],
   [(2,co (.cells [.iv (cD r),.mp 0,.iv (a7 5 t1.ws Want.c),.mp 1])),(0,co (pd t1.up)),(1,co (pq ((t1.ws.take i).foldl (cI t1.up) [])))],6⟩) (fun _=>True) [] ac
   (zM (bi ⟨.bK Z (fun k _=>by rw[VL]),rfl,bi (bi trivial)⟩) ⟨⟨_,rfl,.cells ⟨.refl _,.refl _,.bK Z (fun k _=>by rw[VL]),.refl _,ac⟩⟩,Vm Z,rfl,zC (hM Z J Z trivial)⟩) fun i hi _=>?_
  refine zJ Z Z (fun j=>?_) fun j=>?_
  .have j:i<t1.ws.length:=zN j;have hf:=ie (g:=cI t1.up) (b:=[]) j;refine gA Z (zq [2,0,1] (UR r t1.up ((t1.ws.take i).foldl (cI t1.up) []) (a7 5 t1.ws Want.c) (t1.ws.getD i ci).at_ hok) ?_);refine zJ Z Z (fun g1=>?_) fun g1=>?_
   .have g1:(t1.ws.getD i ci).has=0:=zT g1;refine zJ Z Z (fun g2=>?_) fun g2=>?_
    .have g2:dQ (.si .i64) ((t1.ws.take i).foldl (cI t1.up) []) (bW t1.up (t1.ws.getD i ci).at_) 0=0:=zT g2;have hk:cI t1.up ((t1.ws.take i).foldl (cI t1.up) []) (t1.ws.getD i ci)=cJ (.si .i64) ((t1.ws.take i).foldl (cI t1.up) []) (bW t1.up (t1.ws.getD i ci).at_) (t1.ws.getD i ci).kind:=am ⟨g1,g2⟩;rw[hk]at hf;refine gA Z ⟨j,ac,[],zW (zO (zC (hM Z (by first|exact hf.symm|(rw[hf];rfl)) Z ac)))⟩
    .have g2: ¬dQ (.si .i64) ((t1.ws.take i).foldl (cI t1.up) []) (bW t1.up (t1.ws.getD i ci).at_) 0=0:=zF g2;have hk:cI t1.up ((t1.ws.take i).foldl (cI t1.up) []) (t1.ws.getD i ci)=(t1.ws.take i).foldl (cI t1.up) []:=be fun h=>g2 h.2;rw[hk]at hf;refine gA Z ⟨j,ac,[],zW (zO (zC (hM Z (by first|exact hf.symm|(rw[hf];rfl)) Z ac)))⟩
   .have g1: ¬(t1.ws.getD i ci).has=0:=zF g1;have hk:cI t1.up ((t1.ws.take i).foldl (cI t1.up) []) (t1.ws.getD i ci)=(t1.ws.take i).foldl (cI t1.up) []:=be fun h=>g1 h.1;rw[hk]at hf;refine gA Z ⟨j,ac,[],zW (zO (zC (hM Z (by first|exact hf.symm|(rw[hf];rfl)) Z ac)))⟩
  .have j:t1.ws.length<=i:=zG j;have e0:t1.ws.take i=t1.ws:=VI j;refine fP Z ac (gj (.inr Z) Z (.map 0 Z (.map 1 Z (.cells 2 _ Z (show _=List.map PV.iv [cD r,upI t1.up,a7 5 t1.ws Want.c,kdI (t1.ws.foldl (cI t1.up) [])] by rw[e0];rfl) (.done (.of_eq Z))))))
def uf(a:Atom):Bool:=(il WS.o a).bad
def sd(l:Lit):Bool:=(dw l.size l WS.o).bad
def um(l:Lit):Bool:=kw (l.kind=4)&&kw ((l.ay.length:Int)>12)
def iO(n:Nat):List Int:=(V0 (n+1)).map fun k:Nat=>(k:Int)-1
theorem sc(n:Nat):(iO n).length=n+1:=by simp[iO]
theorem xw(n k:Nat)(h:k<n+1):(iO n).getD k ci=(k:Int)-1:=by simp[iO,h]
def C5(f:Int->Bool)(n:Nat):Option Int:=(iO n).find? f
abbrev gl:=Int×Pos
def gl.c(d:gl):List IV:=[iI d.1,iI d.2.line,iI d.2.JI]
def ob(r:aw)(e:Int)(f:Int->Bool)(k:gl):gl:=match C5 f r.body.length with
 |some lit=>(e,r6 r lit)
 |none=>k
def yP(p:Prog)(r:aw):gl:=
 ob r 61 (fun lit=>(fq r lit).any fun x=>vY p x)<|ob r 62 (fun lit=>(fq r lit).any fun x=>ze p x)<|ob r 65 (my r)<|ob r 63 (rK (nL p r))<|ob r 64 (lv r) (0,⟨0,0⟩)
def w7(p:Prog)(r:aw)(n:Int):gl:=
 if uf r.head=is then(1,r.at_) else match r.body.find? sd with
 |some l=>(1,l.at)
 |none=>if n>256∨(r.body.length:Int)>12 then(66,r.at_) else if(GZ r:Int)>24 then(66,r.at_) else match r.body.find? um with
  |some l=>(66,l.at)
  |none=>yP p r
def aw.fit(r:aw):Prop:=r.size<=10000000∧r.head.ts<=900000000∧ ∀l∈r.body,l.ts<=900000000
theorem l3{α:Type}{p:α->Bool}{l:List α}(h:l.any p=jp):l.find? p=io:=by
 rw[Xy];intro x j;have:=Wm.1 h x j;simpa using this
theorem oj{α:Type}[Inhabited α]{p:α->Bool}{l:List α}{i:Nat}(h:(l.take i).any p=jp)(hi:i<l.length)(hp:p (l.getD i ci)=is):l.find? p=co (l.getD i ci):=by
 have u:l.getD i ci=l[i]:=by simp[hi]
 rw[u]at hp ⊢;rw[List.find?_eq_some_iff_getElem];refine⟨hp,i,hi,rfl,fun j x=>?_⟩;have:=Wm.1 h l[j] (List.mem_iff_getElem?.2 ⟨j,by rw[V8,am x,Vt (by omega)]⟩);simpa using this
def jl(p:Prog)(r:aw):List (List PV):=[[pI 61,.cm (.func 179) [] [.ptr 1 0,.ptr 0 0]],[pI 62,.cm (.func 183) [] [.ptr 1 0,.ptr 0 0]],[pI 65,.cm (.func 185) [] [.ptr 1 0]],[pI 63,.cm (.func 188) [.iv (PJ r (nL p r))] []],[pI 64,.cm (.func 189) [.iv (cD r)] []]]
theorem cB(p:Prog)(r:aw)(n:Nat)(h:VV 1 n=is):(AO.row 2 (jl p r)).low n:=by
 have j:VV 0 n=is:=Wo (by have:=Vm h;omega);intro k e hk
 match k,hk with
 |0,hk=>cases hk;simp[bp,PV.low,h,j]
 |1,hk=>cases hk;simp[bp,PV.low,h,j]
 |2,hk=>cases hk;simp[bp,PV.low,h,j]
 |3,hk=>cases hk;simp[bp,PV.low,h,j]
 |4,hk=>cases hk;simp[bp,PV.low,h,j]
 |k+5,hk=>simp[jl]at hk
theorem n9{r:aw}{e:Int}{f:Int->Bool}{k:gl}{i:Nat}(j:((iO r.body.length).take i).any f=jp)(hi:i<r.body.length+1)(h:f ((i:Int)-1)=is):ob r e f k=(e,r6 r ((i:Int)-1)):=by
 have h1:=xw r.body.length i hi;have:=oj j (by rw[sc];exact hi) (by rw[h1];exact h);rw[h1]at this;rw[ob,C5,this]
theorem lU{r:aw}{e:Int}{f:Int->Bool}{k:gl}{i:Nat}(j:((iO r.body.length).take i).any f=jp)(hi:r.body.length+1<=i):ob r e f k=k:=by
 rw[VI (by rw[sc];exact hi)]at j;rw[ob,C5,l3 j]
theorem lT{r:aw}{f:Int->Bool}{i:Nat}(j:((iO r.body.length).take i).any f=jp)(hi:i<r.body.length+1)(h:f ((i:Int)-1)=jp):((iO r.body.length).take (i+1)).any f=jp:=by
 refine(cW j (by rw[sc];exact hi)).2 ?_;rw[xw _ _ hi];exact h
set_option maxHeartbeats 4000000 in
theorem c65(p:Prog)(r:aw)(n:Int)(hb:r.fit):Pure prog 128 [.iv (cO p),ag r.c,pI n] (ag (w7 p r n).c):=by
 obtain⟨hb,I,J⟩:=hb;have c0:r.size=r.head.an.length+Lit.aC r.body:=rfl;have a0:=Lit.aJ r.body;refine ah ab func128 Z (by decide) ntmps128 Z (by simp) Z ?_;refine gA Z (zp (c61 r.head I) ?_);refine zJ Z Z (fun g1=>?_) fun g1=>?_
 .have g1:uf r.head=is:=by
   cases h:uf r.head with
   |true=>rfl
   |false=>
    have h:(il WS.o r.head).bad=jp:=h;rw[h]at g1;simp at g1
  rw[w7,am g1];exact zU Z
 have g1: ¬uf r.head=is:=by
  intro h;have h:(il WS.o r.head).bad=is:=h;rw[h]at g1;simp at g1
 rw[w7,be g1];refine gA Z ?_;refine aM 0 r.body.length (VB _) (fun i=>⟨[(2,pI n),(3,.ptr 0 0),(4,.ptr 1 0),(6,.ptr 2 0),(32,.iv (lits r.body)),(33,pI r.body.length),(34,pI i)],[(0,co (.cells [.iv (cO p)])),(1,co (aG r.c)),(2,co (.cells [pI 0,pI 0,pI 0]))],3⟩) (fun i=>(r.body.take i).any sd=jp) [] (by simp)
  (zW ⟨⟨_,rfl,.of_eq Z⟩,Vm Z,rfl,⟨_,rfl,.of_eq Z⟩,Vm Z,rfl,⟨_,rfl,.of_eq Z⟩,Vm Z,rfl,ac⟩) fun i hi y=>?_
 refine zJ Z Z (fun h1=>?_) fun h1=>?_
 .have h1:i<r.body.length:=zN h1;have G:=cW y h1;have hm:r.body.getD i ci∈r.body:=by rw[Vr,Vt h1];exact Wj h1
  have b0:=Lit.bT r.body i h1;refine gA Z (aB (Vd (r.body.getD i ci) (J _ hm) (by omega)) Z Z Z Z Z Z ?_);refine zJ Z Z (fun B=>?_) fun B=>?_
  .have B:sd (r.body.getD i ci)=is:=by
    cases h:sd (r.body.getD i ci) with
    |true=>rfl
    |false=>
     have h:(dw (r.body.getD i ci).size (r.body.getD i ci) WS.o).bad=jp:=h;have g:(!kw ((if(dw (r.body.getD i ci).size (r.body.getD i ci) WS.o).bad=is then(50:Int) else 0)=0))=is:=B;rw[h]at g;simp at g
   rw[oj y h1 B];exact zU Z
  .have B:sd (r.body.getD i ci)=jp:=by
    cases h:sd (r.body.getD i ci) with
    |false=>rfl
    |true=>
     have h:(dw (r.body.getD i ci).size (r.body.getD i ci) WS.o).bad=is:=h;have g:(!kw ((if(dw (r.body.getD i ci).size (r.body.getD i ci) WS.o).bad=is then(50:Int) else 0)=0))=jp:=B;rw[h]at g;simp at g
   refine gA Z ⟨h1,G.2 B,[],zW ⟨⟨_,rfl,.of_eq Z⟩,Vm Z,rfl,⟨_,rfl,.of_eq Z⟩,Vm Z,rfl,⟨_,rfl,.of_eq Z⟩,Vm Z,rfl,ac⟩⟩
 have h1:r.body.length<=i:=zG h1;rw[VI h1]at y;rw[l3 y];refine zE Z Z (fun g2=>?_) fun g2=>?_
 .have g2:n>256:=by simpa using g2
  rw[am (.inl g2)];exact zU Z
 have g2: ¬n>256:=zF g2;refine zJ Z Z (fun g3=>?_) fun g3=>?_
 .rw[am (.inr (zT g3))];exact zU Z
 have g3: ¬(r.body.length:Int)>12:=zF g3;rw[be (by rintro(h|h);exact g2 h;exact g3 h)];refine gA Z (zp (c48 r (by omega)) ?_);refine gA Z (zp (Vc r (by omega)) ?_);refine zJ Z Z (fun g4=>?_) fun g4=>?_
 .rw[am (zT g4)];exact zU Z
 have g4: ¬(GZ r:Int)>24:=zF g4;rw[be g4];refine gA Z ?_;refine aM 0 r.body.length (VB _) (fun i=>⟨[(3,.ptr 0 0),(4,.ptr 1 0),(6,.ptr 2 0),(13,.iv (cD r)),(69,.iv (lits r.body)),(70,pI r.body.length),(71,pI i)],[(0,co (.cells [.iv (cO p)])),(1,co (aG r.c)),(2,co (.cells [pI 0,pI 0,pI 0]))],3⟩) (fun i=>(r.body.take i).any um=jp) [] (by simp)
  (zW ⟨⟨_,rfl,.of_eq Z⟩,Vm Z,rfl,⟨_,rfl,.of_eq Z⟩,Vm Z,rfl,⟨_,rfl,.of_eq Z⟩,Vm Z,rfl,ac⟩) fun i hi y=>?_
 refine zJ Z Z (fun B=>?_) fun B=>?_
 .have B:i<r.body.length:=zN B;have G:=cW y B;refine zJ Z Z (fun C=>?_) fun C=>?_
  .have C:(r.body.getD i ci).kind=4:=zT C;refine zJ Z Z (fun D=>?_) fun D=>?_
   .have D:um (r.body.getD i ci)=is:=by rw[um,decide_eq_true C];exact D
    rw[oj y B D];exact zU Z
   .have D:um (r.body.getD i ci)=jp:=by rw[um,decide_eq_true C];exact D
    refine gA Z ⟨B,G.2 D,[],zW ⟨⟨_,rfl,.of_eq Z⟩,Vm Z,rfl,⟨_,rfl,.of_eq Z⟩,Vm Z,rfl,⟨_,rfl,.of_eq Z⟩,Vm Z,rfl,ac⟩⟩
  .have C: ¬(r.body.getD i ci).kind=4:=zF (by have g:kw ((r.body.getD i ci).kind=4)=jp:=C;exact g);refine gA Z ⟨B,G.2 (by rw[um,decide_eq_false C];rfl),[],zW ⟨⟨_,rfl,.of_eq Z⟩,Vm Z,rfl,⟨_,rfl,.of_eq Z⟩,Vm Z,rfl,⟨_,rfl,.of_eq Z⟩,Vm Z,rfl,ac⟩⟩
 have B:r.body.length<=i:=zG B;rw[VI B]at y;rw[l3 y];refine gA Z (zp (c49 p r (by omega)) ?_);refine gA Z ?_;refine cP [] (t:=⟨[(3,.ptr 0 0),(4,.ptr 1 0),(6,.ptr 2 0),(104,.sl 3 0 5 2),(105,pI 5),(106,pI 0)],[(0,co (.cells [.iv (cO p)])),(1,co (aG r.c)),(2,co (.cells [pI 0,pI 0,pI 0])),(3,co (.row 2 (jl p r)))],4⟩)
  (zW (zO (zO (zO ⟨⟨_,rfl,.of_eq Z⟩,Vm Z,cB p r _ Z,ac⟩)))) ?_
 have Y:(nL p r).ws.length<=1000000000000:=by have:=vL p r r.body.length (VA _);rw[WG]at this;show(eN p r r.body.length).ws.length<=_;omega
 rw[yP];refine mR (n:=6) ?_;refine zE Z Z (fun q=>?_) fun q=>?_
 .exact absurd (show is=jp from q) (by decide)
 refine gA Z ?_;refine aM 0 (r.body.length+1) (VB _) (fun k=>⟨[(3,.ptr 0 0),(4,.ptr 1 0),(6,.ptr 2 0),(18,.ptr 4 0),(19,pI ((k:Int)-1)),(104,.sl 3 0 5 2),(105,pI 5),(106,pI 0)],[(0,co (.cells [.iv (cO p)])),(1,co (aG r.c)),(2,co (.cells [pI 0,pI 0,pI 0])),(3,co (.row 2 (jl p r))),(4,co (.cells [pI 61,.cm (.func 179) [] [.ptr 1 0,.ptr 0 0]]))],5⟩) (fun k=>((iO r.body.length).take k).any (fun lit=>(fq r lit).any fun x=>vY p x)=jp) [] Z
  (zW (zO (zO (zO ⟨⟨_,rfl,.of_eq Z⟩,Vm Z,cB p r _ Z,(zO trivial)⟩)))) fun k hk y=>?_
 refine zJ Z Z (fun u=>?_) fun u=>?_
 .have u:(k:Int)-1<r.body.length:=zT u;have j:k<r.body.length+1:=by omega
  refine gA Z (zq [1,0] (d110 p r ((k:Int)-1) (by omega) (by omega)) ?_);refine zJ Z Z (fun A=>?_) fun A=>?_
  .rw[n9 y j A];refine gA Z (Di (Jl r ((k:Int)-1) u) ?_);exact zU Z
  .refine gA Z ?_;exact⟨j,lT y j A,[],zM (bi (bi (bi (bi ⟨.of_eq (Gj (by omega)),rfl,bi (bi (bi ac))⟩)))) (zO (zO (zO ⟨⟨_,rfl,.of_eq Z⟩,Vm Z,cB p r _ Z,(zO ac)⟩)))⟩
 have u: ¬(k:Int)-1<r.body.length:=zF u;rw[lU y (by omega)];clear y hk u;refine zE Z Z (fun q=>?_) fun q=>?_
 .exact absurd (show is=jp from q) (by decide)
 refine gA Z ?_;refine aM 0 (r.body.length+1) (VB _) (fun k=>⟨[(3,.ptr 0 0),(4,.ptr 1 0),(6,.ptr 2 0),(18,.ptr 5 0),(19,pI ((k:Int)-1)),(104,.sl 3 0 5 2),(105,pI 5),(106,pI 1)],[(0,co (.cells [.iv (cO p)])),(1,co (aG r.c)),(2,co (.cells [pI 0,pI 0,pI 0])),(3,co (.row 2 (jl p r))),(5,co (.cells [pI 62,.cm (.func 183) [] [.ptr 1 0,.ptr 0 0]]))],6⟩) (fun k=>((iO r.body.length).take k).any (fun lit=>(fq r lit).any fun x=>ze p x)=jp) [] Z
  (zW (zO (zO (zO ⟨⟨_,rfl,.of_eq Z⟩,Vm Z,cB p r _ Z,(zO trivial)⟩)))) fun k hk y=>?_
 refine zJ Z Z (fun u=>?_) fun u=>?_
 .have u:(k:Int)-1<r.body.length:=zT u;have j:k<r.body.length+1:=by omega
  refine gA Z (zq [1,0] (d114 p r ((k:Int)-1) (by omega) (by omega)) ?_);refine zJ Z Z (fun A=>?_) fun A=>?_
  .rw[n9 y j A];refine gA Z (Di (Jl r ((k:Int)-1) u) ?_);exact zU Z
  .refine gA Z ?_;exact⟨j,lT y j A,[],zM (bi (bi (bi (bi ⟨.of_eq (Gj (by omega)),rfl,bi (bi (bi ac))⟩)))) (zO (zO (zO ⟨⟨_,rfl,.of_eq Z⟩,Vm Z,cB p r _ Z,(zO ac)⟩)))⟩
 have u: ¬(k:Int)-1<r.body.length:=zF u;rw[lU y (by omega)];clear y hk u;refine zE Z Z (fun q=>?_) fun q=>?_
 .exact absurd (show is=jp from q) (by decide)
 refine gA Z ?_;refine aM 0 (r.body.length+1) (VB _) (fun k=>⟨[(3,.ptr 0 0),(4,.ptr 1 0),(6,.ptr 2 0),(18,.ptr 6 0),(19,pI ((k:Int)-1)),(104,.sl 3 0 5 2),(105,pI 5),(106,pI 2)],[(0,co (.cells [.iv (cO p)])),(1,co (aG r.c)),(2,co (.cells [pI 0,pI 0,pI 0])),(3,co (.row 2 (jl p r))),(6,co (.cells [pI 65,.cm (.func 185) [] [.ptr 1 0]]))],7⟩) (fun k=>((iO r.body.length).take k).any (my r)=jp) [] Z
  (zW (zO (zO (zO ⟨⟨_,rfl,.of_eq Z⟩,Vm Z,cB p r _ Z,(zO trivial)⟩)))) fun k hk y=>?_
 refine zJ Z Z (fun u=>?_) fun u=>?_
 .have u:(k:Int)-1<r.body.length:=zT u;have j:k<r.body.length+1:=by omega
  refine gA Z (zq [1] (d116 r ((k:Int)-1) (by omega) (by omega)) ?_);refine zJ Z Z (fun A=>?_) fun A=>?_
  .rw[n9 y j A];refine gA Z (Di (Jl r ((k:Int)-1) u) ?_);exact zU Z
  .refine gA Z ?_;exact⟨j,lT y j A,[],zM (bi (bi (bi (bi ⟨.of_eq (Gj (by omega)),rfl,bi (bi (bi ac))⟩)))) (zO (zO (zO ⟨⟨_,rfl,.of_eq Z⟩,Vm Z,cB p r _ Z,(zO ac)⟩)))⟩
 have u: ¬(k:Int)-1<r.body.length:=zF u;rw[lU y (by omega)];clear y hk u;refine zE Z Z (fun q=>?_) fun q=>?_
 .exact absurd (show is=jp from q) (by decide)
 refine gA Z ?_;refine aM 0 (r.body.length+1) (VB _) (fun k=>⟨[(3,.ptr 0 0),(4,.ptr 1 0),(6,.ptr 2 0),(18,.ptr 7 0),(19,pI ((k:Int)-1)),(104,.sl 3 0 5 2),(105,pI 5),(106,pI 3)],[(0,co (.cells [.iv (cO p)])),(1,co (aG r.c)),(2,co (.cells [pI 0,pI 0,pI 0])),(3,co (.row 2 (jl p r))),(7,co (.cells [pI 63,.cm (.func 188) [.iv (PJ r (nL p r))] []]))],8⟩) (fun k=>((iO r.body.length).take k).any (rK (nL p r))=jp) [] Z
  (zW (zO (zO (zO ⟨⟨_,rfl,.of_eq Z⟩,Vm Z,cB p r _ Z,(zO trivial)⟩)))) fun k hk y=>?_
 refine zJ Z Z (fun u=>?_) fun u=>?_
 .have u:(k:Int)-1<r.body.length:=zT u;have j:k<r.body.length+1:=by omega
  refine gA Z (aB (Va r (nL p r) ((k:Int)-1) (y9 p r _) Y) Z Z Z Z Z Z ?_);refine zJ Z Z (fun A=>?_) fun A=>?_
  .rw[n9 y j A];refine gA Z (Di (Jl r ((k:Int)-1) u) ?_);exact zU Z
  .refine gA Z ?_;exact⟨j,lT y j A,[],zM (bi (bi (bi (bi ⟨.of_eq (Gj (by omega)),rfl,bi (bi (bi ac))⟩)))) (zO (zO (zO ⟨⟨_,rfl,.of_eq Z⟩,Vm Z,cB p r _ Z,(zO ac)⟩)))⟩
 have u: ¬(k:Int)-1<r.body.length:=zF u;rw[lU y (by omega)];clear y hk u;refine zE Z Z (fun q=>?_) fun q=>?_
 .exact absurd (show is=jp from q) (by decide)
 refine gA Z ?_;refine aM 0 (r.body.length+1) (VB _) (fun k=>⟨[(3,.ptr 0 0),(4,.ptr 1 0),(6,.ptr 2 0),(18,.ptr 8 0),(19,pI ((k:Int)-1)),(104,.sl 3 0 5 2),(105,pI 5),(106,pI 4)],[(0,co (.cells [.iv (cO p)])),(1,co (aG r.c)),(2,co (.cells [pI 0,pI 0,pI 0])),(3,co (.row 2 (jl p r))),(8,co (.cells [pI 64,.cm (.func 189) [.iv (cD r)] []]))],9⟩) (fun k=>((iO r.body.length).take k).any (lv r)=jp) [] Z
  (zW (zO (zO (zO ⟨⟨_,rfl,.of_eq Z⟩,Vm Z,cB p r _ Z,(zO trivial)⟩)))) fun k hk y=>?_
 refine zJ Z Z (fun u=>?_) fun u=>?_
 .have u:(k:Int)-1<r.body.length:=zT u;have j:k<r.body.length+1:=by omega
  refine gA Z (zp (U9 r ((k:Int)-1) (by omega) (by omega)) ?_);refine zJ Z Z (fun A=>?_) fun A=>?_
  .rw[n9 y j A];refine gA Z (Di (Jl r ((k:Int)-1) u) ?_);exact zU Z
  .refine gA Z ?_;exact⟨j,lT y j A,[],zM (bi (bi (bi (bi ⟨.of_eq (Gj (by omega)),rfl,bi (bi (bi ac))⟩)))) (zO (zO (zO ⟨⟨_,rfl,.of_eq Z⟩,Vm Z,cB p r _ Z,(zO ac)⟩)))⟩
 have u: ¬(k:Int)-1<r.body.length:=zF u;rw[lU y (by omega)];clear y hk u;refine zJ Z Z (fun q=>?_) fun q=>?_
 .exact absurd (show jp=is from q) (by decide)
 exact zU Z
section
theorem Jh:prog.cellsOf 3=1:=by kernel_rfl
theorem Jf:prog.cellsOf 9=1:=by kernel_rfl
theorem ED:prog.cellsOf 59=3:=by kernel_rfl
theorem MR:prog.cellsOf 60=1:=by kernel_rfl
theorem EC:prog.cellsOf 62=2:=by kernel_rfl
section
variable {H:Type}
abbrev bk(d:DataW H):Nat:=Rows.uptoBulk d
theorem Rp(d:DataW H):1<=bk d:=by
 cases d with
 |lit l=>cases l<;>simp[bk,Rows.uptoBulk]
 |nil=>simp[bk,Rows.uptoBulk]
 |ptr d=>simp[bk,Rows.uptoBulk]
 |slice elems spare=>simp[bk,Rows.uptoBulk]
 |agg parts=>simp[bk,Rows.uptoBulk]
 |iface t d=>simp[bk,Rows.uptoBulk]
 |map entries=>simp[bk,Rows.uptoBulk]
 |held h=>simp[bk,Rows.uptoBulk]
theorem Ro(s:ByteArray):bk (DataW.lit (H:=H) (.string s.data.toList))=s.size+1:=by
 simp[bk,Rows.uptoBulk]
theorem _root_.Go.Al.QL.sum{α:Type}{Q:α->DataW H->Prop}{l:List α}{d:DataW H}(h:QL Q l d){f:α->Nat}{c:Nat}(hf: ∀x e,Q x e->f x<=c*bk e):(l.map f).sum<=c*bk d:=by
 obtain⟨j,hd,u,y⟩:=h;have key: ∀(l:List α) (j:List (DataW H)),l.length=j.length->(∀(i:Nat) (x:α) (e:DataW H),l[i]? =co x->j[i]? =co e->Q x e)->(l.map f).sum<=c*Rows.uptoBulkAll j:=by
  intro l
  induction l with
  |nil=>intro j _ _;simp
  |cons x r ih=>
   intro j hl y;cases j with
   |nil=>simp at hl
   |cons e j=>
    have h1:=hf x e (y 0 x e Z Z);have C:=ih j (by simpa using hl) fun i x e B A=>y (i+1) x e (by simpa using B) (by simpa using A);simp only[Vy,WU,Rows.uptoBulkAll,Nat.mul_add];simp only[bk]at h1;omega
 have h1:=key l j u y;rcases hd with⟨rfl,rfl⟩|⟨sp,rfl⟩
 .simp[Rows.uptoBulkAll]at h1;omega
 .refine Wr h1 (Nat.mul_le_mul_left c ?_);simp only[bk,Rows.uptoBulk];omega
theorem zQ{α:Type}: ∀l:List α,(l.map fun _=>1).sum=l.length
 | []=>rfl
 |x::r=>by simp only[Vy,WU,VX,zQ r];omega
theorem _root_.Go.Al.QL.len{α:Type}{Q:α->DataW H->Prop}{l:List α}{d:DataW H}(h:QL Q l d):l.length<=bk d:=by
 have:=h.sum (f:=fun _=>1) (c:=1) fun x e _=>by have:=Rp e;omega
 have e:=zQ l;omega
theorem _root_.Go.Al.QL.all{α:Type}{Q:α->DataW H->Prop}{l:List α}{d:DataW H}(h:QL Q l d): ∀x∈l,∃e,Q x e∧bk e<=bk d:=by
 intro x D;obtain⟨j,hd,A,C⟩:=h;obtain⟨i,B,rfl⟩:=Xp.1 D;have u:i<j.length:=by omega
 refine⟨j[i],C i _ _ (Vt B) (Vt u),?_⟩;have key: ∀(j:List (DataW H)),∀e∈j,bk e<=Rows.uptoBulkAll j:=by
  intro j
  induction j with
  |nil=>intro e he;cases he
  |cons y r ih=>
   intro e he;simp only[Rows.uptoBulkAll];rcases VH.1 he with rfl|he
   .simp only[bk];omega
   .have:=ih e he;omega
 have h1:=key j j[i] (Wj u);rcases hd with⟨rfl,rfl⟩|⟨sp,rfl⟩
 .simp at u
 .refine Wr h1 ?_;simp only[bk,Rows.uptoBulk];omega
end
section
variable {H:Type} {enc:TypeId×Value->H} {W:World} {hT:oA W} {sp:Nat->Bool} {held:Bool}
def QV(v:cN)(d:DataW H):Prop:=v.sym.size<=bk d
def Pos.c(p:Pos):List IV:=[iI p.line,iI p.JI]
theorem rd_val(n:Nat):Rd enc prog W hT sp held 59 cN.c QV n:=by
 intro m _ D y h;obtain⟨C,k,rfl,rfl,hl,A,hf⟩:=DataW.trod_struct underlying59 h
 match C,A with
 | [x0,x1,x2],_=>
  obtain⟨a,j,G,_⟩:=Hw (hT:=hT) underlying3 k k (VA _) _ _ (Q6 hf 0 Z Z Z Jh Z);obtain⟨b,u,I,_⟩:=Hw (hT:=hT) underlying3 k k (VA _) _ _ (Q6 hf 1 Z Z Z Jh Z);obtain⟨c,x,B,_⟩:=xc (hT:=hT) underlying9 k k (VA _) _ _ (Q6 hf 2 Z Z Z Jf Z);refine⟨⟨a,b,c⟩,j.B4 (o':=1) Z (u.B4 (o':=2) Z (x.B4 (o':=3) Z (.end_ (hl.trans ED)))),?_⟩;simp only[QV,bk,Vy,VQ,Rows.uptoBulk,Rows.uptoBulkAll];have:=Ro (H:=H) c;rw[<-B]at this;simp only[bk]at this;omega
end
end
end Go.Proofs.YtlmhfgbkchnfbaaGreatDoor
namespace Go.Proofs.YtlmhfgbkchnfbaaGreatDoor
open Go Go.Al Go.Proofs.Tryz Go.ChangeShapes Go.WideShapes Go.RowKit
theorem own:ownKnob prog.godebug=io:=by kernel_rfl
theorem Tw:prog.globalNamed "internal/strconv.uint64pow10" =co 1:=by kernel_rfl
theorem Ix:(prog.globals[1]?).map (·.type)=co 368:=by kernel_rfl
theorem Jg:prog.cellsOf 368=20:=by kernel_rfl
theorem Ji:prog.cellsOf 104=1:=by kernel_rfl
theorem Gx:prog.underlying 368=co (.array 20 104):=by kernel_rfl
theorem Gy:prog.underlying 104=co (.int .u64):=by kernel_rfl
abbrev H6:List (String×DataW Unit):=[("math/bits.deBruijn32tab",Rows.laid_math_bits_deBruijn32tab),("math/bits.deBruijn64tab",Rows.laid_math_bits_deBruijn64tab),("internal/strconv.uint64pow10",Rows.laid_internal_strconv_uint64pow10)]
theorem GK{W:World}(h:laidMetH prog H6 W):oA W:=by
 have u:=laidMetH.filter (fun x=>x.1== "internal/strconv.uint64pow10") h;have A:laidMet prog [("internal/strconv.uint64pow10",Lib.tabData .u64 p8)] W:=by
  rw[show H6.filter (fun x=>x.1== "internal/strconv.uint64pow10")=[("internal/strconv.uint64pow10",Lib.tabData .u64 p8)] by kernel_rfl]at u;rwa[MakeChecks.laidMetH_plain _ _ _ (by kernel_rfl)]at u
 have j:Lib.TabIs prog W "internal/strconv.uint64pow10" .u64 p8:=Lib.tabIs_of_head (rest:=[]) Tw Ix Gx Gy Ji Jg A;intro b c hb;unfold Lib.TabIs World.var? at j;rw[Tw]at j
 match b with
 |0=>exact nomatch hb
 |1=>
  have B:(p8.map fun z=>Value.int .u64 z).toArray=c:=Wq hb;rw[B]at j;simp only[XJ]at j;split at j
  .rename_i C T y e;exact⟨T,y,by rw[e,Wq j]⟩
  .cases j
 |b+2=>exact nomatch hb
theorem kids:Kids prog (· <prog.types.size):=kids_rows (by kernel_rfl) (by kernel_rfl)
theorem full: ∀{t e},t<prog.types.size->prog.underlying t=co (.slice e)->0<prog.cellsOf e:=fun{t e}=>slices_full_of prog (by kernel_rfl) t e
theorem yC{H:Type}{enc:TypeId×Value->H}{W:World}(hT:oA W){k:FuncId}{f:Func}{s:ChangeSpec}{args:List PV}{vs:List Value}{B gs:List (DataW H)}{u:List MemPlace}
  (hp:Al.Pure prog k args (pB is)) (D:args.length=vs.length) (hv: ∀(j:Nat) (p:PV),args[j]? =co p->VR (Mem.qU W hT) T8 (· <0) p (vs.getD j undef))
  (G: ∀t∈f.params.toList,t<prog.types.size) (A:s.vars=[]) (y:f.resultTypes= #[4])
  (hW:DataW.Whole enc prog f.params.toList s.vars jp W vs.toArray.toList B gs u)
  (I:(s.fn H (B++gs)).results=[.lit (.bool is)]) (J:(s.fn H (B++gs)).args=B) (Y:(s.fn H (B++gs)).vars=[]):
  Calls prog k vs.toArray W fun e W'=> ∃v,e= .returned v∧s.post enc prog f jp is jp jp W vs.toArray v W':=by
 refine(hp.2 (Mem.qU W hT) T8 W vs (LK W hT) D hv).mono ?_;rintro e W' ⟨x,M',N',r,h',n',rfl,⟨rfl,rfl,rfl⟩,hx,hr,hvr⟩;have a0:x= .bool is:=by
  cases hvr with
  |iv _ _ h=>cases h;rfl
 subst a0;refine⟨_,rfl,yD kids full G A hW hx.os hx.output.out (fun b hb=>hx.gu b hb fun i o hi=>(nomatch hi)) (fun b sp hd=>?_) J Y ?_⟩
 .rw[I,y];exact trodAll_cons_mk (shut_bool underlying4 _) trodAll_mk0
 .intro j t r h1 C;rw[y]at h1 C
  match j,h1,C with
  |0,h1,C=>
   cases h1;cases C;exact okWide_bool_mk underlying4 _
  |j+1,h1,C=>simp at h1
def H5(b:Nat)(cs:Array Value)(h:Array Obj):Array Obj:=h.modify b fun
 | .cells _ t frozen=> .cells cs t frozen
 |o=>o
noncomputable def sr(os:Os):World:=
 {World.holding prog os ⟨#[], #[],[]⟩ with
  heap:=H5 3 #[.int .u8 0,.int .u8 1,.int .u8 56,.int .u8 2,.int .u8 57,.int .u8 49,.int .u8 28,.int .u8 3,.int .u8 61,.int .u8 58,.int .u8 42,.int .u8 50,.int .u8 38,.int .u8 29,.int .u8 17,.int .u8 4,.int .u8 62,.int .u8 47,.int .u8 59,.int .u8 36,.int .u8 45,.int .u8 43,.int .u8 51,.int .u8 22,.int .u8 53,.int .u8 39,.int .u8 33,.int .u8 30,.int .u8 24,.int .u8 18,.int .u8 12,.int .u8 5,.int .u8 63,.int .u8 55,.int .u8 48,.int .u8 27,.int .u8 60,.int .u8 41,.int .u8 37,.int .u8 16,.int .u8 46,.int .u8 35,.int .u8 44,.int .u8 21,.int .u8 52,.int .u8 32,.int .u8 23,.int .u8 11,.int .u8 54,.int .u8 26,.int .u8 40,.int .u8 15,.int .u8 34,.int .u8 20,.int .u8 31,.int .u8 10,.int .u8 25,.int .u8 14,.int .u8 19,.int .u8 9,.int .u8 13,.int .u8 8,.int .u8 7,.int .u8 6] (H5 2 #[.int .u8 0,.int .u8 1,.int .u8 28,.int .u8 2,.int .u8 29,.int .u8 14,.int .u8 24,.int .u8 3,.int .u8 30,.int .u8 22,.int .u8 20,.int .u8 15,.int .u8 25,.int .u8 17,.int .u8 4,.int .u8 8,.int .u8 31,.int .u8 27,.int .u8 13,.int .u8 23,.int .u8 21,.int .u8 19,.int .u8 16,.int .u8 7,.int .u8 26,.int .u8 12,.int .u8 18,.int .u8 6,.int .u8 11,.int .u8 5,.int .u8 10,.int .u8 9] (H5 1 (p8.map fun z=>Value.int .u64 z).toArray (World.holding prog os ⟨#[], #[],[]⟩).heap))}
end Go.Proofs.YtlmhfgbkchnfbaaGreatDoor
namespace Go.Proofs.YtlmhfgbkchnfbaaGreatDoor
open Go Go.Al Go.Proofs.Tryz
def gl.z:gl:=(0,⟨0,0⟩)
theorem d64(d e:gl):bg prog 98 [ag d.c,.ptr 0 0] [aG e.c] (pB jp) [(0,co (aG d.c))] 1:=by
 refine aj ab func98 Z (by decide) ntmps98 Z (by simp) ?_;refine gA Z (zD [] Z (zW (zO ac)))
def gf(p:Prog)(i:Nat):List aq:=(p.aD.take i).map Decl.name
def gz(p:Prog)(i:Nat):Int:=p5 (p.aD.getD i ci) i (dQ .str (aL (gf p i)) (p.aD.getD i ci).name 0)
def p4(p:Prog):Nat->List gl
 |0=> []
 |i+1=>p4 p i++(if gz p i=0 then[] else[(gz p i,(p.aD.getD i ci).at_)])
def uJ(p:Prog)(i:Nat):gl:=w7 p (p.rules.getD i ci) ((i:Int)+1)
def qL(p:Prog):Nat->List gl
 |0=> []
 |i+1=>qL p i++(if(uJ p i).1=0 then[] else[uJ p i])
def lg(p:Prog):List gl:=p4 p p.aD.length++qL p p.rules.length
def eI(p:Prog):gl:=(lg p).headD gl.z
theorem Ar(p:Prog)(i:Nat): ∀k,∃t,p4 p (i+k)=p4 p i++t
 |0=>⟨[],by simp⟩
 |k+1=>by
  obtain⟨t,h⟩:=Ar p i k;exact⟨_,by rw[<-WB,p4,h,VF]⟩
theorem Ak(p:Prog)(i:Nat): ∀k,∃t,qL p (i+k)=qL p i++t
 |0=>⟨[],by simp⟩
 |k+1=>by
  obtain⟨t,h⟩:=Ak p i k;exact⟨_,by rw[<-WB,qL,h,VF]⟩
theorem F6{p:Prog}{i:Nat}(j:p4 p i=[])(hi:i<p.aD.length)(h: ¬gz p i=0):eI p=(gz p i,(p.aD.getD i ci).at_):=by
 obtain⟨t,ht⟩:=Ar p (i+1) (p.aD.length-(i+1));have e:i+1+(p.aD.length-(i+1))=p.aD.length:=by omega
 rw[e,p4,j,be h]at ht;rw[eI,lg,ht];rfl
theorem F5{p:Prog}{i:Nat}(h0:p4 p p.aD.length=[])(j:qL p i=[])(hi:i<p.rules.length)(h: ¬(uJ p i).1=0):eI p=uJ p i:=by
 obtain⟨t,ht⟩:=Ak p (i+1) (p.rules.length-(i+1));have e:i+1+(p.rules.length-(i+1))=p.rules.length:=by omega
 rw[e,qL,j,be h]at ht;rw[eI,lg,ht,h0];rfl
theorem Je{p:Prog}(h0:p4 p p.aD.length=[])(h1:qL p p.rules.length=[]):eI p=gl.z:=by
 rw[eI,lg,h0,h1];rfl
theorem yA{p:Prog}{i:Nat}(h:i<p.aD.length):aL (gf p (i+1))=bump (aL (gf p i)) (p.aD.getD i ci).name:=by
 rw[gf,bS h,VD];exact dh _ _
theorem Ct(p:Prog)(i:Nat)(s:aq):0<=dQ .str (aL (gf p i)) s 0∧dQ .str (aL (gf p i)) s 0<=i:=by
 have h:=gH (gf p i) s;have j:(gf p i).length<=i:=by simp[gf];omega
 rw[bI];omega
def Prog.fit(p:Prog):Prop:=p.aD.length<=1000000000∧p.rules.length<=1000000000∧ ∀r∈p.rules,r.fit
theorem UQ(p:Prog)(hb:p.fit):bg prog 97 [ag p.c,.cm (.func 98) [] [.ptr 0 0]] [aG gl.z.c] (.aZ []) [(0,co (aG (eI p).c))] 1:=by
 obtain⟨B,C,A⟩:=hb;refine aj ab func97 Z (by decide) ntmps97 Z (by simp) ?_;refine gA Z ?_;refine aM 0 p.aD.length (VB _) (fun i=>⟨[(1,.cm (.func 98) [] [.ptr 0 0]),(2,.ptr 1 0),(4,.mp 2),(13,.iv (a7 4 p.aD Decl.c)),(14,pI p.aD.length),(15,pI i)],[(0,co (aG gl.z.c)),(1,co (aG p.c)),(2,co (cS (aL (gf p i))))],3⟩) (fun i=>p4 p i=[]) [] Z
  (zW ⟨⟨_,rfl,.of_eq Z⟩,Vm Z,rfl,⟨_,rfl,.of_eq Z⟩,Vm Z,rfl,QU Z fT Z trivial⟩) fun i D x=>?_
 refine zJ Z Z (fun h1=>?_) fun h1=>?_
 .have h1:i<p.aD.length:=zN h1;have hl:=Ct p i (p.aD.getD i ci).name;have I:=yA h1;refine gA Z (zp (Ve (p.aD.getD i ci) i (dQ .str (aL (gf p i)) (p.aD.getD i ci).name 0)) ?_);refine zJ Z Z (fun g=>?_) fun g=>?_
  .have g: ¬gz p i=0:=by
    have g:(!kw (gz p i=0))=is:=g;simpa only[WA,decide_eq_false_iff_not]using g
   rw[F6 x h1 g];refine gA Z (zq [0] (d64 (gz p i,(p.aD.getD i ci).at_) gl.z) ?_);refine zE Z Z (fun q=>?_) fun q=>?_
   .exact absurd (show is=jp from q) (by decide)
   refine gA Z (zD [] Z (zW (zO ac)))
  .have g:gz p i=0:=by
    have g:(!kw (gz p i=0))=jp:=g;simpa only[Xf,decide_eq_true_eq]using g
   refine gA Z ⟨h1,by rw[p4,x,am g];rfl,[],zW (zO (zO (hM Z (by rw[I];rfl) Z trivial)))⟩
 have h1:p.aD.length<=i:=zG h1;have u:i=p.aD.length:=by omega
 subst u;refine gA Z (zq [] (d50 p (by omega)) ?_);refine gA Z ?_;refine Mr 3 Z ?_;refine aM 0 p.rules.length (VB _) (fun i=>⟨[(1,.cm (.func 98) [] [.ptr 0 0]),(2,.ptr 1 0),(8,.iv (cO p)),(47,.iv (a7 5 p.rules aw.c)),(48,pI p.rules.length),(49,pI i)],[(0,co (aG gl.z.c)),(1,co (aG p.c))],4⟩) (fun i=>qL p i=[]) [] Z
  (zW (zO (zO trivial))) fun i D y=>?_
 refine zJ Z Z (fun j=>?_) fun j=>?_
 .have j:i<p.rules.length:=zN j;have G:p.rules.getD i ci∈p.rules:=by rw[Vr,Vt j];exact Wj j
  refine gA Z (aB (c65 p (p.rules.getD i ci) ((i:Int)+1) (A _ G)) Z Z Z Z Z Z ?_);refine zJ Z Z (fun g=>?_) fun g=>?_
  .have g: ¬(uJ p i).1=0:=by
    have g:(!kw ((uJ p i).1=0))=is:=g;simpa only[WA,decide_eq_false_iff_not]using g
   rw[F5 x y j g];refine gA Z (zq [0] (d64 (uJ p i) gl.z) ?_);refine zE Z Z (fun q=>?_) fun q=>?_
   .exact absurd (show is=jp from q) (by decide)
   refine gA Z (zD [] Z (zW (zO ac)))
  .have g:(uJ p i).1=0:=by
    have g:(!kw ((uJ p i).1=0))=jp:=g;simpa only[Xf,decide_eq_true_eq]using g
   refine gA Z ⟨j,by rw[qL,y,am g];rfl,[],zW (zO (zO trivial))⟩
 have j:p.rules.length<=i:=zG j;have u:i=p.rules.length:=by omega
 subst u;rw[Je x y];refine gA Z (zD [] Z (zW (zO ac)))
theorem c24(p:Prog)(hb:p.fit):Pure prog 66 [ag p.c] (ag (eI p).c):=by
 refine ah ab func66 Z (by decide) ntmps66 Z (by simp) Z ?_;refine gA Z (zq [2] (UQ p hb) ?_);exact zU Z
end Go.Proofs.YtlmhfgbkchnfbaaGreatDoor
namespace Go.Proofs.YtlmhfgbkchnfbaaGreatDoor
open Go Go.Al Go.ChangeShapes Go.WideShapes Go.RowKit
section
section
variable {H:Type} {enc:TypeId×Value->H} {W:World} {hT:oA W} {sp:Nat->Bool} {held:Bool}
def QF(f:Fact)(d:DataW H):Prop:=f.args.length<=bk d
theorem LL(n:Nat):Rd enc Tryz.prog W hT sp held 62 Fact.c QF n:=by
 intro m _ D y h;obtain⟨C,k,rfl,rfl,hl,A,hf⟩:=DataW.trod_struct Tryz.underlying62 h
 match C,A with
 | [x0,x1],_=>
  obtain⟨a,j,G,_⟩:=xc (hT:=hT) Tryz.underlying9 k k (VA _) _ _ (Q6 hf 0 Z Z Z Jf Z);obtain⟨b,u,B⟩:=(Av (hT:=hT) Tryz.underlying60 ED (by decide) (fun _=>rfl) (rd_val k)).mono (Xx k) k (VA _) _ _ (Q6 hf 1 Z Z Z MR Z);refine⟨⟨a,b⟩,j.B4 (o':=1) Z (u.B4 (o':=2) Z (.end_ (hl.trans EC))),?_⟩;have x:=B.len;simp only[bk]at x;simp only[QF,bk,Vy,VQ,Rows.uptoBulk,Rows.uptoBulkAll];omega
end
theorem Pd{M:Mem}{N:Nm}{U:Nat->Prop}{p:IV}{a:Option Addr}{l c:Nat}(h:CR M [p] (Value.slice a l c).cells.toList):VR M N U (.iv p) (.slice a l c):= .iv _ _ (h.2 0 p Z)
end
end Go.Proofs.YtlmhfgbkchnfbaaGreatDoor
namespace Go.Bo
section
structure TO {α:Type} (c:α->α->Int):Prop where
 eq: ∀x y,c x y=0↔x=y
 neg: ∀x y,c y x<0↔0<c x y
 tr: ∀x y z,c x y<0->c y z<0->c x z<0
section
variable {α:Type} {c:α->α->Int} (h:TO c)
include h
theorem TO.refl(x:α):c x x=0:=(h.eq x x).2 Z
theorem TO.QS(x:α): ¬c x x<0:=by rw[h.refl];omega
theorem TO.asym{x y:α}(a:c x y<0): ¬c y x<0:=fun b=>by have:=(h.neg x y).1 b;omega
theorem TO.RA{x y:α}(a: ¬c x y<0)(b: ¬c y x<0):x=y:=by
 refine(h.eq x y).1 ?_;have:=(h.neg x y).2;omega
theorem TO.T7{x y z:α}(a: ¬c x y<0)(b: ¬c y z<0): ¬c x z<0:=fun g=>by
 by_cases e:c y x<0
 .exact b (h.tr _ _ _ e g)
 .rw[h.RA a e]at g;exact b g
end
def uT(a b:Int):Int:=if a=0 then b else a
theorem DV{a b j u:Int}(h1:j<0↔0<a)(x:a<0↔0<j)(y:u<0↔0<b):uT j u<0↔0<uT a b:=by
 unfold uT;split<;>split<;>omega
theorem TO.pair{α β:Type}{c:α->α->Int}{d:β->β->Int}(h:TO c)(g:TO d):TO fun(x y:α×β)=>uT (c x.1 y.1) (d x.2 y.2) where
 eq:=fun x y=>by
  unfold uT;constructor
  .intro e;split at e
   .rename_i a;exact Prod.ext ((h.eq _ _).1 a) ((g.eq _ _).1 e)
   .rename_i a;exact absurd e a
  .rintro rfl;rw[am (h.refl _)];exact g.refl _
 neg:=fun x y=>DV (h.neg _ _) (h.neg _ _) (g.neg _ _)
 tr:=fun x y z a b=>by
  unfold uT at*
  by_cases u:c x.1 y.1=0
  .rw[am u]at a;have A:=(h.eq _ _).1 u;rw[A];by_cases j:c y.1 z.1=0
   .rw[am j]at b ⊢;exact g.tr _ _ _ a b
   .rw[be j]at b ⊢;exact b
  .rw[be u]at a;by_cases j:c y.1 z.1=0
   .rw[<-(h.eq _ _).1 j,be u];exact a
   .rw[be j]at b;have:=h.tr _ _ _ a b;rw[be (by omega)];exact this
theorem TO.map{α β:Type}{c:β->β->Int}(h:TO c)(f:α->β)(hf: ∀x y,f x=f y->x=y):TO fun x y=>c (f x) (f y) where
 eq:=fun x y=>(h.eq _ _).trans ⟨hf x y,fun e=>by rw[e]⟩
 neg:=fun x y=>h.neg _ _
 tr:=fun x y z=>h.tr _ _ _
def cmpL{α:Type}(c:α->α->Int):List α->List α->Int
 | [],[]=>0
 | [],_::_=> -1
 |_::_,[]=>1
 |x::a,y::b=>uT (c x y) (cmpL c a b)
theorem TO.list{α:Type}{c:α->α->Int}(h:TO c):TO (cmpL c) where
 eq:=by
  intro x
  induction x with
  |nil=>intro y;cases y<;>simp[cmpL]
  |cons x a ih=>
   intro y;cases y with
   |nil=>simp[cmpL]
   |cons y b=>
    simp only[cmpL,uT,YH];constructor
    .intro e;split at e
     .rename_i q;exact⟨(h.eq _ _).1 q,(ih b).1 e⟩
     .rename_i q;exact absurd e q
    .rintro⟨rfl,rfl⟩;rw[am (h.refl _)];exact(ih a).2 Z
 neg:=by
  intro x
  induction x with
  |nil=>intro y;cases y<;>simp[cmpL]
  |cons x a ih=>
   intro y;cases y with
   |nil=>simp[cmpL]
   |cons y b=>exact DV (h.neg _ _) (h.neg _ _) (ih b)
 tr:=by
  intro x
  induction x with
  |nil=>
   intro y z a b;cases y with
   |nil=>simp[cmpL]at a
   |cons y y'=>cases z with
    |nil=>simp[cmpL]at b
    |cons z z'=>simp[cmpL]
  |cons x x' ih=>
   intro y z a b;cases y with
   |nil=>simp[cmpL]at a
   |cons y y'=>cases z with
    |nil=>simp[cmpL]at b
    |cons z z'=>
     simp only[cmpL,uT] at*
     by_cases u:c x y=0
     .rw[am u]at a;rw[(h.eq _ _).1 u];by_cases j:c y z=0
      .rw[am j]at b ⊢;exact ih _ _ a b
      .rw[be j]at b ⊢;exact b
     .rw[be u]at a;by_cases j:c y z=0
      .rw[<-(h.eq _ _).1 j,be u];exact a
      .rw[be j]at b;have:=h.tr _ _ _ a b;rw[be (by omega)];exact this
def ot(a b:Int):Int:=if a<b then-1 else if b<a then 1 else 0
theorem TO.int:TO ot where
 eq:=fun x y=>by unfold ot;split<;>(try split)<;>omega
 neg:=fun x y=>by unfold ot;split<;>(try split)<;>(try split)<;>(try split)<;>omega
 tr:=fun x y z=>by unfold ot;split<;>(try split)<;>(try split)<;>(try split)<;>(try split)<;>omega
section
variable {α:Type} (c:α->α->Int)
def qx(l:List α):Prop:=l.Pairwise fun x y=>c x y<0
def ins(x:α):List α->List α
 | []=> [x]
 |y::r=>if c x y<0 then x::y::r else if c y x<0 then y::ins x r else y::r
def sP(l:List α):List α:=l.foldr (ins c) []
theorem qx.filter{c:α->α->Int}{l:List α}(hs:qx c l)(p:α->Bool):qx c (l.filter p):=XE p hs
variable {c} (h:TO c)
include h
theorem mF{x y:α}: ∀{l:List α},y∈ins c x l↔y=x∨y∈l
 | []=>by simp[ins]
 |z::r=>by
  unfold ins;split
  .simp
  .split
   .simp only[VH,mF (l:=r)];constructor
    .rintro(a|a|a)<;>simp[a]
    .rintro(a|a|a)<;>simp[a]
   .rename_i a b;have:=h.RA a b;subst this;simp
theorem Dx{x:α}: ∀{l:List α},qx c l->qx c (ins c x l)
 | [],_=>by simp[ins,qx]
 |z::r,hs=>by
  have j:=Wz.1 hs;unfold ins;split
  .rename_i a;refine Wz.2 ⟨fun y hy=>?_,hs⟩;rcases VH.1 hy with rfl|hy
   .exact a
   .exact h.tr _ _ _ a (j.1 y hy)
  .split
   .rename_i a b;refine Wz.2 ⟨fun y hy=>?_,Dx j.2⟩;rcases(mF h).1 hy with rfl|hy
    .exact b
    .exact j.1 y hy
   .exact hs
theorem sa{y:α}: ∀{l:List α},y∈sP c l↔y∈l
 | []=>by simp[sP]
 |x::l=>by
  show y∈ins c x (sP c l)↔_;rw[mF h,sa,VH]
theorem rO: ∀(l:List α),qx c (sP c l)
 | []=>XB
 |x::l=>Dx h (rO l)
theorem Dy: ∀{a b:List α},qx c a->qx c b->(∀x,x∈a↔x∈b)->a=b
 | [],[],_,_,_=>rfl
 | [],y::b,_,_,e=>absurd ((e y).2 (VG ..)) (by simp)
 |x::a,[],_,_,e=>absurd ((e x).1 (VG ..)) (by simp)
 |x::a,y::b,ha,hb,e=>by
  have j:=Wz.1 ha;have u:=Wz.1 hb;have B:x=y:=by
   rcases VH.1 ((e x).1 (VG ..)) with q|q
   .exact q
   .rcases VH.1 ((e y).2 (VG ..)) with r|r
    .exact r.symm
    .exact absurd (u.1 x q) (h.asym (j.1 y r))
  subst B;have A: ∀{l:List α},(∀z∈l,c x z<0)->x∉l:=fun g m=>h.QS x (g x m);rw[Dy j.2 u.2 fun z=>⟨fun m=>?_,fun m=>?_⟩]
  .rcases VH.1 ((e z).1 (VE _ m)) with q|q
   .subst q;exact absurd m (A j.1)
   .exact q
  .rcases VH.1 ((e z).2 (VE _ m)) with q|q
   .subst q;exact absurd m (A u.1)
   .exact q
theorem qx.nodup{l:List α}(hs:qx c l):l.Nodup:=Yw (fun a e=>by subst e;exact h.QS _ a) hs
end
end
end Go.Bo
namespace Go.Proofs.YtlmhfgbkchnfbaaGreatDoor
open Go Go.Al Go.Bo
deriving instance DecidableEq for Fact
def Sr(s:aq):List Int:=s.data.toList.map fun b=>(b.toNat:Int)
theorem K8{a b:aq}(h:Sr a=Sr b):a=b:=by
 have:a.data.toList=b.data.toList:=List.map_inj_right (fun x y e=>UInt8.toNat_inj.1 (Int.ofNat.inj e))|>.1 h;cases a;cases b;simp only[ByteArray.mk.injEq];exact Yy.1 this
def r8(a b:aq):Int:=cmpL ot (Sr a) (Sr b)
def BL(a b:cN):Int:=uT (ot a.kind b.kind) (uT (ot a.num b.num) (r8 a.sym b.sym))
def vI(a b:List cN):Int:=cmpL BL a b
def aY(a b:Fact):Int:=uT (r8 a.rel b.rel) (vI a.args b.args)
theorem toS:TO r8:=TO.int.list.map Sr fun _ _=>K8
theorem toV:TO BL:=(TO.int.pair (TO.int.pair toS)).map (fun v:cN=>(v.kind,v.num,v.sym)) fun x y e=>by
 cases x;cases y;simp only[VC]at e;obtain⟨rfl,rfl,rfl⟩:=e;rfl
theorem o6:TO aY:=(toS.pair toV.list).map (fun f:Fact=>(f.rel,f.args)) fun x y e=>by
 cases x;cases y;simp only[VC]at e;obtain⟨rfl,rfl⟩:=e;rfl
def Pe:Nat->FS
 |0=> []
 |n+1=>co .i64::co .i64::io::Pe n
abbrev Mk:FS:=io::co .i64::Pe 8
def zf:(n:Nat)->List cN->FK (Pe n)
 |0,_=>()
 |n+1,[]=>(0,0,Vx,zf n [])
 |n+1,v::r=>(v.kind,v.num,v.sym,zf n r)
def cv(f:Fact):FK Mk:=(f.rel,(f.args.length:Int),zf 8 f.args)
theorem BT: ∀(n:Nat) (a b:List cN),a.length=b.length->a.length<=n->zf n a=zf n b->a=b
 |_,[],[],_,_,_=>rfl
 |_,[],_::_,h,_,_=>by simp at h
 |_,_::_,[],h,_,_=>by simp at h
 |0,_::_,_::_,_,h,_=>by simp at h
 |n+1,v::a,u::b,h,g,e=>by
  have j:(v.kind,v.num,v.sym,zf n a)=(u.kind,u.num,u.sym,zf n b):=e;rw[VC,VC,VC]at j;obtain⟨x,y,A,B⟩:=j;rw[BT n a b (by simpa using h) (by simpa using g) B];cases v;cases u;simp only at x y A;subst x y A;rfl
theorem re{f g:Fact}(hf:f.args.length<=8)(e:cv f=cv g):f=g:=by
 have j:(f.rel,(f.args.length:Int),zf 8 f.args)=(g.rel,(g.args.length:Int),zf 8 g.args):=e;rw[VC,VC]at j;obtain⟨u,y,x⟩:=j;have:=BT 8 f.args g.args (by omega) hf x;cases f;cases g;simp only at u this;subst u this;rfl
end Go.Proofs.YtlmhfgbkchnfbaaGreatDoor
namespace Go.Bo
section
abbrev b6(F:Type):=Bool×F
def v7{F:Type}(c:F->F->Int)(l:List (b6 F)):Prop:=l.Pairwise fun x y=>c x.2 y.2<0
theorem Lg{F:Type}{c:F->F->Int}{l:List F}(hl:qx c l)(g:F->Option (b6 F))(hg: ∀f x,g f=co x->x.2=f):v7 c (l.filterMap g):=by
 refine List.Pairwise.filterMap g (fun x y a u hu v j=>?_) hl;rw[hg _ _ hu,hg _ _ j];exact a
theorem v7.facts{F:Type}{c:F->F->Int}{l:List (b6 F)}(hl:v7 c l):qx c (l.map (·.2)):=List.pairwise_map.2 hl
theorem wW{F:Type}{c:F->F->Int}: ∀(l:List F),(sP c l).length<=l.length
 | []=>VA _
 |x::l=>by
  have key: ∀(m:List F),(ins c x m).length<=m.length+1:=by
   intro m
   induction m with
   |nil=>exact VA _
   |cons y r ih=>
    unfold ins;split
    .exact VA _
    .split
     .exact Y3 ih
     .exact Xx _
  exact Wr (key _) (Y3 (wW l))
section
variable {F:Type} [DecidableEq F] (c:F->F->Int)
def dI(l:List (b6 F))(f:F):Option Bool:=(l.reverse.find? fun x=>kw (x.2=f)).map (·.1)
def dC(S:List F)(l:List (b6 F)):List (b6 F):=
 (sP c (l.map (·.2))).filterMap fun f=>(dI l f).bind fun a=>if kw (f∈S)=a then io else co (a,f)
def gn(S:List F)(l:List (b6 F)):List F:=(sP c (S++l.map (·.2))).filter fun f=>(dI l f).getD is
variable {c}
theorem qg{l:List (b6 F)}{f:F}:dI l f=io↔f∉l.map (·.2):=by
 unfold dI;rw[XM,Xy];simp only[Y4,decide_eq_true_eq,V5,not_exists,not_and]
theorem ia{l:List (b6 F)}{f:F}{a:Bool}(e:dI l f=co a):(a,f)∈l:=by
 unfold dI at e;rw[Vw]at e;obtain⟨x,h1,rfl⟩:=e;have j:=List.find?_some h1;have u:=List.mem_of_find?_eq_some h1;rw[decide_eq_true_eq]at j;rw[<-j];exact Y4.1 u
theorem CK{l:List (b6 F)}{f:F}(hm:f∈l.map (·.2)): ∃a,dI l f=co a:=by
 cases e:dI l f with
 |none=>exact absurd hm (qg.1 e)
 |some a=>exact⟨a,rfl⟩
theorem jk(h:TO c){S:List F}{l:List (b6 F)}{a:Bool}{f:F}:(a,f)∈dC c S l↔dI l f=co a∧kw (f∈S)≠a:=by
 unfold dC;rw[List.mem_filterMap];constructor
 .rintro⟨g,_,e⟩;cases e1:dI l g with
  |none=>rw[e1]at e;cases e
  |some b=>
   rw[e1,XJ]at e;split at e
   .cases e
   .rename_i q;cases e;exact⟨e1,q⟩
 .rintro⟨e1,e2⟩;refine⟨f,(sa h).2 (V5.2 ⟨_,ia e1,rfl⟩),?_⟩;rw[e1,XJ,be e2]
theorem qZ(h:TO c){S:List F}{l:List (b6 F)}{f:F}:f∈gn c S l↔(dI l f=co is∨dI l f=io∧f∈S):=by
 unfold gn;rw[V4,sa h,VM];cases e:dI l f with
 |none=>have:=qg.1 e;simp[this]
 |some a=>
  have:f∈l.map (·.2):=V5.2 ⟨_,ia e,rfl⟩;cases a<;>simp[this]
theorem qG(h:TO c)(S:List F)(l:List (b6 F)):qx c (gn c S l):=(rO h _).filter _
theorem oH(h:TO c)(S:List F)(l:List (b6 F)):v7 c (dC c S l):=Lg (rO h _) _ fun f x e=>by
 cases e1:dI l f with
 |none=>rw[e1]at e;cases e
 |some b=>
  rw[e1,XJ]at e;split at e
  .cases e
  .cases e;rfl
theorem GD(S:List F)(l:List (b6 F)):(dC c S l).length<=l.length:=by
 have:=List.length_filterMap_le (fun f=>(dI l f).bind fun a=>if kw (f∈S)=a then io else co (a,f)) (sP c (l.map (·.2)));have j:=wW (c:=c) (l.map (·.2));rw[VS]at j;exact Wr this j
theorem HM(h:TO c){S:List F}(hS:qx c S)(l:List (b6 F)):
  (gn c S l).length+((dC c S l).filter fun x=>!x.1).length=S.length+((dC c S l).filter fun x=>x.1).length:=by
 have hT:=oH h S l;have A: ∀q:b6 F->Bool,(((dC c S l).filter q).map (·.2)).Nodup:=fun q=>
  (v7.facts (XE q hT)).nodup h
 have y:(S.filter fun f=>kw ((jp,f)∉dC c S l)).Nodup:=(hS.filter _).nodup h;have j: ∀(b:Bool) (f:F),f∈((dC c S l).filter fun x=>x.1==b).map (·.2)↔(b,f)∈dC c S l:=fun b f=>by
  rw[V5];constructor
  .rintro⟨x,hx,rfl⟩;rw[V4,beq_iff_eq]at hx;rw[<-hx.2];exact hx.1
  .intro m;exact⟨_,V4.2 ⟨m,beq_self_eq_true b⟩,rfl⟩
 have C:(gn c S l).Perm ((S.filter fun f=>kw ((jp,f)∉dC c S l))++((dC c S l).filter fun x=>x.1==is).map (·.2)):=by
  refine(W6 ((qG h S l).nodup h) ?_).2 fun f=>?_
  .refine W3.2 ⟨y,A _,fun f hf g u e=>?_⟩;subst e;rw[V4]at hf;have:=(jk h).1 ((j is f).1 u);exact this.2 (decide_eq_true hf.1)
  .rw[VM,V4,j,decide_eq_true_eq,jk h,jk h,qZ h];by_cases m:f∈S<;>cases e:dI l f with
   |none=>simp[m]
   |some b=>cases b<;>simp[m]
 have D:S.Perm ((S.filter fun f=>kw ((jp,f)∉dC c S l))++((dC c S l).filter fun x=>x.1==jp).map (·.2)):=by
  refine(W6 (hS.nodup h) ?_).2 fun f=>?_
  .refine W3.2 ⟨y,A _,fun f hf g u e=>?_⟩;subst e;rw[V4,decide_eq_true_eq]at hf;exact hf.2 ((j jp f).1 u)
  .rw[VM,V4,j,decide_eq_true_eq,jk h];by_cases m:f∈S<;>cases e:dI l f with
   |none=>simp[m]
   |some b=>cases b<;>simp[m]
 have l1:=C.length_eq;have B:=D.length_eq;rw[Vp,VS]at l1 B;have c1:((dC c S l).filter fun x=>x.1==is)=(dC c S l).filter fun x=>x.1:=Xs fun x _=>by cases x.1<;>rfl
 have c2:((dC c S l).filter fun x=>x.1==jp)=(dC c S l).filter fun x=>!x.1:=Xs fun x _=>by cases x.1<;>rfl
 rw[c1]at l1;rw[c2]at B;omega
theorem FN{B:List F}{f:F}{a:Bool}:dI (B.map fun x=>(is,x)) f=co a↔a=is∧f∈B:=by
 constructor
 .intro e;obtain⟨x,u,j⟩:=V5.1 (ia e);cases j;exact⟨rfl,u⟩
 .rintro⟨rfl,m⟩;obtain⟨a,e⟩:=CK (l:=B.map fun x=>(is,x)) (f:=f) (by rw[Wx];exact V5.2 ⟨f,m,rfl⟩);rw[e];obtain⟨x,_,j⟩:=V5.1 (ia e);cases j;rfl
theorem vd{B:List F}{f:F}:dI (B.map fun x=>(is,x)) f=io↔f∉B:=by
 rw[qg,Wx];show f∉B.map id↔_;rw[List.map_id]
theorem HW(h:TO c){S B:List F}{f:F}:f∈gn c S (B.map fun x=>(is,x))↔f∈B∨f∈S:=by
 rw[qZ h,FN,vd];by_cases m:f∈B<;>simp[m]
theorem A2(h:TO c){S B:List F}(j:qx c (S++B)):gn c S (B.map fun x=>(is,x))=S++B:=
 Dy h (qG h _ _) j fun f=>by rw[HW h,VM,Or.comm]
end
section
variable {F:Type} (c:F->F->Int)
def dU:List F->List F->List (b6 F)
 | [],b=>b.map fun f=>(is,f)
 |a,[]=>a.map fun f=>(jp,f)
 |x::a,y::b=>if c x y<0 then(jp,x)::dU a (y::b) else if 0<c x y then(is,y)::dU (x::a) b else dU a b
 termination_by a b=>a.length+b.length
variable {c}
theorem mE(b:List F):dU c [] b=b.map fun f=>(is,f):=by unfold dU;rfl
theorem sZ(a:List F):dU c a []=a.map fun f=>(jp,f):=by
 cases a with
 |nil=>unfold dU;rfl
 |cons=>unfold dU;rfl
theorem A4(x y:F)(a b:List F):dU c (x::a) (y::b)=if c x y<0 then(jp,x)::dU c a (y::b) else if 0<c x y then(is,y)::dU c (x::a) b else dU c a b:=by
 rw[dU]
structure eM (c:F->F->Int) (ok:F->Bool) (S:List F):Prop where
 BY:qx c S
 ok: ∀f∈S,ok f=is
 RH:S.length<=65536
theorem eM.nil(c:F->F->Int)(ok:F->Bool):eM c ok []:=⟨XB,fun _ m=>(nomatch m),VB _⟩
variable [DecidableEq F]
def iM(c:F->F->Int)(ok:F->Bool)(S:List F)(l:List (b6 F)):Int:=
 if 4096<l.length then 2 else if(l.all fun x=>ok x.2)=jp then 5 else if 65536<(gn c S l).length then 3 else 0
abbrev Stt(F:Type):=List F×Nat
def jI(c:F->F->Int)(ok:F->Bool)(s:Stt F)(l:List (b6 F)):Stt F:=if iM c ok s.1 l=0 then(gn c s.1 l,s.2+1) else s
theorem jY{ok:F->Bool}{S:List F}{l:List (b6 F)}:iM c ok S l=0↔l.length<=4096∧(∀x∈l,ok x.2=is)∧(gn c S l).length<=65536:=by
 unfold iM;split
 .exact⟨fun e=>by simp at e,fun e=>by omega⟩
 .split
  .rename_i q r;refine⟨fun e=>by simp at e,fun e=>?_⟩;rw[Wc.2 e.2.1]at r;cases r
  .split
   .exact⟨fun e=>by simp at e,fun e=>by omega⟩
   .rename_i q r t;refine⟨fun _=>⟨by omega,?_,by omega⟩,fun _=>rfl⟩;rw[Bool.not_eq_false]at r;exact Wc.1 r
theorem eM.next(h:TO c){ok:F->Bool}{S:List F}{l:List (b6 F)}(hS:eM c ok S)(e:iM c ok S l=0):eM c ok (gn c S l):=by
 rw[jY]at e;refine⟨qG h S l,fun f m=>?_,e.2.2⟩;rcases(qZ h).1 m with q|⟨_,q⟩
 .exact e.2.1 _ (ia q)
 .exact hS.ok f q
end
section
variable {F:Type} [DecidableEq F]
def kJ:List (b6 F)->b6 F->List (b6 F)
 | [],c=> [c]
 |x::r,c=>if x.2=c.2 then c::r else x::kJ r c
def np(l:List (b6 F)):List (b6 F):=l.foldl kJ []
theorem A5{a:Bool}{f:F}: ∀{T:List (b6 F)} {c:b6 F},(T.map (·.2)).Nodup->((a,f)∈kJ T c↔(a,f)=c∨(f≠c.2∧(a,f)∈T))
 | [],c,_=>by simp[kJ]
 |x::r,c,hn=>by
  rw[Vy,Wb]at hn;unfold kJ;split
  .rename_i e;rw[VH,VH];constructor
   .rintro(q|q)
    .exact .inl q
    .refine .inr ⟨fun j=>hn.1 (V5.2 ⟨_,q,?_⟩),.inr q⟩;show f=x.2;rw[j,e]
   .rintro(q|⟨q,r1|r1⟩)
    .exact .inl q
    .exact absurd (by rw[<-e,<-r1]) q
    .exact .inr r1
  .rename_i e;rw[VH,VH,A5 hn.2];constructor
   .rintro(q|q|⟨q,r1⟩)
    .exact .inr ⟨fun j=>e (by rw[<-q];exact j),.inl q⟩
    .exact .inl q
    .exact .inr ⟨q,.inr r1⟩
   .rintro(q|⟨q,r1|r1⟩)
    .exact .inr (.inl q)
    .exact .inl r1
    .exact .inr (.inr ⟨q,r1⟩)
theorem vv{f:F}: ∀{T:List (b6 F)} {c:b6 F},f∈(kJ T c).map (·.2)↔f=c.2∨f∈T.map (·.2)
 | [],c=>by simp[kJ]
 |x::r,c=>by
  unfold kJ;split
  .rename_i e;simp only[Vy,VH];rw[e];constructor
   .rintro(q|q)
    .exact .inl q
    .exact .inr (.inr q)
   .rintro(q|q|q)
    .exact .inl q
    .exact .inl q
    .exact .inr q
  .simp only[Vy,VH,vv (T:=r)];constructor
   .rintro(q|q|q)
    .exact .inr (.inl q)
    .exact .inl q
    .exact .inr (.inr q)
   .rintro(q|q|q)
    .exact .inr (.inl q)
    .exact .inl q
    .exact .inr (.inr q)
theorem uZ: ∀{T:List (b6 F)} {c:b6 F},(T.map (·.2)).Nodup->((kJ T c).map (·.2)).Nodup
 | [],c,_=>by simp[kJ]
 |x::r,c,hn=>by
  rw[Vy,Wb]at hn;unfold kJ;split
  .rename_i e;rw[Vy,Wb,<-e];exact hn
  .rename_i e;rw[Vy,Wb,vv];exact⟨fun q=>q.elim e hn.1,uZ hn.2⟩
theorem CL(l:List (b6 F))(c:b6 F)(f:F):dI (l++ [c]) f=if c.2=f then co c.1 else dI l f:=by
 unfold dI;rw[List.reverse_append,List.reverse_singleton,Yi,List.find?_cons];by_cases e:c.2=f
 .rw[am e,decide_eq_true e];rfl
 .rw[be e,decide_eq_false e]
theorem qh(l:List (b6 F)):((np l).map (·.2)).Nodup∧ ∀(a:Bool) (f:F),(a,f)∈np l↔dI l f=co a:=by
 suffices key: ∀(m k:List (b6 F)) (T:List (b6 F)),(T.map (·.2)).Nodup->(∀(a:Bool) (f:F),(a,f)∈T↔dI k f=co a)->
   ((m.foldl kJ T).map (·.2)).Nodup∧ ∀(a:Bool) (f:F),(a,f)∈m.foldl kJ T↔dI (k++m) f=co a by
  have:=key l [] [] Wn fun a f=>by simp[dI]
  exact this
 intro m
 induction m with
 |nil=>intro k T h1 j;rw[We];exact⟨h1,j⟩
 |cons c m ih=>
  intro k T h1 j;have:=ih (k++ [c]) (kJ T c) (uZ h1) fun a f=>by
   rw[A5 h1,CL,j];by_cases e:c.2=f
   .rw[am e];constructor
    .rintro(q|⟨q,_⟩)
     .rw[<-q]
     .exact absurd e.symm q
    .intro q;left;have:=Wq q;rw[<-this,<-e]
   .rw[be e];constructor
    .rintro(q|⟨_,q⟩)
     .exact absurd (by rw[<-q]) e
     .exact q
    .intro q;exact .inr ⟨fun g=>e g.symm,q⟩
  rw[VF,Yi]at this;exact this
theorem mM{c:F->F->Int}(h:TO c)(S:List F)(l:List (b6 F)):((np l).filter fun x=>!(kw (x.2∈S)==x.1)).Perm (dC c S l):=by
 obtain⟨h1,u⟩:=qh l;have j: ∀{t:List (b6 F)},(t.map (·.2)).Nodup->t.Nodup:=fun{t} q=>by
  have:=List.pairwise_map.1 q;exact this.imp fun a e=>a (by rw[e])
 refine(W6 (XE _ (j h1)) (j ((v7.facts (oH h S l)).nodup h))).2 fun x=>?_;obtain⟨a,f⟩:=x;rw[V4,u,jk h];simp
theorem Fk{kc:Go.Al.KC}{key:F->kc.K}(T:List (b6 F))(c:b6 F)(j: ∀x∈T,key x.2=key c.2->x.2=c.2):
  Go.Al.cJ kc (T.map fun x=>(key x.2,x)) (key c.2) c=(kJ T c).map fun x=>(key x.2,x):=by
 induction T with
 |nil=>rfl
 |cons x r ih=>
  simp only[Vy,Go.Al.cJ,kJ];by_cases e:key x.2=key c.2
  .rw[am e,am (j x (VG ..) e),Vy]
  .rw[be e,be (fun q=>e (by rw[q])),Vy,ih fun u hu=>j u (VE _ hu)]
end
end
end Go.Bo
namespace Go.Proofs.YtlmhfgbkchnfbaaGreatDoor
open Go Go.Al Go.Proofs.Tryz Go.Bo
theorem xW: ∀a b:List UInt8,Lib.compareBytes a b=cmpL ot (a.map fun x=>(x.toNat:Int)) (b.map fun x=>(x.toNat:Int))
 | [],[]=>rfl
 | [],_::_=>rfl
 |_::_,[]=>rfl
 |x::a,y::b=>by
  simp only[Lib.compareBytes,Vy,cmpL,xW a b];have h1:(x<y)↔((x.toNat:Int)<(y.toNat:Int)):=by rw[UInt8.lt_iff_toNat_lt];omega
  have j:(y<x)↔((y.toNat:Int)<(x.toNat:Int)):=by rw[UInt8.lt_iff_toNat_lt];omega
  simp only[uT,ot,h1,j];split
  .simp
  .split
   .simp
   .simp
theorem wC(a b:aq)(w:World):(callFunc 200 #[.string a,.string b]).run prog w= .ok (.value (.int .i64 (r8 a b))) w:=by
 rw[run_callFunc_extern func200 (by kernel_rfl) (by kernel_rfl) (by kernel_rfl) (e:=Extern.BytealgCompare.compare) (by kernel_rfl),Lib.run_compareString,xW];rfl
theorem Hh(a b:aq):Pure prog 148 [pS a,pS b] (pI (r8 a b)):=by
 refine ah ab func148 Z (by decide) ntmps148 Z (by simp) Z ?_;refine gA Z (Ms (.int .i64 (r8 a b)) Z Z Z Z (wC a b) Z ?_);refine gA Z (aI (by first|exact .inr Z|exact .inl Z) Z (.of_eq ?_));rfl
theorem DO(a b:aq):Pure prog 110 [pS a,pS b] (pI (r8 a b)):=by
 refine ah ab func110 Z (by decide) ntmps110 Z (by simp) Z ?_;refine gA Z (aB (Hh a b) Z Z Z Z Z Z ?_);refine gA Z (aI (by first|exact .inr Z|exact .inl Z) Z (.of_eq ?_));rfl
theorem SU(n:Int):Pure prog 239 [pI n] (pB jp):=by
 refine ah ab func239 Z (by decide) ntmps239 Z (by simp) Z ?_;refine gA Z (aI (by first|exact .inr Z|exact .inl Z) Z (.of_eq ?_));show pB (!kw (n=n))=pB jp;simp
theorem OO(a b:Int):Pure prog 201 [pI a,pI b] (pI (ot a b)):=by
 refine ah ab func201 Z (by decide) ntmps201 Z (by simp) Z ?_;refine gA Z (aB (SU a) Z Z Z Z Z Z ?_);refine gA Z (aB (SU b) Z Z Z Z Z Z ?_);refine gA Z ?_;refine Vo (fun x=>?_) (fun x=>?_)
 .exact absurd x (by decide)
 refine gA Z ?_;refine Vo (fun y=>?_) (fun y=>?_)
 .exact absurd y (by decide)
 refine gA Z ?_;refine Vo (fun j=>?_) (fun j=>?_)
 .have j:a<b:=by simpa using j
  refine gA Z (aI (by first|exact .inr Z|exact .inl Z) Z (.of_eq ?_));rw[ot,am j];rfl
 have j: ¬a<b:=by simpa using j
 refine gA Z ?_;refine Vo (fun u=>?_) (fun u=>?_)
 .have u:b<a:=by simpa using u
  refine gA Z (aI (by first|exact .inr Z|exact .inl Z) Z (.of_eq ?_));rw[ot,be j,am u];rfl
 .have u: ¬b<a:=by simpa using u
  refine gA Z (aI (by first|exact .inr Z|exact .inl Z) Z (.of_eq ?_));rw[ot,be j,be u];rfl
def Gk:List Int->Int
 | []=>0
 |x::r=>uT x (Gk r)
theorem AU{l:List Int}{i:Nat}(h: ∀x∈l.take i,x=0):Gk l=Gk (l.drop i):=by
 induction i generalizing l with
 |zero=>rfl
 |succ i ih=>
  cases l with
  |nil=>rfl
  |cons x r=>
   have j:x=0:=h x (by simp);rw[Gk,j,uT,am Z,List.drop_succ_cons];exact ih fun y u=>h y (by simp[u])
theorem sOr(l:List Int)(hl:l.length<=100):bg prog 109 [.sl 0 0 l.length 1] [aV 1 l kg] (pI (Gk l)) [] 1:=by
 refine aj ab func109 Z (by decide) ntmps109 Z (by simp) ?_;refine jS 0 (fun k=>kg (l.getD k ci)) Z (cQ Z) (show AF.lO 0 1 (l.map fun x=>(kg x).map PV.iv).length [(0,.sl 0 0 l.length 1)] from⟨by simp[PV.ba],ac⟩) ⟨DW _ _ _ _ _ _,ac⟩ ?_;refine gA Z ?_;refine aM 0 l.length (VB _) (fun i=>⟨[(3,pI 0),(6,.iv (a7 1 l kg)),(7,pI l.length),(8,pI i)],[],1⟩) (fun i=> ∀x∈l.take i,x=0) [] (by simp)
  (wk Z Z Z (bi ⟨.bK Z (fun k _=>by rw[VL]),rfl,bi (bi trivial)⟩) trivial Z) fun i A u=>?_
 refine gA Z ?_;refine Vo (fun h1=>?_) (fun h1=>?_)
 .have h1:i<l.length:=by simpa using h1
  have hd:l.drop i=l.getD i ci::l.drop (i+1):=by
   rw[Vr,Vt h1,Wv,Xc h1]
  refine gA Z ?_;refine Vo (fun j=>?_) (fun j=>?_)
  .have j: ¬l.getD i ci=0:=by simpa using j
   have:Gk l=l.getD i ci:=by rw[AU u,hd,Gk,uT,be j]
   rw[this];refine gA Z (ar [] (by first|exact .inr Z|exact .inl Z) Z (wk Z Z Z (bi ac) ac Z))
  .have j:l.getD i ci=0:=by simpa using j
   refine gA Z ?_;refine⟨h1,fun x y=>?_,[],wk Z Z Z (bi (bi (bi (bi ac)))) ac Z⟩;rw[bS h1,VM,Vz]at y;exact y.elim (u x) fun e=>e.trans j
 .have h1:l.length<=i:=by simpa using h1
  have:Gk l=0:=by rw[AU u,WW h1];rfl
  rw[this];refine gA Z (ar [] (by first|exact .inr Z|exact .inl Z) Z (wk Z Z Z (bi ac) ac Z))
theorem S5(a b:cN):Pure prog 150 [ag a.c,ag b.c] (pI (BL a b)):=by
 have e:BL a b=Gk [ot a.kind b.kind,ot a.num b.num,r8 a.sym b.sym]:=by
  simp only[BL,Gk];have:uT (r8 a.sym b.sym) 0=r8 a.sym b.sym:=by unfold uT;split<;>simp_all
  rw[this]
 rw[e];refine ah ab func150 Z (by decide) ntmps150 Z (by simp) Z ?_;refine gA Z (bc ab [] (Pure.nv (OO a.kind b.kind)) Z Z Z Z Z Z Z Z Z Z Z Z (by(repeat' (first|exact ac|exact rfl|exact ae.refl _|exact ae.bk (by assumption)|apply Vo))<;>first|omega|(simp only[Vu];omega)|(simp;done)|(simp;omega)) Z (by(repeat' (first|exact ac|exact rfl|exact ae.refl _|exact ae.bk (by assumption)|apply Vo))<;>first|omega|(simp only[Vu];omega)|(simp;done)|(simp;omega)) ?_);refine gA Z (bc ab [] (Pure.nv (OO a.num b.num)) Z Z Z Z Z Z Z Z Z Z Z Z (by(repeat' (first|exact ac|exact rfl|exact ae.refl _|exact ae.bk (by assumption)|apply Vo))<;>first|omega|(simp only[Vu];omega)|(simp;done)|(simp;omega)) Z (by(repeat' (first|exact ac|exact rfl|exact ae.refl _|exact ae.bk (by assumption)|apply Vo))<;>first|omega|(simp only[Vu];omega)|(simp;done)|(simp;omega)) ?_);refine gA Z (bc ab [] (Pure.nv (DO a.sym b.sym)) Z Z Z Z Z Z Z Z Z Z Z Z (by(repeat' (first|exact ac|exact rfl|exact ae.refl _|exact ae.bk (by assumption)|apply Vo))<;>first|omega|(simp only[Vu];omega)|(simp;done)|(simp;omega)) Z (by(repeat' (first|exact ac|exact rfl|exact ae.refl _|exact ae.bk (by assumption)|apply Vo))<;>first|omega|(simp only[Vu];omega)|(simp;done)|(simp;omega)) ?_);refine gA Z (bc ab [2] (sOr [ot a.kind b.kind,ot a.num b.num,r8 a.sym b.sym] (by simp)) Z Z Z Z Z Z Z Z Z Z Z Z (by(repeat' (first|exact ac|exact rfl|exact ae.refl _|exact ae.bk (by assumption)|apply Vo))<;>first|omega|(simp only[Vu];omega)|(simp;done)|(simp;omega)) Z (by(repeat' (first|exact ac|exact rfl|exact ae.refl _|exact ae.bk (by assumption)|apply Vo))<;>first|omega|(simp only[Vu];omega)|(simp;done)|(simp;omega)) ?_);refine gA Z (aI (by first|exact .inr Z|exact .inl Z) Z (.of_eq ?_));rfl
theorem Qi(a b:List cN)(ha:a.length<=1000000000)(hb:b.length<=1000000000):Pure prog 149 [.iv (a7 3 a cN.c),.iv (a7 3 b cN.c),.cm (.func 150) [] []] (pI (vI a b)):=by
 refine ah ab func149 Z (by decide) ntmps149 Z (by simp) Z ?_;refine gA Z ?_;refine aM 0 a.length (VB _) (fun i=>⟨[(0,.iv (a7 3 a cN.c)),(1,.iv (a7 3 b cN.c)),(2,.cm (.func 150) [] []),(11,.iv (a7 3 a cN.c)),(12,pI a.length),(13,pI i)],[],0⟩) (fun i=>i<=b.length∧vI a b=vI (a.drop i) (b.drop i)) [] ⟨VB _,rfl⟩
  (wk Z Z Z (bi (bi (bi (bi (bi (bi trivial)))))) trivial Z) fun i C x=>?_
 obtain⟨B,x⟩:=x;refine gA Z ?_;refine Vo (fun h1=>?_) (fun h1=>?_)
 .have h1:i<a.length:=by simpa using h1
  have hd:a.drop i=a.getD i ci::a.drop (i+1):=by
   rw[Vr,Vt h1,Wv,Xc h1]
  refine gA Z ?_;refine Vo (fun j=>?_) (fun j=>?_)
  .have j:b.length<=i:=by simpa using j
   rw[x,hd,WW j];refine gA Z (aI (by first|exact .inr Z|exact .inl Z) Z (.of_eq ?_));rfl
  .have j:i<b.length:=by simpa using j
   have A:b.drop i=b.getD i ci::b.drop (i+1):=by
    rw[Vr,Vt j,Wv,Xc j]
   have hs:vI a b=uT (BL (a.getD i ci) (b.getD i ci)) (vI (a.drop (i+1)) (b.drop (i+1))):=by rw[x,hd,A];rfl
   refine gA Z (aB (S5 (a.getD i ci) (b.getD i ci)) Z Z Z Z Z Z ?_);refine gA Z ?_;refine Vo (fun u=>?_) (fun u=>?_)
   .have u: ¬BL (a.getD i ci) (b.getD i ci)=0:=by simpa using u
    rw[hs,uT,be u];refine gA Z (aI (by first|exact .inr Z|exact .inl Z) Z (.of_eq ?_));rfl
   .have u:BL (a.getD i ci) (b.getD i ci)=0:=by simpa using u
    refine gA Z ⟨h1,⟨j,by rw[hs,u,uT,am Z]⟩,[],wk Z Z Z (bi (bi (bi (bi (bi (bi ac)))))) ac Z⟩
 .have h1:a.length<=i:=by simpa using h1
  have y:i=a.length:=by omega
  subst y;rw[x,WW (VA a.length)];refine gA Z ?_;refine Vo (fun j=>?_) (fun j=>?_)
  .have j:a.length<b.length:=by simpa using j
   rw[Xc j];refine gA Z (aI (by first|exact .inr Z|exact .inl Z) Z (.of_eq ?_));rfl
  .have j:b.length<=a.length:=by simpa using j
   rw[WW j];refine gA Z (aI (by first|exact .inr Z|exact .inl Z) Z (.of_eq ?_));rfl
theorem S6(a b:List cN)(ha:a.length<=1000000000)(hb:b.length<=1000000000):Pure prog 111 [.iv (a7 3 a cN.c),.iv (a7 3 b cN.c)] (pI (vI a b)):=by
 refine ah ab func111 Z (by decide) ntmps111 Z (by simp) Z ?_;refine gA Z (aB (Qi a b ha hb) Z Z Z Z Z Z ?_);refine gA Z (aI (by first|exact .inr Z|exact .inl Z) Z (.of_eq ?_));rfl
theorem pf(a b:Fact)(ha:a.args.length<=1000000000)(hb:b.args.length<=1000000000):Pure prog 73 [ag a.c,ag b.c] (pI (aY a b)):=by
 have e:aY a b=Gk [r8 a.rel b.rel,vI a.args b.args]:=by
  simp only[aY,Gk];have:uT (vI a.args b.args) 0=vI a.args b.args:=by unfold uT;split<;>simp_all
  rw[this]
 rw[e];refine ah ab func73 Z (by decide) ntmps73 Z (by simp) Z ?_;refine gA Z (bc ab [] (Pure.nv (DO a.rel b.rel)) Z Z Z Z Z Z Z Z Z Z Z Z (by(repeat' (first|exact ac|exact rfl|exact ae.refl _|exact ae.bk (by assumption)|apply Vo))<;>first|omega|(simp only[Vu];omega)|(simp;done)|(simp;omega)) Z (by(repeat' (first|exact ac|exact rfl|exact ae.refl _|exact ae.bk (by assumption)|apply Vo))<;>first|omega|(simp only[Vu];omega)|(simp;done)|(simp;omega)) ?_);refine gA Z (bc ab [] (Pure.nv (S6 a.args b.args ha hb)) Z Z Z Z Z Z Z Z Z Z Z Z (by(repeat' (first|exact ac|exact rfl|exact ae.refl _|exact ae.bk (by assumption)|apply Vo))<;>first|omega|(simp only[Vu];omega)|(simp;done)|(simp;omega)) Z (by(repeat' (first|exact ac|exact rfl|exact ae.refl _|exact ae.bk (by assumption)|apply Vo))<;>first|omega|(simp only[Vu];omega)|(simp;done)|(simp;omega)) ?_);refine gA Z (bc ab [2] (sOr [r8 a.rel b.rel,vI a.args b.args] (by simp)) Z Z Z Z Z Z Z Z Z Z Z Z (by(repeat' (first|exact ac|exact rfl|exact ae.refl _|exact ae.bk (by assumption)|apply Vo))<;>first|omega|(simp only[Vu];omega)|(simp;done)|(simp;omega)) Z (by(repeat' (first|exact ac|exact rfl|exact ae.refl _|exact ae.bk (by assumption)|apply Vo))<;>first|omega|(simp only[Vu];omega)|(simp;done)|(simp;omega)) ?_);refine gA Z (aI (by first|exact .inr Z|exact .inl Z) Z (.of_eq ?_));rfl
def fb(x:b6 Fact):List IV:= .v (.bool x.1)::x.2.c
theorem Lz(a b:b6 Fact)(ha:a.2.args.length<=1000000000)(hb:b.2.args.length<=1000000000):Pure prog 83 [ag (fb a),ag (fb b)] (pI (aY a.2 b.2)):=by
 refine ah ab func83 Z (by decide) ntmps83 Z (by simp) Z ?_;refine gA Z (aB (pf a.2 b.2 ha hb) Z Z Z Z Z Z ?_);refine gA Z (aI (by first|exact .inr Z|exact .inl Z) Z (.of_eq ?_));rfl
section
theorem yS{a b:Int}(h:a=b):ae (pI a) (pI b):=h▸ .refl _
theorem fH{α:Type}[Inhabited α](l:List α)(f:α->List IV):((V0 l.length).map fun k=>(f (l.getD k ci)).map PV.iv)=l.map fun x=>(f x).map PV.iv:=by
 refine XX (by simp) fun i h1 j=>?_;simp only[VS]at j;simp[Vt j]
def Up(L:List Fact):Prop:= ∀i j,i<j->j<L.length-> ¬aY (L.getD j ci) (L.getD i ci)<0
theorem RT{L:List Fact}(h:qx aY L):Up L:=fun i j u x=>by
 have:=(WI.1 h) i j (by omega) x u;rw[Vr,Vr,Vt x,Vt (by omega:i<L.length)];exact o6.asym this
def ye(L:List Fact):Prop:= ∀f∈L,f.args.length<=1000000000
theorem FY{L:List Fact}{i:Nat}(hi:i<L.length):L.getD i ci∈L:=by
 rw[Vr,Vt hi];exact Wj hi
theorem ye.at{L:List Fact}(h:ye L){i:Nat}(hi:i<L.length):(L.getD i ci).args.length<=1000000000:=h _ (FY hi)
abbrev kB:PV:= .cm (.func 73) [] []
abbrev o9(L:List Fact):PV:= .iv (a7 2 L Fact.c)
theorem rh(i j:Nat)(h:i+j<=4000000000000):IntKind.i64.wrap (Int.fdiv (IntKind.u64.wrap ((i:Int)+(j:Int))) (2 ^ min (XP 1) IntKind.u64.bits))=(((i+j)/2:Nat):Int):=by
 have h1:IntKind.u64.wrap ((i:Int)+(j:Int))=((i+j:Nat):Int):=by simp[IntKind.wrap,IntKind.bits,IntKind.signed];omega
 rw[h1];have u:Int.fdiv (((i+j:Nat)):Int) (2 ^ min (XP 1) IntKind.u64.bits)=(((i+j)/2:Nat):Int):=by
  show Int.fdiv _ 2=_;rw[WL _ (by decide)];omega
 rw[u];simp[IntKind.wrap,IntKind.bits,IntKind.signed];omega
section
variable {L:List Fact} (hu:Up L) (hF:ye L) (hl:L.length<=1000000000000)
include hu hF hl
theorem S2(a b:Nat)(j:a<=b)(hb:b<=L.length):Pure prog 138 [o9 L,pI a,pI b,kB] (.aZ []):=by
 refine ah ab func138 Z (by decide) ntmps138 Z (by simp) Z ?_;refine gA Z ?_;refine aM (a+1) (max (a+1) b) (Nat.le_max_left _ _) (fun i=>⟨[(0,o9 L),(1,pI a),(2,pI b),(3,kB),(8,pI i)],[],0⟩) (fun i=>a+1<=i) [] (VA _)
  (wk Z Z Z (bi (bi (bi (bi (bi trivial))))) trivial Z) fun i x u=>?_
 refine gA Z ?_;refine Vo (fun h1=>?_) (fun h1=>?_)
 .have h1:i<b:=by simpa using h1
  refine gA Z (mR (n:=0) ?_);have e:((i:Int)-1).toNat=i-1:=by omega
  refine gA Z ?_;refine Vo (fun g1=>?_) (fun g1=>?_)
  .refine gA Z (bc ab [] (Pure.nv (pf (L.getD i ci) (L.getD ((i:Int)-1).toNat ci) (hF.at (by omega)) (hF.at (by omega)))) Z Z Z Z Z Z Z Z Z Z Z Z (by(repeat' (first|exact ac|exact rfl|exact ae.refl _|exact ae.bk (by assumption)|apply Vo))<;>first|omega|(simp only[Vu];omega)|(simp;done)|(simp;omega)) Z (by(repeat' (first|exact ac|exact rfl|exact ae.refl _|exact ae.bk (by assumption)|apply Vo))<;>first|omega|(simp only[Vu];omega)|(simp;done)|(simp;omega)) ?_);refine gA Z ?_;refine Vo (fun g2=>?_) (fun g2=>?_)
   .exact absurd (of_decide_eq_true g2) (by rw[e];exact hu (i-1) i (by omega) (by omega))
   .refine gA Z ?_;exact⟨by omega,by omega,[],wk Z Z Z (bi (bi (bi (bi (bi ac))))) ac Z⟩
  .exact absurd g1 (by simp;omega)
 .refine gA Z (aI (by first|exact .inr Z|exact .inl Z) Z (.of_eq ?_));rfl
theorem SG: ∀(n a m b:Nat),b-a<=n->a<m->m<b->b<=L.length->Pure prog 241 [o9 L,pI a,pI m,pI b,kB] (.aZ []):=by
 intro n
 induction n with
 |zero=>intro a m b h0 h1 Y h3;omega
 |succ n ih=>
  intro a m b h0 h1 Y h3;refine ah ab func241 Z (by decide) ntmps241 Z (by simp) Z ?_;refine gA Z ?_;refine Vo (fun I=>?_) (fun I=>?_)
  .have I:m=a+1:=by have:=of_decide_eq_true I;(try dsimp only at this);omega
   refine gA Z (ic (σ:={j:Nat//m<=j∧j<=b}) (fun j=>⟨[(0,o9 L),(1,pI a),(2,pI m),(3,pI b),(4,kB),(10,pI m),(11,pI j.1)],[],0⟩) (fun j=>j.1-m) ⟨b,by omega,VA _⟩ []
    (wk Z Z Z (bi (bi (bi (bi (bi (bi (bi ac))))))) ac Z) fun j=>?_)
   obtain⟨j,j1,j2⟩:=j;refine gA Z ?_;refine Vo (fun g1=>?_) (fun g1=>?_)
   .have g1:m<j:=by simpa using g1
    have x:=rh m j (by omega)
    (refine gM 12 Z ?_;refine cP (L:=[]) (t:=⟨[(0,o9 L),(1,pI a),(2,pI m),(3,pI b),(4,kB),(10,pI m),(11,pI j),(12,pI ((m+j)/2:Nat))],[],0⟩) (wk Z Z Z (bi (bi (bi (bi (bi (bi (bi ⟨yS x,rfl,ac⟩))))))) ac Z) ?_)
    refine gA Z (bc ab [] (Pure.nv (pf (L.getD ((m+j)/2) ci) (L.getD a ci) (hF.at (by omega)) (hF.at (by omega)))) Z Z Z Z Z Z Z Z Z Z Z Z (by(repeat' (first|exact ac|exact rfl|exact ae.refl _|exact ae.bk (by assumption)|apply Vo))<;>first|omega|(simp only[Vu];omega)|(simp;done)|(simp;omega)) Z (by(repeat' (first|exact ac|exact rfl|exact ae.refl _|exact ae.bk (by assumption)|apply Vo))<;>first|omega|(simp only[Vu];omega)|(simp;done)|(simp;omega)) ?_);refine gA Z ?_;refine Vo (fun g2=>?_) (fun g2=>?_)
    .exact absurd (of_decide_eq_true g2) (hu a ((m+j)/2) (by omega) (by omega))
    .refine gA Z ?_;exact⟨⟨(m+j)/2,by omega,by omega⟩,[],by show(m+j)/2-m<j-m;omega,wk Z Z Z (bi (bi (bi (bi (bi (bi (bi ac))))))) ac Z⟩
   .refine gA Z (mR (n:=0) ?_);refine gA Z ?_;refine Vo (fun g3=>?_) (fun g3=>?_)
    .exact absurd g3 (by simp;omega)
    .refine gA Z (aI (by first|exact .inr Z|exact .inl Z) Z (.of_eq ?_));rfl
  have I: ¬m=a+1:=by have:=of_decide_eq_false I;(try dsimp only at this);omega
  refine gA Z ?_;refine Vo (fun J=>?_) (fun J=>?_)
  .have J:b=m+1:=by have:=of_decide_eq_true J;(try dsimp only at this);omega
   refine gA Z (ic (σ:={i:Nat//a<=i∧i<=m}) (fun i=>⟨[(0,o9 L),(1,pI a),(2,pI m),(3,pI b),(4,kB),(14,pI i.1),(15,pI m)],[],0⟩) (fun i=>m-i.1) ⟨a,VA _,by omega⟩ []
    (wk Z Z Z (bi (bi (bi (bi (bi (bi (bi ac))))))) ac Z) fun i=>?_)
   obtain⟨i,i1,i2⟩:=i;refine gA Z ?_;refine Vo (fun g1=>?_) (fun g1=>?_)
   .have g1:i<m:=by simpa using g1
    have x:=rh i m (by omega)
    (refine gM 12 Z ?_;refine cP (L:=[]) (t:=⟨[(0,o9 L),(1,pI a),(2,pI m),(3,pI b),(4,kB),(14,pI i),(15,pI m),(16,pI ((i+m)/2:Nat))],[],0⟩) (wk Z Z Z (bi (bi (bi (bi (bi (bi (bi ⟨yS x,rfl,ac⟩))))))) ac Z) ?_)
    refine gA Z (bc ab [] (Pure.nv (pf (L.getD m ci) (L.getD ((i+m)/2) ci) (hF.at (by omega)) (hF.at (by omega)))) Z Z Z Z Z Z Z Z Z Z Z Z (by(repeat' (first|exact ac|exact rfl|exact ae.refl _|exact ae.bk (by assumption)|apply Vo))<;>first|omega|(simp only[Vu];omega)|(simp;done)|(simp;omega)) Z (by(repeat' (first|exact ac|exact rfl|exact ae.refl _|exact ae.bk (by assumption)|apply Vo))<;>first|omega|(simp only[Vu];omega)|(simp;done)|(simp;omega)) ?_);refine gA Z ?_;refine Vo (fun g2=>?_) (fun g2=>?_)
    .refine gA Z ?_;exact⟨⟨(i+m)/2+1,by omega,by omega⟩,[],by show m-((i+m)/2+1)<m-i;omega,wk Z Z Z (bi (bi (bi (bi (bi (bi (bi ac))))))) ac Z⟩
    .have g2:aY (L.getD m ci) (L.getD ((i+m)/2) ci)<0:=by simpa using g2
     exact absurd g2 (hu ((i+m)/2) m (by omega) (by omega))
   .have g1:m<=i:=by simpa using g1
    have:i=m:=by omega
    subst this;refine gA Z (mR (n:=0) ?_);refine gA Z ?_;refine Vo (fun g3=>?_) (fun g3=>?_)
    .exact absurd g3 (by simp)
    .refine gA Z (aI (by first|exact .inr Z|exact .inl Z) Z (.of_eq ?_));rfl
  have J: ¬b=m+1:=by have:=of_decide_eq_false J;(try dsimp only at this);omega
  have x:=rh a b (by omega);obtain⟨u,C⟩: ∃u,u=(a+b)/2:=⟨_,rfl⟩
  rw[<-C]at x
  (refine gM 11 Z ?_;refine cP (L:=[]) (t:=⟨[(0,o9 L),(1,pI a),(2,pI m),(3,pI b),(4,kB),(18,pI u)],[],0⟩) (wk Z Z Z (bi (bi (bi (bi (bi ⟨yS x,rfl,ac⟩))))) ac Z) ?_)
  refine gA Z ?_;refine Vo (fun A=>?_) (fun A=>?_)
  .have A:u<m:=by simpa using A
   refine gA Z (ic (σ:={st:Nat//u+m-b<=st∧st<=u}) (fun st=>⟨[(0,o9 L),(1,pI a),(2,pI m),(3,pI b),(4,kB),(18,pI u),(19,pI (u+m:Nat)),(20,pI st.1),(21,pI u),(22,pI (u+m-1:Nat))],[],0⟩) (fun st=>u-st.1) ⟨u+m-b,VA _,by omega⟩ []
    (wk Z Z Z (bi (bi (bi (bi (bi (bi (bi ⟨yS (by(try dsimp only);omega),rfl,bi ⟨yS (by(try dsimp only);omega),rfl,ac⟩⟩))))))) ac Z) fun st=>?_)
   obtain⟨st,s1,s2⟩:=st;refine gA Z ?_;refine Vo (fun g1=>?_) (fun g1=>?_)
   .have g1:st<u:=by simpa using g1
    have x:=rh st u (by omega);obtain⟨c,hc⟩: ∃c,c=(st+u)/2:=⟨_,rfl⟩
    rw[<-hc]at x
    (refine gM 12 Z ?_;refine cP (L:=[]) (t:=⟨[(0,o9 L),(1,pI a),(2,pI m),(3,pI b),(4,kB),(18,pI u),(19,pI (u+m:Nat)),(20,pI st),(21,pI u),(22,pI (u+m-1:Nat)),(23,pI c)],[],0⟩) (wk Z Z Z (bi (bi (bi (bi (bi (bi (bi (bi (bi (bi ⟨yS x,rfl,ac⟩)))))))))) ac Z) ?_)
    have e:(((u+m-1:Nat):Int)-(c:Int)).toNat=u+m-1-c:=by omega
    refine gA Z (bc ab [] (Pure.nv (pf (L.getD (((u+m-1:Nat):Int)-(c:Int)).toNat ci) (L.getD c ci) (hF.at (by omega)) (hF.at (by omega)))) Z Z Z Z Z Z Z Z Z Z Z Z (by(repeat' (first|exact ac|exact rfl|exact ae.refl _|exact ae.bk (by assumption)|apply Vo))<;>first|omega|(simp only[Vu];omega)|(simp;done)|(simp;omega)) Z (by(repeat' (first|exact ac|exact rfl|exact ae.refl _|exact ae.bk (by assumption)|apply Vo))<;>first|omega|(simp only[Vu];omega)|(simp;done)|(simp;omega)) ?_);refine gA Z ?_;refine Vo (fun g2=>?_) (fun g2=>?_)
    .refine gA Z ?_;exact⟨⟨c+1,by omega,by omega⟩,[],by show u-(c+1)<u-st;omega,wk Z Z Z (bi (bi (bi (bi (bi (bi (bi (bi (bi (bi ac)))))))))) ac Z⟩
    .have g2:aY (L.getD (((u+m-1:Nat):Int)-(c:Int)).toNat ci) (L.getD c ci)<0:=by simpa using g2
     rw[e]at g2;exact absurd g2 (hu c (u+m-1-c) (by omega) (by omega))
   .have g1:u<=st:=by simpa using g1
    have:st=u:=by omega
    subst this
    (refine gM 8 Z ?_;refine cP (L:=[]) (t:=⟨[(0,o9 L),(1,pI a),(2,pI m),(3,pI b),(4,kB),(18,pI st),(20,pI st),(24,pI m)],[],0⟩) (wk Z Z Z (bi (bi (bi (bi (bi (bi (bi ⟨yS (by(try dsimp only);omega),rfl,ac⟩))))))) ac Z) ?_)
    refine gA Z ?_;refine Vo (fun D=>?_) (fun D=>?_);rotate_left
    .exact absurd A (by simpa using D)
    refine gA Z ?_;refine Vo (fun k2=>?_) (fun k2=>?_)
    .exact absurd k2 (by simp)
    refine gA Z ?_;refine Vo (fun G=>?_) (fun G=>?_);rotate_left
    .exact absurd (show a<st by omega) (by simpa using G)
    refine gA Z ?_;refine Vo (fun B=>?_) (fun B=>?_)
    .exact absurd B (by simp)
    refine gA Z ?_;refine Vo (fun y=>?_) (fun y=>?_);rotate_left
    .exact absurd A (by simpa using y)
    refine gA Z ?_;refine Vo (fun k6=>?_) (fun k6=>?_)
    .refine gA Z (aB (ih st m b (by omega) A Y h3) Z Z Z Z Z Z ?_);refine gA Z (aI (by first|exact .inr Z|exact .inl Z) Z (.of_eq ?_));rfl
    .exact absurd Y (by simpa using k6)
  .have A:m<=u:=by simpa using A
   refine gA Z (ic (σ:={st:Nat//a<=st∧st<=m}) (fun st=>⟨[(0,o9 L),(1,pI a),(2,pI m),(3,pI b),(4,kB),(18,pI u),(19,pI (u+m:Nat)),(20,pI st.1),(21,pI m),(22,pI (u+m-1:Nat))],[],0⟩) (fun st=>m-st.1) ⟨a,VA _,by omega⟩ []
    (wk Z Z Z (bi (bi (bi (bi (bi (bi ⟨yS (by(try dsimp only);omega),rfl,bi (bi ⟨yS (by(try dsimp only);omega),rfl,ac⟩)⟩)))))) ac Z) fun st=>?_)
   obtain⟨st,s1,s2⟩:=st;refine gA Z ?_;refine Vo (fun g1=>?_) (fun g1=>?_)
   .have g1:st<m:=by simpa using g1
    have x:=rh st m (by omega);obtain⟨c,hc⟩: ∃c,c=(st+m)/2:=⟨_,rfl⟩
    rw[<-hc]at x
    (refine gM 12 Z ?_;refine cP (L:=[]) (t:=⟨[(0,o9 L),(1,pI a),(2,pI m),(3,pI b),(4,kB),(18,pI u),(19,pI (u+m:Nat)),(20,pI st),(21,pI m),(22,pI (u+m-1:Nat)),(23,pI c)],[],0⟩) (wk Z Z Z (bi (bi (bi (bi (bi (bi (bi (bi (bi (bi ⟨yS x,rfl,ac⟩)))))))))) ac Z) ?_)
    have e:(((u+m-1:Nat):Int)-(c:Int)).toNat=u+m-1-c:=by omega
    refine gA Z (bc ab [] (Pure.nv (pf (L.getD (((u+m-1:Nat):Int)-(c:Int)).toNat ci) (L.getD c ci) (hF.at (by omega)) (hF.at (by omega)))) Z Z Z Z Z Z Z Z Z Z Z Z (by(repeat' (first|exact ac|exact rfl|exact ae.refl _|exact ae.bk (by assumption)|apply Vo))<;>first|omega|(simp only[Vu];omega)|(simp;done)|(simp;omega)) Z (by(repeat' (first|exact ac|exact rfl|exact ae.refl _|exact ae.bk (by assumption)|apply Vo))<;>first|omega|(simp only[Vu];omega)|(simp;done)|(simp;omega)) ?_);refine gA Z ?_;refine Vo (fun g2=>?_) (fun g2=>?_)
    .refine gA Z ?_;exact⟨⟨c+1,by omega,by omega⟩,[],by show m-(c+1)<m-st;omega,wk Z Z Z (bi (bi (bi (bi (bi (bi (bi (bi (bi (bi ac)))))))))) ac Z⟩
    .have g2:aY (L.getD (((u+m-1:Nat):Int)-(c:Int)).toNat ci) (L.getD c ci)<0:=by simpa using g2
     rw[e]at g2;exact absurd g2 (hu c (u+m-1-c) (by omega) (by omega))
   .have g1:m<=st:=by simpa using g1
    have:st=m:=by omega
    subst this
    (refine gM 8 Z ?_;refine cP (L:=[]) (t:=⟨[(0,o9 L),(1,pI a),(2,pI st),(3,pI b),(4,kB),(18,pI u),(20,pI st),(24,pI u)],[],0⟩) (wk Z Z Z (bi (bi (bi (bi (bi (bi (bi ⟨yS (by(try dsimp only);omega),rfl,ac⟩))))))) ac Z) ?_)
    refine gA Z ?_;refine Vo (fun D=>?_) (fun D=>?_)
    .exact absurd D (by simp)
    refine gA Z ?_;refine Vo (fun G=>?_) (fun G=>?_);rotate_left
    .exact absurd h1 (by simpa using G)
    refine gA Z ?_;refine Vo (fun B=>?_) (fun B=>?_)
    .have B:st<u:=by simpa using B
     refine gA Z (aB (ih a st u (by omega) h1 B (by omega)) Z Z Z Z Z Z ?_);refine gA Z ?_;refine Vo (fun y=>?_) (fun y=>?_)
     .exact absurd y (by simp)
     refine gA Z (aI (by first|exact .inr Z|exact .inl Z) Z (.of_eq ?_));rfl
    .refine gA Z ?_;refine Vo (fun y=>?_) (fun y=>?_)
     .exact absurd y (by simp)
     refine gA Z (aI (by first|exact .inr Z|exact .inl Z) Z (.of_eq ?_));rfl
theorem Ln:Pure prog 206 [o9 L,pI L.length,kB] (.aZ []):=by
 refine ah ab func206 Z (by decide) ntmps206 Z (by simp) Z ?_
 refine gA Z (ic (σ:={i:Nat//i<=L.length}) (fun i=>⟨[(0,o9 L),(1,pI L.length),(2,kB),(6,pI 20),(7,pI i.1),(8,pI (i.1+20:Nat))],[],0⟩) (fun i=>L.length-i.1) ⟨0,VB _⟩ []
  (wk Z Z Z (bi (bi (bi (bi (bi (bi ac)))))) ac Z) fun i=>?_)
 obtain⟨i,i1⟩:=i;refine gA Z ?_;refine Vo (fun g1=>?_) (fun g1=>?_)
 .have g1:i+20<=L.length:=by have:=of_decide_eq_true g1;(try dsimp only at this);omega
  refine gA Z (aB (S2 hu hF hl i (i+20) (by omega) g1) Z Z Z Z Z Z ?_);refine gA Z ⟨⟨i+20,g1⟩,[],by show L.length-(i+20)<L.length-i;omega,wk Z Z Z (bi (bi (bi (bi (bi ⟨yS (by(try dsimp only);omega),rfl,ac⟩))))) ac Z⟩
 .refine gA Z (aB (S2 hu hF hl i L.length (by omega) (VA _)) Z Z Z Z Z Z ?_)
  refine gA Z (ic (σ:={bs:Nat//0<bs∧bs<=2*L.length+20}) (fun bs=>⟨[(0,o9 L),(1,pI L.length),(2,kB),(6,pI bs.1)],[],0⟩) (fun bs=>2*L.length+20-bs.1) ⟨20,by omega,by omega⟩ []
   (wk Z Z Z (bi (bi (bi (bi ac)))) ac Z) fun bs=>?_)
  obtain⟨bs,j,u⟩:=bs;refine gA Z ?_;refine Vo (fun g2=>?_) (fun g2=>?_)
  .have g2:bs<L.length:=by simpa using g2
   refine gA Z (ic (σ:={i:Nat//i<=L.length}) (fun i=>⟨[(0,o9 L),(1,pI L.length),(2,kB),(6,pI bs),(7,pI i.1),(8,pI (i.1+2*bs:Nat))],[],0⟩) (fun i=>L.length-i.1) ⟨0,VB _⟩ []
    (wk Z Z Z (bi (bi (bi (bi (bi ⟨yS (by(try dsimp only);omega),rfl,ac⟩))))) ac Z) fun i=>?_)
   obtain⟨i,i1⟩:=i;refine gA Z ?_;refine Vo (fun g3=>?_) (fun g3=>?_)
   .have g3:i+2*bs<=L.length:=by have:=of_decide_eq_true g3;(try dsimp only at this);omega
    refine gA Z (aB (SG hu hF hl (2*bs) i (i+bs) (i+2*bs) (by omega) (by omega) (by omega) g3) Z Z Z Z Z Z ?_);refine gA Z ⟨⟨i+2*bs,g3⟩,[],by show L.length-(i+2*bs)<L.length-i;omega,wk Z Z Z (bi (bi (bi (bi (bi ⟨yS (by(try dsimp only);omega),rfl,ac⟩))))) ac Z⟩
   .refine gA Z ?_;refine Vo (fun g4=>?_) (fun g4=>?_)
    .have g4:i+bs<L.length:=by have:=of_decide_eq_true g4;(try dsimp only at this);omega
     refine gA Z (aB (SG hu hF hl L.length i (i+bs) L.length (by omega) (by omega) g4 (VA _)) Z Z Z Z Z Z ?_);refine gA Z ⟨⟨2*bs,by omega,by omega⟩,[],by show 2*L.length+20-2*bs<2*L.length+20-bs;omega,wk Z Z Z (bi (bi (bi ⟨yS (by(try dsimp only);omega),rfl,ac⟩))) ac Z⟩
    .refine gA Z ?_;exact⟨⟨2*bs,by omega,by omega⟩,[],by show 2*L.length+20-2*bs<2*L.length+20-bs;omega,wk Z Z Z (bi (bi (bi ⟨yS (by(try dsimp only);omega),rfl,ac⟩))) ac Z⟩
  .refine gA Z (aI (by first|exact .inr Z|exact .inl Z) Z (.of_eq ?_));rfl
theorem G2:Pure prog 164 [o9 L,kB] (.aZ []):=by
 refine ah ab func164 Z (by decide) ntmps164 Z (by simp) Z ?_;refine gA Z (aB (Ln hu hF hl) Z Z Z Z Z Z ?_);refine gA Z (aI (by first|exact .inr Z|exact .inl Z) Z (.of_eq ?_));rfl
end
end
theorem DQ(l:List Int)(hb:l.length<=10000000000):Pure prog 69 [.iv (a7 1 l kg)] (.iv (a7 1 l kg)):=by
 refine ah ab func69 Z (by decide) ntmps69 Z (by simp) Z ?_;refine fP Z ac (jo Z Z Z Z underlying35 Z fun b u=>?_);refine gA Z ?_;refine Vo (fun x=>?_) (fun x=>?_)
 .have j:l=[]:=V9 (u x);subst j;refine gA Z (aI (by first|exact .inr Z|exact .inl Z) Z ?_);exact .nil _ _
 refine fP Z ac (kZ ab Z Z Z Z Z Z Z fun A=>?_);by_cases j:l=[]
 .subst j;refine fP Z ac (lZ ab Z Z Z Z Z Z Z Z (el2:=fun k=>kg (([]:List Int).getD k ci)) Z ?_);refine gA Z (aI (by first|exact .inr Z|exact .inl Z) Z ?_);exact .refl _
 .have y:0<l.length:=WD.2 j;refine fP Z ac (k9 ab Z Z Z Z Z Z Z Z (by decide) Z (gG Z) (by simp;omega) (by show((V0 l.length).map _).length*8<=_;simp;omega) (by simp;omega) Z ?_);refine gA Z (du (by first|exact .inr Z|exact .inl Z) Z Z ((fH l kg)) ((by simp)))
theorem tL(l:List Term)(hb:l.length<=10000000000):Pure prog 70 [.iv (a7 5 l Term.c)] (.iv (a7 5 l Term.c)):=by
 refine ah ab func70 Z (by decide) ntmps70 Z (by simp) Z ?_;refine fP Z ac (jo Z Z Z Z underlying147 Z fun b u=>?_);refine gA Z ?_;refine Vo (fun x=>?_) (fun x=>?_)
 .have j:l=[]:=V9 (u x);subst j;refine gA Z (aI (by first|exact .inr Z|exact .inl Z) Z ?_);exact .nil _ _
 refine fP Z ac (kZ ab Z Z Z Z Z Z Z fun A=>?_);by_cases j:l=[]
 .subst j;refine fP Z ac (lZ ab Z Z Z Z Z Z Z Z (el2:=fun k=>Term.c (([]:List Term).getD k ci)) Z ?_);refine gA Z (aI (by first|exact .inr Z|exact .inl Z) Z ?_);exact .refl _
 .have y:0<l.length:=WD.2 j;refine fP Z ac (k9 ab Z Z Z Z Z Z Z Z (by decide) Z (gG Z) (by simp;omega) (by show((V0 l.length).map _).length*56<=_;simp;omega) (by simp;omega) Z ?_);refine gA Z (du (by first|exact .inr Z|exact .inl Z) Z Z ((fH l Term.c)) ((by simp)))
theorem DP(l:List Lit)(hb:l.length<=10000000000):Pure prog 105 [.iv (a7 30 l Lit.c)] (.iv (a7 30 l Lit.c)):=by
 refine ah ab func105 Z (by decide) ntmps105 Z (by simp) Z ?_;refine fP Z ac (jo Z Z Z Z underlying150 Z fun b u=>?_);refine gA Z ?_;refine Vo (fun x=>?_) (fun x=>?_)
 .have j:l=[]:=V9 (u x);subst j;refine gA Z (aI (by first|exact .inr Z|exact .inl Z) Z ?_);exact .nil _ _
 refine fP Z ac (kZ ab Z Z Z Z Z Z Z fun A=>?_);by_cases j:l=[]
 .subst j;refine fP Z ac (lZ ab Z Z Z Z Z Z Z Z (el2:=fun k=>Lit.c (([]:List Lit).getD k ci)) Z ?_);refine gA Z (aI (by first|exact .inr Z|exact .inl Z) Z ?_);exact .refl _
 .have y:0<l.length:=WD.2 j;refine fP Z ac (k9 ab Z Z Z Z Z Z Z Z (by decide) Z (gG Z) (by simp;omega) (by show((V0 l.length).map _).length*384<=_;simp;omega) (by simp;omega) Z ?_);refine gA Z (du (by first|exact .inr Z|exact .inl Z) Z Z ((fH l Lit.c)) ((by simp)))
theorem Ai(l:List Lit)(hb:l.length<=10000000000)(h0:l≠ []):bg prog 105 [.iv (a7 30 l Lit.c)] [] (.sl 0 0 l.length 30) [(0,co (aV 30 l Lit.c))] 1:=by
 have x:0<l.length:=WD.2 h0;refine aj ab func105 Z (by decide) ntmps105 Z (by simp) ?_;refine fP Z ac (jo Z Z Z Z underlying150 Z fun b j=>?_);refine gA Z ?_;refine Vo (fun u=>?_) (fun u=>?_)
 .exact absurd (j u) (by omega)
 refine fP Z ac (kZ ab Z Z Z Z Z Z Z fun y=>?_);refine fP Z ac (k9 ab Z Z Z Z Z Z Z Z (by decide) Z (gG Z) (by simp;omega) (by show((V0 l.length).map _).length*384<=_;simp;omega) (by simp;omega) Z ?_);refine gA Z (ar [1] (by first|exact .inr Z|exact .inl Z) Z (wk Z Z Z ⟨.row (by simp),rfl,ac⟩ (hR Z (fH l Lit.c) Z ac) Z))
theorem DR(l:List Expr)(hb:l.length<=10000000000):Pure prog 137 [.iv (a7 7 l Expr.c)] (.iv (a7 7 l Expr.c)):=by
 refine ah ab func137 Z (by decide) ntmps137 Z (by simp) Z ?_;refine fP Z ac (jo Z Z Z Z underlying192 Z fun b u=>?_);refine gA Z ?_;refine Vo (fun x=>?_) (fun x=>?_)
 .have j:l=[]:=V9 (u x);subst j;refine gA Z (aI (by first|exact .inr Z|exact .inl Z) Z ?_);exact .nil _ _
 refine fP Z ac (kZ ab Z Z Z Z Z Z Z fun A=>?_);by_cases j:l=[]
 .subst j;refine fP Z ac (lZ ab Z Z Z Z Z Z Z Z (el2:=fun k=>Expr.c (([]:List Expr).getD k ci)) Z ?_);refine gA Z (aI (by first|exact .inr Z|exact .inl Z) Z ?_);exact .refl _
 .have y:0<l.length:=WD.2 j;refine fP Z ac (k9 ab Z Z Z Z Z Z Z Z (by decide) Z (gG Z) (by simp;omega) (by show((V0 l.length).map _).length*88<=_;simp;omega) (by simp;omega) Z ?_);refine gA Z (du (by first|exact .inr Z|exact .inl Z) Z Z ((fH l Expr.c)) ((by simp)))
theorem Aj(l:List Expr)(hb:l.length<=10000000000)(h0:l≠ []):bg prog 137 [.iv (a7 7 l Expr.c)] [] (.sl 0 0 l.length 7) [(0,co (aV 7 l Expr.c))] 1:=by
 have x:0<l.length:=WD.2 h0;refine aj ab func137 Z (by decide) ntmps137 Z (by simp) ?_;refine fP Z ac (jo Z Z Z Z underlying192 Z fun b j=>?_);refine gA Z ?_;refine Vo (fun u=>?_) (fun u=>?_)
 .exact absurd (j u) (by omega)
 refine fP Z ac (kZ ab Z Z Z Z Z Z Z fun y=>?_);refine fP Z ac (k9 ab Z Z Z Z Z Z Z Z (by decide) Z (gG Z) (by simp;omega) (by show((V0 l.length).map _).length*88<=_;simp;omega) (by simp;omega) Z ?_);refine gA Z (ar [1] (by first|exact .inr Z|exact .inl Z) Z (wk Z Z Z ⟨.row (by simp),rfl,ac⟩ (hR Z (fH l Expr.c) Z ac) Z))
theorem Lw(l:List cN)(hb:l.length<=10000000000):Pure prog 81 [.iv (a7 3 l cN.c)] (.iv (a7 3 l cN.c)):=by
 refine ah ab func81 Z (by decide) ntmps81 Z (by simp) Z ?_;refine fP Z ac (jo Z Z Z Z underlying60 Z fun b u=>?_);refine gA Z ?_;refine Vo (fun x=>?_) (fun x=>?_)
 .have j:l=[]:=V9 (u x);subst j;refine gA Z (aI (by first|exact .inr Z|exact .inl Z) Z ?_);exact .nil _ _
 refine fP Z ac (kZ ab Z Z Z Z Z Z Z fun A=>?_);by_cases j:l=[]
 .subst j;refine fP Z ac (lZ ab Z Z Z Z Z Z Z Z (el2:=fun k=>cN.c (([]:List cN).getD k ci)) Z ?_);refine gA Z (aI (by first|exact .inr Z|exact .inl Z) Z ?_);exact .refl _
 .have y:0<l.length:=WD.2 j;refine fP Z ac (k9 ab Z Z Z Z Z Z Z Z (by decide) Z (gG Z) (by simp;omega) (by show((V0 l.length).map _).length*32<=_;simp;omega) (by simp;omega) Z ?_);refine gA Z (du (by first|exact .inr Z|exact .inl Z) Z Z ((fH l cN.c)) ((by simp)))
theorem Lx(l:List Fact)(hb:l.length<=10000000000):Pure prog 163 [.iv (a7 2 l Fact.c)] (.iv (a7 2 l Fact.c)):=by
 refine ah ab func163 Z (by decide) ntmps163 Z (by simp) Z ?_;refine fP Z ac (jo Z Z Z Z underlying36 Z fun b u=>?_);refine gA Z ?_;refine Vo (fun x=>?_) (fun x=>?_)
 .have j:l=[]:=V9 (u x);subst j;refine gA Z (aI (by first|exact .inr Z|exact .inl Z) Z ?_);exact .nil _ _
 refine fP Z ac (kZ ab Z Z Z Z Z Z Z fun A=>?_);by_cases j:l=[]
 .subst j;refine fP Z ac (lZ ab Z Z Z Z Z Z Z Z (el2:=fun k=>Fact.c (([]:List Fact).getD k ci)) Z ?_);refine gA Z (aI (by first|exact .inr Z|exact .inl Z) Z ?_);exact .refl _
 .have y:0<l.length:=WD.2 j;refine fP Z ac (k9 ab Z Z Z Z Z Z Z Z (by decide) Z (gG Z) (by simp;omega) (by show((V0 l.length).map _).length*40<=_;simp;omega) (by simp;omega) Z ?_);refine gA Z (du (by first|exact .inr Z|exact .inl Z) Z Z ((fH l Fact.c)) ((by simp)))
theorem An{α:Type}[Inhabited α]{l:List α}{g:α->List PV}{i:Nat}(hi:i<l.length):(l.map g).set (0+i) (g (l.getD i ci))=l.map g:=by
 refine XD fun j=>?_;rw[VL,Xd];split
 .rename_i e;subst e;rw[am (by simpa using hi),Vv,Vr,Vt hi];rfl
 .rfl
theorem Cn{α:Type}[Inhabited α]{l:List α}{g:α->List PV}{i:Nat}(hi:i<l.length):(l.map g)[0+i]? =co (g (l.getD i ci)):=by
 rw[VL,Vv,Vr,Vt hi];rfl
theorem ON: ∀(n:Nat) (e:Expr),e.size<=n->e.size<=1000000000->Pure prog 106 [ag e.c] (ag e.c)
 |0,e,h,_=>absurd e.size_pos (by omega)
 |n+1,e,h,hb=>by
  have B:=e.size_eq;have A:=Expr.aJ e.args;refine Al.Pure.le (aa:=[ag e.c]) (args:=[ag e.c1]) ?_ ⟨e.Gl,ac⟩;by_cases u:e.args=[]
  .refine ah ab func106 Z (by decide) ntmps106 Z (by simp) Z ?_;refine gA Z (aB (DR e.args (by omega)) Z Z Z Z Z Z ?_);refine gA Z (mR (n:=0) ?_);refine gA Z ?_;refine Vo (fun y=>?_) (fun y=>?_)
   .exact absurd y (by simp[u])
   refine gA Z (aI (by first|exact .inr Z|exact .inl Z) Z ?_);exact e.FL
  refine ah ab func106 Z (by decide) ntmps106 Z (by simp) Z ?_;refine gA Z (ak [] (Aj e.args (by omega) u) Z Z Z Z Z Z Z Z ?_);refine gA Z ?_;refine aM 0 e.args.length (VB _) (fun i=>⟨[(1,.ptr 0 0),(2,.ptr 1 0),(10,pI e.args.length),(11,pI i)],[(0,co (.cells [.iv (iI e.kind),.iv (iS e.var),.iv (iI e.val.kind),.iv (iI e.val.num),.iv (iS e.val.sym),.iv (iI e.op),.sl 2 0 e.args.length 7])),(1,co (.cells [pI 0,pS Vx,pI 0,pI 0,pS Vx,pI 0,.iv (.v (.slice io 0 0))])),(2,co (aV 7 e.args Expr.c))],3⟩) (fun _=>True) [] ac
   (wk Z Z Z (bi (bi (bi (bi trivial)))) ⟨⟨_,rfl,.of_eq Z⟩,Vm Z,rfl,⟨⟨_,rfl,.of_eq Z⟩,Vm Z,rfl,hR Z (by rw[Wx];exact WE fun x _=>ja _ _) Z trivial⟩⟩ Z) fun i D _=>?_
  refine gA Z ?_;refine Vo (fun h1=>?_) (fun h1=>?_)
  .have h1:i<e.args.length:=by simpa using h1
   have C:=Expr.bT e.args i h1;have j:=Cn (g:=fun x=>(Expr.c x).map PV.iv) h1;refine gM 16 Z (kq (p:=ag (e.args.getD i ci).c) 7 Z Z Z Z Z Z (dd ab Z Z Z Z j Z) ?_);refine gA Z (bc ab [] (Pure.nv (ON n (e.args.getD i ci) (by omega) (by omega))) Z Z Z Z Z Z Z Z Z Z Z Z (by(repeat' (first|exact ac|exact rfl|exact ae.refl _|exact ae.bk (by assumption)|apply Vo))<;>first|omega|(simp only[Vu];omega)|(simp;done)|(simp;omega)) Z (by(repeat' (first|exact ac|exact rfl|exact ae.refl _|exact ae.bk (by assumption)|apply Vo))<;>first|omega|(simp only[Vu];omega)|(simp;done)|(simp;omega)) ?_);refine gA Z (iC ab Z Z Z Z Z (by first|trivial|(repeat' apply Vo)<;>trivial) (uz ab Z Z (i:=2) (sz:=7) (q:=0+i) Z Z Z Z (by simp;omega) Z Z Z) Z (by first|trivial|(repeat' apply Vo)<;>trivial) ?_);refine gA Z ⟨h1,ac,[],wk Z Z Z (bi (bi (bi (bi ac)))) ⟨⟨_,rfl,.of_eq Z⟩,Vm Z,rfl,⟨⟨_,rfl,.of_eq Z⟩,Vm Z,rfl,hR Z (An (g:=fun x=>(Expr.c x).map PV.iv) h1) Z ac⟩⟩ Z⟩
  .have h1:e.args.length<=i:=by simpa using h1
   refine gA Z (gj (.inr Z) Z (ft.gd 2 e.args Expr.c Z Z (by simp[PV.ba,a8]) (.done ?_)));have:ae (ag e.c1) (ag e.c):=e.FL;simp only[PV.dA,nD,VL];exact this
theorem Ch(e:Expr)(hb:e.size<=1000000000):Pure prog 106 [ag e.c] (ag e.c):=ON e.size e (VA _) hb
theorem mz(f:Fact)(hb:f.args.length<=10000000000):Pure prog 46 [ag f.c] (ag f.c):=by
 refine ah ab func46 Z (by decide) ntmps46 Z (by simp) Z ?_;refine gA Z (bc ab [] (Pure.nv (Lw f.args hb)) Z Z Z Z Z Z Z Z Z Z Z Z (by(repeat' (first|exact ac|exact rfl|exact ae.refl _|exact ae.bk (by assumption)|apply Vo))<;>first|omega|(simp only[Vu];omega)|(simp;done)|(simp;omega)) Z (by(repeat' (first|exact ac|exact rfl|exact ae.refl _|exact ae.bk (by assumption)|apply Vo))<;>first|omega|(simp only[Vu];omega)|(simp;done)|(simp;omega)) ?_);refine gA Z (aI (by first|exact .inr Z|exact .inl Z) Z (.of_eq ?_));rfl
abbrev kF:KC:= .fl Mk
abbrev UE(f:Fact):PV:=kF.pk (cv f)
theorem FP(a0:aq): ∀(args:List cN),args.length<=8->
  ([pS a0,pI args.length]++(b4 zy.zero).drop 2).take 2++((V0 args.length).map fun k=>(cN.c (args.getD k ci)).map PV.iv).flatten++([pS a0,pI args.length]++(b4 zy.zero).drop 2).drop (2+((V0 args.length).map fun k=>(cN.c (args.getD k ci)).map PV.iv).length*3)
   =(FK.vs Mk (cv ⟨a0,args⟩)).map fun v=>PV.iv (.v v)
 | [],_=>rfl
 | [_],_=>rfl
 | [_,_],_=>rfl
 | [_,_,_],_=>rfl
 | [_,_,_,_],_=>rfl
 | [_,_,_,_,_],_=>rfl
 | [_,_,_,_,_,_],_=>rfl
 | [_,_,_,_,_,_,_],_=>rfl
 | [_,_,_,_,_,_,_,_],_=>rfl
 |_::_::_::_::_::_::_::_::_::_,h=>by simp at h
theorem Qe(f:Fact)(hb:f.args.length<=8):Pure prog 78 [ag f.c] (.aZ [UE f,pB is]):=by
 refine ah ab func78 Z (by decide) ntmps78 Z (by simp) Z ?_;refine gA Z ?_;refine Vo (fun h1=>?_) (fun h1=>?_)
 .exact absurd h1 (by simp;omega)
 refine gA Z (kq (p:= .nI 2 2 8) 1 Z Z Z Z Z Z (M6 ab Z Z Z Z Z) ?_);refine gA Z (iC ab Z Z Z Z Z (by(repeat' (first|exact ac|exact rfl|exact ae.refl _|exact ae.bk (by assumption)|apply Vo))<;>first|omega|(simp only[Vu];omega)|(simp;done)|(simp;omega)) (I8 ab Z Z Z Z Z Z Z (gG Z) (fun e j=>by obtain⟨k,_,rfl⟩:=V5.1 j;rfl) (by simp;omega) (by show 2+_*3<=26;simp;omega) Z) Z (by(repeat' (first|exact ac|exact rfl|exact ae.refl _|exact ae.bk (by assumption)|apply Vo))<;>first|omega|(simp only[Vu];omega)|(simp;done)|(simp;omega)) ?_)
 (refine gM 1 Z ?_;refine cP (L:=[]) (t:=⟨[(2,.ptr 1 0),(4,.ptr 2 0)],[(1,co (.cells (b4 zy.zero))),(2,co (aG ((FK.vs Mk (cv f)).map IV.v)))],3⟩) (wk Z Z Z (bi (bi ac)) ⟨⟨_,rfl,.of_eq Z⟩,Vm Z,rfl,hC Z (FP f.rel f.args hb) Z ac⟩ Z) ?_)
 refine gA Z (aI (by first|exact .inr Z|exact .inl Z) Z (.of_eq ?_));rfl
end Go.Proofs.YtlmhfgbkchnfbaaGreatDoor
namespace Go.Proofs.YtlmhfgbkchnfbaaGreatDoor
open Go Go.Al Go.Bo
section
def Fact.z:Fact:=⟨Vx,[]⟩
def Eu(f:Fact):IV:= .agg f.c
def IK:Value:= .agg #[.string Vx,.slice io 0 0]
def valOf:List IV->cN
 | [.v (.int _ k),.v (.int _ n),.v (.string s)]=>⟨k,n,s⟩
 |_=>⟨0,0,Vx⟩
def RI:PV->Fact
 | .agg [.iv (.v (.string s)),.iv (.bK _ n el)]=>⟨s,(V0 n).map fun k=>valOf (el k)⟩
 |_=>Fact.z
def BN(x:b6 Fact):IV:= .agg (fb x)
def MP:Value:= .agg #[.bool jp,.string Vx,.slice io 0 0]
def b6.z:b6 Fact:=(jp,Fact.z)
def Ua:PV->b6 Fact
 | .agg [.iv (.v (.bool b)),p,q]=>(b,RI (.agg [p,q]))
 |_=>b6.z
abbrev FM:=List (kF.K×Fact)
abbrev CM:=List (kF.K×b6 Fact)
abbrev bx(m:FM):AO:= .map kF Eu Fact.z IK RI m
abbrev Jc(m:CM):AO:= .map kF BN b6.z MP Ua m
abbrev BM(m:CM):IV:= .eG kF BN b6.z MP m
theorem Gu(l:List cN):(V0 l.length).map (fun k=>valOf (cN.c (l.getD k ci)))=l:=by
 apply XD;intro k;by_cases hk:k<l.length
 .simp[hk,valOf,cN.c]
 .simp[hk]
theorem IQ(f:Fact):RI (ag f.c)=f:=by
 show(⟨f.rel,(V0 f.args.length).map fun k=>valOf (cN.c (f.args.getD k ci))⟩:Fact)=f;rw[Gu]
theorem O0(x:b6 Fact):Ua (ag (fb x))=x:=by
 show(x.1,RI (ag x.2.c))=x;rw[IQ]
theorem IL(f:Fact):ae (ag f.c) (.iv (Eu (RI (ag f.c)))):=by rw[IQ];exact Uc _
theorem MQ(x:b6 Fact):ae (ag (fb x)) (.iv (BN (Ua (ag (fb x))))):=by rw[O0];exact Uc _
theorem IJ: ∀M,IR M (Eu Fact.z) IK:=fun M=>by
 refine .agg _ _ Z fun j p u=>?_
 match j,u with
 |0,u=>cases u;exact .v _
 |1,u=>cases u;exact .fz _ _ _ _
 |j+2,u=>simp[Fact.c]at u
theorem MO: ∀M,IR M (BN b6.z) MP:=fun M=>by
 refine .agg _ _ Z fun j p u=>?_
 match j,u with
 |0,u=>cases u;exact .v _
 |1,u=>cases u;exact .v _
 |2,u=>cases u;exact .fz _ _ _ _
 |j+3,u=>simp[fb,Fact.c]at u
abbrev ch(p:Prog)(n:Nat)(i:Nat):AO:= .cells [.mp i,.iv (a7 4 p.aD Decl.c),.iv (a7 5 p.rules aw.c),pI n]
abbrev CB:PV:= .iv (.v (.pointer io))
section
variable (p:Prog) (n:Nat) (m:FM)
abbrev bO:List AO:=[bx m,ch p n 0]
abbrev bH:AH:=[(0,co (bx m)),(1,co (ch p n 0))]
theorem S0:bg Tryz.prog 39 [.ptr 1 0] (bO p n m) (.ptr 1 0) (bH p n m) 2:=by
 refine aj ab Tryz.func39 Z (by decide) Tryz.ntmps39 Z (by simp) ?_;refine gA Z ?_;refine Vo (fun h1=>?_) (fun h1=>?_)
 .exact absurd h1 (by decide)
 refine gA Z (ar [] (by first|exact .inr Z|exact .inl Z) Z (wk Z Z Z (bi ac) (hM Z Z Z ⟨⟨_,rfl,.of_eq Z⟩,Vm Z,rfl,ac⟩) Z))
end
end
end Go.Proofs.YtlmhfgbkchnfbaaGreatDoor
namespace Go.Proofs
open Go.Shelf
def Tryz.Bf:Go.Shelf.Ren:=⟨fun|6=>82|15=>108|14=>116|28=>146|29=>147|20=>154|21=>155|22=>156|23=>157|24=>158|25=>159|26=>160|27=>161|46=>203|47=>196|48=>197|49=>204|50=>205|57=>240|n=>n,fun|22=>43|24=>64|25=>171|3=>3|39=>140|0=>0|53=>83|55=>104|4=>4|46=>251|45=>250|50=>255|5=>5|9=>9|66=>296|70=>300|76=>343|77=>344|n=>n,fun|n=>n⟩
theorem Tryz.D6:Go.Proofs.SlLaysF0.n6 Tryz.prog Tryz.Bf:={
 mixed:=by kernel_rfl
 f6:=⟨Tryz.f82.name,by decide,Tryz.func82.trans (congrArg co (by kernel_rfl))⟩
 f14:=⟨Tryz.f116.name,by decide,Tryz.func116.trans (congrArg co (by kernel_rfl))⟩
 f15:=Tryz.func108.trans (congrArg co (by kernel_rfl))
 f20:=⟨Tryz.f154.name,by decide,Tryz.func154.trans (congrArg co (by kernel_rfl))⟩
 f21:=⟨Tryz.f155.name,by decide,Tryz.func155.trans (congrArg co (by kernel_rfl))⟩
 f22:=⟨Tryz.f156.name,by decide,Tryz.func156.trans (congrArg co (by kernel_rfl))⟩
 f23:=⟨Tryz.f157.name,by decide,Tryz.func157.trans (congrArg co (by kernel_rfl))⟩
 f24:=⟨Tryz.f158.name,by decide,Tryz.func158.trans (congrArg co (by kernel_rfl))⟩
 f25:=⟨Tryz.f159.name,by decide,Tryz.func159.trans (congrArg co (by kernel_rfl))⟩
 f26:=⟨Tryz.f160.name,by decide,Tryz.func160.trans (congrArg co (by kernel_rfl))⟩
 f27:=⟨Tryz.f161.name,by decide,Tryz.func161.trans (congrArg co (by kernel_rfl))⟩
 f28:=Tryz.func146.trans (congrArg co (by kernel_rfl))
 f29:=Tryz.func147.trans (congrArg co (by kernel_rfl))
 f46:=⟨Tryz.f203.name,by decide,Tryz.func203.trans (congrArg co (by kernel_rfl))⟩
 f47:=Tryz.func196.trans (congrArg co (by kernel_rfl))
 f48:=Tryz.func197.trans (congrArg co (by kernel_rfl))
 f49:=⟨Tryz.f204.name,by decide,Tryz.func204.trans (congrArg co (by kernel_rfl))⟩
 f50:=⟨Tryz.f205.name,by decide,Tryz.func205.trans (congrArg co (by kernel_rfl))⟩
 f57:=⟨Tryz.f240.name,by decide,Tryz.func240.trans (congrArg co (by kernel_rfl))⟩
 t0:=Tryz.underlying0
 a0:=Tryz.isAgg0
 z0:=Tryz.sizeOf0
 v0:=Tryz.zeroValue0
 t3:=Tryz.underlying3
 a3:=Tryz.isAgg3
 z3:=Tryz.sizeOf3
 v3:=Tryz.zeroValue3
 t4:=Tryz.underlying4
 a4:=Tryz.isAgg4
 z4:=Tryz.sizeOf4
 v4:=Tryz.zeroValue4
 t5:=Tryz.underlying5
 a5:=Tryz.isAgg5
 z5:=Tryz.sizeOf5
 v5:=Tryz.zeroValue5
 t9:=Tryz.underlying9
 a9:=Tryz.isAgg9
 z9:=Tryz.sizeOf9
 v9:=Tryz.zeroValue9
 t22:=Tryz.underlying43
 a22:=Tryz.isAgg43
 z22:=Tryz.sizeOf43
 v22:=Tryz.zeroValue43
 t25:=Tryz.underlying171
 a25:=Tryz.isAgg171
 z25:=Tryz.sizeOf171
 v25:=Tryz.zeroValue171
 t39:=Tryz.underlying140
 a39:=Tryz.isAgg140
 z39:=Tryz.sizeOf140
 v39:=Tryz.zeroValue140
 t45:=Tryz.underlying250
 a45:=Tryz.isAgg250
 z45:=Tryz.sizeOf250
 v45:=Tryz.zeroValue250
 t46:=Tryz.underlying251
 a46:=Tryz.isAgg251
 z46:=Tryz.sizeOf251
 v46:=Tryz.zeroValue251
 t50:=Tryz.underlying255
 a50:=Tryz.isAgg255
 z50:=Tryz.sizeOf255
 v50:=Tryz.zeroValue255
 t53:=Tryz.underlying83
 a53:=Tryz.isAgg83
 z53:=Tryz.sizeOf83
 v53:=Tryz.zeroValue83
 t55:=Tryz.underlying104
 a55:=Tryz.isAgg104
 z55:=Tryz.sizeOf104
 v55:=Tryz.zeroValue104
 t66:=Tryz.underlying296
 a66:=Tryz.isAgg296
 z66:=Tryz.sizeOf296
 v66:=Tryz.zeroValue296
 t70:=Tryz.underlying300
 a70:=Tryz.isAgg300
 z70:=Tryz.sizeOf300
 v70:=Tryz.zeroValue300
 t76:=Tryz.underlying343
 a76:=Tryz.isAgg343
 z76:=Tryz.sizeOf343
 v76:=Tryz.zeroValue343
 t77:=Tryz.underlying344
 a77:=Tryz.isAgg344
 z77:=Tryz.sizeOf344
 v77:=Tryz.zeroValue344}
def Tryz.Be:Go.Shelf.Ren:=⟨fun|6=>72|15=>108|14=>107|28=>146|29=>147|20=>138|21=>139|22=>140|23=>141|24=>142|25=>143|26=>144|27=>145|46=>195|47=>196|48=>197|49=>198|50=>199|57=>238|n=>n,fun|22=>36|24=>62|25=>160|3=>3|39=>140|0=>0|53=>83|55=>104|4=>4|46=>251|45=>250|50=>255|5=>5|9=>9|66=>296|70=>300|76=>343|77=>344|n=>n,fun|n=>n⟩
theorem Tryz.D5:Go.Proofs.SlLaysF0.n6 Tryz.prog Tryz.Be:={
 mixed:=by kernel_rfl
 f6:=⟨Tryz.f72.name,by decide,Tryz.func72.trans (congrArg co (by kernel_rfl))⟩
 f14:=⟨Tryz.f107.name,by decide,Tryz.func107.trans (congrArg co (by kernel_rfl))⟩
 f15:=Tryz.func108.trans (congrArg co (by kernel_rfl))
 f20:=⟨Tryz.f138.name,by decide,Tryz.func138.trans (congrArg co (by kernel_rfl))⟩
 f21:=⟨Tryz.f139.name,by decide,Tryz.func139.trans (congrArg co (by kernel_rfl))⟩
 f22:=⟨Tryz.f140.name,by decide,Tryz.func140.trans (congrArg co (by kernel_rfl))⟩
 f23:=⟨Tryz.f141.name,by decide,Tryz.func141.trans (congrArg co (by kernel_rfl))⟩
 f24:=⟨Tryz.f142.name,by decide,Tryz.func142.trans (congrArg co (by kernel_rfl))⟩
 f25:=⟨Tryz.f143.name,by decide,Tryz.func143.trans (congrArg co (by kernel_rfl))⟩
 f26:=⟨Tryz.f144.name,by decide,Tryz.func144.trans (congrArg co (by kernel_rfl))⟩
 f27:=⟨Tryz.f145.name,by decide,Tryz.func145.trans (congrArg co (by kernel_rfl))⟩
 f28:=Tryz.func146.trans (congrArg co (by kernel_rfl))
 f29:=Tryz.func147.trans (congrArg co (by kernel_rfl))
 f46:=⟨Tryz.f195.name,by decide,Tryz.func195.trans (congrArg co (by kernel_rfl))⟩
 f47:=Tryz.func196.trans (congrArg co (by kernel_rfl))
 f48:=Tryz.func197.trans (congrArg co (by kernel_rfl))
 f49:=⟨Tryz.f198.name,by decide,Tryz.func198.trans (congrArg co (by kernel_rfl))⟩
 f50:=⟨Tryz.f199.name,by decide,Tryz.func199.trans (congrArg co (by kernel_rfl))⟩
 f57:=⟨Tryz.f238.name,by decide,Tryz.func238.trans (congrArg co (by kernel_rfl))⟩
 t0:=Tryz.underlying0
 a0:=Tryz.isAgg0
 z0:=Tryz.sizeOf0
 v0:=Tryz.zeroValue0
 t3:=Tryz.underlying3
 a3:=Tryz.isAgg3
 z3:=Tryz.sizeOf3
 v3:=Tryz.zeroValue3
 t4:=Tryz.underlying4
 a4:=Tryz.isAgg4
 z4:=Tryz.sizeOf4
 v4:=Tryz.zeroValue4
 t5:=Tryz.underlying5
 a5:=Tryz.isAgg5
 z5:=Tryz.sizeOf5
 v5:=Tryz.zeroValue5
 t9:=Tryz.underlying9
 a9:=Tryz.isAgg9
 z9:=Tryz.sizeOf9
 v9:=Tryz.zeroValue9
 t22:=Tryz.underlying36
 a22:=Tryz.isAgg36
 z22:=Tryz.sizeOf36
 v22:=Tryz.zeroValue36
 t25:=Tryz.underlying160
 a25:=Tryz.isAgg160
 z25:=Tryz.sizeOf160
 v25:=Tryz.zeroValue160
 t39:=Tryz.underlying140
 a39:=Tryz.isAgg140
 z39:=Tryz.sizeOf140
 v39:=Tryz.zeroValue140
 t45:=Tryz.underlying250
 a45:=Tryz.isAgg250
 z45:=Tryz.sizeOf250
 v45:=Tryz.zeroValue250
 t46:=Tryz.underlying251
 a46:=Tryz.isAgg251
 z46:=Tryz.sizeOf251
 v46:=Tryz.zeroValue251
 t50:=Tryz.underlying255
 a50:=Tryz.isAgg255
 z50:=Tryz.sizeOf255
 v50:=Tryz.zeroValue255
 t53:=Tryz.underlying83
 a53:=Tryz.isAgg83
 z53:=Tryz.sizeOf83
 v53:=Tryz.zeroValue83
 t55:=Tryz.underlying104
 a55:=Tryz.isAgg104
 z55:=Tryz.sizeOf104
 v55:=Tryz.zeroValue104
 t66:=Tryz.underlying296
 a66:=Tryz.isAgg296
 z66:=Tryz.sizeOf296
 v66:=Tryz.zeroValue296
 t70:=Tryz.underlying300
 a70:=Tryz.isAgg300
 z70:=Tryz.sizeOf300
 v70:=Tryz.zeroValue300
 t76:=Tryz.underlying343
 a76:=Tryz.isAgg343
 z76:=Tryz.sizeOf343
 v76:=Tryz.zeroValue343
 t77:=Tryz.underlying344
 a77:=Tryz.isAgg344
 z77:=Tryz.sizeOf344
 v77:=Tryz.zeroValue344}
def Tryz.Bd:Go.Shelf.Ren:=⟨fun|5=>44|7=>76|n=>n,fun|23=>95|25=>110|3=>62|4=>4|20=>20|n=>n,fun|n=>n⟩
theorem Tryz.Mj:Go.Proofs.SlLaysW.n5 Tryz.prog Tryz.Bd:={
 mixed:=by kernel_rfl
 f5:=⟨Tryz.f44.name,by decide,Tryz.func44.trans (congrArg co (by kernel_rfl))⟩
 f7:=Tryz.func76.trans (congrArg co (by kernel_rfl))
 t4:=Tryz.underlying4
 a4:=Tryz.isAgg4
 z4:=Tryz.sizeOf4
 v4:=Tryz.zeroValue4
 t20:=Tryz.underlying20
 a20:=Tryz.isAgg20
 z20:=Tryz.sizeOf20
 v20:=Tryz.zeroValue20
 t23:=Tryz.underlying95
 a23:=Tryz.isAgg95
 z23:=Tryz.sizeOf95
 v23:=Tryz.zeroValue95}
theorem YtlmhfgbkchnfbaaGreatDoor.SA:Go.Al.Dg Tryz.prog 82 3:=
 ⟨fun enc hk h1 B hO g A y b0 a0 d w eg u hH j x=>AnyQ.slices_SortFunc Tryz.D6 3 (fun _=>Go.Al.fF (YtlmhfgbkchnfbaaGreatDoor.ab 64 _ Z)) (fun _=>Go.Al.aQ (YtlmhfgbkchnfbaaGreatDoor.ab 64 _ Z)) enc hk h1 B hO g A y b0 a0 d w eg u hH j x,
  fun p a0 C w=>AnyF.slices_SortFunc_none Tryz.D6 p a0 C w⟩
theorem YtlmhfgbkchnfbaaGreatDoor.Sz:Go.Al.Dg Tryz.prog 72 2:=
 ⟨fun enc hk h1 B hO g A y b0 a0 d w eg u hH j x=>AnyQ.slices_SortFunc Tryz.D5 2 (fun _=>Go.Al.fF (YtlmhfgbkchnfbaaGreatDoor.ab 62 _ Z)) (fun _=>Go.Al.aQ (YtlmhfgbkchnfbaaGreatDoor.ab 62 _ Z)) enc hk h1 B hO g A y b0 a0 d w eg u hH j x,
  fun p a0 C w=>AnyF.slices_SortFunc_none Tryz.D5 p a0 C w⟩
theorem YtlmhfgbkchnfbaaGreatDoor.Rk:Go.Al.JD Tryz.prog 44:=fun b es clock w hb=>AnyW.maps_Clone Tryz.Mj b es clock w hb
end Go.Proofs
namespace Go.Proofs.YtlmhfgbkchnfbaaGreatDoor
open Go Go.Al Go.Proofs.Tryz Go.Bo
theorem EY{l u:List Fact}(hF:ye l)(hp:l.Perm u)(hs:qx aY u)(j:l.length<=1000000000000):bg prog 72 [.sl 0 0 l.length 2,kB] [aV 2 l Fact.c] (.aZ []) [(0,co (aV 2 u Fact.c))] 1:=
 wX Sz (bb func72 Z (by decide)) (bb func73 Z (by decide)) (by decide) Fact.c aY (fun f=>f.args.length<=1000000000) (fun x y B C=>pf x y B C) (fun _=>rfl)
  (fun x c A=>(VH.1 A).elim (fun e=>by subst e;rfl) fun A=>by rw[Vz.1 A];rfl)
  (fun x _=>o6.QS x) (fun x y z _ _ _=>o6.tr x y z) (fun x y z _ _ _=>o6.T7) l u hF (fun x _ y _ a b=>o6.RA a b) hp (hs.imp fun{a b} h=>o6.asym h) j kB (fun M N U v h=>by
   cases h with
   |cm _ _ _ f' c' h1 h2=>simp at h1 h2;simp[WJ h1.symm,WJ h2.symm])
theorem GW{l u:List (b6 Fact)}(hF: ∀x∈l,x.2.args.length<=1000000000)(hn:(l.map (·.2)).Nodup)(hp:l.Perm u)(hs:v7 aY u)(j:l.length<=1000000000000):bg prog 82 [.sl 0 0 l.length 3,.cm (.func 83) [] []] [aV 3 l fb] (.aZ []) [(0,co (aV 3 u fb))] 1:=
 wX SA (bb func82 Z (by decide)) (bb func83 Z (by decide)) (by decide) fb (fun a b=>aY a.2 b.2) (fun f=>f.2.args.length<=1000000000) (fun x y A B=>Lz x y A B) (fun _=>rfl)
  (fun x c hc=>by
   rcases VH.1 hc with rfl|hc
   .rfl
   rcases VH.1 hc with rfl|hc
   .rfl
   .rw[Vz.1 hc];rfl)
  (fun x _=>o6.QS x.2) (fun x y z _ _ _=>o6.tr x.2 y.2 z.2) (fun x y z _ _ _=>o6.T7) l u hF (fun x A y B a b=>by
   have e:=o6.RA a b;have key: ∀{l:List (b6 Fact)},(l.map (·.2)).Nodup->x∈l->y∈l->x=y:=by
    intro l
    induction l with
    |nil=>intro _ m;cases m
    |cons z r ih=>
     intro hn m1 m2;rw[Vy,Wb]at hn;rcases VH.1 m1 with e1|e1<;>rcases VH.1 m2 with e2|e2
     .exact e1.trans e2.symm
     .exact absurd (V5.2 ⟨_,e2,by rw[<-e,e1]⟩) hn.1
     .exact absurd (V5.2 ⟨_,e1,by rw[e,e2]⟩) hn.1
     .exact ih hn.2 e1 e2
   exact key hn A B) hp (hs.imp fun{a b} h=>o6.asym h) j _ (fun M N U v h=>by
   cases h with
   |cm _ _ _ f' c' h1 h2=>simp at h1 h2;simp[WJ h1.symm,WJ h2.symm])
abbrev IM(m:FM)(j:Nat):Fact:=(m.getD j (cv Fact.z,Fact.z)).2
theorem II{l j:List Fact}(h:ye j)(hp:l.Perm j):ye l:=fun f hf=>h f (hp.mem_iff.1 hf)
theorem Lu(p:Prog)(n:Nat){m:FM}{S:List Fact}(hk:b8 cv m S)(hs:qx aY S)(hF:ye S)(hl:S.length<=100000000):bg prog 40 [.ptr 1 0] (bO p n m) (.iv (a7 2 S Fact.c)) (bH p n m) 2:=by
 have G:=hk.len;have j:=hk.zt;refine aj ab func40 Z (by decide) ntmps40 Z (by simp) ?_;refine gA Z ?_;refine Vo (fun C=>?_) (fun C=>?_)
 .exact absurd C (by decide)
 refine gM 12 Z (bz Z (xd ab Z Z Z Z Z Z (by decide)) ?_);rintro t ⟨bs,clock,hbl,hbn,hbc,rfl⟩;refine gM 2 Z (jc 3 2 Z ?_)
 refine gA Z (Ej m.length (fun vs=>⟨[(3,.sl 4 0 (vs.map (IM m)).length 2),(12,.ptr 2 0)],[(0,co (.hQ kF Eu Fact.z IK RI m bs clock)),(1,co (ch p n 0)),(2,co (.eh (.mp 0) clock (lr bs vs))),(4,co (aV 2 (vs.map (IM m)) Fact.c))],5⟩) (fun _=>True) [3] ac
  (wk Z Z Z (bi (bi ac)) ⟨⟨_,rfl,.of_eq Z⟩,Vm Z,ac,⟨⟨_,rfl,.of_eq Z⟩,Vm Z,rfl,⟨⟨_,rfl,.of_eq Z⟩,Vm Z,rfl,hR Z Z Z ac⟩⟩⟩ Z) fun vs D v2 _=>?_)
 have J:=BZ D v2;refine gM 2 Z (bz Z (A3 Z Z Z Z Z (by decide)) ?_);rintro t (⟨hall,rfl⟩|⟨q,x,b,hx,hb,hns,rfl⟩)
 .have u:(vs.map (IM m)).Perm S:=by
   have:=((HV (d:=(cv Fact.z,Fact.z)) hbl hbn D v2 hall).map (·.2)).trans j;rwa[Wx]at this
  have y:=u.length_eq;refine gA Z (ak [4] (EY (II hF u) u hs (by omega)) Z Z Z Z Z (by show[_]=[co (AO.bY _ (aV _ _ _))];rw[b3];rfl) Z Z ?_)
  (refine gM 1 Z ?_;refine cP (L:=[]) (t:=⟨[(3,.sl 4 0 S.length 2)],[(0,co (bx m)),(1,co (ch p n 0)),(4,co (aV 2 S Fact.c))],5⟩) (wk Z Z Z ⟨.row y,rfl,ac⟩ (hMb Z Z Z ⟨⟨_,rfl,.of_eq Z⟩,Vm Z,rfl,hR Z (by rw[Wx];exact WE fun x _=>ja _ _) Z ac⟩) Z) ?_)
  refine jS 4 (fun k=>Fact.c (S.getD k ci)) Z (cQ Z) ⟨by simp[PV.ba],ac⟩ ⟨ac,(by simp[AO.lO,a8,PV.ba]),DW _ _ _ _ _ _,ac⟩ ?_;refine gA Z (ar [] (by first|exact .inr Z|exact .inl Z) Z (wk Z Z Z ⟨.bK Z (fun k _=>by rw[VL]),rfl,ac⟩ (hM Z Z Z ⟨⟨_,rfl,.of_eq Z⟩,Vm Z,rfl,ac⟩) Z))
 .have I:q<m.length:=(Vs.1 hx).1;have B:x.2=IM m q:=by rw[IM,Vr,hx];rfl
  have A:x.2∈S:=j.mem_iff.1 (V5.2 ⟨x,V2 hx,rfl⟩);refine gM 8 Z (bz Z (xP Z Z Z Z wZ hb hx Z) ?_);rintro t rfl;refine gA Z (aB (mz x.2 (by have:=hF _ A;omega)) Z Z Z Z Z Z ?_);refine gA Z ⟨q,I,uE hb hns,ac,[7],wk Z Z Z ⟨.row (by simp),rfl,bi ac⟩ ⟨⟨_,rfl,.of_eq Z⟩,Vm Z,ac,⟨⟨_,rfl,.of_eq Z⟩,Vm Z,rfl,⟨⟨_,rfl,.of_eq (by rw[rQ hb];rfl)⟩,Vm Z,rfl,hR Z (by rw[VD,VD,B];rfl) Z ac⟩⟩⟩ Z⟩
theorem Hc(p:Prog)(n:Nat){m:FM}{S:List Fact}(hk:b8 cv m S)(hs:qx aY S)(hF:ye S)(hl:S.length<=100000000):bg prog 19 [.ptr 1 0] (bO p n m) (.iv (a7 2 S Fact.c)) (bH p n m) 2:=by
 refine aj ab func19 Z (by decide) ntmps19 Z (by simp) ?_;refine gA Z (ak [0,1] (S0 p n m) Z Z Z Z Z Z Z Z ?_);refine gA Z (ak [0,1] (Lu p n hk hs hF hl) Z Z Z Z Z Z Z Z ?_);refine gA Z (ar [] (by first|exact .inr Z|exact .inl Z) Z (wk Z Z Z (bi ac) (hM Z Z Z ⟨⟨_,rfl,.of_eq Z⟩,Vm Z,rfl,ac⟩) Z))
abbrev ma(m:CM)(j:Nat):b6 Fact:=(m.getD j (cv Fact.z,b6.z)).2
theorem FC{m:CM}{vs:List Nat}(hn:vs.Nodup)(x: ∀j∈vs,j<m.length)(h: ∀j,j<m.length->j∈vs):(vs.reverse.map (ma m)).Perm (m.map (·.2)):=by
 have h1:=(yg hn x h).map fun j=>m.getD j (cv Fact.z,b6.z);rw[cy]at h1;have u:=h1.map (·.2);rw[Wx]at u;exact((List.reverse_perm vs).map _).trans u
theorem SE{u:CM}{L:List (b6 Fact)}(hp:(u.map (·.2)).Perm L)(hs:v7 aY L)(hF: ∀x∈L,x.2.args.length<=1000000000)(hl:L.length<=100000000):Pure prog 47 [.iv (BM u)] (.iv (a7 3 L fb)):=by
 have b0:u.length=L.length:=by have:=hp.length_eq;rwa[VS]at this
 refine ah ab func47 Z (by decide) ntmps47 Z (by simp) Z ?_;refine gA Z ?_;refine jc 3 3 Z ?_;refine fO u (fun vs=>⟨[(3,.sl 2 0 (vs.reverse.map (ma u)).length 3),(7,.ptr 0 0)],[(0,co (.bX kF BN u vs io)),(2,co (aV 3 (vs.reverse.map (ma u)) fb))],3⟩) (fun vs=>vs.Nodup∧ ∀j∈vs,j<u.length) [1] ⟨Wn,by simp⟩
  (wk Z Z Z (bi (bi trivial)) (hI Z Z (.inl Z) Z (hR Z Z Z trivial)) Z) fun vs hJ=>?_
 obtain⟨A,B⟩:=hJ;have c0:=BZ A B;refine fP Z ac (dM Z Z Z Z Z (by decide) (fun D=>?_) fun j x C hj=>?_)
 .have G:=(FC A B D).trans hp;have I:=G.length_eq;refine gA Z (ak [2] (GW (fun x C=>hF x (G.mem_iff.1 C)) (((G.map (·.2)).nodup_iff).2 ((v7.facts hs).nodup o6)) G hs (by omega)) Z Z Z Z Z (by show[_]=[co (AO.bY _ (aV _ _ _))];rw[b3];rfl) Z Z ?_);refine gA Z (du (by first|exact .inr Z|exact .inl Z) Z Z ((by rw[Wx];exact WE fun x _=>ja _ _)) (I))
 .have Y:x.2=ma u j:=by rw[ma,Vr,C];rfl
  have J:x.2∈L:=hp.mem_iff.1 (V5.2 ⟨x,V2 C,rfl⟩);have a0: ∀y,y=j::vs->y.Nodup∧ ∀i∈y,i<u.length:=fun y e=>e▸⟨Wb.2 ⟨hj,A⟩,fun i hi=>(VH.1 hi).elim (fun h=>h▸(Vs.1 C).1) (B i)⟩;refine gA Z (bc ab [] (Pure.nv (mz x.2.2 (by have:=hF _ J;omega))) Z Z Z Z Z Z Z Z Z Z Z Z (by(repeat' (first|exact ac|exact rfl|exact ae.refl _|exact ae.bk (by assumption)|apply Vo))<;>first|omega|(simp only[Vu];omega)|(simp;done)|(simp;omega)) Z (by(repeat' (first|exact ac|exact rfl|exact ae.refl _|exact ae.bk (by assumption)|apply Vo))<;>first|omega|(simp only[Vu];omega)|(simp;done)|(simp;omega)) ?_);refine gA Z ⟨j,x,C,hj,a0 _ Z,[5],wk Z Z Z ⟨.row (by simp),rfl,bi ac⟩ (hI Z Z (.inr Z) Z (hR Z (by rw[List.reverse_cons,VD,VD,List.map_singleton,<-Y];rfl) Z ac)) Z⟩
abbrev EE:AO:= .cells [.ptr 1 0]
abbrev nO(p:Prog)(n:Nat)(m:FM):List AO:=[bx m,ch p n 0,EE]
abbrev nH(p:Prog)(n:Nat)(m:FM):AH:=[(0,co (bx m)),(1,co (ch p n 0)),(2,co EE)]
def nq(m:FM)(e:kF.K×b6 Fact):Bool:=dr kF m e.1==e.2.1
theorem S3(p:Prog)(n:Nat)(m:FM)(k:kF.K)(x:b6 Fact):bg prog 80 [kF.pk k,ag (fb x),.ptr 2 0] (nO p n m) (pB (nq m (k,x))) (nH p n m) 3:=by
 refine aj ab func80 Z (by decide) ntmps80 Z (by simp) ?_;refine gA Z (ar [] (by first|exact .inr Z|exact .inl Z) Z (wk Z Z Z (bi ac) (hM Z Z Z ⟨⟨_,rfl,.of_eq Z⟩,Vm Z,rfl,⟨⟨_,rfl,.of_eq Z⟩,Vm Z,rfl,ac⟩⟩) Z))
theorem Uw(p:Prog)(n:Nat)(m:FM)(u:CM)(hn:(u.map (·.1)).Nodup)(hl:u.length<=1000000000):bg prog 79 [.mp 3,.cm (.func 80) [] [.ptr 2 0]] (nO p n m++ [Jc u]) (.aZ []) (nH p n m++ [(3,co (Jc (u.filter fun e=>!nq m e)))]) 4:=by
 refine aj ab func79 Z (by decide) ntmps79 Z (by simp) ?_;refine gM 3 Z (bz Z (xd ab Z Z Z Z Z Z (by decide)) ?_);rintro t ⟨bs,clock,hbl,hbn,hbc,rfl⟩
 refine gA Z (Ej u.length (fun vs=>⟨[(0,.mp 3),(1,.cm (.func 80) [] [.ptr 2 0]),(7,.ptr 4 0)],[(0,co (bx m)),(1,co (ch p n 0)),(2,co EE),(3,co (.hQ kF BN b6.z MP Ua (od u (cv Fact.z,b6.z) (fun j=>nq m (u.getD j (cv Fact.z,b6.z))) vs) (po u.length bs (fun j=>nq m (u.getD j (cv Fact.z,b6.z))) vs) clock)),(4,co (.eh (.mp 3) clock (lr bs vs)))],5⟩) (fun _=>True) [] ac
  (wk Z Z Z (bi (bi (bi ac))) (hM Z Z Z ⟨⟨_,rfl,.of_eq Z⟩,Vm Z,rfl,⟨⟨_,rfl,.of_eq Z⟩,Vm Z,rfl,⟨⟨_,rfl,.of_eq (by rw[FH,FI hbl];rfl)⟩,Vm Z,ac,⟨⟨_,rfl,.of_eq Z⟩,Vm Z,rfl,ac⟩⟩⟩⟩) Z) fun vs Y v2 _=>?_)
 refine gM 2 Z (bz Z (A3 Z Z Z Z Z (by decide)) ?_);rintro t (⟨hall,rfl⟩|⟨q,x,b,hx,hb,hns,rfl⟩)
 .have hE:=H3 (d:=(cv Fact.z,b6.z)) hbl hbn v2 (nq m) (fun j=>rfl) hall;refine gA Z (ar [] (by first|exact .inr Z|exact .inl Z) Z (wk Z Z Z (bi ac) (hM Z Z Z ⟨⟨_,rfl,.of_eq Z⟩,Vm Z,rfl,⟨⟨_,rfl,.of_eq Z⟩,Vm Z,rfl,hMb Z hE Z ac⟩⟩) Z))
 .obtain⟨j,B,C,y,I⟩:=left_at hbl hx hb;have D:u.getD j (cv Fact.z,b6.z)=x:=by rw[Vr,C];rfl
  refine gM 8 Z (bz Z (xP Z Z Z Z wZ hb hx Z) ?_);rintro t rfl;refine gA Z (ak [0,1,2] (S3 p n m x.1 x.2) Z Z Z Z Z Z Z Z ?_);have G:nq m (x.1,x.2)=nq m (u.getD j (cv Fact.z,b6.z)):=by rw[D]
  refine gA Z ?_;refine Vo (fun g1=>?_) (fun g1=>?_)
  .have g1:nq m (u.getD j (cv Fact.z,b6.z))=is:=by rw[<-G];exact g1
   obtain⟨A,J⟩:=H2 (m:=u) (d:=(cv Fact.z,b6.z)) (bs:=bs) (dl:=fun j=>nq m (u.getD j (cv Fact.z,b6.z))) g1 B;refine gM 3 Z (bz Z (Da ab Z Z Z Z Z Z (rfl:kF.dk _=co x.1) (Et ((FG.map _).nodup hn) hx) Z) ?_);rintro t rfl;refine gA Z ⟨j,I,uE y hns,ac,[],wk Z Z Z (bi (bi (bi ac))) (hM Z Z Z ⟨⟨_,rfl,.of_eq Z⟩,Vm Z,rfl,⟨⟨_,rfl,.of_eq Z⟩,Vm Z,rfl,⟨⟨_,rfl,.of_eq (by rw[A,J];rfl)⟩,Vm Z,ac,⟨⟨_,rfl,.of_eq (by rw[rQ y];rfl)⟩,Vm Z,rfl,ac⟩⟩⟩⟩) Z⟩
  .have g1:nq m (u.getD j (cv Fact.z,b6.z))=jp:=by rw[<-G];exact g1
   have A:=CO (n:=u.length) (vs:=vs) (dl:=fun j=>nq m (u.getD j (cv Fact.z,b6.z))) g1;refine gA Z ⟨j,I,uE y hns,ac,[],wk Z Z Z (bi (bi (bi ac))) (hM Z Z Z ⟨⟨_,rfl,.of_eq Z⟩,Vm Z,rfl,⟨⟨_,rfl,.of_eq Z⟩,Vm Z,rfl,⟨⟨_,rfl,.of_eq (by unfold od po;rw[A];rfl)⟩,Vm Z,ac,⟨⟨_,rfl,.of_eq (by rw[rQ y];rfl)⟩,Vm Z,rfl,ac⟩⟩⟩⟩) Z⟩
end Go.Proofs.YtlmhfgbkchnfbaaGreatDoor
namespace Go.Proofs.YtlmhfgbkchnfbaaGreatDoor
open Go Go.Al
def F0(p:Prog)(f:Fact)(j:Nat):Bool:=kw ((f.args.getD j ci).kind=(gZ p f.rel).types.getD j ci)
def nu(p:Prog)(f:Fact):Int:=
 if dr .str (sS p) f.rel=jp∨jF f=jp∨ ¬(f.args.length:Int)=((gZ p f.rel).types.length:Int) then 5
 else if(V0 f.args.length).all (F0 p f)=is then 0 else 5
theorem Fj{q:Nat->Bool}{n:Nat}(h: ∀j,j<n->q j=is):(V0 n).all q=is:=Wc.2 fun j u=>h j (WX.1 u)
theorem Fi{q:Nat->Bool}{n j:Nat}(h:j<n)(u:q j=jp): ¬(V0 n).all q=is:=fun e=>by
 have:=Wc.1 e j (WX.2 h);rw[u]at this;cases this
theorem c16(p:Prog)(f:Fact)(hb:p.aD.length<=1000000000)(hf:f.args.length<=1000000000):Pure Tryz.prog 77 [ag p.c,ag f.c] (pI (nu p f)):=by
 refine ah ab Tryz.func77 Z (by decide) Tryz.ntmps77 Z (by simp) Z ?_;refine gA Z (zd [] (d50 p (by omega)) ?_);refine zE Z Z (fun g1=>?_) fun g1=>?_
 .have g1:dr .str (sS p) f.rel=jp:=by simpa using g1
  rw[nu,am (.inl g1)];exact zU Z
 have g1: ¬dr .str (sS p) f.rel=jp:=by
  have g:(!dr .str (sS p) f.rel)=jp:=g1;intro h;rw[h]at g;cases g
 refine gA Z (zp (c55 f) ?_);refine zE Z Z (fun g2=>?_) fun g2=>?_
 .have g2:jF f=jp:=by
   cases h:jF f with
   |false=>rfl
   |true=>
    have g:(!kw ((if jF f then(0:Int) else 20)=0))=is:=g2;rw[h]at g;simp at g
  rw[nu,am (.inr (.inl g2))];exact zU Z
 have g2: ¬jF f=jp:=by
  intro h;have g:(!kw ((if jF f then(0:Int) else 20)=0))=jp:=g2;rw[h]at g;simp at g
 refine zJ Z Z (fun g3=>?_) fun g3=>?_
 .have g3: ¬(f.args.length:Int)=((gZ p f.rel).types.length:Int):=by
   have g:(!kw ((f.args.length:Int)=((gZ p f.rel).types.length:Int)))=is:=g3;simpa only[WA,decide_eq_false_iff_not]using g
  rw[nu,am (.inr (.inr g3))];exact zU Z
 have g3:(f.args.length:Int)=((gZ p f.rel).types.length:Int):=by
  have g:(!kw ((f.args.length:Int)=((gZ p f.rel).types.length:Int)))=jp:=g3;simpa only[Xf,decide_eq_true_eq]using g
 rw[nu,be (by rintro(h|h|h);exact g1 h;exact g2 h;exact h g3)];refine gA Z ?_;refine aM 0 f.args.length (VB _) (fun i=>⟨[(5,.ptr 3 0),(34,.iv (a7 3 f.args cN.c)),(35,pI f.args.length),(36,pI i)],[(3,co (aG (gZ p f.rel).c))],4⟩) (fun i=> ∀j,j<i->F0 p f j=is) [] (fun j x=>absurd x (Xl j))
  (zW (zO trivial)) fun i A y=>?_
 refine zJ Z Z (fun h1=>?_) fun h1=>?_
 .have h1:i<f.args.length:=zN h1;refine zJ Z Z (fun u=>?_) fun u=>?_
  .have u:F0 p f i=jp:=by
    have g:(!F0 p f i)=is:=u;simpa using g
   rw[be (Fi h1 u)];exact zU Z
  .have u:F0 p f i=is:=by
    have g:(!F0 p f i)=jp:=u;simpa using g
   refine gA Z ⟨h1,fun j x=>by rcases Xo.1 x with h|h;exact y j h;exact h▸u,[],zW (zO ac)⟩
 .have h1:f.args.length<=i:=zG h1;rw[am (Fj fun j x=>y j (by omega))];exact zU Z
end Go.Proofs.YtlmhfgbkchnfbaaGreatDoor
namespace Go.Proofs.YtlmhfgbkchnfbaaGreatDoor
open Go Go.Al Go.Proofs.Tryz Go.Bo
def okF(p:Prog)(f:Fact):Bool:=kw (nu p f=0)
theorem ji{p:Prog}{f:Fact}(h:okF p f=is):f.args.length<=8:=by
 have h:=of_decide_eq_true h;unfold nu at h;split at h
 .cases h
 .rename_i g;have g2: ¬jF f=jp:=fun e=>g (.inr (.inl e));rw[Bool.not_eq_false]at g2;unfold jF at g2;simp only[Wf,decide_eq_true_eq]at g2;exact g2.2.1
abbrev mapOf(T:List (b6 Fact)):CM:=T.map fun x=>(cv x.2,x)
theorem A8{T:List (b6 Fact)}(hn:(T.map (·.2)).Nodup)(u: ∀x∈T,x.2.args.length<=8):((mapOf T).map (·.1)).Nodup:=by
 induction T with
 |nil=>exact Wn
 |cons x r ih=>
  rw[Vy,Wb]at hn;rw[mapOf,Vy,Vy,Wb];refine⟨fun m=>?_,ih hn.2 fun y j=>u y (VE _ j)⟩;obtain⟨e,B,A⟩:=V5.1 m;obtain⟨y,j,rfl⟩:=V5.1 B;have:=re (u y (VE _ j)) A;exact hn.1 (V5.2 ⟨y,j,this⟩)
def cd(S:List Fact)(l:List (b6 Fact)):List (b6 Fact):=(np l).filter fun x=>!(kw (x.2∈S)==x.1)
theorem xz{l:List (b6 Fact)}{x:b6 Fact}(h:x∈np l):x∈l:=by
 have:=((qh l).2 x.1 x.2).1 h;exact ia this
theorem FQ{m:FM}{S:List Fact}(hk:b8 cv m S)(j: ∀f∈S,f.args.length<=8)(f:Fact):dr kF m (cv f)=kw (f∈S):=by
 have:=hk.has (f:=f) fun u hu e=>re (j u hu) e;by_cases h:f∈S
 .rw[decide_eq_true h,this.2 h]
 .rw[decide_eq_false h];cases e:dr kF m (cv f) with
  |false=>rfl
  |true=>exact absurd (this.1 e) h
theorem Hr{m:FM}{S:List Fact}(hk:b8 cv m S)(j: ∀f∈S,f.args.length<=8)(l:List (b6 Fact)):((mapOf (np l)).filter fun e=>!nq m e)=mapOf (cd S l):=by
 unfold cd mapOf;rw[List.filter_map];congr 1;refine Xs fun x _=>?_;show(!(dr kF m (cv x.2)==x.1))=_;rw[FQ hk j]
theorem AB: ∀(T:List (b6 Fact)) (c:b6 Fact),(kJ T c).length<=T.length+1
 | [],_=>VA _
 |x::r,c=>by
  have:=AB r c;unfold kJ;split
  .simp
  .simp only[VX];omega
theorem FO(l:List (b6 Fact)):(np l).length<=l.length:=by
 have key: ∀(l T:List (b6 Fact)),(l.foldl kJ T).length<=T.length+l.length:=by
  intro l
  induction l with
  |nil=>intro T;exact VA _
  |cons c r ih=>
   intro T;have h1:=ih (kJ T c);have j:=AB T c;rw[Ws,VX];omega
 have:=key l [];show(l.foldl kJ []).length<=_;simpa using this
def zm(x:b6 Fact):Int:=if x.1=is then 1 else-1
theorem AM{a b:List Int}(h:a.Perm b):a.sum=b.sum:=by
 induction h with
 |nil=>rfl
 |cons x _ ih=>rw[WU,WU,ih]
 |swap x y l=>rw[WU,WU,WU,WU];omega
 |trans _ _ a b=>exact a.trans b
theorem DB: ∀(T:List (b6 Fact)),(T.map zm).sum=((T.filter fun x=>x.1).length:Int)-((T.filter fun x=>!x.1).length:Int)
 | []=>rfl
 |x::r=>by
  rw[Vy,WU,DB r];cases h:x.1 with
  |true=>simp[zm,h];omega
  |false=>simp[zm,h];omega
theorem Hq{S:List Fact}(hS:qx aY S)(l:List (b6 Fact)):(S.length:Int)+((cd S l).map zm).sum=(gn aY S l).length:=by
 have j:(cd S l).Perm (dC aY S l):=mM o6 S l;rw[AM (j.map zm),DB];have:=HM o6 hS l;omega
theorem E4(T:List (b6 Fact)): -(T.length:Int)<=(T.map zm).sum∧(T.map zm).sum<=T.length:=by
 induction T with
 |nil=>simp
 |cons x r ih=>
  rw[Vy,WU,VX];unfold zm at*
  split<;>omega
def HO(p:Prog)(S:List Fact)(l:List (b6 Fact)):PV:=
 if iM aY (okF p) S l=0 then .aZ [.iv (BM (mapOf (cd S l))),pI 0] else .aZ [.iv (.v (.map io)),pI (iM aY (okF p) S l)]
theorem tQ{p:Prog}{S:List Fact}{l:List (b6 Fact)}{e:Int}(h:iM aY (okF p) S l=e)(h0:e≠0):HO p S l= .aZ [.iv (.v (.map io)),pI e]:=by
 unfold HO;rw[h,be h0]
theorem D1{p:Prog}{S:List Fact}{l:List (b6 Fact)}(h:iM aY (okF p) S l=0):HO p S l= .aZ [.iv (BM (mapOf (cd S l))),pI 0]:=by
 unfold HO;rw[am h]
theorem Us(p:Prog)(n:Nat){m:FM}{S:List Fact}(l:List (b6 Fact))(hb:p.aD.length<=1000000000)(hk:b8 cv m S)(hS:eM aY (okF p) S)(hF: ∀x∈l,x.2.args.length<=1000000000):
  bg prog 45 [.ptr 1 0,.iv (a7 3 l fb)] (bO p n m) (HO p S l) (bH p n m) 2:=by
 have t0:=hk.len;have j0:=hS.RH;have g0: ∀f∈S,f.args.length<=8:=fun f hf=>ji (hS.ok f hf);refine aj ab func45 Z (by decide) ntmps45 Z (by simp) ?_;refine gA Z ?_;refine Vo (fun k1=>?_) (fun k1=>?_)
 .exact absurd k1 (by decide)
 refine gA Z ?_;refine Vo (fun I=>?_) (fun I=>?_)
 .have I:4096<l.length:=by have:=of_decide_eq_true I;omega
  rw[tQ (e:=2) (by unfold iM;rw[am I]) (by decide)];refine gA Z (ar [] (by first|exact .inr Z|exact .inl Z) Z (wk Z Z Z (bi ac) (hM Z Z Z ⟨⟨_,rfl,.of_eq Z⟩,Vm Z,rfl,ac⟩) Z))
 have I:l.length<=4096:=by have:=of_decide_eq_false I;omega
 refine gA Z ?_;refine aM 0 l.length (VB _) (fun i=>⟨[(2,.ptr 2 0),(6,.mp 3),(20,.iv (a7 3 l fb)),(21,pI l.length),(22,pI i)],[(0,co (bx m)),(1,co (ch p n 0)),(2,co EE),(3,co (Jc (mapOf (np (l.take i)))))],4⟩) (fun i=> ∀x∈l.take i,okF p x.2=is) [] (by simp)
  (wk Z Z Z (bi (bi (bi (bi (bi trivial))))) (hM Z Z Z ⟨⟨_,rfl,.of_eq Z⟩,Vm Z,rfl,⟨⟨_,rfl,.of_eq Z⟩,Vm Z,rfl,QU Z MO Z trivial⟩⟩) Z) fun i hi J=>?_
 refine gA Z ?_;refine Vo (fun h1=>?_) (fun h1=>?_)
 .have h1:i<l.length:=by simpa using h1
  have e0:l.getD i ci∈l:=by rw[Vr,Vt h1];exact Wj h1
  have Y:=ie (g:=kJ) (b:=([]:List (b6 Fact))) h1;have q0:=bS (l:=l) h1;refine gA Z (bc ab [] (Pure.nv (c16 p (l.getD i ci).2 hb (hF _ e0))) Z Z Z Z Z Z Z Z Z Z Z Z (by(repeat' (first|exact ac|exact rfl|exact ae.refl _|exact ae.bk (by assumption)|apply Vo))<;>first|omega|(simp only[Vu];omega)|(simp;done)|(simp;omega)) Z (by(repeat' (first|exact ac|exact rfl|exact ae.refl _|exact ae.bk (by assumption)|apply Vo))<;>first|omega|(simp only[Vu];omega)|(simp;done)|(simp;omega)) ?_);refine gA Z ?_;refine Vo (fun g1=>?_) (fun g1=>?_)
  .have g1:okF p (l.getD i ci).2=jp:=by
    have g:(!kw (nu p (l.getD i ci).2=0))=is:=g1;rw[WA]at g;exact g
   rw[tQ (e:=5) (by
    unfold iM;rw[be (by omega),am]
    exact List.all_eq_false.2 ⟨_,e0,by rw[g1];decide⟩) (by decide)]
   refine gA Z (ar [] (by first|exact .inr Z|exact .inl Z) Z (wk Z Z Z (bi ac) (hM Z Z Z ⟨⟨_,rfl,.of_eq Z⟩,Vm Z,rfl,ac⟩) Z))
  .have g1:okF p (l.getD i ci).2=is:=by
    have g:(!kw (nu p (l.getD i ci).2=0))=jp:=g1;rw[Xf]at g;exact g
   have s0:=ji g1;refine gA Z (aB (Qe (l.getD i ci).2 s0) Z Z Z Z Z Z ?_);have o0:=Fk (kc:=kF) (key:=cv) (np (l.take i)) (l.getD i ci) fun y hy e=>re (ji (J y (xz hy))) e;refine fP Z ?_ ?_
   .repeat' (first|exact ac|exact rfl|exact MQ _|exact ae.refl _|apply Vo)
    all_goals omega
   refine⟨h1,fun x u=>?_,[],wk Z Z Z (bi (bi (bi (bi (bi ac))))) (hM Z Z Z ⟨⟨_,rfl,.of_eq Z⟩,Vm Z,rfl,⟨⟨_,rfl,.of_eq Z⟩,Vm Z,rfl,hM Z ?_ Z ac⟩⟩) Z⟩
   .rw[q0,VM,Vz]at u;exact u.elim (J x) fun e=>e▸g1
   .show _=(np (l.take (i+1))).map fun x=>(cv x.2,x)
    unfold np at*
    rw[Y,<-o0,<-O0 (l.getD i ci)];rfl
 .have h1:l.length<=i:=by simpa using h1
  have k0:i=l.length:=by omega
  subst k0;rw[VI (VA _)]at J ⊢;have B:(l.all fun x=>okF p x.2)=is:=Wc.2 J;have n0:=A8 (qh l).1 fun x u=>ji (J x (xz u));have p0:=Hr hk g0 l;have w0:=Hq hS.BY l;have m0:=FO l;have v0:(cd S l).length<=l.length:=Wr (WO _ _) m0;refine gA Z (ak [0,1,2,3] (Uw p n m (mapOf (np l)) n0 (by rw[mapOf,VS];omega)) Z Z Z Z Z Z Z Z ?_);rw[p0];refine gA Z ?_
  refine fO (mapOf (cd S l)) (fun vs=>⟨[(6,.iv (BM (mapOf (cd S l)))),(11,pI ((m.length:Int)+(vs.map fun j=>zm (ma (mapOf (cd S l)) j)).sum)),(54,.ptr 4 0)],[(0,co (bx m)),(1,co (ch p n 0)),(4,co (.bX kF BN (mapOf (cd S l)) vs io))],5⟩) (fun vs=>vs.Nodup∧ ∀j∈vs,j<(mapOf (cd S l)).length) [] ⟨Wn,by simp⟩
   (wk Z Z Z (bi ⟨yS (by simp),rfl,bi trivial⟩) (hM Z Z Z ⟨⟨_,rfl,.of_eq Z⟩,Vm Z,rfl,hI Z Z (.inl Z) Z trivial⟩) Z) fun vs f0=>?_
  obtain⟨v1,v2⟩:=f0;have r0:=BZ v1 v2;rw[VS]at r0;have G:=E4 (vs.map (ma (mapOf (cd S l))));rw[Wx,VS]at G;have a0:=G.1;have b0:=G.2;have i0:(zm ∘ ma (mapOf (cd S l)))=fun j=>zm (ma (mapOf (cd S l)) j):=rfl;rw[i0]at a0 b0;refine fP Z ac (dM Z Z Z Z Z (by decide) (fun C=>?_) fun j x u hj=>?_)
  .have hq:(vs.map fun j=>zm (ma (mapOf (cd S l)) j)).sum=((cd S l).map zm).sum:=by
    have h1:=((yg v1 v2 C).map fun j=>(mapOf (cd S l)).getD j (cv Fact.z,b6.z)).map fun e=>zm e.2;rw[cy,Wx,Wx]at h1;exact AM h1
   rw[hq];refine gA Z ?_;refine Vo (fun g2=>?_) (fun g2=>?_)
   .have g2:65536<(gn aY S l).length:=by have:=of_decide_eq_true g2;omega
    rw[tQ (e:=3) (by unfold iM;rw[be (by omega),be (by rw[B];decide),am g2]) (by decide)];refine gA Z (ar [] (by first|exact .inr Z|exact .inl Z) Z (wk Z Z Z (bi ac) (hM Z Z Z ⟨⟨_,rfl,.of_eq Z⟩,Vm Z,rfl,ac⟩) Z))
   .have g2: ¬65536<(gn aY S l).length:=by have:=of_decide_eq_false g2;omega
    rw[D1 (by unfold iM;rw[be (by omega),be (by rw[B];decide),be g2])];refine gA Z (ar [] (by first|exact .inr Z|exact .inl Z) Z (wk Z Z Z (bi ac) (hM Z Z Z ⟨⟨_,rfl,.of_eq Z⟩,Vm Z,rfl,ac⟩) Z))
  .have d0:x.2=ma (mapOf (cd S l)) j:=by rw[ma,Vr,u];rfl
   have c0: ∀A,A=j::vs->A.Nodup∧ ∀i∈A,i<(mapOf (cd S l)).length:=fun A e=>e▸⟨Wb.2 ⟨hj,v1⟩,fun i hi=>(VH.1 hi).elim (fun h=>h▸(Vs.1 u).1) (v2 i)⟩;refine gA Z ?_;refine Vo (fun g3=>?_) (fun g3=>?_)
   .have g3:x.2.1=is:=g3;have D:zm (ma (mapOf (cd S l)) j)=1:=by rw[<-d0,zm,am g3]
    refine gA Z ⟨j,x,u,hj,c0 _ Z,[],wk Z Z Z (bi ⟨yS (by rw[Vy,WU,D];omega),rfl,bi ac⟩) (hM Z Z Z ⟨⟨_,rfl,.of_eq Z⟩,Vm Z,rfl,hI Z Z (.inr Z) Z ac⟩) Z⟩
   .have g3:x.2.1=jp:=g3;have D:zm (ma (mapOf (cd S l)) j)= -1:=by rw[<-d0,zm,be (by rw[g3];decide)]
    refine gA Z ⟨j,x,u,hj,c0 _ Z,[],wk Z Z Z (bi ⟨yS (by rw[Vy,WU,D];omega),rfl,bi ac⟩) (hM Z Z Z ⟨⟨_,rfl,.of_eq Z⟩,Vm Z,rfl,hI Z Z (.inr Z) Z ac⟩) Z⟩
theorem Ha{y:IV}(A:jV (lits []) y):Pure prog 71 [.iv (lits [])] (.iv y):=by
 refine ah ab func71 Z (by decide) ntmps71 Z (by simp) Z ?_;refine gA Z (aB (DP [] (by simp)) Z Z Z Z Z Z ?_);refine gA Z (mR (n:=0) ?_);refine gA Z ?_;refine Vo (fun j=>?_) (fun j=>?_)
 .exact absurd j (by simp)
 refine gA Z (aI (by first|exact .inr Z|exact .inl Z) Z ?_);exact .iv (fun M x u=>A M x u)
set_option maxHeartbeats 2000000 in
theorem SZ: ∀(n:Nat) (l:List Lit) (y:IV),Lit.aC l<=n->Lit.aC l<=1000000000->jV (lits l) y->Pure prog 71 [.iv (lits l)] (.iv y):=by
 intro n
 induction n with
 |zero=>
  intro l y h hb A;have hl:=Lit.aJ l;have u:l=[]:=WT.1 (by omega);subst u;exact Ha A
 |succ n ih=>
  intro l y h hb A;have hl:=Lit.aJ l;by_cases B:l=[]
  .subst B;exact Ha A
  refine ah ab func71 Z (by decide) ntmps71 Z (by simp) Z ?_;refine gA Z (ak [] (Ai l (by omega) B) Z Z Z Z Z Z Z Z ?_);refine gA Z ?_;refine aM 0 l.length (VB _) (fun i=>⟨[(0,.iv (lits l)),(3,.sl 0 0 l.length 30),(9,pI l.length),(10,pI i)],[(0,co (aV 30 l Lit.c))],1⟩) (fun _=>True) [] ac
   (wk Z Z Z (bi (bi (bi (bi trivial)))) (hR Z (by rw[Wx];exact WE fun x _=>ja _ _) Z trivial) Z) fun i G _=>?_
  refine gA Z ?_;refine Vo (fun h1=>?_) (fun h1=>?_)
  .have h1:i<l.length:=by simpa using h1
   have D:=Lit.bT l i h1;have C:=(l.getD i ci).size_eq;have j:=Cn (g:=fun x=>(Lit.c x).map PV.iv) h1;refine gM 22 Z (kn ab Z Z Z Z Z (j) Z Z ?_);refine gA Z (aB (tL (l.getD i ci).atom.an (by omega)) Z Z Z Z Z Z ?_);refine gA Z (mS ab Z Z Z Z (i:=0) (q:=0+i) (off:=2) Z Z j Z Z (by decide) Z Z ?_);refine gM 9 Z (kq (p:=ag (l.getD i ci).left.c) 6 Z Z Z Z Z Z (dd ab Z Z Z Z j Z) ?_);refine gM 3 Z (kq (p:=ag (l.getD i ci).right.c) 11 Z Z Z Z Z Z (dd ab Z Z Z Z j Z) ?_);refine gM 4 Z (kq (p:=ag (l.getD i ci).jT.c) 17 Z Z Z Z Z Z (dd ab Z Z Z Z j Z) ?_);refine gA Z (rm ab [11,17] [] (Pure.nv (Ch (l.getD i ci).left (by omega))) Z Z Z Z Z Z Z Z Z Z Z Z (by(repeat' (first|exact ac|exact rfl|exact ae.refl _|exact ae.bk (by assumption)|apply Vo))<;>first|omega|(simp only[Vu];omega)|(simp;done)|(simp;omega)) Z (by(repeat' (first|exact ac|exact rfl|exact ae.refl _|exact ae.bk (by assumption)|apply Vo))<;>first|omega|(simp only[Vu];omega)|(simp;done)|(simp;omega)) ⟨mn ab Z Z Z Z Z Z Z j Z (.refl _),⟨mn ab Z Z Z Z Z Z Z j Z (.refl _),ac⟩⟩ ?_);refine gA Z (rm ab [17] [] (Pure.nv (Ch (l.getD i ci).right (by omega))) Z Z Z Z Z Z Z Z Z Z Z Z (by(repeat' (first|exact ac|exact rfl|exact ae.refl _|exact ae.bk (by assumption)|apply Vo))<;>first|omega|(simp only[Vu];omega)|(simp;done)|(simp;omega)) Z (by(repeat' (first|exact ac|exact rfl|exact ae.refl _|exact ae.bk (by assumption)|apply Vo))<;>first|omega|(simp only[Vu];omega)|(simp;done)|(simp;omega)) ⟨mn ab Z Z Z Z Z Z Z j Z (.refl _),ac⟩ ?_);refine gA Z (bc ab [] (Pure.nv (Ch (l.getD i ci).jT (by omega))) Z Z Z Z Z Z Z Z Z Z Z Z (by(repeat' (first|exact ac|exact rfl|exact ae.refl _|exact ae.bk (by assumption)|apply Vo))<;>first|omega|(simp only[Vu];omega)|(simp;done)|(simp;omega)) Z (by(repeat' (first|exact ac|exact rfl|exact ae.refl _|exact ae.bk (by assumption)|apply Vo))<;>first|omega|(simp only[Vu];omega)|(simp;done)|(simp;omega)) ?_);refine gA Z (iC ab Z Z Z Z Z (by(repeat' (first|exact ac|exact rfl|exact ae.refl _|exact ae.bk (by assumption)|apply Vo))<;>first|omega|(simp only[Vu];omega)|(simp;done)|(simp;omega)) (fY ab Z Z Z (i:=0) (q:=0+i) (off:=4) Z Z j Z Z (by decide) Z Z) Z (by(repeat' (first|exact ac|exact rfl|exact ae.refl _|exact ae.bk (by assumption)|apply Vo))<;>first|omega|(simp only[Vu];omega)|(simp;done)|(simp;omega)) ?_);refine gA Z (iC ab Z Z Z Z Z (by(repeat' (first|exact ac|exact rfl|exact ae.refl _|exact ae.bk (by assumption)|apply Vo))<;>first|omega|(simp only[Vu];omega)|(simp;done)|(simp;omega)) (fY ab Z Z Z (i:=0) (q:=0+i) (off:=11) Z Z j Z Z (by decide) Z Z) Z (by(repeat' (first|exact ac|exact rfl|exact ae.refl _|exact ae.bk (by assumption)|apply Vo))<;>first|omega|(simp only[Vu];omega)|(simp;done)|(simp;omega)) ?_);refine gA Z (iC ab Z Z Z Z Z (by(repeat' (first|exact ac|exact rfl|exact ae.refl _|exact ae.bk (by assumption)|apply Vo))<;>first|omega|(simp only[Vu];omega)|(simp;done)|(simp;omega)) (fY ab Z Z Z (i:=0) (q:=0+i) (off:=20) Z Z j Z Z (by decide) Z Z) Z (by(repeat' (first|exact ac|exact rfl|exact ae.refl _|exact ae.bk (by assumption)|apply Vo))<;>first|omega|(simp only[Vu];omega)|(simp;done)|(simp;omega)) ?_);refine gM 7 Z (kn ab Z Z Z Z Z (j) Z Z ?_);refine gA Z (aB (Al.Pure.le (aa:=[.iv (rD (l.getD i ci).ay)]) (ih (l.getD i ci).ay (rD (l.getD i ci).ay) (by omega) (by omega) (CG _)) ⟨.iv (mJ _),ac⟩) Z Z Z Z Z Z ?_);refine gA Z (mS ab Z Z Z Z (i:=0) (q:=0+i) (off:=27) Z Z j Z Z (by decide) Z Z ?_);refine gA Z ⟨h1,ac,[],wk Z Z Z (bi (bi (bi (bi ac)))) (hR Z Z Z ac) Z⟩
  .have h1:l.length<=i:=by simpa using h1
   refine gA Z (gj (r0:= .sl 0 0 l.length 30) (.inr Z) Z (ft.gd 0 l Lit.c Z Z (by simp[PV.ba,a8]) (.done ?_)));have:ae (.iv (lits l)) (.iv y):= .iv A;simp only[PV.dA,nD,VL];exact this
theorem Qd(l:List Lit)(hb:Lit.aC l<=1000000000):Pure prog 71 [.iv (lits l)] (.iv (lits l)):=SZ _ l _ (VA _) hb (fun _ _ h=>h)
theorem G6(p:Prog)(hb:p.size<=1000000000):Pure prog 38 [ag p.c] (ag p.c):=by
 unfold Prog.size at hb;refine ah ab func38 Z (by decide) ntmps38 Z (by simp) Z ?_;refine gM 9 Z ?_;refine km 2 0 4 Z Z ?_;refine km 2 1 5 Z Z ?_;refine gA Z ?_;refine aM 0 p.aD.length (VB _) (fun i=>⟨[(1,.ptr 0 0),(2,.ptr 1 0),(3,.ptr 2 0),(9,.iv (a7 4 p.aD Decl.c)),(10,pI p.aD.length),(11,pI i)],[(0,co (aG p.c)),(1,co (.cells [.iv (.v (.slice io 0 0)),.iv (.v (.slice io 0 0))])),(2,co (.cells [.sl 5 0 i 4,.sl 4 0 0 5])),(4,co (aV 5 ([]:List aw) aw.c)),(5,co (aV 4 (p.aD.take i) Decl.c))],6⟩) (fun _=>True) [3] ac
  (wk Z Z Z (bi (bi (bi (bi (bi (bi trivial)))))) (hC Z Z Z ⟨⟨_,rfl,.of_eq Z⟩,Vm Z,rfl,⟨_,rfl,.of_eq Z⟩,Vm Z,rfl,hR Z Z Z (hR Z Z Z trivial)⟩) Z) fun i B _=>?_
 refine gA Z ?_;refine Vo (fun h1=>?_) (fun h1=>?_)
 .have h1:i<p.aD.length:=by simpa using h1
  have y:(p.aD.take i).length=i:=by rw[V7];omega
  have x:=bS (l:=p.aD) h1;have A:=oG (fun d:Decl=>d.types.length) p.aD i h1;refine gA Z (aB (DQ (p.aD.getD i ci).types (by omega)) Z Z Z Z Z Z ?_);refine gA Z ⟨h1,ac,[8],wk Z Z Z (bi (bi (bi (bi (bi (bi ac)))))) (hC Z Z Z ⟨⟨_,rfl,.of_eq Z⟩,Vm Z,rfl,⟨⟨_,rfl,.of_eq Z⟩,Vm Z,rfl,hR Z Z Z (hR Z (by rw[x,VD];rfl) Z ac)⟩⟩) Z⟩
 .have h1:p.aD.length<=i:=by simpa using h1
  have u:i=p.aD.length:=by omega
  subst u;rw[VI (VA _)];refine gA Z ?_;refine aM 0 p.rules.length (VB _) (fun i=>⟨[(1,.ptr 0 0),(2,.ptr 1 0),(3,.ptr 2 0),(27,.iv (a7 5 p.rules aw.c)),(28,pI p.rules.length),(29,pI i)],[(0,co (aG p.c)),(1,co (.cells [.iv (.v (.slice io 0 0)),.iv (.v (.slice io 0 0))])),(2,co (.cells [.sl 5 0 p.aD.length 4,.sl 6 0 i 5])),(5,co (aV 4 p.aD Decl.c)),(6,co (aV 5 (p.rules.take i) aw.c))],7⟩) (fun _=>True) [4] ac
   (wk Z Z Z (bi (bi (bi (bi (bi (bi trivial)))))) (hC Z Z Z ⟨⟨_,rfl,.of_eq Z⟩,Vm Z,rfl,⟨⟨_,rfl,.of_eq Z⟩,Vm Z,rfl,hR Z Z Z (hR Z Z Z trivial)⟩⟩) Z) fun i B _=>?_
  refine gA Z ?_;refine Vo (fun j=>?_) (fun j=>?_)
  .have j:i<p.rules.length:=by simpa using j
   have y:(p.rules.take i).length=i:=by rw[V7];omega
   have x:=bS (l:=p.rules) j;have A:=oG aw.size p.rules i j;have C:(p.rules.getD i ci).size=(p.rules.getD i ci).head.an.length+Lit.aC (p.rules.getD i ci).body:=rfl;refine gA Z (aB (tL (p.rules.getD i ci).head.an (by omega)) Z Z Z Z Z Z ?_);refine gA Z (aB (Qd (p.rules.getD i ci).body (by omega)) Z Z Z Z Z Z ?_);refine gA Z ⟨j,ac,[9],wk Z Z Z (bi (bi (bi (bi (bi (bi ac)))))) (hC Z Z Z ⟨⟨_,rfl,.of_eq Z⟩,Vm Z,rfl,⟨⟨_,rfl,.of_eq Z⟩,Vm Z,rfl,hR Z Z Z (hR Z (by rw[x,VD];rfl) Z ac)⟩⟩) Z⟩
  .have j:p.rules.length<=i:=by simpa using j
   have u:i=p.rules.length:=by omega
   subst u;rw[VI (VA _)];refine gA Z (gj (r0:= .agg [.sl 5 0 p.aD.length 4,.sl 6 0 p.rules.length 5]) (.inr Z) Z (ft.gd 5 p.aD Decl.c Z Z (by simp[PV.ba,a8]) (ft.gd 6 p.rules aw.c Z Z (by simp[PV.ba,a8,PV.dA,nD,show VP 6 5=jp from rfl]) (.done (.of_eq (by simp only[PV.dA,nD,VL,show VP 6 5=jp from rfl,show VP 5 5=is from rfl,show VP 6 6=is from rfl,cond_true,cond_false];rfl))))))
end Go.Proofs.YtlmhfgbkchnfbaaGreatDoor
namespace Go.Tj
section
section
variable {α:Type}
inductive nF (succ:α->List α):α->α->Prop
 |refl (a:α):nF succ a a
 |step {a b c:α}:nF succ a b->c∈succ b->nF succ a c
theorem nF.trans{succ:α->List α}{a b c:α}(h:nF succ a b)(g:nF succ b c):nF succ a c:=by
 induction g with
 |refl=>exact h
 |step _ he ih=>exact .step ih he
theorem nF.one{succ:α->List α}{a b:α}(h:b∈succ a):nF succ a b:= .step (.refl a) h
structure St (α:Type) where
 low:α->Int
 on:α->Int
 ring:α->Int
 n:Nat
 stack:List α
section
variable [DecidableEq α]
def yi(f:α->Int)(a:α)(v:Int):α->Int:=fun x=>if x=a then v else f x
theorem j4(f:α->Int)(a:α)(v:Int):yi f a v a=v:=am Z
theorem ln{f:α->Int}{a x:α}{v:Int}(h: ¬x=a):yi f a v x=f x:=be h
def push(s:St α)(a:α):St α:=⟨yi s.low a ((s.n:Int)+1),yi s.on a 1,s.ring,s.n+1,s.stack++ [a]⟩
def yF(j:Int)(s:St α):St α:=match s.stack.getLast? with
 |some b=>⟨s.low,yi s.on b 2,yi s.ring b j,s.n,s.stack.dropLast⟩
 |none=>s
def fL(a:α)(j:Int):Nat->St α->St α
 |0,s=>s
 |k+1,s=>if s.on a=1 then fL a j k (yF j s) else s
def sN(j:α->St α->Int×St α)(q:Int×St α)(b:α):Int×St α:=
 if q.2.low b=0 then(min q.1 (j b q.2).1,(j b q.2).2) else if q.2.on b=1 then(min q.1 (q.2.low b),q.2) else q
def tJ(a:α)(j:Int)(q:Int×St α):Int×St α:=if q.1=j then(q.1,fL a j q.2.stack.length q.2) else q
def ep(succ:α->List α):Nat->α->St α->Int×St α
 |0,_,s=>(0,s)
 |f+1,a,s=>tJ a ((s.n:Int)+1) ((succ a).foldl (sN (ep succ f)) ((s.n:Int)+1,push s a))
def gT(succ:α->List α)(f:Nat)(V:List α)(s:St α):St α:=V.foldl (fun s a=>if s.low a=0 then(ep succ f a s).2 else s) s
end
def St.o:St α:=⟨fun _=>0,fun _=>0,fun _=>0,0,[]⟩
structure Inv (succ:α->List α) (path:List α) (s:St α):Prop where
 nn: ∀a,0<=s.low a∧s.low a<=s.n
 inj: ∀a b,s.low a=s.low b->s.low a≠0->a=b
 JG: ∀a,s.on a=0↔s.low a=0
 Fw: ∀a,s.on a=0∨s.on a=1∨s.on a=2
 wV: ∀a,s.on a=1↔a∈s.stack
 BY:s.stack.Pairwise fun x y=>s.low x<s.low y
 MJ: ∀a,s.on a=2-> ∀b∈succ a,s.on b=2
 Qx: ∀g∈path,s.on g=1
 up: ∀y,s.on y=1-> ∃g∈path,s.low g<=s.low y∧nF succ y g
 dn: ∀g∈path,∀y,s.on y=1->s.low g<=s.low y->nF succ g y
 az: ∀y,s.low y≠0->y∉path-> ∀z∈succ y,s.low z≠0
 Tb: ∀a,s.on a=2-> ∃r,s.on r=2∧s.low r=s.ring a∧nF succ a r∧nF succ r a
 cmp: ∀a b,s.on a=2->s.on b=2->nF succ a b->nF succ b a->s.ring a=s.ring b
structure Le (s s':St α):Prop where
 low: ∀x,s.low x≠0->s'.low x=s.low x
 MJ: ∀x,s.on x=2->s'.on x=2
 n:s.n<=s'.n
theorem Le.refl(s:St α):Le s s:=⟨fun _ _=>rfl,fun _ h=>h,VA _⟩
theorem Le.trans{s t u:St α}(h:Le s t)(g:Le t u):Le s u:=
 ⟨fun x j=>by rw[g.low x (by rw[h.low x j];exact j),h.low x j],fun x j=>g.MJ x (h.MJ x j),Wr h.n g.n⟩
structure Rv (succ:α->List α) (path:List α) (a:α) (s:St α) (least:Int) (s':St α) (t:List α):Prop where
 inv:Inv succ path s'
 le:Le s s'
 stack:s'.stack=s.stack++t
 new: ∀y∈t,s.low y=0
 at_:(s.n:Int)<s'.low a
 QN:least<=s'.low a
 l1: ∀y∈t,∀z∈succ y,s'.on z=1->least<=s'.low z
 l2:(s'.on a=2∧least=s'.low a)∨ ∃z∈s.stack,s'.low z=least∧nF succ a z
theorem uV{succ:α->List α}{path:List α}{s:St α}(h:Inv succ path s){x:α}(j:s.on x=1):s.low x≠0:=fun g=>by
 have:=(h.JG x).2 g;omega
theorem HF{succ:α->List α}{p:List α}{s s':St α}(h:Inv succ p s)(hl:Le s s'){x:α}(j:s.low x≠0)(ho:s'.on x=1):s.on x=1:=by
 rcases h.Fw x with g|g|g
 .exact absurd ((h.JG x).1 g) j
 .exact g
 .have:=hl.MJ x g;omega
section
variable [DecidableEq α]
theorem AD{succ:α->List α}{path:List α}{s:St α}{a:α}(h:Inv succ path s)(ha:s.low a=0)(hp: ∀g∈path,nF succ g a):Inv succ (path++ [a]) (push s a):=by
 have b0:s.on a=0:=(h.JG a).2 ha;have J:a∉s.stack:=fun g=>by have:=(h.wV a).2 g;omega
 have A: ∀x,¬x=a->(push s a).low x=s.low x:=fun x j=>ln j;have la:(push s a).low a=(s.n:Int)+1:=j4 _ _ _;have D: ∀x,¬x=a->(push s a).on x=s.on x:=fun x j=>ln j;have G:(push s a).on a=1:=j4 _ _ _;have hn:((push s a).n:Int)=(s.n:Int)+1:=by show((s.n+1:Nat):Int)=_;omega
 refine⟨fun x=>?_,fun x y C j=>?_,fun x=>?_,fun x=>?_,fun x=>?_,?_,fun x j b hb=>?_,fun g hg=>?_,fun y B=>?_,fun g hg y B I=>?_,fun y B Y z hz=>?_,fun x j=>?_,fun x y j B h1 h2=>?_⟩
 .have:=h.nn x;by_cases e:x=a
  .subst e;rw[la,hn];omega
  .rw[A x e,hn];omega
 .have h1:=h.nn x;have h2:=h.nn y;by_cases e:x=a
  .by_cases u:y=a
   .rw[e,u]
   .rw[e,la,A y u]at C;omega
  .by_cases u:y=a
   .rw[u,la,A x e]at C;omega
   .rw[A x e,A y u]at C;rw[A x e]at j;exact h.inj x y C j
 .by_cases e:x=a
  .subst e;rw[G,la];constructor<;>intro g<;>omega
  .rw[D x e,A x e];exact h.JG x
 .by_cases e:x=a
  .subst e;exact .inr (.inl G)
  .rw[D x e];exact h.Fw x
 .show _↔x∈s.stack++ [a];rw[VM,Vz];by_cases e:x=a
  .subst e;simp[G]
  .rw[D x e,h.wV x];simp[e]
 .show(s.stack++ [a]).Pairwise _;rw[Xq];refine⟨h.BY.imp_of_mem ?_,XK _ _,fun x j y B=>?_⟩
  .intro x y j B C;rw[A x (fun e=>J (e▸j)),A y (fun e=>J (e▸B))];exact C
  .rw[Vz]at B;subst B;rw[la,A x (fun e=>J (e▸j))];have:=h.nn x;omega
 .have e: ¬x=a:=fun e=>by subst e;rw[G]at j;omega
  rw[D x e]at j;have a0:=h.MJ x j b hb;have u: ¬b=a:=fun e=>by subst e;omega
  rw[D b u];exact a0
 .rcases VM.1 hg with g1|g1
  .have:=h.Qx g g1;rw[D g (fun e=>by subst e;omega)];exact this
  .rw[Vz]at g1;subst g1;exact G
 .by_cases e:y=a
  .subst e;exact⟨y,WY _ VG,XL _,.refl _⟩
  .rw[D y e]at B;obtain⟨g,g1,g2,g3⟩:=h.up y B;have u: ¬g=a:=fun e=>by have:=h.Qx g g1;subst e;omega
   exact⟨g,Wi _ g1,by rw[A g u,A y e];exact g2,g3⟩
 .rcases VM.1 hg with g1|g1
  .have u: ¬g=a:=fun e=>by have:=h.Qx g g1;subst e;omega
   by_cases e:y=a
   .subst e;exact hp g g1
   .rw[A g u,A y e]at I;rw[D y e]at B;exact h.dn g g1 y B I
  .rw[Vz]at g1;subst g1;by_cases e:y=g
   .subst e;exact .refl _
   .rw[la,A y e]at I;have:=h.nn y;omega
 .have e: ¬y=a:=fun e=>Y (WY _ (by rw[e];exact VG))
  rw[A y e]at B;have:=h.az y B (fun g=>Y (Wi _ g)) z hz;by_cases u:z=a
  .rw[u,la];omega
  .rw[A z u];exact this
 .have e: ¬x=a:=fun e=>by subst e;rw[G]at j;omega
  rw[D x e]at j;obtain⟨r,r1,r2,r3⟩:=h.Tb x j;have u: ¬r=a:=fun e=>by subst e;omega
  exact⟨r,by rw[D r u];exact r1,by rw[A r u];exact r2,r3⟩
 .have e: ¬x=a:=fun e=>by subst e;rw[G]at j;omega
  have u: ¬y=a:=fun e=>by subst e;rw[G]at B;omega
  rw[D x e]at j;rw[D y u]at B;exact h.cmp x y j B h1 h2
theorem LW{succ:α->List α}{path:List α}{s:St α}{a:α}(h:Inv succ path s)(ha:s.low a=0):Le s (push s a):=by
 have u:s.on a=0:=(h.JG a).2 ha;refine⟨fun x j=>ln fun e=>j (e▸ha),fun x j=>?_,by show s.n<=s.n+1;omega⟩;have: ¬x=a:=fun e=>by subst e;omega
 show yi s.on a 1 x=2;rw[ln this];exact j
def yE(s:St α)(u c:List α)(j:Int):St α:=⟨s.low,fun x=>if x∈c then 2 else s.on x,fun x=>if x∈c then j else s.ring x,s.n,u⟩
theorem AE{a:α}{j:Int}{s:St α}(h: ¬s.on a=1): ∀k,fL a j k s=s
 |0=>rfl
 |k+1=>be h
theorem xg(a:α)(j:Int)(u:List α): ∀(k:Nat) (t:List α) (s:St α),t.length<k->s.stack=u++a::t->a∉t->s.on a=1->(fL a j k s).low=s.low∧(fL a j k s).n=s.n∧(fL a j k s).stack=u∧(∀x,(fL a j k s).on x=if x∈a::t then 2 else s.on x)∧ ∀x,(fL a j k s).ring x=if x∈a::t then j else s.ring x
 |0,t,s,h,_,_,_=>absurd h (Xl _)
 |k+1,t,s,hk,hs,hn,ho=>by
  rw[fL,am ho];rcases t.eq_nil_or_concat with e|⟨t0,b,e⟩
  .subst e;have hl:s.stack.getLast? =co a:=by rw[hs];simp
   have hd:s.stack.dropLast=u:=by rw[hs];simp
   have G:yF j s=⟨s.low,yi s.on a 2,yi s.ring a j,s.n,u⟩:=by unfold yF;rw[hl,hd]
   rw[G,AE (by show¬yi s.on a 2 a=1;rw[j4];decide)];exact⟨rfl,rfl,rfl,fun x=>by simp[yi],fun x=>by simp[yi]⟩
  .rw[List.concat_eq_append]at e;subst e;have B:s.stack=(u++a::t0)++ [b]:=by rw[hs];simp
   have hl:s.stack.getLast? =co b:=by rw[B];exact List.getLast?_concat
   have hd:s.stack.dropLast=u++a::t0:=by rw[B];exact List.dropLast_concat
   have G:yF j s=⟨s.low,yi s.on b 2,yi s.ring b j,s.n,u++a::t0⟩:=by unfold yF;rw[hl,hd]
   have D: ¬a=b:=fun e=>hn (by rw[e];simp);have C:=xg a j u k t0 ⟨s.low,yi s.on b 2,yi s.ring b j,s.n,u++a::t0⟩ (by simp at hk;omega) Z (fun g=>hn (Wi _ g)) (by show yi s.on b 2 a=1;rw[ln D];exact ho);rw[G];refine⟨C.1,C.2.1,C.2.2.1,fun x=>?_,fun x=>?_⟩
   .rw[C.2.2.2.1 x];by_cases y:x∈a::t0
    .rw[am y,am (by rw[<-VT];exact Wi _ y)]
    .rw[be y];by_cases A:x=b
     .subst A;rw[am (by simp)];exact j4 _ _ _
     .rw[be (by rw[<-VT,VM,Vz];exact fun g=>g.elim y A)];exact ln A
   .rw[C.2.2.2.2 x];by_cases y:x∈a::t0
    .rw[am y,am (by rw[<-VT];exact Wi _ y)]
    .rw[be y];by_cases A:x=b
     .subst A;rw[am (by simp)];exact j4 _ _ _
     .rw[be (by rw[<-VT,VM,Vz];exact fun g=>g.elim y A)];exact ln A
theorem St.eq{β:Type}{s t:St β}(h1:s.low=t.low)(j:s.on=t.on)(u:s.ring=t.ring)(x:s.n=t.n)(y:s.stack=t.stack):s=t:=by
 cases s;cases t;simp_all
theorem rZ{a:α}{j:Int}{u t:List α}{k:Nat}{s:St α}(hk:t.length<k)(hs:s.stack=u++a::t)(hn:a∉t)(ho:s.on a=1):fL a j k s=yE s u (a::t) j:=by
 obtain⟨h1,x,y,A,B⟩:=xg a j u k t s hk hs hn ho;exact St.eq h1 (funext A) (funext B) x y
theorem xS{β:Type}{succ:β->List β}{path:List β}{s:St β}(h:Inv succ path s){a b:β}(ha:s.on a=2)(hr:nF succ a b):s.on b=2:=by
 induction hr with
 |refl=>exact ha
 |step _ he ih=>exact h.MJ _ ih _ he
theorem LX{succ:α->List α}{path:List α}{s:St α}{a:α}{u t:List α}(h:Inv succ (path++ [a]) s)(hs:s.stack=u++a::t)(Y: ∀g∈path,s.low g<s.low a)(j0: ∀z∈succ a,s.low z≠0)
  (e0: ∀y∈a::t,∀z∈succ y,s.on z=1->s.low a<=s.low z):Inv succ path (yE s u (a::t) (s.low a)):=by
 have I:=h.BY;rw[hs,Xq]at I;obtain⟨hu,hc,c0⟩:=I;have f0:=(Wz.1 hc).1;have i0:s.on a=1:=(h.wV a).2 (by rw[hs];simp);have hC: ∀x,x∈a::t↔(s.on x=1∧s.low a<=s.low x):=by
  intro x;constructor
  .intro j;refine⟨(h.wV x).2 (by rw[hs];exact WY _ j),?_⟩;rcases VH.1 j with e|e
   .rw[e];exact XL _
   .have:=f0 x e;omega
  .rintro⟨h1,D⟩;have:=(h.wV x).1 h1;rw[hs]at this;rcases VM.1 this with g|g
   .have:=c0 x g a VG;omega
   .exact g
 have a0:a∈a::t:=VG;have A: ∀x,x∈a::t->(yE s u (a::t) (s.low a)).on x=2:=fun x j=>am j;have no: ∀x,x∉a::t->(yE s u (a::t) (s.low a)).on x=s.on x:=fun x j=>be j
 have J: ∀x,x∈a::t->nF succ x a:=by
  intro x j;obtain⟨h1,D⟩:=(hC x).1 j;obtain⟨g,g1,g2,g3⟩:=h.up x h1;refine g3.trans (h.dn g g1 a i0 ?_);rcases VM.1 g1 with e|e
  .have:=Y g e;omega
  .rw[Vz]at e;rw[e];exact XL _
 have G: ∀x,x∈a::t->nF succ a x:=by
  intro x j;obtain⟨h1,D⟩:=(hC x).1 j;exact h.dn a (by simp) x h1 D
 have b0: ∀y,s.low y≠0->y∉path-> ∀z∈succ y,s.low z≠0:=by
  intro y B k0 z hz;by_cases e:y=a
  .rw[e]at hz;exact j0 z hz
  .exact h.az y B (by rw[VM,Vz];exact fun g=>g.elim k0 e) z hz
 refine⟨h.nn,h.inj,fun x=>?_,fun x=>?_,fun x=>?_,hu,fun x j b hb=>?_,fun g hg=>?_,fun y B=>?_,fun g hg y B g0=>?_,b0,fun x j=>?_,fun x y j B h1 D=>?_⟩
 .by_cases e:x∈a::t
  .rw[A x e];have:=uV h ((hC x).1 e).1;exact⟨fun g=>by omega,fun g=>absurd g this⟩
  .rw[no x e];exact h.JG x
 .by_cases e:x∈a::t
  .exact .inr (.inr (A x e))
  .rw[no x e];exact h.Fw x
 .show _↔x∈u;by_cases e:x∈a::t
  .rw[A x e];refine⟨fun g=>by omega,fun g=>?_⟩;have h1:=c0 x g a a0;have D:=((hC x).1 e).2;omega
  .rw[no x e,h.wV x,hs,VM];exact⟨fun g=>g.elim id fun q=>absurd q e,.inl⟩
 .by_cases e:x∈a::t
  .obtain⟨h1,D⟩:=(hC x).1 e;have d0:s.low b≠0:=b0 x (uV h h1) (fun g=>by have:=Y x g;omega) b hb;rcases h.Fw b with g|g|g
   .exact absurd ((h.JG b).1 g) d0
   .exact A b ((hC b).2 ⟨g,e0 x e b hb g⟩)
   .by_cases C:b∈a::t
    .exact A b C
    .rw[no b C];exact g
  .rw[no x e]at j;have g:=h.MJ x j b hb;by_cases C:b∈a::t
   .exact A b C
   .rw[no b C];exact g
 .have h1:=h.Qx g (Wi _ hg);have D:=Y g hg;rw[no g (fun e=>by have:=((hC g).1 e).2;omega)];exact h1
 .by_cases e:y∈a::t
  .rw[A y e]at B;omega
  .rw[no y e]at B;obtain⟨g,g1,g2,g3⟩:=h.up y B;rcases VM.1 g1 with q|q
   .exact⟨g,q,g2,g3⟩
   .rw[Vz]at q;rw[q]at g2;exact absurd ((hC y).2 ⟨B,g2⟩) e
 .by_cases e:y∈a::t
  .rw[A y e]at B;omega
  .rw[no y e]at B;exact h.dn g (Wi _ hg) y B g0
 .by_cases e:x∈a::t
  .exact⟨a,A a a0,(am e).symm,J x e,G x e⟩
  .rw[no x e]at j;obtain⟨r,r1,r2,r3⟩:=h.Tb x j;have C:r∉a::t:=fun g=>by have:=((hC r).1 g).1;omega
   refine⟨r,by rw[no r C];exact r1,?_,r3⟩;show s.low r=if x∈a::t then s.low a else s.ring x;rw[be e];exact r2
 .show(if x∈a::t then s.low a else s.ring x)=if y∈a::t then s.low a else s.ring y;by_cases e:x∈a::t
  .by_cases C:y∈a::t
   .rw[am e,am C]
   .rw[no y C]at B;have:=xS h B D;have:=((hC x).1 e).1;omega
  .rw[no x e]at j;by_cases C:y∈a::t
   .have:=xS h j h1;have:=((hC y).1 C).1;omega
   .rw[no y C]at B;rw[be e,be C];exact h.cmp x y j B h1 D
theorem FJ{succ:α->List α}{path:List α}{s:St α}{a z:α}(h:Inv succ (path++ [a]) s)(u: ∀z∈succ a,s.low z≠0)(D:s.on z=1)(C:s.low z<s.low a)(hr:nF succ a z):Inv succ path s:=by
 refine⟨h.nn,h.inj,h.JG,h.Fw,h.wV,h.BY,h.MJ,fun g j=>h.Qx g (Wi _ j),fun y A=>?_,fun g j=>h.dn g (Wi _ j),fun y A B w x=>?_,h.Tb,h.cmp⟩
 .obtain⟨g,g1,g2,g3⟩:=h.up y A;rcases VM.1 g1 with q|q
  .exact⟨g,q,g2,g3⟩
  .rw[Vz]at q;subst q;obtain⟨k,G,J,I⟩:=h.up z D;rcases VM.1 G with q|q
   .exact⟨k,q,by omega,(g3.trans hr).trans I⟩
   .rw[Vz]at q;subst q;omega
 .by_cases e:y=a
  .rw[e]at x;exact u w x
  .exact h.az y A (by rw[VM,Vz];exact fun g=>g.elim B e) w x
def j3(V:List α)(s:St α):Nat:=(V.filter fun x=>kw (s.low x=0)).length
theorem filter_le{β:Type}{p q:β->Bool}: ∀(l:List β),(∀x∈l,p x=is->q x=is)->(l.filter p).length<=(l.filter q).length
 | [],_=>VA _
 |x::r,h=>by
  have A:=filter_le r fun y u=>h y (VE _ u);have j:=h x VG;rw[Xh,Xh];split
  .rename_i g;rw[am (j g)];simp only[VX];omega
  .split
   .simp only[VX];omega
   .exact A
theorem filter_lt{β:Type}{p q:β->Bool}{a:β}: ∀(l:List β),(∀x∈l,p x=is->q x=is)->a∈l->p a=jp->q a=is->(l.filter p).length<(l.filter q).length
 | [],_,h,_,_=>nomatch h
 |x::r,h,ha,h1,h2=>by
  have u:=filter_le r fun y j=>h y (VE _ j);have A:=h x VG;rw[Xh,Xh];rcases VH.1 ha with e|e
  .subst e;rw[h1,h2];simp only[Xe,if_false,if_true,VX];omega
  .have B:=filter_lt r (fun y j=>h y (VE _ j)) e h1 h2;split
   .rename_i g;rw[am (A g)];simp only[VX];omega
   .split
    .simp only[VX];omega
    .exact B
theorem wK{β:Type}{V:List β}{s s':St β}(h:Le s s'):j3 V s'<=j3 V s:=
 filter_le V fun x _ j=>by
  refine decide_eq_true (WV fun g=>?_);have:=of_decide_eq_true j;rw[h.low x g]at this;exact g this
theorem kM{V:List α}{s:St α}{a:α}(hn: ∀x,0<=s.low x∧s.low x<=s.n)(ha:a∈V)(h0:s.low a=0):j3 V (push s a)<j3 V s:=by
 have la:(push s a).low a=(s.n:Int)+1:=j4 _ _ _;refine filter_lt V (fun x _ j=>?_) ha (decide_eq_false (by rw[la];omega)) (decide_eq_true h0);have:=of_decide_eq_true j;by_cases e:x=a
 .rw[e];exact decide_eq_true h0
 .refine decide_eq_true ?_;rwa[show(push s a).low x=s.low x from ln e]at this
structure fy (succ:α->List α) (path:List α) (a:α) (s0:St α) (done:List α) (q:Int×St α) (t:List α):Prop where
 inv:Inv succ (path++ [a]) q.2
 le:Le (push s0 a) q.2
 stack:q.2.stack=s0.stack++a::t
 new: ∀y∈t,s0.low y=0
 QN:q.1<=(s0.n:Int)+1
 l1: ∀y∈t,∀z∈succ y,q.2.on z=1->q.1<=q.2.low z
 Tm: ∀z∈done,q.2.on z=1->q.1<=q.2.low z
 proc: ∀z∈done,q.2.low z≠0
 l2: ∃z,q.2.on z=1∧q.2.low z=q.1∧nF succ a z
section
variable {succ:α->List α} {path:List α} {a:α} {s0:St α} {done:List α} {q:Int×St α} {t:List α}
theorem fy.la(h:fy succ path a s0 done q t):q.2.low a=(s0.n:Int)+1:=by
 have e:(push s0 a).low a=(s0.n:Int)+1:=j4 _ _ _;rw[h.le.low a (by rw[e];omega),e]
theorem fy.pa(h:fy succ path a s0 done q t)(h0:Inv succ path s0)(ha:s0.low a=0): ∀g∈path,q.2.low g<q.2.low a:=by
 intro g u;have h1:=h0.Qx g u;have j:=uV h0 h1;have e:(push s0 a).low g=s0.low g:=ln fun e=>j (by rw[e];exact ha);rw[h.la,h.le.low g (by rw[e];exact j),e];have:=h0.nn g;omega
theorem fy.at_(h:fy succ path a s0 done q t):a∉t:=fun g=>by
 have:=h.inv.BY;rw[h.stack,Xq]at this;have:=(Wz.1 this.2.1).1 a g;omega
theorem fy.step{V:List α}{u:α->St α->Int×St α}{f:Nat}(hV: ∀a∈V,∀b∈succ a,b∈V)
  (ih: ∀(path:List α) (b:α) (s:St α),Inv succ path s->s.low b=0->b∈V->(∀g∈path,nF succ g b)->j3 V s<=f-> ∃t,Rv succ path b s (u b s).1 (u b s).2 t)
  (h:fy succ path a s0 done q t) (h0:Inv succ path s0) (ha:s0.low a=0) (a0:a∈V) {b:α} (hb:b∈succ a) (hw:j3 V q.2<=f): ∃t',fy succ path a s0 (done++ [b]) (sN u q b) t':=by
 have i0:=h.la;have e0:=h.pa h0 ha;have b0:=h.at_;have d0:q.2.on a=1:=(h.inv.wV a).2 (by rw[h.stack];simp);unfold sN;by_cases G:q.2.low b=0
 .rw[am G];have J: ∀g∈path++ [a],nF succ g b:=by
   intro g hg;refine .step (h.inv.dn g hg a d0 ?_) hb;rcases VM.1 hg with e|e
   .have:=e0 g e;omega
   .rw[Vz]at e;rw[e];exact XL _
  obtain⟨tb,x⟩:=ih (path++ [a]) b q.2 h.inv G (hV a a0 b hb) J hw;generalize u b q.2=w at x ⊢;obtain⟨I,s'⟩:=w;have C: ∀z,q.2.on z=1->s'.on z=1:=fun z j=>(x.inv.wV z).2 (by rw[x.stack];exact Wi _ ((h.inv.wV z).1 j));have k0:=h.le.n;have j0:(push s0 a).n=s0.n+1:=rfl;refine⟨t++tb,x.inv,h.le.trans x.le,?_,fun y Y=>?_,?_,fun y Y z j D=>?_,fun z j D=>?_,fun z j=>?_,?_⟩
  .show s'.stack=_;rw[x.stack,h.stack];simp
  .rcases VM.1 Y with g|g
   .exact h.new y g
   .refine WV fun hc=>?_
    have e:(push s0 a).low y=s0.low y:=ln fun e=>hc (by rw[e];exact ha);have:=h.le.low y (by rw[e];exact hc);rw[x.new y g,e]at this;exact hc this.symm
  .have:=h.QN;show min q.1 I<=_;omega
  .show min q.1 I<=s'.low z;rcases VM.1 Y with g|g
   .have g0:q.2.on y=1:=(h.inv.wV y).2 (by rw[h.stack];simp[g]);have f0:y∉path++ [a]:=by
     rw[VM,Vz];rintro(e|e)
     .have h1:=uV h0 (h0.Qx y e);exact h1 (h.new y g)
     .rw[e]at g;exact b0 g
    have A:=h.inv.az y (uV h.inv g0) f0 z j;have B:=HF h.inv x.le A D;have:=h.l1 y g z j B;rw[x.le.low z A];omega
   .have:I<=s'.low z:=x.l1 y g z j D;omega
  .show min q.1 I<=s'.low z;rcases VM.1 j with g|g
   .have A:=h.proc z g;have:=h.Tm z g (HF h.inv x.le A D);rw[x.le.low z A];omega
   .rw[Vz]at g;subst g;have:I<=s'.low z:=x.QN;omega
  .show s'.low z≠0;rcases VM.1 j with g|g
   .have A:=h.proc z g;rw[x.le.low z A];exact A
   .rw[Vz]at g;subst g;have:(q.2.n:Int)<s'.low z:=x.at_;omega
  .obtain⟨z,z1,z2,z3⟩:=h.l2;by_cases c0:q.1<=I
   .exact⟨z,C z z1,by show s'.low z=min q.1 I;rw[x.le.low z (uV h.inv z1)];omega,z3⟩
   .rcases x.l2 with⟨_,g⟩|⟨w,w1,w2,w3⟩
    .have h1:I=s'.low b:=g;have h2:(q.2.n:Int)<s'.low b:=x.at_;have h3:=h.QN;omega
    .have w2:s'.low w=I:=w2;exact⟨w,C w ((h.inv.wV w).2 w1),by show s'.low w=min q.1 I;omega,(nF.one hb).trans w3⟩
 .rw[be G];by_cases B:q.2.on b=1
  .rw[am B];refine⟨t,h.inv,h.le,h.stack,h.new,?_,fun y Y z j D=>?_,fun z j D=>?_,fun z j=>?_,?_⟩
   .have:=h.QN;show min q.1 (q.2.low b)<=_;omega
   .have:=h.l1 y Y z j D;show min q.1 (q.2.low b)<=q.2.low z;omega
   .show min q.1 (q.2.low b)<=q.2.low z;rcases VM.1 j with g|g
    .have:=h.Tm z g D;omega
    .rw[Vz]at g;subst g;omega
   .rcases VM.1 j with g|g
    .exact h.proc z g
    .rw[Vz]at g;subst g;exact G
   .obtain⟨z,z1,z2,z3⟩:=h.l2;by_cases c0:q.1<=q.2.low b
    .exact⟨z,z1,by show q.2.low z=min q.1 (q.2.low b);omega,z3⟩
    .exact⟨b,B,by show q.2.low b=min q.1 (q.2.low b);omega,.one hb⟩
  .rw[be B];refine⟨t,h.inv,h.le,h.stack,h.new,h.QN,h.l1,fun z j D=>?_,fun z j=>?_,h.l2⟩
   .rcases VM.1 j with g|g
    .exact h.Tm z g D
    .rw[Vz]at g;subst g;exact absurd D B
   .rcases VM.1 j with g|g
    .exact h.proc z g
    .rw[Vz]at g;subst g;exact G
end
theorem sb{succ:α->List α}{path:List α}{a:α}{s0:St α}{V:List α}{j:α->St α->Int×St α}{f:Nat}(B: ∀a∈V,∀b∈succ a,b∈V)
  (C: ∀(path:List α) (b:α) (s:St α),Inv succ path s->s.low b=0->b∈V->(∀g∈path,nF succ g b)->j3 V s<=f-> ∃t,Rv succ path b s (j b s).1 (j b s).2 t)
  (h0:Inv succ path s0) (ha:s0.low a=0) (u:a∈V) (y:j3 V (push s0 a)<=f):
  ∀(l done:List α) (q:Int×St α) (t:List α),fy succ path a s0 done q t->(∀b∈l,b∈succ a)-> ∃G,fy succ path a s0 (done++l) (l.foldl (sN j) q) G
 | [],done,q,t,h,_=>⟨t,by rw[We];exact h⟩
 |b::l,done,q,t,h,hl=>by
  obtain⟨t1,h1⟩:=h.step B C h0 ha u (hl b VG) (Wr (wK h.le) y);obtain⟨t2,A⟩:=sb B C h0 ha u y l (done++ [b]) _ t1 h1 fun x D=>hl x (VE _ D);exact⟨t2,by rw[VF]at A;exact A⟩
theorem pG{succ:α->List α}{V:List α}(hV: ∀a∈V,∀b∈succ a,b∈V): ∀(f:Nat) (path:List α) (a:α) (s:St α),Inv succ path s->s.low a=0->a∈V->(∀g∈path,nF succ g a)->j3 V s<=f-> ∃t,Rv succ path a s (ep succ f a s).1 (ep succ f a s).2 t
 |0,path,a,s,h,ha,haV,_,hw=>by
  have:=kM h.nn haV ha;omega
 |f+1,path,a,s,h,ha,haV,hp,hw=>by
  have d0:=kM h.nn haV ha;have hi:=AD h ha hp;have la:(push s a).low a=(s.n:Int)+1:=j4 _ _ _;have oa:(push s a).on a=1:=j4 _ _ _;have J:fy succ path a s [] ((s.n:Int)+1,push s a) []:=
   ⟨hi,.refl _,rfl,fun y u=>(nomatch u),XL _,fun y u=>(nomatch u),fun z C=>(nomatch C),fun z C=>(nomatch C),⟨a,oa,la,.refl _⟩⟩
  obtain⟨t,j⟩:=sb hV (fun p b s'=>pG hV f p b s') h ha haV (by omega) (succ a) [] _ [] J fun b hb=>hb;rw[VU]at j;rw[ep];generalize(succ a).foldl (sN (ep succ f)) ((s.n:Int)+1,push s a)=q at j ⊢;have D:=j.la;have b0:=j.pa h ha;have Y:=j.at_;have a0:q.2.on a=1:=(j.inv.wV a).2 (by rw[j.stack];simp);have A:Le s q.2:=(LW h ha).trans j.le;unfold tJ;by_cases hm:q.1=(s.n:Int)+1
  .rw[am hm,rZ (by rw[j.stack];simp;omega) j.stack Y a0,<-D];refine⟨[],LX j.inv j.stack b0 j.proc fun y u z C G=>?_,⟨A.low,fun x hx=>?_,A.n⟩,by rw[We];rfl,fun y u=>(nomatch u),?_,?_,fun y u=>(nomatch u),.inl ⟨am VG,?_⟩⟩
   .rw[D,<-hm];rcases VH.1 u with e|e
    .rw[e]at C;exact j.Tm z C G
    .exact j.l1 y e z C G
   .show(if x∈a::t then(2:Int) else q.2.on x)=2;split
    .rfl
    .exact A.MJ x hx
   .show(s.n:Int)<q.2.low a;omega
   .show q.1<=q.2.low a;omega
   .show q.1=q.2.low a;omega
  .rw[be hm];have c0:q.1<q.2.low a:=by have:=j.QN;omega
   obtain⟨z,z1,z2,z3⟩:=j.l2;have I:=j.inv.BY;rw[j.stack,Xq]at I;refine⟨a::t,FJ j.inv j.proc z1 (by omega) z3,A,j.stack,fun y u=>?_,by omega,by omega,fun y u w B G=>?_,.inr ⟨z,?_,z2,z3⟩⟩
   .rcases VH.1 u with e|e
    .rw[e];exact ha
    .exact j.new y e
   .rcases VH.1 u with e|e
    .rw[e]at B;exact j.Tm w B G
    .exact j.l1 y e w B G
   .have:=(j.inv.wV z).1 z1;rw[j.stack]at this;rcases VM.1 this with g|g
    .exact g
    .rcases VH.1 g with e|e
     .rw[e]at z2;omega
     .have:=(Wz.1 I.2.1).1 z e;omega
theorem OP{β:Type}(succ:β->List β):Inv succ [] (St.o:St β):=
 ⟨fun _=>⟨XL _,XL _⟩,fun _ _ _ h=>absurd Z h,fun _=>Iff.rfl,fun _=> .inl Z,fun _=>⟨fun h=>(nomatch h),fun h=>(nomatch h)⟩,.nil,fun _ h=>(nomatch h),fun _ h=>(nomatch h),fun _ h=>(nomatch h),fun _ h=>(nomatch h),fun _ h=>absurd Z h,fun _ h=>(nomatch h),fun _ _ h=>(nomatch h)⟩
theorem rW{succ:α->List α}{V:List α}(A: ∀a∈V,∀b∈succ a,b∈V){f:Nat}(hf:V.length<=f): ∀(l:List α) (s:St α),(∀a∈l,a∈V)->Inv succ [] s->Inv succ [] (gT succ f l s)∧(∀x,s.low x≠0->(gT succ f l s).low x≠0)∧ ∀a∈l,(gT succ f l s).low a≠0
 | [],s,_,h=>⟨h,fun _ j=>j,fun _ u=>(nomatch u)⟩
 |b::l,s,hl,h=>by
  have key: ∃s',(if s.low b=0 then(ep succ f b s).2 else s)=s'∧Inv succ [] s'∧(∀x,s.low x≠0->s'.low x≠0)∧s'.low b≠0:=by
   by_cases e:s.low b=0
   .obtain⟨t,y⟩:=pG A f [] b s h e (hl b VG) (fun g C=>nomatch C) (Wr (WO _ _) hf);refine⟨_,am e,y.inv,fun x j=>by rw[y.le.low x j];exact j,?_⟩;have:=y.at_;omega
   .exact⟨s,be e,h,fun _ j=>j,e⟩
  obtain⟨s',e,D,G,I⟩:=key;obtain⟨i1,i2,i3⟩:=rW A hf l s' (fun a u=>hl a (VE _ u)) D;have B:gT succ f (b::l) s=gT succ f l s':=by
   show gT succ f l (if s.low b=0 then(ep succ f b s).2 else s)=_;rw[e]
  rw[B];refine⟨i1,fun x j=>i2 x (G x j),fun a u=>?_⟩;rcases VH.1 u with q|q
  .rw[q];exact i2 b I
  .exact i3 a q
theorem Ff{succ:α->List α}{V:List α}(A: ∀a∈V,∀b∈succ a,b∈V){f:Nat}(hf:V.length<=f){a b:α}(ha:a∈V)(hb:b∈V):
  (gT succ f V St.o).ring a=(gT succ f V St.o).ring b↔nF succ a b∧nF succ b a:=by
 obtain⟨h,_,y⟩:=rW A hf V St.o (fun _ h=>h) (OP succ);generalize gT succ f V St.o=s at h y ⊢;have j: ∀x∈V,s.on x=2:=by
  intro x B;rcases h.Fw x with g|g|g
  .exact absurd ((h.JG x).1 g) (y x B)
  .obtain⟨k,C,_⟩:=h.up x g;exact nomatch C
  .exact g
 constructor
 .intro e;obtain⟨r,r1,r2,I,J⟩:=h.Tb a (j a ha);obtain⟨q,Y,q2,D,G⟩:=h.Tb b (j b hb);have u:s.low r≠0:=fun g=>by have:=(h.JG r).2 g;omega
  have:r=q:=h.inj r q (by omega) u;subst this;exact⟨I.trans G,D.trans J⟩
 .rintro⟨h1,h2⟩;exact h.cmp a b (j a ha) (j b hb) h1 h2
end
end
end
end Go.Tj
namespace Go.Wa
section
inductive vZ (R:Nat->Nat->Prop):Nat->Nat->Prop
 |refl (a:Nat):vZ R a a
 |step {a b c:Nat} (h:R a b) (t:vZ R b c):vZ R a c
theorem vZ.trans{R:Nat->Nat->Prop}{a b c:Nat}(h:vZ R a b)(k:vZ R b c):vZ R a c:=by
 induction h with
 |refl=>exact k
 |step h _ ih=>exact .step h (ih k)
def W(E:Nat->Nat->Bool):Nat->Nat->Nat->Bool
 |0,a,b=>E a b||a==b
 |m+1,a,b=>W E m a b||(W E m a m&&W E m m b)
variable {E:Nat->Nat->Bool}
theorem W.mono(m a b:Nat)(h:W E m a b=is):W E (m+1) a b=is:=by simp[W,h]
theorem W.OQ{m k a b:Nat}(hk:m<=k)(h:W E m a b=is):W E k a b=is:=by
 induction hk with
 |refl=>exact h
 |step _ ih=>exact W.mono _ _ _ ih
theorem W.self(m a:Nat):W E m a a=is:=W.OQ (VB m) (by simp[W])
theorem W.trans: ∀(m a k b:Nat),k<m->W E m a k=is->W E m k b=is->W E m a b=is
 |m+1,a,k,b,hk,h1,j=>by
  simp only[W,Xz,Wf]at h1 j ⊢;by_cases A:k=m
  .subst A;have B:W E k a k=is:=by rcases h1 with h|h;exact h;exact h.1
   have C:W E k k b=is:=by rcases j with h|h;exact h;exact h.2
   exact .inr ⟨B,C⟩
  .have u:k<m:=by omega
   rcases h1 with h1|⟨h1,y⟩<;>rcases j with j|⟨j,x⟩
   .exact .inl (W.trans m a k b u h1 j)
   .exact .inr ⟨W.trans m a k m u h1 j,x⟩
   .exact .inr ⟨h1,W.trans m m k b u y j⟩
   .exact .inr ⟨h1,x⟩
theorem W.sound: ∀(m a b:Nat),W E m a b=is->vZ (fun a b=>E a b=is) a b
 |0,a,b,h=>by
  simp only[W,Xz,beq_iff_eq]at h;rcases h with h|h
  .exact .step h (.refl _)
  .subst h;exact .refl _
 |m+1,a,b,h=>by
  simp only[W,Xz,Wf]at h;rcases h with h|⟨h1,j⟩
  .exact W.sound m a b h
  .exact(W.sound m a m h1).trans (W.sound m m b j)
theorem W.iff{n:Nat}(hE: ∀a b,a<n->E a b=is->b<n){a b:Nat}(ha:a<n):W E n a b=is↔vZ (fun a b=>E a b=is) a b:=by
 refine⟨W.sound n a b,fun h=>?_⟩
 induction h with
 |refl a=>exact W.self n a
 |step h _ ih=>
  have hb:=hE _ _ ha h;exact W.trans n _ _ _ hb (W.OQ (VB n) (by simp[W,h])) (ih hb)
def V(E:Nat->Nat->Bool)(m a b x y:Nat):Bool:=if x<a∨x=a∧y<b then W E (m+1) x y else W E m x y
theorem V.row(m a b y:Nat):V E m a b m y=W E m m y:=by
 unfold V;split
 .simp only[W];cases W E m m y<;>simp
 .rfl
end
end Go.Wa
namespace Go.Co
section
section
variable {n:Nat} {wc:Nat->Nat->Bool} {e:Nat->Nat->Bool}
structure Far (n:Nat) (e wc:Nat->Nat->Bool):Prop where
 refl: ∀a,a<n->wc a a=is
 trans: ∀a b c,wc a b=is->wc b c=is->wc a c=is
 edge: ∀a b,a<n->e a b=is->wc a b=is
 lt: ∀a b,a<n->wc a b=is->b<n
 elt: ∀a b,a<n->e a b=is->b<n
 split: ∀a b (p:Nat->Prop),a<n->wc a b=is->p a-> ¬p b-> ∃x y,x<n∧wc a x=is∧p x∧e x y=is∧ ¬p y∧wc y b=is
def cls(wc:Nat->Nat->Bool)(a b:Nat):Bool:=wc a b&&wc b a
end
end
end Go.Co
namespace Go.Rg
open Go.Wa Go.Co Go.Tj
section
section
variable {α:Type} [Inhabited α]
def ed(V:List α)(g:α->α->Bool)(i j:Nat):Bool:=kw (i<V.length)&&kw (j<V.length)&&g (V.getD i ci) (V.getD j ci)
def wc(V:List α)(g:α->α->Bool):Nat->Nat->Bool:=W (ed V g) V.length
theorem C9{V:List α}{g:α->α->Bool}{i j:Nat}:ed V g i j=is↔i<V.length∧j<V.length∧g (V.getD i ci) (V.getD j ci)=is:=by
 simp[ed,and_assoc]
theorem yN{V:List α}{a:α}(h:a∈V): ∃i,i<V.length∧V.getD i ci=a:=by
 obtain⟨i,j,rfl⟩:=Xp.1 h;exact⟨i,j,by simp[Vr,j]⟩
theorem get_mem{V:List α}{i:Nat}(h:i<V.length):V.getD i ci∈V:=by
 rw[Vr,Vt h];exact Wj h
theorem Dp{V:List α}(hn:V.Nodup){g:α->α->Bool}{succ:α->List α}(hs: ∀a∈V,∀b,b∈succ a↔b∈V∧g a b=is){i j:Nat}(hi:i<V.length)(hj:j<V.length):
  wc V g i j=is↔nF succ (V.getD i ci) (V.getD j ci):=by
 have B: ∀{x y:Nat},x<V.length->y<V.length->V.getD x ci=V.getD y ci->x=y:=by
  intro x y C u h;rw[Vr,Vr,Vt C,Vt u]at h;exact(List.getElem_inj hn).1 h
 rw[wc,W.iff (n:=V.length) (fun a b _ h=>(C9.1 h).2.1) hi];constructor
 .intro h;clear hj;have: ∀{a b:Nat},vZ (fun a b=>ed V g a b=is) a b->nF succ (V.getD a ci) (V.getD b ci):=by
   intro a b h
   induction h with
   |refl a=>exact .refl _
   |step h _ ih=>
    obtain⟨h1,A,D⟩:=C9.1 h;exact(nF.step (.refl _) ((hs _ (get_mem h1) _).2 ⟨get_mem A,D⟩)).trans ih
  exact this h
 .intro h;have key: ∀{a b:α},nF succ a b-> ∀x,x<V.length->V.getD x ci=a-> ∃y,y<V.length∧V.getD y ci=b∧vZ (fun a b=>ed V g a b=is) x y:=by
   intro a b h
   induction h with
   |refl=>exact fun x C G=>⟨x,C,G,.refl _⟩
   |step _ hc ih=>
    intro x C G;obtain⟨y,u,h1,A⟩:=ih x C G;subst h1;obtain⟨D,J⟩:=(hs _ (get_mem u) _).1 hc;obtain⟨z,I,rfl⟩:=yN D;exact⟨z,I,rfl,A.trans (.step (C9.2 ⟨u,I,J⟩) (.refl _))⟩
  obtain⟨y,u,h1,A⟩:=key h i hi Z;have:=B u hj h1;subst this;exact A
def v8(V:List α)(g:α->α->Bool)(u:α->Int):Prop:= ∀i j,i<V.length->j<V.length->(u (V.getD i ci)=u (V.getD j ci)↔wc V g i j=is∧wc V g j i=is)
theorem Ho[DecidableEq α]{V:List α}(hn:V.Nodup){g:α->α->Bool}{succ:α->List α}(hs: ∀a∈V,∀b,b∈succ a↔b∈V∧g a b=is){f:Nat}(hf:V.length<=f):v8 V g (gT succ f V St.o).ring:=by
 intro i j u x;rw[Ff (fun a y b hb=>((hs a y b).1 hb).1) hf (get_mem u) (get_mem x),Dp hn hs u x,Dp hn hs x u]
end
end
end Go.Rg
namespace Go.Proofs.YtlmhfgbkchnfbaaGreatDoor
open Go Go.Al
mutual
def named:Lit->List aq
 | .mk k a _ _ _ _ _ _ b _=>if k=1∨k=2 then[a.rel] else if k=4 then gV b else[]
def gV:List Lit->List aq
 | []=> []
 |l::r=>named l++gV r
end
def HQ(l:Lit):List aq:=if l.kind=1∨l.kind=2 then[l.atom.rel] else if l.kind=4 then(l.ay.filter fun x=>kw (x.kind=1∨x.kind=2)).map fun x=>x.atom.rel else[]
theorem nX: ∀l:List Lit,gV l=l.flatMap named
 | []=>rfl
 |x::r=>by simp only[gV,Wt,nX r]
theorem xr: ∀(b:List Lit),(∀x∈b,x.kind≠4)->gV b=(b.filter fun x=>kw (x.kind=1∨x.kind=2)).map fun x=>x.atom.rel
 | [],_=>rfl
 | .mk k' a' op' le' ri' af' av' ao' b' at'::b,h=>by
  have j:k'≠4:=h (.mk k' a' op' le' ri' af' av' ao' b' at') (VG ..);rw[gV,xr b fun y u=>h y (VE _ u),Xh];by_cases hk:k'=1∨k'=2
  .have:kw ((Lit.mk k' a' op' le' ri' af' av' ao' b' at').kind=1∨(Lit.mk k' a' op' le' ri' af' av' ao' b' at').kind=2)=is:=decide_eq_true hk;rw[this,named,am hk];rfl
  .have:kw ((Lit.mk k' a' op' le' ri' af' av' ao' b' at').kind=1∨(Lit.mk k' a' op' le' ri' af' av' ao' b' at').kind=2)=jp:=decide_eq_false hk;rw[this,named,be hk,be j];rfl
theorem HP(l:Lit)(h:l.kind=4-> ∀x∈l.ay,x.kind≠4):named l=HQ l:=by
 obtain⟨k,a,op,le,B,u,A,y,b,at_⟩:=l;show(if k=1∨k=2 then[a.rel] else if k=4 then gV b else[])=if k=1∨k=2 then[a.rel] else if k=4 then(b.filter fun x=>kw (x.kind=1∨x.kind=2)).map fun x=>x.atom.rel else[];by_cases j:k=4
 .rw[xr b (h j)]
 .rw[be j,be j]
def mQ(l:Lit):Nat:=if l.kind=1 then 1 else 2
def cU(p:Prog):List (aq×aq×Nat):=p.rules.flatMap fun r=>r.body.flatMap fun l=>(named l).map fun t=>(r.head.rel,t,mQ l)
def gD(hs:List (aq×aq×Nat))(a b:aq):Nat:=hs.foldl (fun m x=>if x.1=a∧x.2.1=b then max m x.2.2 else m) 0
theorem y2(a b:aq): ∀(hs:List (aq×aq×Nat)) (m:Nat),m<=hs.foldl (fun m x=>if x.1=a∧x.2.1=b then max m x.2.2 else m) m∧(∀k,(a,b,k)∈hs->k<=hs.foldl (fun m x=>if x.1=a∧x.2.1=b then max m x.2.2 else m) m)∧
  (hs.foldl (fun m x=>if x.1=a∧x.2.1=b then max m x.2.2 else m) m=m∨(a,b,hs.foldl (fun m x=>if x.1=a∧x.2.1=b then max m x.2.2 else m) m)∈hs)
 | [],m=>⟨VA _,fun _ h=>(nomatch h),.inl Z⟩
 |(x,y,k)::hs,m=>by
  obtain⟨h1,u,h3⟩:=y2 a b hs (if x=a∧y=b then max m k else m);rw[Ws];refine⟨Wr ?_ h1,fun A hk=>?_,?_⟩
  .split<;>omega
  .rcases VH.1 hk with h|h
   .cases h;refine Wr ?_ h1;rw[am ⟨rfl,rfl⟩];exact Nat.le_max_right _ _
   .exact u A h
  .rcases h3 with h3|h3
   .by_cases j:x=a∧y=b
    .rw[am j]at h3;rcases Nat.le_total m k with h4|h4
     .right;rw[Y5 h4]at h3;obtain⟨rfl,rfl⟩:=j;simp only[and_self,if_true,Y5 h4]at h3 ⊢;rw[h3];simp
     .left;rw[Nat.max_eq_left h4]at h3;simp only[j,and_self,if_true,Nat.max_eq_left h4]at h3 ⊢;exact h3
    .rw[be j]at h3;left;simp only[be j];exact h3
   .exact .inr (VE _ h3)
theorem Tz{hs:List (aq×aq×Nat)}{a b:aq}{k:Nat}(h:(a,b,k)∈hs):k<=gD hs a b:=(y2 a b hs 0).2.1 k h
theorem Tx(hs:List (aq×aq×Nat))(a b:aq):gD hs a b=0∨(a,b,gD hs a b)∈hs:=(y2 a b hs 0).2.2
def ns(p:Prog):List aq:=dD (p.aD.map Decl.name)
theorem yd.QG{l:List aq}(h:yd l):l.Nodup:=by
 refine Yw ?_ h;intro a b j e;subst e;exact mG _ j
def eg(p:Prog)(a b:aq):Bool:=kw (gD (cU p) a b≠0)
def Q9(p:Prog):Nat->Nat->Bool:=Go.Rg.wc (ns p) (eg p)
theorem Hp{p:Prog}(hn:(p.aD.map Decl.name).Nodup){f:Nat}(hf:(ns p).length<=f):Go.Rg.v8 (ns p) (eg p) (Go.Tj.gT (fun a=>(ns p).filter (eg p a)) f (ns p) Go.Tj.St.o).ring:=
 Go.Rg.Ho (V:=ns p) (yd.QG (jK hn)) (fun a _ b=>by rw[V4]) hf
def ringEq(p:Prog)(a b:aq):Bool:=(V0 (ns p).length).any fun i=>(V0 (ns p).length).any fun j=>kw ((ns p).getD i ci=a)&&kw ((ns p).getD j ci=b)&&Go.Co.cls (Q9 p) i j
theorem Cq{p:Prog}{a b:aq}:ringEq p a b=is↔ ∃i j,i<(ns p).length∧j<(ns p).length∧(ns p).getD i ci=a∧(ns p).getD j ci=b∧Q9 p i j=is∧Q9 p j i=is:=by
 simp only[ringEq,WN,WX,Wf,decide_eq_true_eq,Go.Co.cls];constructor
 .rintro⟨i,hi,j,hj,⟨h1,h2⟩,h3,h4⟩;exact⟨i,j,hi,hj,h1,h2,h3,h4⟩
 .rintro⟨i,j,hi,hj,h1,h2,h3,h4⟩;exact⟨i,hi,j,hj,⟨h1,h2⟩,h3,h4⟩
theorem sR{p:Prog}{u:aq->Int}(hr:Go.Rg.v8 (ns p) (eg p) u){a b:aq}(ha:a∈ns p)(hb:b∈ns p):ringEq p a b=kw (u a=u b):=by
 rw[WR,Cq,decide_eq_true_eq];constructor
 .rintro⟨i,j,x,y,rfl,rfl,A,B⟩;exact(hr i j x y).2 ⟨A,B⟩
 .intro h;obtain⟨i,x,rfl⟩:=Go.Rg.yN ha;obtain⟨j,y,rfl⟩:=Go.Rg.yN hb;obtain⟨A,B⟩:=(hr i j x y).1 h;exact⟨i,j,x,y,rfl,rfl,A,B⟩
def Cp(p:Prog)(r:aw):Bool:=r.body.any fun l=>kw (l.kind=1)&&ringEq p l.atom.rel r.head.rel
def yo(p:Prog)(r:aw):Option Lit:=r.body.find? fun l=>kw (l.kind≠1)&&(named l).any fun t=>ringEq p t r.head.rel
def sE(r:aw):Bool:=r.head.an.any fun t=>kw (t.kind=1)&&!dR (lu r) t.var
def yf(p:Prog)(r:aw):gl:=match yo p r with
 |some l=>(70,l.at)
 |none=>if sE r=is∧Cp p r=is then(71,r.at_) else gl.z
def iW(p:Prog):gl:=if(eI p).1≠0 then eI p else((p.rules.map (yf p)).find? fun d=>kw (d.1≠0)).getD gl.z
end Go.Proofs.YtlmhfgbkchnfbaaGreatDoor
namespace Go.Re
open Go.Tj
section
variable {α:Type}
structure Mid (succ:α->List α) (S T:α->Prop) (a:α) (l:List α):Prop where
 Ti: ∀x,S x->T x
 here:T a
 new: ∀x,T x->S x∨nF succ a x
 next: ∀x,T x->S x∨x=a∨ ∀y∈succ x,T y
 done: ∀y∈l,T y
structure Top (succ:α->List α) (V:α->Prop) (T:α->Prop) (l:List α):Prop where
 new: ∀x,T x-> ∃r∈l,V r∧nF succ r x
 next: ∀x,T x-> ∀y∈succ x,T y
 done: ∀r∈l,V r->T r
end
end Go.Re
namespace Go.Proofs.YtlmhfgbkchnfbaaGreatDoor
open Go Go.Al
section
section
variable {r t:aw} (hh:t.head=r.head) (hb: ∀x,x∈t.body↔x∈r.body)
include hh hb
end
section
variable {r t:aw} (hh:t.head=r.head) (hb: ∀x,x∈t.body↔x∈r.body)
include hh hb
end
structure Vk (r t u:aw) (i k:Int):Prop where
 UD: ∀x∈fu (aL (bZ r)),x∈fu (aL (aH r))
 Tf: ∀x∈fu (aL (ph r)),x∈fu (aL (bZ r))
 outer:fu (aL (aH t))=fu (aL (aH r))
 lim:fu (aL (bZ t))=fu (aL (bZ r))
 plain:fu (aL (ph t))=fu (aL (ph r))
 loc:yQ t i=yQ r k
 yQ: ∀x∈yQ r k,x∉fu (aL (aH r))
 more: ∀x∈fu (aL (bZ r)),x∈fu (aL (bZ u))
 hasX:QB [88]∈fu (aL (bZ u))
end
theorem LF{n sz:Nat}{es:List (List PV)}(h:es.all (bp n)=is):(AO.row sz es).low n:=fun _ e j=>Wc.1 h e (V2 j)
def wb:List IV->List IV->Prop
 | [],[]=>True
 |p::r,q::s=>jV p q∧wb r s
 |_,_=>False
theorem wb.length: ∀{a b:List IV},wb a b->a.length=b.length
 | [],[],_=>rfl
 |_::_,_::_,h=>congrArg (· +1) (wb.length h.2)
 | [],_::_,h=>h.elim
 |_::_,[],h=>h.elim
theorem wb.get: ∀{a b:List IV},wb a b-> ∀(j:Nat) (q:IV),b[j]? =co q-> ∃p,a[j]? =co p∧jV p q
 | [],[],_,j,q,h=>by simp at h
 |p::r,q0::s,hh,j,q,h=>by
  cases j with
  |zero=>simp at h;subst h;exact⟨p,rfl,hh.1⟩
  |succ j=>simpa using wb.get hh.2 j q (by simpa using h)
 | [],_::_,hh,_,_,_=>hh.elim
 |_::_,[],hh,_,_,_=>hh.elim
theorem DU(p:Prog): ∀i,∀d∈p4 p i,¬d.1=0
 |0,d,h=>by cases h
 |i+1,d,h=>by
  rw[p4]at h;rcases VM.1 h with h|h
  .exact DU p i d h
  .split at h
   .cases h
   .rename_i g;rw[Vz]at h;subst h;exact g
theorem DS(p:Prog): ∀i,∀d∈qL p i,¬d.1=0
 |0,d,h=>by cases h
 |i+1,d,h=>by
  rw[qL]at h;rcases VM.1 h with h|h
  .exact DS p i d h
  .split at h
   .cases h
   .rename_i g;rw[Vz]at h;subst h;exact g
theorem F1(p:Prog): ∀d∈lg p,¬d.1=0:=fun d h=>by
 rcases VM.1 h with h|h
 .exact DU p _ d h
 .exact DS p _ d h
theorem Db(p:Prog):(eI p).1=0↔lg p=[]:=by
 unfold eI;cases h:lg p with
 |nil=>exact⟨fun _=>rfl,fun _=>rfl⟩
 |cons d l=>exact⟨fun e=>absurd e (F1 p d (by rw[h];exact VG)),fun e=>nomatch e⟩
theorem Am(p:Prog): ∀n,qL p n=[]↔ ∀i,i<n->(uJ p i).1=0
 |0=>⟨fun _ i h=>absurd h (Xl i),fun _=>rfl⟩
 |n+1=>by
  rw[qL,Yf,Am p n];constructor
  .rintro⟨h1,h2⟩ i j;rcases Xo.1 j with h|h
   .exact h1 i h
   .subst h;by_cases g:(uJ p i).1=0
    .exact g
    .rw[be g]at h2;cases h2
  .intro h;exact⟨fun i j=>h i (by omega),am (h n (by omega))⟩
theorem l0{α:Type}[Inhabited α]{l:List α}{i:Nat}(hi:i<l.length):l.getD i ci∈l:=by rw[Vr,Vt hi];exact Wj hi
structure eM (p:Prog):Prop where
 nodup:(p.aD.map Decl.name).Nodup
 len:p.aD.length<=64
 Eg: ∀r∈p.rules,r.head.rel∈p.aD.map Decl.name
 lits: ∀r∈p.rules,∀l∈r.body,∀t∈named l,t∈p.aD.map Decl.name
 flat: ∀r∈p.rules,∀l∈r.body,l.kind=4-> ∀x∈l.ay,x.kind≠4
theorem As(p:Prog): ∀n,p4 p n=[]-> ∀i,i<n->gz p i=0
 |0,_,i,h=>absurd h (Xl _)
 |n+1,h,i,hi=>by
  rw[p4]at h;obtain⟨h1,j⟩:=Yf.1 h;rcases Xo.1 hi with h3|h3
  .exact As p n h1 i h3
  .subst h3;exact XY fun u=>by rw[be u]at j;cases j
theorem sT{d:Decl}{i k:Int}(h:p5 d i k=0): ¬i>=64∧ ¬k>0:=by
 unfold p5 at h;split at h
 .cases h
 .split at h
  .cases h
  .rename_i j;split at h
   .cases h
   .rename_i u;exact⟨fun g=>j (.inl g),u⟩
theorem uY{α:Type}[Inhabited α]: ∀(n:Nat) (l:List α),l.length=n->(∀i,i<l.length->l.getD i ci∉l.take i)->l.Nodup
 |0,l,hn,_=>by rw[WT.1 hn];exact Wn
 |n+1,l,hn,h=>by
  have hd:l=l.take n++ [l.getD n ci]:=by rw[<-bS (by omega),VI (by omega)]
  have h1:=uY n (l.take n) (by rw[V7];omega) fun i u=>by
   rw[V7]at u;have:=h i (by omega);rw[List.take_take,Nat.min_eq_left (by omega),Vr,V8,am (by omega),<-Vr];exact this
  rw[hd,W3];refine⟨h1,by simp,fun a j b hb e=>?_⟩;rw[Vz]at hb;subst e;subst hb;exact h n (by omega) j
theorem Aq{s:aq}: ∀(l:List Decl) (m:DM),dr .str (l.foldl jP m) s=is->s∈m.map Wy∨s∈l.map Decl.name
 | [],m,h=> .inl (Bn.1 h)
 |d::l,m,h=>by
  rw[Ws]at h;rcases Aq l _ h with h1|h1
  .unfold jP at h1;split at h1
   .exact .inl h1
   .rename_i j;rw[dV (fun g=>j (Bn.2 g))]at h1;rcases VM.1 h1 with h3|h3
    .exact .inl h3
    .rw[Vz]at h3;subst h3;exact .inr VG
  .exact .inr (VE _ h1)
theorem Nd{p:Prog}{a:Atom}(h:vY p a=jp):a.rel∈p.aD.map Decl.name:=by
 unfold vY at h;rw[Xf]at h;rcases Aq p.aD [] h with h1|h1
 .cases h1
 .exact h1
theorem mH{r:aw}{e:Int}(he:e≠0){f:Int->Bool}{k:gl}(h:(ob r e f k).1=0):(∀lit∈iO r.body.length,f lit=jp)∧k.1=0:=by
 unfold ob at h;split at h
 .exact absurd h he
 .rename_i h1;refine⟨fun lit hl=>?_,h⟩;have:=Xy.1 h1 lit hl;simpa using this
theorem Cm{p:Prog}{r:aw}{n:Int}(h:(w7 p r n).1=0):(yP p r).1=0:=by
 unfold w7 at h;split at h
 .cases h
 .split at h
  .cases h
  .split at h
   .cases h
   .split at h
    .cases h
    .split at h
     .cases h
     .exact h
theorem Mf(n:Nat):(-1:Int)∈iO n:=V5.2 ⟨0,by simp,by simp⟩
theorem D3{n i:Nat}(h:i<n):(i:Int)∈iO n:=V5.2 ⟨i+1,by simp;omega,by simp⟩
theorem FA{l:Lit}{t:aq}(hf:l.kind=4-> ∀x∈l.ay,x.kind≠4)(h:t∈named l): ∃a∈(if l.kind=4 then l.ay else[l]).flatMap cK,a.rel=t:=by
 rw[HP l hf]at h;unfold HQ at h;split at h
 .rename_i hk;rw[Vz]at h;have j: ¬l.kind=4:=by omega
  refine⟨l.atom,?_,h.symm⟩;rw[be j,Ym];exact⟨l,Xt _,by rw[cK,am hk];exact Xt _⟩
 .split at h
  .rename_i j;obtain⟨x,A,rfl⟩:=V5.1 h;obtain⟨u,y⟩:=V4.1 A;refine⟨x.atom,?_,rfl⟩;rw[am j,Ym];exact⟨x,u,by rw[cK,am (zT y)];exact Xt _⟩
  .cases h
theorem Er{p:Prog}(h:(eI p).1=0):eM p:=by
 have hF:=(Db p).1 h;unfold lg at hF;obtain⟨h1,C⟩:=Yf.1 hF;have h1:=As p _ h1;have C:=(Am p _).1 C;have y: ∀r∈p.rules,(yP p r).1=0:=by
  intro r A;obtain⟨i,j,rfl⟩:=Xp.1 A;have:=Cm (C i j);rwa[Vr,Vt j]at this
 have B: ∀r∈p.rules,∀lit∈iO r.body.length,∀a∈fq r lit,a.rel∈p.aD.map Decl.name:=by
  intro r A lit hl a D;have:=(mH (by decide) (y r A)).1 lit hl;exact Nd (by simpa using Wm.1 this a D)
 have u: ∀r∈p.rules,∀l∈r.body,l.kind=4-> ∀x∈l.ay,x.kind≠4:=by
  intro r A l hl J x hx;obtain⟨i,j,rfl⟩:=Xp.1 hl;have:=(mH (by decide) (mH (by decide) (mH (by decide) (y r A)).2).2).1 _ (D3 j);have e:au r (i:Int)=r.body[i]:=by unfold au;simp[Vr,j]
  unfold my at this;rw[be (by omega),e,am J,Xg]at this;simpa using Wm.1 this.1 x hx
 refine⟨uY _ _ Z fun i j I=>?_,?_,fun r A=>?_,fun r A l hl t ht=>?_,u⟩
 .rw[VS]at j;have:=(sT (h1 i j)).2;rw[bI]at this;have G:qs (gf p i) (p.aD.getD i ci).name=0:=by omega
  rw[sF]at G;apply G;unfold gf;rw[Vr,Vv,Vt j,<-List.map_take]at I;rw[Vr,Vt j];exact I
 .refine W9 fun Y=>?_
  have:=(sT (h1 64 Y)).1;omega
 .exact B r A (-1) (Mf _) r.head (by unfold fq;simp)
 .obtain⟨i,j,rfl⟩:=Xp.1 hl;obtain⟨a,D,rfl⟩:=FA (u r A _ hl) ht;refine B r A _ (D3 j) a ?_;have e:au r (i:Int)=r.body[i]:=by unfold au;simp[Vr,j]
  unfold fq yR;rw[be (by omega),e];exact D
theorem eM.cU{p:Prog}(h:eM p){x:aq×aq×Nat}(u:x∈cU p):x.1∈p.aD.map Decl.name∧x.2.1∈p.aD.map Decl.name∧0<x.2.2:=by
 simp only[_root_.Go.Proofs.YtlmhfgbkchnfbaaGreatDoor.cU,Ym,V5]at u;obtain⟨r,j,l,hl,t,ht,rfl⟩:=u;refine⟨h.Eg r j,h.lits r j l hl t ht,?_⟩;show 0<mQ l;unfold mQ;split<;>omega
abbrev GM:=List ((KC.str).K×Option NM)
def Fu:Option NM->IV
 |none=> .v (.map io)
 |some r=>A1 r
abbrev xH(m:GM):IV:= .eG .str Fu io (.map io) m
def Ge(row:NM)(t:aq)(j:Int):NM:=cJ .str row t (max (dQ .str row t 0) j)
def jM(hs:List (aq×aq×Nat))(a:aq):NM:=hs.foldl (fun row x=>if x.1=a then Ge row x.2.1 x.2.2 else row) []
def ck(p:Prog)(hs:List (aq×aq×Nat)):GM:=p.aD.map fun r=>(r.name,co (jM hs r.name))
def vk(p:Prog):IV:=if(eI p).1=0 then xH (ck p (cU p)) else .v (.map io)
theorem oK(hs:List (aq×aq×Nat))(x:aq×aq×Nat)(a:aq):jM (hs++ [x]) a=if x.1=a then Ge (jM hs a) x.2.1 x.2.2 else jM hs a:=by
 simp[jM,List.foldl_append]
theorem xa(hs:List (aq×aq×Nat))(a:aq):((jM hs a).map Wy).Nodup∧ ∀b:aq,b∈(jM hs a).map Wy↔ ∃k,(a,b,k)∈hs:=by
 induction hs using qH with
 |h0=>exact⟨Wn,fun b=>by simp[jM]⟩
 |h1 hs x ih=>
  obtain⟨B,A⟩:=ih;obtain⟨y,z,k⟩:=x;rw[oK];by_cases h:y=a
  .rw[am h,Ge];by_cases C:z∈(jM hs a).map Wy
   .rw[rb C];refine⟨B,fun b=>?_⟩;rw[A];constructor
    .rintro⟨j,hj⟩;exact⟨j,Wi _ hj⟩
    .rintro⟨j,hj⟩;rcases VM.1 hj with hj|hj
     .exact⟨j,hj⟩
     .rw[Vz]at hj;cases hj;exact(A z).1 C
   .rw[dV C];refine⟨W3.2 ⟨B,by simp,fun u hu v D e=>?_⟩,fun b=>?_⟩
    .rw[Vz]at D;subst e;subst D;exact C hu
    .rw[VM,A,Vz];constructor
     .rintro(⟨j,hj⟩|rfl)
      .exact⟨j,Wi _ hj⟩
      .exact⟨k,WY _ (by rw[h];exact Xt _)⟩
     .rintro⟨j,hj⟩;rcases VM.1 hj with hj|hj
      .exact .inl ⟨j,hj⟩
      .rw[Vz]at hj;cases hj;exact .inr Z
  .rw[be h];refine⟨B,fun b=>?_⟩;rw[A];constructor
   .rintro⟨j,hj⟩;exact⟨j,Wi _ hj⟩
   .rintro⟨j,hj⟩;rcases VM.1 hj with hj|hj
    .exact⟨j,hj⟩
    .rw[Vz]at hj;cases hj;exact absurd Z h
theorem Hm(hs:List (aq×aq×Nat))(a:aq):(jM hs a).length<=hs.length:=by
 induction hs using qH with
 |h0=>exact VA _
 |h1 hs x ih=>
  rw[oK,Vp,VW];split
  .have:=uP (jM hs a) x.2.1 (max (dQ .str (jM hs a) x.2.1 0) x.2.2);unfold Ge;omega
  .omega
def bq(p:Prog)(a:aq):List aq:=(ns p).filter (eg p a)
theorem zR{p:Prog}(h:eM p)(a:aq):dD ((jM (cU p) a).map Wy)=bq p a:=by
 refine pR (jK (xa _ _).1) (XE _ (jK h.nodup)) fun b=>?_;rw[lS,(xa _ _).2,bq,V4,ns,lS,eg,decide_eq_true_eq];constructor
 .rintro⟨k,hk⟩;have h1:=h.cU hk;refine⟨h1.2.1,?_⟩;have:=Tz hk;have h2:0<k:=h1.2.2;omega
 .rintro⟨_,h1⟩;rcases Tx (cU p) a b with h2|h2
  .exact absurd h2 h1
  .exact⟨_,h2⟩
theorem Ik(p:Prog)(hs:List (aq×aq×Nat)){a:aq}(h:a∈p.aD.map Decl.name):dQ .str (ck p hs) a io=co (jM hs a):=by
 unfold ck
 revert h
 generalize p.aD=l
 induction l with
 |nil=>intro h;cases h
 |cons d l ih=>
  intro h;simp only[Vy,dQ];by_cases e:d.name=a
  .rw[am e,e]
  .rw[be e];rw[Vy,VH]at h;exact ih (h.resolve_left fun g=>e g.symm)
theorem CV(p:Prog)(hs:List (aq×aq×Nat)):(ck p hs).map Wy=p.aD.map Decl.name:=by
 simp[ck]
theorem sY{b:List Lit}{i:Nat}(h:i<b.length):gV (b.take (i+1))=gV (b.take i)++named (b.getD i ci):=by
 rw[nX,nX,bS h,X3];simp
mutual
theorem lR: ∀l:Lit,(named l).length<=l.size
 | .mk k a op le ri af av ao b at_=>by
  have:=qd b;unfold named Lit.size;split
  .simp;omega
  .split
   .omega
   .simp
theorem qd: ∀l:List Lit,(gV l).length<=Lit.aC l
 | []=>VA _
 |l::r=>by
  have h1:=lR l;have j:=qd r;simp only[gV,Lit.aC,Vp];omega
end
theorem Fz(b:List Lit)(i:Nat):(gV (b.take i)).length<=Lit.aC b:=by
 have h1:=qd (b.take i);have j: ∀(b:List Lit) (i:Nat),Lit.aC (b.take i)<=Lit.aC b:=by
  intro b
  induction b with
  |nil=>intro i;simp[Lit.aC]
  |cons x r ih=>
   intro i;cases i with
   |zero=>simp[Lit.aC]
   |succ i=>have:=ih i;simp only[WM,Lit.aC];omega
 exact Wr h1 (j b i)
def Ry(n:Nat):Prop:= ∀l:Lit,l.size<=n->Pure Tryz.prog 96 [ag l.c] (.iv (strs (named l)))
theorem qW(l:Lit):named l=if l.kind=1∨l.kind=2 then[l.atom.rel] else if l.kind=4 then gV l.ay else[]:=by cases l;rfl
theorem G9: ∀n:Nat,n<=100000000000->Ry n
 |0,_=>fun l h=>absurd l.size_pos (by omega)
 |n+1,hn=>fun l h=>by
  have D:=l.size_eq;refine Al.Pure.le (aa:=[ag l.c]) (args:=[ag l.c1]) ?_ ⟨l.Gl,ac⟩;refine ah ab Tryz.func96 Z (by decide) Tryz.ntmps96 Z (by simp) Z ?_;refine zJ Z Z (fun j=>?_) fun j=>?_
  .have j:l.kind=1:=by simpa using j
   rw[qW,am (.inl j)];refine gA Z (du (by first|exact .inr Z|exact .inl Z) Z Z (rfl) (rfl))
  have j: ¬l.kind=1:=by simpa using j
  refine zJ Z Z (fun u=>?_) fun u=>?_
  .have u:l.kind=2:=by simpa using u
   rw[qW,am (.inr u)];refine gA Z (du (by first|exact .inr Z|exact .inl Z) Z Z (rfl) (rfl))
  have u: ¬l.kind=2:=by simpa using u
  rw[qW,be (by rintro(g|g);exact j g;exact u g)];refine zE Z Z (fun x=>?_) fun x=>?_
  .have x: ¬l.kind=4:=by simpa using x
   rw[be x];refine gA Z (zL ?_);exact .nil _ _
  have x:l.kind=4:=by simpa using x
  rw[am x];refine gA Z ?_;refine jc 3 1 Z ?_;refine aM 0 l.ay.length (VB _) (fun i=>⟨[(3,.sl 2 0 (gV (l.ay.take i)).length 1),(19,.iv (lits l.ay)),(20,pI l.ay.length),(21,pI i)],[(2,co (aV 1 (gV (l.ay.take i)) c9))],3⟩) (fun _=>True) [1] ac
   (zW (zS trivial)) fun i G _=>?_
  have A:=Fz l.ay i;have y:=Lit.aJ l.ay;refine zJ Z Z (fun h1=>?_) fun h1=>?_
  .have h1:i<l.ay.length:=by simpa using h1
   have B:=Lit.bT l.ay i h1;have C:=lR (l.ay.getD i ci);refine gA Z (zp (G9 n (by omega) (l.ay.getD i ci) (by omega)) ?_);refine gA Z ⟨h1,ac,[4],zM ⟨.row (by rw[sY h1,Vp]),rfl,bi (bi (bi ac))⟩ (hR Z (by rw[yq,sY h1,VD]) Z ac)⟩
  .have h1:l.ay.length<=i:=by simpa using h1
   rw[VI h1];refine gA Z (du (by first|exact .inr Z|exact .inl Z) Z Z (rfl) (rfl))
theorem DH(l:Lit)(h:l.size<=100000000000):Pure Tryz.prog 96 [ag l.c] (.iv (strs (named l))):=G9 l.size h l (VA _)
end Go.Proofs.YtlmhfgbkchnfbaaGreatDoor
namespace Go.Proofs.YtlmhfgbkchnfbaaGreatDoor
open Go Go.Al Go.Proofs.Tryz
section
theorem OK(hS:fx)(el:Nat->List IV):Pure prog 129 [.iv (.bK 1 0 el)] (.aZ []):=by
 refine⟨bb func129 Z (by decide),fun M N w vs x j y=>?_⟩;obtain⟨v,rfl⟩: ∃v,vs=[v]:=by
  cases vs with
  |nil=>cases j
  |cons v r=>cases r with
   |nil=>exact⟨v,rfl⟩
   |cons a b=>simp at j
 have u:=y 0 _ Z;simp only[Xk]at u;obtain⟨a,a0,rfl⟩: ∃a a0,v= .slice a 0 a0:=by
  cases u with
  |iv _ _ h=>cases h with
   |fz _ _ a a0=>exact⟨a,a0,rfl⟩
   |bK _ _ _ b off a0=>exact⟨_,a0,rfl⟩
 refine(hS.2 a a0 w).mono ?_;rintro e A ⟨rfl,rfl⟩;exact⟨_,M,N,.aZ [],_,_,rfl,⟨rfl,rfl,rfl⟩,.refl _ _ _ _ _,x,.aZ [] #[] Z (by simp)⟩
section
variable {V:Type}
def Ec(m:List ((KC.str).K×V))(vs:List Nat):List aq:=gW (m.map fun x=>(x.1,0)) vs
theorem Bl(m:List ((KC.str).K×V))(vs:List Nat)(j:Nat)(x:(KC.str).K×V)(h:m[j]? =co x):Ec m (j::vs)=Ec m vs++ [x.1]:=
 kW _ _ _ (x.1,0) (by rw[Vv,h];rfl)
theorem Eb(m:List ((KC.str).K×V))(vs:List Nat)(hn:vs.Nodup)(hb: ∀j∈vs,j<m.length)(u: ∀j,j<m.length->j∈vs):(Ec m vs).Perm (m.map (·.1)):=by
 have:=ke (m.map fun x=>(x.1,(0:Int))) vs hn (by simpa using hb) (by simpa using u);rw[Wx]at this;exact this
theorem Ea(m:List ((KC.str).K×V))(vs:List Nat):(Ec m vs).length<=vs.length:=ve _ _
end
def Ft(i:Nat):List aq->PV
 | []=> .sl i 1 0 1
 |x::r=> .sl i 0 (x::r).length 1
def wu(n:Nat):List aq->AO
 | []=> .row 1 (XU n [pS Vx])
 |x::r=>aV 1 (x::r) c9
theorem xm(i:Nat)(l:List aq)(s:aq):Ft i (l++ [s])= .sl i 0 (l.length+1) 1:=by cases l<;>simp[Ft]
theorem xn(n:Nat)(l:List aq)(s:aq):wu n (l++ [s])=aV 1 (l++ [s]) c9:=by cases l<;>rfl
theorem AR{i:Nat}{l:List aq}(h:l≠ []):Ft i l= .sl i 0 l.length 1:=by cases l with
 |nil=>exact absurd Z h
 |cons=>rfl
theorem AT{n:Nat}{l:List aq}(h:l≠ []):wu n l=aV 1 l c9:=by cases l with
 |nil=>exact absurd Z h
 |cons=>rfl
theorem HD(n:Nat)(l:List aq)(k:Nat):(wu n l).low k:=by
 cases l with
 |nil=>
  intro j e u;rw[List.getElem?_replicate]at u;split at u
  .cases u;rfl
  .cases u
 |cons x r=>exact eC k
theorem HC(n:Nat)(l:List aq)(σ:Nat->Nat):(wu n l).bY σ=wu n l:=by
 cases l with
 |nil=>simp only[wu,AO.bY];rw[List.map_replicate];rfl
 |cons x r=>exact b3 σ
theorem hO{h r:AH}{σ:Nat->Nat}{i n m:Nat}{o:AO}{l:List aq}(ho:h.get (σ i)=co o)(he:o=wu m l)(hi:VV i n=is)(hr:oC n σ h r):oC n σ h ((i,co (wu m l))::r):=
 ⟨⟨_,ho,.of_eq (by rw[HC,he])⟩,Vm hi,HD m l n,hr⟩
theorem qQ(i:Nat)(l:List aq){n:Nat}(h:VV i n=is):(Ft i l).low n=is:=by cases l<;>exact h
theorem G3(hS:fx)(m:NM)(hm:m.length<=100000000):Pure prog 100 [.iv (A1 m)] (.iv (strs (dD (m.map (·.1))))):=by
 refine ah ab func100 Z (by decide) ntmps100 Z (by simp) Z ?_;rcases Nat.eq_zero_or_pos m.length with h0|h0
 .have h0:=WT.1 h0;subst h0;refine gA Z (Im ab 1 (fun k=>c9 (([]:List aq).getD k ci)) Z Z Z Z Z Z Z Z Z Z ?_);refine gA Z ?_;refine fO ([]:List ((KC.str).K×Int)) (fun _=>⟨[(3,.iv (.bK 1 0 (fun k=>c9 (([]:List aq).getD k ci)))),(9,.ptr 1 0)],[(1,co (.bX .str zn ([]:List ((KC.str).K×Int)) [] io))],2⟩) (fun _=>True) [] ac
   (zW (hI Z Z (.inl Z) Z trivial)) fun vs _=>?_
  refine fP Z ac (dM Z Z Z Z Z (by decide) (fun _=>?_) fun j x B _=>?_)
  .refine gA Z (aB (OK hS _) Z Z Z Z Z Z ?_);refine gA Z (zL ?_);exact .of_eq (show _=PV.iv (strs (dD [])) by rw[oI];rfl)
  .cases B
 refine gA Z (Io ab m.length 0 Z Z Z Z Z Z Z Z Z h0 (by omega) (by show 16*m.length<=_;omega) Z (by decide) Z (.inl ⟨rfl,rfl⟩) Z ?_);refine gA Z ?_;refine fO m (fun vs=>⟨[(3,Ft 2 (Ec m vs)),(9,.ptr 1 0)],[(1,co (.bX .str zn m vs io)),(2,co (wu m.length (Ec m vs)))],3⟩) (fun vs=>vs.Nodup∧ ∀j∈vs,j<m.length) [0] ⟨Wn,by simp⟩
  (zW (hI Z Z (.inl Z) Z (hO Z Z Z trivial))) fun vs hJ=>?_
 obtain⟨y,A⟩:=hJ;have Y:=u0 y A;have D:=Ea m vs;refine fP Z ac (dM Z Z Z Z Z (by decide) (fun C=>?_) fun j x B I=>?_)
 .have J:=Eb m vs y A C;have G:Ec m vs≠ []:=fun e=>by
   have:=J.length_eq;rw[e,VS]at this;simp at this;omega
  rw[AR G,AT G];refine fP Z ac (ak [2] (Jk hS (Ec m vs) (by omega)) Z Z Z Z Z (congrArg (fun o=> [co o]) (b3 _).symm) Z Z ?_);refine fP Z ac (du (.inr Z) Z Z ((uK _ _).trans (by rw[pT J])) ?_);rw[jW,<-J.length_eq]
 .have hk:=Bl m vs j x B;have a0: ∀u,u=j::vs->u.Nodup∧ ∀i∈u,i<m.length:=fun u e=>e▸⟨Wb.2 ⟨I,y⟩,fun i hi=>(VH.1 hi).elim (fun h=>h▸(Vs.1 B).1) (A i)⟩
  cases hl:Ec m vs with
  |nil=>
   rw[hl,VU]at hk;refine gA Z (y0 ab Z Z Z Z Z Z Z Z Z (by simp;omega) (by simp) (fW Z) Z ?_);refine gA Z ?_;exact⟨j,x,B,I,a0 _ Z,[4],zM ⟨.of_eq (by rw[hk];rfl),qQ 2 _ Z,.refl _,rfl,ac⟩ (hI Z Z (.inr Z) Z (hO Z (by rw[hk];rfl) Z ac))⟩
  |cons a r=>
   rw[hl]at hk D;have b0:(r.length+1)<=m.length:=by simpa using Wr D Y
   refine gA Z ⟨j,x,B,I,a0 _ Z,[4],zM ⟨.of_eq (by rw[hk,xm];rfl),qQ 2 _ Z,.refl _,rfl,ac⟩ (hI Z Z (.inr Z) Z (hO Z (by rw[hk,xn,aV,VD];rfl) Z ac))⟩
theorem G4(hS:fx)(m:GM)(hm:m.length<=100000000):Pure prog 101 [.iv (xH m)] (.iv (strs (dD (m.map (·.1))))):=by
 refine ah ab func101 Z (by decide) ntmps101 Z (by simp) Z ?_;rcases Nat.eq_zero_or_pos m.length with h0|h0
 .have h0:=WT.1 h0;subst h0;refine gA Z (Im ab 1 (fun k=>c9 (([]:List aq).getD k ci)) Z Z Z Z Z Z Z Z Z Z ?_);refine gA Z ?_;refine fO ([]:List ((KC.str).K×Option NM)) (fun _=>⟨[(3,.iv (.bK 1 0 (fun k=>c9 (([]:List aq).getD k ci)))),(9,.ptr 1 0)],[(1,co (.bX .str Fu ([]:List ((KC.str).K×Option NM)) [] io))],2⟩) (fun _=>True) [] ac
   (zW (hI Z Z (.inl Z) Z trivial)) fun vs _=>?_
  refine fP Z ac (dM Z Z Z Z Z (by decide) (fun _=>?_) fun j x B _=>?_)
  .refine gA Z (aB (OK hS _) Z Z Z Z Z Z ?_);refine gA Z (zL ?_);exact .of_eq (show _=PV.iv (strs (dD [])) by rw[oI];rfl)
  .cases B
 refine gA Z (Io ab m.length 0 Z Z Z Z Z Z Z Z Z h0 (by omega) (by show 16*m.length<=_;omega) Z (by decide) Z (.inl ⟨rfl,rfl⟩) Z ?_);refine gA Z ?_;refine fO m (fun vs=>⟨[(3,Ft 2 (Ec m vs)),(9,.ptr 1 0)],[(1,co (.bX .str Fu m vs io)),(2,co (wu m.length (Ec m vs)))],3⟩) (fun vs=>vs.Nodup∧ ∀j∈vs,j<m.length) [0] ⟨Wn,by simp⟩
  (zW (hI Z Z (.inl Z) Z (hO Z Z Z trivial))) fun vs hJ=>?_
 obtain⟨y,A⟩:=hJ;have Y:=u0 y A;have D:=Ea m vs;refine fP Z ac (dM Z Z Z Z Z (by decide) (fun C=>?_) fun j x B I=>?_)
 .have J:=Eb m vs y A C;have G:Ec m vs≠ []:=fun e=>by
   have:=J.length_eq;rw[e,VS]at this;simp at this;omega
  rw[AR G,AT G];refine fP Z ac (ak [2] (Jk hS (Ec m vs) (by omega)) Z Z Z Z Z (congrArg (fun o=> [co o]) (b3 _).symm) Z Z ?_);refine fP Z ac (du (.inr Z) Z Z ((uK _ _).trans (by rw[pT J])) ?_);rw[jW,<-J.length_eq]
 .have hk:=Bl m vs j x B;have a0: ∀u,u=j::vs->u.Nodup∧ ∀i∈u,i<m.length:=fun u e=>e▸⟨Wb.2 ⟨I,y⟩,fun i hi=>(VH.1 hi).elim (fun h=>h▸(Vs.1 B).1) (A i)⟩
  cases hl:Ec m vs with
  |nil=>
   rw[hl,VU]at hk;refine gA Z (y0 ab Z Z Z Z Z Z Z Z Z (by simp;omega) (by simp) (fW Z) Z ?_);refine gA Z ?_;exact⟨j,x,B,I,a0 _ Z,[4],zM ⟨.of_eq (by rw[hk];rfl),qQ 2 _ Z,.refl _,rfl,ac⟩ (hI Z Z (.inr Z) Z (hO Z (by rw[hk];rfl) Z ac))⟩
  |cons a r=>
   rw[hl]at hk D;have b0:(r.length+1)<=m.length:=by simpa using Wr D Y
   refine gA Z ⟨j,x,B,I,a0 _ Z,[4],zM ⟨.of_eq (by rw[hk,xm];rfl),qQ 2 _ Z,.refl _,rfl,ac⟩ (hI Z Z (.inr Z) Z (hO Z (by rw[hk,xn,aV,VD];rfl) Z ac))⟩
end
end Go.Proofs.YtlmhfgbkchnfbaaGreatDoor
namespace Go.Proofs.YtlmhfgbkchnfbaaGreatDoor
open Go Go.Al
def Uy(b:Option Nat):IV:= .v (.map b)
def dvR(p:PV):Option Nat:=match p with
 | .iv (.v (.map b))=>b
 |_=>io
abbrev RM:=List ((KC.str).K×Option Nat)
abbrev gO(m:RM):AO:= .map .str Uy io (.map io) dvR m
abbrev zo:=Nat×Nat
def j6(l:List Decl)(B:List zo):RM:=YF (fun d b=>(d.name,co b.1)) l B
def dT(L:List (Nat×Nat×NM)):bB:=fun b=>(L.find? fun y=>y.1==b).map fun y=> .obj (cS y.2.2) y.2.1
theorem iu(L:List (Nat×Nat×NM)):(dT L).still:=by
 intro b i e h;unfold dT at h;cases hf:L.find? fun y=>y.1==b<;>rw[hf]at h<;>cases h
def rowsOf(l:List Decl)(B:List zo)(hs:List (aq×aq×Nat)):List (Nat×Nat×NM):=YF (fun d b=>(b.1,b.2,jM hs d.name)) l B
theorem FD{V:Type}{kc:KC}{ev:V->IV}{z:V}{u:Value}{x:PV->V}(A: ∀M,IR M (ev z) u):eJ .fh (.map kc ev z u x []):=
 ⟨id,fun M N U w j y=>⟨#[],0,y,⟨rfl,by simp,by simp,by simp,by simp⟩,A M⟩⟩
structure BOK (l:List Decl) (i:Nat) (B:List zo):Prop where
 len:B.length=i
 nd:(B.map Wy).Nodup
theorem Ay(l:List Decl):j6 l []=[]:=by cases l<;>rfl
theorem uL(l:List Decl)(hs:List (aq×aq×Nat)):rowsOf l [] hs=[]:=by cases l<;>rfl
theorem B9(l:List Decl)(hs:List (aq×aq×Nat)):dT (rowsOf l [] hs)=bB.nil:=by rw[uL];rfl
theorem uh{α β γ:Type}[Inhabited α](f:α->β->γ): ∀(l:List α) (B:List β) (x:β),B.length<l.length->YF f l (B++ [x])=YF f l B++ [f (l.getD B.length ci) x]
 |a::l,[],x,_=>by simp
 |a::l,b::B,x,h=>by
  have:=uh f l B x (by simpa using h);simp[this]
 | [],B,x,h=>absurd h (Xl _)
theorem L5{B:List zo}{b e:Nat}(h:(B.map Wy).Nodup)(hb:b∉B.map Wy):((B++ [(b,e)]).map Wy).Nodup:=by
 rw[VD,W3];exact⟨h,by simp,fun u hu v j g=>hb (by simp at j;subst g;subst j;exact hu)⟩
theorem nS(hs:List (aq×aq×Nat)): ∀(l:List Decl) (B:List zo),B.length<=l.length->(rowsOf l B hs).map Wy=B.map Wy
 |_,[],_=>by simp[uL]
 |d::l,b::B,h=>by
  have:=nS hs l B (by simpa using h);simp only[rowsOf,YG,Vy]at this ⊢;rw[this]
 | [],b::B,h=>absurd h (by simp)
theorem E3{l:List Decl}{B:List zo}{hs:List (aq×aq×Nat)}{b:Nat}(hl:B.length<=l.length)(h:dT (rowsOf l B hs) b=io):b∉B.map Wy:=by
 rw[<-nS hs l B hl];intro j;obtain⟨y,u,rfl⟩:=V5.1 j;unfold dT at h;rw[XM,Xy]at h;exact h y u (by simp)
theorem Ad(L:List (Nat×Nat×NM))(y:Nat×Nat×NM)(h:y.1∉L.map Wy):dT (L++ [y])=(dT L).put y.1 (.obj (cS y.2.2) y.2.1):=by
 funext c
 unfold dT bB.put;rw[List.find?_append];by_cases j:c=y.1
 .subst j;rw[am Z];have:L.find? (fun z=>z.1==y.1)=io:=Xy.2 fun z u=>by
   simp only[beq_iff_eq];exact fun e=>h (e▸Yp u)
  rw[this];simp
 .rw[be j];have: ¬y.1=c:=fun e=>j e.symm;cases hf:L.find? (fun z=>z.1==c)<;>simp[this,hf]
theorem E2{l:List Decl}{B:List zo}{b e:Nat}(hl:B.length<l.length)(hb:b∉B.map Wy):dT (rowsOf l (B++ [(b,e)]) [])=(dT (rowsOf l B [])).put b (.obj (cS []) e):=by
 have h:rowsOf l (B++ [(b,e)]) []=rowsOf l B []++ [(b,e,[])]:=uh _ l B (b,e) hl;rw[h];exact Ad _ _ (by rw[nS _ _ _ (YZ hl)];exact hb)
theorem Aw: ∀(l:List Decl) (B:List zo),B.length<=l.length->(j6 l B).map Wy=(l.take B.length).map Decl.name
 |_,[],_=>by simp[Ay]
 |d::l,b::B,h=>by
  have:=Aw l B (by simpa using h);simp only[j6,YG,Vy,VX,WM]at this ⊢;rw[this]
 | [],b::B,h=>absurd h (by simp)
theorem LS{V:Type}{m:List ((KC.str).K×V)}{s:aq}{v:V}(h:s∉m.map Wy):cJ .str m s v=m++ [(s,v)]:=by
 induction m with
 |nil=>rfl
 |cons x r ih=>
  obtain⟨a,c⟩:=x;simp only[Vy,VH,not_or]at h;have: ¬a=s:=fun e=>h.1 e.symm;simp only[cJ,be this,ih h.2];rfl
theorem Hx{l:List Decl}{B:List zo}{i b e:Nat}(hn:(l.map Decl.name).Nodup)(hi:B.length=i)(hl:i<l.length):cJ .str (j6 l B) (l.getD i ci).name (co b)=j6 l (B++ [(b,e)]):=by
 subst hi;have h:j6 l (B++ [(b,e)])=j6 l B++ [((l.getD B.length ci).name,co b)]:=uh _ l B (b,e) hl;rw[h];apply LS;rw[Aw l B (YZ hl)];intro u;have j:l.map Decl.name=(l.take B.length).map Decl.name++(l.drop B.length).map Decl.name:=by rw[<-VD,XR]
 rw[j,W3]at hn;refine hn.2.2 _ u _ (V5.2 ⟨l.getD B.length ci,?_,rfl⟩) Z;rw[Vr,Vt hl];exact List.mem_drop_iff_getElem.2 ⟨0,by simpa using hl,by simp⟩
def rj(r:aw)(l:Lit):List (aq×aq×Nat):=(named l).map fun t=>(r.head.rel,t,mQ l)
def Eh(r:aw):List (aq×aq×Nat):=r.body.flatMap (rj r)
theorem Es: ∀{L:List (Nat×Nat×NM)} {j:Nat} {y:Nat×Nat×NM},(L.map Wy).Nodup->L[j]? =co y->L.find? (fun z=>z.1==y.1)=co y
 | [],_,_,_,h=>by simp at h
 |x::L,0,y,_,h=>by
  simp only[List.getElem?_cons_zero,Vq]at h;subst h;simp
 |x::L,j+1,y,hn,h=>by
  rw[X8]at h;rw[Vy,Wb]at hn;have u: ¬x.1=y.1:=fun e=>hn.1 (e▸Yp (V2 h));rw[List.find?_cons_of_neg (by simpa using u)];exact Es hn.2 h
theorem qI{l:List Decl}{B:List zo}{hs:List (aq×aq×Nat)}{j:Nat}{d:Decl}{b:zo}(hl:B.length=l.length)(hn:(B.map Wy).Nodup)(hd:l[j]? =co d)(hb:B[j]? =co b):dT (rowsOf l B hs) b.1=co (.obj (cS (jM hs d.name)) b.2):=by
 have h:(rowsOf l B hs)[j]? =co (b.1,b.2,jM hs d.name):=by
  unfold rowsOf;rw[YJ,hd,hb]
 have u:=Es (by rw[nS hs l B (YD hl)];exact hn) h;unfold dT;rw[u];rfl
theorem Ac{l:List Decl}{B:List zo}{hs:List (aq×aq×Nat)}{c:Nat}(hl:B.length<=l.length)(h:c∉B.map Wy):dT (rowsOf l B hs) c=io:=by
 rw[<-nS hs l B hl]at h;unfold dT;rw[XM,Xy];intro y j;simp only[beq_iff_eq];exact fun e=>h (e▸Yp j)
theorem E1{l:List Decl}{B:List zo}{hs:List (aq×aq×Nat)}{j h:Nat}{d:Decl}{b:zo}{t:aq}(hl:B.length=l.length)(hn:(B.map Wy).Nodup)(J:(l.map Decl.name).Nodup)(hd:l[j]? =co d)(hb:B[j]? =co b):
  (dT (rowsOf l B hs)).put b.1 (.obj (cS (Ge (jM hs d.name) t h)) b.2)=dT (rowsOf l B (hs++ [(d.name,t,h)])):=by
 funext c
 unfold bB.put;by_cases y:c=b.1
 .subst y;rw[am Z,qI hl hn hd hb,oK,am Z]
 .rw[be y];by_cases I:c∈B.map Wy
  .obtain⟨b',x,rfl⟩:=V5.1 I;obtain⟨i,A,rfl⟩:=Xp.1 x;have u:i<l.length:=by omega
   have C:i≠j:=fun e=>y (by subst e;rw[Vt A]at hb;cases hb;rfl);rw[qI hl hn (Vt u) (Vt A),qI hl hn (Vt u) (Vt A),oK,be];intro e;have Y:=(Vs.1 hd)
   obtain⟨D,G⟩:=Y;apply C;refine(List.getElem_inj J (h₀:=by simpa using u) (h₁:=by simpa using D)).1 ?_;rw[Xb,Xb,G];exact e.symm
  .rw[Ac (YD hl) I,Ac (YD hl) I]
theorem Qt{l:List Decl}{B:List zo}{a:aq}(hl:B.length=l.length)(u:(l.map Decl.name).Nodup)(ha:a∈l.map Decl.name): ∃(j:Nat) (d:Decl) (b:zo),l[j]? =co d∧B[j]? =co b∧d.name=a∧dQ .str (j6 l B) a io=co b.1:=by
 induction l generalizing B with
 |nil=>cases ha
 |cons d l ih=>
  cases B with
  |nil=>cases hl
  |cons b B=>
   by_cases h:d.name=a
   .exact⟨0,d,b,rfl,rfl,h,by simp[j6,dQ,h]⟩
   .rw[Vy,Wb]at u;rw[Vy,VH]at ha;obtain⟨j,y,x,h1,A,C,D⟩:=ih (by simpa using hl) u.2 (ha.resolve_left fun e=>h e.symm);exact⟨j+1,y,x,h1,A,C,by simpa[j6,dQ,h]using D⟩
def dvG(_:PV):Option NM:=io
theorem Gv{p:Prog}{B:List zo}(hl:B.length=p.aD.length)(hn:(B.map Wy).Nodup){hs:List (aq×aq×Nat)}:O8 (dT (rowsOf p.aD B hs)) (gO (j6 p.aD B)) (.map .str Fu io (.map io) dvG (ck p hs)):=by
 refine .map _ _ _ _ _ _ _ _ _ _ (by simp[ck,j6,hl]) (fun j A x=>?_) fun M=> .v _
 obtain⟨d,hd,rfl⟩: ∃d,p.aD[j]? =co d∧A=(d.name,co (jM hs d.name)):=by
  unfold ck at x;rw[Vv,Vw]at x;obtain⟨d,h1,y⟩:=x;exact⟨d,h1,y.symm⟩
 have u:j<B.length:=by rw[hl];exact(Vs.1 hd).1
 refine⟨(d.name,co B[j].1),.map (co B[j].1),?_,rfl,rfl,?_⟩
 .unfold j6;rw[YJ,hd,Vt u]
 .refine .map B[j].1 B[j].2 .str zn 0 (.int .i64 0) UH (jM hs d.name) ?_;exact qI hl hn hd (Vt u)
theorem OM(hS:fx)(p:Prog)(hb:p.fit):Pure Tryz.prog 65 [ag p.c] (.aZ [.iv (vk p),pB (kw ((eI p).1=0))]):=by
 refine ah ab Tryz.func65 Z (by decide) Tryz.ntmps65 Z (by simp) Z ?_;refine gA Z (zp (c24 p hb) ?_);refine zJ Z Z (fun D=>?_) fun D=>?_
 .have D: ¬(eI p).1=0:=by simpa using D
  rw[vk,be D,decide_eq_false D];exact zU Z
 have D:(eI p).1=0:=by simpa using D
 have hf:=Er D;have v0:=hf.len;rw[vk,am D,decide_eq_true D];refine gM 1 Z ?_;refine Tu ?_;refine c4 (kj ?_);refine gA Z ?_;refine c4 (c4 (vj ⟨[(1,.ptr 0 0),(4,.mp 2),(20,.iv (a7 4 p.aD Decl.c)),(21,pI p.aD.length),(22,pI 0)],[(0,co (aG p.c)),(2,co (gO []))],3⟩ ?_ ?_))
 .refine gA Z (xF [1] ?_);exact zW (zK (QU Z (fun _=> .v _) Z ac))
 refine jm (yW 0 p.aD.length (VB _) (fun i (x:ULift.{1} (List zo))=>⟨[(1,.ptr 0 0),(4,.mp 2),(20,.iv (a7 4 p.aD Decl.c)),(21,pI p.aD.length),(22,pI i)],[(0,co (aG p.c)),(2,co (gO (j6 p.aD x.down)))],3⟩)
  (fun i x Y=>BOK p.aD i x.down∧Y=dT (rowsOf p.aD x.down [])) ⟨[]⟩ [] ⟨⟨rfl,Wn⟩,(B9 p.aD []).symm⟩
  (zW (zK (hM Z (Ay p.aD).symm Z ac))) (fun _ _ _ h=>h.2▸iu _) fun i x Y hi hJ=>?_)
 obtain⟨hB,rfl⟩:=hJ;obtain⟨B⟩:=x;refine c4 (kj ?_);refine gA Z ?_;refine c4 (tZ Z (fun h1=>tW ?_) (fun h1=>tY ?_))
 .have h1:i<p.aD.length:=by simpa using h1
  refine c4 (jm (c4 (kj ?_)));refine gA Z ?_;refine xE (tX 4 ?_);refine gA Z ?_;refine yV (PW (i:=4) (o':=cS []) Z (FD fT)) fun t Y ht=>?_;obtain⟨rfl,rfl⟩:=ht;refine yV (EU (i:=4) (d:=29) (iu _) Z Z ac Z) fun t Y ht=>?_;obtain⟨b,e,o0,rfl,rfl⟩:=ht;refine tX 1 ?_;refine gA Z ?_;refine vi (Ii (kj ?_));refine gA Z ?_;have a0:=E3 (by rw[hB.len];exact hi) o0;exact⟨h1,⟨B++ [(b,e)]⟩,[],⟨⟨by rw[Vp,hB.len];rfl,L5 hB.nd a0⟩,(E2 (by rw[hB.len];exact h1) a0).symm⟩,zW (zK (hM Z (Hx hf.nodup hB.len h1) Z ac))⟩
 have h1:p.aD.length<=i:=by simpa using h1
 have I:B.length=p.aD.length:=by have:B.length=i:=hB.len;omega
 have c0:=hB.nd;clear hB;have x0:p.rules.length<=1000000000:=hb.2.1
 let G:Nat->List (aq×aq×Nat):=fun r=>(p.rules.take r).flatMap Eh
 change GX _ _ [.code _] _ _ _;refine c4 (c4 (vj ⟨[(1,.ptr 0 0),(4,.mp 2),(32,.iv (a7 5 p.rules aw.c)),(33,pI p.rules.length),(34,pI 0)],[(0,co (aG p.c)),(2,co (gO (j6 p.aD B)))],3⟩ ?_ ?_))
 .refine gA Z (xF [] ?_);exact zW (zK (zC ac))
 refine jm (yW 0 p.rules.length (VB _) (fun i (_:PUnit.{2})=>⟨[(1,.ptr 0 0),(4,.mp 2),(32,.iv (a7 5 p.rules aw.c)),(33,pI p.rules.length),(34,pI i)],[(0,co (aG p.c)),(2,co (gO (j6 p.aD B)))],3⟩)
  (fun i _ Y=>Y=dT (rowsOf p.aD B (G i))) ⟨⟩ [] Z (zW (zK (zC ac))) (fun _ _ _ h=>h▸iu _) fun n _ Y hn hJ=>?_)
 subst hJ;refine c4 (kj ?_);refine gA Z ?_;refine c4 (tZ Z (fun h1=>tW ?_) (fun h1=>tY ?_));rotate_left
 .have h1:p.rules.length<=n:=by simpa using h1
  have k0:G n=cU p:=by show((p.rules.take n).flatMap Eh)=_;rw[VI h1];rfl
  rw[k0];change GX _ _ [.code _] _ _ _;refine OW (PX (i:=2) (o':= .map .str Fu io (.map io) dvG (ck p (cU p))) Z (Gv I c0)) fun t Y ht=>?_;obtain⟨rfl,rfl⟩:=ht;refine kj ?_;refine gA Z (gj (.inr Z) Z (ft.map 2 Z (.done (.refl _))))
 have h1:n<p.rules.length:=by simpa using h1
 have hR:p.rules.getD n ci∈p.rules:=l0 h1;have f0:G (n+1)=G n++Eh (p.rules.getD n ci):=by show((p.rules.take (n+1)).flatMap Eh)=_;rw[bS h1,X3];simp;rfl
 have b0:=hb.2.2 _ hR;have A:=b0.1;have u:=hf.Eg _ hR;have y:=hf.lits _ hR;generalize m0:p.rules.getD n ci=R at hR f0 b0 A u y;refine c4 (jm (c4 (kj ?_)));refine gA Z ?_;refine c4 (vj ⟨[(1,.ptr 0 0),(4,.mp 2),(8,.ptr 3 0),(32,.iv (a7 5 p.rules aw.c)),(33,pI p.rules.length),(34,pI n),(39,.iv (lits R.body)),(40,pI R.body.length),(41,pI 0)],[(0,co (aG p.c)),(2,co (gO (j6 p.aD B))),(3,co (aG R.c))],4⟩ ?_ ?_)
 .refine gA Z (xF [] ?_);subst m0;exact zW (zK (zC (zK ac)))
 have s0:R.body.length<=10000000:=by have:=Lit.aJ R.body;unfold aw.size at A;omega
 refine jm (yW 0 R.body.length (VB _) (fun i (_:PUnit.{2})=>⟨[(1,.ptr 0 0),(4,.mp 2),(8,.ptr 3 0),(32,.iv (a7 5 p.rules aw.c)),(33,pI p.rules.length),(34,pI n),(39,.iv (lits R.body)),(40,pI R.body.length),(41,pI i)],[(0,co (aG p.c)),(2,co (gO (j6 p.aD B))),(3,co (aG R.c))],4⟩)
  (fun i _ Y=>Y=dT (rowsOf p.aD B (G n++(R.body.take i).flatMap (rj R)))) ⟨⟩ [] (by simp) (zW (zK (zC (zK ac)))) (fun _ _ _ h=>h▸iu _) fun i _ Y t0 hJ=>?_)
 subst hJ;refine c4 (kj ?_);refine gA Z ?_;refine c4 (tZ Z (fun C=>tW ?_) (fun C=>tY ?_));rotate_left
 .have C:R.body.length<=i:=by simpa using C
  rw[VI C,show G n++R.body.flatMap (rj R)=G (n+1) from f0.symm];change GX _ _ (.code _::_) _ _ _;refine kj ?_;refine gA Z ⟨h1,⟨⟩,[],rfl,zW (zK (zC ac))⟩
 have C:i<R.body.length:=by simpa using C
 have hl:R.body.getD i ci∈R.body:=l0 C;have g0:(R.body.take (i+1)).flatMap (rj R)=(R.body.take i).flatMap (rj R)++rj R (R.body.getD i ci):=by rw[bS C,X3];simp
 have e0:(R.body.getD i ci).size<=10000000:=by have:=Lit.bT R.body i C;unfold aw.size at A;omega
 have d0:=y _ hl;generalize q0:R.body.getD i ci=l at hl g0 e0 d0;refine c4 (jm (c4 (kj ?_)));refine gA Z ?_;refine c4 (vj ⟨[(1,.ptr 0 0),(4,.mp 2),(8,.ptr 3 0),(10,.ptr 4 0),(32,.iv (a7 5 p.rules aw.c)),(33,pI p.rules.length),(34,pI n),(39,.iv (lits R.body)),(40,pI R.body.length),(41,pI i),(46,.iv (strs (named l))),(47,pI (named l).length),(48,pI 0)],[(0,co (aG p.c)),(2,co (gO (j6 p.aD B))),(3,co (aG R.c)),(4,co (aG l.c))],5⟩ ?_ ?_)
 .subst q0;refine gA Z (zp (DH (R.body.getD i ci) (by omega)) ?_);refine gA Z (xF [] ?_);exact zW (zK (zC (zK (zK ac))))
 have w0:=lR l
 refine jm (yW 0 (named l).length (VB _) (fun k (_:PUnit.{2})=>⟨[(1,.ptr 0 0),(4,.mp 2),(8,.ptr 3 0),(10,.ptr 4 0),(32,.iv (a7 5 p.rules aw.c)),(33,pI p.rules.length),(34,pI n),(39,.iv (lits R.body)),(40,pI R.body.length),(41,pI i),(46,.iv (strs (named l))),(47,pI (named l).length),(48,pI k)],[(0,co (aG p.c)),(2,co (gO (j6 p.aD B))),(3,co (aG R.c)),(4,co (aG l.c))],5⟩)
  (fun k _ Y=>Y=dT (rowsOf p.aD B ((G n++(R.body.take i).flatMap (rj R))++((named l).take k).map fun t=>(R.head.rel,t,mQ l)))) ⟨⟩ [] (by simp) (zW (zK (zC (zK (zK ac))))) (fun _ _ _ h=>h▸iu _) fun k _ Y hk hJ=>?_)
 subst hJ;refine c4 (kj ?_);refine gA Z ?_;refine c4 (tZ Z (fun h3=>tW ?_) (fun h3=>tY ?_));rotate_left
 .have h3:(named l).length<=k:=by simpa using h3
  have eX:(G n++(R.body.take i).flatMap (rj R))++(named l).map (fun t=>(R.head.rel,t,mQ l))=G n++(R.body.take (i+1)).flatMap (rj R):=by rw[VF,g0];rfl
  rw[VI h3,eX];change GX _ _ (.code _::_) _ _ _;refine kj ?_;refine gA Z ⟨C,⟨⟩,[],rfl,zW (zK (zC (zK ac)))⟩
 have h3:k<(named l).length:=by simpa using h3
 obtain⟨j,d,b,hd,i0,p0,j0⟩:=Qt I hf.nodup u;have hX:=qI (hs:=(G n++(R.body.take i).flatMap (rj R))++((named l).take k).map fun t=>(R.head.rel,t,mQ l)) I c0 hd i0;have J:=E1 (hs:=(G n++(R.body.take i).flatMap (rj R))++((named l).take k).map fun t=>(R.head.rel,t,mQ l)) (t:=(named l).getD k ci) (h:=mQ l) I c0 hf.nodup hd i0;rw[p0]at hX J;have r0:((G n++(R.body.take i).flatMap (rj R))++((named l).take k).map fun t=>(R.head.rel,t,mQ l))++ [(R.head.rel,(named l).getD k ci,mQ l)]=(G n++(R.body.take i).flatMap (rj R))++((named l).take (k+1)).map fun t=>(R.head.rel,t,mQ l):=by
  rw[bS h3,VD,VF];rfl
 rw[r0]at J;generalize(G n++(R.body.take i).flatMap (rj R))++((named l).take k).map (fun t=>(R.head.rel,t,mQ l))=hs at hX J;refine c4 (jm (c4 (kj ?_)));refine gA Z ?_;refine c4 (kj ?_);refine gA Z ?_;refine c4 (vj ⟨[(1,.ptr 0 0),(4,.mp 2),(8,.ptr 3 0),(10,.ptr 4 0),(32,.iv (a7 5 p.rules aw.c)),(33,pI p.rules.length),(34,pI n),(39,.iv (lits R.body)),(40,pI R.body.length),(41,pI i),(46,.iv (strs (named l))),(47,pI (named l).length),(48,pI k),(12,pS ((named l).getD k ci)),(13,pI (mQ l))],[(0,co (aG p.c)),(2,co (gO (j6 p.aD B))),(3,co (aG R.c)),(4,co (aG l.c))],5⟩ ?_ ?_)
 .refine zJ Z Z (fun h4=>?_) fun h4=>?_
  .have h4:l.kind=1:=zT h4;refine gA Z (xF [] ?_);exact zM (bi (bi (bi (bi (bi (bi (bi (bi (bi (bi (bi (bi (bi (bi ⟨.of_eq (by rw[mQ,am h4];rfl),rfl,ac⟩)))))))))))))) (zK (zC (zK (zK ac))))
  .have h4: ¬l.kind=1:=zF h4;refine gA Z (xF [] ?_);exact zM (bi (bi (bi (bi (bi (bi (bi (bi (bi (bi (bi (bi (bi (bi ⟨.of_eq (by rw[mQ,be h4];rfl),rfl,ac⟩)))))))))))))) (zK (zC (zK (zK ac))))
 refine xE (tX 12 ?_);refine gA Z ?_;refine yV (ET (d:=65) hX (show PV.iv (.v (.map (dQ .str (j6 p.aD B) R.head.rel io)))=_ by rw[j0])) fun t Y ht=>?_;obtain⟨rfl,rfl⟩:=ht;refine yV (GL (b:=b.1) (j:=5) (e:=b.2) (d:=59) (p:= .mp 5) (bB.fJ _ _ _) fun M N U x hu n0 _ hv=>?_) fun t Y ht=>?_
 .have hv:VR M N U (PV.iv (.v (.map (dQ .str (j6 p.aD B) R.head.rel io)))) x:=hv;rw[j0]at hv;cases hv with
  |iv _ _ hi=>cases hi with
   |v=>rw[<-n0];exact .mp 5 hu
 obtain⟨rfl,rfl⟩:=ht;refine tX 4 ?_;refine gA Z ?_;refine vi (Ii (OW (Sw (b:=b.1) (e:=b.2) (i:=5) (o:=cS (Ge (jM hs R.head.rel) ((named l).getD k ci) (mQ l))) (bB.fJ _ _ _) Z Z ac) fun t Y ht=>?_));obtain⟨rfl,rfl⟩:=ht;rw[bB.LR];refine kj ?_;refine gA Z ⟨h3,⟨⟩,[],J,zW (zK (zC (zK (zK ac))))⟩
end Go.Proofs.YtlmhfgbkchnfbaaGreatDoor
