/-
  What the proofs of the claims need: part 6 of 6.
-/
import Derived.Test.YtlmhfgbkchnfbaaGreatDoorPart5
open And renaming intro→W0
open Int renaming toNat_natCast→W6
open List renaming cons_append→Xp,length_append→W1,length_singleton→Xu,length_take→XA,map_append→Xg,map_cons→W7,map_nil→Xj,nil_append→Xq,replicate→X3,take_append_of_le_length→Y3
open Nat renaming eq_or_lt_of_le→Z0,le_of_ble_eq_true→WY,le_refl→W8,lt_irrefl→ZC,min_eq_left→Y9,zero_add→Xo,zero_le→Xc
set_option maxRecDepth 100000
open Bool renaming true→jp
open Decidable renaming decide→lc
open Inhabited renaming default→co
open Option renaming some→io
open Array renaming getD_eq_getD_getElem?→WZ
open Option.some renaming injEq→W3
open Nat renaming le_succ→Yw
open List renaming getElem?_eq_some_iff→W4
open Array renaming range→Z3
open Array renaming getElem?_map→ZG
open Option renaming map_some→Ya
open Option renaming getD_some→X9
open Array renaming getElem?_eq_getElem→XJ
open Nat renaming mul_le_mul_right→Xt
open Nat renaming add_mul→XT
open Array renaming append_assoc→ZH
open Array renaming getElem?_append_left→XF
open List renaming getD_eq_getElem?_getD→W2
open List renaming getElem?_append_right→Xl
open Nat renaming sub_mul→aal
open Array renaming getElem?_append_right→YV
open List renaming getElem?_take→XK
open Array renaming getElem?_toList→Xz
open Nat renaming mod_eq_of_lt→Zl
open List renaming getElem?_toArray→XP
open List renaming getElem?_append_left→Xn
open List renaming length_map→Xw
open List renaming append_assoc→Xf
open List renaming nodup_cons→XN
open List renaming mem_cons→Xm
open List renaming mem_map→XH
namespace Go.Proofs.YtlmhfgbkchnfbaaGreatDoor
open Go Go.Al Go.Proofs.Tryz Go.En Go.Bo
abbrev C3(s:JS):List IV:=[aT 2 s.S Fact.c]
abbrev C4(s:JS):List IV:=[.v (.int .i64 (s.a.length:Int))]
abbrev Fe(x:Int×Int×Int):List IV:=[.v (.int .i64 x.1),.v (.int .i64 x.2.1),.v (.int .i64 x.2.2)]
structure WX where
 C:List JS
 s:JS
 f:FM
 k:Nat
structure CtJ (p:Prog) (i:Nat) (x:WX):Prop where
 ch:Ch p x.C
 last:x.C.getD (x.C.length-1) co=x.s
 j:JI p x.s x.f x.k i
 len:x.C.length<=i+1
set_option maxHeartbeats 4000000 in
theorem zn(hS:fJ)(p:Prog)(bs:List (List (b3 Fact)))(kp:Int×Int×Int)(hf:p.fit)(hs:p.size<=10000000)(ht:p.ts<=800000000)(hl:bs.length<=1000000000)(hF: ∀l∈bs,∀x∈l,x.2.args.length<=1000000000):
  Pure prog 3 [ag p.c,.iv (aT 1 bs wV),ag (Fe kp)] (pB jp):=by
 have hr:=hf.1;by_cases hc:(gP p).1=0;rotate_left
 .refine ah ab func3 Z (by decide) ntmps3 Z (by simp) Z ?_;refine gA Z (aF (ES hS) Z Z Z Z Z Z ?_);refine gA Z (aF (Gm hS p hf hs ht hc) Z Z Z Z Z Z ?_);refine gA Z ?_;refine W0 (fun zz=>?_) (fun zz=>?_)<;>(try(exact absurd zz (by decide)))
  refine gA Z ?_;refine W0 (fun zz=>?_) (fun zz=>?_)<;>(try(exact absurd zz (by decide)))
  refine gA Z ?_;refine W0 (fun zz=>?_) (fun zz=>?_)<;>(try(exact absurd zz (by decide)))
  refine gA Z ?_;refine W0 (fun zz=>?_) (fun zz=>?_)<;>(try(exact absurd zz (by decide)))
  refine gA Z (aM (by first|exact .inr Z|exact .inl Z) Z (.of_eq ?_));rfl
 have hC:=zr hS p hf hs ht hc;have hnew:=JI.new p 0;have k0:=Ch.new p;have Y:=fun(b:By) h1 h2=>Qc hS p hf hs ht b hr h1 hc h2;refine ah ab func3 Z (by decide) ntmps3 Z (by simp) Z ?_;refine gA Z (aF (ES hS) Z Z Z Z Z Z ?_);refine gA Z (ai [] (hC) Z Z Z Z Z Z Z Z ?_);refine gA Z ?_;refine W0 (fun zz=>?_) (fun zz=>?_)<;>(try(exact absurd zz (by decide)))
 refine gA Z ?_;refine W0 (fun zz=>?_) (fun zz=>?_)<;>(try(exact absurd zz (by decide)))
 refine gA Z ?_;refine W0 (fun zz=>?_) (fun zz=>?_)<;>(try(exact absurd zz (by decide)))
 refine gA Z (ai [2,3,4,5] (hnew.facts) Z Z Z Z Z (by simp only[W7,Xj,Xp,Xq,aD,bb];rfl) Z Z ?_);refine gA Z (ai [2,3,4,5] (hnew.bytes) Z Z Z Z Z (by simp only[W7,Xj,Xp,Xq,aD,bb];rfl) Z Z ?_)
 (refine gM 10 Z ?_;refine bZ (L:=[]) (t:=⟨[(1,.iv (aT 1 bs wV)),(3,.ptr 0 0),(5,.ptr 1 0),(8,.ptr 5 0),(10,.sl 8 0 1 1),(11,.sl 11 0 1 1),(12,pI 0)],(0,io (ax p.c))::(1,io (ax (Fe kp)))::(NB p 0 [] ⟨[],bF p,0⟩ 2++ [(8,io (aS 1 [(⟨[],bF p,0⟩:JS)] C3)),(11,io (aS 1 [(⟨[],bF p,0⟩:JS)] C4))]),12⟩) ?_ ?_;refine wk Z Z Z ?_ ?_ ?_;exact(bi (bi (bi (bi (bi (bi (bi ac)))))));exact⟨⟨_,rfl,.of_eq Z⟩,WY Z,rfl,⟨⟨_,rfl,.of_eq Z⟩,WY Z,rfl,hM Z Z Z ⟨⟨_,rfl,.of_eq Z⟩,WY Z,rfl,hR Z (aB _ _) Z ⟨⟨_,rfl,.of_eq Z⟩,WY Z,rfl,hR Z Z Z (hR Z Z Z ac)⟩⟩⟩⟩;exact rfl)
 refine gA Z ?_;refine iZ 0 bs.length (Xc _) (fun i (x:WX)=>⟨[(1,.iv (aT 1 bs wV)),(3,.ptr 0 0),(5,.ptr 1 0),(8,.ptr 15 0),(10,.sl 16 0 x.C.length 1),(11,.sl 17 0 x.C.length 1),(12,pI i)],(0,io (ax p.c))::(1,io (ax (Fe kp)))::(NB p x.k x.f x.s 12++ [(16,io (aS 1 x.C C3)),(17,io (aS 1 x.C C4))]),18⟩) (CtJ p) ⟨[⟨[],bF p,0⟩],⟨[],bF p,0⟩,[],0⟩ [2,3,4,5,8,11] ⟨k0,rfl,hnew,W8 _⟩
  (by refine wk Z Z Z ?_ ?_ ?_;exact(bi (bi (bi (bi (bi (bi (bi ac)))))));exact⟨⟨_,rfl,.of_eq Z⟩,WY Z,rfl,⟨⟨_,rfl,.of_eq Z⟩,WY Z,rfl,hM Z Z Z ⟨⟨_,rfl,.of_eq Z⟩,WY Z,rfl,hR Z (by first|rfl|exact aB _ _) Z ⟨⟨_,rfl,.of_eq Z⟩,WY Z,rfl,hR Z Z Z (hR Z Z Z ac)⟩⟩⟩⟩;exact rfl) fun i x hi hJ=>?_
 obtain⟨j,A,D,a0⟩:=hJ;refine gA Z ?_;refine W0 (fun h1=>?_) (fun h1=>?_)
 .have h1:i<bs.length:=by have:=of_decide_eq_true h1;omega
  have j0:=hF _ (Cr h1);refine gM 3 Z (go_cut 1 (fun(y:{y:WX//CtJ p i y})=>⟨[(1,.iv (aT 1 bs wV)),(3,.ptr 0 0),(5,.ptr 1 0),(8,.ptr 21 0),(10,.sl 22 0 y.1.C.length 1),(11,.sl 23 0 y.1.C.length 1),(12,pI i)],(0,io (ax p.c))::(1,io (ax (Fe kp)))::(NB p y.1.k y.1.f y.1.s 18++ [(22,io (aS 1 y.1.C C3)),(23,io (aS 1 y.1.C C4))]),24⟩) Z ?_ ?_)
  .refine gA Z ?_;refine W0 (fun h2=>?_) (fun h2=>?_)
   .by_cases hz:(eI x.s).length<=4194304
    .have G:=D.pack;rw[IL hz]at G;have m0:=Ch.packed D.fG D.head hz;obtain⟨G,I⟩:=G;dsimp only at G I;generalize eI x.s=W at*
     refine gA Z (ai [12,13,14,15] (G) Z Z Z Z Z (by simp only[W7,Xj,Xp,Xq,aD,bb];rfl) Z Z ?_);refine gA Z ?_;refine W0 (fun zz=>?_) (fun zz=>?_)<;>(try(exact absurd zz (by decide)))
     (refine gM 1 Z ?_;refine bZ (L:=[]) (t:=⟨[(1,.iv (aT 1 bs wV)),(3,.ptr 0 0),(5,.ptr 1 0),(8,.ptr 15 0),(10,.sl 16 0 x.C.length 1),(11,.sl 17 0 x.C.length 1),(12,pI i)],[(0,io (ax p.c)),(1,io (ax (Fe kp))),(12,io (bt x.f)),(13,io (b8 p x.k 12)),(18,io (hZ W)),(15,io (jC 13 18 W x.s.k)),(16,io (aS 1 x.C C3)),(17,io (aS 1 x.C C4))],19⟩) ?_ ?_;refine wk Z Z Z ?_ ?_ ?_;exact(bi (bi (bi (bi (bi (bi (bi ac)))))));exact⟨⟨_,rfl,.of_eq Z⟩,WY Z,rfl,⟨⟨_,rfl,.of_eq Z⟩,WY Z,rfl,hM Z Z Z ⟨⟨_,rfl,.of_eq Z⟩,WY Z,rfl,hR Z (aB _ _) Z ⟨⟨_,rfl,.of_eq Z⟩,WY Z,rfl,hR Z Z Z (hR Z Z Z ac)⟩⟩⟩⟩;exact rfl)
     refine gA Z (sb ab 0 Z Z Z Z Z Z Z Z (Xc _) j.ne (.inl ⟨rfl,rfl⟩) Z ?_);refine gA Z (sb ab 0 Z Z Z Z Z Z Z Z (Xc _) j.ne (.inl ⟨rfl,rfl⟩) Z ?_);refine gA Z (ai [12,13,18,15] (I.facts) Z Z Z Z Z (by simp only[W7,Xj,Xp,Xq,aD,bb];rfl) Z Z ?_);refine gA Z (sd ab Z Z Z Z Z Z Z Z Z (by have:=j.ne;simp;omega) (by simp) (eD Z) Z ?_)
     (refine gM 2 Z ?_;refine bZ (L:=[]) (t:=⟨[(1,.iv (aT 1 bs wV)),(3,.ptr 0 0),(5,.ptr 1 0),(8,.ptr 15 0),(10,.sl 20 0 1 1),(11,.sl 17 1 0 1),(12,pI i)],[(0,io (ax p.c)),(1,io (ax (Fe kp))),(12,io (bt x.f)),(13,io (b8 p x.k 12)),(18,io (hZ W)),(15,io (jC 13 18 W x.s.k)),(20,io (aS 1 [⟨x.s.S,W,x.s.k⟩] C3)),(17,io (aS 1 x.C C4))],21⟩) ?_ ?_;refine wk Z Z Z ?_ ?_ ?_;exact(bi (bi (bi (bi (bi (bi (bi ac)))))));exact⟨⟨_,rfl,.of_eq Z⟩,WY Z,rfl,⟨⟨_,rfl,.of_eq Z⟩,WY Z,rfl,hM Z Z Z ⟨⟨_,rfl,.of_eq Z⟩,WY Z,rfl,hR Z (aB _ _) Z ⟨⟨_,rfl,.of_eq Z⟩,WY Z,rfl,hR Z Z Z (hR Z Z Z ac)⟩⟩⟩⟩;exact rfl)
     refine gA Z (ai [12,13,18,15] (I.bytes) Z Z Z Z Z (by simp only[W7,Xj,Xp,Xq,aD,bb];rfl) Z Z ?_);refine gA Z (sd ab Z Z Z Z Z Z Z Z Z (by have:=j.ne;simp;omega) (by simp) (eD Z) Z ?_);refine gA Z (lZ ⟨⟨[⟨x.s.S,W,x.s.k⟩],⟨x.s.S,W,x.s.k⟩,x.f,x.k⟩,⟨m0,rfl,I,by show 1<=i+1;omega⟩⟩ [12,13,18,15,20,22] ?_)
     (refine wk Z Z Z ?_ ?_ ?_;exact(bi (bi (bi (bi (bi (bi (bi ac)))))));exact⟨⟨_,rfl,.of_eq Z⟩,WY Z,rfl,⟨⟨_,rfl,.of_eq Z⟩,WY Z,rfl,hM Z Z Z ⟨⟨_,rfl,.of_eq Z⟩,WY Z,rfl,hR Z (by first|rfl|exact aB _ _) Z ⟨⟨_,rfl,.of_eq Z⟩,WY Z,rfl,hR Z Z Z (hR Z Z Z ac)⟩⟩⟩⟩;exact rfl)
    .have G:=D.pack.1;rw[show jI x.s=(2,x.s,[]) from be hz]at G;dsimp only at G;refine gA Z (ai [12,13,14,15] (G) Z Z Z Z Z (by simp only[W7,Xj,Xp,Xq,aD,bb];rfl) Z Z ?_);refine gA Z ?_;refine W0 (fun zz=>?_) (fun zz=>?_)<;>(try(exact absurd zz (by decide)))
     refine gA Z (lZ ⟨x,j,A,D,a0⟩ [12,13,18,15,16,17] ?_)
     (refine wk Z Z Z ?_ ?_ ?_;exact(bi (bi (bi (bi (bi (bi (bi ac)))))));exact⟨⟨_,rfl,.of_eq Z⟩,WY Z,rfl,⟨⟨_,rfl,.of_eq Z⟩,WY Z,rfl,hM Z Z Z ⟨⟨_,rfl,.of_eq Z⟩,WY Z,rfl,hR Z (by first|rfl|exact aB _ _) Z ⟨⟨_,rfl,.of_eq Z⟩,WY Z,rfl,hR Z Z Z (hR Z Z Z ac)⟩⟩⟩⟩;exact rfl)
   .refine gA Z (lZ ⟨x,j,A,D,a0⟩ [12,13,14,15,16,17] ?_)
    (refine wk Z Z Z ?_ ?_ ?_;exact(bi (bi (bi (bi (bi (bi (bi ac)))))));exact⟨⟨_,rfl,.of_eq Z⟩,WY Z,rfl,⟨⟨_,rfl,.of_eq Z⟩,WY Z,rfl,hM Z Z Z ⟨⟨_,rfl,.of_eq Z⟩,WY Z,rfl,hR Z (by first|rfl|exact aB _ _) Z ⟨⟨_,rfl,.of_eq Z⟩,WY Z,rfl,hR Z Z Z (hR Z Z Z ac)⟩⟩⟩⟩;exact rfl)
  rintro⟨⟨C,u,mu,nu⟩,hu1,hu2,hu3,hu4⟩;dsimp only at hu1 hu2 hu3 hu4 ⊢;have hv:=Ef p u (bs.getD i co);refine gA Z (mF [18,19,20,21] (hu3.append (by omega) hr (bs.getD i co) j0) Z Z Z Z Z (by simp only[W7,Xj,aD];rfl) Z ?_);rintro r h' n' ⟨m1,n1,hj1,rfl,rfl,rfl⟩;refine⟨_,rfl,?_⟩
  (refine gM 6 Z ?_;refine bZ (L:=[]) (t:=⟨[(1,.iv (aT 1 bs wV)),(3,.ptr 0 0),(5,.ptr 1 0),(8,.ptr 21 0),(10,.sl 22 0 C.length 1),(11,.sl 23 0 C.length 1),(12,pI i),(16,pI (l0 p u (bs.getD i co)).1)],(0,io (ax p.c))::(1,io (ax (Fe kp)))::(apK p n1 m1 (l0 p u (bs.getD i co)).2.1 21 24++ [(22,io (aS 1 C C3)),(23,io (aS 1 C C4))]),27⟩) ?_ ?_;refine wk Z Z Z ?_ ?_ ?_;exact(bi (bi (bi (bi (bi (bi (bi (bi ac))))))));exact⟨⟨_,rfl,.of_eq Z⟩,WY Z,rfl,⟨⟨_,rfl,.of_eq Z⟩,WY Z,rfl,⟨⟨_,rfl,.of_eq Z⟩,WY Z,rfl,hM Z Z Z ⟨⟨_,rfl,.of_eq Z⟩,WY Z,rfl,hR Z (aB _ _) Z (hR Z Z Z (hR Z Z Z ac))⟩⟩⟩⟩;exact rfl)
  generalize l0 p u (bs.getD i co)=v at*
  rcases hv with⟨a1,a2,a3,a4⟩|⟨a1,a2⟩
  .refine gA Z ?_;refine W0 (fun zz=>?_) (fun zz=>?_)<;>(try(rw[a1]at zz;simp at zz;done))
   refine gA Z (ai [24,25,26,21] (hj1.facts) Z Z Z Z Z (by simp only[W7,Xj,Xp,Xq,aD,bb];rfl) Z Z ?_)
   (refine gM 4 Z ?_;refine bZ (L:=[]) (t:=⟨[(1,.iv (aT 1 bs wV)),(3,.ptr 0 0),(5,.ptr 1 0),(8,.ptr 21 0),(10,.sl 28 0 (C++ [v.2.1]).length 1),(11,.sl 23 0 C.length 1),(12,pI i)],(0,io (ax p.c))::(1,io (ax (Fe kp)))::(apK p n1 m1 v.2.1 21 24++ [(28,io (aS 1 (C++ [v.2.1]) C3)),(23,io (aS 1 C C4))]),29⟩) ?_ ?_;refine wk Z Z Z ?_ ?_ ?_;exact(bi (bi (bi (bi ⟨.row (by simp),rfl,bi (bi ac)⟩))));exact⟨⟨_,rfl,.of_eq Z⟩,WY Z,rfl,⟨⟨_,rfl,.of_eq Z⟩,WY Z,rfl,⟨⟨_,rfl,.of_eq Z⟩,WY Z,rfl,hM Z Z Z ⟨⟨_,rfl,.of_eq Z⟩,WY Z,rfl,hR Z (aB _ _) Z (hR Z (Xg (l₁:=C) (l₂:=[v.2.1])).symm Z (hR Z Z Z ac))⟩⟩⟩⟩;exact rfl)
   refine gA Z (ai [24,25,26,21] (hj1.bytes) Z Z Z Z Z (by simp only[W7,Xj,Xp,Xq,aD,bb];rfl) Z Z ?_);refine gA Z ⟨h1,⟨C++ [v.2.1],v.2.1,m1,n1⟩,[24,25,26,21,28,30],⟨hu1.snoc hj1.fG hj1.len (by rw[hu2];exact a2) (by rw[hu2];exact a3) (by rw[hu2];exact a4),by rw[jq,W1,Xu,Nat.add_sub_cancel,be (ZC _),am Z],hj1,by rw[W1,Xu];exact Nat.succ_le_succ hu4⟩,(by refine wk Z Z Z ?_ ?_ ?_;exact(bi (bi (bi (bi (bi ⟨.row (by simp),rfl,bi ac⟩)))));exact⟨⟨_,rfl,.of_eq Z⟩,WY Z,rfl,⟨⟨_,rfl,.of_eq Z⟩,WY Z,rfl,hM Z Z Z ⟨⟨_,rfl,.of_eq Z⟩,WY Z,rfl,hR Z (by first|rfl|exact aB _ _) Z ⟨⟨_,rfl,.of_eq Z⟩,WY Z,rfl,hR Z Z Z (hR Z (Xg (l₁:=C) (l₂:=[v.2.1])).symm Z ac)⟩⟩⟩⟩;exact rfl)⟩
  .refine gA Z ?_;refine W0 (fun zz=>?_) (fun zz=>?_)<;>(try(exact absurd (of_decide_eq_true zz) a1))
   refine gA Z ⟨h1,⟨C,v.2.1,m1,n1⟩,[24,25,26,21,22,23],⟨hu1,hu2.trans a2.symm,hj1,Nat.le_succ_of_le hu4⟩,(by refine wk Z Z Z ?_ ?_ ?_;exact(bi (bi (bi (bi (bi (bi (bi ac)))))));exact⟨⟨_,rfl,.of_eq Z⟩,WY Z,rfl,⟨⟨_,rfl,.of_eq Z⟩,WY Z,rfl,hM Z Z Z ⟨⟨_,rfl,.of_eq Z⟩,WY Z,rfl,hR Z (by first|rfl|exact aB _ _) Z ⟨⟨_,rfl,.of_eq Z⟩,WY Z,rfl,hR Z Z Z (hR Z Z Z ac)⟩⟩⟩⟩;exact rfl)⟩
 .have h1:bs.length<=i:=by have:=of_decide_eq_false h1;omega
  (refine gM 1 Z ?_;refine bZ (L:=[]) (t:=⟨[(3,.ptr 0 0),(5,.ptr 1 0),(8,.ptr 15 0),(10,.sl 16 0 x.C.length 1),(11,.sl 17 0 x.C.length 1)],(0,io (ax p.c))::(1,io (ax (Fe kp)))::(NB p x.k x.f x.s 12++ [(16,io (aS 1 x.C C3)),(17,io (aS 1 x.C C4))]),18⟩) ?_ ?_;refine wk Z Z Z ?_ ?_ ?_;exact(bi (bi (bi (bi (bi ac)))));exact⟨⟨_,rfl,.of_eq Z⟩,WY Z,rfl,⟨⟨_,rfl,.of_eq Z⟩,WY Z,rfl,hM Z Z Z ⟨⟨_,rfl,.of_eq Z⟩,WY Z,rfl,hR Z Z Z ⟨⟨_,rfl,.of_eq Z⟩,WY Z,rfl,hR Z Z Z (hR Z Z Z ac)⟩⟩⟩⟩;exact rfl)
  refine(iY 16 (fun k=>C3 (x.C.getD k co)) Z (cG Z) (by simp[AF.kK,PV.aZ]) ⟨s9 _ _ _ _,s9 _ _ _ _,ac,(by simp[AO.kK,aY,PV.aZ]),de _ _ _ _ _ _,(by simp[AO.kK,aY,PV.aZ]),de _ _ _ _ _ _,de _ _ _ _ _ _,ac⟩ ?_);refine bZ (L:=[]) (t:=⟨[(3,.ptr 0 0),(5,.ptr 1 0),(8,.ptr 15 0),(10,.iv (aT 1 x.C C3)),(11,.sl 17 0 x.C.length 1)],(0,io (ax p.c))::(1,io (ax (Fe kp)))::(NB p x.k x.f x.s 12++ [(17,io (aS 1 x.C C4))]),18⟩) (by refine wk Z Z Z ?_ ?_ ?_;exact(bi (bi (bi ⟨.bI Z (fun k _=>by rw[Xo]),rfl,bi ac⟩)));exact⟨⟨_,rfl,.of_eq Z⟩,WY Z,rfl,⟨⟨_,rfl,.of_eq Z⟩,WY Z,rfl,hM Z Z Z ⟨⟨_,rfl,.of_eq Z⟩,WY Z,rfl,hR Z Z Z ⟨⟨_,rfl,.of_eq Z⟩,WY Z,rfl,hR Z Z Z ac⟩⟩⟩⟩;exact rfl) ?_;refine(iY 17 (fun k=>C4 (x.C.getD k co)) Z (cG Z) (by simp[AF.kK,PV.aZ]) ⟨s9 _ _ _ _,s9 _ _ _ _,ac,(by simp[AO.kK,aY,PV.aZ]),de _ _ _ _ _ _,(by simp[AO.kK,aY,PV.aZ]),de _ _ _ _ _ _,ac⟩ ?_);refine bZ (L:=[]) (t:=⟨[(3,.ptr 0 0),(5,.ptr 1 0),(8,.ptr 15 0),(10,.iv (aT 1 x.C C3)),(11,.iv (aT 1 x.C C4))],(0,io (ax p.c))::(1,io (ax (Fe kp)))::(NB p x.k x.f x.s 12),18⟩) (by refine wk Z Z Z ?_ ?_ ?_;exact(bi (bi (bi (bi ⟨.bI Z (fun k _=>by rw[Xo]),rfl,ac⟩))));exact⟨⟨_,rfl,.of_eq Z⟩,WY Z,rfl,⟨⟨_,rfl,.of_eq Z⟩,WY Z,rfl,hM Z Z Z ⟨⟨_,rfl,.of_eq Z⟩,WY Z,rfl,hR Z Z Z ⟨⟨_,rfl,.of_eq Z⟩,WY Z,rfl,ac⟩⟩⟩⟩;exact rfl) ?_;have r0:=D.fG.num;have q0:=D.len;have e0:=j.ne;have c0:(x.C.getD 0 co).a.length<=x.s.a.length:=by
   rcases Z0 e0 with e|e
   .rw[<-A,<-e];exact W8 _
   .rw[<-A];exact Nat.le_of_lt (j.lt (by omega) (by omega))
  refine gA Z (ai [12,13,14,15] (D.bytes) Z Z Z Z Z (by simp only[W7,Xj,Xp,Xq,aD,bb];rfl) Z Z ?_)
  (refine gM 2 Z ?_;refine bZ (L:=[]) (t:=⟨[(3,.ptr 0 0),(5,.ptr 1 0),(8,.ptr 15 0),(10,.iv (aT 1 x.C C3)),(11,.iv (aT 1 x.C C4)),(17,.iv (aT 1 x.s.a aH))],(0,io (ax p.c))::(1,io (ax (Fe kp)))::(NB p x.k x.f x.s 12),18⟩) ?_ ?_;refine wk Z Z Z ?_ ?_ ?_;exact(bi (bi (bi (bi (bi (bi ac))))));exact⟨⟨_,rfl,.of_eq Z⟩,WY Z,rfl,⟨⟨_,rfl,.of_eq Z⟩,WY Z,rfl,hM Z Z Z ⟨⟨_,rfl,.of_eq Z⟩,WY Z,rfl,hR Z (aB _ _) Z ⟨⟨_,rfl,.of_eq Z⟩,WY Z,rfl,ac⟩⟩⟩⟩;exact rfl)
  refine gA Z (ai [12,13,14,15] (vw p x.k x.f x.s.a x.s.k) Z Z Z Z Z (by simp only[W7,Xj,Xp,Xq,aD,bb];rfl) Z Z ?_)
  (refine gM 12 Z ?_;refine bZ (L:=[]) (t:=⟨[(3,.ptr 0 0),(5,.ptr 1 0),(10,.iv (aT 1 x.C C3)),(11,.iv (aT 1 x.C C4)),(17,.iv (aT 1 x.s.a aH)),(18,pI ((x.s.k:Int)-((x.C.length:Int)-1))),(19,pI kp.1)],[(0,io (ax p.c)),(1,io (ax (Fe kp)))],18⟩) ?_ ?_;refine wk Z Z Z ?_ ?_ ?_;exact(bi (bi (bi (bi (bi (bi (bi ac)))))));exact⟨⟨_,rfl,.of_eq Z⟩,WY Z,rfl,⟨⟨_,rfl,.of_eq Z⟩,WY Z,rfl,ac⟩⟩;exact rfl)
  refine(go_cut 1 (fun(y:{n:Nat//(x.C.getD 0 co).a.length<=n∧n<=x.s.a.length})=>⟨[(3,.ptr 0 0),(5,.ptr 1 0),(10,.iv (aT 1 x.C C3)),(11,.iv (aT 1 x.C C4)),(17,.iv (aT 1 x.s.a aH)),(18,pI ((x.s.k:Int)-((x.C.length:Int)-1))),(19,pI y.1)],[(0,io (ax p.c)),(1,io (ax (Fe kp)))],18⟩) Z ?_ ?_)
  .refine gA Z ?_;refine W0 (fun q1=>?_) (fun q1=>?_)
   .have q1: ¬kp.1<((x.C.getD 0 co).a.length:Int):=of_decide_eq_false q1;refine gA Z ?_;refine W0 (fun q2=>?_) (fun q2=>?_)
    .refine gA Z (lZ ⟨x.s.a.length,c0,W8 _⟩ [] ?_);exact wk Z Z Z (bi (bi (bi (bi (bi (bi (bi ac))))))) ⟨⟨_,rfl,.of_eq Z⟩,WY Z,rfl,⟨⟨_,rfl,.of_eq Z⟩,WY Z,rfl,ac⟩⟩ Z
    .have q2: ¬(x.s.a.length:Int)<kp.1:=of_decide_eq_false q2;obtain⟨n,hn⟩: ∃n:Nat,kp.1=(n:Int):=⟨kp.1.toNat,by omega⟩
     rw[hn]at q1 q2;refine gA Z (lZ ⟨n,by omega,by omega⟩ [] ?_);exact wk Z Z Z (bi (bi (bi (bi (bi (bi ⟨.of_eq (congrArg pI hn),rfl,ac⟩)))))) ⟨⟨_,rfl,.of_eq Z⟩,WY Z,rfl,⟨⟨_,rfl,.of_eq Z⟩,WY Z,rfl,ac⟩⟩ Z
   .refine gA Z (lZ ⟨x.s.a.length,c0,W8 _⟩ [] ?_);exact wk Z Z Z (bi (bi (bi (bi (bi (bi (bi ac))))))) ⟨⟨_,rfl,.of_eq Z⟩,WY Z,rfl,⟨⟨_,rfl,.of_eq Z⟩,WY Z,rfl,ac⟩⟩ Z
  rintro⟨n,hn1,hn2⟩;dsimp only;have g0:=(j.fG 0 e0).len;refine gA Z (aF (UL x.s.a n kp.2.1 (by omega) hn2 (by omega)) Z Z Z Z Z Z ?_);refine gA Z ?_;refine W0 (fun q3=>?_) (fun q3=>?_)
  .refine gA Z (aM (by first|exact .inr Z|exact .inl Z) Z (.of_eq ?_));rfl
  have q3:(x.s.a.take n++X3 (min kp.2.1.toNat 64) 0).length<=4194304:=by have:=of_decide_eq_false q3;omega
  obtain⟨t,J,o0,p0⟩:=j.last n hn1
  have hO:=Y (x.s.a.take n++X3 (min kp.2.1.toNat 64) 0) q3 (by
   rw[Y3 (by rw[XA];omega),List.take_take,Y9 (by omega)]
   exact D.head)
  have f0:=j.opens (z:=min kp.2.1.toNat 64) J o0 (by rw[A];exact hn2) p0;rw[A]at f0;rw[f0]at hO;have B:=j.fG t J;have t0:=j.len t J;generalize x.s.a.take n++X3 (min kp.2.1.toNat 64) 0=left at*
  refine gA Z (mF [] hO Z Z Z Z Z Z Z ?_);rintro r h' n' ⟨m2,n2,hn3,hk2,rfl,rfl,rfl⟩;refine⟨_,rfl,?_⟩;refine gA Z ?_;refine W0 (fun zz=>?_) (fun zz=>?_)<;>(try(exact absurd zz (by decide)))
  refine gA Z ?_;refine W0 (fun zz=>?_) (fun zz=>?_)<;>(try(exact absurd zz (by decide)))
  refine gA Z ?_;have b0:=vt (x.C.getD t co).S (x.C.getD t co).S (by have:=B.fG.JR;omega) (wy B.fG);rw[decide_eq_true Z]at b0;have i0:=uF p n2 (x.C.getD t co).a (x.C.getD t co).k hk2 B.fG.zg (wy B.fG) (by have:=B.fG.JR;omega);refine iZ 0 t (Xc _) (fun i (_:Unit)=>⟨[(10,.iv (aT 1 x.C C3)),(11,.iv (aT 1 x.C C4)),(18,pI ((x.s.k:Int)-((x.C.length:Int)-1))),(19,pI n),(21,.ptr 25 0),(22,pI (x.C.getD t co).a.length),(24,pI i)],NB p n2 m2 (x.C.getD t co) 22,26⟩) (fun _ _=>True) () [18,19,20,21] ac
   (by refine wk Z Z Z ?_ ?_ ?_;exact(bi (bi (bi (bi (bi (bi (bi ac)))))));exact hM Z Z Z ⟨⟨_,rfl,.of_eq Z⟩,WY Z,rfl,hR Z (by first|rfl|exact aB _ _) Z ⟨⟨_,rfl,.of_eq Z⟩,WY Z,rfl,ac⟩⟩;exact rfl) fun i _ d0 _=>?_
  refine gA Z ?_;refine W0 (fun e1=>?_) (fun e1=>?_)
  .refine gA Z ?_;refine W0 (fun e2=>?_) (fun e2=>?_)
   .have e3:i=t:=by
     have e2:((x.C.getD i co).a.length:Int)=((x.C.getD t co).a.length:Int):=of_decide_eq_true e2;rcases Z0 d0 with e|e
     .exact e
     .have:=j.lt e J;omega
    subst e3;refine gA Z (bf ab [22,23,24,25] (i0) Z Z Z Z Z (by simp only[W7,Xj,Xp,Xq,aD,bb];rfl) Z Z Z Z Z Z (by(repeat' (first|exact ac|exact rfl|exact ae.refl _|exact ae.bk (by assumption)|apply W0))<;>first|omega|(simp only[W6];omega)|(simp;done)|(simp;omega)) Z (by(repeat' (first|exact ac|exact rfl|exact ae.refl _|exact ae.bk (by assumption)|apply W0))<;>first|omega|(simp only[W6];omega)|(simp;done)|(simp;omega)) ?_);refine gA Z (bf ab [] (Pure.nS (b0)) Z Z Z Z Z Z Z Z Z Z Z Z (by(repeat' (first|exact ac|exact rfl|exact ae.refl _|exact ae.bk (by assumption)|apply W0))<;>first|omega|(simp only[W6];omega)|(simp;done)|(simp;omega)) Z (by(repeat' (first|exact ac|exact rfl|exact ae.refl _|exact ae.bk (by assumption)|apply W0))<;>first|omega|(simp only[W6];omega)|(simp;done)|(simp;omega)) ?_)
    (refine gM 2 Z ?_;refine bZ (L:=[]) (t:=⟨[(10,.iv (aT 1 x.C C3)),(11,.iv (aT 1 x.C C4)),(18,pI ((x.s.k:Int)-((x.C.length:Int)-1))),(19,pI n),(21,.ptr 25 0),(22,pI (x.C.getD i co).a.length),(24,pI i),(25,pB jp)],NB p n2 m2 (x.C.getD i co) 22,26⟩) ?_ ?_;refine wk Z Z Z ?_ ?_ ?_;exact(bi (bi (bi (bi (bi (bi (bi (bi ac))))))));exact hM Z Z Z ⟨⟨_,rfl,.of_eq Z⟩,WY Z,rfl,hR Z (aB _ _) Z ⟨⟨_,rfl,.of_eq Z⟩,WY Z,rfl,ac⟩⟩;exact rfl)
    obtain⟨_,_,_,n0⟩:=j.pre (x.C.length-1-i) i (by omega);rw[show i+(x.C.length-1-i)=x.C.length-1 by omega,A]at n0;have s0:=B.num;refine gA Z ?_;refine W0 (fun zz=>?_) (fun zz=>?_)<;>(try(exact absurd zz (by decide)))
    refine gA Z (ai [22,23,24,25] (vw p n2 m2 (x.C.getD i co).a (x.C.getD i co).k) Z Z Z Z Z (by simp only[W7,Xj,Xp,Xq,aD,bb];rfl) Z Z ?_);refine gA Z ?_;refine W0 (fun zz=>?_) (fun zz=>?_)<;>(try(first|exact absurd zz (by decide)|(have:=of_decide_eq_false zz;omega)))
    refine gA Z ?_;refine W0 (fun zz=>?_) (fun zz=>?_)<;>(try(first|exact absurd zz (by decide)|(have:=of_decide_eq_false zz;omega)))
    refine gA Z ?_;refine W0 (fun g1=>?_) (fun g1=>?_)
    .have g1: ¬(i:Int)=(x.C.length:Int)-1:=of_decide_eq_false g1;have g2:i+1<x.C.length:=by omega
     have g3:n<(x.C.getD (i+1) co).a.length:=by omega
     refine gA Z (aM (by first|exact .inr Z|exact .inl Z) Z (.of_eq ?_));show PV.iv (IV.v (Value.bool (lc (((x.C.getD ((i:Int)+1).toNat co).a.length:Int)>(n:Int)))))=pB jp;rw[show((i:Int)+1).toNat=i+1 by omega,decide_eq_true (show((x.C.getD (i+1) co).a.length:Int)>(n:Int) by omega)]
    .refine gA Z (aM (by first|exact .inr Z|exact .inl Z) Z (.of_eq ?_));rfl
   .have e3:i<t:=by
     rcases Z0 d0 with e|e
     .subst e;exact absurd Z (of_decide_eq_false e2)
     .exact e
    refine gA Z ⟨e3,(),[22,23,24,25],ac,(by refine wk Z Z Z ?_ ?_ ?_;exact(bi (bi (bi (bi (bi (bi (bi ac)))))));exact hM Z Z Z ⟨⟨_,rfl,.of_eq Z⟩,WY Z,rfl,hR Z (by first|rfl|exact aB _ _) Z ⟨⟨_,rfl,.of_eq Z⟩,WY Z,rfl,ac⟩⟩;exact rfl)⟩
  .exact absurd (of_decide_eq_false e1) (by omega)
end Go.Proofs.YtlmhfgbkchnfbaaGreatDoor
