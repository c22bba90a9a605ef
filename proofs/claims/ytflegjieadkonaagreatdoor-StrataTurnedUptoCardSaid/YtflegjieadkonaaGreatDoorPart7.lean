/-
  What the proofs of the claims need: part 7 of 7.
-/
import Derived.Test.YtflegjieadkonaaGreatDoorPart6
open And renaming intro→Wl
open Array renaming getD_eq_getD_getElem?→Wm,getElem?_modify→W8,getElem?_toList→Xh
open Bool renaming and_eq_true→WN
open Int renaming toNat_natCast→Wp
open List renaming all_eq_true→WX,append_assoc→Wv,append_nil→Xo,ext_getElem?→Yo,getD_eq_getElem?_getD→Ws,getElem?_append_left→WH,getElem?_append_right→WJ,getElem?_drop→Xx,getElem?_eq_getElem→Wt,getElem?_eq_none→XU,getElem?_eq_some_iff→Wr,getElem?_of_mem→W6,getElem?_take→W7,getElem?_toArray→Xv,length_append→Wn,length_drop→X8,length_eq_zero_iff→XS,length_map→W3,length_nil→X4,length_take→Xb,map_append→Wq,map_cons→WI,map_set→YY,mem_map→W4,mem_of_find?_eq_some→Yn,mem_of_getElem?→WY,mem_of_mem_take→YF,sum_cons→XN,take_append_drop→X6,take_of_length_le→WB
open Nat renaming add_mod→Zu,add_mul→Xw,beq→WO,eq_zero_or_pos→Yx,le_of_ble_eq_true→Wj,le_of_eq→YX,le_refl→Wz,le_trans→WV,lt_or_ge→W9,mod_eq_of_lt→Yj,mul_le_mul_right→WR,zero_add→WQ,zero_le→WC,zero_mul→X0
open Option renaming map_none→YN,map_some→Xy
namespace Go.Proofs.YtflegjieadkonaaGreatDoor
open Go Go.Al
set_option maxRecDepth 10000
theorem CZ (p:Prog) (hb:p.size≤100000000000):cf Tryz.prog 12 [ag p.c] [] (.agg [.iv (cM 4 p.ar Decl.c), .sl 0 0 p.rules.length 5]) [(0,some (aD 5 p.rules ak.c))] 1:=by
 unfold Prog.size at hb;have hrl: ∀(l:List ak),l.length≤100000000000→True:=fun _ _=>trivial;refine aH ae Tryz.func12 rfl (by decide) Tryz.ntmps12 rfl (by simp) ?_;refine gA rfl ?_;refine jk 2 0 4 rfl rfl ?_;refine jk 2 1 5 rfl rfl ?_
 refine aK 0 p.ar.length (WC _) (fun i=>⟨[(1, .ptr 0 0),(2, .ptr 1 0),(3, .ptr 2 0),(4,pI i)],[(0,some (aE p.c)),(1,some (.cells [.iv (.v (.slice none 0 0)), .iv (.v (.slice none 0 0))])),(2,some (.cells [.sl 5 0 i 4, .sl 4 0 0 5])),(4,some (aD 5 ([]:List ak) ak.c)),(5,some (aD 4 (p.ar.take i) Decl.c))],6⟩) (fun _=>True) [3] trivial
  (wk rfl rfl rfl ⟨.refl _,rfl, .refl _,rfl, .refl _,rfl, .refl _,rfl,trivial⟩ (hC rfl rfl rfl ⟨⟨_,rfl, .of_eq rfl⟩,Wj rfl,rfl,⟨_,rfl, .of_eq rfl⟩,Wj rfl,rfl,hR rfl rfl rfl (hR rfl rfl rfl trivial)⟩) rfl) fun i hi _=>?_
 refine gA rfl ?_;refine Wl (fun h1=>?_) (fun h1=>?_)
 ·have h1:i<p.ar.length:=by simpa using h1
  have hlt:(p.ar.take i).length=i:=by rw[Xb];omega
  have hts:=aW (l:=p.ar) h1;have htl:=oz (fun d:Decl=>d.types.length) p.ar i h1;refine gM 26 rfl ?_
  refine bU (L:=[]) (t:=⟨[(1, .ptr 0 0),(2, .ptr 1 0),(3, .ptr 2 0),(4,pI i),(5, .ptr 6 0),(6, .sl 8 0 (p.ar.getD i default).types.length 1)],[(0,some (aE p.c)),(1,some (.cells [.iv (.v (.slice none 0 0)), .iv (.v (.slice none 0 0))])),(2,some (.cells [.sl 5 0 i 4, .sl 4 0 0 5])),(4,some (aD 5 ([]:List ak) ak.c)),(5,some (aD 4 (p.ar.take i) Decl.c)),(6,some (aE (p.ar.getD i default).c)),(8,some (aD 1 (p.ar.getD i default).types fH))],9⟩)
   (wk rfl rfl rfl ⟨.refl _,rfl, .refl _,rfl, .refl _,rfl, .refl _,rfl, .refl _,rfl, .row (by rw[WQ];rfl),rfl,trivial⟩ (hC rfl rfl rfl ⟨⟨_,rfl, .of_eq rfl⟩,Wj rfl,rfl,⟨⟨_,rfl, .of_eq rfl⟩,Wj rfl,rfl,hR rfl rfl rfl (hR rfl rfl rfl (hC rfl rfl rfl (hR rfl (mU _ _) rfl trivial)))⟩⟩) rfl) ?_
  refine mZ 8 (fun k=>fH ((p.ar.getD i default).types.getD k default)) rfl (ch rfl) (by simp[AF.kX,PV.bm]) ⟨kI _ _ _ _,(by simp[AO.kX,b5,PV.bm]),(by simp[AO.kX,b5,PV.bm]),eI _ _ _ _ _ _,eI _ _ _ _ _ _,kI _ _ _ _,eI _ _ _ _ _ _,trivial⟩ ?_;refine gA rfl ?_;exact⟨h1,trivial,[10],wk rfl rfl rfl ⟨.refl _,rfl, .refl _,rfl, .refl _,rfl, .refl _,rfl,trivial⟩ (hC rfl rfl rfl ⟨⟨_,rfl, .of_eq rfl⟩,Wj rfl,rfl,⟨⟨_,rfl, .of_eq rfl⟩,Wj rfl,rfl,hR rfl rfl rfl (hR rfl (by rw[hts,Wq];simp only[WQ];rfl) rfl trivial)⟩⟩) rfl⟩
 ·have h1:p.ar.length≤i:=by simpa using h1
  have hie:i=p.ar.length:=by omega
  subst hie;rw[WB (Wz _)];refine gA rfl ?_
  refine aK 0 p.rules.length (WC _) (fun i=>⟨[(1, .ptr 0 0),(2, .ptr 1 0),(3, .ptr 2 0),(7,pI i)],[(0,some (aE p.c)),(1,some (.cells [.iv (.v (.slice none 0 0)), .iv (.v (.slice none 0 0))])),(2,some (.cells [.sl 5 0 p.ar.length 4, .sl 6 0 i 5])),(5,some (aD 4 p.ar Decl.c)),(6,some (aD 5 (p.rules.take i) ak.c))],7⟩) (fun _=>True) [4] trivial
   (wk rfl rfl rfl ⟨.refl _,rfl, .refl _,rfl, .refl _,rfl, .refl _,rfl,trivial⟩ (hC rfl rfl rfl ⟨⟨_,rfl, .of_eq rfl⟩,Wj rfl,rfl,⟨⟨_,rfl, .of_eq rfl⟩,Wj rfl,rfl,hR rfl rfl rfl (hR rfl rfl rfl trivial)⟩⟩) rfl) fun i hi _=>?_
  refine gA rfl ?_;refine Wl (fun h2=>?_) (fun h2=>?_)
  ·have h2:i<p.rules.length:=by simpa using h2
   have hlt:(p.rules.take i).length=i:=by rw[Xb];omega
   have hts:=aW (l:=p.rules) h2;have htl:=oz ak.size p.rules i h2;have hrs:(p.rules.getD i default).size=(p.rules.getD i default).head.aq.length+Lit.aC (p.rules.getD i default).body:=rfl;refine gA rfl (aX ae [] (Pure.lS (VX (p.rules.getD i default).head (by omega))) rfl rfl rfl rfl rfl rfl rfl rfl rfl rfl rfl rfl (by(repeat' (first|exact trivial|exact rfl|exact ah.refl _|exact ah.bk (by assumption)|apply Wl))<;>first|omega|(simp only[Wp];omega)|(simp;done)|(simp;omega)) rfl (by(repeat' (first|exact trivial|exact rfl|exact ah.refl _|exact ah.bk (by assumption)|apply Wl))<;>first|omega|(simp only[Wp];omega)|(simp;done)|(simp;omega)) ?_);refine gA rfl (aX ae [] (Pure.lS (c53 (p.rules.getD i default).body (by omega))) rfl rfl rfl rfl rfl rfl rfl rfl rfl rfl rfl rfl (by(repeat' (first|exact trivial|exact rfl|exact ah.refl _|exact ah.bk (by assumption)|apply Wl))<;>first|omega|(simp only[Wp];omega)|(simp;done)|(simp;omega)) rfl (by(repeat' (first|exact trivial|exact rfl|exact ah.refl _|exact ah.bk (by assumption)|apply Wl))<;>first|omega|(simp only[Wp];omega)|(simp;done)|(simp;omega)) ?_);refine gA rfl ?_;exact⟨h2,trivial,[8],wk rfl rfl rfl ⟨.refl _,rfl, .refl _,rfl, .refl _,rfl, .refl _,rfl,trivial⟩ (hC rfl rfl rfl ⟨⟨_,rfl, .of_eq rfl⟩,Wj rfl,rfl,⟨⟨_,rfl, .of_eq rfl⟩,Wj rfl,rfl,hR rfl rfl rfl (hR rfl (by rw[hts,Wq];rfl) rfl trivial)⟩⟩) rfl⟩
  ·have h2:p.rules.length≤i:=by simpa using h2
   have hie:i=p.rules.length:=by omega
   subst hie;rw[WB (Wz _)]
   first
    |refine gM 1 rfl (bU [] (t:=⟨[(1, .ptr 0 0),(2, .ptr 1 0),(3, .ptr 2 0)],[(1,some (.cells [.iv (.v (.slice none 0 0)), .iv (.v (.slice none 0 0))])),(2,some (.cells [.sl 5 0 p.ar.length 4, .sl 6 0 p.rules.length 5])),(5,some (aD 4 p.ar Decl.c)),(6,some (aD 5 p.rules ak.c))],7⟩) (wk rfl rfl rfl ⟨.refl _,rfl, .refl _,rfl, .refl _,rfl,trivial⟩ ⟨⟨_,rfl, .of_eq rfl⟩,Wj rfl,rfl,⟨⟨_,rfl, .of_eq rfl⟩,Wj rfl,rfl,hR rfl rfl rfl (hR rfl rfl rfl trivial)⟩⟩ rfl) ?_)
    |refine gM 2 rfl (bU [] (t:=⟨[(1, .ptr 0 0),(2, .ptr 1 0),(3, .ptr 2 0)],[(1,some (.cells [.iv (.v (.slice none 0 0)), .iv (.v (.slice none 0 0))])),(2,some (.cells [.sl 5 0 p.ar.length 4, .sl 6 0 p.rules.length 5])),(5,some (aD 4 p.ar Decl.c)),(6,some (aD 5 p.rules ak.c))],7⟩) (wk rfl rfl rfl ⟨.refl _,rfl, .refl _,rfl, .refl _,rfl,trivial⟩ ⟨⟨_,rfl, .of_eq rfl⟩,Wj rfl,rfl,⟨⟨_,rfl, .of_eq rfl⟩,Wj rfl,rfl,hR rfl rfl rfl (hR rfl rfl rfl trivial)⟩⟩ rfl) ?_)
    |refine gM 3 rfl (bU [] (t:=⟨[(1, .ptr 0 0),(2, .ptr 1 0),(3, .ptr 2 0)],[(1,some (.cells [.iv (.v (.slice none 0 0)), .iv (.v (.slice none 0 0))])),(2,some (.cells [.sl 5 0 p.ar.length 4, .sl 6 0 p.rules.length 5])),(5,some (aD 4 p.ar Decl.c)),(6,some (aD 5 p.rules ak.c))],7⟩) (wk rfl rfl rfl ⟨.refl _,rfl, .refl _,rfl, .refl _,rfl,trivial⟩ ⟨⟨_,rfl, .of_eq rfl⟩,Wj rfl,rfl,⟨⟨_,rfl, .of_eq rfl⟩,Wj rfl,rfl,hR rfl rfl rfl (hR rfl rfl rfl trivial)⟩⟩ rfl) ?_)
    |refine gM 4 rfl (bU [] (t:=⟨[(1, .ptr 0 0),(2, .ptr 1 0),(3, .ptr 2 0)],[(1,some (.cells [.iv (.v (.slice none 0 0)), .iv (.v (.slice none 0 0))])),(2,some (.cells [.sl 5 0 p.ar.length 4, .sl 6 0 p.rules.length 5])),(5,some (aD 4 p.ar Decl.c)),(6,some (aD 5 p.rules ak.c))],7⟩) (wk rfl rfl rfl ⟨.refl _,rfl, .refl _,rfl, .refl _,rfl,trivial⟩ ⟨⟨_,rfl, .of_eq rfl⟩,Wj rfl,rfl,⟨⟨_,rfl, .of_eq rfl⟩,Wj rfl,rfl,hR rfl rfl rfl (hR rfl rfl rfl trivial)⟩⟩ rfl) ?_)
    |refine gM 5 rfl (bU [] (t:=⟨[(1, .ptr 0 0),(2, .ptr 1 0),(3, .ptr 2 0)],[(1,some (.cells [.iv (.v (.slice none 0 0)), .iv (.v (.slice none 0 0))])),(2,some (.cells [.sl 5 0 p.ar.length 4, .sl 6 0 p.rules.length 5])),(5,some (aD 4 p.ar Decl.c)),(6,some (aD 5 p.rules ak.c))],7⟩) (wk rfl rfl rfl ⟨.refl _,rfl, .refl _,rfl, .refl _,rfl,trivial⟩ ⟨⟨_,rfl, .of_eq rfl⟩,Wj rfl,rfl,⟨⟨_,rfl, .of_eq rfl⟩,Wj rfl,rfl,hR rfl rfl rfl (hR rfl rfl rfl trivial)⟩⟩ rfl) ?_)
    |refine gM 6 rfl (bU [] (t:=⟨[(1, .ptr 0 0),(2, .ptr 1 0),(3, .ptr 2 0)],[(1,some (.cells [.iv (.v (.slice none 0 0)), .iv (.v (.slice none 0 0))])),(2,some (.cells [.sl 5 0 p.ar.length 4, .sl 6 0 p.rules.length 5])),(5,some (aD 4 p.ar Decl.c)),(6,some (aD 5 p.rules ak.c))],7⟩) (wk rfl rfl rfl ⟨.refl _,rfl, .refl _,rfl, .refl _,rfl,trivial⟩ ⟨⟨_,rfl, .of_eq rfl⟩,Wj rfl,rfl,⟨⟨_,rfl, .of_eq rfl⟩,Wj rfl,rfl,hR rfl rfl rfl (hR rfl rfl rfl trivial)⟩⟩ rfl) ?_)
    |refine gM 7 rfl (bU [] (t:=⟨[(1, .ptr 0 0),(2, .ptr 1 0),(3, .ptr 2 0)],[(1,some (.cells [.iv (.v (.slice none 0 0)), .iv (.v (.slice none 0 0))])),(2,some (.cells [.sl 5 0 p.ar.length 4, .sl 6 0 p.rules.length 5])),(5,some (aD 4 p.ar Decl.c)),(6,some (aD 5 p.rules ak.c))],7⟩) (wk rfl rfl rfl ⟨.refl _,rfl, .refl _,rfl, .refl _,rfl,trivial⟩ ⟨⟨_,rfl, .of_eq rfl⟩,Wj rfl,rfl,⟨⟨_,rfl, .of_eq rfl⟩,Wj rfl,rfl,hR rfl rfl rfl (hR rfl rfl rfl trivial)⟩⟩ rfl) ?_)
    |refine gM 8 rfl (bU [] (t:=⟨[(1, .ptr 0 0),(2, .ptr 1 0),(3, .ptr 2 0)],[(1,some (.cells [.iv (.v (.slice none 0 0)), .iv (.v (.slice none 0 0))])),(2,some (.cells [.sl 5 0 p.ar.length 4, .sl 6 0 p.rules.length 5])),(5,some (aD 4 p.ar Decl.c)),(6,some (aD 5 p.rules ak.c))],7⟩) (wk rfl rfl rfl ⟨.refl _,rfl, .refl _,rfl, .refl _,rfl,trivial⟩ ⟨⟨_,rfl, .of_eq rfl⟩,Wj rfl,rfl,⟨⟨_,rfl, .of_eq rfl⟩,Wj rfl,rfl,hR rfl rfl rfl (hR rfl rfl rfl trivial)⟩⟩ rfl) ?_)
    |refine gM 9 rfl (bU [] (t:=⟨[(1, .ptr 0 0),(2, .ptr 1 0),(3, .ptr 2 0)],[(1,some (.cells [.iv (.v (.slice none 0 0)), .iv (.v (.slice none 0 0))])),(2,some (.cells [.sl 5 0 p.ar.length 4, .sl 6 0 p.rules.length 5])),(5,some (aD 4 p.ar Decl.c)),(6,some (aD 5 p.rules ak.c))],7⟩) (wk rfl rfl rfl ⟨.refl _,rfl, .refl _,rfl, .refl _,rfl,trivial⟩ ⟨⟨_,rfl, .of_eq rfl⟩,Wj rfl,rfl,⟨⟨_,rfl, .of_eq rfl⟩,Wj rfl,rfl,hR rfl rfl rfl (hR rfl rfl rfl trivial)⟩⟩ rfl) ?_)
    |refine gM 10 rfl (bU [] (t:=⟨[(1, .ptr 0 0),(2, .ptr 1 0),(3, .ptr 2 0)],[(1,some (.cells [.iv (.v (.slice none 0 0)), .iv (.v (.slice none 0 0))])),(2,some (.cells [.sl 5 0 p.ar.length 4, .sl 6 0 p.rules.length 5])),(5,some (aD 4 p.ar Decl.c)),(6,some (aD 5 p.rules ak.c))],7⟩) (wk rfl rfl rfl ⟨.refl _,rfl, .refl _,rfl, .refl _,rfl,trivial⟩ ⟨⟨_,rfl, .of_eq rfl⟩,Wj rfl,rfl,⟨⟨_,rfl, .of_eq rfl⟩,Wj rfl,rfl,hR rfl rfl rfl (hR rfl rfl rfl trivial)⟩⟩ rfl) ?_)
    |refine gM 11 rfl (bU [] (t:=⟨[(1, .ptr 0 0),(2, .ptr 1 0),(3, .ptr 2 0)],[(1,some (.cells [.iv (.v (.slice none 0 0)), .iv (.v (.slice none 0 0))])),(2,some (.cells [.sl 5 0 p.ar.length 4, .sl 6 0 p.rules.length 5])),(5,some (aD 4 p.ar Decl.c)),(6,some (aD 5 p.rules ak.c))],7⟩) (wk rfl rfl rfl ⟨.refl _,rfl, .refl _,rfl, .refl _,rfl,trivial⟩ ⟨⟨_,rfl, .of_eq rfl⟩,Wj rfl,rfl,⟨⟨_,rfl, .of_eq rfl⟩,Wj rfl,rfl,hR rfl rfl rfl (hR rfl rfl rfl trivial)⟩⟩ rfl) ?_)
    |refine gM 12 rfl (bU [] (t:=⟨[(1, .ptr 0 0),(2, .ptr 1 0),(3, .ptr 2 0)],[(1,some (.cells [.iv (.v (.slice none 0 0)), .iv (.v (.slice none 0 0))])),(2,some (.cells [.sl 5 0 p.ar.length 4, .sl 6 0 p.rules.length 5])),(5,some (aD 4 p.ar Decl.c)),(6,some (aD 5 p.rules ak.c))],7⟩) (wk rfl rfl rfl ⟨.refl _,rfl, .refl _,rfl, .refl _,rfl,trivial⟩ ⟨⟨_,rfl, .of_eq rfl⟩,Wj rfl,rfl,⟨⟨_,rfl, .of_eq rfl⟩,Wj rfl,rfl,hR rfl rfl rfl (hR rfl rfl rfl trivial)⟩⟩ rfl) ?_)
    |refine gM 13 rfl (bU [] (t:=⟨[(1, .ptr 0 0),(2, .ptr 1 0),(3, .ptr 2 0)],[(1,some (.cells [.iv (.v (.slice none 0 0)), .iv (.v (.slice none 0 0))])),(2,some (.cells [.sl 5 0 p.ar.length 4, .sl 6 0 p.rules.length 5])),(5,some (aD 4 p.ar Decl.c)),(6,some (aD 5 p.rules ak.c))],7⟩) (wk rfl rfl rfl ⟨.refl _,rfl, .refl _,rfl, .refl _,rfl,trivial⟩ ⟨⟨_,rfl, .of_eq rfl⟩,Wj rfl,rfl,⟨⟨_,rfl, .of_eq rfl⟩,Wj rfl,rfl,hR rfl rfl rfl (hR rfl rfl rfl trivial)⟩⟩ rfl) ?_)
    |refine gM 14 rfl (bU [] (t:=⟨[(1, .ptr 0 0),(2, .ptr 1 0),(3, .ptr 2 0)],[(1,some (.cells [.iv (.v (.slice none 0 0)), .iv (.v (.slice none 0 0))])),(2,some (.cells [.sl 5 0 p.ar.length 4, .sl 6 0 p.rules.length 5])),(5,some (aD 4 p.ar Decl.c)),(6,some (aD 5 p.rules ak.c))],7⟩) (wk rfl rfl rfl ⟨.refl _,rfl, .refl _,rfl, .refl _,rfl,trivial⟩ ⟨⟨_,rfl, .of_eq rfl⟩,Wj rfl,rfl,⟨⟨_,rfl, .of_eq rfl⟩,Wj rfl,rfl,hR rfl rfl rfl (hR rfl rfl rfl trivial)⟩⟩ rfl) ?_)
    |refine gM 15 rfl (bU [] (t:=⟨[(1, .ptr 0 0),(2, .ptr 1 0),(3, .ptr 2 0)],[(1,some (.cells [.iv (.v (.slice none 0 0)), .iv (.v (.slice none 0 0))])),(2,some (.cells [.sl 5 0 p.ar.length 4, .sl 6 0 p.rules.length 5])),(5,some (aD 4 p.ar Decl.c)),(6,some (aD 5 p.rules ak.c))],7⟩) (wk rfl rfl rfl ⟨.refl _,rfl, .refl _,rfl, .refl _,rfl,trivial⟩ ⟨⟨_,rfl, .of_eq rfl⟩,Wj rfl,rfl,⟨⟨_,rfl, .of_eq rfl⟩,Wj rfl,rfl,hR rfl rfl rfl (hR rfl rfl rfl trivial)⟩⟩ rfl) ?_)
    |refine gM 16 rfl (bU [] (t:=⟨[(1, .ptr 0 0),(2, .ptr 1 0),(3, .ptr 2 0)],[(1,some (.cells [.iv (.v (.slice none 0 0)), .iv (.v (.slice none 0 0))])),(2,some (.cells [.sl 5 0 p.ar.length 4, .sl 6 0 p.rules.length 5])),(5,some (aD 4 p.ar Decl.c)),(6,some (aD 5 p.rules ak.c))],7⟩) (wk rfl rfl rfl ⟨.refl _,rfl, .refl _,rfl, .refl _,rfl,trivial⟩ ⟨⟨_,rfl, .of_eq rfl⟩,Wj rfl,rfl,⟨⟨_,rfl, .of_eq rfl⟩,Wj rfl,rfl,hR rfl rfl rfl (hR rfl rfl rfl trivial)⟩⟩ rfl) ?_)
    |refine gM 17 rfl (bU [] (t:=⟨[(1, .ptr 0 0),(2, .ptr 1 0),(3, .ptr 2 0)],[(1,some (.cells [.iv (.v (.slice none 0 0)), .iv (.v (.slice none 0 0))])),(2,some (.cells [.sl 5 0 p.ar.length 4, .sl 6 0 p.rules.length 5])),(5,some (aD 4 p.ar Decl.c)),(6,some (aD 5 p.rules ak.c))],7⟩) (wk rfl rfl rfl ⟨.refl _,rfl, .refl _,rfl, .refl _,rfl,trivial⟩ ⟨⟨_,rfl, .of_eq rfl⟩,Wj rfl,rfl,⟨⟨_,rfl, .of_eq rfl⟩,Wj rfl,rfl,hR rfl rfl rfl (hR rfl rfl rfl trivial)⟩⟩ rfl) ?_)
    |refine gM 18 rfl (bU [] (t:=⟨[(1, .ptr 0 0),(2, .ptr 1 0),(3, .ptr 2 0)],[(1,some (.cells [.iv (.v (.slice none 0 0)), .iv (.v (.slice none 0 0))])),(2,some (.cells [.sl 5 0 p.ar.length 4, .sl 6 0 p.rules.length 5])),(5,some (aD 4 p.ar Decl.c)),(6,some (aD 5 p.rules ak.c))],7⟩) (wk rfl rfl rfl ⟨.refl _,rfl, .refl _,rfl, .refl _,rfl,trivial⟩ ⟨⟨_,rfl, .of_eq rfl⟩,Wj rfl,rfl,⟨⟨_,rfl, .of_eq rfl⟩,Wj rfl,rfl,hR rfl rfl rfl (hR rfl rfl rfl trivial)⟩⟩ rfl) ?_)
    |refine gM 19 rfl (bU [] (t:=⟨[(1, .ptr 0 0),(2, .ptr 1 0),(3, .ptr 2 0)],[(1,some (.cells [.iv (.v (.slice none 0 0)), .iv (.v (.slice none 0 0))])),(2,some (.cells [.sl 5 0 p.ar.length 4, .sl 6 0 p.rules.length 5])),(5,some (aD 4 p.ar Decl.c)),(6,some (aD 5 p.rules ak.c))],7⟩) (wk rfl rfl rfl ⟨.refl _,rfl, .refl _,rfl, .refl _,rfl,trivial⟩ ⟨⟨_,rfl, .of_eq rfl⟩,Wj rfl,rfl,⟨⟨_,rfl, .of_eq rfl⟩,Wj rfl,rfl,hR rfl rfl rfl (hR rfl rfl rfl trivial)⟩⟩ rfl) ?_)
    |refine gM 20 rfl (bU [] (t:=⟨[(1, .ptr 0 0),(2, .ptr 1 0),(3, .ptr 2 0)],[(1,some (.cells [.iv (.v (.slice none 0 0)), .iv (.v (.slice none 0 0))])),(2,some (.cells [.sl 5 0 p.ar.length 4, .sl 6 0 p.rules.length 5])),(5,some (aD 4 p.ar Decl.c)),(6,some (aD 5 p.rules ak.c))],7⟩) (wk rfl rfl rfl ⟨.refl _,rfl, .refl _,rfl, .refl _,rfl,trivial⟩ ⟨⟨_,rfl, .of_eq rfl⟩,Wj rfl,rfl,⟨⟨_,rfl, .of_eq rfl⟩,Wj rfl,rfl,hR rfl rfl rfl (hR rfl rfl rfl trivial)⟩⟩ rfl) ?_)
    |refine gM 21 rfl (bU [] (t:=⟨[(1, .ptr 0 0),(2, .ptr 1 0),(3, .ptr 2 0)],[(1,some (.cells [.iv (.v (.slice none 0 0)), .iv (.v (.slice none 0 0))])),(2,some (.cells [.sl 5 0 p.ar.length 4, .sl 6 0 p.rules.length 5])),(5,some (aD 4 p.ar Decl.c)),(6,some (aD 5 p.rules ak.c))],7⟩) (wk rfl rfl rfl ⟨.refl _,rfl, .refl _,rfl, .refl _,rfl,trivial⟩ ⟨⟨_,rfl, .of_eq rfl⟩,Wj rfl,rfl,⟨⟨_,rfl, .of_eq rfl⟩,Wj rfl,rfl,hR rfl rfl rfl (hR rfl rfl rfl trivial)⟩⟩ rfl) ?_)
    |refine gM 22 rfl (bU [] (t:=⟨[(1, .ptr 0 0),(2, .ptr 1 0),(3, .ptr 2 0)],[(1,some (.cells [.iv (.v (.slice none 0 0)), .iv (.v (.slice none 0 0))])),(2,some (.cells [.sl 5 0 p.ar.length 4, .sl 6 0 p.rules.length 5])),(5,some (aD 4 p.ar Decl.c)),(6,some (aD 5 p.rules ak.c))],7⟩) (wk rfl rfl rfl ⟨.refl _,rfl, .refl _,rfl, .refl _,rfl,trivial⟩ ⟨⟨_,rfl, .of_eq rfl⟩,Wj rfl,rfl,⟨⟨_,rfl, .of_eq rfl⟩,Wj rfl,rfl,hR rfl rfl rfl (hR rfl rfl rfl trivial)⟩⟩ rfl) ?_)
    |refine gM 23 rfl (bU [] (t:=⟨[(1, .ptr 0 0),(2, .ptr 1 0),(3, .ptr 2 0)],[(1,some (.cells [.iv (.v (.slice none 0 0)), .iv (.v (.slice none 0 0))])),(2,some (.cells [.sl 5 0 p.ar.length 4, .sl 6 0 p.rules.length 5])),(5,some (aD 4 p.ar Decl.c)),(6,some (aD 5 p.rules ak.c))],7⟩) (wk rfl rfl rfl ⟨.refl _,rfl, .refl _,rfl, .refl _,rfl,trivial⟩ ⟨⟨_,rfl, .of_eq rfl⟩,Wj rfl,rfl,⟨⟨_,rfl, .of_eq rfl⟩,Wj rfl,rfl,hR rfl rfl rfl (hR rfl rfl rfl trivial)⟩⟩ rfl) ?_)
    |refine gM 24 rfl (bU [] (t:=⟨[(1, .ptr 0 0),(2, .ptr 1 0),(3, .ptr 2 0)],[(1,some (.cells [.iv (.v (.slice none 0 0)), .iv (.v (.slice none 0 0))])),(2,some (.cells [.sl 5 0 p.ar.length 4, .sl 6 0 p.rules.length 5])),(5,some (aD 4 p.ar Decl.c)),(6,some (aD 5 p.rules ak.c))],7⟩) (wk rfl rfl rfl ⟨.refl _,rfl, .refl _,rfl, .refl _,rfl,trivial⟩ ⟨⟨_,rfl, .of_eq rfl⟩,Wj rfl,rfl,⟨⟨_,rfl, .of_eq rfl⟩,Wj rfl,rfl,hR rfl rfl rfl (hR rfl rfl rfl trivial)⟩⟩ rfl) ?_)
    |refine gM 25 rfl (bU [] (t:=⟨[(1, .ptr 0 0),(2, .ptr 1 0),(3, .ptr 2 0)],[(1,some (.cells [.iv (.v (.slice none 0 0)), .iv (.v (.slice none 0 0))])),(2,some (.cells [.sl 5 0 p.ar.length 4, .sl 6 0 p.rules.length 5])),(5,some (aD 4 p.ar Decl.c)),(6,some (aD 5 p.rules ak.c))],7⟩) (wk rfl rfl rfl ⟨.refl _,rfl, .refl _,rfl, .refl _,rfl,trivial⟩ ⟨⟨_,rfl, .of_eq rfl⟩,Wj rfl,rfl,⟨⟨_,rfl, .of_eq rfl⟩,Wj rfl,rfl,hR rfl rfl rfl (hR rfl rfl rfl trivial)⟩⟩ rfl) ?_)
    |refine gM 26 rfl (bU [] (t:=⟨[(1, .ptr 0 0),(2, .ptr 1 0),(3, .ptr 2 0)],[(1,some (.cells [.iv (.v (.slice none 0 0)), .iv (.v (.slice none 0 0))])),(2,some (.cells [.sl 5 0 p.ar.length 4, .sl 6 0 p.rules.length 5])),(5,some (aD 4 p.ar Decl.c)),(6,some (aD 5 p.rules ak.c))],7⟩) (wk rfl rfl rfl ⟨.refl _,rfl, .refl _,rfl, .refl _,rfl,trivial⟩ ⟨⟨_,rfl, .of_eq rfl⟩,Wj rfl,rfl,⟨⟨_,rfl, .of_eq rfl⟩,Wj rfl,rfl,hR rfl rfl rfl (hR rfl rfl rfl trivial)⟩⟩ rfl) ?_)
    |refine gM 27 rfl (bU [] (t:=⟨[(1, .ptr 0 0),(2, .ptr 1 0),(3, .ptr 2 0)],[(1,some (.cells [.iv (.v (.slice none 0 0)), .iv (.v (.slice none 0 0))])),(2,some (.cells [.sl 5 0 p.ar.length 4, .sl 6 0 p.rules.length 5])),(5,some (aD 4 p.ar Decl.c)),(6,some (aD 5 p.rules ak.c))],7⟩) (wk rfl rfl rfl ⟨.refl _,rfl, .refl _,rfl, .refl _,rfl,trivial⟩ ⟨⟨_,rfl, .of_eq rfl⟩,Wj rfl,rfl,⟨⟨_,rfl, .of_eq rfl⟩,Wj rfl,rfl,hR rfl rfl rfl (hR rfl rfl rfl trivial)⟩⟩ rfl) ?_)
    |refine gM 28 rfl (bU [] (t:=⟨[(1, .ptr 0 0),(2, .ptr 1 0),(3, .ptr 2 0)],[(1,some (.cells [.iv (.v (.slice none 0 0)), .iv (.v (.slice none 0 0))])),(2,some (.cells [.sl 5 0 p.ar.length 4, .sl 6 0 p.rules.length 5])),(5,some (aD 4 p.ar Decl.c)),(6,some (aD 5 p.rules ak.c))],7⟩) (wk rfl rfl rfl ⟨.refl _,rfl, .refl _,rfl, .refl _,rfl,trivial⟩ ⟨⟨_,rfl, .of_eq rfl⟩,Wj rfl,rfl,⟨⟨_,rfl, .of_eq rfl⟩,Wj rfl,rfl,hR rfl rfl rfl (hR rfl rfl rfl trivial)⟩⟩ rfl) ?_)
    |refine gM 29 rfl (bU [] (t:=⟨[(1, .ptr 0 0),(2, .ptr 1 0),(3, .ptr 2 0)],[(1,some (.cells [.iv (.v (.slice none 0 0)), .iv (.v (.slice none 0 0))])),(2,some (.cells [.sl 5 0 p.ar.length 4, .sl 6 0 p.rules.length 5])),(5,some (aD 4 p.ar Decl.c)),(6,some (aD 5 p.rules ak.c))],7⟩) (wk rfl rfl rfl ⟨.refl _,rfl, .refl _,rfl, .refl _,rfl,trivial⟩ ⟨⟨_,rfl, .of_eq rfl⟩,Wj rfl,rfl,⟨⟨_,rfl, .of_eq rfl⟩,Wj rfl,rfl,hR rfl rfl rfl (hR rfl rfl rfl trivial)⟩⟩ rfl) ?_)
   refine mZ 5 (fun k=>Decl.c (p.ar.getD k default)) rfl (ch rfl) (by simp[AF.kX,PV.bm]) ⟨(by simp[AO.kX,b5,PV.bm]),(by simp[AO.kX,b5,PV.bm]),eI _ _ _ _ _ _,eI _ _ _ _ _ _,trivial⟩ ?_;refine gA rfl (az [6] (by first|exact .inr rfl|exact .inl rfl) rfl (wk rfl rfl rfl ⟨.agg ⟨by simp only[WQ];exact .refl _, .refl _,trivial⟩,rfl,trivial⟩ (hR rfl rfl rfl trivial) rfl))
theorem sk {c:Int} {n:Nat} (hn:0<n):0≤dN c n∧dN c n<n:=by
 unfold dN;exact zG (by split<;>omega) (by omega)
theorem UD (p:Prog) (hb:p.size≤100000000000):Pure Tryz.prog 12 [ag p.c] (ag p.c):=c14 p hb
theorem RP {L:List ak} {i:Nat} {c:Int} (hi:i<L.length):(Int.tmod ((i:Int)+dN c L.length) L.length).toNat=(i+(dN c L.length).toNat) % L.length:=by
 obtain⟨h1,h2⟩:=sk (c:=c) (n:=L.length) (by omega);have e:(i:Int)+dN c L.length=((i+(dN c L.length).toNat:Nat):Int):=by omega
 rw[e,Int.tmod_eq_emod_of_nonneg (Int.natCast_nonneg _),←Int.natCast_emod,Wp]
theorem Ju (p:Prog) (c:Int) (hb:p.size≤10000000) (h1: -9223372036854775808≤c) (h2:c≤9223372036854775807):Pure Tryz.prog 32 [ag p.c,pI c] (ag (⟨p.ar,iY p.rules (dN c p.rules.length).toNat⟩:Prog).c):=by
 have hn:p.rules.length≤10000000:=by unfold Prog.size at hb;omega
 refine ax ae Tryz.func32 rfl (by decide) Tryz.ntmps32 rfl (by simp) rfl ?_;refine gA rfl (aN [] (CZ p (by omega)) rfl rfl rfl rfl rfl rfl rfl rfl ?_);refine gA rfl ?_
 refine aK 0 p.rules.length (WC _) (fun i=>⟨[(1,pI c),(2, .ptr 0 0),(4, .ptr 1 0),(5, .ptr 3 0),(6,pI i)],[(0,some (aE p.c)),(1,some (.cells [.iv (.v (.slice none 0 0)), .iv (.v (.slice none 0 0))])),(3,some (.cells [.iv (cM 4 p.ar Decl.c), .sl 2 0 p.rules.length 5])),(2,some (aD 5 (rb p.rules (dN c p.rules.length).toNat i) ak.c))],4⟩) (fun _=>True) [] trivial
  (wk rfl rfl rfl ⟨.refl _,rfl, .refl _,rfl, .refl _,rfl, .refl _,rfl, .refl _,rfl,trivial⟩ (hC rfl rfl rfl ⟨⟨_,rfl, .of_eq rfl⟩,Wj rfl,rfl,⟨_,rfl, .of_eq rfl⟩,Wj rfl,rfl,hR rfl (by rw[Bm,List.map_map];exact List.map_congr_left fun x _=>oJ _ _) rfl trivial⟩) rfl) fun i hi _=>?_
 refine gA rfl ?_;refine Wl (fun g1=>?_) (fun g1=>?_)
 ·have g1:i<p.rules.length:=by simpa using g1
  have hin:=sk (c:=c) (n:=p.rules.length) (by omega);refine gA rfl (aX ae [] (Pure.lS (UD p (by omega))) rfl rfl rfl rfl rfl rfl rfl rfl rfl rfl rfl rfl (by(repeat' (first|exact trivial|exact rfl|exact ah.refl _|exact ah.bk (by assumption)|apply Wl))<;>first|omega|(simp only[Wp];omega)|(simp;done)|(simp;omega)) rfl (by(repeat' (first|exact trivial|exact rfl|exact ah.refl _|exact ah.bk (by assumption)|apply Wl))<;>first|omega|(simp only[Wp];omega)|(simp;done)|(simp;omega)) ?_);refine gA rfl (aX ae [] (Pure.lS (Pq c p.rules.length h1 h2 (by omega) (by omega))) rfl rfl rfl rfl rfl rfl rfl rfl rfl rfl rfl rfl (by(repeat' (first|exact trivial|exact rfl|exact ah.refl _|exact ah.bk (by assumption)|apply Wl))<;>first|omega|(simp only[Wp];omega)|(simp;done)|(simp;omega)) rfl (by(repeat' (first|exact trivial|exact rfl|exact ah.refl _|exact ah.bk (by assumption)|apply Wl))<;>first|omega|(simp only[Wp];omega)|(simp;done)|(simp;omega)) ?_);have hrl:=dx p.rules (dN c p.rules.length).toNat i;have hra:=RP (c:=c) g1;have hmod:=zG (a:=(i:Int)+dN c p.rules.length) (n:=p.rules.length) (by omega) (by omega);have hset:=C7 p.rules (dN c p.rules.length).toNat g1;refine gA rfl (lD ae rfl rfl rfl rfl rfl (by first|trivial|(repeat' apply Wl)<;>trivial) (yx ae rfl rfl (i:=2) (sz:=5) (q:=0+i) rfl rfl rfl rfl (by simp;omega) rfl rfl rfl) rfl (by first|trivial|(repeat' apply Wl)<;>trivial) ?_);refine gA rfl ?_
  exact⟨g1,trivial,[],wk rfl rfl rfl ⟨.refl _,rfl, .refl _,rfl, .refl _,rfl, .refl _,rfl, .refl _,rfl,trivial⟩ (hC rfl rfl rfl ⟨⟨_,rfl, .of_eq rfl⟩,Wj rfl,rfl,⟨_,rfl, .of_eq rfl⟩,Wj rfl,rfl,hR rfl (by
   rw[←hset,←hra,WQ,YY];rfl) rfl trivial⟩) rfl⟩
 ·have g1:p.rules.length≤i:=by simpa using g1
  have hie:i=p.rules.length:=by omega
  subst hie;refine gA rfl (gP (.inr rfl) rfl (fB.sa 2 (iY p.rules (dN c p.rules.length).toNat) ak.c rfl rfl (by simp[PV.bm,b5,iY,dx]) (.done ?_)));simp only[PV.cZ,mv,WQ];have:(iY p.rules (dN c p.rules.length).toNat).length=p.rules.length:=dx _ _ _;simp only[show WO 2 2=true from rfl,cond_true];have e:cM 5 (iY p.rules (dN c p.rules.length).toNat) ak.c= .cz 5 p.rules.length fun k=>ak.c ((iY p.rules (dN c p.rules.length).toNat).getD k default):=by unfold cM;rw[this]
  show ah _ (.agg [.iv (cM 4 p.ar Decl.c), .iv (cM 5 (iY p.rules (dN c p.rules.length).toNat) ak.c)]);rw[e];exact .refl _
end Go.Proofs.YtflegjieadkonaaGreatDoor
namespace Go.Proofs.YtflegjieadkonaaGreatDoor
open Go Go.Al
set_option maxRecDepth 10000
section
variable {p:Prog}
theorem B3 (hf:kf p):(cA p).length≤64∧ ∀r∈cA p,r.length≤64:=by
 have h4:=ma hf;have h3:=lC (n:=(ns p).length) (F:=Go.Co.fO (ns p).length (gi p)) (K:=Go.Co.cls (gi p)) (ns p).length (fun _=>false);constructor
 ·rw[po,W3];exact WV h3.1 h4
 ·intro r hr
  rw[po] at hr;obtain⟨c,hc,rfl⟩:=W4.1 hr;rw[W3];exact WV (h3.2 c hc) h4
end
end Go.Proofs.YtflegjieadkonaaGreatDoor
namespace Go.Al
section
variable {P:Program} {ty:Ty} {nt:Nat} {s:AS}
theorem CK {o:Oper} {p:PV} {s':AS} (hp:putDst nt o p s=some s') (h: ∀M N a w,Fits M N s nt a w→ ∃x,(execOp a.eval o).run P w= .ok (.value x) w∧VR M N (· <s.nx) p x):
  (s'.h=s.h∧s'.nx=s.nx)∧ ∀M N a w,Fits M N s nt a w→ ∃x,(execOp a.eval o).run P w= .ok (.value x) w∧Fits M N s' nt (a.put o.dst x) w:=by
 cases hd:o.dst with
 |none=>
  have:=dM hp hd;subst this
  exact⟨⟨rfl,rfl⟩,fun M N a w hf=>let ⟨x,hx,_⟩:=h M N a w hf;⟨x,hx,hf⟩⟩
 |some d=>
  obtain⟨h1,rfl⟩:=dL hp hd;exact⟨⟨rfl,rfl⟩,fun M N a w hf=>let ⟨x,hx,hv⟩:=h M N a w hf;⟨x,hx,hf.put d p x h1 hv⟩⟩
theorem p7 {Q:AQ} {k:List KI} {all:List Oper} {todo pend:List (Nat×Oper)} {o:Oper} {s':AS} {p:PV} (i:Nat) (hin:todo.find? (fun x=>WO x.1 i)=some (i,o)) (hna:aO o=false) (hwa:todo.all (fun x=>!waits o x.1)=true) (hg:ck nt all s.f o=some true) (hadd:tw all pend o=true)
  (hp:putDst nt o p s=some s') (hv: ∀M N a w,Fits M N s nt a w→ ∃x,(execOp a.eval o).run P w= .ok (.value x) w∧VR M N (· <s.nx) p x)
  (h:GO P nt (.cv all (todo.filter fun x=>!WO x.1 i) ((i,o)::pend)::k) Q s'):GO P nt (.cv all todo pend::k) Q s:=
 have g:=CK hp hv
 sT (Yn hin) hna (fun x hx=>by simpa using WX.1 hwa x hx) hg hadd g.1 g.2 h
theorem rB (hty:bE P ty) {o:Oper} {t u:TypeId} {x lo:Operand} (ho:o.op= .slice t x (some lo) none none) {e eu:aB} (ht:ty t=some e) (hk:e.k= .ai (.slice u)) (hu:ty u=some eu)
  {i n m sz:Nat} {kc:IntKind} {mi:Int} (hsz:eu.size=sz) (hx:ev s.f x= .sl i 0 n sz) (hl:ev s.f lo= .iv (.v (.int kc mi))) (hmi:mi=(m:Int)) (hmn:m≤n) (hn:0<n)
  {p:PV} (hpm:(m=n∧ ∃el,p= .iv (.cz sz 0 el))∨(m<n∧p= .sl i m (n-m) sz)): ∀M N a w,Fits M N s nt a w→ ∃x,(execOp a.eval o).run P w= .ok (.value x) w∧VR M N (· <s.nx) p x:=by
 intro M N a w hf;subst hmi hsz
 have hut:P.underlying t=some (.slice u):=by
  have:=(hty t _ ht).2.1;rw[hk] at this;exact this.1
 have hel:P.elem t=u:=by simp[Program.elem,hut]
 have hvx:=aS hf.2.1 x;rw[hx] at hvx;generalize hv:a.eval x=vx at hvx
 cases hvx with
 |lQ=>omega
 |sl _ _ _ _ cap hU h0 hlc hc hext=>
  have hrun:=run_slice_l (P:=P) (w:=w) t (some ⟨N.aG i,0*eu.size,none⟩) n cap (by rw[hel];exact hut) kc (m:Int) (by omega) (by omega);rw[hel,bw (hty u _ hu)] at hrun;refine⟨sliced (some ⟨N.aG i,0*eu.size,none⟩) m n cap eu.size,?_,?_⟩
  ·simp only[execOp,ho,hv,Xy,YN,oc hf hl]
   refine bc ?_;rw[run_sliceAt_slice w t _ _ _ _ (by rw[hel];exact hut),hrun];rfl
  ·rcases hpm with⟨rfl,el,rfl⟩|⟨hm,rfl⟩
   ·unfold sliced
    rw[Nat.sub_self];exact .iv _ _ (.gp _ _ _ _)
   ·unfold sliced
    rw[if_neg (by omega),Xy,X0,dZ,WQ];refine VR.sl i m (n-m) eu.size (cap-m) hU (by omega) (by omega) (by omega) ?_;rw[←hext];congr 1;omega
theorem AG (hty:bE P ty) {o:Oper} {t u:TypeId} {x hi:Operand} (ho:o.op= .slice t x none (some hi) none) {e eu:aB} (ht:ty t=some e) (hk:e.k= .ai (.slice u)) (hu:ty u=some eu)
  {i n m sz:Nat} {kc:IntKind} {mi:Int} (hx:ev s.f x= .sl i 0 n sz) (hh:ev s.f hi= .iv (.v (.int kc mi))) (hmi:mi=(m:Int)) (hmn:m≤n) (hn:0<n)
  {p:PV} (hpm:(m=0∧p= .sl i 1 0 sz)∨(0<m∧p= .sl i 0 m sz)): ∀M N a w,Fits M N s nt a w→ ∃x,(execOp a.eval o).run P w= .ok (.value x) w∧VR M N (· <s.nx) p x:=by
 intro M N a w hf;subst hmi
 have hut:P.underlying t=some (.slice u):=by
  have:=(hty t _ ht).2.1;rw[hk] at this;exact this.1
 have hel:P.elem t=u:=by simp[Program.elem,hut]
 have hvx:=aS hf.2.1 x;rw[hx] at hvx;generalize hv:a.eval x=vx at hvx
 cases hvx with
 |lQ=>omega
 |sl _ _ _ _ cap hU h0 hl hc hext=>
  have hrun:=run_slice_h (P:=P) (w:=w) t (some ⟨N.aG i,0*sz,none⟩) n cap (by rw[hel];exact hut) kc (m:Int) (by omega) (by omega);rw[hel,bw (hty u _ hu)] at hrun;refine⟨sliced (some ⟨N.aG i,0*sz,none⟩) 0 m cap eu.size,?_,?_⟩
  ·simp only[execOp,ho,hv,Xy,YN,oc hf hh]
   refine bc ?_;rw[run_sliceAt_slice w t _ _ _ _ (by rw[hel];exact hut),hrun];rfl
  ·rcases hpm with⟨rfl,rfl⟩|⟨hm,rfl⟩
   ·have:=VR.sle (M:=M) (N:=N) (U:=(· <s.nx)) i sz cap hU hc (by rw[←hext,WQ])
    simpa[sliced,Addr.add] using this
   ·have:=VR.sl (M:=M) (N:=N) (U:=(· <s.nx)) i 0 m sz cap hU hm (by omega) hc hext
    simpa[sliced,Addr.add] using this
theorem AR (hty:bE P ty) {o:Oper} {x y:Operand} {t u:TypeId} (ho:o.op= .call ⟨.builtin .append, #[x,y], #[t,t]⟩) {e eu:aB} (ht:ty t=some e) (hk:e.k= .ai (.slice u)) (hu:ty u=some eu)
  {i len sz:Nat} {es news:List (List PV)} {py:PV} (hx:ev s.f x= .sl i 0 len sz) (hi:s.h.get i=some (.row sz es)) (hsz:eu.size=sz) (hlen:0<len) (hroom:len+news.length≤es.length)
  (hpy:ev s.f y=py) (hy:Src s.h sz py news) (hone: ∀e∈news,fv e=true)
  {s':AS} (hp:putDst nt o (.sl s.nx 0 (len+news.length) sz) (ot s i sz (es.take len) news)=some s'):OT P nt o s (fun t=>t=s'):=by
 refine OT.value hp fun M N a w hf=>?_;subst hsz;obtain⟨⟨ii,hii,his,hib,hiz⟩,_⟩:=hty u _ hu
 have hut:P.underlying t=some (.slice u):=by
  have:=(hty t _ ht).2.1;rw[hk] at this;exact this.1
 have hvx:=aS hf.2.1 x;rw[hx] at hvx;have hvy:=aS hf.2.1 y;rw[hpy] at hvy;obtain⟨hnl,ao,c,hyv,hycells⟩:=hy.ok hf hvy
 have hexec: ∀v w',(Builtin.append_ #[t,t] o.type #[a.eval x,a.eval y]).run P w= .ok v w'→(execOp a.eval o).run P w= .ok (.value v) w':=by
  intro v w' h;simp only[execOp,ho,resolve];simp[invoke,builtin,h]
 rw[hyv] at hexec
 have hreal:(AO.row eu.size es).real=true:=by cases es with
  |nil=>exact absurd hroom (by simp only[X4];omega)
  |cons=>rfl
 rcases hf.1.obj i _ hi with rfl|⟨hsz0,cur,T,q1,q2,q3,q4,q5⟩
 ·cases hreal
 generalize a.eval x=vx at hvx hexec
 cases hvx with
 |lQ=>omega
 |sl _ _ _ _ cap hU h0 hl hc hext=>
  rw[X0] at hexec;rw[WQ] at hext;have hcur:cur.size=cap*eu.size:=by rw[q2,←hext]
  have hesc:es.length≤cap:=by
   have:es.length*eu.size≤cap*eu.size:=by rw[←hcur];exact q3
   exact Nat.le_of_mul_le_mul_right this hsz0
  have hroom2:len+news.length≤cap:=by omega
  have htl:(es.take len).length=len:=by rw[Xb];omega
  have htk: ∀(k:Nat) (e:List PV),(es.take len)[k]? =some e→k<len∧es[k]? =some e:=by
   intro k e he;rw[W7] at he;split at he
   ·exact⟨by assumption,he⟩
   ·cases he
  by_cases hm:news=[]
  ·subst hm
   have hrun:=fC (P:=P) (w:=w) t o.type u ii hut hii (some ⟨N.aG i,0,none⟩) len cap hl ao c (.inr ⟨_,_,rfl⟩)
   obtain⟨h1,h2⟩:=hf.1.move hi hreal w (.row eu.size (es.take len++ [])) rfl rfl rfl rfl (fun _ _=>rfl) (by
    rw[Xo]
    exact .inr ⟨hsz0,cur,T,by simpa using q1,by simpa using q2,WV (WR _ (by rw[htl];omega)) q3,fun k e he=>q4 k e (htk k e he).2,fun k e j p he hj=>(q5 k e j p (htk k e he).2 hj).mono (.refl _) (N.cW _ _ _) (fun i hi=>by omega)⟩)
   obtain⟨g1,g2⟩:=jC (es:=es.take len) (news:=[]) (i:=i) hf h1 h2;refine⟨_,w,M,_,hexec _ _ hrun,g1,g2,?_⟩;have:=VR.sl (M:=M) (N:=N.with s.nx (N.aG i) (N.ext i)) (U:=(· <s.nx+1)) s.nx 0 len eu.size cap (by omega) h0 hl hc (by simpa using hext);rw[gQ];simpa using this
  ·obtain⟨b,off,hao,hcells⟩:=hycells hm
   subst hao;obtain⟨vs,hvl,hvc,hvr⟩:=rn (s:=s) hcells;have hvl2:vs.length=news.length*eu.size:=by rw[hvl,kL hnl]
   have hfit:len*eu.size+vs.length≤cur.size:=by rw[hvl2,←Xw,hcur];exact WR _ hroom2
   have hvone: ∀v∈vs,v.oneCell'=true:=by
    intro v hv;obtain⟨j,hj⟩:=W6 hv;have hjl:j<news.flatten.length:=by rw[←hvl];exact(Wr.1 hj).1
    have hp:=Wt hjl;obtain⟨k,e,i',h1,h2,_⟩:=kM hnl j _ hp;have:=(hvr j _ hp).one (iP (hone e (WY h1)) i' _ h2);rw[Ws,hj] at this;exact this
   have hrun:=gy (P:=P) (w:=w) t o.type u ii hut hii T (N.aG i) len cap cur q1 ⟨b,off,none⟩ news.length c vs (by rw[hvl2,his]) hvc hvone hroom2 (by rw[his];exact hfit);rw[his] at hrun;generalize hL:(cur.toList.take (len*eu.size)++vs++cur.toList.drop (len*eu.size+vs.length)).toArray=L at hrun;have hLs:L.size=cur.size:=by rw[←hL];simp;omega
   have hrow:=setRow_heap w (N.aG i) cur L T (0,0) q1
   have hLo: ∀j,j<len*eu.size→L.getD j undef=cur.getD j undef:=by
    intro j hj;rw[←hL,Wm,Wm];simp only[Xv];rw[Wv,WH (by simp;omega),W7,if_pos hj,Xh]
   have hLn: ∀j,j<vs.length→L.getD (len*eu.size+j) undef=vs.getD j undef:=by
    intro j hj;rw[←hL,Wm,Ws];simp only[Xv];rw[WH (by simp;omega),WJ (by simp;omega)];congr 2;simp;omega
   have holdr: ∀(k:Nat) (e:List PV) (j:Nat) (p:PV),k<len→es[k]? =some e→e[j]? =some p→k*eu.size+j<len*eu.size:=by
    intro k e j p hk he hj;have hj':j<eu.size:=by rw[←q4 k e he];exact(Wr.1 hj).1
    have:(k+1)*eu.size≤len*eu.size:=WR _ hk;rw[Xw] at this;omega
   obtain⟨h1,h2⟩:=hf.1.move hi hreal (w.setRow (N.aG i) L) (.row eu.size (es.take len++news)) rfl rfl rfl (by simp) (fun b hb=>by
     simp only[World.setRow,W8]
     rw[if_neg (fun e=>hb e.symm)]) (by
    refine .inr ⟨hsz0,L,T,by simpa using hrow,by rw[hLs];simpa using q2,?_,fun k e he=>?_,fun k e j p he hj=>?_⟩
    ·rw[hLs,hcur,Wn,htl];exact WR _ hroom2
    ·rcases W9 k (es.take len).length with hk|hk
     ·rw[WH hk] at he;exact q4 k e (htk k e he).2
     ·rw[WJ hk] at he;exact hnl _ e he
    ·rcases W9 k (es.take len).length with hk|hk
     ·rw[WH hk] at he
      obtain⟨hk1,he1⟩:=htk k e he;rw[hLo _ (holdr k e j p hk1 he1 hj)];exact(q5 k e j p he1 hj).mono (.refl _) (N.cW _ _ _) (fun i hi=>by omega)
     ·rw[WJ hk,htl] at he
      rw[htl] at hk;have hj':j<eu.size:=by rw[←hnl _ e he];exact(Wr.1 hj).1
      have hk2:k-len<news.length:=(Wr.1 he).1;have hfl:=my hnl _ e j p he hj
      have hlt:(k-len)*eu.size+j<vs.length:=by
       rw[hvl2];have:(k-len+1)*eu.size≤news.length*eu.size:=WR _ hk2;rw[Xw] at this;omega
      have hpos2:k*eu.size+j=len*eu.size+((k-len)*eu.size+j):=by
       rw[Nat.sub_mul];have:len*eu.size≤k*eu.size:=WR _ hk;omega
      rw[hpos2,hLn _ hlt]
      exact(hvr _ p hfl).mono (.refl _) (N.cW _ _ _) (fun i hi=>by omega))
   obtain⟨g1,g2⟩:=jC (es:=es.take len) (news:=news) (i:=i) hf h1 h2;refine⟨_,_,M,_,hexec _ _ hrun,g1,g2,?_⟩;have:=VR.sl (M:=M) (N:=N.with s.nx (N.aG i) (N.ext i)) (U:=(· <s.nx+1)) s.nx 0 (len+news.length) eu.size cap (by omega) (by omega) hroom2 hc (by simpa using hext);rw[gQ];simpa using this
theorem KG (hty:bE P ty) {o:Oper} {x y:Operand} {t u:TypeId} (ho:o.op= .call ⟨.builtin .append, #[x,y], #[t,t]⟩) {e eu:aB} (ht:ty t=some e) (hk:e.k= .ai (.slice u)) (hu:ty u=some eu)
  {i sz:Nat} {py:PV} (hx:ev s.f x= .sl i 1 0 sz) (hpy:ev s.f y=py) (hy:Src s.h sz py []) (el:Nat→List IV)
  {s':AS} (hp:putDst nt o (.iv (.cz sz 0 el)) s=some s'):OT P nt o s (fun t=>t=s'):=by
 refine OT.value hp fun M N a w hf=>?_;obtain⟨⟨ii,hii,his,hib,hiz⟩,_⟩:=hty u _ hu
 have hut:P.underlying t=some (.slice u):=by
  have:=(hty t _ ht).2.1;rw[hk] at this;exact this.1
 have hvx:=aS hf.2.1 x;rw[hx] at hvx;have hvy:=aS hf.2.1 y;rw[hpy] at hvy;obtain⟨hnl,ao,c,hyv,hycells⟩:=hy.ok hf hvy
 have hexec: ∀v w',(Builtin.append_ #[t,t] o.type #[a.eval x,a.eval y]).run P w= .ok v w'→(execOp a.eval o).run P w= .ok (.value v) w':=by
  intro v w' h;simp only[execOp,ho,resolve];simp[invoke,builtin,h]
 rw[hyv] at hexec;generalize a.eval x=vx at hvx hexec
 cases hvx with
 |sl _ _ _ _ _ _ h0=>exact absurd h0 (Nat.lt_irrefl _)
 |sle _ _ cap hU hc hext=>
  have hrun:=fC (P:=P) (w:=w) t o.type u ii hut hii (some ⟨N.aG i,0,none⟩) 0 cap (WC _) ao c (.inr ⟨_,_,rfl⟩);exact⟨_,w,M,N,hexec _ _ hrun, .refl _ _ _ _ _,hf, .iv _ _ (.gp _ _ _ _)⟩
end
end Go.Al
namespace Go.Proofs.YtflegjieadkonaaGreatDoor
open Go Go.Al
set_option maxRecDepth 10000
theorem uX {p:Prog} (hb:p.fit) {l:List ak} (hl:l.length≤p.rules.length) (hm: ∀r∈l,r∈p.rules):(⟨p.ar,l⟩:Prog).fit:=⟨hb.1,WV hl hb.2.1,fun r hr=>hb.2.2 r (hm r hr)⟩
theorem wG {α:Type} (f:α→Nat) {l m:List α} (h:l.Sublist m):(l.map f).sum≤(m.map f).sum:=by
 induction h with
 |slnil=>exact Wz _
 |cons a _ ih=>rw[WI,XN];omega
 |cons_cons a _ ih=>rw[WI,WI,XN,XN];omega
theorem size_drop (p:Prog) (n:Nat):(⟨p.ar,ff p.rules n⟩:Prog).size≤p.size:=by
 have h1:(ff p.rules n).Sublist p.rules:=by
  unfold ff;have h:=X6 n p.rules
  conv=>rhs;rw[←h]
  exact List.Sublist.append (List.Sublist.refl _) (by rw[←List.drop_drop];exact List.drop_sublist _ _)
 have h2:=wG ak.size h1;have h3:=h1.length_le;show p.ar.length+(p.ar.map fun d=>d.types.length).sum+(ff p.rules n).length+((ff p.rules n).map ak.size).sum≤p.ar.length+(p.ar.map fun d=>d.types.length).sum+p.rules.length+(p.rules.map ak.size).sum;omega
theorem RO (L:List ak) (k:Nat):iY L k=L.drop (k % L.length)++L.take (k % L.length):=by
  rcases Yx L.length with h0|h0
  ·have:L=[]:=XS.1 h0
   subst this;simp[iY,rb]
  have hk:k % L.length<L.length:=Nat.mod_lt _ h0;apply Yo;intro j;rcases W9 j L.length with h|h
  ·rw[iY,ky L k _ h,if_pos h,List.getElem?_append,X8]
   rcases W9 j (L.length-k % L.length) with h1|h1
   ·rw[if_pos h1,Xx]
    have e2:(j+k) % L.length=k % L.length+j:=by
     rw[Zu,Yj h,Yj (a:=j+k % L.length) (by omega)];omega
    rw[e2,Ws,Wt (by omega)];rfl
   ·rw[if_neg (by omega),W7,if_pos (by omega)]
    have e2:(j+k) % L.length=j-(L.length-k % L.length):=by
     rw[Zu,Yj h,Nat.mod_eq_sub_mod (a:=j+k % L.length) (by omega),Yj (by omega)];omega
    rw[e2,Ws,Wt (by omega)];rfl
  ·rw[XU (by rw[iY,dx];exact h),XU (by rw[Wn,X8,Xb];omega)]
theorem CO (p:Prog) (k:Nat):(⟨p.ar,iY p.rules k⟩:Prog).size=p.size:=by
 have h1:(iY p.rules k).length=p.rules.length:=dx _ _ _
 have h2:((iY p.rules k).map ak.size).sum=(p.rules.map ak.size).sum:=by
  rw[RO,Wq,List.sum_append];have h:(p.rules.map ak.size).sum=(((p.rules.take (k % p.rules.length))++(p.rules.drop (k % p.rules.length))).map ak.size).sum:=by rw[X6]
  rw[h,Wq,List.sum_append];omega
 show p.ar.length+(p.ar.map fun d=>d.types.length).sum+(iY p.rules k).length+((iY p.rules k).map ak.size).sum=p.ar.length+(p.ar.map fun d=>d.types.length).sum+p.rules.length+(p.rules.map ak.size).sum;omega
theorem x8 {p q:Prog} (h:gu p q):ix q=ix p:=by
 unfold ix;by_cases k:(bf p).1=0
 ·rw[if_pos k,if_pos ((jx h).2 k),zn h]
 ·rw[if_neg k,if_neg (fun g=>k ((jx h).1 g))]
theorem yb {p q:Prog} (h:gu p q):gE q=gE p:=by
 unfold gE;by_cases k:(bf p).1=0
 ·rw[if_pos k,if_pos ((jx h).2 k),zr h]
 ·rw[if_neg k,if_neg (fun g=>k ((jx h).1 g))]
theorem zo {p:Prog}:(ix p).length≤1000000:=by
 unfold ix;by_cases k:(bf p).1=0
 ·rw[if_pos k]
  have hn:=ma (iF k);have:=x7 hn (ns p).length;rw[WB (Wz _)] at this;show(oh p).length≤_;exact WV this (by omega)
 ·rw[if_neg k];exact WC _
theorem s7 {p:Prog}:(gE p).length≤1000000∧ ∀r∈gE p,r.length≤1000000:=by
 unfold gE;by_cases k:(bf p).1=0
 ·rw[if_pos k]
  have h:=B3 (iF k);exact⟨by omega,fun r hr=>by have:=h.2 r hr;omega⟩
 ·rw[if_neg k];exact⟨WC _,fun _ h=>(nomatch h)⟩
theorem Kh {P:Program} {nt:Nat} {k:List KI} {Q:AQ} {s:AS} (T:AS) (tail:GO P nt k Q T) (conv:GO P nt k Q T→GO P nt k Q s):GO P nt k Q s:=conv tail
abbrev Vo (p:Prog):AF:=[(3, .ptr 0 0),(11, .iv (cM 2 (a7 p) yV)),(13, .iv (cM 2 (a7 p) yV)),(15, .ptr 7 0)]
abbrev tdS (p:Prog) (n:Nat) (b:Bool):AS:=bif b then⟨Vo p,[(7,some (.cells [.iv (cM 4 p.ar Decl.c), .sl 8 0 (ff p.rules n).length 5])),(8,some (aD 5 (ff p.rules n) ak.c))],9⟩ else⟨Vo p,[(7,some (aE (⟨p.ar,ff p.rules n⟩:Prog).c))],9⟩
set_option maxHeartbeats 16000000 in
theorem tI (hS:dH) (p:Prog) (c d:Int) (hb:p.fit) (hs:p.size≤2000000) (hc1: -9223372036854775808≤c) (hc2:c≤9223372036854775807) (hd1: -9223372036854775808≤d) (hd2:d≤9223372036854775807):Pure Tryz.prog 6 [ag p.c,pI c,pI d] (pB true):=by
 have hT:=Ju p c (by omega) hc1 hc2;have hsame:=Bl p (dN c p.rules.length).toNat;have hqs:=CO p (dN c p.rules.length).toNat;have hqf:(⟨p.ar,iY p.rules (dN c p.rules.length).toNat⟩:Prog).fit:=uX hb (YX (dx _ _ _)) fun r hr=>w8 hr;generalize(⟨p.ar,iY p.rules (dN c p.rules.length).toNat⟩:Prog)=q at*
 have h1:=r6 hS p hb (by omega);have h2:=r6 hS q hqf (by omega);have h3:=yH hS p hb (by omega);have h4:=yH hS q hqf (by omega);have h5:=yI hS p hb (by omega);have h6:=yI hS q hqf (by omega);have h7:=rr hS p hb (by omega);have h8:=rr hS q hqf (by omega);rw[x8 hsame] at h4;rw[yb hsame] at h6;have h9:=yE (ix p) (ix p) zo;have h10:=yD (gE p) (gE p) s7.1 s7.2;rw[decide_eq_true rfl] at h9 h10;have hz:=ye hsame;by_cases k0:(cB p).1=0;rotate_left
 ·have k1: ¬(cB q).1=0:=fun g=>k0 (hz.1 g)
  refine ax ae Tryz.func6 rfl (by decide) Tryz.ntmps6 rfl (by simp) rfl ?_;refine gA rfl (an (CV hS) rfl rfl rfl rfl rfl rfl ?_);refine gA rfl (an (h1) rfl rfl rfl rfl rfl rfl ?_);refine gA rfl (an (hT) rfl rfl rfl rfl rfl rfl ?_);refine gA rfl (an (h2) rfl rfl rfl rfl rfl rfl ?_);refine gA rfl ?_;refine Wl (fun q1=>?_) (fun q1=>?_)
  ·exact absurd q1 (by decide)
  refine gA rfl ?_;refine Wl (fun q2=>?_) (fun q2=>?_)
  ·simp[k0,k1] at q2
  refine gA rfl (aX ae [] (Pure.lS (h3)) rfl rfl rfl rfl rfl rfl rfl rfl rfl rfl rfl rfl (by(repeat' (first|exact trivial|exact rfl|exact ah.refl _|exact ah.bk (by assumption)|apply Wl))<;>first|omega|(simp only[Wp];omega)|(simp;done)|(simp;omega)) rfl (by(repeat' (first|exact trivial|exact rfl|exact ah.refl _|exact ah.bk (by assumption)|apply Wl))<;>first|omega|(simp only[Wp];omega)|(simp;done)|(simp;omega)) ?_);refine gA rfl (aX ae [] (Pure.lS (h4)) rfl rfl rfl rfl rfl rfl rfl rfl rfl rfl rfl rfl (by(repeat' (first|exact trivial|exact rfl|exact ah.refl _|exact ah.bk (by assumption)|apply Wl))<;>first|omega|(simp only[Wp];omega)|(simp;done)|(simp;omega)) rfl (by(repeat' (first|exact trivial|exact rfl|exact ah.refl _|exact ah.bk (by assumption)|apply Wl))<;>first|omega|(simp only[Wp];omega)|(simp;done)|(simp;omega)) ?_);refine gA rfl (aX ae [] (Pure.lS (h9)) rfl rfl rfl rfl rfl rfl rfl rfl rfl rfl rfl rfl (by(repeat' (first|exact trivial|exact rfl|exact ah.refl _|exact ah.bk (by assumption)|apply Wl))<;>first|omega|(simp only[Wp];omega)|(simp;done)|(simp;omega)) rfl (by(repeat' (first|exact trivial|exact rfl|exact ah.refl _|exact ah.bk (by assumption)|apply Wl))<;>first|omega|(simp only[Wp];omega)|(simp;done)|(simp;omega)) ?_);refine gA rfl ?_;refine Wl (fun q3=>?_) (fun q3=>?_)
  ·exact absurd q3 (by decide)
  refine gA rfl (aX ae [] (Pure.lS (h5)) rfl rfl rfl rfl rfl rfl rfl rfl rfl rfl rfl rfl (by(repeat' (first|exact trivial|exact rfl|exact ah.refl _|exact ah.bk (by assumption)|apply Wl))<;>first|omega|(simp only[Wp];omega)|(simp;done)|(simp;omega)) rfl (by(repeat' (first|exact trivial|exact rfl|exact ah.refl _|exact ah.bk (by assumption)|apply Wl))<;>first|omega|(simp only[Wp];omega)|(simp;done)|(simp;omega)) ?_);refine gA rfl (aX ae [] (Pure.lS (h6)) rfl rfl rfl rfl rfl rfl rfl rfl rfl rfl rfl rfl (by(repeat' (first|exact trivial|exact rfl|exact ah.refl _|exact ah.bk (by assumption)|apply Wl))<;>first|omega|(simp only[Wp];omega)|(simp;done)|(simp;omega)) rfl (by(repeat' (first|exact trivial|exact rfl|exact ah.refl _|exact ah.bk (by assumption)|apply Wl))<;>first|omega|(simp only[Wp];omega)|(simp;done)|(simp;omega)) ?_);refine gA rfl (aX ae [] (Pure.lS (h10)) rfl rfl rfl rfl rfl rfl rfl rfl rfl rfl rfl rfl (by(repeat' (first|exact trivial|exact rfl|exact ah.refl _|exact ah.bk (by assumption)|apply Wl))<;>first|omega|(simp only[Wp];omega)|(simp;done)|(simp;omega)) rfl (by(repeat' (first|exact trivial|exact rfl|exact ah.refl _|exact ah.bk (by assumption)|apply Wl))<;>first|omega|(simp only[Wp];omega)|(simp;done)|(simp;omega)) ?_);refine gA rfl ?_;refine Wl (fun q4=>?_) (fun q4=>?_)
  ·exact absurd q4 (by decide)
  refine gA rfl ?_;refine Wl (fun q5=>?_) (fun q5=>?_)
  ·exact absurd (by simpa using q5) k0
  refine gA rfl (aw (by first|exact .inr rfl|exact .inl rfl) rfl (.of_eq ?_));rfl
 have k1:(cB q).1=0:=hz.2 k0;have kz:=jy k0;have kq:=jy k1;have hf:=iF kz.1;have e1:gJ p=a7 p:=by rw[gJ,if_pos k0]
 have e2:gJ q=a7 p:=by rw[gJ,if_pos k1,xB hsame]
 rw[e1,kz.2] at h7;rw[e2,kq.2] at h8;rw[kz.2] at h1;rw[kq.2] at h2;have hn:=ma hf;have hll:=jf p;refine ax ae Tryz.func6 rfl (by decide) Tryz.ntmps6 rfl (by simp) rfl ?_;refine gA rfl (an (CV hS) rfl rfl rfl rfl rfl rfl ?_);refine gA rfl (an (h1) rfl rfl rfl rfl rfl rfl ?_);refine gA rfl (an (hT) rfl rfl rfl rfl rfl rfl ?_);refine gA rfl (an (h2) rfl rfl rfl rfl rfl rfl ?_);refine gA rfl ?_;refine Wl (fun q1=>?_) (fun q1=>?_)
 ·exact absurd q1 (by decide)
 refine gA rfl ?_;refine Wl (fun q2=>?_) (fun q2=>?_)
 ·exact absurd q2 (by decide)
 refine gA rfl (aX ae [] (Pure.lS (h3)) rfl rfl rfl rfl rfl rfl rfl rfl rfl rfl rfl rfl (by(repeat' (first|exact trivial|exact rfl|exact ah.refl _|exact ah.bk (by assumption)|apply Wl))<;>first|omega|(simp only[Wp];omega)|(simp;done)|(simp;omega)) rfl (by(repeat' (first|exact trivial|exact rfl|exact ah.refl _|exact ah.bk (by assumption)|apply Wl))<;>first|omega|(simp only[Wp];omega)|(simp;done)|(simp;omega)) ?_);refine gA rfl (aX ae [] (Pure.lS (h4)) rfl rfl rfl rfl rfl rfl rfl rfl rfl rfl rfl rfl (by(repeat' (first|exact trivial|exact rfl|exact ah.refl _|exact ah.bk (by assumption)|apply Wl))<;>first|omega|(simp only[Wp];omega)|(simp;done)|(simp;omega)) rfl (by(repeat' (first|exact trivial|exact rfl|exact ah.refl _|exact ah.bk (by assumption)|apply Wl))<;>first|omega|(simp only[Wp];omega)|(simp;done)|(simp;omega)) ?_);refine gA rfl (aX ae [] (Pure.lS (h9)) rfl rfl rfl rfl rfl rfl rfl rfl rfl rfl rfl rfl (by(repeat' (first|exact trivial|exact rfl|exact ah.refl _|exact ah.bk (by assumption)|apply Wl))<;>first|omega|(simp only[Wp];omega)|(simp;done)|(simp;omega)) rfl (by(repeat' (first|exact trivial|exact rfl|exact ah.refl _|exact ah.bk (by assumption)|apply Wl))<;>first|omega|(simp only[Wp];omega)|(simp;done)|(simp;omega)) ?_);refine gA rfl ?_;refine Wl (fun q3=>?_) (fun q3=>?_)
 ·exact absurd q3 (by decide)
 refine gA rfl (aX ae [] (Pure.lS (h5)) rfl rfl rfl rfl rfl rfl rfl rfl rfl rfl rfl rfl (by(repeat' (first|exact trivial|exact rfl|exact ah.refl _|exact ah.bk (by assumption)|apply Wl))<;>first|omega|(simp only[Wp];omega)|(simp;done)|(simp;omega)) rfl (by(repeat' (first|exact trivial|exact rfl|exact ah.refl _|exact ah.bk (by assumption)|apply Wl))<;>first|omega|(simp only[Wp];omega)|(simp;done)|(simp;omega)) ?_);refine gA rfl (aX ae [] (Pure.lS (h6)) rfl rfl rfl rfl rfl rfl rfl rfl rfl rfl rfl rfl (by(repeat' (first|exact trivial|exact rfl|exact ah.refl _|exact ah.bk (by assumption)|apply Wl))<;>first|omega|(simp only[Wp];omega)|(simp;done)|(simp;omega)) rfl (by(repeat' (first|exact trivial|exact rfl|exact ah.refl _|exact ah.bk (by assumption)|apply Wl))<;>first|omega|(simp only[Wp];omega)|(simp;done)|(simp;omega)) ?_);refine gA rfl (aX ae [] (Pure.lS (h10)) rfl rfl rfl rfl rfl rfl rfl rfl rfl rfl rfl rfl (by(repeat' (first|exact trivial|exact rfl|exact ah.refl _|exact ah.bk (by assumption)|apply Wl))<;>first|omega|(simp only[Wp];omega)|(simp;done)|(simp;omega)) rfl (by(repeat' (first|exact trivial|exact rfl|exact ah.refl _|exact ah.bk (by assumption)|apply Wl))<;>first|omega|(simp only[Wp];omega)|(simp;done)|(simp;omega)) ?_);refine gA rfl ?_;refine Wl (fun q4=>?_) (fun q4=>?_)
 ·exact absurd q4 (by decide)
 refine gA rfl ?_;refine Wl (fun q5=>?_) (fun q5=>?_)
 ·refine gA rfl ?_
  refine Wl (fun q6=>?_) (fun q6=>?_)
  ·refine gA rfl (aw (by first|exact .inr rfl|exact .inl rfl) rfl (.of_eq ?_))
   rfl
  have q6: ¬(p.rules.length:Int)=0:=of_decide_eq_false q6;have hin:=sk (c:=d) (n:=p.rules.length) (by omega);have hpl:p.rules.length≤10000000:=by unfold Prog.size at hs;omega
  have hPick:=Pq d p.rules.length hd1 hd2 (by omega) (by omega);obtain⟨n,hnn⟩: ∃n:Nat,dN d p.rules.length=n:=⟨(dN d p.rules.length).toNat,by omega⟩
  rw[hnn] at hPick hin;have hnl:n<p.rules.length:=by omega
  refine gM 1 rfl (bU (L:=[]) (t:=⟨[(2,pI d),(3, .ptr 0 0),(9, .ptr 2 0)],[(0,some (aE p.c)),(2,some (aE q.c))],4⟩) (wk rfl rfl rfl ⟨.refl _,rfl, .refl _,rfl, .refl _,rfl,trivial⟩ (hC rfl rfl rfl (hC rfl rfl rfl trivial)) rfl) ?_);refine gA rfl (an (h7) rfl rfl rfl rfl rfl rfl ?_);refine gA rfl (an (h8) rfl rfl rfl rfl rfl rfl ?_);refine gA rfl (aN [] (CZ p (by omega)) rfl rfl rfl rfl rfl rfl rfl rfl ?_);refine gA rfl (an (hPick) rfl rfl rfl rfl rfl rfl ?_)
  refine gM 2 rfl (bU (L:=[]) (t:=⟨[(3, .ptr 0 0),(11, .iv (cM 2 (a7 p) yV)),(13, .iv (cM 2 (a7 p) yV)),(15, .ptr 7 0),(16,pI n)],[(6,some (aD 5 p.rules ak.c)),(7,some (.cells [.iv (cM 4 p.ar Decl.c), .sl 6 0 p.rules.length 5]))],8⟩)
   (wk rfl rfl rfl ⟨.refl _,rfl, .refl _,rfl, .refl _,rfl, .refl _,rfl, .refl _,rfl,trivial⟩ (hR rfl (by rw[List.map_map];exact List.map_congr_left fun x _=>oJ _ _) rfl ⟨⟨_,rfl, .of_eq rfl⟩,Wj rfl,rfl,trivial⟩) rfl) ?_)
  refine go_cut 1 (tdS p n) rfl ?_ ?_
  ·have hone: ∀e∈((p.rules.map fun x=>x.c.map PV.iv).drop (n+1)).take (p.rules.length-(n+1)),fv e=true:=fun e he=>by
    obtain⟨x,_,rfl⟩:=W4.1 (List.mem_of_mem_drop (YF he));rfl
   have hnews:((p.rules.map fun x=>x.c.map PV.iv).drop (n+1)).take (p.rules.length-(n+1))=(p.rules.drop (n+1)).map fun x=>x.c.map PV.iv:=by
    rw[WB (by simp),List.map_drop]
   have hrow:(p.rules.map fun x=>x.c.map PV.iv).take n++(p.rules.drop (n+1)).map (fun x=>x.c.map PV.iv)=(ff p.rules n).map fun x=>x.c.map PV.iv:=by
    rw[ff,Wq,List.map_take]
   have hlen:(ff p.rules n).length=p.rules.length-1:=by rw[ff,Wn,Xb,X8];omega
   rcases Yx n with h0|h0
   ·subst h0
    refine gA rfl (p7 (p:= .sl 6 1 0 5) 3 rfl rfl rfl rfl rfl rfl (AG (m:=0) ae rfl rfl rfl rfl rfl rfl rfl (by omega) (by omega) (.inl ⟨rfl,rfl⟩)) ?_);rcases W9 (0+1) p.rules.length with h11|h11
    ·refine gA rfl (p7 (p:= .sl 6 (0+1) (p.rules.length-(0+1)) 5) 8 rfl rfl rfl rfl rfl rfl (rB (m:=0+1) ae rfl rfl rfl rfl rfl rfl rfl (by omega) (by omega) (by omega) (.inr ⟨h11,rfl⟩)) ?_)
     refine lD ae rfl rfl rfl rfl rfl (by(repeat' (first|exact trivial|exact rfl|exact ah.refl _|exact ah.bk (by assumption)|apply Wl))<;>first|omega|(simp only[Wp];omega)|(simp;done)|(simp;omega)) (AT ae rfl rfl rfl rfl rfl rfl rfl (by simp) (by simp;omega) rfl (.row 6 (0+1) (p.rules.length-(0+1)) _ rfl (by simp;omega)) hone rfl) rfl (by(repeat' (first|exact trivial|exact rfl|exact ah.refl _|exact ah.bk (by assumption)|apply Wl))<;>first|omega|(simp only[Wp];omega)|(simp;done)|(simp;omega)) ?_;refine gA rfl (qm true [8] (wk rfl rfl rfl ⟨.refl _,rfl, .refl _,rfl, .refl _,rfl, .refl _,rfl,trivial⟩ ⟨⟨_,rfl, .of_eq (by rw[hnews,W3,X8,hlen];rfl)⟩,Wj rfl,rfl,hR rfl (by rw[hnews];exact hrow) rfl trivial⟩ rfl))
    ·refine gA rfl (p7 (p:= .iv (.cz 5 0 fun _=> [])) 8 rfl rfl rfl rfl rfl rfl (rB (m:=0+1) ae rfl rfl rfl rfl rfl rfl rfl (by omega) (by omega) (by omega) (.inl ⟨by omega,_,rfl⟩)) ?_)
     refine lD ae rfl rfl rfl rfl rfl (by(repeat' (first|exact trivial|exact rfl|exact ah.refl _|exact ah.bk (by assumption)|apply Wl))<;>first|omega|(simp only[Wp];omega)|(simp;done)|(simp;omega)) (KG ae rfl rfl rfl rfl rfl rfl (show Src _ _ _ [] from .cz 0 _) (fun _=> []) rfl) rfl (by(repeat' (first|exact trivial|exact rfl|exact ah.refl _|exact ah.bk (by assumption)|apply Wl))<;>first|omega|(simp only[Wp];omega)|(simp;done)|(simp;omega)) ?_;have hd0:ff p.rules 0=[]:=XS.1 (by omega)
     refine gA rfl (qm false [7] (wk rfl rfl rfl ⟨.refl _,rfl, .refl _,rfl, .refl _,rfl, .refl _,rfl,trivial⟩ ⟨⟨_,rfl, .cells ⟨.refl _, .iv (by
      rw[hd0];intro M x hx;cases hx
      all_goals first
       |exact .gp _ _ _ _
       |omega),trivial⟩⟩,Wj rfl,rfl,trivial⟩ rfl))
   ·refine gA rfl (p7 (p:= .sl 6 0 n 5) 3 rfl rfl rfl rfl rfl rfl (AG ae rfl rfl rfl rfl rfl rfl rfl (by omega) (by omega) (.inr ⟨h0,rfl⟩)) ?_)
    rcases W9 (n+1) p.rules.length with h11|h11
    ·refine gA rfl (p7 (p:= .sl 6 (n+1) (p.rules.length-(n+1)) 5) 8 rfl rfl rfl rfl rfl rfl (rB (m:=n+1) ae rfl rfl rfl rfl rfl rfl rfl (by omega) (by omega) (by omega) (.inr ⟨h11,rfl⟩)) ?_)
     refine lD ae rfl rfl rfl rfl rfl (by(repeat' (first|exact trivial|exact rfl|exact ah.refl _|exact ah.bk (by assumption)|apply Wl))<;>first|omega|(simp only[Wp];omega)|(simp;done)|(simp;omega)) (AR ae rfl rfl rfl rfl rfl rfl rfl h0 (by simp;omega) rfl (.row 6 (n+1) (p.rules.length-(n+1)) _ rfl (by simp;omega)) hone rfl) rfl (by(repeat' (first|exact trivial|exact rfl|exact ah.refl _|exact ah.bk (by assumption)|apply Wl))<;>first|omega|(simp only[Wp];omega)|(simp;done)|(simp;omega)) ?_;refine gA rfl (qm true [8] (wk rfl rfl rfl ⟨.refl _,rfl, .refl _,rfl, .refl _,rfl, .refl _,rfl,trivial⟩ ⟨⟨_,rfl, .of_eq (by rw[hnews,W3,X8,hlen,show n+(p.rules.length-(n+1))=p.rules.length-1 by omega];rfl)⟩,Wj rfl,rfl,hR rfl (by rw[hnews];exact hrow) rfl trivial⟩ rfl))
    ·have hdn:p.rules.drop (n+1)=[]:=List.drop_eq_nil_iff.2 h11
     rw[hdn] at hrow;refine gA rfl (p7 (p:= .iv (.cz 5 0 fun _=> [])) 8 rfl rfl rfl rfl rfl rfl (rB (m:=n+1) ae rfl rfl rfl rfl rfl rfl rfl (by omega) (by omega) (by omega) (.inl ⟨by omega,_,rfl⟩)) ?_);refine lD ae rfl rfl rfl rfl rfl (by(repeat' (first|exact trivial|exact rfl|exact ah.refl _|exact ah.bk (by assumption)|apply Wl))<;>first|omega|(simp only[Wp];omega)|(simp;done)|(simp;omega)) (AR ae rfl rfl rfl rfl rfl rfl rfl h0 (news:=[]) (by simp;omega) rfl (show Src _ _ _ [] from .cz 0 _) (fun _ h=>nomatch h) rfl) rfl (by(repeat' (first|exact trivial|exact rfl|exact ah.refl _|exact ah.bk (by assumption)|apply Wl))<;>first|omega|(simp only[Wp];omega)|(simp;done)|(simp;omega)) ?_;refine gA rfl (qm true [8] (wk rfl rfl rfl ⟨.refl _,rfl, .refl _,rfl, .refl _,rfl, .refl _,rfl,trivial⟩ ⟨⟨_,rfl, .of_eq (by rw[hlen,show n+([]:List (List PV)).length=p.rules.length-1 by simp only[X4];omega];rfl)⟩,Wj rfl,rfl,hR rfl hrow rfl trivial⟩ rfl))
  ·intro b
   have hless:=zq p n;have hlsz:=size_drop p n;have hlf:(⟨p.ar,ff p.rules n⟩:Prog).fit:=uX hb hless.len hless.mem;refine Kh ⟨Vo p,[(7,some (aE (⟨p.ar,ff p.rules n⟩:Prog).c))],9⟩ ?_ fun tail=>?_;rotate_left
   ·cases b with
    |false=>exact tail
    |true=>
     refine mZ 8 (fun k=>ak.c ((ff p.rules n).getD k default)) rfl (ch rfl) (by simp[AF.kX,PV.bm]) ⟨by simp[AO.kX,b5,PV.bm],eI _ _ _ _ _ _,trivial⟩ ?_;exact bU (L:=[]) (t:=⟨Vo p,[(7,some (aE (⟨p.ar,ff p.rules n⟩:Prog).c))],9⟩) (wk rfl rfl rfl ⟨.refl _,rfl, .refl _,rfl, .refl _,rfl, .refl _,rfl,trivial⟩ (hC rfl (by simp only[PV.cZ,mv,WQ];rfl) rfl trivial) rfl) tail
   have k2:=yf hless k0;have hhl:=fun i=>BM hless k0 i;have hnl2:ns (⟨p.ar,ff p.rules n⟩:Prog)=ns p:=gI rfl;generalize(⟨p.ar,ff p.rules n⟩:Prog)=u at*
   have h11:=rr hS u hlf (by omega);have ku:=jy k2;rw[gJ,if_pos k2,ku.2] at h11;have hlu:(a7 u).length=(ns p).length:=by rw[jf,hnl2]
   have h12:=wX (a7 p) (a7 p) (by omega);rw[decide_eq_true rfl] at h12;refine gA rfl (an (h11) rfl rfl rfl rfl rfl rfl ?_);refine gA rfl (an (h12) rfl rfl rfl rfl rfl rfl ?_);refine gA rfl ?_;refine Wl (fun t1=>?_) (fun t1=>?_);rotate_left
   ·exact absurd t1 (by decide)
   refine gA rfl ?_;refine Wl (fun t2=>?_) (fun t2=>?_);rotate_left
   ·exact absurd t2 (by decide)
   refine gA rfl ?_;refine Wl (fun t3=>?_) (fun t3=>?_)
   ·simp[hlu,hll] at t3
   refine gA rfl ?_
   refine aK 0 (ns p).length (WC _) (fun i=>⟨[(11, .iv (cM 2 (a7 p) yV)),(17, .iv (cM 2 (a7 u) yV)),(19,pI i)],[],10⟩) (fun _=>True) [] trivial
    (wk rfl rfl rfl ⟨.refl _,rfl, .refl _,rfl, .refl _,rfl,trivial⟩ trivial rfl) fun i hi _=>?_
   refine gA rfl ?_;refine Wl (fun t4=>?_) (fun t4=>?_)
   ·have t4:i<(a7 u).length:=by simpa using t4
    have t5:i<(ns p).length:=by omega
    have hLi:=n9 p t5;have hLu:=n9 u (i:=i) (by rw[hnl2];exact t5);have hv:vD u i=vD p i:=by unfold vD;rw[hnl2]
    rw[hv] at hLu;have hhi:=hhl i;refine gA rfl ?_;refine Wl (fun t6=>?_) (fun t6=>?_)
    ·have t6:(!decide (((a7 u).getD (i:Int).toNat default).1=((a7 p).getD (i:Int).toNat default).1))=true:=t6
     rw[Wp,hLu,hLi] at t6;simp at t6
    refine gA rfl ?_;refine Wl (fun t7=>?_) (fun t7=>?_)
    ·have t7:decide ((((a7 u).getD (i:Int).toNat default).2:Int)>(((a7 p).getD (i:Int).toNat default).2:Int))=true:=t7
     rw[Wp,hLu,hLi] at t7;have:=of_decide_eq_true t7;have h:(gr u i:Int)>(gr p i:Int):=this;omega
    refine gA rfl ?_;exact⟨t5,trivial,[],wk rfl rfl rfl ⟨.refl _,rfl, .refl _,rfl, .refl _,rfl,trivial⟩ trivial rfl⟩
   ·refine gA rfl (aw (by first|exact .inr rfl|exact .inl rfl) rfl (.of_eq ?_))
    rfl
 ·exact absurd q5 (by decide)
theorem DH {z:Int} (h:(Go.Lit.int .i64 z).wf=true): -9223372036854775808≤z∧z≤9223372036854775807:=by
 simp only[Go.Lit.wf,WN,decide_eq_true_eq] at h;exact h
end Go.Proofs.YtflegjieadkonaaGreatDoor
