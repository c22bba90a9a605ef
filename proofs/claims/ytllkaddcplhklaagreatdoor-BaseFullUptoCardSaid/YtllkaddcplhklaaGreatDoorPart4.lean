/-
  What the proofs of the claims need: part 4 of 5.
-/
import Derived.Test.YtllkaddcplhklaaGreatDoorPart3
import Derived.Lib.Bytealg
import Derived.Laws.Externs
import Derived.Shelf.SlSortCmp.NoneTotal
import Derived.Shelf.SlMaps.Clone
open And renaming intro→Oz
open Array renaming eq_empty_of_size_eq_zero→P2,toList_inj→Rv
open Bool renaming and_eq_true→Pk,and_false→QU,eq_iff_iff→PL,false_and→P6,false_eq_true→PX,not_eq_false→RT,not_eq_false'→Qe,not_eq_true'→Py,not_false→Q7,not_true→QC,or_eq_false_iff→Qx,or_eq_true→Qu,true_and→QP
open ByteArray renaming empty→OB
open Classical renaming byContradiction→PN
open Int renaming le_refl→QI,toNat_natCast→OA
open List.Nodup renaming length_le_of_subset→PG
open List.Pairwise renaming filter→QB,imp→Rs,nil→QS
open List renaming all_eq_true→Pc,any_eq_false→Ps,any_eq_true→PI,append_assoc→OS,append_eq_nil_iff→Q8,append_nil→Pt,concat_eq_append→RE,cons_append→PO,drop_eq_getElem_cons→Qs,drop_of_length_le→QN,eq_nil_of_length_eq_zero→Pn,ext_getElem→Rb,ext_getElem?→Qy,filter_congr→Qj,filter_cons→P3,find?_cons→RA,find?_eq_none→Qq,flatMap_append→QZ,flatMap_cons→PB,foldl_cons→Pl,getD_cons_zero→Ql,getD_eq_getElem?_getD→Ow,getElem?_cons_succ→Q4,getElem?_eq_getElem→Ox,getElem?_eq_some_iff→Ov,getElem?_map→OC,getElem?_of_mem→Pj,getElem?_set→P8,getElem?_take→Ph,getElem?_zipWith→RF,getElem_map→PQ,getElem_mem→Pg,length→RH,length_append→Oy,length_cons→O6,length_eq_zero_iff→PW,length_filter_le→PJ,length_map→O3,length_nil→P0,length_pos_iff→PD,length_singleton→Pu,length_take→PF,map_append→OM,map_congr_left→QF,map_cons→OU,map_map→PT,map_nil→Qo,mem_append→ON,mem_append_left→Pb,mem_append_right→P4,mem_cons→OG,mem_cons_of_mem→OF,mem_cons_self→OH,mem_filter→O5,mem_flatMap→Rh,mem_iff_getElem→Qh,mem_map→OZ,mem_map_of_mem→Rm,mem_nil_iff→Ri,mem_of_getElem?→O9,mem_of_mem_take→RJ,mem_range→PA,mem_reverse→RY,mem_singleton→OI,mem_singleton_self→Qk,nil_append→P9,nodup_append→PU,nodup_cons→O7,nodup_nil→Pe,pairwise_append→Qi,pairwise_cons→Pd,pairwise_iff_getElem→PH,pairwise_map→QA,perm_ext_iff_of_nodup→PZ,range→O4,replicate→Qp,singleton_append→RD,sum_cons→PM,take_length→Qd,take_of_length_le→OP,take_succ_cons→PR,zipWith→Ry,zipWith_cons_cons→Rz
open List.cons renaming injEq→Rk
open Nat renaming beq→OW,ble→Qr,ble_eq_true_of_le→Pp,blt→OV,le_of_ble_eq_true→Oq,le_of_eq→RU,le_of_not_lt→Qc,le_refl→OJ,le_succ→QH,le_trans→Pm,lt_succ_iff_lt_or_eq→QD,lt_trichotomy→QR,max_eq_right→RZ,mul_one→Rj,not_lt_zero→Qv,succ_le_succ→RX,zero_add→OY,zero_le→OL
open Option renaming bind_some→QG,getD_some→Px,map_eq_none_iff→QK,map_eq_some_iff→OD
open Option.some renaming inj→Pf,injEq→Ou
open Prod renaming fst→Pq
open Prod.mk renaming injEq→OE
set_option maxRecDepth 100000
open Bool renaming false→jp,true→is
open Decidable renaming decide→kw
open Inhabited renaming default→ci
open Option renaming none→io,some→co
open Array renaming getD_eq_getD_getElem?→Ot
open Array renaming range→Rq
open Array renaming getElem?_map→QJ
open Option renaming map_some→PC
open Array renaming getElem?_eq_getElem→O2
open Nat renaming mul_le_mul_right→OX
open Nat renaming add_mul→Pv
open Array renaming getElem?_append_left→Pa
open List renaming getElem?_append_right→OO
open Array renaming getElem?_append_right→QT
open Array renaming getElem?_toList→O1
namespace Go.Bo
section
structure TO {α:Type} (c:α->α->Int):Prop where
 eq: ∀x y,c x y=0↔x=y
 neg: ∀x y,c y x<0↔0<c x y
 tr: ∀x y z,c x y<0->c y z<0->c x z<0
section
variable {α:Type} {c:α->α->Int} (h:TO c)
include h
theorem TO.refl(x:α):c x x=0:=(h.eq x x).2 Z
theorem TO.Jl(x:α): ¬c x x<0:=by rw[h.refl];omega
theorem TO.asym{x y:α}(a:c x y<0): ¬c y x<0:=fun b=>by have:=(h.neg x y).1 b;omega
theorem TO.Md{x y:α}(a: ¬c x y<0)(b: ¬c y x<0):x=y:=by
 refine(h.eq x y).1 ?_;have:=(h.neg x y).2;omega
theorem TO.ND{x y z:α}(a: ¬c x y<0)(b: ¬c y z<0): ¬c x z<0:=fun g=>by
 by_cases e:c y x<0
 .exact b (h.tr _ _ _ e g)
 .rw[h.Md a e]at g;exact b g
end
def rb(a b:Int):Int:=if a=0 then b else a
theorem Ag{a b j u:Int}(h1:j<0↔0<a)(x:a<0↔0<j)(y:u<0↔0<b):rb j u<0↔0<rb a b:=by
 unfold rb;split<;>split<;>omega
theorem TO.pair{α β:Type}{c:α->α->Int}{d:β->β->Int}(h:TO c)(g:TO d):TO fun(x y:α×β)=>rb (c x.1 y.1) (d x.2 y.2) where
 eq:=fun x y=>by
  unfold rb;constructor
  .intro e;split at e
   .rename_i a;exact Prod.ext ((h.eq _ _).1 a) ((g.eq _ _).1 e)
   .rename_i a;exact absurd e a
  .rintro rfl;rw[am (h.refl _)];exact g.refl _
 neg:=fun x y=>Ag (h.neg _ _) (h.neg _ _) (g.neg _ _)
 tr:=fun x y z a b=>by
  unfold rb at*
  by_cases u:c x.1 y.1=0
  .rw[am u]at a;have A:=(h.eq _ _).1 u;rw[A];by_cases j:c y.1 z.1=0
   .rw[am j]at b ⊢;exact g.tr _ _ _ a b
   .rw[be j]at b ⊢;exact b
  .rw[be u]at a;by_cases j:c y.1 z.1=0
   .rw[<-(h.eq _ _).1 j,be u];exact a
   .rw[be j]at b;have:=h.tr _ _ _ a b;rw[be (by omega)];exact this
theorem TO.map{α β:Type}{c:β->β->Int}(h:TO c)(f:α->β)(hf: ∀x y,f x=f y->x=y):TO fun x y=>c (f x) (f y) where
 eq:=fun x y=>(h.eq _ _).trans ⟨hf x y,fun e=>by rw[e]⟩
 neg:=fun x y=>h.neg _ _
 tr:=fun x y z=>h.tr _ _ _
def cmpL{α:Type}(c:α->α->Int):List α->List α->Int
 | [],[]=>0
 | [],_::_=> -1
 |_::_,[]=>1
 |x::a,y::b=>rb (c x y) (cmpL c a b)
theorem TO.list{α:Type}{c:α->α->Int}(h:TO c):TO (cmpL c) where
 eq:=by
  intro x
  induction x with
  |nil=>intro y;cases y<;>simp[cmpL]
  |cons x a ih=>
   intro y;cases y with
   |nil=>simp[cmpL]
   |cons y b=>
    simp only[cmpL,rb,Rk];constructor
    .intro e;split at e
     .rename_i q;exact⟨(h.eq _ _).1 q,(ih b).1 e⟩
     .rename_i q;exact absurd e q
    .rintro⟨rfl,rfl⟩;rw[am (h.refl _)];exact(ih a).2 Z
 neg:=by
  intro x
  induction x with
  |nil=>intro y;cases y<;>simp[cmpL]
  |cons x a ih=>
   intro y;cases y with
   |nil=>simp[cmpL]
   |cons y b=>exact Ag (h.neg _ _) (h.neg _ _) (ih b)
 tr:=by
  intro x
  induction x with
  |nil=>
   intro y z a b;cases y with
   |nil=>simp[cmpL]at a
   |cons y y'=>cases z with
    |nil=>simp[cmpL]at b
    |cons z z'=>simp[cmpL]
  |cons x x' ih=>
   intro y z a b;cases y with
   |nil=>simp[cmpL]at a
   |cons y y'=>cases z with
    |nil=>simp[cmpL]at b
    |cons z z'=>
     simp only[cmpL,rb] at*
     by_cases u:c x y=0
     .rw[am u]at a;rw[(h.eq _ _).1 u];by_cases j:c y z=0
      .rw[am j]at b ⊢;exact ih _ _ a b
      .rw[be j]at b ⊢;exact b
     .rw[be u]at a;by_cases j:c y z=0
      .rw[<-(h.eq _ _).1 j,be u];exact a
      .rw[be j]at b;have:=h.tr _ _ _ a b;rw[be (by omega)];exact this
def jT(a b:Int):Int:=if a<b then-1 else if b<a then 1 else 0
theorem TO.int:TO jT where
 eq:=fun x y=>by unfold jT;split<;>(try split)<;>omega
 neg:=fun x y=>by unfold jT;split<;>(try split)<;>(try split)<;>(try split)<;>omega
 tr:=fun x y z=>by unfold jT;split<;>(try split)<;>(try split)<;>(try split)<;>(try split)<;>omega
section
variable {α:Type} (c:α->α->Int)
def qd(l:List α):Prop:=l.Pairwise fun x y=>c x y<0
def ins(x:α):List α->List α
 | []=> [x]
 |y::r=>if c x y<0 then x::y::r else if c y x<0 then y::ins x r else y::r
def qk(l:List α):List α:=l.foldr (ins c) []
theorem qd.filter{c:α->α->Int}{l:List α}(hs:qd c l)(p:α->Bool):qd c (l.filter p):=QB p hs
variable {c} (h:TO c)
include h
theorem kN{x y:α}: ∀{l:List α},y∈ins c x l↔y=x∨y∈l
 | []=>by simp[ins]
 |z::r=>by
  unfold ins;split
  .simp
  .split
   .simp only[OG,kN (l:=r)];constructor
    .rintro(a|a|a)<;>simp[a]
    .rintro(a|a|a)<;>simp[a]
   .rename_i a b;have:=h.Md a b;subst this;simp
theorem zB{x:α}: ∀{l:List α},qd c l->qd c (ins c x l)
 | [],_=>by simp[ins,qd]
 |z::r,hs=>by
  have j:=Pd.1 hs;unfold ins;split
  .rename_i a;refine Pd.2 ⟨fun y hy=>?_,hs⟩;rcases OG.1 hy with rfl|hy
   .exact a
   .exact h.tr _ _ _ a (j.1 y hy)
  .split
   .rename_i a b;refine Pd.2 ⟨fun y hy=>?_,zB j.2⟩;rcases(kN h).1 hy with rfl|hy
    .exact b
    .exact j.1 y hy
   .exact hs
theorem pN{y:α}: ∀{l:List α},y∈qk c l↔y∈l
 | []=>by simp[qk]
 |x::l=>by
  show y∈ins c x (qk c l)↔_;rw[kN h,pN,OG]
theorem pq: ∀(l:List α),qd c (qk c l)
 | []=>QS
 |x::l=>zB h (pq l)
theorem zH: ∀{a b:List α},qd c a->qd c b->(∀x,x∈a↔x∈b)->a=b
 | [],[],_,_,_=>rfl
 | [],y::b,_,_,e=>absurd ((e y).2 (OH ..)) (by simp)
 |x::a,[],_,_,e=>absurd ((e x).1 (OH ..)) (by simp)
 |x::a,y::b,ha,hb,e=>by
  have j:=Pd.1 ha;have u:=Pd.1 hb;have B:x=y:=by
   rcases OG.1 ((e x).1 (OH ..)) with q|q
   .exact q
   .rcases OG.1 ((e y).2 (OH ..)) with r|r
    .exact r.symm
    .exact absurd (u.1 x q) (h.asym (j.1 y r))
  subst B;have A: ∀{l:List α},(∀z∈l,c x z<0)->x∉l:=fun g m=>h.Jl x (g x m);rw[zH j.2 u.2 fun z=>⟨fun m=>?_,fun m=>?_⟩]
  .rcases OG.1 ((e z).1 (OF _ m)) with q|q
   .subst q;exact absurd m (A j.1)
   .exact q
  .rcases OG.1 ((e z).2 (OF _ m)) with q|q
   .subst q;exact absurd m (A u.1)
   .exact q
theorem qd.nodup{l:List α}(hs:qd c l):l.Nodup:=Rs (fun a e=>by subst e;exact h.Jl _ a) hs
end
end
end Go.Bo
namespace Go.Proofs.YtllkaddcplhklaaGreatDoor
open Go Go.Al Go.Bo
deriving instance DecidableEq for Fact
def Mf(s:ak):List Int:=s.data.toList.map fun b=>(b.toNat:Int)
theorem Gq{a b:ak}(h:Mf a=Mf b):a=b:=by
 have:a.data.toList=b.data.toList:=List.map_inj_right (fun x y e=>UInt8.toNat_inj.1 (Int.ofNat.inj e))|>.1 h;cases a;cases b;simp only[ByteArray.mk.injEq];exact Rv.1 this
def nW(a b:ak):Int:=cmpL jT (Mf a) (Mf b)
def wu(a b:c8):Int:=rb (jT a.kind b.kind) (rb (jT a.num b.num) (nW a.sym b.sym))
def q9(a b:List c8):Int:=cmpL wu a b
def aR(a b:Fact):Int:=rb (nW a.rel b.rel) (q9 a.args b.args)
theorem Np:TO nW:=TO.int.list.map Mf fun _ _=>Gq
theorem toV:TO wu:=(TO.int.pair (TO.int.pair Np)).map (fun v:c8=>(v.kind,v.num,v.sym)) fun x y e=>by
 cases x;cases y;simp only[OE]at e;obtain⟨rfl,rfl,rfl⟩:=e;rfl
theorem mD:TO aR:=(Np.pair toV.list).map (fun f:Fact=>(f.rel,f.args)) fun x y e=>by
 cases x;cases y;simp only[OE]at e;obtain⟨rfl,rfl⟩:=e;rfl
def JC:Nat->FS
 |0=> []
 |n+1=>co .i64::co .i64::io::JC n
abbrev fy:FS:=io::co .i64::JC 8
def wA:(n:Nat)->List c8->FK (JC n)
 |0,_=>()
 |n+1,[]=>(0,0,OB,wA n [])
 |n+1,v::r=>(v.kind,v.num,v.sym,wA n r)
def bn(f:Fact):FK fy:=(f.rel,(f.args.length:Int),wA 8 f.args)
theorem yl: ∀(n:Nat) (a b:List c8),a.length=b.length->a.length<=n->wA n a=wA n b->a=b
 |_,[],[],_,_,_=>rfl
 |_,[],_::_,h,_,_=>by simp at h
 |_,_::_,[],h,_,_=>by simp at h
 |0,_::_,_::_,_,h,_=>by simp at h
 |n+1,v::a,u::b,h,g,e=>by
  have j:(v.kind,v.num,v.sym,wA n a)=(u.kind,u.num,u.sym,wA n b):=e;rw[OE,OE,OE]at j;obtain⟨x,y,A,B⟩:=j;rw[yl n a b (by simpa using h) (by simpa using g) B];cases v;cases u;simp only at x y A;subst x y A;rfl
theorem oQ{f g:Fact}(hf:f.args.length<=8)(e:bn f=bn g):f=g:=by
 have b:(f.rel,(f.args.length:Int),wA 8 f.args)=(g.rel,(g.args.length:Int),wA 8 g.args):=e;rw[OE,OE]at b;obtain⟨j,x,u⟩:=b;have:=yl 8 f.args g.args (by omega) hf u;cases f;cases g;simp only at j this;subst j this;rfl
end Go.Proofs.YtllkaddcplhklaaGreatDoor
namespace Go.Bo
section
theorem Af{α:Type}{R:α->α->Prop}(D: ∀x,¬R x x)(A: ∀x y,R x y-> ¬R y x): ∀{a b:List α},a.Pairwise R->b.Pairwise R->(∀x,x∈a↔x∈b)->a=b
 | [],[],_,_,_=>rfl
 | [],y::b,_,_,e=>absurd ((e y).2 (OH ..)) (by simp)
 |x::a,[],_,_,e=>absurd ((e x).1 (OH ..)) (by simp)
 |x::a,y::b,ha,hb,e=>by
  have j:=Pd.1 ha;have u:=Pd.1 hb;have C:x=y:=by
   rcases OG.1 ((e x).1 (OH ..)) with q|q
   .exact q
   .rcases OG.1 ((e y).2 (OH ..)) with r|r
    .exact r.symm
    .exact absurd (u.1 x q) (A _ _ (j.1 y r))
  subst C;have B: ∀{l:List α},(∀z∈l,R x z)->x∉l:=fun g m=>D x (g x m);rw[Af D A j.2 u.2 fun z=>⟨fun m=>?_,fun m=>?_⟩]
  .rcases OG.1 ((e z).1 (OF _ m)) with q|q
   .subst q;exact absurd m (B j.1)
   .exact q
  .rcases OG.1 ((e z).2 (OF _ m)) with q|q
   .subst q;exact absurd m (B u.1)
   .exact q
abbrev bP(F:Type):=Bool×F
def pf{F:Type}(c:F->F->Int)(l:List (bP F)):Prop:=l.Pairwise fun x y=>c x.2 y.2<0
theorem Gv{F:Type}{c:F->F->Int}{l:List F}(hl:qd c l)(g:F->Option (bP F))(hg: ∀f x,g f=co x->x.2=f):pf c (l.filterMap g):=by
 refine List.Pairwise.filterMap g (fun x y a u hu v b=>?_) hl;rw[hg _ _ hu,hg _ _ b];exact a
theorem pf.facts{F:Type}{c:F->F->Int}{l:List (bP F)}(hl:pf c l):qd c (l.map (·.2)):=QA.2 hl
theorem w4{F:Type}{c:F->F->Int}(h:TO c){a b:List (bP F)}(ha:pf c a)(hb:pf c b)(e: ∀x f,(x,f)∈a↔(x,f)∈b):a=b:=
 Af (R:=fun(x y:bP F)=>c x.2 y.2<0) (fun _=>h.Jl _) (fun _ _ q=>h.asym q) ha hb fun x=>e x.1 x.2
theorem um{F:Type}{c:F->F->Int}: ∀(l:List F),(qk c l).length<=l.length
 | []=>OJ _
 |x::l=>by
  have key: ∀(m:List F),(ins c x m).length<=m.length+1:=by
   intro m
   induction m with
   |nil=>exact OJ _
   |cons y r ih=>
    unfold ins;split
    .exact OJ _
    .split
     .exact RX ih
     .exact QH _
  exact Pm (key _) (RX (um l))
section
variable {F:Type} [DecidableEq F] (c:F->F->Int)
def cU(l:List (bP F))(f:F):Option Bool:=(l.reverse.find? fun x=>kw (x.2=f)).map (·.1)
def cz(S:List F)(l:List (bP F)):List (bP F):=
 (qk c (l.map (·.2))).filterMap fun f=>(cU l f).bind fun a=>if kw (f∈S)=a then io else co (a,f)
def dS(S:List F)(l:List (bP F)):List F:=(qk c (S++l.map (·.2))).filter fun f=>(cU l f).getD is
variable {c}
theorem kT{l:List (bP F)}{f:F}:cU l f=io↔f∉l.map (·.2):=by
 unfold cU;rw[QK,Qq];simp only[RY,decide_eq_true_eq,OZ,not_exists,not_and]
theorem ep{l:List (bP F)}{f:F}{a:Bool}(e:cU l f=co a):(a,f)∈l:=by
 unfold cU at e;rw[OD]at e;obtain⟨x,h1,rfl⟩:=e;have b:=List.find?_some h1;have j:=List.mem_of_find?_eq_some h1;rw[decide_eq_true_eq]at b;rw[<-b];exact RY.1 j
theorem sE{l:List (bP F)}{f:F}(hm:f∈l.map (·.2)): ∃a,cU l f=co a:=by
 cases e:cU l f with
 |none=>exact absurd hm (kT.1 e)
 |some a=>exact⟨a,rfl⟩
theorem yU{l:List (bP F)}(hn:(l.map (·.2)).Nodup){f:F}{a:Bool}:cU l f=co a↔(a,f)∈l:=by
 refine⟨ep,fun m=>?_⟩;obtain⟨b,hb⟩:=sE (OZ.2 ⟨_,m,rfl⟩:f∈l.map (·.2));have:=ep hb;have key: ∀{l:List (bP F)},(l.map (·.2)).Nodup->(a,f)∈l->(b,f)∈l->a=b:=by
  intro l
  induction l with
  |nil=>intro _ m;cases m
  |cons x r ih=>
   intro hn m1 m2;rw[OU,O7]at hn;rcases OG.1 m1 with e1|e1<;>rcases OG.1 m2 with e2|e2
   .have:=e1.trans e2.symm;exact congrArg Pq this
   .exact absurd (OZ.2 ⟨_,e2,by rw[<-e1]⟩) hn.1
   .exact absurd (OZ.2 ⟨_,e1,by rw[<-e2]⟩) hn.1
   .exact ih hn.2 e1 e2
 rw[hb,key hn m this]
theorem fx(h:TO c){S:List F}{l:List (bP F)}{a:Bool}{f:F}:(a,f)∈cz c S l↔cU l f=co a∧kw (f∈S)≠a:=by
 unfold cz;rw[List.mem_filterMap];constructor
 .rintro⟨g,_,e⟩;cases e1:cU l g with
  |none=>rw[e1]at e;cases e
  |some b=>
   rw[e1,QG]at e;split at e
   .cases e
   .rename_i q;cases e;exact⟨e1,q⟩
 .rintro⟨e1,e2⟩;refine⟨f,(pN h).2 (OZ.2 ⟨_,ep e1,rfl⟩),?_⟩;rw[e1,QG,be e2]
theorem kg(h:TO c){S:List F}{l:List (bP F)}{f:F}:f∈dS c S l↔(cU l f=co is∨cU l f=io∧f∈S):=by
 unfold dS;rw[O5,pN h,ON];cases e:cU l f with
 |none=>have:=kT.1 e;simp[this]
 |some a=>
  have:f∈l.map (·.2):=OZ.2 ⟨_,ep e,rfl⟩;cases a<;>simp[this]
theorem oy(h:TO c)(S:List F)(l:List (bP F)):qd c (dS c S l):=(pq h _).filter _
theorem iM(h:TO c)(S:List F)(l:List (bP F)):pf c (cz c S l):=Gv (pq h _) _ fun f x e=>by
 cases e1:cU l f with
 |none=>rw[e1]at e;cases e
 |some b=>
  rw[e1,QG]at e;split at e
  .cases e
  .cases e;rfl
theorem CO(S:List F)(l:List (bP F)):(cz c S l).length<=l.length:=by
 have:=List.length_filterMap_le (fun f=>(cU l f).bind fun a=>if kw (f∈S)=a then io else co (a,f)) (qk c (l.map (·.2)));have b:=um (c:=c) (l.map (·.2));rw[O3]at b;exact Pm this b
theorem xI(h:TO c){S:List F}(hS:qd c S)(l:List (bP F)):
  (dS c S l).length+((cz c S l).filter fun x=>!x.1).length=S.length+((cz c S l).filter fun x=>x.1).length:=by
 have hT:=iM h S l;have B: ∀q:bP F->Bool,(((cz c S l).filter q).map (·.2)).Nodup:=fun q=>
  (pf.facts (QB q hT)).nodup h
 have A:(S.filter fun f=>kw ((jp,f)∉cz c S l)).Nodup:=(hS.filter _).nodup h;have j: ∀(b:Bool) (f:F),f∈((cz c S l).filter fun x=>x.1==b).map (·.2)↔(b,f)∈cz c S l:=fun b f=>by
  rw[OZ];constructor
  .rintro⟨x,hx,rfl⟩;rw[O5,beq_iff_eq]at hx;rw[<-hx.2];exact hx.1
  .intro m;exact⟨_,O5.2 ⟨m,beq_self_eq_true b⟩,rfl⟩
 have G:(dS c S l).Perm ((S.filter fun f=>kw ((jp,f)∉cz c S l))++((cz c S l).filter fun x=>x.1==is).map (·.2)):=by
  refine(PZ ((oy h S l).nodup h) ?_).2 fun f=>?_
  .refine PU.2 ⟨A,B _,fun f u g y e=>?_⟩;subst e;rw[O5]at u;have:=(fx h).1 ((j is f).1 y);exact this.2 (decide_eq_true u.1)
  .rw[ON,O5,j,decide_eq_true_eq,fx h,fx h,kg h];by_cases m:f∈S<;>cases e:cU l f with
   |none=>simp[m]
   |some b=>cases b<;>simp[m]
 have I:S.Perm ((S.filter fun f=>kw ((jp,f)∉cz c S l))++((cz c S l).filter fun x=>x.1==jp).map (·.2)):=by
  refine(PZ (hS.nodup h) ?_).2 fun f=>?_
  .refine PU.2 ⟨A,B _,fun f u g y e=>?_⟩;subst e;rw[O5,decide_eq_true_eq]at u;exact u.2 ((j jp f).1 y)
  .rw[ON,O5,j,decide_eq_true_eq,fx h];by_cases m:f∈S<;>cases e:cU l f with
   |none=>simp[m]
   |some b=>cases b<;>simp[m]
 have C:=G.length_eq;have D:=I.length_eq;rw[Oy,O3]at C D;have c1:((cz c S l).filter fun x=>x.1==is)=(cz c S l).filter fun x=>x.1:=Qj fun x _=>by cases x.1<;>rfl
 have c2:((cz c S l).filter fun x=>x.1==jp)=(cz c S l).filter fun x=>!x.1:=Qj fun x _=>by cases x.1<;>rfl
 rw[c1]at C;rw[c2]at D;omega
theorem uR{B:List F}{f:F}{a:Bool}:cU (B.map fun x=>(is,x)) f=co a↔a=is∧f∈B:=by
 constructor
 .intro e;obtain⟨x,j,b⟩:=OZ.1 (ep e);cases b;exact⟨rfl,j⟩
 .rintro⟨rfl,m⟩;obtain⟨a,e⟩:=sE (l:=B.map fun x=>(is,x)) (f:=f) (by rw[PT];exact OZ.2 ⟨f,m,rfl⟩);rw[e];obtain⟨x,_,b⟩:=OZ.1 (ep e);cases b;rfl
theorem sD{B:List F}{f:F}:cU (B.map fun x=>(is,x)) f=io↔f∉B:=by
 rw[kT,PT];show f∉B.map id↔_;rw[List.map_id]
theorem Bc(h:TO c){S B:List F}(j:qd c B)(hd: ∀f∈B,f∉S):cz c S (B.map fun x=>(is,x))=B.map fun x=>(is,x):=
 w4 h (iM h _ _) (QA.2 j) fun a f=>by
  rw[fx h,uR];constructor
  .rintro⟨⟨rfl,m⟩,_⟩;exact OZ.2 ⟨f,m,rfl⟩
  .intro m;obtain⟨x,b,e⟩:=OZ.1 m;cases e;exact⟨⟨rfl,b⟩,by simp[hd f b]⟩
theorem DV(h:TO c){S B:List F}{f:F}:f∈dS c S (B.map fun x=>(is,x))↔f∈B∨f∈S:=by
 rw[kg h,uR,sD];by_cases m:f∈B<;>simp[m]
theorem xJ(h:TO c){S B:List F}(b:qd c (S++B)):dS c S (B.map fun x=>(is,x))=S++B:=
 zH h (oy h _ _) b fun f=>by rw[DV h,ON,Or.comm]
theorem CP(h:TO c){S B:List F}(b:qd c (S++B)):cz c S (B.map fun x=>(is,x))=B.map fun x=>(is,x):=
 Bc h (Qi.1 b).2.1 fun f j m=>h.Jl f ((Qi.1 b).2.2 f m f j)
end
section
variable {F:Type} (c:F->F->Int)
def c6:List F->List F->List (bP F)
 | [],b=>b.map fun f=>(is,f)
 |a,[]=>a.map fun f=>(jp,f)
 |x::a,y::b=>if c x y<0 then(jp,x)::c6 a (y::b) else if 0<c x y then(is,y)::c6 (x::a) b else c6 a b
 termination_by a b=>a.length+b.length
variable {c}
theorem kM(b:List F):c6 c [] b=b.map fun f=>(is,f):=by unfold c6;rfl
theorem qw(a:List F):c6 c a []=a.map fun f=>(jp,f):=by
 cases a with
 |nil=>unfold c6;rfl
 |cons=>unfold c6;rfl
theorem qx(x y:F)(a b:List F):c6 c (x::a) (y::b)=if c x y<0 then(jp,x)::c6 c a (y::b) else if 0<c x y then(is,y)::c6 c (x::a) b else c6 c a b:=by
 rw[c6]
structure gr (c:F->F->Int) (ok:F->Bool) (S:List F):Prop where
 Gw:qd c S
 ok: ∀f∈S,ok f=is
 few:S.length<=65536
theorem gr.nil(c:F->F->Int)(ok:F->Bool):gr c ok []:=⟨QS,fun _ m=>(nomatch m),OL _⟩
variable [DecidableEq F]
def eS(c:F->F->Int)(ok:F->Bool)(S:List F)(l:List (bP F)):Int:=
 if 4096<l.length then 2 else if(l.all fun x=>ok x.2)=jp then 5 else if 65536<(dS c S l).length then 3 else 0
abbrev Stt(F:Type):=List F×Nat
def iC(c:F->F->Int)(ok:F->Bool)(s:Stt F)(l:List (bP F)):Stt F:=if eS c ok s.1 l=0 then(dS c s.1 l,s.2+1) else s
theorem j9{ok:F->Bool}{S:List F}{l:List (bP F)}:eS c ok S l=0↔l.length<=4096∧(∀x∈l,ok x.2=is)∧(dS c S l).length<=65536:=by
 unfold eS;split
 .exact⟨fun e=>by simp at e,fun e=>by omega⟩
 .split
  .rename_i q r;refine⟨fun e=>by simp at e,fun e=>?_⟩;rw[Pc.2 e.2.1]at r;cases r
  .split
   .exact⟨fun e=>by simp at e,fun e=>by omega⟩
   .rename_i q r t;refine⟨fun _=>⟨by omega,?_,by omega⟩,fun _=>rfl⟩;rw[RT]at r;exact Pc.1 r
theorem gr.next(h:TO c){ok:F->Bool}{S:List F}{l:List (bP F)}(hS:gr c ok S)(e:eS c ok S l=0):gr c ok (dS c S l):=by
 rw[j9]at e;refine⟨oy h S l,fun f m=>?_,e.2.2⟩;rcases(kg h).1 m with q|⟨_,q⟩
 .exact e.2.1 _ (ep q)
 .exact hS.ok f q
end
section
variable {F:Type} [DecidableEq F]
def jt:List (bP F)->bP F->List (bP F)
 | [],c=> [c]
 |x::r,c=>if x.2=c.2 then c::r else x::jt r c
def lz(l:List (bP F)):List (bP F):=l.foldl jt []
theorem xM{a:Bool}{f:F}: ∀{T:List (bP F)} {c:bP F},(T.map (·.2)).Nodup->((a,f)∈jt T c↔(a,f)=c∨(f≠c.2∧(a,f)∈T))
 | [],c,_=>by simp[jt]
 |x::r,c,hn=>by
  rw[OU,O7]at hn;unfold jt;split
  .rename_i e;rw[OG,OG];constructor
   .rintro(q|q)
    .exact .inl q
    .refine .inr ⟨fun b=>hn.1 (OZ.2 ⟨_,q,?_⟩),.inr q⟩;show f=x.2;rw[b,e]
   .rintro(q|⟨q,r1|r1⟩)
    .exact .inl q
    .exact absurd (by rw[<-e,<-r1]) q
    .exact .inr r1
  .rename_i e;rw[OG,OG,xM hn.2];constructor
   .rintro(q|q|⟨q,r1⟩)
    .exact .inr ⟨fun b=>e (by rw[<-q];exact b),.inl q⟩
    .exact .inl q
    .exact .inr ⟨q,.inr r1⟩
   .rintro(q|⟨q,r1|r1⟩)
    .exact .inr (.inl q)
    .exact .inl r1
    .exact .inr (.inr ⟨q,r1⟩)
theorem sX{f:F}: ∀{T:List (bP F)} {c:bP F},f∈(jt T c).map (·.2)↔f=c.2∨f∈T.map (·.2)
 | [],c=>by simp[jt]
 |x::r,c=>by
  unfold jt;split
  .rename_i e;simp only[OU,OG];rw[e];constructor
   .rintro(q|q)
    .exact .inl q
    .exact .inr (.inr q)
   .rintro(q|q|q)
    .exact .inl q
    .exact .inl q
    .exact .inr q
  .simp only[OU,OG,sX (T:=r)];constructor
   .rintro(q|q|q)
    .exact .inr (.inl q)
    .exact .inl q
    .exact .inr (.inr q)
   .rintro(q|q|q)
    .exact .inr (.inl q)
    .exact .inl q
    .exact .inr (.inr q)
theorem sj: ∀{T:List (bP F)} {c:bP F},(T.map (·.2)).Nodup->((jt T c).map (·.2)).Nodup
 | [],c,_=>by simp[jt]
 |x::r,c,hn=>by
  rw[OU,O7]at hn;unfold jt;split
  .rename_i e;rw[OU,O7,<-e];exact hn
  .rename_i e;rw[OU,O7,sX];exact⟨fun q=>q.elim e hn.1,sj hn.2⟩
theorem yT(l:List (bP F))(c:bP F)(f:F):cU (l++ [c]) f=if c.2=f then co c.1 else cU l f:=by
 unfold cU;rw[List.reverse_append,List.reverse_singleton,RD,RA];by_cases e:c.2=f
 .rw[am e,decide_eq_true e];rfl
 .rw[be e,decide_eq_false e]
theorem nZ(l:List (bP F)):((lz l).map (·.2)).Nodup∧ ∀(a:Bool) (f:F),(a,f)∈lz l↔cU l f=co a:=by
 suffices key: ∀(m k:List (bP F)) (T:List (bP F)),(T.map (·.2)).Nodup->(∀(a:Bool) (f:F),(a,f)∈T↔cU k f=co a)->
   ((m.foldl jt T).map (·.2)).Nodup∧ ∀(a:Bool) (f:F),(a,f)∈m.foldl jt T↔cU (k++m) f=co a by
  have:=key l [] [] Pe fun a f=>by simp[cU]
  exact this
 intro m
 induction m with
 |nil=>intro k T h1 b;rw[Pt];exact⟨h1,b⟩
 |cons c m ih=>
  intro k T h1 b;have:=ih (k++ [c]) (jt T c) (sj h1) fun a f=>by
   rw[xM h1,yT,b];by_cases e:c.2=f
   .rw[am e];constructor
    .rintro(q|⟨q,_⟩)
     .rw[<-q]
     .exact absurd e.symm q
    .intro q;left;have:=Pf q;rw[<-this,<-e]
   .rw[be e];constructor
    .rintro(q|⟨_,q⟩)
     .exact absurd (by rw[<-q]) e
     .exact q
    .intro q;exact .inr ⟨fun g=>e g.symm,q⟩
  rw[OS,RD]at this;exact this
theorem kU{c:F->F->Int}(h:TO c)(S:List F)(l:List (bP F)):((lz l).filter fun x=>!(kw (x.2∈S)==x.1)).Perm (cz c S l):=by
 obtain⟨h1,j⟩:=nZ l;have b: ∀{t:List (bP F)},(t.map (·.2)).Nodup->t.Nodup:=fun{t} q=>by
  have:=QA.1 q;exact this.imp fun a e=>a (by rw[e])
 refine(PZ (QB _ (b h1)) (b ((pf.facts (iM h S l)).nodup h))).2 fun x=>?_;obtain⟨a,f⟩:=x;rw[O5,j,fx h];simp
theorem BD{kc:Go.Al.KC}{key:F->kc.K}(T:List (bP F))(c:bP F)(b: ∀x∈T,key x.2=key c.2->x.2=c.2):
  Go.Al.ct kc (T.map fun x=>(key x.2,x)) (key c.2) c=(jt T c).map fun x=>(key x.2,x):=by
 induction T with
 |nil=>rfl
 |cons x r ih=>
  simp only[OU,Go.Al.ct,jt];by_cases e:key x.2=key c.2
  .rw[am e,am (b x (OH ..) e),OU]
  .rw[be e,be (fun q=>e (by rw[q])),OU,ih fun u hu=>b u (OF _ hu)]
end
end
end Go.Bo
namespace Go.Proofs.YtllkaddcplhklaaGreatDoor
open Go Go.Al Go.Proofs.Tryz Go.Bo
theorem u7: ∀a b:List UInt8,Lib.compareBytes a b=cmpL jT (a.map fun x=>(x.toNat:Int)) (b.map fun x=>(x.toNat:Int))
 | [],[]=>rfl
 | [],_::_=>rfl
 |_::_,[]=>rfl
 |x::a,y::b=>by
  simp only[Lib.compareBytes,OU,cmpL,u7 a b];have h1:(x<y)↔((x.toNat:Int)<(y.toNat:Int)):=by rw[UInt8.lt_iff_toNat_lt];omega
  have j:(y<x)↔((y.toNat:Int)<(x.toNat:Int)):=by rw[UInt8.lt_iff_toNat_lt];omega
  simp only[rb,jT,h1,j];split
  .simp
  .split
   .simp
   .simp
theorem tX(a b:ak)(w:World):(callFunc 114 #[.string a,.string b]).run prog w= .ok (.value (.int .i64 (nW a b))) w:=by
 rw[run_callFunc_extern func114 (by kernel_rfl) (by kernel_rfl) (by kernel_rfl) (e:=Extern.BytealgCompare.compare) (by kernel_rfl),Lib.run_compareString,u7];rfl
theorem Dg(a b:ak):Pure prog 79 [pS a,pS b] (pI (nW a b)):=by
 refine ai ab func79 Z (by decide) ntmps79 Z (by simp) Z ?_;refine gA Z (Hw (.int .i64 (nW a b)) Z Z Z Z (tX a b) Z ?_);refine gA Z (aT (by first|exact .inr Z|exact .inl Z) Z (.of_eq ?_));rfl
theorem z6(a b:ak):Pure prog 60 [pS a,pS b] (pI (nW a b)):=by
 refine ai ab func60 Z (by decide) ntmps60 Z (by simp) Z ?_;refine gA Z (aB (Dg a b) Z Z Z Z Z Z ?_);refine gA Z (aT (by first|exact .inr Z|exact .inl Z) Z (.of_eq ?_));rfl
theorem Mt(n:Int):Pure prog 151 [pI n] (pB jp):=by
 refine ai ab func151 Z (by decide) ntmps151 Z (by simp) Z ?_;refine gA Z (aT (by first|exact .inr Z|exact .inl Z) Z (.of_eq ?_));show pB (!kw (n=n))=pB jp;simp
theorem Jg(a b:Int):Pure prog 115 [pI a,pI b] (pI (jT a b)):=by
 refine ai ab func115 Z (by decide) ntmps115 Z (by simp) Z ?_;refine gA Z (aB (Mt a) Z Z Z Z Z Z ?_);refine gA Z (aB (Mt b) Z Z Z Z Z Z ?_);refine gA Z ?_;refine Oz (fun x=>?_) (fun x=>?_)
 .exact absurd x (by decide)
 refine gA Z ?_;refine Oz (fun y=>?_) (fun y=>?_)
 .exact absurd y (by decide)
 refine gA Z ?_;refine Oz (fun j=>?_) (fun j=>?_)
 .have j:a<b:=by simpa using j
  refine gA Z (aT (by first|exact .inr Z|exact .inl Z) Z (.of_eq ?_));rw[jT,am j];rfl
 have j: ¬a<b:=by simpa using j
 refine gA Z ?_;refine Oz (fun u=>?_) (fun u=>?_)
 .have u:b<a:=by simpa using u
  refine gA Z (aT (by first|exact .inr Z|exact .inl Z) Z (.of_eq ?_));rw[jT,be j,am u];rfl
 .have u: ¬b<a:=by simpa using u
  refine gA Z (aT (by first|exact .inr Z|exact .inl Z) Z (.of_eq ?_));rw[jT,be j,be u];rfl
def Cu:List Int->Int
 | []=>0
 |x::r=>rb x (Cu r)
theorem xC{l:List Int}{i:Nat}(h: ∀x∈l.take i,x=0):Cu l=Cu (l.drop i):=by
 induction i generalizing l with
 |zero=>rfl
 |succ i ih=>
  cases l with
  |nil=>rfl
  |cons x r=>
   have b:x=0:=h x (by simp);rw[Cu,b,rb,am Z,List.drop_succ_cons];exact ih fun y j=>h y (by simp[j])
theorem sOr(l:List Int)(hl:l.length<=100):bC prog 59 [.sl 0 0 l.length 1] [aP 1 l iY] (pI (Cu l)) [] 1:=by
 refine au ab func59 Z (by decide) ntmps59 Z (by simp) ?_;refine we 0 (fun k=>iY (l.getD k ci)) Z (dG Z) (show AF.oq 0 1 (l.map fun x=>(iY x).map PV.iv).length [(0,.sl 0 0 l.length 1)] from⟨by simp[PV.cF],ac⟩) ⟨G4 _ _ _ _ _ _,ac⟩ ?_;refine gA Z ?_;refine aK 0 l.length (OL _) (fun i=>⟨[(3,pI 0),(6,.iv (bw 1 l iY)),(7,pI l.length),(8,pI i)],[],1⟩) (fun i=> ∀x∈l.take i,x=0) [] (by simp)
  (wk Z Z Z (bi ⟨.ck Z (fun k _=>by rw[OY]),rfl,bi (bi trivial)⟩) trivial Z) fun i y j=>?_
 refine gA Z ?_;refine Oz (fun h1=>?_) (fun h1=>?_)
 .have h1:i<l.length:=by simpa using h1
  have hd:l.drop i=l.getD i ci::l.drop (i+1):=by
   rw[Ow,Ox h1,Px,Qs h1]
  refine gA Z ?_;refine Oz (fun b=>?_) (fun b=>?_)
  .have b: ¬l.getD i ci=0:=by simpa using b
   have:Cu l=l.getD i ci:=by rw[xC j,hd,Cu,rb,be b]
   rw[this];refine gA Z (aY [] (by first|exact .inr Z|exact .inl Z) Z (wk Z Z Z (bi ac) ac Z))
  .have b:l.getD i ci=0:=by simpa using b
   refine gA Z ?_;refine⟨h1,fun x u=>?_,[],wk Z Z Z (bi (bi (bi (bi ac)))) ac Z⟩;rw[ch h1,ON,OI]at u;exact u.elim (j x) fun e=>e.trans b
 .have h1:l.length<=i:=by simpa using h1
  have:Cu l=0:=by rw[xC j,QN h1];rfl
  rw[this];refine gA Z (aY [] (by first|exact .inr Z|exact .inl Z) Z (wk Z Z Z (bi ac) ac Z))
theorem MA(a b:c8):Pure prog 81 [ag a.c,ag b.c] (pI (wu a b)):=by
 have e:wu a b=Cu [jT a.kind b.kind,jT a.num b.num,nW a.sym b.sym]:=by
  simp only[wu,Cu];have:rb (nW a.sym b.sym) 0=nW a.sym b.sym:=by unfold rb;split<;>simp_all
  rw[this]
 rw[e];refine ai ab func81 Z (by decide) ntmps81 Z (by simp) Z ?_;refine gA Z (bA ab [] (Pure.tC (Jg a.kind b.kind)) Z Z Z Z Z Z Z Z Z Z Z Z (by(repeat' (first|exact ac|exact rfl|exact an.refl _|exact an.bk (by assumption)|apply Oz))<;>first|omega|(simp only[OA];omega)|(simp;done)|(simp;omega)) Z (by(repeat' (first|exact ac|exact rfl|exact an.refl _|exact an.bk (by assumption)|apply Oz))<;>first|omega|(simp only[OA];omega)|(simp;done)|(simp;omega)) ?_);refine gA Z (bA ab [] (Pure.tC (Jg a.num b.num)) Z Z Z Z Z Z Z Z Z Z Z Z (by(repeat' (first|exact ac|exact rfl|exact an.refl _|exact an.bk (by assumption)|apply Oz))<;>first|omega|(simp only[OA];omega)|(simp;done)|(simp;omega)) Z (by(repeat' (first|exact ac|exact rfl|exact an.refl _|exact an.bk (by assumption)|apply Oz))<;>first|omega|(simp only[OA];omega)|(simp;done)|(simp;omega)) ?_);refine gA Z (bA ab [] (Pure.tC (z6 a.sym b.sym)) Z Z Z Z Z Z Z Z Z Z Z Z (by(repeat' (first|exact ac|exact rfl|exact an.refl _|exact an.bk (by assumption)|apply Oz))<;>first|omega|(simp only[OA];omega)|(simp;done)|(simp;omega)) Z (by(repeat' (first|exact ac|exact rfl|exact an.refl _|exact an.bk (by assumption)|apply Oz))<;>first|omega|(simp only[OA];omega)|(simp;done)|(simp;omega)) ?_);refine gA Z (bA ab [2] (sOr [jT a.kind b.kind,jT a.num b.num,nW a.sym b.sym] (by simp)) Z Z Z Z Z Z Z Z Z Z Z Z (by(repeat' (first|exact ac|exact rfl|exact an.refl _|exact an.bk (by assumption)|apply Oz))<;>first|omega|(simp only[OA];omega)|(simp;done)|(simp;omega)) Z (by(repeat' (first|exact ac|exact rfl|exact an.refl _|exact an.bk (by assumption)|apply Oz))<;>first|omega|(simp only[OA];omega)|(simp;done)|(simp;omega)) ?_);refine gA Z (aT (by first|exact .inr Z|exact .inl Z) Z (.of_eq ?_));rfl
theorem KD(a b:List c8)(ha:a.length<=1000000000)(hb:b.length<=1000000000):Pure prog 80 [.iv (bw 3 a c8.c),.iv (bw 3 b c8.c),.b4 (.func 81) [] []] (pI (q9 a b)):=by
 refine ai ab func80 Z (by decide) ntmps80 Z (by simp) Z ?_;refine gA Z ?_;refine aK 0 a.length (OL _) (fun i=>⟨[(0,.iv (bw 3 a c8.c)),(1,.iv (bw 3 b c8.c)),(2,.b4 (.func 81) [] []),(11,.iv (bw 3 a c8.c)),(12,pI a.length),(13,pI i)],[],0⟩) (fun i=>i<=b.length∧q9 a b=q9 (a.drop i) (b.drop i)) [] ⟨OL _,rfl⟩
  (wk Z Z Z (bi (bi (bi (bi (bi (bi trivial)))))) trivial Z) fun i C x=>?_
 obtain⟨B,x⟩:=x;refine gA Z ?_;refine Oz (fun h1=>?_) (fun h1=>?_)
 .have h1:i<a.length:=by simpa using h1
  have hd:a.drop i=a.getD i ci::a.drop (i+1):=by
   rw[Ow,Ox h1,Px,Qs h1]
  refine gA Z ?_;refine Oz (fun j=>?_) (fun j=>?_)
  .have j:b.length<=i:=by simpa using j
   rw[x,hd,QN j];refine gA Z (aT (by first|exact .inr Z|exact .inl Z) Z (.of_eq ?_));rfl
  .have j:i<b.length:=by simpa using j
   have A:b.drop i=b.getD i ci::b.drop (i+1):=by
    rw[Ow,Ox j,Px,Qs j]
   have hs:q9 a b=rb (wu (a.getD i ci) (b.getD i ci)) (q9 (a.drop (i+1)) (b.drop (i+1))):=by rw[x,hd,A];rfl
   refine gA Z (aB (MA (a.getD i ci) (b.getD i ci)) Z Z Z Z Z Z ?_);refine gA Z ?_;refine Oz (fun u=>?_) (fun u=>?_)
   .have u: ¬wu (a.getD i ci) (b.getD i ci)=0:=by simpa using u
    rw[hs,rb,be u];refine gA Z (aT (by first|exact .inr Z|exact .inl Z) Z (.of_eq ?_));rfl
   .have u:wu (a.getD i ci) (b.getD i ci)=0:=by simpa using u
    refine gA Z ⟨h1,⟨j,by rw[hs,u,rb,am Z]⟩,[],wk Z Z Z (bi (bi (bi (bi (bi (bi ac)))))) ac Z⟩
 .have h1:a.length<=i:=by simpa using h1
  have y:i=a.length:=by omega
  subst y;rw[x,QN (OJ a.length)];refine gA Z ?_;refine Oz (fun j=>?_) (fun j=>?_)
  .have j:a.length<b.length:=by simpa using j
   rw[Qs j];refine gA Z (aT (by first|exact .inr Z|exact .inl Z) Z (.of_eq ?_));rfl
  .have j:b.length<=a.length:=by simpa using j
   rw[QN j];refine gA Z (aT (by first|exact .inr Z|exact .inl Z) Z (.of_eq ?_));rfl
theorem MC(a b:List c8)(ha:a.length<=1000000000)(hb:b.length<=1000000000):Pure prog 61 [.iv (bw 3 a c8.c),.iv (bw 3 b c8.c)] (pI (q9 a b)):=by
 refine ai ab func61 Z (by decide) ntmps61 Z (by simp) Z ?_;refine gA Z (aB (KD a b ha hb) Z Z Z Z Z Z ?_);refine gA Z (aT (by first|exact .inr Z|exact .inl Z) Z (.of_eq ?_));rfl
theorem qm(a b:Fact)(ha:a.args.length<=1000000000)(hb:b.args.length<=1000000000):Pure prog 34 [ag a.c,ag b.c] (pI (aR a b)):=by
 have e:aR a b=Cu [nW a.rel b.rel,q9 a.args b.args]:=by
  simp only[aR,Cu];have:rb (q9 a.args b.args) 0=q9 a.args b.args:=by unfold rb;split<;>simp_all
  rw[this]
 rw[e];refine ai ab func34 Z (by decide) ntmps34 Z (by simp) Z ?_;refine gA Z (bA ab [] (Pure.tC (z6 a.rel b.rel)) Z Z Z Z Z Z Z Z Z Z Z Z (by(repeat' (first|exact ac|exact rfl|exact an.refl _|exact an.bk (by assumption)|apply Oz))<;>first|omega|(simp only[OA];omega)|(simp;done)|(simp;omega)) Z (by(repeat' (first|exact ac|exact rfl|exact an.refl _|exact an.bk (by assumption)|apply Oz))<;>first|omega|(simp only[OA];omega)|(simp;done)|(simp;omega)) ?_);refine gA Z (bA ab [] (Pure.tC (MC a.args b.args ha hb)) Z Z Z Z Z Z Z Z Z Z Z Z (by(repeat' (first|exact ac|exact rfl|exact an.refl _|exact an.bk (by assumption)|apply Oz))<;>first|omega|(simp only[OA];omega)|(simp;done)|(simp;omega)) Z (by(repeat' (first|exact ac|exact rfl|exact an.refl _|exact an.bk (by assumption)|apply Oz))<;>first|omega|(simp only[OA];omega)|(simp;done)|(simp;omega)) ?_);refine gA Z (bA ab [2] (sOr [nW a.rel b.rel,q9 a.args b.args] (by simp)) Z Z Z Z Z Z Z Z Z Z Z Z (by(repeat' (first|exact ac|exact rfl|exact an.refl _|exact an.bk (by assumption)|apply Oz))<;>first|omega|(simp only[OA];omega)|(simp;done)|(simp;omega)) Z (by(repeat' (first|exact ac|exact rfl|exact an.refl _|exact an.bk (by assumption)|apply Oz))<;>first|omega|(simp only[OA];omega)|(simp;done)|(simp;omega)) ?_);refine gA Z (aT (by first|exact .inr Z|exact .inl Z) Z (.of_eq ?_));rfl
def bL(x:bP Fact):List IV:= .v (.bool x.1)::x.2.c
theorem GN(a b:bP Fact)(ha:a.2.args.length<=1000000000)(hb:b.2.args.length<=1000000000):Pure prog 51 [ag (bL a),ag (bL b)] (pI (aR a.2 b.2)):=by
 refine ai ab func51 Z (by decide) ntmps51 Z (by simp) Z ?_;refine gA Z (aB (qm a.2 b.2 ha hb) Z Z Z Z Z Z ?_);refine gA Z (aT (by first|exact .inr Z|exact .inl Z) Z (.of_eq ?_));rfl
section
theorem bj{a b:Int}(h:a=b):an (pI a) (pI b):=h▸ .refl _
theorem eK{α:Type}[Inhabited α](l:List α)(f:α->List IV):((O4 l.length).map fun k=>(f (l.getD k ci)).map PV.iv)=l.map fun x=>(f x).map PV.iv:=by
 refine Rb (by simp) fun i h1 b=>?_;simp only[O3]at b;simp[Ox b]
def Up(L:List Fact):Prop:= ∀i j,i<j->j<L.length-> ¬aR (L.getD j ci) (L.getD i ci)<0
theorem Ly{L:List Fact}(h:qd aR L):Up L:=fun i j b u=>by
 have:=(PH.1 h) i j (by omega) u b;rw[Ow,Ow,Ox u,Ox (by omega:i<L.length)];exact mD.asym this
def zk(L:List Fact):Prop:= ∀f∈L,f.args.length<=1000000000
theorem B8{L:List Fact}{i:Nat}(hi:i<L.length):L.getD i ci∈L:=by
 rw[Ow,Ox hi];exact Pg hi
theorem zk.at{L:List Fact}(h:zk L){i:Nat}(hi:i<L.length):(L.getD i ci).args.length<=1000000000:=h _ (B8 hi)
abbrev aA:PV:= .b4 (.func 34) [] []
abbrev bb(L:List Fact):PV:= .iv (bw 2 L Fact.c)
theorem oS(i j:Nat)(h:i+j<=4000000000000):IntKind.i64.wrap (Int.fdiv (IntKind.u64.wrap ((i:Int)+(j:Int))) (2 ^ min (Int.toNat 1) IntKind.u64.bits))=(((i+j)/2:Nat):Int):=by
 have h1:IntKind.u64.wrap ((i:Int)+(j:Int))=((i+j:Nat):Int):=by simp[IntKind.wrap,IntKind.bits,IntKind.signed];omega
 rw[h1];have b:Int.fdiv (((i+j:Nat)):Int) (2 ^ min (Int.toNat 1) IntKind.u64.bits)=(((i+j)/2:Nat):Int):=by
  show Int.fdiv _ 2=_;rw[Int.fdiv_eq_ediv_of_nonneg _ (by decide)];omega
 rw[b];simp[IntKind.wrap,IntKind.bits,IntKind.signed];omega
section
variable {L:List Fact} (hu:Up L) (hF:zk L) (hl:L.length<=1000000000000)
include hu hF hl
theorem Mw(a b:Nat)(j:a<=b)(hb:b<=L.length):Pure prog 105 [bb L,pI a,pI b,aA] (.bf []):=by
 refine ai ab func105 Z (by decide) ntmps105 Z (by simp) Z ?_;refine gA Z ?_;refine aK (a+1) (max (a+1) b) (Nat.le_max_left _ _) (fun i=>⟨[(0,bb L),(1,pI a),(2,pI b),(3,aA),(8,pI i)],[],0⟩) (fun i=>a+1<=i) [] (OJ _)
  (wk Z Z Z (bi (bi (bi (bi (bi trivial))))) trivial Z) fun i x u=>?_
 refine gA Z ?_;refine Oz (fun h1=>?_) (fun h1=>?_)
 .have h1:i<b:=by simpa using h1
  refine gA Z (n9 (n:=0) ?_);have e:((i:Int)-1).toNat=i-1:=by omega
  refine gA Z ?_;refine Oz (fun g1=>?_) (fun g1=>?_)
  .refine gA Z (bA ab [] (Pure.tC (qm (L.getD i ci) (L.getD ((i:Int)-1).toNat ci) (hF.at (by omega)) (hF.at (by omega)))) Z Z Z Z Z Z Z Z Z Z Z Z (by(repeat' (first|exact ac|exact rfl|exact an.refl _|exact an.bk (by assumption)|apply Oz))<;>first|omega|(simp only[OA];omega)|(simp;done)|(simp;omega)) Z (by(repeat' (first|exact ac|exact rfl|exact an.refl _|exact an.bk (by assumption)|apply Oz))<;>first|omega|(simp only[OA];omega)|(simp;done)|(simp;omega)) ?_);refine gA Z ?_;refine Oz (fun g2=>?_) (fun g2=>?_)
   .exact absurd (of_decide_eq_true g2) (by rw[e];exact hu (i-1) i (by omega) (by omega))
   .refine gA Z ?_;exact⟨by omega,by omega,[],wk Z Z Z (bi (bi (bi (bi (bi ac))))) ac Z⟩
  .exact absurd g1 (by simp;omega)
 .refine gA Z (aT (by first|exact .inr Z|exact .inl Z) Z (.of_eq ?_));rfl
theorem Mo: ∀(n a m b:Nat),b-a<=n->a<m->m<b->b<=L.length->Pure prog 113 [bb L,pI a,pI m,pI b,aA] (.bf []):=by
 intro n
 induction n with
 |zero=>intro a m b h0 h1 R h3;omega
 |succ n ih=>
  intro a m b h0 h1 R h3;refine ai ab func113 Z (by decide) ntmps113 Z (by simp) Z ?_;refine gA Z ?_;refine Oz (fun I=>?_) (fun I=>?_)
  .have I:m=a+1:=by have:=of_decide_eq_true I;(try dsimp only at this);omega
   refine gA Z (gi (σ:={j:Nat//m<=j∧j<=b}) (fun j=>⟨[(0,bb L),(1,pI a),(2,pI m),(3,pI b),(4,aA),(10,pI m),(11,pI j.1)],[],0⟩) (fun j=>j.1-m) ⟨b,by omega,OJ _⟩ []
    (wk Z Z Z (bi (bi (bi (bi (bi (bi (bi ac))))))) ac Z) fun j=>?_)
   obtain⟨j,j1,j2⟩:=j;refine gA Z ?_;refine Oz (fun g1=>?_) (fun g1=>?_)
   .have g1:m<j:=by simpa using g1
    have x:=oS m j (by omega)
    first
     |(refine gM 1 Z ?_;refine ae (L:=[]) (t:=⟨[(0,bb L),(1,pI a),(2,pI m),(3,pI b),(4,aA),(10,pI m),(11,pI j),(12,pI ((m+j)/2:Nat))],[],0⟩) (wk Z Z Z (bi (bi (bi (bi (bi (bi (bi ⟨bj x,rfl,ac⟩))))))) ac Z) ?_)
     |(refine gM 2 Z ?_;refine ae (L:=[]) (t:=⟨[(0,bb L),(1,pI a),(2,pI m),(3,pI b),(4,aA),(10,pI m),(11,pI j),(12,pI ((m+j)/2:Nat))],[],0⟩) (wk Z Z Z (bi (bi (bi (bi (bi (bi (bi ⟨bj x,rfl,ac⟩))))))) ac Z) ?_)
     |(refine gM 3 Z ?_;refine ae (L:=[]) (t:=⟨[(0,bb L),(1,pI a),(2,pI m),(3,pI b),(4,aA),(10,pI m),(11,pI j),(12,pI ((m+j)/2:Nat))],[],0⟩) (wk Z Z Z (bi (bi (bi (bi (bi (bi (bi ⟨bj x,rfl,ac⟩))))))) ac Z) ?_)
     |(refine gM 4 Z ?_;refine ae (L:=[]) (t:=⟨[(0,bb L),(1,pI a),(2,pI m),(3,pI b),(4,aA),(10,pI m),(11,pI j),(12,pI ((m+j)/2:Nat))],[],0⟩) (wk Z Z Z (bi (bi (bi (bi (bi (bi (bi ⟨bj x,rfl,ac⟩))))))) ac Z) ?_)
     |(refine gM 5 Z ?_;refine ae (L:=[]) (t:=⟨[(0,bb L),(1,pI a),(2,pI m),(3,pI b),(4,aA),(10,pI m),(11,pI j),(12,pI ((m+j)/2:Nat))],[],0⟩) (wk Z Z Z (bi (bi (bi (bi (bi (bi (bi ⟨bj x,rfl,ac⟩))))))) ac Z) ?_)
     |(refine gM 6 Z ?_;refine ae (L:=[]) (t:=⟨[(0,bb L),(1,pI a),(2,pI m),(3,pI b),(4,aA),(10,pI m),(11,pI j),(12,pI ((m+j)/2:Nat))],[],0⟩) (wk Z Z Z (bi (bi (bi (bi (bi (bi (bi ⟨bj x,rfl,ac⟩))))))) ac Z) ?_)
     |(refine gM 7 Z ?_;refine ae (L:=[]) (t:=⟨[(0,bb L),(1,pI a),(2,pI m),(3,pI b),(4,aA),(10,pI m),(11,pI j),(12,pI ((m+j)/2:Nat))],[],0⟩) (wk Z Z Z (bi (bi (bi (bi (bi (bi (bi ⟨bj x,rfl,ac⟩))))))) ac Z) ?_)
     |(refine gM 8 Z ?_;refine ae (L:=[]) (t:=⟨[(0,bb L),(1,pI a),(2,pI m),(3,pI b),(4,aA),(10,pI m),(11,pI j),(12,pI ((m+j)/2:Nat))],[],0⟩) (wk Z Z Z (bi (bi (bi (bi (bi (bi (bi ⟨bj x,rfl,ac⟩))))))) ac Z) ?_)
     |(refine gM 9 Z ?_;refine ae (L:=[]) (t:=⟨[(0,bb L),(1,pI a),(2,pI m),(3,pI b),(4,aA),(10,pI m),(11,pI j),(12,pI ((m+j)/2:Nat))],[],0⟩) (wk Z Z Z (bi (bi (bi (bi (bi (bi (bi ⟨bj x,rfl,ac⟩))))))) ac Z) ?_)
     |(refine gM 10 Z ?_;refine ae (L:=[]) (t:=⟨[(0,bb L),(1,pI a),(2,pI m),(3,pI b),(4,aA),(10,pI m),(11,pI j),(12,pI ((m+j)/2:Nat))],[],0⟩) (wk Z Z Z (bi (bi (bi (bi (bi (bi (bi ⟨bj x,rfl,ac⟩))))))) ac Z) ?_)
     |(refine gM 11 Z ?_;refine ae (L:=[]) (t:=⟨[(0,bb L),(1,pI a),(2,pI m),(3,pI b),(4,aA),(10,pI m),(11,pI j),(12,pI ((m+j)/2:Nat))],[],0⟩) (wk Z Z Z (bi (bi (bi (bi (bi (bi (bi ⟨bj x,rfl,ac⟩))))))) ac Z) ?_)
     |(refine gM 12 Z ?_;refine ae (L:=[]) (t:=⟨[(0,bb L),(1,pI a),(2,pI m),(3,pI b),(4,aA),(10,pI m),(11,pI j),(12,pI ((m+j)/2:Nat))],[],0⟩) (wk Z Z Z (bi (bi (bi (bi (bi (bi (bi ⟨bj x,rfl,ac⟩))))))) ac Z) ?_)
     |(refine gM 13 Z ?_;refine ae (L:=[]) (t:=⟨[(0,bb L),(1,pI a),(2,pI m),(3,pI b),(4,aA),(10,pI m),(11,pI j),(12,pI ((m+j)/2:Nat))],[],0⟩) (wk Z Z Z (bi (bi (bi (bi (bi (bi (bi ⟨bj x,rfl,ac⟩))))))) ac Z) ?_)
     |(refine gM 14 Z ?_;refine ae (L:=[]) (t:=⟨[(0,bb L),(1,pI a),(2,pI m),(3,pI b),(4,aA),(10,pI m),(11,pI j),(12,pI ((m+j)/2:Nat))],[],0⟩) (wk Z Z Z (bi (bi (bi (bi (bi (bi (bi ⟨bj x,rfl,ac⟩))))))) ac Z) ?_)
     |(refine gM 15 Z ?_;refine ae (L:=[]) (t:=⟨[(0,bb L),(1,pI a),(2,pI m),(3,pI b),(4,aA),(10,pI m),(11,pI j),(12,pI ((m+j)/2:Nat))],[],0⟩) (wk Z Z Z (bi (bi (bi (bi (bi (bi (bi ⟨bj x,rfl,ac⟩))))))) ac Z) ?_)
     |(refine gM 16 Z ?_;refine ae (L:=[]) (t:=⟨[(0,bb L),(1,pI a),(2,pI m),(3,pI b),(4,aA),(10,pI m),(11,pI j),(12,pI ((m+j)/2:Nat))],[],0⟩) (wk Z Z Z (bi (bi (bi (bi (bi (bi (bi ⟨bj x,rfl,ac⟩))))))) ac Z) ?_)
     |(refine gM 17 Z ?_;refine ae (L:=[]) (t:=⟨[(0,bb L),(1,pI a),(2,pI m),(3,pI b),(4,aA),(10,pI m),(11,pI j),(12,pI ((m+j)/2:Nat))],[],0⟩) (wk Z Z Z (bi (bi (bi (bi (bi (bi (bi ⟨bj x,rfl,ac⟩))))))) ac Z) ?_)
     |(refine gM 18 Z ?_;refine ae (L:=[]) (t:=⟨[(0,bb L),(1,pI a),(2,pI m),(3,pI b),(4,aA),(10,pI m),(11,pI j),(12,pI ((m+j)/2:Nat))],[],0⟩) (wk Z Z Z (bi (bi (bi (bi (bi (bi (bi ⟨bj x,rfl,ac⟩))))))) ac Z) ?_)
     |(refine gM 19 Z ?_;refine ae (L:=[]) (t:=⟨[(0,bb L),(1,pI a),(2,pI m),(3,pI b),(4,aA),(10,pI m),(11,pI j),(12,pI ((m+j)/2:Nat))],[],0⟩) (wk Z Z Z (bi (bi (bi (bi (bi (bi (bi ⟨bj x,rfl,ac⟩))))))) ac Z) ?_)
     |(refine gM 20 Z ?_;refine ae (L:=[]) (t:=⟨[(0,bb L),(1,pI a),(2,pI m),(3,pI b),(4,aA),(10,pI m),(11,pI j),(12,pI ((m+j)/2:Nat))],[],0⟩) (wk Z Z Z (bi (bi (bi (bi (bi (bi (bi ⟨bj x,rfl,ac⟩))))))) ac Z) ?_)
     |(refine gM 21 Z ?_;refine ae (L:=[]) (t:=⟨[(0,bb L),(1,pI a),(2,pI m),(3,pI b),(4,aA),(10,pI m),(11,pI j),(12,pI ((m+j)/2:Nat))],[],0⟩) (wk Z Z Z (bi (bi (bi (bi (bi (bi (bi ⟨bj x,rfl,ac⟩))))))) ac Z) ?_)
     |(refine gM 22 Z ?_;refine ae (L:=[]) (t:=⟨[(0,bb L),(1,pI a),(2,pI m),(3,pI b),(4,aA),(10,pI m),(11,pI j),(12,pI ((m+j)/2:Nat))],[],0⟩) (wk Z Z Z (bi (bi (bi (bi (bi (bi (bi ⟨bj x,rfl,ac⟩))))))) ac Z) ?_)
     |(refine gM 23 Z ?_;refine ae (L:=[]) (t:=⟨[(0,bb L),(1,pI a),(2,pI m),(3,pI b),(4,aA),(10,pI m),(11,pI j),(12,pI ((m+j)/2:Nat))],[],0⟩) (wk Z Z Z (bi (bi (bi (bi (bi (bi (bi ⟨bj x,rfl,ac⟩))))))) ac Z) ?_)
     |(refine gM 24 Z ?_;refine ae (L:=[]) (t:=⟨[(0,bb L),(1,pI a),(2,pI m),(3,pI b),(4,aA),(10,pI m),(11,pI j),(12,pI ((m+j)/2:Nat))],[],0⟩) (wk Z Z Z (bi (bi (bi (bi (bi (bi (bi ⟨bj x,rfl,ac⟩))))))) ac Z) ?_)
     |(refine gM 25 Z ?_;refine ae (L:=[]) (t:=⟨[(0,bb L),(1,pI a),(2,pI m),(3,pI b),(4,aA),(10,pI m),(11,pI j),(12,pI ((m+j)/2:Nat))],[],0⟩) (wk Z Z Z (bi (bi (bi (bi (bi (bi (bi ⟨bj x,rfl,ac⟩))))))) ac Z) ?_)
     |(refine gM 26 Z ?_;refine ae (L:=[]) (t:=⟨[(0,bb L),(1,pI a),(2,pI m),(3,pI b),(4,aA),(10,pI m),(11,pI j),(12,pI ((m+j)/2:Nat))],[],0⟩) (wk Z Z Z (bi (bi (bi (bi (bi (bi (bi ⟨bj x,rfl,ac⟩))))))) ac Z) ?_)
     |(refine gM 27 Z ?_;refine ae (L:=[]) (t:=⟨[(0,bb L),(1,pI a),(2,pI m),(3,pI b),(4,aA),(10,pI m),(11,pI j),(12,pI ((m+j)/2:Nat))],[],0⟩) (wk Z Z Z (bi (bi (bi (bi (bi (bi (bi ⟨bj x,rfl,ac⟩))))))) ac Z) ?_)
     |(refine gM 28 Z ?_;refine ae (L:=[]) (t:=⟨[(0,bb L),(1,pI a),(2,pI m),(3,pI b),(4,aA),(10,pI m),(11,pI j),(12,pI ((m+j)/2:Nat))],[],0⟩) (wk Z Z Z (bi (bi (bi (bi (bi (bi (bi ⟨bj x,rfl,ac⟩))))))) ac Z) ?_)
     |(refine gM 29 Z ?_;refine ae (L:=[]) (t:=⟨[(0,bb L),(1,pI a),(2,pI m),(3,pI b),(4,aA),(10,pI m),(11,pI j),(12,pI ((m+j)/2:Nat))],[],0⟩) (wk Z Z Z (bi (bi (bi (bi (bi (bi (bi ⟨bj x,rfl,ac⟩))))))) ac Z) ?_)
    refine gA Z (bA ab [] (Pure.tC (qm (L.getD ((m+j)/2) ci) (L.getD a ci) (hF.at (by omega)) (hF.at (by omega)))) Z Z Z Z Z Z Z Z Z Z Z Z (by(repeat' (first|exact ac|exact rfl|exact an.refl _|exact an.bk (by assumption)|apply Oz))<;>first|omega|(simp only[OA];omega)|(simp;done)|(simp;omega)) Z (by(repeat' (first|exact ac|exact rfl|exact an.refl _|exact an.bk (by assumption)|apply Oz))<;>first|omega|(simp only[OA];omega)|(simp;done)|(simp;omega)) ?_);refine gA Z ?_;refine Oz (fun g2=>?_) (fun g2=>?_)
    .exact absurd (of_decide_eq_true g2) (hu a ((m+j)/2) (by omega) (by omega))
    .refine gA Z ?_;exact⟨⟨(m+j)/2,by omega,by omega⟩,[],by show(m+j)/2-m<j-m;omega,wk Z Z Z (bi (bi (bi (bi (bi (bi (bi ac))))))) ac Z⟩
   .refine gA Z (n9 (n:=0) ?_);refine gA Z ?_;refine Oz (fun g3=>?_) (fun g3=>?_)
    .exact absurd g3 (by simp;omega)
    .refine gA Z (aT (by first|exact .inr Z|exact .inl Z) Z (.of_eq ?_));rfl
  have I: ¬m=a+1:=by have:=of_decide_eq_false I;(try dsimp only at this);omega
  refine gA Z ?_;refine Oz (fun J=>?_) (fun J=>?_)
  .have J:b=m+1:=by have:=of_decide_eq_true J;(try dsimp only at this);omega
   refine gA Z (gi (σ:={i:Nat//a<=i∧i<=m}) (fun i=>⟨[(0,bb L),(1,pI a),(2,pI m),(3,pI b),(4,aA),(14,pI i.1),(15,pI m)],[],0⟩) (fun i=>m-i.1) ⟨a,OJ _,by omega⟩ []
    (wk Z Z Z (bi (bi (bi (bi (bi (bi (bi ac))))))) ac Z) fun i=>?_)
   obtain⟨i,i1,i2⟩:=i;refine gA Z ?_;refine Oz (fun g1=>?_) (fun g1=>?_)
   .have g1:i<m:=by simpa using g1
    have x:=oS i m (by omega)
    first
     |(refine gM 1 Z ?_;refine ae (L:=[]) (t:=⟨[(0,bb L),(1,pI a),(2,pI m),(3,pI b),(4,aA),(14,pI i),(15,pI m),(16,pI ((i+m)/2:Nat))],[],0⟩) (wk Z Z Z (bi (bi (bi (bi (bi (bi (bi ⟨bj x,rfl,ac⟩))))))) ac Z) ?_)
     |(refine gM 2 Z ?_;refine ae (L:=[]) (t:=⟨[(0,bb L),(1,pI a),(2,pI m),(3,pI b),(4,aA),(14,pI i),(15,pI m),(16,pI ((i+m)/2:Nat))],[],0⟩) (wk Z Z Z (bi (bi (bi (bi (bi (bi (bi ⟨bj x,rfl,ac⟩))))))) ac Z) ?_)
     |(refine gM 3 Z ?_;refine ae (L:=[]) (t:=⟨[(0,bb L),(1,pI a),(2,pI m),(3,pI b),(4,aA),(14,pI i),(15,pI m),(16,pI ((i+m)/2:Nat))],[],0⟩) (wk Z Z Z (bi (bi (bi (bi (bi (bi (bi ⟨bj x,rfl,ac⟩))))))) ac Z) ?_)
     |(refine gM 4 Z ?_;refine ae (L:=[]) (t:=⟨[(0,bb L),(1,pI a),(2,pI m),(3,pI b),(4,aA),(14,pI i),(15,pI m),(16,pI ((i+m)/2:Nat))],[],0⟩) (wk Z Z Z (bi (bi (bi (bi (bi (bi (bi ⟨bj x,rfl,ac⟩))))))) ac Z) ?_)
     |(refine gM 5 Z ?_;refine ae (L:=[]) (t:=⟨[(0,bb L),(1,pI a),(2,pI m),(3,pI b),(4,aA),(14,pI i),(15,pI m),(16,pI ((i+m)/2:Nat))],[],0⟩) (wk Z Z Z (bi (bi (bi (bi (bi (bi (bi ⟨bj x,rfl,ac⟩))))))) ac Z) ?_)
     |(refine gM 6 Z ?_;refine ae (L:=[]) (t:=⟨[(0,bb L),(1,pI a),(2,pI m),(3,pI b),(4,aA),(14,pI i),(15,pI m),(16,pI ((i+m)/2:Nat))],[],0⟩) (wk Z Z Z (bi (bi (bi (bi (bi (bi (bi ⟨bj x,rfl,ac⟩))))))) ac Z) ?_)
     |(refine gM 7 Z ?_;refine ae (L:=[]) (t:=⟨[(0,bb L),(1,pI a),(2,pI m),(3,pI b),(4,aA),(14,pI i),(15,pI m),(16,pI ((i+m)/2:Nat))],[],0⟩) (wk Z Z Z (bi (bi (bi (bi (bi (bi (bi ⟨bj x,rfl,ac⟩))))))) ac Z) ?_)
     |(refine gM 8 Z ?_;refine ae (L:=[]) (t:=⟨[(0,bb L),(1,pI a),(2,pI m),(3,pI b),(4,aA),(14,pI i),(15,pI m),(16,pI ((i+m)/2:Nat))],[],0⟩) (wk Z Z Z (bi (bi (bi (bi (bi (bi (bi ⟨bj x,rfl,ac⟩))))))) ac Z) ?_)
     |(refine gM 9 Z ?_;refine ae (L:=[]) (t:=⟨[(0,bb L),(1,pI a),(2,pI m),(3,pI b),(4,aA),(14,pI i),(15,pI m),(16,pI ((i+m)/2:Nat))],[],0⟩) (wk Z Z Z (bi (bi (bi (bi (bi (bi (bi ⟨bj x,rfl,ac⟩))))))) ac Z) ?_)
     |(refine gM 10 Z ?_;refine ae (L:=[]) (t:=⟨[(0,bb L),(1,pI a),(2,pI m),(3,pI b),(4,aA),(14,pI i),(15,pI m),(16,pI ((i+m)/2:Nat))],[],0⟩) (wk Z Z Z (bi (bi (bi (bi (bi (bi (bi ⟨bj x,rfl,ac⟩))))))) ac Z) ?_)
     |(refine gM 11 Z ?_;refine ae (L:=[]) (t:=⟨[(0,bb L),(1,pI a),(2,pI m),(3,pI b),(4,aA),(14,pI i),(15,pI m),(16,pI ((i+m)/2:Nat))],[],0⟩) (wk Z Z Z (bi (bi (bi (bi (bi (bi (bi ⟨bj x,rfl,ac⟩))))))) ac Z) ?_)
     |(refine gM 12 Z ?_;refine ae (L:=[]) (t:=⟨[(0,bb L),(1,pI a),(2,pI m),(3,pI b),(4,aA),(14,pI i),(15,pI m),(16,pI ((i+m)/2:Nat))],[],0⟩) (wk Z Z Z (bi (bi (bi (bi (bi (bi (bi ⟨bj x,rfl,ac⟩))))))) ac Z) ?_)
     |(refine gM 13 Z ?_;refine ae (L:=[]) (t:=⟨[(0,bb L),(1,pI a),(2,pI m),(3,pI b),(4,aA),(14,pI i),(15,pI m),(16,pI ((i+m)/2:Nat))],[],0⟩) (wk Z Z Z (bi (bi (bi (bi (bi (bi (bi ⟨bj x,rfl,ac⟩))))))) ac Z) ?_)
     |(refine gM 14 Z ?_;refine ae (L:=[]) (t:=⟨[(0,bb L),(1,pI a),(2,pI m),(3,pI b),(4,aA),(14,pI i),(15,pI m),(16,pI ((i+m)/2:Nat))],[],0⟩) (wk Z Z Z (bi (bi (bi (bi (bi (bi (bi ⟨bj x,rfl,ac⟩))))))) ac Z) ?_)
     |(refine gM 15 Z ?_;refine ae (L:=[]) (t:=⟨[(0,bb L),(1,pI a),(2,pI m),(3,pI b),(4,aA),(14,pI i),(15,pI m),(16,pI ((i+m)/2:Nat))],[],0⟩) (wk Z Z Z (bi (bi (bi (bi (bi (bi (bi ⟨bj x,rfl,ac⟩))))))) ac Z) ?_)
     |(refine gM 16 Z ?_;refine ae (L:=[]) (t:=⟨[(0,bb L),(1,pI a),(2,pI m),(3,pI b),(4,aA),(14,pI i),(15,pI m),(16,pI ((i+m)/2:Nat))],[],0⟩) (wk Z Z Z (bi (bi (bi (bi (bi (bi (bi ⟨bj x,rfl,ac⟩))))))) ac Z) ?_)
     |(refine gM 17 Z ?_;refine ae (L:=[]) (t:=⟨[(0,bb L),(1,pI a),(2,pI m),(3,pI b),(4,aA),(14,pI i),(15,pI m),(16,pI ((i+m)/2:Nat))],[],0⟩) (wk Z Z Z (bi (bi (bi (bi (bi (bi (bi ⟨bj x,rfl,ac⟩))))))) ac Z) ?_)
     |(refine gM 18 Z ?_;refine ae (L:=[]) (t:=⟨[(0,bb L),(1,pI a),(2,pI m),(3,pI b),(4,aA),(14,pI i),(15,pI m),(16,pI ((i+m)/2:Nat))],[],0⟩) (wk Z Z Z (bi (bi (bi (bi (bi (bi (bi ⟨bj x,rfl,ac⟩))))))) ac Z) ?_)
     |(refine gM 19 Z ?_;refine ae (L:=[]) (t:=⟨[(0,bb L),(1,pI a),(2,pI m),(3,pI b),(4,aA),(14,pI i),(15,pI m),(16,pI ((i+m)/2:Nat))],[],0⟩) (wk Z Z Z (bi (bi (bi (bi (bi (bi (bi ⟨bj x,rfl,ac⟩))))))) ac Z) ?_)
     |(refine gM 20 Z ?_;refine ae (L:=[]) (t:=⟨[(0,bb L),(1,pI a),(2,pI m),(3,pI b),(4,aA),(14,pI i),(15,pI m),(16,pI ((i+m)/2:Nat))],[],0⟩) (wk Z Z Z (bi (bi (bi (bi (bi (bi (bi ⟨bj x,rfl,ac⟩))))))) ac Z) ?_)
     |(refine gM 21 Z ?_;refine ae (L:=[]) (t:=⟨[(0,bb L),(1,pI a),(2,pI m),(3,pI b),(4,aA),(14,pI i),(15,pI m),(16,pI ((i+m)/2:Nat))],[],0⟩) (wk Z Z Z (bi (bi (bi (bi (bi (bi (bi ⟨bj x,rfl,ac⟩))))))) ac Z) ?_)
     |(refine gM 22 Z ?_;refine ae (L:=[]) (t:=⟨[(0,bb L),(1,pI a),(2,pI m),(3,pI b),(4,aA),(14,pI i),(15,pI m),(16,pI ((i+m)/2:Nat))],[],0⟩) (wk Z Z Z (bi (bi (bi (bi (bi (bi (bi ⟨bj x,rfl,ac⟩))))))) ac Z) ?_)
     |(refine gM 23 Z ?_;refine ae (L:=[]) (t:=⟨[(0,bb L),(1,pI a),(2,pI m),(3,pI b),(4,aA),(14,pI i),(15,pI m),(16,pI ((i+m)/2:Nat))],[],0⟩) (wk Z Z Z (bi (bi (bi (bi (bi (bi (bi ⟨bj x,rfl,ac⟩))))))) ac Z) ?_)
     |(refine gM 24 Z ?_;refine ae (L:=[]) (t:=⟨[(0,bb L),(1,pI a),(2,pI m),(3,pI b),(4,aA),(14,pI i),(15,pI m),(16,pI ((i+m)/2:Nat))],[],0⟩) (wk Z Z Z (bi (bi (bi (bi (bi (bi (bi ⟨bj x,rfl,ac⟩))))))) ac Z) ?_)
     |(refine gM 25 Z ?_;refine ae (L:=[]) (t:=⟨[(0,bb L),(1,pI a),(2,pI m),(3,pI b),(4,aA),(14,pI i),(15,pI m),(16,pI ((i+m)/2:Nat))],[],0⟩) (wk Z Z Z (bi (bi (bi (bi (bi (bi (bi ⟨bj x,rfl,ac⟩))))))) ac Z) ?_)
     |(refine gM 26 Z ?_;refine ae (L:=[]) (t:=⟨[(0,bb L),(1,pI a),(2,pI m),(3,pI b),(4,aA),(14,pI i),(15,pI m),(16,pI ((i+m)/2:Nat))],[],0⟩) (wk Z Z Z (bi (bi (bi (bi (bi (bi (bi ⟨bj x,rfl,ac⟩))))))) ac Z) ?_)
     |(refine gM 27 Z ?_;refine ae (L:=[]) (t:=⟨[(0,bb L),(1,pI a),(2,pI m),(3,pI b),(4,aA),(14,pI i),(15,pI m),(16,pI ((i+m)/2:Nat))],[],0⟩) (wk Z Z Z (bi (bi (bi (bi (bi (bi (bi ⟨bj x,rfl,ac⟩))))))) ac Z) ?_)
     |(refine gM 28 Z ?_;refine ae (L:=[]) (t:=⟨[(0,bb L),(1,pI a),(2,pI m),(3,pI b),(4,aA),(14,pI i),(15,pI m),(16,pI ((i+m)/2:Nat))],[],0⟩) (wk Z Z Z (bi (bi (bi (bi (bi (bi (bi ⟨bj x,rfl,ac⟩))))))) ac Z) ?_)
     |(refine gM 29 Z ?_;refine ae (L:=[]) (t:=⟨[(0,bb L),(1,pI a),(2,pI m),(3,pI b),(4,aA),(14,pI i),(15,pI m),(16,pI ((i+m)/2:Nat))],[],0⟩) (wk Z Z Z (bi (bi (bi (bi (bi (bi (bi ⟨bj x,rfl,ac⟩))))))) ac Z) ?_)
    refine gA Z (bA ab [] (Pure.tC (qm (L.getD m ci) (L.getD ((i+m)/2) ci) (hF.at (by omega)) (hF.at (by omega)))) Z Z Z Z Z Z Z Z Z Z Z Z (by(repeat' (first|exact ac|exact rfl|exact an.refl _|exact an.bk (by assumption)|apply Oz))<;>first|omega|(simp only[OA];omega)|(simp;done)|(simp;omega)) Z (by(repeat' (first|exact ac|exact rfl|exact an.refl _|exact an.bk (by assumption)|apply Oz))<;>first|omega|(simp only[OA];omega)|(simp;done)|(simp;omega)) ?_);refine gA Z ?_;refine Oz (fun g2=>?_) (fun g2=>?_)
    .refine gA Z ?_;exact⟨⟨(i+m)/2+1,by omega,by omega⟩,[],by show m-((i+m)/2+1)<m-i;omega,wk Z Z Z (bi (bi (bi (bi (bi (bi (bi ac))))))) ac Z⟩
    .have g2:aR (L.getD m ci) (L.getD ((i+m)/2) ci)<0:=by simpa using g2
     exact absurd g2 (hu ((i+m)/2) m (by omega) (by omega))
   .have g1:m<=i:=by simpa using g1
    have:i=m:=by omega
    subst this;refine gA Z (n9 (n:=0) ?_);refine gA Z ?_;refine Oz (fun g3=>?_) (fun g3=>?_)
    .exact absurd g3 (by simp)
    .refine gA Z (aT (by first|exact .inr Z|exact .inl Z) Z (.of_eq ?_));rfl
  have J: ¬b=m+1:=by have:=of_decide_eq_false J;(try dsimp only at this);omega
  have x:=oS a b (by omega);obtain⟨u,C⟩: ∃u,u=(a+b)/2:=⟨_,rfl⟩
  rw[<-C]at x
  first
   |(refine gM 1 Z ?_;refine ae (L:=[]) (t:=⟨[(0,bb L),(1,pI a),(2,pI m),(3,pI b),(4,aA),(18,pI u)],[],0⟩) (wk Z Z Z (bi (bi (bi (bi (bi ⟨bj x,rfl,ac⟩))))) ac Z) ?_)
   |(refine gM 2 Z ?_;refine ae (L:=[]) (t:=⟨[(0,bb L),(1,pI a),(2,pI m),(3,pI b),(4,aA),(18,pI u)],[],0⟩) (wk Z Z Z (bi (bi (bi (bi (bi ⟨bj x,rfl,ac⟩))))) ac Z) ?_)
   |(refine gM 3 Z ?_;refine ae (L:=[]) (t:=⟨[(0,bb L),(1,pI a),(2,pI m),(3,pI b),(4,aA),(18,pI u)],[],0⟩) (wk Z Z Z (bi (bi (bi (bi (bi ⟨bj x,rfl,ac⟩))))) ac Z) ?_)
   |(refine gM 4 Z ?_;refine ae (L:=[]) (t:=⟨[(0,bb L),(1,pI a),(2,pI m),(3,pI b),(4,aA),(18,pI u)],[],0⟩) (wk Z Z Z (bi (bi (bi (bi (bi ⟨bj x,rfl,ac⟩))))) ac Z) ?_)
   |(refine gM 5 Z ?_;refine ae (L:=[]) (t:=⟨[(0,bb L),(1,pI a),(2,pI m),(3,pI b),(4,aA),(18,pI u)],[],0⟩) (wk Z Z Z (bi (bi (bi (bi (bi ⟨bj x,rfl,ac⟩))))) ac Z) ?_)
   |(refine gM 6 Z ?_;refine ae (L:=[]) (t:=⟨[(0,bb L),(1,pI a),(2,pI m),(3,pI b),(4,aA),(18,pI u)],[],0⟩) (wk Z Z Z (bi (bi (bi (bi (bi ⟨bj x,rfl,ac⟩))))) ac Z) ?_)
   |(refine gM 7 Z ?_;refine ae (L:=[]) (t:=⟨[(0,bb L),(1,pI a),(2,pI m),(3,pI b),(4,aA),(18,pI u)],[],0⟩) (wk Z Z Z (bi (bi (bi (bi (bi ⟨bj x,rfl,ac⟩))))) ac Z) ?_)
   |(refine gM 8 Z ?_;refine ae (L:=[]) (t:=⟨[(0,bb L),(1,pI a),(2,pI m),(3,pI b),(4,aA),(18,pI u)],[],0⟩) (wk Z Z Z (bi (bi (bi (bi (bi ⟨bj x,rfl,ac⟩))))) ac Z) ?_)
   |(refine gM 9 Z ?_;refine ae (L:=[]) (t:=⟨[(0,bb L),(1,pI a),(2,pI m),(3,pI b),(4,aA),(18,pI u)],[],0⟩) (wk Z Z Z (bi (bi (bi (bi (bi ⟨bj x,rfl,ac⟩))))) ac Z) ?_)
   |(refine gM 10 Z ?_;refine ae (L:=[]) (t:=⟨[(0,bb L),(1,pI a),(2,pI m),(3,pI b),(4,aA),(18,pI u)],[],0⟩) (wk Z Z Z (bi (bi (bi (bi (bi ⟨bj x,rfl,ac⟩))))) ac Z) ?_)
   |(refine gM 11 Z ?_;refine ae (L:=[]) (t:=⟨[(0,bb L),(1,pI a),(2,pI m),(3,pI b),(4,aA),(18,pI u)],[],0⟩) (wk Z Z Z (bi (bi (bi (bi (bi ⟨bj x,rfl,ac⟩))))) ac Z) ?_)
  refine gA Z ?_;refine Oz (fun A=>?_) (fun A=>?_)
  .have A:u<m:=by simpa using A
   refine gA Z (gi (σ:={st:Nat//u+m-b<=st∧st<=u}) (fun st=>⟨[(0,bb L),(1,pI a),(2,pI m),(3,pI b),(4,aA),(18,pI u),(19,pI (u+m:Nat)),(20,pI st.1),(21,pI u),(22,pI (u+m-1:Nat))],[],0⟩) (fun st=>u-st.1) ⟨u+m-b,OJ _,by omega⟩ []
    (wk Z Z Z (bi (bi (bi (bi (bi (bi (bi ⟨bj (by(try dsimp only);omega),rfl,bi ⟨bj (by(try dsimp only);omega),rfl,ac⟩⟩))))))) ac Z) fun st=>?_)
   obtain⟨st,s1,s2⟩:=st;refine gA Z ?_;refine Oz (fun g1=>?_) (fun g1=>?_)
   .have g1:st<u:=by simpa using g1
    have x:=oS st u (by omega);obtain⟨c,Y⟩: ∃c,c=(st+u)/2:=⟨_,rfl⟩
    rw[<-Y]at x
    first
     |(refine gM 1 Z ?_;refine ae (L:=[]) (t:=⟨[(0,bb L),(1,pI a),(2,pI m),(3,pI b),(4,aA),(18,pI u),(19,pI (u+m:Nat)),(20,pI st),(21,pI u),(22,pI (u+m-1:Nat)),(23,pI c)],[],0⟩) (wk Z Z Z (bi (bi (bi (bi (bi (bi (bi (bi (bi (bi ⟨bj x,rfl,ac⟩)))))))))) ac Z) ?_)
     |(refine gM 2 Z ?_;refine ae (L:=[]) (t:=⟨[(0,bb L),(1,pI a),(2,pI m),(3,pI b),(4,aA),(18,pI u),(19,pI (u+m:Nat)),(20,pI st),(21,pI u),(22,pI (u+m-1:Nat)),(23,pI c)],[],0⟩) (wk Z Z Z (bi (bi (bi (bi (bi (bi (bi (bi (bi (bi ⟨bj x,rfl,ac⟩)))))))))) ac Z) ?_)
     |(refine gM 3 Z ?_;refine ae (L:=[]) (t:=⟨[(0,bb L),(1,pI a),(2,pI m),(3,pI b),(4,aA),(18,pI u),(19,pI (u+m:Nat)),(20,pI st),(21,pI u),(22,pI (u+m-1:Nat)),(23,pI c)],[],0⟩) (wk Z Z Z (bi (bi (bi (bi (bi (bi (bi (bi (bi (bi ⟨bj x,rfl,ac⟩)))))))))) ac Z) ?_)
     |(refine gM 4 Z ?_;refine ae (L:=[]) (t:=⟨[(0,bb L),(1,pI a),(2,pI m),(3,pI b),(4,aA),(18,pI u),(19,pI (u+m:Nat)),(20,pI st),(21,pI u),(22,pI (u+m-1:Nat)),(23,pI c)],[],0⟩) (wk Z Z Z (bi (bi (bi (bi (bi (bi (bi (bi (bi (bi ⟨bj x,rfl,ac⟩)))))))))) ac Z) ?_)
     |(refine gM 5 Z ?_;refine ae (L:=[]) (t:=⟨[(0,bb L),(1,pI a),(2,pI m),(3,pI b),(4,aA),(18,pI u),(19,pI (u+m:Nat)),(20,pI st),(21,pI u),(22,pI (u+m-1:Nat)),(23,pI c)],[],0⟩) (wk Z Z Z (bi (bi (bi (bi (bi (bi (bi (bi (bi (bi ⟨bj x,rfl,ac⟩)))))))))) ac Z) ?_)
     |(refine gM 6 Z ?_;refine ae (L:=[]) (t:=⟨[(0,bb L),(1,pI a),(2,pI m),(3,pI b),(4,aA),(18,pI u),(19,pI (u+m:Nat)),(20,pI st),(21,pI u),(22,pI (u+m-1:Nat)),(23,pI c)],[],0⟩) (wk Z Z Z (bi (bi (bi (bi (bi (bi (bi (bi (bi (bi ⟨bj x,rfl,ac⟩)))))))))) ac Z) ?_)
     |(refine gM 7 Z ?_;refine ae (L:=[]) (t:=⟨[(0,bb L),(1,pI a),(2,pI m),(3,pI b),(4,aA),(18,pI u),(19,pI (u+m:Nat)),(20,pI st),(21,pI u),(22,pI (u+m-1:Nat)),(23,pI c)],[],0⟩) (wk Z Z Z (bi (bi (bi (bi (bi (bi (bi (bi (bi (bi ⟨bj x,rfl,ac⟩)))))))))) ac Z) ?_)
     |(refine gM 8 Z ?_;refine ae (L:=[]) (t:=⟨[(0,bb L),(1,pI a),(2,pI m),(3,pI b),(4,aA),(18,pI u),(19,pI (u+m:Nat)),(20,pI st),(21,pI u),(22,pI (u+m-1:Nat)),(23,pI c)],[],0⟩) (wk Z Z Z (bi (bi (bi (bi (bi (bi (bi (bi (bi (bi ⟨bj x,rfl,ac⟩)))))))))) ac Z) ?_)
     |(refine gM 9 Z ?_;refine ae (L:=[]) (t:=⟨[(0,bb L),(1,pI a),(2,pI m),(3,pI b),(4,aA),(18,pI u),(19,pI (u+m:Nat)),(20,pI st),(21,pI u),(22,pI (u+m-1:Nat)),(23,pI c)],[],0⟩) (wk Z Z Z (bi (bi (bi (bi (bi (bi (bi (bi (bi (bi ⟨bj x,rfl,ac⟩)))))))))) ac Z) ?_)
     |(refine gM 10 Z ?_;refine ae (L:=[]) (t:=⟨[(0,bb L),(1,pI a),(2,pI m),(3,pI b),(4,aA),(18,pI u),(19,pI (u+m:Nat)),(20,pI st),(21,pI u),(22,pI (u+m-1:Nat)),(23,pI c)],[],0⟩) (wk Z Z Z (bi (bi (bi (bi (bi (bi (bi (bi (bi (bi ⟨bj x,rfl,ac⟩)))))))))) ac Z) ?_)
     |(refine gM 11 Z ?_;refine ae (L:=[]) (t:=⟨[(0,bb L),(1,pI a),(2,pI m),(3,pI b),(4,aA),(18,pI u),(19,pI (u+m:Nat)),(20,pI st),(21,pI u),(22,pI (u+m-1:Nat)),(23,pI c)],[],0⟩) (wk Z Z Z (bi (bi (bi (bi (bi (bi (bi (bi (bi (bi ⟨bj x,rfl,ac⟩)))))))))) ac Z) ?_)
     |(refine gM 12 Z ?_;refine ae (L:=[]) (t:=⟨[(0,bb L),(1,pI a),(2,pI m),(3,pI b),(4,aA),(18,pI u),(19,pI (u+m:Nat)),(20,pI st),(21,pI u),(22,pI (u+m-1:Nat)),(23,pI c)],[],0⟩) (wk Z Z Z (bi (bi (bi (bi (bi (bi (bi (bi (bi (bi ⟨bj x,rfl,ac⟩)))))))))) ac Z) ?_)
     |(refine gM 13 Z ?_;refine ae (L:=[]) (t:=⟨[(0,bb L),(1,pI a),(2,pI m),(3,pI b),(4,aA),(18,pI u),(19,pI (u+m:Nat)),(20,pI st),(21,pI u),(22,pI (u+m-1:Nat)),(23,pI c)],[],0⟩) (wk Z Z Z (bi (bi (bi (bi (bi (bi (bi (bi (bi (bi ⟨bj x,rfl,ac⟩)))))))))) ac Z) ?_)
     |(refine gM 14 Z ?_;refine ae (L:=[]) (t:=⟨[(0,bb L),(1,pI a),(2,pI m),(3,pI b),(4,aA),(18,pI u),(19,pI (u+m:Nat)),(20,pI st),(21,pI u),(22,pI (u+m-1:Nat)),(23,pI c)],[],0⟩) (wk Z Z Z (bi (bi (bi (bi (bi (bi (bi (bi (bi (bi ⟨bj x,rfl,ac⟩)))))))))) ac Z) ?_)
     |(refine gM 15 Z ?_;refine ae (L:=[]) (t:=⟨[(0,bb L),(1,pI a),(2,pI m),(3,pI b),(4,aA),(18,pI u),(19,pI (u+m:Nat)),(20,pI st),(21,pI u),(22,pI (u+m-1:Nat)),(23,pI c)],[],0⟩) (wk Z Z Z (bi (bi (bi (bi (bi (bi (bi (bi (bi (bi ⟨bj x,rfl,ac⟩)))))))))) ac Z) ?_)
     |(refine gM 16 Z ?_;refine ae (L:=[]) (t:=⟨[(0,bb L),(1,pI a),(2,pI m),(3,pI b),(4,aA),(18,pI u),(19,pI (u+m:Nat)),(20,pI st),(21,pI u),(22,pI (u+m-1:Nat)),(23,pI c)],[],0⟩) (wk Z Z Z (bi (bi (bi (bi (bi (bi (bi (bi (bi (bi ⟨bj x,rfl,ac⟩)))))))))) ac Z) ?_)
     |(refine gM 17 Z ?_;refine ae (L:=[]) (t:=⟨[(0,bb L),(1,pI a),(2,pI m),(3,pI b),(4,aA),(18,pI u),(19,pI (u+m:Nat)),(20,pI st),(21,pI u),(22,pI (u+m-1:Nat)),(23,pI c)],[],0⟩) (wk Z Z Z (bi (bi (bi (bi (bi (bi (bi (bi (bi (bi ⟨bj x,rfl,ac⟩)))))))))) ac Z) ?_)
     |(refine gM 18 Z ?_;refine ae (L:=[]) (t:=⟨[(0,bb L),(1,pI a),(2,pI m),(3,pI b),(4,aA),(18,pI u),(19,pI (u+m:Nat)),(20,pI st),(21,pI u),(22,pI (u+m-1:Nat)),(23,pI c)],[],0⟩) (wk Z Z Z (bi (bi (bi (bi (bi (bi (bi (bi (bi (bi ⟨bj x,rfl,ac⟩)))))))))) ac Z) ?_)
     |(refine gM 19 Z ?_;refine ae (L:=[]) (t:=⟨[(0,bb L),(1,pI a),(2,pI m),(3,pI b),(4,aA),(18,pI u),(19,pI (u+m:Nat)),(20,pI st),(21,pI u),(22,pI (u+m-1:Nat)),(23,pI c)],[],0⟩) (wk Z Z Z (bi (bi (bi (bi (bi (bi (bi (bi (bi (bi ⟨bj x,rfl,ac⟩)))))))))) ac Z) ?_)
     |(refine gM 20 Z ?_;refine ae (L:=[]) (t:=⟨[(0,bb L),(1,pI a),(2,pI m),(3,pI b),(4,aA),(18,pI u),(19,pI (u+m:Nat)),(20,pI st),(21,pI u),(22,pI (u+m-1:Nat)),(23,pI c)],[],0⟩) (wk Z Z Z (bi (bi (bi (bi (bi (bi (bi (bi (bi (bi ⟨bj x,rfl,ac⟩)))))))))) ac Z) ?_)
     |(refine gM 21 Z ?_;refine ae (L:=[]) (t:=⟨[(0,bb L),(1,pI a),(2,pI m),(3,pI b),(4,aA),(18,pI u),(19,pI (u+m:Nat)),(20,pI st),(21,pI u),(22,pI (u+m-1:Nat)),(23,pI c)],[],0⟩) (wk Z Z Z (bi (bi (bi (bi (bi (bi (bi (bi (bi (bi ⟨bj x,rfl,ac⟩)))))))))) ac Z) ?_)
     |(refine gM 22 Z ?_;refine ae (L:=[]) (t:=⟨[(0,bb L),(1,pI a),(2,pI m),(3,pI b),(4,aA),(18,pI u),(19,pI (u+m:Nat)),(20,pI st),(21,pI u),(22,pI (u+m-1:Nat)),(23,pI c)],[],0⟩) (wk Z Z Z (bi (bi (bi (bi (bi (bi (bi (bi (bi (bi ⟨bj x,rfl,ac⟩)))))))))) ac Z) ?_)
     |(refine gM 23 Z ?_;refine ae (L:=[]) (t:=⟨[(0,bb L),(1,pI a),(2,pI m),(3,pI b),(4,aA),(18,pI u),(19,pI (u+m:Nat)),(20,pI st),(21,pI u),(22,pI (u+m-1:Nat)),(23,pI c)],[],0⟩) (wk Z Z Z (bi (bi (bi (bi (bi (bi (bi (bi (bi (bi ⟨bj x,rfl,ac⟩)))))))))) ac Z) ?_)
     |(refine gM 24 Z ?_;refine ae (L:=[]) (t:=⟨[(0,bb L),(1,pI a),(2,pI m),(3,pI b),(4,aA),(18,pI u),(19,pI (u+m:Nat)),(20,pI st),(21,pI u),(22,pI (u+m-1:Nat)),(23,pI c)],[],0⟩) (wk Z Z Z (bi (bi (bi (bi (bi (bi (bi (bi (bi (bi ⟨bj x,rfl,ac⟩)))))))))) ac Z) ?_)
     |(refine gM 25 Z ?_;refine ae (L:=[]) (t:=⟨[(0,bb L),(1,pI a),(2,pI m),(3,pI b),(4,aA),(18,pI u),(19,pI (u+m:Nat)),(20,pI st),(21,pI u),(22,pI (u+m-1:Nat)),(23,pI c)],[],0⟩) (wk Z Z Z (bi (bi (bi (bi (bi (bi (bi (bi (bi (bi ⟨bj x,rfl,ac⟩)))))))))) ac Z) ?_)
     |(refine gM 26 Z ?_;refine ae (L:=[]) (t:=⟨[(0,bb L),(1,pI a),(2,pI m),(3,pI b),(4,aA),(18,pI u),(19,pI (u+m:Nat)),(20,pI st),(21,pI u),(22,pI (u+m-1:Nat)),(23,pI c)],[],0⟩) (wk Z Z Z (bi (bi (bi (bi (bi (bi (bi (bi (bi (bi ⟨bj x,rfl,ac⟩)))))))))) ac Z) ?_)
     |(refine gM 27 Z ?_;refine ae (L:=[]) (t:=⟨[(0,bb L),(1,pI a),(2,pI m),(3,pI b),(4,aA),(18,pI u),(19,pI (u+m:Nat)),(20,pI st),(21,pI u),(22,pI (u+m-1:Nat)),(23,pI c)],[],0⟩) (wk Z Z Z (bi (bi (bi (bi (bi (bi (bi (bi (bi (bi ⟨bj x,rfl,ac⟩)))))))))) ac Z) ?_)
     |(refine gM 28 Z ?_;refine ae (L:=[]) (t:=⟨[(0,bb L),(1,pI a),(2,pI m),(3,pI b),(4,aA),(18,pI u),(19,pI (u+m:Nat)),(20,pI st),(21,pI u),(22,pI (u+m-1:Nat)),(23,pI c)],[],0⟩) (wk Z Z Z (bi (bi (bi (bi (bi (bi (bi (bi (bi (bi ⟨bj x,rfl,ac⟩)))))))))) ac Z) ?_)
     |(refine gM 29 Z ?_;refine ae (L:=[]) (t:=⟨[(0,bb L),(1,pI a),(2,pI m),(3,pI b),(4,aA),(18,pI u),(19,pI (u+m:Nat)),(20,pI st),(21,pI u),(22,pI (u+m-1:Nat)),(23,pI c)],[],0⟩) (wk Z Z Z (bi (bi (bi (bi (bi (bi (bi (bi (bi (bi ⟨bj x,rfl,ac⟩)))))))))) ac Z) ?_)
    have e:(((u+m-1:Nat):Int)-(c:Int)).toNat=u+m-1-c:=by omega
    refine gA Z (bA ab [] (Pure.tC (qm (L.getD (((u+m-1:Nat):Int)-(c:Int)).toNat ci) (L.getD c ci) (hF.at (by omega)) (hF.at (by omega)))) Z Z Z Z Z Z Z Z Z Z Z Z (by(repeat' (first|exact ac|exact rfl|exact an.refl _|exact an.bk (by assumption)|apply Oz))<;>first|omega|(simp only[OA];omega)|(simp;done)|(simp;omega)) Z (by(repeat' (first|exact ac|exact rfl|exact an.refl _|exact an.bk (by assumption)|apply Oz))<;>first|omega|(simp only[OA];omega)|(simp;done)|(simp;omega)) ?_);refine gA Z ?_;refine Oz (fun g2=>?_) (fun g2=>?_)
    .refine gA Z ?_;exact⟨⟨c+1,by omega,by omega⟩,[],by show u-(c+1)<u-st;omega,wk Z Z Z (bi (bi (bi (bi (bi (bi (bi (bi (bi (bi ac)))))))))) ac Z⟩
    .have g2:aR (L.getD (((u+m-1:Nat):Int)-(c:Int)).toNat ci) (L.getD c ci)<0:=by simpa using g2
     rw[e]at g2;exact absurd g2 (hu c (u+m-1-c) (by omega) (by omega))
   .have g1:u<=st:=by simpa using g1
    have:st=u:=by omega
    subst this
    first
     |(refine gM 1 Z ?_;refine ae (L:=[]) (t:=⟨[(0,bb L),(1,pI a),(2,pI m),(3,pI b),(4,aA),(18,pI st),(20,pI st),(24,pI m)],[],0⟩) (wk Z Z Z (bi (bi (bi (bi (bi (bi (bi ⟨bj (by(try dsimp only);omega),rfl,ac⟩))))))) ac Z) ?_)
     |(refine gM 2 Z ?_;refine ae (L:=[]) (t:=⟨[(0,bb L),(1,pI a),(2,pI m),(3,pI b),(4,aA),(18,pI st),(20,pI st),(24,pI m)],[],0⟩) (wk Z Z Z (bi (bi (bi (bi (bi (bi (bi ⟨bj (by(try dsimp only);omega),rfl,ac⟩))))))) ac Z) ?_)
     |(refine gM 3 Z ?_;refine ae (L:=[]) (t:=⟨[(0,bb L),(1,pI a),(2,pI m),(3,pI b),(4,aA),(18,pI st),(20,pI st),(24,pI m)],[],0⟩) (wk Z Z Z (bi (bi (bi (bi (bi (bi (bi ⟨bj (by(try dsimp only);omega),rfl,ac⟩))))))) ac Z) ?_)
     |(refine gM 4 Z ?_;refine ae (L:=[]) (t:=⟨[(0,bb L),(1,pI a),(2,pI m),(3,pI b),(4,aA),(18,pI st),(20,pI st),(24,pI m)],[],0⟩) (wk Z Z Z (bi (bi (bi (bi (bi (bi (bi ⟨bj (by(try dsimp only);omega),rfl,ac⟩))))))) ac Z) ?_)
     |(refine gM 5 Z ?_;refine ae (L:=[]) (t:=⟨[(0,bb L),(1,pI a),(2,pI m),(3,pI b),(4,aA),(18,pI st),(20,pI st),(24,pI m)],[],0⟩) (wk Z Z Z (bi (bi (bi (bi (bi (bi (bi ⟨bj (by(try dsimp only);omega),rfl,ac⟩))))))) ac Z) ?_)
     |(refine gM 6 Z ?_;refine ae (L:=[]) (t:=⟨[(0,bb L),(1,pI a),(2,pI m),(3,pI b),(4,aA),(18,pI st),(20,pI st),(24,pI m)],[],0⟩) (wk Z Z Z (bi (bi (bi (bi (bi (bi (bi ⟨bj (by(try dsimp only);omega),rfl,ac⟩))))))) ac Z) ?_)
     |(refine gM 7 Z ?_;refine ae (L:=[]) (t:=⟨[(0,bb L),(1,pI a),(2,pI m),(3,pI b),(4,aA),(18,pI st),(20,pI st),(24,pI m)],[],0⟩) (wk Z Z Z (bi (bi (bi (bi (bi (bi (bi ⟨bj (by(try dsimp only);omega),rfl,ac⟩))))))) ac Z) ?_)
     |(refine gM 8 Z ?_;refine ae (L:=[]) (t:=⟨[(0,bb L),(1,pI a),(2,pI m),(3,pI b),(4,aA),(18,pI st),(20,pI st),(24,pI m)],[],0⟩) (wk Z Z Z (bi (bi (bi (bi (bi (bi (bi ⟨bj (by(try dsimp only);omega),rfl,ac⟩))))))) ac Z) ?_)
     |(refine gM 9 Z ?_;refine ae (L:=[]) (t:=⟨[(0,bb L),(1,pI a),(2,pI m),(3,pI b),(4,aA),(18,pI st),(20,pI st),(24,pI m)],[],0⟩) (wk Z Z Z (bi (bi (bi (bi (bi (bi (bi ⟨bj (by(try dsimp only);omega),rfl,ac⟩))))))) ac Z) ?_)
     |(refine gM 10 Z ?_;refine ae (L:=[]) (t:=⟨[(0,bb L),(1,pI a),(2,pI m),(3,pI b),(4,aA),(18,pI st),(20,pI st),(24,pI m)],[],0⟩) (wk Z Z Z (bi (bi (bi (bi (bi (bi (bi ⟨bj (by(try dsimp only);omega),rfl,ac⟩))))))) ac Z) ?_)
     |(refine gM 11 Z ?_;refine ae (L:=[]) (t:=⟨[(0,bb L),(1,pI a),(2,pI m),(3,pI b),(4,aA),(18,pI st),(20,pI st),(24,pI m)],[],0⟩) (wk Z Z Z (bi (bi (bi (bi (bi (bi (bi ⟨bj (by(try dsimp only);omega),rfl,ac⟩))))))) ac Z) ?_)
    refine gA Z ?_;refine Oz (fun D=>?_) (fun D=>?_);rotate_left
    .exact absurd A (by simpa using D)
    refine gA Z ?_;refine Oz (fun k2=>?_) (fun k2=>?_)
    .exact absurd k2 (by simp)
    refine gA Z ?_;refine Oz (fun G=>?_) (fun G=>?_);rotate_left
    .exact absurd (show a<st by omega) (by simpa using G)
    refine gA Z ?_;refine Oz (fun B=>?_) (fun B=>?_)
    .exact absurd B (by simp)
    refine gA Z ?_;refine Oz (fun y=>?_) (fun y=>?_);rotate_left
    .exact absurd A (by simpa using y)
    refine gA Z ?_;refine Oz (fun k6=>?_) (fun k6=>?_)
    .refine gA Z (aB (ih st m b (by omega) A R h3) Z Z Z Z Z Z ?_);refine gA Z (aT (by first|exact .inr Z|exact .inl Z) Z (.of_eq ?_));rfl
    .exact absurd R (by simpa using k6)
  .have A:m<=u:=by simpa using A
   refine gA Z (gi (σ:={st:Nat//a<=st∧st<=m}) (fun st=>⟨[(0,bb L),(1,pI a),(2,pI m),(3,pI b),(4,aA),(18,pI u),(19,pI (u+m:Nat)),(20,pI st.1),(21,pI m),(22,pI (u+m-1:Nat))],[],0⟩) (fun st=>m-st.1) ⟨a,OJ _,by omega⟩ []
    (wk Z Z Z (bi (bi (bi (bi (bi (bi ⟨bj (by(try dsimp only);omega),rfl,bi (bi ⟨bj (by(try dsimp only);omega),rfl,ac⟩)⟩)))))) ac Z) fun st=>?_)
   obtain⟨st,s1,s2⟩:=st;refine gA Z ?_;refine Oz (fun g1=>?_) (fun g1=>?_)
   .have g1:st<m:=by simpa using g1
    have x:=oS st m (by omega);obtain⟨c,Y⟩: ∃c,c=(st+m)/2:=⟨_,rfl⟩
    rw[<-Y]at x
    first
     |(refine gM 1 Z ?_;refine ae (L:=[]) (t:=⟨[(0,bb L),(1,pI a),(2,pI m),(3,pI b),(4,aA),(18,pI u),(19,pI (u+m:Nat)),(20,pI st),(21,pI m),(22,pI (u+m-1:Nat)),(23,pI c)],[],0⟩) (wk Z Z Z (bi (bi (bi (bi (bi (bi (bi (bi (bi (bi ⟨bj x,rfl,ac⟩)))))))))) ac Z) ?_)
     |(refine gM 2 Z ?_;refine ae (L:=[]) (t:=⟨[(0,bb L),(1,pI a),(2,pI m),(3,pI b),(4,aA),(18,pI u),(19,pI (u+m:Nat)),(20,pI st),(21,pI m),(22,pI (u+m-1:Nat)),(23,pI c)],[],0⟩) (wk Z Z Z (bi (bi (bi (bi (bi (bi (bi (bi (bi (bi ⟨bj x,rfl,ac⟩)))))))))) ac Z) ?_)
     |(refine gM 3 Z ?_;refine ae (L:=[]) (t:=⟨[(0,bb L),(1,pI a),(2,pI m),(3,pI b),(4,aA),(18,pI u),(19,pI (u+m:Nat)),(20,pI st),(21,pI m),(22,pI (u+m-1:Nat)),(23,pI c)],[],0⟩) (wk Z Z Z (bi (bi (bi (bi (bi (bi (bi (bi (bi (bi ⟨bj x,rfl,ac⟩)))))))))) ac Z) ?_)
     |(refine gM 4 Z ?_;refine ae (L:=[]) (t:=⟨[(0,bb L),(1,pI a),(2,pI m),(3,pI b),(4,aA),(18,pI u),(19,pI (u+m:Nat)),(20,pI st),(21,pI m),(22,pI (u+m-1:Nat)),(23,pI c)],[],0⟩) (wk Z Z Z (bi (bi (bi (bi (bi (bi (bi (bi (bi (bi ⟨bj x,rfl,ac⟩)))))))))) ac Z) ?_)
     |(refine gM 5 Z ?_;refine ae (L:=[]) (t:=⟨[(0,bb L),(1,pI a),(2,pI m),(3,pI b),(4,aA),(18,pI u),(19,pI (u+m:Nat)),(20,pI st),(21,pI m),(22,pI (u+m-1:Nat)),(23,pI c)],[],0⟩) (wk Z Z Z (bi (bi (bi (bi (bi (bi (bi (bi (bi (bi ⟨bj x,rfl,ac⟩)))))))))) ac Z) ?_)
     |(refine gM 6 Z ?_;refine ae (L:=[]) (t:=⟨[(0,bb L),(1,pI a),(2,pI m),(3,pI b),(4,aA),(18,pI u),(19,pI (u+m:Nat)),(20,pI st),(21,pI m),(22,pI (u+m-1:Nat)),(23,pI c)],[],0⟩) (wk Z Z Z (bi (bi (bi (bi (bi (bi (bi (bi (bi (bi ⟨bj x,rfl,ac⟩)))))))))) ac Z) ?_)
     |(refine gM 7 Z ?_;refine ae (L:=[]) (t:=⟨[(0,bb L),(1,pI a),(2,pI m),(3,pI b),(4,aA),(18,pI u),(19,pI (u+m:Nat)),(20,pI st),(21,pI m),(22,pI (u+m-1:Nat)),(23,pI c)],[],0⟩) (wk Z Z Z (bi (bi (bi (bi (bi (bi (bi (bi (bi (bi ⟨bj x,rfl,ac⟩)))))))))) ac Z) ?_)
     |(refine gM 8 Z ?_;refine ae (L:=[]) (t:=⟨[(0,bb L),(1,pI a),(2,pI m),(3,pI b),(4,aA),(18,pI u),(19,pI (u+m:Nat)),(20,pI st),(21,pI m),(22,pI (u+m-1:Nat)),(23,pI c)],[],0⟩) (wk Z Z Z (bi (bi (bi (bi (bi (bi (bi (bi (bi (bi ⟨bj x,rfl,ac⟩)))))))))) ac Z) ?_)
     |(refine gM 9 Z ?_;refine ae (L:=[]) (t:=⟨[(0,bb L),(1,pI a),(2,pI m),(3,pI b),(4,aA),(18,pI u),(19,pI (u+m:Nat)),(20,pI st),(21,pI m),(22,pI (u+m-1:Nat)),(23,pI c)],[],0⟩) (wk Z Z Z (bi (bi (bi (bi (bi (bi (bi (bi (bi (bi ⟨bj x,rfl,ac⟩)))))))))) ac Z) ?_)
     |(refine gM 10 Z ?_;refine ae (L:=[]) (t:=⟨[(0,bb L),(1,pI a),(2,pI m),(3,pI b),(4,aA),(18,pI u),(19,pI (u+m:Nat)),(20,pI st),(21,pI m),(22,pI (u+m-1:Nat)),(23,pI c)],[],0⟩) (wk Z Z Z (bi (bi (bi (bi (bi (bi (bi (bi (bi (bi ⟨bj x,rfl,ac⟩)))))))))) ac Z) ?_)
     |(refine gM 11 Z ?_;refine ae (L:=[]) (t:=⟨[(0,bb L),(1,pI a),(2,pI m),(3,pI b),(4,aA),(18,pI u),(19,pI (u+m:Nat)),(20,pI st),(21,pI m),(22,pI (u+m-1:Nat)),(23,pI c)],[],0⟩) (wk Z Z Z (bi (bi (bi (bi (bi (bi (bi (bi (bi (bi ⟨bj x,rfl,ac⟩)))))))))) ac Z) ?_)
     |(refine gM 12 Z ?_;refine ae (L:=[]) (t:=⟨[(0,bb L),(1,pI a),(2,pI m),(3,pI b),(4,aA),(18,pI u),(19,pI (u+m:Nat)),(20,pI st),(21,pI m),(22,pI (u+m-1:Nat)),(23,pI c)],[],0⟩) (wk Z Z Z (bi (bi (bi (bi (bi (bi (bi (bi (bi (bi ⟨bj x,rfl,ac⟩)))))))))) ac Z) ?_)
     |(refine gM 13 Z ?_;refine ae (L:=[]) (t:=⟨[(0,bb L),(1,pI a),(2,pI m),(3,pI b),(4,aA),(18,pI u),(19,pI (u+m:Nat)),(20,pI st),(21,pI m),(22,pI (u+m-1:Nat)),(23,pI c)],[],0⟩) (wk Z Z Z (bi (bi (bi (bi (bi (bi (bi (bi (bi (bi ⟨bj x,rfl,ac⟩)))))))))) ac Z) ?_)
     |(refine gM 14 Z ?_;refine ae (L:=[]) (t:=⟨[(0,bb L),(1,pI a),(2,pI m),(3,pI b),(4,aA),(18,pI u),(19,pI (u+m:Nat)),(20,pI st),(21,pI m),(22,pI (u+m-1:Nat)),(23,pI c)],[],0⟩) (wk Z Z Z (bi (bi (bi (bi (bi (bi (bi (bi (bi (bi ⟨bj x,rfl,ac⟩)))))))))) ac Z) ?_)
     |(refine gM 15 Z ?_;refine ae (L:=[]) (t:=⟨[(0,bb L),(1,pI a),(2,pI m),(3,pI b),(4,aA),(18,pI u),(19,pI (u+m:Nat)),(20,pI st),(21,pI m),(22,pI (u+m-1:Nat)),(23,pI c)],[],0⟩) (wk Z Z Z (bi (bi (bi (bi (bi (bi (bi (bi (bi (bi ⟨bj x,rfl,ac⟩)))))))))) ac Z) ?_)
     |(refine gM 16 Z ?_;refine ae (L:=[]) (t:=⟨[(0,bb L),(1,pI a),(2,pI m),(3,pI b),(4,aA),(18,pI u),(19,pI (u+m:Nat)),(20,pI st),(21,pI m),(22,pI (u+m-1:Nat)),(23,pI c)],[],0⟩) (wk Z Z Z (bi (bi (bi (bi (bi (bi (bi (bi (bi (bi ⟨bj x,rfl,ac⟩)))))))))) ac Z) ?_)
     |(refine gM 17 Z ?_;refine ae (L:=[]) (t:=⟨[(0,bb L),(1,pI a),(2,pI m),(3,pI b),(4,aA),(18,pI u),(19,pI (u+m:Nat)),(20,pI st),(21,pI m),(22,pI (u+m-1:Nat)),(23,pI c)],[],0⟩) (wk Z Z Z (bi (bi (bi (bi (bi (bi (bi (bi (bi (bi ⟨bj x,rfl,ac⟩)))))))))) ac Z) ?_)
     |(refine gM 18 Z ?_;refine ae (L:=[]) (t:=⟨[(0,bb L),(1,pI a),(2,pI m),(3,pI b),(4,aA),(18,pI u),(19,pI (u+m:Nat)),(20,pI st),(21,pI m),(22,pI (u+m-1:Nat)),(23,pI c)],[],0⟩) (wk Z Z Z (bi (bi (bi (bi (bi (bi (bi (bi (bi (bi ⟨bj x,rfl,ac⟩)))))))))) ac Z) ?_)
     |(refine gM 19 Z ?_;refine ae (L:=[]) (t:=⟨[(0,bb L),(1,pI a),(2,pI m),(3,pI b),(4,aA),(18,pI u),(19,pI (u+m:Nat)),(20,pI st),(21,pI m),(22,pI (u+m-1:Nat)),(23,pI c)],[],0⟩) (wk Z Z Z (bi (bi (bi (bi (bi (bi (bi (bi (bi (bi ⟨bj x,rfl,ac⟩)))))))))) ac Z) ?_)
     |(refine gM 20 Z ?_;refine ae (L:=[]) (t:=⟨[(0,bb L),(1,pI a),(2,pI m),(3,pI b),(4,aA),(18,pI u),(19,pI (u+m:Nat)),(20,pI st),(21,pI m),(22,pI (u+m-1:Nat)),(23,pI c)],[],0⟩) (wk Z Z Z (bi (bi (bi (bi (bi (bi (bi (bi (bi (bi ⟨bj x,rfl,ac⟩)))))))))) ac Z) ?_)
     |(refine gM 21 Z ?_;refine ae (L:=[]) (t:=⟨[(0,bb L),(1,pI a),(2,pI m),(3,pI b),(4,aA),(18,pI u),(19,pI (u+m:Nat)),(20,pI st),(21,pI m),(22,pI (u+m-1:Nat)),(23,pI c)],[],0⟩) (wk Z Z Z (bi (bi (bi (bi (bi (bi (bi (bi (bi (bi ⟨bj x,rfl,ac⟩)))))))))) ac Z) ?_)
     |(refine gM 22 Z ?_;refine ae (L:=[]) (t:=⟨[(0,bb L),(1,pI a),(2,pI m),(3,pI b),(4,aA),(18,pI u),(19,pI (u+m:Nat)),(20,pI st),(21,pI m),(22,pI (u+m-1:Nat)),(23,pI c)],[],0⟩) (wk Z Z Z (bi (bi (bi (bi (bi (bi (bi (bi (bi (bi ⟨bj x,rfl,ac⟩)))))))))) ac Z) ?_)
     |(refine gM 23 Z ?_;refine ae (L:=[]) (t:=⟨[(0,bb L),(1,pI a),(2,pI m),(3,pI b),(4,aA),(18,pI u),(19,pI (u+m:Nat)),(20,pI st),(21,pI m),(22,pI (u+m-1:Nat)),(23,pI c)],[],0⟩) (wk Z Z Z (bi (bi (bi (bi (bi (bi (bi (bi (bi (bi ⟨bj x,rfl,ac⟩)))))))))) ac Z) ?_)
     |(refine gM 24 Z ?_;refine ae (L:=[]) (t:=⟨[(0,bb L),(1,pI a),(2,pI m),(3,pI b),(4,aA),(18,pI u),(19,pI (u+m:Nat)),(20,pI st),(21,pI m),(22,pI (u+m-1:Nat)),(23,pI c)],[],0⟩) (wk Z Z Z (bi (bi (bi (bi (bi (bi (bi (bi (bi (bi ⟨bj x,rfl,ac⟩)))))))))) ac Z) ?_)
     |(refine gM 25 Z ?_;refine ae (L:=[]) (t:=⟨[(0,bb L),(1,pI a),(2,pI m),(3,pI b),(4,aA),(18,pI u),(19,pI (u+m:Nat)),(20,pI st),(21,pI m),(22,pI (u+m-1:Nat)),(23,pI c)],[],0⟩) (wk Z Z Z (bi (bi (bi (bi (bi (bi (bi (bi (bi (bi ⟨bj x,rfl,ac⟩)))))))))) ac Z) ?_)
     |(refine gM 26 Z ?_;refine ae (L:=[]) (t:=⟨[(0,bb L),(1,pI a),(2,pI m),(3,pI b),(4,aA),(18,pI u),(19,pI (u+m:Nat)),(20,pI st),(21,pI m),(22,pI (u+m-1:Nat)),(23,pI c)],[],0⟩) (wk Z Z Z (bi (bi (bi (bi (bi (bi (bi (bi (bi (bi ⟨bj x,rfl,ac⟩)))))))))) ac Z) ?_)
     |(refine gM 27 Z ?_;refine ae (L:=[]) (t:=⟨[(0,bb L),(1,pI a),(2,pI m),(3,pI b),(4,aA),(18,pI u),(19,pI (u+m:Nat)),(20,pI st),(21,pI m),(22,pI (u+m-1:Nat)),(23,pI c)],[],0⟩) (wk Z Z Z (bi (bi (bi (bi (bi (bi (bi (bi (bi (bi ⟨bj x,rfl,ac⟩)))))))))) ac Z) ?_)
     |(refine gM 28 Z ?_;refine ae (L:=[]) (t:=⟨[(0,bb L),(1,pI a),(2,pI m),(3,pI b),(4,aA),(18,pI u),(19,pI (u+m:Nat)),(20,pI st),(21,pI m),(22,pI (u+m-1:Nat)),(23,pI c)],[],0⟩) (wk Z Z Z (bi (bi (bi (bi (bi (bi (bi (bi (bi (bi ⟨bj x,rfl,ac⟩)))))))))) ac Z) ?_)
     |(refine gM 29 Z ?_;refine ae (L:=[]) (t:=⟨[(0,bb L),(1,pI a),(2,pI m),(3,pI b),(4,aA),(18,pI u),(19,pI (u+m:Nat)),(20,pI st),(21,pI m),(22,pI (u+m-1:Nat)),(23,pI c)],[],0⟩) (wk Z Z Z (bi (bi (bi (bi (bi (bi (bi (bi (bi (bi ⟨bj x,rfl,ac⟩)))))))))) ac Z) ?_)
    have e:(((u+m-1:Nat):Int)-(c:Int)).toNat=u+m-1-c:=by omega
    refine gA Z (bA ab [] (Pure.tC (qm (L.getD (((u+m-1:Nat):Int)-(c:Int)).toNat ci) (L.getD c ci) (hF.at (by omega)) (hF.at (by omega)))) Z Z Z Z Z Z Z Z Z Z Z Z (by(repeat' (first|exact ac|exact rfl|exact an.refl _|exact an.bk (by assumption)|apply Oz))<;>first|omega|(simp only[OA];omega)|(simp;done)|(simp;omega)) Z (by(repeat' (first|exact ac|exact rfl|exact an.refl _|exact an.bk (by assumption)|apply Oz))<;>first|omega|(simp only[OA];omega)|(simp;done)|(simp;omega)) ?_);refine gA Z ?_;refine Oz (fun g2=>?_) (fun g2=>?_)
    .refine gA Z ?_;exact⟨⟨c+1,by omega,by omega⟩,[],by show m-(c+1)<m-st;omega,wk Z Z Z (bi (bi (bi (bi (bi (bi (bi (bi (bi (bi ac)))))))))) ac Z⟩
    .have g2:aR (L.getD (((u+m-1:Nat):Int)-(c:Int)).toNat ci) (L.getD c ci)<0:=by simpa using g2
     rw[e]at g2;exact absurd g2 (hu c (u+m-1-c) (by omega) (by omega))
   .have g1:m<=st:=by simpa using g1
    have:st=m:=by omega
    subst this
    first
     |(refine gM 1 Z ?_;refine ae (L:=[]) (t:=⟨[(0,bb L),(1,pI a),(2,pI st),(3,pI b),(4,aA),(18,pI u),(20,pI st),(24,pI u)],[],0⟩) (wk Z Z Z (bi (bi (bi (bi (bi (bi (bi ⟨bj (by(try dsimp only);omega),rfl,ac⟩))))))) ac Z) ?_)
     |(refine gM 2 Z ?_;refine ae (L:=[]) (t:=⟨[(0,bb L),(1,pI a),(2,pI st),(3,pI b),(4,aA),(18,pI u),(20,pI st),(24,pI u)],[],0⟩) (wk Z Z Z (bi (bi (bi (bi (bi (bi (bi ⟨bj (by(try dsimp only);omega),rfl,ac⟩))))))) ac Z) ?_)
     |(refine gM 3 Z ?_;refine ae (L:=[]) (t:=⟨[(0,bb L),(1,pI a),(2,pI st),(3,pI b),(4,aA),(18,pI u),(20,pI st),(24,pI u)],[],0⟩) (wk Z Z Z (bi (bi (bi (bi (bi (bi (bi ⟨bj (by(try dsimp only);omega),rfl,ac⟩))))))) ac Z) ?_)
     |(refine gM 4 Z ?_;refine ae (L:=[]) (t:=⟨[(0,bb L),(1,pI a),(2,pI st),(3,pI b),(4,aA),(18,pI u),(20,pI st),(24,pI u)],[],0⟩) (wk Z Z Z (bi (bi (bi (bi (bi (bi (bi ⟨bj (by(try dsimp only);omega),rfl,ac⟩))))))) ac Z) ?_)
     |(refine gM 5 Z ?_;refine ae (L:=[]) (t:=⟨[(0,bb L),(1,pI a),(2,pI st),(3,pI b),(4,aA),(18,pI u),(20,pI st),(24,pI u)],[],0⟩) (wk Z Z Z (bi (bi (bi (bi (bi (bi (bi ⟨bj (by(try dsimp only);omega),rfl,ac⟩))))))) ac Z) ?_)
     |(refine gM 6 Z ?_;refine ae (L:=[]) (t:=⟨[(0,bb L),(1,pI a),(2,pI st),(3,pI b),(4,aA),(18,pI u),(20,pI st),(24,pI u)],[],0⟩) (wk Z Z Z (bi (bi (bi (bi (bi (bi (bi ⟨bj (by(try dsimp only);omega),rfl,ac⟩))))))) ac Z) ?_)
     |(refine gM 7 Z ?_;refine ae (L:=[]) (t:=⟨[(0,bb L),(1,pI a),(2,pI st),(3,pI b),(4,aA),(18,pI u),(20,pI st),(24,pI u)],[],0⟩) (wk Z Z Z (bi (bi (bi (bi (bi (bi (bi ⟨bj (by(try dsimp only);omega),rfl,ac⟩))))))) ac Z) ?_)
     |(refine gM 8 Z ?_;refine ae (L:=[]) (t:=⟨[(0,bb L),(1,pI a),(2,pI st),(3,pI b),(4,aA),(18,pI u),(20,pI st),(24,pI u)],[],0⟩) (wk Z Z Z (bi (bi (bi (bi (bi (bi (bi ⟨bj (by(try dsimp only);omega),rfl,ac⟩))))))) ac Z) ?_)
     |(refine gM 9 Z ?_;refine ae (L:=[]) (t:=⟨[(0,bb L),(1,pI a),(2,pI st),(3,pI b),(4,aA),(18,pI u),(20,pI st),(24,pI u)],[],0⟩) (wk Z Z Z (bi (bi (bi (bi (bi (bi (bi ⟨bj (by(try dsimp only);omega),rfl,ac⟩))))))) ac Z) ?_)
     |(refine gM 10 Z ?_;refine ae (L:=[]) (t:=⟨[(0,bb L),(1,pI a),(2,pI st),(3,pI b),(4,aA),(18,pI u),(20,pI st),(24,pI u)],[],0⟩) (wk Z Z Z (bi (bi (bi (bi (bi (bi (bi ⟨bj (by(try dsimp only);omega),rfl,ac⟩))))))) ac Z) ?_)
     |(refine gM 11 Z ?_;refine ae (L:=[]) (t:=⟨[(0,bb L),(1,pI a),(2,pI st),(3,pI b),(4,aA),(18,pI u),(20,pI st),(24,pI u)],[],0⟩) (wk Z Z Z (bi (bi (bi (bi (bi (bi (bi ⟨bj (by(try dsimp only);omega),rfl,ac⟩))))))) ac Z) ?_)
    refine gA Z ?_;refine Oz (fun D=>?_) (fun D=>?_)
    .exact absurd D (by simp)
    refine gA Z ?_;refine Oz (fun G=>?_) (fun G=>?_);rotate_left
    .exact absurd h1 (by simpa using G)
    refine gA Z ?_;refine Oz (fun B=>?_) (fun B=>?_)
    .have B:st<u:=by simpa using B
     refine gA Z (aB (ih a st u (by omega) h1 B (by omega)) Z Z Z Z Z Z ?_);refine gA Z ?_;refine Oz (fun y=>?_) (fun y=>?_)
     .exact absurd y (by simp)
     refine gA Z (aT (by first|exact .inr Z|exact .inl Z) Z (.of_eq ?_));rfl
    .refine gA Z ?_;refine Oz (fun y=>?_) (fun y=>?_)
     .exact absurd y (by simp)
     refine gA Z (aT (by first|exact .inr Z|exact .inl Z) Z (.of_eq ?_));rfl
theorem GC:Pure prog 78 [bb L,pI L.length,aA] (.bf []):=by
 refine ai ab func78 Z (by decide) ntmps78 Z (by simp) Z ?_
 refine gA Z (gi (σ:={i:Nat//i<=L.length}) (fun i=>⟨[(0,bb L),(1,pI L.length),(2,aA),(6,pI 20),(7,pI i.1),(8,pI (i.1+20:Nat))],[],0⟩) (fun i=>L.length-i.1) ⟨0,OL _⟩ []
  (wk Z Z Z (bi (bi (bi (bi (bi (bi ac)))))) ac Z) fun i=>?_)
 obtain⟨i,i1⟩:=i;refine gA Z ?_;refine Oz (fun g1=>?_) (fun g1=>?_)
 .have g1:i+20<=L.length:=by have:=of_decide_eq_true g1;(try dsimp only at this);omega
  refine gA Z (aB (Mw hu hF hl i (i+20) (by omega) g1) Z Z Z Z Z Z ?_);refine gA Z ⟨⟨i+20,g1⟩,[],by show L.length-(i+20)<L.length-i;omega,wk Z Z Z (bi (bi (bi (bi (bi ⟨bj (by(try dsimp only);omega),rfl,ac⟩))))) ac Z⟩
 .refine gA Z (aB (Mw hu hF hl i L.length (by omega) (OJ _)) Z Z Z Z Z Z ?_)
  refine gA Z (gi (σ:={bs:Nat//0<bs∧bs<=2*L.length+20}) (fun bs=>⟨[(0,bb L),(1,pI L.length),(2,aA),(6,pI bs.1)],[],0⟩) (fun bs=>2*L.length+20-bs.1) ⟨20,by omega,by omega⟩ []
   (wk Z Z Z (bi (bi (bi (bi ac)))) ac Z) fun bs=>?_)
  obtain⟨bs,b,j⟩:=bs;refine gA Z ?_;refine Oz (fun g2=>?_) (fun g2=>?_)
  .have g2:bs<L.length:=by simpa using g2
   refine gA Z (gi (σ:={i:Nat//i<=L.length}) (fun i=>⟨[(0,bb L),(1,pI L.length),(2,aA),(6,pI bs),(7,pI i.1),(8,pI (i.1+2*bs:Nat))],[],0⟩) (fun i=>L.length-i.1) ⟨0,OL _⟩ []
    (wk Z Z Z (bi (bi (bi (bi (bi ⟨bj (by(try dsimp only);omega),rfl,ac⟩))))) ac Z) fun i=>?_)
   obtain⟨i,i1⟩:=i;refine gA Z ?_;refine Oz (fun g3=>?_) (fun g3=>?_)
   .have g3:i+2*bs<=L.length:=by have:=of_decide_eq_true g3;(try dsimp only at this);omega
    refine gA Z (aB (Mo hu hF hl (2*bs) i (i+bs) (i+2*bs) (by omega) (by omega) (by omega) g3) Z Z Z Z Z Z ?_);refine gA Z ⟨⟨i+2*bs,g3⟩,[],by show L.length-(i+2*bs)<L.length-i;omega,wk Z Z Z (bi (bi (bi (bi (bi ⟨bj (by(try dsimp only);omega),rfl,ac⟩))))) ac Z⟩
   .refine gA Z ?_;refine Oz (fun g4=>?_) (fun g4=>?_)
    .have g4:i+bs<L.length:=by have:=of_decide_eq_true g4;(try dsimp only at this);omega
     refine gA Z (aB (Mo hu hF hl L.length i (i+bs) L.length (by omega) (by omega) g4 (OJ _)) Z Z Z Z Z Z ?_);refine gA Z ⟨⟨2*bs,by omega,by omega⟩,[],by show 2*L.length+20-2*bs<2*L.length+20-bs;omega,wk Z Z Z (bi (bi (bi ⟨bj (by(try dsimp only);omega),rfl,ac⟩))) ac Z⟩
    .refine gA Z ?_;exact⟨⟨2*bs,by omega,by omega⟩,[],by show 2*L.length+20-2*bs<2*L.length+20-bs;omega,wk Z Z Z (bi (bi (bi ⟨bj (by(try dsimp only);omega),rfl,ac⟩))) ac Z⟩
  .refine gA Z (aT (by first|exact .inr Z|exact .inl Z) Z (.of_eq ?_));rfl
theorem C9:Pure prog 55 [bb L,aA] (.bf []):=by
 refine ai ab func55 Z (by decide) ntmps55 Z (by simp) Z ?_;refine gA Z (aB (GC hu hF hl) Z Z Z Z Z Z ?_);refine gA Z (aT (by first|exact .inr Z|exact .inl Z) Z (.of_eq ?_));rfl
end
end
theorem GJ(l:List Int)(hb:l.length<=10000000000):Pure prog 42 [.iv (bw 1 l iY)] (.iv (bw 1 l iY)):=by
 refine ai ab func42 Z (by decide) ntmps42 Z (by simp) Z ?_;refine fk Z ac (ib Z Z Z Z underlying27 Z fun b u=>?_);refine gA Z ?_;refine Oz (fun x=>?_) (fun x=>?_)
 .have j:l=[]:=Pn (u x);subst j;refine gA Z (aT (by first|exact .inr Z|exact .inl Z) Z ?_);exact .nil _ _
 refine fk Z ac (jG ab Z Z Z Z Z Z Z fun A=>?_);by_cases j:l=[]
 .subst j;refine fk Z ac (kr ab Z Z Z Z Z Z Z Z (el2:=fun k=>iY (([]:List Int).getD k ci)) Z ?_);refine gA Z (aT (by first|exact .inr Z|exact .inl Z) Z ?_);exact .refl _
 .have y:0<l.length:=PD.2 j;refine fk Z ac (jH ab Z Z Z Z Z Z Z Z (by decide) Z (gK Z) (by simp;omega) (by show((O4 l.length).map _).length*8<=_;simp;omega) (by simp;omega) Z ?_);refine gA Z (dq (by first|exact .inr Z|exact .inl Z) Z Z ((eK l iY)) ((by simp)))
theorem z7(l:List Term)(hb:l.length<=10000000000):Pure prog 43 [.iv (bw 5 l Term.c)] (.iv (bw 5 l Term.c)):=by
 refine ai ab func43 Z (by decide) ntmps43 Z (by simp) Z ?_;refine fk Z ac (ib Z Z Z Z underlying94 Z fun b u=>?_);refine gA Z ?_;refine Oz (fun x=>?_) (fun x=>?_)
 .have j:l=[]:=Pn (u x);subst j;refine gA Z (aT (by first|exact .inr Z|exact .inl Z) Z ?_);exact .nil _ _
 refine fk Z ac (jG ab Z Z Z Z Z Z Z fun A=>?_);by_cases j:l=[]
 .subst j;refine fk Z ac (kr ab Z Z Z Z Z Z Z Z (el2:=fun k=>Term.c (([]:List Term).getD k ci)) Z ?_);refine gA Z (aT (by first|exact .inr Z|exact .inl Z) Z ?_);exact .refl _
 .have y:0<l.length:=PD.2 j;refine fk Z ac (jH ab Z Z Z Z Z Z Z Z (by decide) Z (gK Z) (by simp;omega) (by show((O4 l.length).map _).length*56<=_;simp;omega) (by simp;omega) Z ?_);refine gA Z (dq (by first|exact .inr Z|exact .inl Z) Z Z ((eK l Term.c)) ((by simp)))
theorem GI(l:List Lit)(hb:l.length<=10000000000):Pure prog 71 [.iv (bw 30 l Lit.c)] (.iv (bw 30 l Lit.c)):=by
 refine ai ab func71 Z (by decide) ntmps71 Z (by simp) Z ?_;refine fk Z ac (ib Z Z Z Z underlying97 Z fun b u=>?_);refine gA Z ?_;refine Oz (fun x=>?_) (fun x=>?_)
 .have j:l=[]:=Pn (u x);subst j;refine gA Z (aT (by first|exact .inr Z|exact .inl Z) Z ?_);exact .nil _ _
 refine fk Z ac (jG ab Z Z Z Z Z Z Z fun A=>?_);by_cases j:l=[]
 .subst j;refine fk Z ac (kr ab Z Z Z Z Z Z Z Z (el2:=fun k=>Lit.c (([]:List Lit).getD k ci)) Z ?_);refine gA Z (aT (by first|exact .inr Z|exact .inl Z) Z ?_);exact .refl _
 .have y:0<l.length:=PD.2 j;refine fk Z ac (jH ab Z Z Z Z Z Z Z Z (by decide) Z (gK Z) (by simp;omega) (by show((O4 l.length).map _).length*384<=_;simp;omega) (by simp;omega) Z ?_);refine gA Z (dq (by first|exact .inr Z|exact .inl Z) Z Z ((eK l Lit.c)) ((by simp)))
theorem Dh(l:List Lit)(hb:l.length<=10000000000)(h0:l≠ []):bC prog 71 [.iv (bw 30 l Lit.c)] [] (.sl 0 0 l.length 30) [(0,co (aP 30 l Lit.c))] 1:=by
 have x:0<l.length:=PD.2 h0;refine au ab func71 Z (by decide) ntmps71 Z (by simp) ?_;refine fk Z ac (ib Z Z Z Z underlying97 Z fun b j=>?_);refine gA Z ?_;refine Oz (fun u=>?_) (fun u=>?_)
 .exact absurd (j u) (by omega)
 refine fk Z ac (jG ab Z Z Z Z Z Z Z fun y=>?_);refine fk Z ac (jH ab Z Z Z Z Z Z Z Z (by decide) Z (gK Z) (by simp;omega) (by show((O4 l.length).map _).length*384<=_;simp;omega) (by simp;omega) Z ?_);refine gA Z (aY [1] (by first|exact .inr Z|exact .inl Z) Z (wk Z Z Z ⟨.row (by simp),rfl,ac⟩ (hR Z (eK l Lit.c) Z ac) Z))
theorem GL(l:List Expr)(hb:l.length<=10000000000):Pure prog 92 [.iv (bw 7 l Expr.c)] (.iv (bw 7 l Expr.c)):=by
 refine ai ab func92 Z (by decide) ntmps92 Z (by simp) Z ?_;refine fk Z ac (ib Z Z Z Z underlying122 Z fun b u=>?_);refine gA Z ?_;refine Oz (fun x=>?_) (fun x=>?_)
 .have j:l=[]:=Pn (u x);subst j;refine gA Z (aT (by first|exact .inr Z|exact .inl Z) Z ?_);exact .nil _ _
 refine fk Z ac (jG ab Z Z Z Z Z Z Z fun A=>?_);by_cases j:l=[]
 .subst j;refine fk Z ac (kr ab Z Z Z Z Z Z Z Z (el2:=fun k=>Expr.c (([]:List Expr).getD k ci)) Z ?_);refine gA Z (aT (by first|exact .inr Z|exact .inl Z) Z ?_);exact .refl _
 .have y:0<l.length:=PD.2 j;refine fk Z ac (jH ab Z Z Z Z Z Z Z Z (by decide) Z (gK Z) (by simp;omega) (by show((O4 l.length).map _).length*88<=_;simp;omega) (by simp;omega) Z ?_);refine gA Z (dq (by first|exact .inr Z|exact .inl Z) Z Z ((eK l Expr.c)) ((by simp)))
theorem Di(l:List Expr)(hb:l.length<=10000000000)(h0:l≠ []):bC prog 92 [.iv (bw 7 l Expr.c)] [] (.sl 0 0 l.length 7) [(0,co (aP 7 l Expr.c))] 1:=by
 have x:0<l.length:=PD.2 h0;refine au ab func92 Z (by decide) ntmps92 Z (by simp) ?_;refine fk Z ac (ib Z Z Z Z underlying122 Z fun b j=>?_);refine gA Z ?_;refine Oz (fun u=>?_) (fun u=>?_)
 .exact absurd (j u) (by omega)
 refine fk Z ac (jG ab Z Z Z Z Z Z Z fun y=>?_);refine fk Z ac (jH ab Z Z Z Z Z Z Z Z (by decide) Z (gK Z) (by simp;omega) (by show((O4 l.length).map _).length*88<=_;simp;omega) (by simp;omega) Z ?_);refine gA Z (aY [1] (by first|exact .inr Z|exact .inl Z) Z (wk Z Z Z ⟨.row (by simp),rfl,ac⟩ (hR Z (eK l Expr.c) Z ac) Z))
theorem GH(l:List c8)(hb:l.length<=10000000000):Pure prog 49 [.iv (bw 3 l c8.c)] (.iv (bw 3 l c8.c)):=by
 refine ai ab func49 Z (by decide) ntmps49 Z (by simp) Z ?_;refine fk Z ac (ib Z Z Z Z underlying37 Z fun b u=>?_);refine gA Z ?_;refine Oz (fun x=>?_) (fun x=>?_)
 .have j:l=[]:=Pn (u x);subst j;refine gA Z (aT (by first|exact .inr Z|exact .inl Z) Z ?_);exact .nil _ _
 refine fk Z ac (jG ab Z Z Z Z Z Z Z fun A=>?_);by_cases j:l=[]
 .subst j;refine fk Z ac (kr ab Z Z Z Z Z Z Z Z (el2:=fun k=>c8.c (([]:List c8).getD k ci)) Z ?_);refine gA Z (aT (by first|exact .inr Z|exact .inl Z) Z ?_);exact .refl _
 .have y:0<l.length:=PD.2 j;refine fk Z ac (jH ab Z Z Z Z Z Z Z Z (by decide) Z (gK Z) (by simp;omega) (by show((O4 l.length).map _).length*32<=_;simp;omega) (by simp;omega) Z ?_);refine gA Z (dq (by first|exact .inr Z|exact .inl Z) Z Z ((eK l c8.c)) ((by simp)))
theorem GK(l:List Fact)(hb:l.length<=10000000000):Pure prog 54 [.iv (bw 2 l Fact.c)] (.iv (bw 2 l Fact.c)):=by
 refine ai ab func54 Z (by decide) ntmps54 Z (by simp) Z ?_;refine fk Z ac (ib Z Z Z Z underlying48 Z fun b u=>?_);refine gA Z ?_;refine Oz (fun x=>?_) (fun x=>?_)
 .have j:l=[]:=Pn (u x);subst j;refine gA Z (aT (by first|exact .inr Z|exact .inl Z) Z ?_);exact .nil _ _
 refine fk Z ac (jG ab Z Z Z Z Z Z Z fun A=>?_);by_cases j:l=[]
 .subst j;refine fk Z ac (kr ab Z Z Z Z Z Z Z Z (el2:=fun k=>Fact.c (([]:List Fact).getD k ci)) Z ?_);refine gA Z (aT (by first|exact .inr Z|exact .inl Z) Z ?_);exact .refl _
 .have y:0<l.length:=PD.2 j;refine fk Z ac (jH ab Z Z Z Z Z Z Z Z (by decide) Z (gK Z) (by simp;omega) (by show((O4 l.length).map _).length*40<=_;simp;omega) (by simp;omega) Z ?_);refine gA Z (dq (by first|exact .inr Z|exact .inl Z) Z Z ((eK l Fact.c)) ((by simp)))
theorem Dk{α:Type}[Inhabited α]{l:List α}{g:α->List PV}{i:Nat}(hi:i<l.length):(l.map g).set (0+i) (g (l.getD i ci))=l.map g:=by
 refine Qy fun j=>?_;rw[OY,P8];split
 .rename_i e;subst e;rw[am (by simpa using hi),OC,Ow,Ox hi];rfl
 .rfl
theorem Dl{α:Type}[Inhabited α]{l:List α}{g:α->List PV}{i:Nat}(hi:i<l.length):(l.map g)[0+i]? =co (g (l.getD i ci)):=by
 rw[OY,OC,Ow,Ox hi];rfl
theorem Jf: ∀(n:Nat) (e:Expr),e.size<=n->e.size<=1000000000->Pure prog 72 [ag e.c] (ag e.c)
 |0,e,h,_=>absurd e.size_pos (by omega)
 |n+1,e,h,hb=>by
  have A:=e.size_eq;have y:=Expr.aF e.args;refine Al.Pure.le (aa:=[ag e.c]) (args:=[ag e.c1]) ?_ ⟨e.D2,ac⟩;by_cases j:e.args=[]
  .refine ai ab func72 Z (by decide) ntmps72 Z (by simp) Z ?_;refine gA Z (aB (GL e.args (by omega)) Z Z Z Z Z Z ?_);refine gA Z (n9 (n:=0) ?_);refine gA Z ?_;refine Oz (fun u=>?_) (fun u=>?_)
   .exact absurd u (by simp[j])
   refine gA Z (aT (by first|exact .inr Z|exact .inl Z) Z ?_);exact e.Hk
  refine ai ab func72 Z (by decide) ntmps72 Z (by simp) Z ?_;refine gA Z (bJ [] (Di e.args (by omega) j) Z Z Z Z Z Z Z Z ?_);refine gA Z ?_;refine aK 0 e.args.length (OL _) (fun i=>⟨[(1,.ptr 0 0),(2,.ptr 1 0),(10,pI e.args.length),(11,pI i)],[(0,co (.cells [.iv (iI e.kind),.iv (iS e.var),.iv (iI e.val.kind),.iv (iI e.val.num),.iv (iS e.val.sym),.iv (iI e.op),.sl 2 0 e.args.length 7])),(1,co (.cells [pI 0,pS OB,pI 0,pI 0,pS OB,pI 0,.iv (.v (.slice io 0 0))])),(2,co (aP 7 e.args Expr.c))],3⟩) (fun _=>True) [] ac
   (wk Z Z Z (bi (bi (bi (bi trivial)))) ⟨⟨_,rfl,.of_eq Z⟩,Oq Z,rfl,⟨⟨_,rfl,.of_eq Z⟩,Oq Z,rfl,hR Z (by rw[PT];exact QF fun x _=>mI _ _) Z trivial⟩⟩ Z) fun i C _=>?_
  refine gA Z ?_;refine Oz (fun h1=>?_) (fun h1=>?_)
  .have h1:i<e.args.length:=by simpa using h1
   have B:=Expr.bR e.args i h1;have b:=Dl (g:=fun x=>(Expr.c x).map PV.iv) h1;refine gM 16 Z (sQ (p:=ag (e.args.getD i ci).c) 7 Z Z Z Z Z Z (hQ ab Z Z Z Z b Z) ?_);refine gA Z (bA ab [] (Pure.tC (Jf n (e.args.getD i ci) (by omega) (by omega))) Z Z Z Z Z Z Z Z Z Z Z Z (by(repeat' (first|exact ac|exact rfl|exact an.refl _|exact an.bk (by assumption)|apply Oz))<;>first|omega|(simp only[OA];omega)|(simp;done)|(simp;omega)) Z (by(repeat' (first|exact ac|exact rfl|exact an.refl _|exact an.bk (by assumption)|apply Oz))<;>first|omega|(simp only[OA];omega)|(simp;done)|(simp;omega)) ?_);refine gA Z (kZ ab Z Z Z Z Z (by first|trivial|(repeat' apply Oz)<;>trivial) (yu ab Z Z (i:=2) (sz:=7) (q:=0+i) Z Z Z Z (by simp;omega) Z Z Z) Z (by first|trivial|(repeat' apply Oz)<;>trivial) ?_);refine gA Z ⟨h1,ac,[],wk Z Z Z (bi (bi (bi (bi ac)))) ⟨⟨_,rfl,.of_eq Z⟩,Oq Z,rfl,⟨⟨_,rfl,.of_eq Z⟩,Oq Z,rfl,hR Z (Dk (g:=fun x=>(Expr.c x).map PV.iv) h1) Z ac⟩⟩ Z⟩
  .have h1:e.args.length<=i:=by simpa using h1
   refine gA Z (lg (.inr Z) Z (iB.Dm 2 e.args Expr.c Z Z (by simp[PV.cF,c7]) (.done ?_)));have:an (ag e.c1) (ag e.c):=e.Hk;simp only[PV.dZ,p4,OY];exact this
theorem yB(e:Expr)(hb:e.size<=1000000000):Pure prog 72 [ag e.c] (ag e.c):=Jf e.size e (OJ _) hb
theorem mF(f:Fact)(hb:f.args.length<=10000000000):Pure prog 26 [ag f.c] (ag f.c):=by
 refine ai ab func26 Z (by decide) ntmps26 Z (by simp) Z ?_;refine gA Z (bA ab [] (Pure.tC (GH f.args hb)) Z Z Z Z Z Z Z Z Z Z Z Z (by(repeat' (first|exact ac|exact rfl|exact an.refl _|exact an.bk (by assumption)|apply Oz))<;>first|omega|(simp only[OA];omega)|(simp;done)|(simp;omega)) Z (by(repeat' (first|exact ac|exact rfl|exact an.refl _|exact an.bk (by assumption)|apply Oz))<;>first|omega|(simp only[OA];omega)|(simp;done)|(simp;omega)) ?_);refine gA Z (aT (by first|exact .inr Z|exact .inl Z) Z (.of_eq ?_));rfl
abbrev kF:KC:= .fl fy
abbrev NJ(f:Fact):PV:=kF.pk (bn f)
theorem aU(a0:ak): ∀(args:List c8),args.length<=8->
  ([pS a0,pI args.length]++(aI fc.zero).drop 2).take 2++((O4 args.length).map fun k=>(c8.c (args.getD k ci)).map PV.iv).flatten++([pS a0,pI args.length]++(aI fc.zero).drop 2).drop (2+((O4 args.length).map fun k=>(c8.c (args.getD k ci)).map PV.iv).length*3)
   =(FK.vs fy (bn ⟨a0,args⟩)).map fun v=>PV.iv (.v v)
 | [],_=>rfl
 | [_],_=>rfl
 | [_,_],_=>rfl
 | [_,_,_],_=>rfl
 | [_,_,_,_],_=>rfl
 | [_,_,_,_,_],_=>rfl
 | [_,_,_,_,_,_],_=>rfl
 | [_,_,_,_,_,_,_],_=>rfl
 | [_,_,_,_,_,_,_,_],_=>rfl
 |_::_::_::_::_::_::_::_::_::_,h=>by simp at h
theorem De(f:Fact)(hb:f.args.length<=8):Pure prog 46 [ag f.c] (.bf [NJ f,pB is]):=by
 refine ai ab func46 Z (by decide) ntmps46 Z (by simp) Z ?_;refine gA Z ?_;refine Oz (fun h1=>?_) (fun h1=>?_)
 .exact absurd h1 (by simp;omega)
 refine gA Z (sQ (p:= .mN 2 2 8) 1 Z Z Z Z Z Z (HV ab Z Z Z Z Z) ?_);refine gA Z (kZ ab Z Z Z Z Z (by(repeat' (first|exact ac|exact rfl|exact an.refl _|exact an.bk (by assumption)|apply Oz))<;>first|omega|(simp only[OA];omega)|(simp;done)|(simp;omega)) (EP ab Z Z Z Z Z Z Z (gK Z) (fun e b=>by obtain⟨k,_,rfl⟩:=OZ.1 b;rfl) (by simp;omega) (by show 2+_*3<=26;simp;omega) Z) Z (by(repeat' (first|exact ac|exact rfl|exact an.refl _|exact an.bk (by assumption)|apply Oz))<;>first|omega|(simp only[OA];omega)|(simp;done)|(simp;omega)) ?_)
 first
  |(refine gM 1 Z ?_;refine ae (L:=[]) (t:=⟨[(2,.ptr 1 0),(4,.ptr 2 0)],[(1,co (.cells (aI fc.zero))),(2,co (ay ((FK.vs fy (bn f)).map IV.v)))],3⟩) (wk Z Z Z (bi (bi ac)) ⟨⟨_,rfl,.of_eq Z⟩,Oq Z,rfl,hC Z (aU f.rel f.args hb) Z ac⟩ Z) ?_)
  |(refine gM 2 Z ?_;refine ae (L:=[]) (t:=⟨[(2,.ptr 1 0),(4,.ptr 2 0)],[(1,co (.cells (aI fc.zero))),(2,co (ay ((FK.vs fy (bn f)).map IV.v)))],3⟩) (wk Z Z Z (bi (bi ac)) ⟨⟨_,rfl,.of_eq Z⟩,Oq Z,rfl,hC Z (aU f.rel f.args hb) Z ac⟩ Z) ?_)
  |(refine gM 3 Z ?_;refine ae (L:=[]) (t:=⟨[(2,.ptr 1 0),(4,.ptr 2 0)],[(1,co (.cells (aI fc.zero))),(2,co (ay ((FK.vs fy (bn f)).map IV.v)))],3⟩) (wk Z Z Z (bi (bi ac)) ⟨⟨_,rfl,.of_eq Z⟩,Oq Z,rfl,hC Z (aU f.rel f.args hb) Z ac⟩ Z) ?_)
  |(refine gM 4 Z ?_;refine ae (L:=[]) (t:=⟨[(2,.ptr 1 0),(4,.ptr 2 0)],[(1,co (.cells (aI fc.zero))),(2,co (ay ((FK.vs fy (bn f)).map IV.v)))],3⟩) (wk Z Z Z (bi (bi ac)) ⟨⟨_,rfl,.of_eq Z⟩,Oq Z,rfl,hC Z (aU f.rel f.args hb) Z ac⟩ Z) ?_)
  |(refine gM 5 Z ?_;refine ae (L:=[]) (t:=⟨[(2,.ptr 1 0),(4,.ptr 2 0)],[(1,co (.cells (aI fc.zero))),(2,co (ay ((FK.vs fy (bn f)).map IV.v)))],3⟩) (wk Z Z Z (bi (bi ac)) ⟨⟨_,rfl,.of_eq Z⟩,Oq Z,rfl,hC Z (aU f.rel f.args hb) Z ac⟩ Z) ?_)
  |(refine gM 6 Z ?_;refine ae (L:=[]) (t:=⟨[(2,.ptr 1 0),(4,.ptr 2 0)],[(1,co (.cells (aI fc.zero))),(2,co (ay ((FK.vs fy (bn f)).map IV.v)))],3⟩) (wk Z Z Z (bi (bi ac)) ⟨⟨_,rfl,.of_eq Z⟩,Oq Z,rfl,hC Z (aU f.rel f.args hb) Z ac⟩ Z) ?_)
  |(refine gM 7 Z ?_;refine ae (L:=[]) (t:=⟨[(2,.ptr 1 0),(4,.ptr 2 0)],[(1,co (.cells (aI fc.zero))),(2,co (ay ((FK.vs fy (bn f)).map IV.v)))],3⟩) (wk Z Z Z (bi (bi ac)) ⟨⟨_,rfl,.of_eq Z⟩,Oq Z,rfl,hC Z (aU f.rel f.args hb) Z ac⟩ Z) ?_)
  |(refine gM 8 Z ?_;refine ae (L:=[]) (t:=⟨[(2,.ptr 1 0),(4,.ptr 2 0)],[(1,co (.cells (aI fc.zero))),(2,co (ay ((FK.vs fy (bn f)).map IV.v)))],3⟩) (wk Z Z Z (bi (bi ac)) ⟨⟨_,rfl,.of_eq Z⟩,Oq Z,rfl,hC Z (aU f.rel f.args hb) Z ac⟩ Z) ?_)
  |(refine gM 9 Z ?_;refine ae (L:=[]) (t:=⟨[(2,.ptr 1 0),(4,.ptr 2 0)],[(1,co (.cells (aI fc.zero))),(2,co (ay ((FK.vs fy (bn f)).map IV.v)))],3⟩) (wk Z Z Z (bi (bi ac)) ⟨⟨_,rfl,.of_eq Z⟩,Oq Z,rfl,hC Z (aU f.rel f.args hb) Z ac⟩ Z) ?_)
  |(refine gM 10 Z ?_;refine ae (L:=[]) (t:=⟨[(2,.ptr 1 0),(4,.ptr 2 0)],[(1,co (.cells (aI fc.zero))),(2,co (ay ((FK.vs fy (bn f)).map IV.v)))],3⟩) (wk Z Z Z (bi (bi ac)) ⟨⟨_,rfl,.of_eq Z⟩,Oq Z,rfl,hC Z (aU f.rel f.args hb) Z ac⟩ Z) ?_)
  |(refine gM 11 Z ?_;refine ae (L:=[]) (t:=⟨[(2,.ptr 1 0),(4,.ptr 2 0)],[(1,co (.cells (aI fc.zero))),(2,co (ay ((FK.vs fy (bn f)).map IV.v)))],3⟩) (wk Z Z Z (bi (bi ac)) ⟨⟨_,rfl,.of_eq Z⟩,Oq Z,rfl,hC Z (aU f.rel f.args hb) Z ac⟩ Z) ?_)
  |(refine gM 12 Z ?_;refine ae (L:=[]) (t:=⟨[(2,.ptr 1 0),(4,.ptr 2 0)],[(1,co (.cells (aI fc.zero))),(2,co (ay ((FK.vs fy (bn f)).map IV.v)))],3⟩) (wk Z Z Z (bi (bi ac)) ⟨⟨_,rfl,.of_eq Z⟩,Oq Z,rfl,hC Z (aU f.rel f.args hb) Z ac⟩ Z) ?_)
  |(refine gM 13 Z ?_;refine ae (L:=[]) (t:=⟨[(2,.ptr 1 0),(4,.ptr 2 0)],[(1,co (.cells (aI fc.zero))),(2,co (ay ((FK.vs fy (bn f)).map IV.v)))],3⟩) (wk Z Z Z (bi (bi ac)) ⟨⟨_,rfl,.of_eq Z⟩,Oq Z,rfl,hC Z (aU f.rel f.args hb) Z ac⟩ Z) ?_)
  |(refine gM 14 Z ?_;refine ae (L:=[]) (t:=⟨[(2,.ptr 1 0),(4,.ptr 2 0)],[(1,co (.cells (aI fc.zero))),(2,co (ay ((FK.vs fy (bn f)).map IV.v)))],3⟩) (wk Z Z Z (bi (bi ac)) ⟨⟨_,rfl,.of_eq Z⟩,Oq Z,rfl,hC Z (aU f.rel f.args hb) Z ac⟩ Z) ?_)
  |(refine gM 15 Z ?_;refine ae (L:=[]) (t:=⟨[(2,.ptr 1 0),(4,.ptr 2 0)],[(1,co (.cells (aI fc.zero))),(2,co (ay ((FK.vs fy (bn f)).map IV.v)))],3⟩) (wk Z Z Z (bi (bi ac)) ⟨⟨_,rfl,.of_eq Z⟩,Oq Z,rfl,hC Z (aU f.rel f.args hb) Z ac⟩ Z) ?_)
  |(refine gM 16 Z ?_;refine ae (L:=[]) (t:=⟨[(2,.ptr 1 0),(4,.ptr 2 0)],[(1,co (.cells (aI fc.zero))),(2,co (ay ((FK.vs fy (bn f)).map IV.v)))],3⟩) (wk Z Z Z (bi (bi ac)) ⟨⟨_,rfl,.of_eq Z⟩,Oq Z,rfl,hC Z (aU f.rel f.args hb) Z ac⟩ Z) ?_)
  |(refine gM 17 Z ?_;refine ae (L:=[]) (t:=⟨[(2,.ptr 1 0),(4,.ptr 2 0)],[(1,co (.cells (aI fc.zero))),(2,co (ay ((FK.vs fy (bn f)).map IV.v)))],3⟩) (wk Z Z Z (bi (bi ac)) ⟨⟨_,rfl,.of_eq Z⟩,Oq Z,rfl,hC Z (aU f.rel f.args hb) Z ac⟩ Z) ?_)
  |(refine gM 18 Z ?_;refine ae (L:=[]) (t:=⟨[(2,.ptr 1 0),(4,.ptr 2 0)],[(1,co (.cells (aI fc.zero))),(2,co (ay ((FK.vs fy (bn f)).map IV.v)))],3⟩) (wk Z Z Z (bi (bi ac)) ⟨⟨_,rfl,.of_eq Z⟩,Oq Z,rfl,hC Z (aU f.rel f.args hb) Z ac⟩ Z) ?_)
  |(refine gM 19 Z ?_;refine ae (L:=[]) (t:=⟨[(2,.ptr 1 0),(4,.ptr 2 0)],[(1,co (.cells (aI fc.zero))),(2,co (ay ((FK.vs fy (bn f)).map IV.v)))],3⟩) (wk Z Z Z (bi (bi ac)) ⟨⟨_,rfl,.of_eq Z⟩,Oq Z,rfl,hC Z (aU f.rel f.args hb) Z ac⟩ Z) ?_)
  |(refine gM 20 Z ?_;refine ae (L:=[]) (t:=⟨[(2,.ptr 1 0),(4,.ptr 2 0)],[(1,co (.cells (aI fc.zero))),(2,co (ay ((FK.vs fy (bn f)).map IV.v)))],3⟩) (wk Z Z Z (bi (bi ac)) ⟨⟨_,rfl,.of_eq Z⟩,Oq Z,rfl,hC Z (aU f.rel f.args hb) Z ac⟩ Z) ?_)
  |(refine gM 21 Z ?_;refine ae (L:=[]) (t:=⟨[(2,.ptr 1 0),(4,.ptr 2 0)],[(1,co (.cells (aI fc.zero))),(2,co (ay ((FK.vs fy (bn f)).map IV.v)))],3⟩) (wk Z Z Z (bi (bi ac)) ⟨⟨_,rfl,.of_eq Z⟩,Oq Z,rfl,hC Z (aU f.rel f.args hb) Z ac⟩ Z) ?_)
  |(refine gM 22 Z ?_;refine ae (L:=[]) (t:=⟨[(2,.ptr 1 0),(4,.ptr 2 0)],[(1,co (.cells (aI fc.zero))),(2,co (ay ((FK.vs fy (bn f)).map IV.v)))],3⟩) (wk Z Z Z (bi (bi ac)) ⟨⟨_,rfl,.of_eq Z⟩,Oq Z,rfl,hC Z (aU f.rel f.args hb) Z ac⟩ Z) ?_)
  |(refine gM 23 Z ?_;refine ae (L:=[]) (t:=⟨[(2,.ptr 1 0),(4,.ptr 2 0)],[(1,co (.cells (aI fc.zero))),(2,co (ay ((FK.vs fy (bn f)).map IV.v)))],3⟩) (wk Z Z Z (bi (bi ac)) ⟨⟨_,rfl,.of_eq Z⟩,Oq Z,rfl,hC Z (aU f.rel f.args hb) Z ac⟩ Z) ?_)
  |(refine gM 24 Z ?_;refine ae (L:=[]) (t:=⟨[(2,.ptr 1 0),(4,.ptr 2 0)],[(1,co (.cells (aI fc.zero))),(2,co (ay ((FK.vs fy (bn f)).map IV.v)))],3⟩) (wk Z Z Z (bi (bi ac)) ⟨⟨_,rfl,.of_eq Z⟩,Oq Z,rfl,hC Z (aU f.rel f.args hb) Z ac⟩ Z) ?_)
  |(refine gM 25 Z ?_;refine ae (L:=[]) (t:=⟨[(2,.ptr 1 0),(4,.ptr 2 0)],[(1,co (.cells (aI fc.zero))),(2,co (ay ((FK.vs fy (bn f)).map IV.v)))],3⟩) (wk Z Z Z (bi (bi ac)) ⟨⟨_,rfl,.of_eq Z⟩,Oq Z,rfl,hC Z (aU f.rel f.args hb) Z ac⟩ Z) ?_)
  |(refine gM 26 Z ?_;refine ae (L:=[]) (t:=⟨[(2,.ptr 1 0),(4,.ptr 2 0)],[(1,co (.cells (aI fc.zero))),(2,co (ay ((FK.vs fy (bn f)).map IV.v)))],3⟩) (wk Z Z Z (bi (bi ac)) ⟨⟨_,rfl,.of_eq Z⟩,Oq Z,rfl,hC Z (aU f.rel f.args hb) Z ac⟩ Z) ?_)
  |(refine gM 27 Z ?_;refine ae (L:=[]) (t:=⟨[(2,.ptr 1 0),(4,.ptr 2 0)],[(1,co (.cells (aI fc.zero))),(2,co (ay ((FK.vs fy (bn f)).map IV.v)))],3⟩) (wk Z Z Z (bi (bi ac)) ⟨⟨_,rfl,.of_eq Z⟩,Oq Z,rfl,hC Z (aU f.rel f.args hb) Z ac⟩ Z) ?_)
  |(refine gM 28 Z ?_;refine ae (L:=[]) (t:=⟨[(2,.ptr 1 0),(4,.ptr 2 0)],[(1,co (.cells (aI fc.zero))),(2,co (ay ((FK.vs fy (bn f)).map IV.v)))],3⟩) (wk Z Z Z (bi (bi ac)) ⟨⟨_,rfl,.of_eq Z⟩,Oq Z,rfl,hC Z (aU f.rel f.args hb) Z ac⟩ Z) ?_)
  |(refine gM 29 Z ?_;refine ae (L:=[]) (t:=⟨[(2,.ptr 1 0),(4,.ptr 2 0)],[(1,co (.cells (aI fc.zero))),(2,co (ay ((FK.vs fy (bn f)).map IV.v)))],3⟩) (wk Z Z Z (bi (bi ac)) ⟨⟨_,rfl,.of_eq Z⟩,Oq Z,rfl,hC Z (aU f.rel f.args hb) Z ac⟩ Z) ?_)
 refine gA Z (aT (by first|exact .inr Z|exact .inl Z) Z (.of_eq ?_));rfl
theorem KA(f:Fact)(hb:8<f.args.length):Pure prog 46 [ag f.c] (.bf [.agg (aI fc.zero),pB jp]):=by
 refine ai ab func46 Z (by decide) ntmps46 Z (by simp) Z ?_;refine gA Z ?_;refine Oz (fun h1=>?_) (fun h1=>?_)
 .refine gA Z (aT (by first|exact .inr Z|exact .inl Z) Z (.of_eq ?_));rfl
 .exact absurd h1 (by simp;omega)
section
def Fact.z:Fact:=⟨OB,[]⟩
def Ey(f:Fact):IV:= .agg f.c
def Jo:Value:= .agg #[.string OB,.slice io 0 0]
def valOf:List IV->c8
 | [.v (.int _ k),.v (.int _ n),.v (.string s)]=>⟨k,n,s⟩
 |_=>⟨0,0,OB⟩
def MZ:PV->Fact
 | .agg [.iv (.v (.string s)),.iv (.ck _ n el)]=>⟨s,(O4 n).map fun k=>valOf (el k)⟩
 |_=>Fact.z
def yg(x:bP Fact):IV:= .agg (bL x)
def HM:Value:= .agg #[.bool jp,.string OB,.slice io 0 0]
def bP.z:bP Fact:=(jp,Fact.z)
def Nr:PV->bP Fact
 | .agg [.iv (.v (.bool b)),p,q]=>(b,MZ (.agg [p,q]))
 |_=>bP.z
abbrev FM:=List (kF.K×Fact)
abbrev CM:=List (kF.K×bP Fact)
abbrev eW(m:FM):AO:= .map kF Ey Fact.z Jo MZ m
abbrev ET(m:CM):AO:= .map kF yg bP.z HM Nr m
abbrev yf(m:CM):IV:= .dO kF yg bP.z HM m
theorem CE(l:List c8):(O4 l.length).map (fun k=>valOf (c8.c (l.getD k ci)))=l:=by
 apply Qy;intro k;by_cases hk:k<l.length
 .simp[hk,valOf,c8.c]
 .simp[hk]
theorem EC(f:Fact):MZ (ag f.c)=f:=by
 show(⟨f.rel,(O4 f.args.length).map fun k=>valOf (c8.c (f.args.getD k ci))⟩:Fact)=f;rw[CE]
theorem Jr(x:bP Fact):Nr (ag (bL x))=x:=by
 show(x.1,MZ (ag x.2.c))=x;rw[EC]
theorem Ex(f:Fact):an (ag f.c) (.iv (Ey (MZ (ag f.c)))):=by rw[EC];exact Nu _
theorem HN(x:bP Fact):an (ag (bL x)) (.iv (yg (Nr (ag (bL x))))):=by rw[Jr];exact Nu _
theorem Ew: ∀M,IR M (Ey Fact.z) Jo:=fun M=>by
 refine .agg _ _ Z fun j p b=>?_
 match j,b with
 |0,b=>cases b;exact .v _
 |1,b=>cases b;exact .fM _ _ _ _
 |j+2,b=>simp[Fact.c]at b
theorem HK: ∀M,IR M (yg bP.z) HM:=fun M=>by
 refine .agg _ _ Z fun j p b=>?_
 match j,b with
 |0,b=>cases b;exact .v _
 |1,b=>cases b;exact .v _
 |2,b=>cases b;exact .fM _ _ _ _
 |j+3,b=>simp[bL,Fact.c]at b
abbrev gx(p:Prog)(n:Nat)(i:Nat):AO:= .cells [.mp i,.iv (bw 4 p.aQ Decl.c),.iv (bw 5 p.rules ax.c),pI n]
section
variable (p:Prog) (n:Nat) (m:FM)
abbrev bO:List AO:=[eW m,gx p n 0]
abbrev bH:AH:=[(0,co (eW m)),(1,co (gx p n 0))]
theorem Je:bC prog 28 [.ptr 1 0] (bO p n m) (.ptr 1 0) (bH p n m) 2:=by
 refine au ab func28 Z (by decide) ntmps28 Z (by simp) ?_;refine gA Z ?_;refine Oz (fun h1=>?_) (fun h1=>?_)
 .exact absurd h1 (by decide)
 refine gA Z (aY [] (by first|exact .inr Z|exact .inl Z) Z (wk Z Z Z (bi ac) (hM Z Z Z ⟨⟨_,rfl,.of_eq Z⟩,Oq Z,rfl,ac⟩) Z))
theorem Mv:bC prog 29 [.ptr 1 0] (bO p n m) (pI m.length) (bH p n m) 2:=by
 refine au ab func29 Z (by decide) ntmps29 Z (by simp) ?_;refine gA Z ?_;refine Oz (fun h1=>?_) (fun h1=>?_)
 .exact absurd h1 (by decide)
 refine gA Z (aY [] (by first|exact .inr Z|exact .inl Z) Z (wk Z Z Z (bi ac) (hM Z Z Z ⟨⟨_,rfl,.of_eq Z⟩,Oq Z,rfl,ac⟩) Z))
theorem iu:bC prog 12 [.ptr 1 0] (bO p n m) (pI m.length) (bH p n m) 2:=by
 refine au ab func12 Z (by decide) ntmps12 Z (by simp) ?_;refine gA Z (bJ [0,1] (Je p n m) Z Z Z Z Z Z Z Z ?_);refine gA Z (bJ [0,1] (Mv p n m) Z Z Z Z Z Z Z Z ?_);refine gA Z (aY [] (by first|exact .inr Z|exact .inl Z) Z (wk Z Z Z (bi ac) (hM Z Z Z ⟨⟨_,rfl,.of_eq Z⟩,Oq Z,rfl,ac⟩) Z))
theorem zY:bC prog 13 [.ptr 1 0] (bO p n m) (pI n) (bH p n m) 2:=by
 refine au ab func13 Z (by decide) ntmps13 Z (by simp) ?_;refine gA Z ?_;refine Oz (fun h1=>?_) (fun h1=>?_)
 .exact absurd h1 (by decide)
 refine gA Z (aY [] (by first|exact .inr Z|exact .inl Z) Z (wk Z Z Z (bi ac) (hM Z Z Z ⟨⟨_,rfl,.of_eq Z⟩,Oq Z,rfl,ac⟩) Z))
def hasB(f:Fact):Bool:=kw (f.args.length<=8)&&cO kF m (bn f)
theorem My(f:Fact):bC prog 30 [.ptr 1 0,ag f.c] (bO p n m) (pB (hasB m f)) (bH p n m) 2:=by
 by_cases j:f.args.length<=8
 .have e:hasB m f=cO kF m (bn f):=by rw[hasB,decide_eq_true j,QP]
  rw[e];refine au ab func30 Z (by decide) ntmps30 Z (by simp) ?_;refine gA Z (aB (De f j) Z Z Z Z Z Z ?_);refine gA Z ?_;refine Oz (fun h1=>?_) (fun h1=>?_);rotate_left
  .exact absurd h1 (by decide)
  refine gA Z ?_;refine Oz (fun b=>?_) (fun b=>?_)
  .exact absurd b (by decide)
  refine gA Z (aY [] (by first|exact .inr Z|exact .inl Z) Z (wk Z Z Z (bi ac) (hM Z Z Z ⟨⟨_,rfl,.of_eq Z⟩,Oq Z,rfl,ac⟩) Z))
 .have e:hasB m f=jp:=by rw[hasB,decide_eq_false j,P6]
  rw[e];refine au ab func30 Z (by decide) ntmps30 Z (by simp) ?_;refine gA Z (aB (KA f (by omega)) Z Z Z Z Z Z ?_);refine gA Z ?_;refine Oz (fun h1=>?_) (fun h1=>?_);rotate_left
  .exact absurd h1 (by decide)
  refine gA Z ?_;refine Oz (fun b=>?_) (fun b=>?_);rotate_left
  .exact absurd b (by decide)
  refine gA Z (aY [] (by first|exact .inr Z|exact .inl Z) Z (wk Z Z Z (bi ac) (hM Z Z Z ⟨⟨_,rfl,.of_eq Z⟩,Oq Z,rfl,ac⟩) Z))
theorem Mz(f:Fact):bC prog 14 [.ptr 1 0,ag f.c] (bO p n m) (pB (hasB m f)) (bH p n m) 2:=by
 refine au ab func14 Z (by decide) ntmps14 Z (by simp) ?_;refine gA Z (bA ab [0,1] (Je p n m) Z Z Z Z Z Z Z Z Z Z Z Z (by(repeat' (first|exact ac|exact rfl|exact an.refl _|exact an.bk (by assumption)|apply Oz))<;>first|omega|(simp only[OA];omega)|(simp;done)|(simp;omega)) Z (by(repeat' (first|exact ac|exact rfl|exact an.refl _|exact an.bk (by assumption)|apply Oz))<;>first|omega|(simp only[OA];omega)|(simp;done)|(simp;omega)) ?_);refine gA Z (bA ab [0,1] (My p n m f) Z Z Z Z Z Z Z Z Z Z Z Z (by(repeat' (first|exact ac|exact rfl|exact an.refl _|exact an.bk (by assumption)|apply Oz))<;>first|omega|(simp only[OA];omega)|(simp;done)|(simp;omega)) Z (by(repeat' (first|exact ac|exact rfl|exact an.refl _|exact an.bk (by assumption)|apply Oz))<;>first|omega|(simp only[OA];omega)|(simp;done)|(simp;omega)) ?_);refine gA Z (aY [] (by first|exact .inr Z|exact .inl Z) Z (wk Z Z Z (bi ac) (hM Z Z Z ⟨⟨_,rfl,.of_eq Z⟩,Oq Z,rfl,ac⟩) Z))
end
end
end Go.Proofs.YtllkaddcplhklaaGreatDoor
namespace Go.Proofs
open Go.Shelf
def Tryz.xS:Go.Shelf.Ren:=⟨fun|6=>50|15=>76|14=>75|28=>103|29=>104|20=>95|21=>96|22=>97|23=>98|24=>99|25=>100|26=>101|27=>102|46=>142|47=>143|48=>144|49=>145|50=>146|57=>182|n=>n,fun|22=>36|24=>42|25=>114|3=>3|39=>147|0=>0|53=>175|55=>177|4=>4|46=>168|45=>167|50=>172|5=>5|9=>9|66=>210|70=>214|76=>258|77=>259|n=>n,fun|n=>n⟩
theorem Tryz.Aq:Go.Proofs.SlLaysF0.n6 Tryz.prog Tryz.xS:={
 mixed:=by kernel_rfl
 f6:=⟨Tryz.f50.name,by decide,Tryz.func50.trans (congrArg co (by kernel_rfl))⟩
 f14:=⟨Tryz.f75.name,by decide,Tryz.func75.trans (congrArg co (by kernel_rfl))⟩
 f15:=Tryz.func76.trans (congrArg co (by kernel_rfl))
 f20:=⟨Tryz.f95.name,by decide,Tryz.func95.trans (congrArg co (by kernel_rfl))⟩
 f21:=⟨Tryz.f96.name,by decide,Tryz.func96.trans (congrArg co (by kernel_rfl))⟩
 f22:=⟨Tryz.f97.name,by decide,Tryz.func97.trans (congrArg co (by kernel_rfl))⟩
 f23:=⟨Tryz.f98.name,by decide,Tryz.func98.trans (congrArg co (by kernel_rfl))⟩
 f24:=⟨Tryz.f99.name,by decide,Tryz.func99.trans (congrArg co (by kernel_rfl))⟩
 f25:=⟨Tryz.f100.name,by decide,Tryz.func100.trans (congrArg co (by kernel_rfl))⟩
 f26:=⟨Tryz.f101.name,by decide,Tryz.func101.trans (congrArg co (by kernel_rfl))⟩
 f27:=⟨Tryz.f102.name,by decide,Tryz.func102.trans (congrArg co (by kernel_rfl))⟩
 f28:=Tryz.func103.trans (congrArg co (by kernel_rfl))
 f29:=Tryz.func104.trans (congrArg co (by kernel_rfl))
 f46:=⟨Tryz.f142.name,by decide,Tryz.func142.trans (congrArg co (by kernel_rfl))⟩
 f47:=Tryz.func143.trans (congrArg co (by kernel_rfl))
 f48:=Tryz.func144.trans (congrArg co (by kernel_rfl))
 f49:=⟨Tryz.f145.name,by decide,Tryz.func145.trans (congrArg co (by kernel_rfl))⟩
 f50:=⟨Tryz.f146.name,by decide,Tryz.func146.trans (congrArg co (by kernel_rfl))⟩
 f57:=⟨Tryz.f182.name,by decide,Tryz.func182.trans (congrArg co (by kernel_rfl))⟩
 t0:=Tryz.underlying0
 a0:=Tryz.isAgg0
 z0:=Tryz.sizeOf0
 v0:=Tryz.zeroValue0
 t3:=Tryz.underlying3
 a3:=Tryz.isAgg3
 z3:=Tryz.sizeOf3
 v3:=Tryz.zeroValue3
 t4:=Tryz.underlying4
 a4:=Tryz.isAgg4
 z4:=Tryz.sizeOf4
 v4:=Tryz.zeroValue4
 t5:=Tryz.underlying5
 a5:=Tryz.isAgg5
 z5:=Tryz.sizeOf5
 v5:=Tryz.zeroValue5
 t9:=Tryz.underlying9
 a9:=Tryz.isAgg9
 z9:=Tryz.sizeOf9
 v9:=Tryz.zeroValue9
 t22:=Tryz.underlying36
 a22:=Tryz.isAgg36
 z22:=Tryz.sizeOf36
 v22:=Tryz.zeroValue36
 t25:=Tryz.underlying114
 a25:=Tryz.isAgg114
 z25:=Tryz.sizeOf114
 v25:=Tryz.zeroValue114
 t39:=Tryz.underlying147
 a39:=Tryz.isAgg147
 z39:=Tryz.sizeOf147
 v39:=Tryz.zeroValue147
 t45:=Tryz.underlying167
 a45:=Tryz.isAgg167
 z45:=Tryz.sizeOf167
 v45:=Tryz.zeroValue167
 t46:=Tryz.underlying168
 a46:=Tryz.isAgg168
 z46:=Tryz.sizeOf168
 v46:=Tryz.zeroValue168
 t50:=Tryz.underlying172
 a50:=Tryz.isAgg172
 z50:=Tryz.sizeOf172
 v50:=Tryz.zeroValue172
 t53:=Tryz.underlying175
 a53:=Tryz.isAgg175
 z53:=Tryz.sizeOf175
 v53:=Tryz.zeroValue175
 t55:=Tryz.underlying177
 a55:=Tryz.isAgg177
 z55:=Tryz.sizeOf177
 v55:=Tryz.zeroValue177
 t66:=Tryz.underlying210
 a66:=Tryz.isAgg210
 z66:=Tryz.sizeOf210
 v66:=Tryz.zeroValue210
 t70:=Tryz.underlying214
 a70:=Tryz.isAgg214
 z70:=Tryz.sizeOf214
 v70:=Tryz.zeroValue214
 t76:=Tryz.underlying258
 a76:=Tryz.isAgg258
 z76:=Tryz.sizeOf258
 v76:=Tryz.zeroValue258
 t77:=Tryz.underlying259
 a77:=Tryz.isAgg259
 z77:=Tryz.sizeOf259
 v77:=Tryz.zeroValue259}
theorem YtllkaddcplhklaaGreatDoor.Mn:Go.Al.E9 Tryz.prog 50 3:=
 ⟨fun enc hk h1 A hO g y x b0 a0 d w eg j hH b u=>AnyQ.slices_SortFunc Tryz.Aq 3 (fun _=>Go.Al.fF (YtllkaddcplhklaaGreatDoor.ab 42 _ Z)) (fun _=>Go.Al.aN (YtllkaddcplhklaaGreatDoor.ab 42 _ Z)) enc hk h1 A hO g y x b0 a0 d w eg j hH b u,
  fun p a0 B w=>AnyF.slices_SortFunc_none Tryz.Aq p a0 B w⟩
end Go.Proofs
namespace Go.Proofs.YtllkaddcplhklaaGreatDoor
open Go Go.Al Go.Proofs.Tryz Go.Bo
theorem C5{l u:List (bP Fact)}(hF: ∀x∈l,x.2.args.length<=1000000000)(hn:(l.map (·.2)).Nodup)(hp:l.Perm u)(hs:pf aR u)(j:l.length<=1000000000000):bC prog 50 [.sl 0 0 l.length 3,.b4 (.func 51) [] []] [aP 3 l bL] (.bf []) [(0,co (aP 3 u bL))] 1:=
 Bj Mn (bm func50 Z (by decide)) (bm func51 Z (by decide)) (by decide) bL (fun a b=>aR a.2 b.2) (fun f=>f.2.args.length<=1000000000) (fun x y A B=>GN x y A B) (fun _=>rfl)
  (fun x c hc=>by
   rcases OG.1 hc with rfl|hc
   .rfl
   rcases OG.1 hc with rfl|hc
   .rfl
   .rw[OI.1 hc];rfl)
  (fun x _=>mD.Jl x.2) (fun x y z _ _ _=>mD.tr x.2 y.2 z.2) (fun x y z _ _ _=>mD.ND) l u hF (fun x A y B a b=>by
   have e:=mD.Md a b;have key: ∀{l:List (bP Fact)},(l.map (·.2)).Nodup->x∈l->y∈l->x=y:=by
    intro l
    induction l with
    |nil=>intro _ m;cases m
    |cons z r ih=>
     intro hn m1 m2;rw[OU,O7]at hn;rcases OG.1 m1 with e1|e1<;>rcases OG.1 m2 with e2|e2
     .exact e1.trans e2.symm
     .exact absurd (OZ.2 ⟨_,e2,by rw[<-e,e1]⟩) hn.1
     .exact absurd (OZ.2 ⟨_,e1,by rw[e,e2]⟩) hn.1
     .exact ih hn.2 e1 e2
   exact key hn A B) hp (hs.imp fun{a b} h=>mD.asym h) j _ (fun M N U v h=>by
   cases h with
   |b4 _ _ _ f' c' h1 h2=>simp at h1 h2;simp[P2 h1.symm,P2 h2.symm])
abbrev kC(m:CM)(j:Nat):bP Fact:=(m.getD j (bn Fact.z,bP.z)).2
theorem BR{m:CM}{vs:List Nat}(hn:vs.Nodup)(u: ∀j∈vs,j<m.length)(h: ∀j,j<m.length->j∈vs):(vs.reverse.map (kC m)).Perm (m.map (·.2)):=by
 have h1:=(zt hn u h).map fun j=>m.getD j (bn Fact.z,bP.z);rw[gz]at h1;have b:=h1.map (·.2);rw[PT]at b;exact((List.reverse_perm vs).map _).trans b
theorem Jc{b:CM}{L:List (bP Fact)}(hp:(b.map (·.2)).Perm L)(hs:pf aR L)(hF: ∀x∈L,x.2.args.length<=1000000000)(hl:L.length<=100000000):Pure prog 27 [.iv (yf b)] (.iv (bw 3 L bL)):=by
 have b0:b.length=L.length:=by have:=hp.length_eq;rwa[O3]at this
 refine ai ab func27 Z (by decide) ntmps27 Z (by simp) Z ?_;refine gA Z ?_;refine kY 3 3 Z ?_;refine eU b (fun vs=>⟨[(3,.sl 2 0 (vs.reverse.map (kC b)).length 3),(7,.ptr 0 0)],[(0,co (.bF kF yg b vs io)),(2,co (aP 3 (vs.reverse.map (kC b)) bL))],3⟩) (fun vs=>vs.Nodup∧ ∀j∈vs,j<b.length) [1] ⟨Pe,by simp⟩
  (wk Z Z Z (bi (bi trivial)) (hI Z Z (.inl Z) Z (hR Z Z Z trivial)) Z) fun vs Y=>?_
 obtain⟨y,A⟩:=Y;have c0:=CB y A;refine fk Z ac (dm Z Z Z Z Z (by decide) (fun C=>?_) fun j x B R=>?_)
 .have D:=(BR y A C).trans hp;have G:=D.length_eq;refine gA Z (bJ [2] (C5 (fun x B=>hF x (D.mem_iff.1 B)) (((D.map (·.2)).nodup_iff).2 ((pf.facts hs).nodup mD)) D hs (by omega)) Z Z Z Z Z (by show[_]=[co (AO.cq _ (aP _ _ _))];rw[b5];rfl) Z Z ?_);refine gA Z (dq (by first|exact .inr Z|exact .inl Z) Z Z ((by rw[PT];exact QF fun x _=>mI _ _)) (G))
 .have J:x.2=kC b j:=by rw[kC,Ow,B];rfl
  have I:x.2∈L:=hp.mem_iff.1 (OZ.2 ⟨x,O9 B,rfl⟩);have a0: ∀u,u=j::vs->u.Nodup∧ ∀i∈u,i<b.length:=fun u e=>e▸⟨O7.2 ⟨R,y⟩,fun i hi=>(OG.1 hi).elim (fun h=>h▸(Ov.1 B).1) (A i)⟩;refine gA Z (bA ab [] (Pure.tC (mF x.2.2 (by have:=hF _ I;omega))) Z Z Z Z Z Z Z Z Z Z Z Z (by(repeat' (first|exact ac|exact rfl|exact an.refl _|exact an.bk (by assumption)|apply Oz))<;>first|omega|(simp only[OA];omega)|(simp;done)|(simp;omega)) Z (by(repeat' (first|exact ac|exact rfl|exact an.refl _|exact an.bk (by assumption)|apply Oz))<;>first|omega|(simp only[OA];omega)|(simp;done)|(simp;omega)) ?_);refine gA Z ⟨j,x,B,R,a0 _ Z,[5],wk Z Z Z ⟨.row (by simp),rfl,bi ac⟩ (hI Z Z (.inr Z) Z (hR Z (by rw[List.reverse_cons,OM,OM,List.map_singleton,<-J];rfl) Z ac)) Z⟩
abbrev A4:AO:= .cells [.ptr 1 0]
abbrev nO(p:Prog)(n:Nat)(m:FM):List AO:=[eW m,gx p n 0,A4]
abbrev nH(p:Prog)(n:Nat)(m:FM):AH:=[(0,co (eW m)),(1,co (gx p n 0)),(2,co A4)]
def lC(m:FM)(e:kF.K×bP Fact):Bool:=cO kF m e.1==e.2.1
theorem Mx(p:Prog)(n:Nat)(m:FM)(k:kF.K)(x:bP Fact):bC prog 48 [kF.pk k,ag (bL x),.ptr 2 0] (nO p n m) (pB (lC m (k,x))) (nH p n m) 3:=by
 refine au ab func48 Z (by decide) ntmps48 Z (by simp) ?_;refine gA Z (aY [] (by first|exact .inr Z|exact .inl Z) Z (wk Z Z Z (bi ac) (hM Z Z Z ⟨⟨_,rfl,.of_eq Z⟩,Oq Z,rfl,⟨⟨_,rfl,.of_eq Z⟩,Oq Z,rfl,ac⟩⟩) Z))
theorem NB(p:Prog)(n:Nat)(m:FM)(u:CM)(hn:(u.map (·.1)).Nodup)(hl:u.length<=1000000000):bC prog 47 [.mp 3,.b4 (.func 48) [] [.ptr 2 0]] (nO p n m++ [ET u]) (.bf []) (nH p n m++ [(3,co (ET (u.filter fun e=>!lC m e)))]) 4:=by
 refine au ab func47 Z (by decide) ntmps47 Z (by simp) ?_;refine gM 3 Z (cM Z (BC ab Z Z Z Z Z Z (by decide)) ?_);rintro t ⟨bs,clock,hbl,hbn,hbc,rfl⟩
 refine gA Z (Ht u.length (fun vs=>⟨[(0,.mp 3),(1,.b4 (.func 48) [] [.ptr 2 0]),(7,.ptr 4 0)],[(0,co (eW m)),(1,co (gx p n 0)),(2,co A4),(3,co (.ig kF yg bP.z HM Nr (lX u (bn Fact.z,bP.z) (fun j=>lC m (u.getD j (bn Fact.z,bP.z))) vs) (ni u.length bs (fun j=>lC m (u.getD j (bn Fact.z,bP.z))) vs) clock)),(4,co (.dT (.mp 3) clock (nM bs vs)))],5⟩) (fun _=>True) [] ac
  (wk Z Z Z (bi (bi (bi ac))) (hM Z Z Z ⟨⟨_,rfl,.of_eq Z⟩,Oq Z,rfl,⟨⟨_,rfl,.of_eq Z⟩,Oq Z,rfl,⟨⟨_,rfl,.of_eq (by rw[BX,BY hbl];rfl)⟩,Oq Z,ac,⟨⟨_,rfl,.of_eq Z⟩,Oq Z,rfl,ac⟩⟩⟩⟩) Z) fun vs R v2 _=>?_)
 refine gM 2 Z (cM Z (DK Z Z Z Z Z (by decide)) ?_);rintro t (⟨hall,rfl⟩|⟨q,x,b,hx,hb,hns,rfl⟩)
 .have hE:=D1 (d:=(bn Fact.z,bP.z)) hbl hbn v2 (lC m) (fun j=>rfl) hall;refine gA Z (aY [] (by first|exact .inr Z|exact .inl Z) Z (wk Z Z Z (bi ac) (hM Z Z Z ⟨⟨_,rfl,.of_eq Z⟩,Oq Z,rfl,⟨⟨_,rfl,.of_eq Z⟩,Oq Z,rfl,hMb Z hE Z ac⟩⟩) Z))
 .obtain⟨j,B,C,y,I⟩:=left_at hbl hx hb;have D:u.getD j (bn Fact.z,bP.z)=x:=by rw[Ow,C];rfl
  refine gM 8 Z (cM Z (Ce Z Z Z Z Br hb hx Z) ?_);rintro t rfl;refine gA Z (bJ [0,1,2] (Mx p n m x.1 x.2) Z Z Z Z Z Z Z Z ?_);have G:lC m (x.1,x.2)=lC m (u.getD j (bn Fact.z,bP.z)):=by rw[D]
  refine gA Z ?_;refine Oz (fun g1=>?_) (fun g1=>?_)
  .have g1:lC m (u.getD j (bn Fact.z,bP.z))=is:=by rw[<-G];exact g1
   obtain⟨A,J⟩:=D0 (m:=u) (d:=(bn Fact.z,bP.z)) (bs:=bs) (dl:=fun j=>lC m (u.getD j (bn Fact.z,bP.z))) g1 B;refine gM 3 Z (cM Z (zf ab Z Z Z Z Z Z (rfl:kF.dk _=co x.1) (AT ((BW.map _).nodup hn) hx) Z) ?_);rintro t rfl;refine gA Z ⟨j,I,w9 y hns,ac,[],wk Z Z Z (bi (bi (bi ac))) (hM Z Z Z ⟨⟨_,rfl,.of_eq Z⟩,Oq Z,rfl,⟨⟨_,rfl,.of_eq Z⟩,Oq Z,rfl,⟨⟨_,rfl,.of_eq (by rw[A,J];rfl)⟩,Oq Z,ac,⟨⟨_,rfl,.of_eq (by rw[uq y];rfl)⟩,Oq Z,rfl,ac⟩⟩⟩⟩) Z⟩
  .have g1:lC m (u.getD j (bn Fact.z,bP.z))=jp:=by rw[<-G];exact g1
   have A:=yX (n:=u.length) (vs:=vs) (dl:=fun j=>lC m (u.getD j (bn Fact.z,bP.z))) g1;refine gA Z ⟨j,I,w9 y hns,ac,[],wk Z Z Z (bi (bi (bi ac))) (hM Z Z Z ⟨⟨_,rfl,.of_eq Z⟩,Oq Z,rfl,⟨⟨_,rfl,.of_eq Z⟩,Oq Z,rfl,⟨⟨_,rfl,.of_eq (by unfold lX ni;rw[A];rfl)⟩,Oq Z,ac,⟨⟨_,rfl,.of_eq (by rw[uq y];rfl)⟩,Oq Z,rfl,ac⟩⟩⟩⟩) Z⟩
end Go.Proofs.YtllkaddcplhklaaGreatDoor
namespace Go.Proofs.YtllkaddcplhklaaGreatDoor
open Go Go.Al
def Ca(p:Prog)(f:Fact)(j:Nat):Bool:=kw ((f.args.getD j ci).kind=(ey p f.rel).types.getD j ci)
def nr(p:Prog)(f:Fact):Int:=
 if cO .str (mY p) f.rel=jp∨jj f=jp∨ ¬(f.args.length:Int)=((ey p f.rel).types.length:Int) then 5
 else if(O4 f.args.length).all (Ca p f)=is then 0 else 5
theorem BB{q:Nat->Bool}{n:Nat}(h: ∀j,j<n->q j=is):(O4 n).all q=is:=Pc.2 fun j b=>h j (PA.1 b)
theorem BA{q:Nat->Bool}{n j:Nat}(h:j<n)(b:q j=jp): ¬(O4 n).all q=is:=fun e=>by
 have:=Pc.1 e j (PA.2 h);rw[b]at this;cases this
theorem c16(p:Prog)(f:Fact)(hb:p.aQ.length<=1000000000)(hf:f.args.length<=1000000000):Pure Tryz.prog 45 [ag p.c,ag f.c] (pI (nr p f)):=by
 refine ai ab Tryz.func45 Z (by decide) Tryz.ntmps45 Z (by simp) Z ?_;refine gA Z (zd [] (d50 p (by omega)) ?_);refine zE Z Z (fun g1=>?_) fun g1=>?_
 .have g1:cO .str (mY p) f.rel=jp:=by simpa using g1
  rw[nr,am (.inl g1)];exact zU Z
 have g1: ¬cO .str (mY p) f.rel=jp:=by
  have g:(!cO .str (mY p) f.rel)=jp:=g1;intro h;rw[h]at g;cases g
 refine gA Z (zp (c55 f) ?_);refine zE Z Z (fun g2=>?_) fun g2=>?_
 .have g2:jj f=jp:=by
   cases h:jj f with
   |false=>rfl
   |true=>
    have g:(!kw ((if jj f then(0:Int) else 20)=0))=is:=g2;rw[h]at g;simp at g
  rw[nr,am (.inr (.inl g2))];exact zU Z
 have g2: ¬jj f=jp:=by
  intro h;have g:(!kw ((if jj f then(0:Int) else 20)=0))=jp:=g2;rw[h]at g;simp at g
 refine zJ Z Z (fun g3=>?_) fun g3=>?_
 .have g3: ¬(f.args.length:Int)=((ey p f.rel).types.length:Int):=by
   have g:(!kw ((f.args.length:Int)=((ey p f.rel).types.length:Int)))=is:=g3;simpa only[Py,decide_eq_false_iff_not]using g
  rw[nr,am (.inr (.inr g3))];exact zU Z
 have g3:(f.args.length:Int)=((ey p f.rel).types.length:Int):=by
  have g:(!kw ((f.args.length:Int)=((ey p f.rel).types.length:Int)))=jp:=g3;simpa only[Qe,decide_eq_true_eq]using g
 rw[nr,be (by rintro(h|h|h);exact g1 h;exact g2 h;exact h g3)];refine gA Z ?_;refine aK 0 f.args.length (OL _) (fun i=>⟨[(5,.ptr 3 0),(34,.iv (bw 3 f.args c8.c)),(35,pI f.args.length),(36,pI i)],[(3,co (ay (ey p f.rel).c))],4⟩) (fun i=> ∀j,j<i->Ca p f j=is) [] (fun j u=>absurd u (Qv j))
  (zW (zO trivial)) fun i y x=>?_
 refine zJ Z Z (fun h1=>?_) fun h1=>?_
 .have h1:i<f.args.length:=zN h1;refine zJ Z Z (fun b=>?_) fun b=>?_
  .have b:Ca p f i=jp:=by
    have g:(!Ca p f i)=is:=b;simpa using g
   rw[be (BA h1 b)];exact zU Z
  .have b:Ca p f i=is:=by
    have g:(!Ca p f i)=jp:=b;simpa using g
   refine gA Z ⟨h1,fun j u=>by rcases QD.1 u with h|h;exact x j h;exact h▸b,[],zW (zO ac)⟩
 .have h1:f.args.length<=i:=zG h1;rw[am (BB fun j u=>x j (by omega))];exact zU Z
end Go.Proofs.YtllkaddcplhklaaGreatDoor
namespace Go.Proofs.YtllkaddcplhklaaGreatDoor
open Go Go.Al Go.Proofs.Tryz Go.Bo
def okF(p:Prog)(f:Fact):Bool:=kw (nr p f=0)
theorem gX{p:Prog}{f:Fact}(h:okF p f=is):f.args.length<=8:=by
 have h:=of_decide_eq_true h;unfold nr at h;split at h
 .cases h
 .rename_i g;have g2: ¬jj f=jp:=fun e=>g (.inr (.inl e));rw[RT]at g2;unfold jj at g2;simp only[Pk,decide_eq_true_eq]at g2;exact g2.2.1
abbrev mapOf(T:List (bP Fact)):CM:=T.map fun x=>(bn x.2,x)
theorem xO{T:List (bP Fact)}(hn:(T.map (·.2)).Nodup)(j: ∀x∈T,x.2.args.length<=8):((mapOf T).map (·.1)).Nodup:=by
 induction T with
 |nil=>exact Pe
 |cons x r ih=>
  rw[OU,O7]at hn;rw[mapOf,OU,OU,O7];refine⟨fun m=>?_,ih hn.2 fun y b=>j y (OF _ b)⟩;obtain⟨e,A,u⟩:=OZ.1 m;obtain⟨y,b,rfl⟩:=OZ.1 A;have:=oQ (j y (OF _ b)) u;exact hn.1 (OZ.2 ⟨y,b,this⟩)
def bS(S:List Fact)(l:List (bP Fact)):List (bP Fact):=(lz l).filter fun x=>!(kw (x.2∈S)==x.1)
theorem uS{l:List (bP Fact)}{x:bP Fact}(h:x∈lz l):x∈l:=by
 have:=((nZ l).2 x.1 x.2).1 h;exact ep this
theorem uT{m:FM}{S:List Fact}(hk:cX bn m S)(b: ∀f∈S,f.args.length<=8)(f:Fact):cO kF m (bn f)=kw (f∈S):=by
 have:=hk.has (f:=f) fun u hu e=>oQ (b u hu) e;by_cases h:f∈S
 .rw[decide_eq_true h,this.2 h]
 .rw[decide_eq_false h];cases e:cO kF m (bn f) with
  |false=>rfl
  |true=>exact absurd (this.1 e) h
theorem Dt{m:FM}{S:List Fact}(hk:cX bn m S)(b: ∀f∈S,f.args.length<=8)(l:List (bP Fact)):((mapOf (lz l)).filter fun e=>!lC m e)=mapOf (bS S l):=by
 unfold bS mapOf;rw[List.filter_map];congr 1;refine Qj fun x _=>?_;show(!(cO kF m (bn x.2)==x.1))=_;rw[uT hk b]
theorem xp: ∀(T:List (bP Fact)) (c:bP Fact),(jt T c).length<=T.length+1
 | [],_=>OJ _
 |x::r,c=>by
  have:=xp r c;unfold jt;split
  .simp
  .simp only[O6];omega
theorem B0(l:List (bP Fact)):(lz l).length<=l.length:=by
 have key: ∀(l T:List (bP Fact)),(l.foldl jt T).length<=T.length+l.length:=by
  intro l
  induction l with
  |nil=>intro T;exact OJ _
  |cons c r ih=>
   intro T;have h1:=ih (jt T c);have b:=xp T c;rw[Pl,O6];omega
 have:=key l [];show(l.foldl jt []).length<=_;simpa using this
def wG(x:bP Fact):Int:=if x.1=is then 1 else-1
theorem xx{a b:List Int}(h:a.Perm b):a.sum=b.sum:=by
 induction h with
 |nil=>rfl
 |cons x _ ih=>rw[PM,PM,ih]
 |swap x y l=>rw[PM,PM,PM,PM];omega
 |trans _ _ a b=>exact a.trans b
theorem zR: ∀(T:List (bP Fact)),(T.map wG).sum=((T.filter fun x=>x.1).length:Int)-((T.filter fun x=>!x.1).length:Int)
 | []=>rfl
 |x::r=>by
  rw[OU,PM,zR r];cases h:x.1 with
  |true=>simp[wG,h];omega
  |false=>simp[wG,h];omega
theorem Ds{S:List Fact}(hS:qd aR S)(l:List (bP Fact)):(S.length:Int)+((bS S l).map wG).sum=(dS aR S l).length:=by
 have b:(bS S l).Perm (cz aR S l):=kU mD S l;rw[xx (b.map wG),zR];have:=xI mD hS l;omega
theorem Bq(T:List (bP Fact)): -(T.length:Int)<=(T.map wG).sum∧(T.map wG).sum<=T.length:=by
 induction T with
 |nil=>simp
 |cons x r ih=>
  rw[OU,PM,O6];unfold wG at*
  split<;>omega
def DO(p:Prog)(S:List Fact)(l:List (bP Fact)):PV:=
 if eS aR (okF p) S l=0 then .bf [.iv (yf (mapOf (bS S l))),pI 0] else .bf [.iv (.v (.map io)),pI (eS aR (okF p) S l)]
theorem oK{p:Prog}{S:List Fact}{l:List (bP Fact)}{e:Int}(h:eS aR (okF p) S l=e)(h0:e≠0):DO p S l= .bf [.iv (.v (.map io)),pI e]:=by
 unfold DO;rw[h,be h0]
theorem vT{p:Prog}{S:List Fact}{l:List (bP Fact)}(h:eS aR (okF p) S l=0):DO p S l= .bf [.iv (yf (mapOf (bS S l))),pI 0]:=by
 unfold DO;rw[am h]
theorem Ms(p:Prog)(n:Nat){m:FM}{S:List Fact}(l:List (bP Fact))(hb:p.aQ.length<=1000000000)(hk:cX bn m S)(hS:gr aR (okF p) S)(hF: ∀x∈l,x.2.args.length<=1000000000):
  bC prog 25 [.ptr 1 0,.iv (bw 3 l bL)] (bO p n m) (DO p S l) (bH p n m) 2:=by
 have s0:=hk.len;have i0:=hS.few;have f0: ∀f∈S,f.args.length<=8:=fun f hf=>gX (hS.ok f hf);refine au ab func25 Z (by decide) ntmps25 Z (by simp) ?_;refine gA Z ?_;refine Oz (fun k1=>?_) (fun k1=>?_)
 .exact absurd k1 (by decide)
 refine gA Z ?_;refine Oz (fun I=>?_) (fun I=>?_)
 .have I:4096<l.length:=by have:=of_decide_eq_true I;omega
  rw[oK (e:=2) (by unfold eS;rw[am I]) (by decide)];refine gA Z (aY [] (by first|exact .inr Z|exact .inl Z) Z (wk Z Z Z (bi ac) (hM Z Z Z ⟨⟨_,rfl,.of_eq Z⟩,Oq Z,rfl,ac⟩) Z))
 have I:l.length<=4096:=by have:=of_decide_eq_false I;omega
 refine gA Z ?_;refine aK 0 l.length (OL _) (fun i=>⟨[(2,.ptr 2 0),(6,.mp 3),(20,.iv (bw 3 l bL)),(21,pI l.length),(22,pI i)],[(0,co (eW m)),(1,co (gx p n 0)),(2,co A4),(3,co (ET (mapOf (lz (l.take i)))))],4⟩) (fun i=> ∀x∈l.take i,okF p x.2=is) [] (by simp)
  (wk Z Z Z (bi (bi (bi (bi (bi trivial))))) (hM Z Z Z ⟨⟨_,rfl,.of_eq Z⟩,Oq Z,rfl,⟨⟨_,rfl,.of_eq Z⟩,Oq Z,rfl,K1 Z HK Z trivial⟩⟩) Z) fun i hi J=>?_
 refine gA Z ?_;refine Oz (fun h1=>?_) (fun h1=>?_)
 .have h1:i<l.length:=by simpa using h1
  have d0:l.getD i ci∈l:=by rw[Ow,Ox h1];exact Pg h1
  have R:=gF (g:=jt) (b:=([]:List (bP Fact))) h1;have p0:=ch (l:=l) h1;refine gA Z (bA ab [] (Pure.tC (c16 p (l.getD i ci).2 hb (hF _ d0))) Z Z Z Z Z Z Z Z Z Z Z Z (by(repeat' (first|exact ac|exact rfl|exact an.refl _|exact an.bk (by assumption)|apply Oz))<;>first|omega|(simp only[OA];omega)|(simp;done)|(simp;omega)) Z (by(repeat' (first|exact ac|exact rfl|exact an.refl _|exact an.bk (by assumption)|apply Oz))<;>first|omega|(simp only[OA];omega)|(simp;done)|(simp;omega)) ?_);refine gA Z ?_;refine Oz (fun g1=>?_) (fun g1=>?_)
  .have g1:okF p (l.getD i ci).2=jp:=by
    have g:(!kw (nr p (l.getD i ci).2=0))=is:=g1;rw[Py]at g;exact g
   rw[oK (e:=5) (by
    unfold eS;rw[be (by omega),am]
    exact List.all_eq_false.2 ⟨_,d0,by rw[g1];decide⟩) (by decide)]
   refine gA Z (aY [] (by first|exact .inr Z|exact .inl Z) Z (wk Z Z Z (bi ac) (hM Z Z Z ⟨⟨_,rfl,.of_eq Z⟩,Oq Z,rfl,ac⟩) Z))
  .have g1:okF p (l.getD i ci).2=is:=by
    have g:(!kw (nr p (l.getD i ci).2=0))=jp:=g1;rw[Qe]at g;exact g
   have r0:=gX g1;refine gA Z (aB (De (l.getD i ci).2 r0) Z Z Z Z Z Z ?_);have n0:=BD (kc:=kF) (key:=bn) (lz (l.take i)) (l.getD i ci) fun y hy e=>oQ (gX (J y (uS hy))) e;refine fk Z ?_ ?_
   .repeat' (first|exact ac|exact rfl|exact HN _|exact an.refl _|apply Oz)
    all_goals omega
   refine⟨h1,fun x u=>?_,[],wk Z Z Z (bi (bi (bi (bi (bi ac))))) (hM Z Z Z ⟨⟨_,rfl,.of_eq Z⟩,Oq Z,rfl,⟨⟨_,rfl,.of_eq Z⟩,Oq Z,rfl,hM Z ?_ Z ac⟩⟩) Z⟩
   .rw[p0,ON,OI]at u;exact u.elim (J x) fun e=>e▸g1
   .show _=(lz (l.take (i+1))).map fun x=>(bn x.2,x)
    unfold lz at*
    rw[R,<-n0,<-Jr (l.getD i ci)];rfl
 .have h1:l.length<=i:=by simpa using h1
  have j0:i=l.length:=by omega
  subst j0;rw[OP (OJ _)]at J ⊢;have B:(l.all fun x=>okF p x.2)=is:=Pc.2 J;have m0:=xO (nZ l).1 fun x u=>gX (J x (uS u));have o0:=Dt hk f0 l;have v0:=Ds hS.Gw l;have k0:=B0 l;have t0:(bS S l).length<=l.length:=Pm (PJ _ _) k0;refine gA Z (bJ [0,1,2,3] (NB p n m (mapOf (lz l)) m0 (by rw[mapOf,O3];omega)) Z Z Z Z Z Z Z Z ?_);rw[o0];refine gA Z ?_
  refine eU (mapOf (bS S l)) (fun vs=>⟨[(6,.iv (yf (mapOf (bS S l)))),(11,pI ((m.length:Int)+(vs.map fun j=>wG (kC (mapOf (bS S l)) j)).sum)),(54,.ptr 4 0)],[(0,co (eW m)),(1,co (gx p n 0)),(4,co (.bF kF yg (mapOf (bS S l)) vs io))],5⟩) (fun vs=>vs.Nodup∧ ∀j∈vs,j<(mapOf (bS S l)).length) [] ⟨Pe,by simp⟩
   (wk Z Z Z (bi ⟨bj (by simp),rfl,bi trivial⟩) (hM Z Z Z ⟨⟨_,rfl,.of_eq Z⟩,Oq Z,rfl,hI Z Z (.inl Z) Z trivial⟩) Z) fun vs e0=>?_
  obtain⟨v1,v2⟩:=e0;have q0:=CB v1 v2;rw[O3]at q0;have G:=Bq (vs.map (kC (mapOf (bS S l))));rw[PT,O3]at G;have Y:=G.1;have a0:=G.2;have g0:(wG ∘ kC (mapOf (bS S l)))=fun j=>wG (kC (mapOf (bS S l)) j):=rfl;rw[g0]at Y a0;refine fk Z ac (dm Z Z Z Z Z (by decide) (fun C=>?_) fun j x u hj=>?_)
  .have hq:(vs.map fun j=>wG (kC (mapOf (bS S l)) j)).sum=((bS S l).map wG).sum:=by
    have h1:=((zt v1 v2 C).map fun j=>(mapOf (bS S l)).getD j (bn Fact.z,bP.z)).map fun e=>wG e.2;rw[gz,PT,PT]at h1;exact xx h1
   rw[hq];refine gA Z ?_;refine Oz (fun g2=>?_) (fun g2=>?_)
   .have g2:65536<(dS aR S l).length:=by have:=of_decide_eq_true g2;omega
    rw[oK (e:=3) (by unfold eS;rw[be (by omega),be (by rw[B];decide),am g2]) (by decide)];refine gA Z (aY [] (by first|exact .inr Z|exact .inl Z) Z (wk Z Z Z (bi ac) (hM Z Z Z ⟨⟨_,rfl,.of_eq Z⟩,Oq Z,rfl,ac⟩) Z))
   .have g2: ¬65536<(dS aR S l).length:=by have:=of_decide_eq_false g2;omega
    rw[vT (by unfold eS;rw[be (by omega),be (by rw[B];decide),be g2])];refine gA Z (aY [] (by first|exact .inr Z|exact .inl Z) Z (wk Z Z Z (bi ac) (hM Z Z Z ⟨⟨_,rfl,.of_eq Z⟩,Oq Z,rfl,ac⟩) Z))
  .have c0:x.2=kC (mapOf (bS S l)) j:=by rw[kC,Ow,u];rfl
   have b0: ∀A,A=j::vs->A.Nodup∧ ∀i∈A,i<(mapOf (bS S l)).length:=fun A e=>e▸⟨O7.2 ⟨hj,v1⟩,fun i hi=>(OG.1 hi).elim (fun h=>h▸(Ov.1 u).1) (v2 i)⟩;refine gA Z ?_;refine Oz (fun g3=>?_) (fun g3=>?_)
   .have g3:x.2.1=is:=g3;have D:wG (kC (mapOf (bS S l)) j)=1:=by rw[<-c0,wG,am g3]
    refine gA Z ⟨j,x,u,hj,b0 _ Z,[],wk Z Z Z (bi ⟨bj (by rw[OU,PM,D];omega),rfl,bi ac⟩) (hM Z Z Z ⟨⟨_,rfl,.of_eq Z⟩,Oq Z,rfl,hI Z Z (.inr Z) Z ac⟩) Z⟩
   .have g3:x.2.1=jp:=g3;have D:wG (kC (mapOf (bS S l)) j)= -1:=by rw[<-c0,wG,be (by rw[g3];decide)]
    refine gA Z ⟨j,x,u,hj,b0 _ Z,[],wk Z Z Z (bi ⟨bj (by rw[OU,PM,D];omega),rfl,bi ac⟩) (hM Z Z Z ⟨⟨_,rfl,.of_eq Z⟩,Oq Z,rfl,hI Z Z (.inr Z) Z ac⟩) Z⟩
theorem Dd{y:IV}(u:kD (lits []) y):Pure prog 44 [.iv (lits [])] (.iv y):=by
 refine ai ab func44 Z (by decide) ntmps44 Z (by simp) Z ?_;refine gA Z (aB (GI [] (by simp)) Z Z Z Z Z Z ?_);refine gA Z (n9 (n:=0) ?_);refine gA Z ?_;refine Oz (fun b=>?_) (fun b=>?_)
 .exact absurd b (by simp)
 refine gA Z (aT (by first|exact .inr Z|exact .inl Z) Z ?_);exact .iv (fun M x j=>u M x j)
set_option maxHeartbeats 2000000 in
theorem Mu: ∀(n:Nat) (l:List Lit) (y:IV),Lit.aE l<=n->Lit.aE l<=1000000000->kD (lits l) y->Pure prog 44 [.iv (lits l)] (.iv y):=by
 intro n
 induction n with
 |zero=>
  intro l y h hb u;have hl:=Lit.aF l;have j:l=[]:=PW.1 (by omega);subst j;exact Dd u
 |succ n ih=>
  intro l y h hb u;have hl:=Lit.aF l;by_cases A:l=[]
  .subst A;exact Dd u
  refine ai ab func44 Z (by decide) ntmps44 Z (by simp) Z ?_;refine gA Z (bJ [] (Dh l (by omega) A) Z Z Z Z Z Z Z Z ?_);refine gA Z ?_;refine aK 0 l.length (OL _) (fun i=>⟨[(0,.iv (lits l)),(3,.sl 0 0 l.length 30),(9,pI l.length),(10,pI i)],[(0,co (aP 30 l Lit.c))],1⟩) (fun _=>True) [] ac
   (wk Z Z Z (bi (bi (bi (bi trivial)))) (hR Z (by rw[PT];exact QF fun x _=>mI _ _) Z trivial) Z) fun i D _=>?_
  refine gA Z ?_;refine Oz (fun h1=>?_) (fun h1=>?_)
  .have h1:i<l.length:=by simpa using h1
   have C:=Lit.bR l i h1;have B:=(l.getD i ci).size_eq;have b:=Dl (g:=fun x=>(Lit.c x).map PV.iv) h1;refine gM 22 Z (ob ab Z Z Z Z Z (b) Z Z ?_);refine gA Z (aB (z7 (l.getD i ci).atom.aj (by omega)) Z Z Z Z Z Z ?_);refine gA Z (oV ab Z Z Z Z (i:=0) (q:=0+i) (off:=2) Z Z b Z Z (by decide) Z Z ?_);refine gM 9 Z (sQ (p:=ag (l.getD i ci).left.c) 6 Z Z Z Z Z Z (hQ ab Z Z Z Z b Z) ?_);refine gM 3 Z (sQ (p:=ag (l.getD i ci).right.c) 11 Z Z Z Z Z Z (hQ ab Z Z Z Z b Z) ?_);refine gM 4 Z (sQ (p:=ag (l.getD i ci).jw.c) 17 Z Z Z Z Z Z (hQ ab Z Z Z Z b Z) ?_);refine gA Z (x8 ab [11,17] [] (Pure.tC (yB (l.getD i ci).left (by omega))) Z Z Z Z Z Z Z Z Z Z Z Z (by(repeat' (first|exact ac|exact rfl|exact an.refl _|exact an.bk (by assumption)|apply Oz))<;>first|omega|(simp only[OA];omega)|(simp;done)|(simp;omega)) Z (by(repeat' (first|exact ac|exact rfl|exact an.refl _|exact an.bk (by assumption)|apply Oz))<;>first|omega|(simp only[OA];omega)|(simp;done)|(simp;omega)) ⟨tq ab Z Z Z Z Z Z Z b Z (.refl _),⟨tq ab Z Z Z Z Z Z Z b Z (.refl _),ac⟩⟩ ?_);refine gA Z (x8 ab [17] [] (Pure.tC (yB (l.getD i ci).right (by omega))) Z Z Z Z Z Z Z Z Z Z Z Z (by(repeat' (first|exact ac|exact rfl|exact an.refl _|exact an.bk (by assumption)|apply Oz))<;>first|omega|(simp only[OA];omega)|(simp;done)|(simp;omega)) Z (by(repeat' (first|exact ac|exact rfl|exact an.refl _|exact an.bk (by assumption)|apply Oz))<;>first|omega|(simp only[OA];omega)|(simp;done)|(simp;omega)) ⟨tq ab Z Z Z Z Z Z Z b Z (.refl _),ac⟩ ?_);refine gA Z (bA ab [] (Pure.tC (yB (l.getD i ci).jw (by omega))) Z Z Z Z Z Z Z Z Z Z Z Z (by(repeat' (first|exact ac|exact rfl|exact an.refl _|exact an.bk (by assumption)|apply Oz))<;>first|omega|(simp only[OA];omega)|(simp;done)|(simp;omega)) Z (by(repeat' (first|exact ac|exact rfl|exact an.refl _|exact an.bk (by assumption)|apply Oz))<;>first|omega|(simp only[OA];omega)|(simp;done)|(simp;omega)) ?_);refine gA Z (kZ ab Z Z Z Z Z (by(repeat' (first|exact ac|exact rfl|exact an.refl _|exact an.bk (by assumption)|apply Oz))<;>first|omega|(simp only[OA];omega)|(simp;done)|(simp;omega)) (kG ab Z Z Z (i:=0) (q:=0+i) (off:=4) Z Z b Z Z (by decide) Z Z) Z (by(repeat' (first|exact ac|exact rfl|exact an.refl _|exact an.bk (by assumption)|apply Oz))<;>first|omega|(simp only[OA];omega)|(simp;done)|(simp;omega)) ?_);refine gA Z (kZ ab Z Z Z Z Z (by(repeat' (first|exact ac|exact rfl|exact an.refl _|exact an.bk (by assumption)|apply Oz))<;>first|omega|(simp only[OA];omega)|(simp;done)|(simp;omega)) (kG ab Z Z Z (i:=0) (q:=0+i) (off:=11) Z Z b Z Z (by decide) Z Z) Z (by(repeat' (first|exact ac|exact rfl|exact an.refl _|exact an.bk (by assumption)|apply Oz))<;>first|omega|(simp only[OA];omega)|(simp;done)|(simp;omega)) ?_);refine gA Z (kZ ab Z Z Z Z Z (by(repeat' (first|exact ac|exact rfl|exact an.refl _|exact an.bk (by assumption)|apply Oz))<;>first|omega|(simp only[OA];omega)|(simp;done)|(simp;omega)) (kG ab Z Z Z (i:=0) (q:=0+i) (off:=20) Z Z b Z Z (by decide) Z Z) Z (by(repeat' (first|exact ac|exact rfl|exact an.refl _|exact an.bk (by assumption)|apply Oz))<;>first|omega|(simp only[OA];omega)|(simp;done)|(simp;omega)) ?_);refine gM 7 Z (ob ab Z Z Z Z Z (b) Z Z ?_);refine gA Z (aB (Al.Pure.le (aa:=[.iv (tc (l.getD i ci).ar)]) (ih (l.getD i ci).ar (tc (l.getD i ci).ar) (by omega) (by omega) (DX _)) ⟨.iv (lW _),ac⟩) Z Z Z Z Z Z ?_);refine gA Z (oV ab Z Z Z Z (i:=0) (q:=0+i) (off:=27) Z Z b Z Z (by decide) Z Z ?_);refine gA Z ⟨h1,ac,[],wk Z Z Z (bi (bi (bi (bi ac)))) (hR Z Z Z ac) Z⟩
  .have h1:l.length<=i:=by simpa using h1
   refine gA Z (lg (r0:= .sl 0 0 l.length 30) (.inr Z) Z (iB.Dm 0 l Lit.c Z Z (by simp[PV.cF,c7]) (.done ?_)));have:an (.iv (lits l)) (.iv y):= .iv u;simp only[PV.dZ,p4,OY];exact this
theorem Kz(l:List Lit)(hb:Lit.aE l<=1000000000):Pure prog 44 [.iv (lits l)] (.iv (lits l)):=Mu _ l _ (OJ _) hb (fun _ _ h=>h)
theorem Ky(p:Prog)(hb:p.size<=1000000000):Pure prog 24 [ag p.c] (ag p.c):=by
 unfold Prog.size at hb;refine ai ab func24 Z (by decide) ntmps24 Z (by simp) Z ?_;refine gM 9 Z ?_;refine oU 2 0 4 Z Z ?_;refine oU 2 1 5 Z Z ?_;refine gA Z ?_;refine aK 0 p.aQ.length (OL _) (fun i=>⟨[(1,.ptr 0 0),(2,.ptr 1 0),(3,.ptr 2 0),(9,.iv (bw 4 p.aQ Decl.c)),(10,pI p.aQ.length),(11,pI i)],[(0,co (ay p.c)),(1,co (.cells [.iv (.v (.slice io 0 0)),.iv (.v (.slice io 0 0))])),(2,co (.cells [.sl 5 0 i 4,.sl 4 0 0 5])),(4,co (aP 5 ([]:List ax) ax.c)),(5,co (aP 4 (p.aQ.take i) Decl.c))],6⟩) (fun _=>True) [3] ac
  (wk Z Z Z (bi (bi (bi (bi (bi (bi trivial)))))) (hC Z Z Z ⟨⟨_,rfl,.of_eq Z⟩,Oq Z,rfl,⟨_,rfl,.of_eq Z⟩,Oq Z,rfl,hR Z Z Z (hR Z Z Z trivial)⟩) Z) fun i A _=>?_
 refine gA Z ?_;refine Oz (fun h1=>?_) (fun h1=>?_)
 .have h1:i<p.aQ.length:=by simpa using h1
  have x:(p.aQ.take i).length=i:=by rw[PF];omega
  have u:=ch (l:=p.aQ) h1;have y:=vu (fun d:Decl=>d.types.length) p.aQ i h1;refine gA Z (aB (GJ (p.aQ.getD i ci).types (by omega)) Z Z Z Z Z Z ?_);refine gA Z ⟨h1,ac,[8],wk Z Z Z (bi (bi (bi (bi (bi (bi ac)))))) (hC Z Z Z ⟨⟨_,rfl,.of_eq Z⟩,Oq Z,rfl,⟨⟨_,rfl,.of_eq Z⟩,Oq Z,rfl,hR Z Z Z (hR Z (by rw[u,OM];rfl) Z ac)⟩⟩) Z⟩
 .have h1:p.aQ.length<=i:=by simpa using h1
  have j:i=p.aQ.length:=by omega
  subst j;rw[OP (OJ _)];refine gA Z ?_;refine aK 0 p.rules.length (OL _) (fun i=>⟨[(1,.ptr 0 0),(2,.ptr 1 0),(3,.ptr 2 0),(27,.iv (bw 5 p.rules ax.c)),(28,pI p.rules.length),(29,pI i)],[(0,co (ay p.c)),(1,co (.cells [.iv (.v (.slice io 0 0)),.iv (.v (.slice io 0 0))])),(2,co (.cells [.sl 5 0 p.aQ.length 4,.sl 6 0 i 5])),(5,co (aP 4 p.aQ Decl.c)),(6,co (aP 5 (p.rules.take i) ax.c))],7⟩) (fun _=>True) [4] ac
   (wk Z Z Z (bi (bi (bi (bi (bi (bi trivial)))))) (hC Z Z Z ⟨⟨_,rfl,.of_eq Z⟩,Oq Z,rfl,⟨⟨_,rfl,.of_eq Z⟩,Oq Z,rfl,hR Z Z Z (hR Z Z Z trivial)⟩⟩) Z) fun i A _=>?_
  refine gA Z ?_;refine Oz (fun b=>?_) (fun b=>?_)
  .have b:i<p.rules.length:=by simpa using b
   have x:(p.rules.take i).length=i:=by rw[PF];omega
   have u:=ch (l:=p.rules) b;have y:=vu ax.size p.rules i b;have B:(p.rules.getD i ci).size=(p.rules.getD i ci).head.aj.length+Lit.aE (p.rules.getD i ci).body:=rfl;refine gA Z (aB (z7 (p.rules.getD i ci).head.aj (by omega)) Z Z Z Z Z Z ?_);refine gA Z (aB (Kz (p.rules.getD i ci).body (by omega)) Z Z Z Z Z Z ?_);refine gA Z ⟨b,ac,[9],wk Z Z Z (bi (bi (bi (bi (bi (bi ac)))))) (hC Z Z Z ⟨⟨_,rfl,.of_eq Z⟩,Oq Z,rfl,⟨⟨_,rfl,.of_eq Z⟩,Oq Z,rfl,hR Z Z Z (hR Z (by rw[u,OM];rfl) Z ac)⟩⟩) Z⟩
  .have b:p.rules.length<=i:=by simpa using b
   have j:i=p.rules.length:=by omega
   subst j;rw[OP (OJ _)];refine gA Z (lg (r0:= .agg [.sl 5 0 p.aQ.length 4,.sl 6 0 p.rules.length 5]) (.inr Z) Z (iB.Dm 5 p.aQ Decl.c Z Z (by simp[PV.cF,c7]) (iB.Dm 6 p.rules ax.c Z Z (by simp[PV.cF,c7,PV.dZ,p4,show OW 6 5=jp from rfl]) (.done (.of_eq (by simp only[PV.dZ,p4,OY,show OW 6 5=jp from rfl,show OW 5 5=is from rfl,show OW 6 6=is from rfl,cond_true,cond_false];rfl))))))
end Go.Proofs.YtllkaddcplhklaaGreatDoor
namespace Go.Tj
section
section
variable {α:Type}
inductive lE (succ:α->List α):α->α->Prop
 |refl (a:α):lE succ a a
 |step {a b c:α}:lE succ a b->c∈succ b->lE succ a c
theorem lE.trans{succ:α->List α}{a b c:α}(h:lE succ a b)(g:lE succ b c):lE succ a c:=by
 induction g with
 |refl=>exact h
 |step _ he ih=>exact .step ih he
theorem lE.one{succ:α->List α}{a b:α}(h:b∈succ a):lE succ a b:= .step (.refl a) h
structure St (α:Type) where
 low:α->Int
 on:α->Int
 ring:α->Int
 n:Nat
 stack:List α
section
variable [DecidableEq α]
def vo(f:α->Int)(a:α)(v:Int):α->Int:=fun x=>if x=a then v else f x
theorem iR(f:α->Int)(a:α)(v:Int):vo f a v a=v:=am Z
theorem jL{f:α->Int}{a x:α}{v:Int}(h: ¬x=a):vo f a v x=f x:=be h
def push(s:St α)(a:α):St α:=⟨vo s.low a ((s.n:Int)+1),vo s.on a 1,s.ring,s.n+1,s.stack++ [a]⟩
def vL(j:Int)(s:St α):St α:=match s.stack.getLast? with
 |some b=>⟨s.low,vo s.on b 2,vo s.ring b j,s.n,s.stack.dropLast⟩
 |none=>s
def eR(a:α)(b:Int):Nat->St α->St α
 |0,s=>s
 |k+1,s=>if s.on a=1 then eR a b k (vL b s) else s
def qj(j:α->St α->Int×St α)(q:Int×St α)(b:α):Int×St α:=
 if q.2.low b=0 then(min q.1 (j b q.2).1,(j b q.2).2) else if q.2.on b=1 then(min q.1 (q.2.low b),q.2) else q
def q8(a:α)(b:Int)(q:Int×St α):Int×St α:=if q.1=b then(q.1,eR a b q.2.stack.length q.2) else q
def dI(succ:α->List α):Nat->α->St α->Int×St α
 |0,_,s=>(0,s)
 |f+1,a,s=>q8 a ((s.n:Int)+1) ((succ a).foldl (qj (dI succ f)) ((s.n:Int)+1,push s a))
def fG(succ:α->List α)(f:Nat)(V:List α)(s:St α):St α:=V.foldl (fun s a=>if s.low a=0 then(dI succ f a s).2 else s) s
end
def St.o:St α:=⟨fun _=>0,fun _=>0,fun _=>0,0,[]⟩
structure Inv (succ:α->List α) (path:List α) (s:St α):Prop where
 ly: ∀a,0<=s.low a∧s.low a<=s.n
 inj: ∀a b,s.low a=s.low b->s.low a≠0->a=b
 Ff: ∀a,s.on a=0↔s.low a=0
 BL: ∀a,s.on a=0∨s.on a=1∨s.on a=2
 uk: ∀a,s.on a=1↔a∈s.stack
 Gw:s.stack.Pairwise fun x y=>s.low x<s.low y
 HI: ∀a,s.on a=2-> ∀b∈succ a,s.on b=2
 KP: ∀g∈path,s.on g=1
 up: ∀y,s.on y=1-> ∃g∈path,s.low g<=s.low y∧lE succ y g
 dn: ∀g∈path,∀y,s.on y=1->s.low g<=s.low y->lE succ g y
 az: ∀y,s.low y≠0->y∉path-> ∀z∈succ y,s.low z≠0
 MF: ∀a,s.on a=2-> ∃r,s.on r=2∧s.low r=s.ring a∧lE succ a r∧lE succ r a
 cmp: ∀a b,s.on a=2->s.on b=2->lE succ a b->lE succ b a->s.ring a=s.ring b
structure Le (s s':St α):Prop where
 low: ∀x,s.low x≠0->s'.low x=s.low x
 HI: ∀x,s.on x=2->s'.on x=2
 n:s.n<=s'.n
theorem Le.refl(s:St α):Le s s:=⟨fun _ _=>rfl,fun _ h=>h,OJ _⟩
theorem Le.trans{s t u:St α}(h:Le s t)(g:Le t u):Le s u:=
 ⟨fun x b=>by rw[g.low x (by rw[h.low x b];exact b),h.low x b],fun x b=>g.HI x (h.HI x b),Pm h.n g.n⟩
structure Lm (succ:α->List α) (path:List α) (a:α) (s:St α) (least:Int) (s':St α) (t:List α):Prop where
 inv:Inv succ path s'
 le:Le s s'
 stack:s'.stack=s.stack++t
 new: ∀y∈t,s.low y=0
 at_:(s.n:Int)<s'.low a
 KX:least<=s'.low a
 l1: ∀y∈t,∀z∈succ y,s'.on z=1->least<=s'.low z
 l2:(s'.on a=2∧least=s'.low a)∨ ∃z∈s.stack,s'.low z=least∧lE succ a z
theorem sb{succ:α->List α}{path:List α}{s:St α}(h:Inv succ path s){x:α}(b:s.on x=1):s.low x≠0:=fun g=>by
 have:=(h.Ff x).2 g;omega
theorem DD{succ:α->List α}{p:List α}{s s':St α}(h:Inv succ p s)(hl:Le s s'){x:α}(b:s.low x≠0)(ho:s'.on x=1):s.on x=1:=by
 rcases h.BL x with g|g|g
 .exact absurd ((h.Ff x).1 g) b
 .exact g
 .have:=hl.HI x g;omega
section
variable [DecidableEq α]
theorem xq{succ:α->List α}{path:List α}{s:St α}{a:α}(h:Inv succ path s)(ha:s.low a=0)(hp: ∀g∈path,lE succ g a):Inv succ (path++ [a]) (push s a):=by
 have a0:s.on a=0:=(h.Ff a).2 ha;have J:a∉s.stack:=fun g=>by have:=(h.uk a).2 g;omega
 have A: ∀x,¬x=a->(push s a).low x=s.low x:=fun x j=>jL j;have la:(push s a).low a=(s.n:Int)+1:=iR _ _ _;have D: ∀x,¬x=a->(push s a).on x=s.on x:=fun x j=>jL j;have G:(push s a).on a=1:=iR _ _ _;have hn:((push s a).n:Int)=(s.n:Int)+1:=by show((s.n+1:Nat):Int)=_;omega
 refine⟨fun x=>?_,fun x y C j=>?_,fun x=>?_,fun x=>?_,fun x=>?_,?_,fun x j b hb=>?_,fun g hg=>?_,fun y B=>?_,fun g hg y B I=>?_,fun y B R z hz=>?_,fun x j=>?_,fun x y j B h1 h2=>?_⟩
 .have:=h.ly x;by_cases e:x=a
  .subst e;rw[la,hn];omega
  .rw[A x e,hn];omega
 .have h1:=h.ly x;have h2:=h.ly y;by_cases e:x=a
  .by_cases u:y=a
   .rw[e,u]
   .rw[e,la,A y u]at C;omega
  .by_cases u:y=a
   .rw[u,la,A x e]at C;omega
   .rw[A x e,A y u]at C;rw[A x e]at j;exact h.inj x y C j
 .by_cases e:x=a
  .subst e;rw[G,la];constructor<;>intro g<;>omega
  .rw[D x e,A x e];exact h.Ff x
 .by_cases e:x=a
  .subst e;exact .inr (.inl G)
  .rw[D x e];exact h.BL x
 .show _↔x∈s.stack++ [a];rw[ON,OI];by_cases e:x=a
  .subst e;simp[G]
  .rw[D x e,h.uk x];simp[e]
 .show(s.stack++ [a]).Pairwise _;rw[Qi];refine⟨h.Gw.imp_of_mem ?_,List.pairwise_singleton _ _,fun x j y B=>?_⟩
  .intro x y j B C;rw[A x (fun e=>J (e▸j)),A y (fun e=>J (e▸B))];exact C
  .rw[OI]at B;subst B;rw[la,A x (fun e=>J (e▸j))];have:=h.ly x;omega
 .have e: ¬x=a:=fun e=>by subst e;rw[G]at j;omega
  rw[D x e]at j;have Y:=h.HI x j b hb;have u: ¬b=a:=fun e=>by subst e;omega
  rw[D b u];exact Y
 .rcases ON.1 hg with g1|g1
  .have:=h.KP g g1;rw[D g (fun e=>by subst e;omega)];exact this
  .rw[OI]at g1;subst g1;exact G
 .by_cases e:y=a
  .subst e;exact⟨y,P4 _ OH,QI _,.refl _⟩
  .rw[D y e]at B;obtain⟨g,g1,g2,g3⟩:=h.up y B;have u: ¬g=a:=fun e=>by have:=h.KP g g1;subst e;omega
   exact⟨g,Pb _ g1,by rw[A g u,A y e];exact g2,g3⟩
 .rcases ON.1 hg with g1|g1
  .have u: ¬g=a:=fun e=>by have:=h.KP g g1;subst e;omega
   by_cases e:y=a
   .subst e;exact hp g g1
   .rw[A g u,A y e]at I;rw[D y e]at B;exact h.dn g g1 y B I
  .rw[OI]at g1;subst g1;by_cases e:y=g
   .subst e;exact .refl _
   .rw[la,A y e]at I;have:=h.ly y;omega
 .have e: ¬y=a:=fun e=>R (P4 _ (by rw[e];exact OH))
  rw[A y e]at B;have:=h.az y B (fun g=>R (Pb _ g)) z hz;by_cases u:z=a
  .rw[u,la];omega
  .rw[A z u];exact this
 .have e: ¬x=a:=fun e=>by subst e;rw[G]at j;omega
  rw[D x e]at j;obtain⟨r,r1,r2,r3⟩:=h.MF x j;have u: ¬r=a:=fun e=>by subst e;omega
  exact⟨r,by rw[D r u];exact r1,by rw[A r u];exact r2,r3⟩
 .have e: ¬x=a:=fun e=>by subst e;rw[G]at j;omega
  have u: ¬y=a:=fun e=>by subst e;rw[G]at B;omega
  rw[D x e]at j;rw[D y u]at B;exact h.cmp x y j B h1 h2
theorem GZ{succ:α->List α}{path:List α}{s:St α}{a:α}(h:Inv succ path s)(ha:s.low a=0):Le s (push s a):=by
 have j:s.on a=0:=(h.Ff a).2 ha;refine⟨fun x b=>jL fun e=>b (e▸ha),fun x b=>?_,by show s.n<=s.n+1;omega⟩;have: ¬x=a:=fun e=>by subst e;omega
 show vo s.on a 1 x=2;rw[jL this];exact b
def vK(s:St α)(u c:List α)(b:Int):St α:=⟨s.low,fun x=>if x∈c then 2 else s.on x,fun x=>if x∈c then b else s.ring x,s.n,u⟩
theorem xr{a:α}{b:Int}{s:St α}(h: ¬s.on a=1): ∀k,eR a b k s=s
 |0=>rfl
 |k+1=>be h
theorem uA(a:α)(j:Int)(u:List α): ∀(k:Nat) (t:List α) (s:St α),t.length<k->s.stack=u++a::t->a∉t->s.on a=1->(eR a j k s).low=s.low∧(eR a j k s).n=s.n∧(eR a j k s).stack=u∧(∀x,(eR a j k s).on x=if x∈a::t then 2 else s.on x)∧ ∀x,(eR a j k s).ring x=if x∈a::t then j else s.ring x
 |0,t,s,h,_,_,_=>absurd h (Qv _)
 |k+1,t,s,hk,hs,hn,ho=>by
  rw[eR,am ho];rcases t.eq_nil_or_concat with e|⟨t0,b,e⟩
  .subst e;have hl:s.stack.getLast? =co a:=by rw[hs];simp
   have hd:s.stack.dropLast=u:=by rw[hs];simp
   have G:vL j s=⟨s.low,vo s.on a 2,vo s.ring a j,s.n,u⟩:=by unfold vL;rw[hl,hd]
   rw[G,xr (by show¬vo s.on a 2 a=1;rw[iR];decide)];exact⟨rfl,rfl,rfl,fun x=>by simp[vo],fun x=>by simp[vo]⟩
  .rw[RE]at e;subst e;have B:s.stack=(u++a::t0)++ [b]:=by rw[hs];simp
   have hl:s.stack.getLast? =co b:=by rw[B];exact List.getLast?_concat
   have hd:s.stack.dropLast=u++a::t0:=by rw[B];exact List.dropLast_concat
   have G:vL j s=⟨s.low,vo s.on b 2,vo s.ring b j,s.n,u++a::t0⟩:=by unfold vL;rw[hl,hd]
   have D: ¬a=b:=fun e=>hn (by rw[e];simp);have C:=uA a j u k t0 ⟨s.low,vo s.on b 2,vo s.ring b j,s.n,u++a::t0⟩ (by simp at hk;omega) Z (fun g=>hn (Pb _ g)) (by show vo s.on b 2 a=1;rw[jL D];exact ho);rw[G];refine⟨C.1,C.2.1,C.2.2.1,fun x=>?_,fun x=>?_⟩
   .rw[C.2.2.2.1 x];by_cases y:x∈a::t0
    .rw[am y,am (by rw[<-PO];exact Pb _ y)]
    .rw[be y];by_cases A:x=b
     .subst A;rw[am (by simp)];exact iR _ _ _
     .rw[be (by rw[<-PO,ON,OI];exact fun g=>g.elim y A)];exact jL A
   .rw[C.2.2.2.2 x];by_cases y:x∈a::t0
    .rw[am y,am (by rw[<-PO];exact Pb _ y)]
    .rw[be y];by_cases A:x=b
     .subst A;rw[am (by simp)];exact iR _ _ _
     .rw[be (by rw[<-PO,ON,OI];exact fun g=>g.elim y A)];exact jL A
theorem St.eq{β:Type}{s t:St β}(h1:s.low=t.low)(b:s.on=t.on)(j:s.ring=t.ring)(u:s.n=t.n)(x:s.stack=t.stack):s=t:=by
 cases s;cases t;simp_all
theorem pG{a:α}{b:Int}{u t:List α}{k:Nat}{s:St α}(hk:t.length<k)(hs:s.stack=u++a::t)(hn:a∉t)(ho:s.on a=1):eR a b k s=vK s u (a::t) b:=by
 obtain⟨h1,j,x,y,A⟩:=uA a b u k t s hk hs hn ho;exact St.eq h1 (funext y) (funext A) j x
theorem u5{β:Type}{succ:β->List β}{path:List β}{s:St β}(h:Inv succ path s){a b:β}(ha:s.on a=2)(hr:lE succ a b):s.on b=2:=by
 induction hr with
 |refl=>exact ha
 |step _ he ih=>exact h.HI _ ih _ he
theorem G0{succ:α->List α}{path:List α}{s:St α}{a:α}{u t:List α}(h:Inv succ (path++ [a]) s)(hs:s.stack=u++a::t)(R: ∀g∈path,s.low g<s.low a)(i0: ∀z∈succ a,s.low z≠0)
  (d0: ∀y∈a::t,∀z∈succ y,s.on z=1->s.low a<=s.low z):Inv succ path (vK s u (a::t) (s.low a)):=by
 have I:=h.Gw;rw[hs,Qi]at I;obtain⟨hu,hc,b0⟩:=I;have e0:=(Pd.1 hc).1;have g0:s.on a=1:=(h.uk a).2 (by rw[hs];simp);have hC: ∀x,x∈a::t↔(s.on x=1∧s.low a<=s.low x):=by
  intro x;constructor
  .intro j;refine⟨(h.uk x).2 (by rw[hs];exact P4 _ j),?_⟩;rcases OG.1 j with e|e
   .rw[e];exact QI _
   .have:=e0 x e;omega
  .rintro⟨h1,D⟩;have:=(h.uk x).1 h1;rw[hs]at this;rcases ON.1 this with g|g
   .have:=b0 x g a OH;omega
   .exact g
 have Y:a∈a::t:=OH;have A: ∀x,x∈a::t->(vK s u (a::t) (s.low a)).on x=2:=fun x j=>am j;have no: ∀x,x∉a::t->(vK s u (a::t) (s.low a)).on x=s.on x:=fun x j=>be j
 have J: ∀x,x∈a::t->lE succ x a:=by
  intro x j;obtain⟨h1,D⟩:=(hC x).1 j;obtain⟨g,g1,g2,g3⟩:=h.up x h1;refine g3.trans (h.dn g g1 a g0 ?_);rcases ON.1 g1 with e|e
  .have:=R g e;omega
  .rw[OI]at e;rw[e];exact QI _
 have G: ∀x,x∈a::t->lE succ a x:=by
  intro x j;obtain⟨h1,D⟩:=(hC x).1 j;exact h.dn a (by simp) x h1 D
 have a0: ∀y,s.low y≠0->y∉path-> ∀z∈succ y,s.low z≠0:=by
  intro y B j0 z hz;by_cases e:y=a
  .rw[e]at hz;exact i0 z hz
  .exact h.az y B (by rw[ON,OI];exact fun g=>g.elim j0 e) z hz
 refine⟨h.ly,h.inj,fun x=>?_,fun x=>?_,fun x=>?_,hu,fun x j b hb=>?_,fun g hg=>?_,fun y B=>?_,fun g hg y B f0=>?_,a0,fun x j=>?_,fun x y j B h1 D=>?_⟩
 .by_cases e:x∈a::t
  .rw[A x e];have:=sb h ((hC x).1 e).1;exact⟨fun g=>by omega,fun g=>absurd g this⟩
  .rw[no x e];exact h.Ff x
 .by_cases e:x∈a::t
  .exact .inr (.inr (A x e))
  .rw[no x e];exact h.BL x
 .show _↔x∈u;by_cases e:x∈a::t
  .rw[A x e];refine⟨fun g=>by omega,fun g=>?_⟩;have h1:=b0 x g a Y;have D:=((hC x).1 e).2;omega
  .rw[no x e,h.uk x,hs,ON];exact⟨fun g=>g.elim id fun q=>absurd q e,.inl⟩
 .by_cases e:x∈a::t
  .obtain⟨h1,D⟩:=(hC x).1 e;have c0:s.low b≠0:=a0 x (sb h h1) (fun g=>by have:=R x g;omega) b hb;rcases h.BL b with g|g|g
   .exact absurd ((h.Ff b).1 g) c0
   .exact A b ((hC b).2 ⟨g,d0 x e b hb g⟩)
   .by_cases C:b∈a::t
    .exact A b C
    .rw[no b C];exact g
  .rw[no x e]at j;have g:=h.HI x j b hb;by_cases C:b∈a::t
   .exact A b C
   .rw[no b C];exact g
 .have h1:=h.KP g (Pb _ hg);have D:=R g hg;rw[no g (fun e=>by have:=((hC g).1 e).2;omega)];exact h1
 .by_cases e:y∈a::t
  .rw[A y e]at B;omega
  .rw[no y e]at B;obtain⟨g,g1,g2,g3⟩:=h.up y B;rcases ON.1 g1 with q|q
   .exact⟨g,q,g2,g3⟩
   .rw[OI]at q;rw[q]at g2;exact absurd ((hC y).2 ⟨B,g2⟩) e
 .by_cases e:y∈a::t
  .rw[A y e]at B;omega
  .rw[no y e]at B;exact h.dn g (Pb _ hg) y B f0
 .by_cases e:x∈a::t
  .exact⟨a,A a Y,(am e).symm,J x e,G x e⟩
  .rw[no x e]at j;obtain⟨r,r1,r2,r3⟩:=h.MF x j;have C:r∉a::t:=fun g=>by have:=((hC r).1 g).1;omega
   refine⟨r,by rw[no r C];exact r1,?_,r3⟩;show s.low r=if x∈a::t then s.low a else s.ring x;rw[be e];exact r2
 .show(if x∈a::t then s.low a else s.ring x)=if y∈a::t then s.low a else s.ring y;by_cases e:x∈a::t
  .by_cases C:y∈a::t
   .rw[am e,am C]
   .rw[no y C]at B;have:=u5 h B D;have:=((hC x).1 e).1;omega
  .rw[no x e]at j;by_cases C:y∈a::t
   .have:=u5 h j h1;have:=((hC y).1 C).1;omega
   .rw[no y C]at B;rw[be e,be C];exact h.cmp x y j B h1 D
theorem BZ{succ:α->List α}{path:List α}{s:St α}{a z:α}(h:Inv succ (path++ [a]) s)(j: ∀z∈succ a,s.low z≠0)(C:s.on z=1)(B:s.low z<s.low a)(hr:lE succ a z):Inv succ path s:=by
 refine⟨h.ly,h.inj,h.Ff,h.BL,h.uk,h.Gw,h.HI,fun g b=>h.KP g (Pb _ b),fun y x=>?_,fun g b=>h.dn g (Pb _ b),fun y x A w u=>?_,h.MF,h.cmp⟩
 .obtain⟨g,g1,g2,g3⟩:=h.up y x;rcases ON.1 g1 with q|q
  .exact⟨g,q,g2,g3⟩
  .rw[OI]at q;subst q;obtain⟨k,D,I,G⟩:=h.up z C;rcases ON.1 D with q|q
   .exact⟨k,q,by omega,(g3.trans hr).trans G⟩
   .rw[OI]at q;subst q;omega
 .by_cases e:y=a
  .rw[e]at u;exact j w u
  .exact h.az y x (by rw[ON,OI];exact fun g=>g.elim A e) w u
def iQ(V:List α)(s:St α):Nat:=(V.filter fun x=>kw (s.low x=0)).length
theorem filter_le{β:Type}{p q:β->Bool}: ∀(l:List β),(∀x∈l,p x=is->q x=is)->(l.filter p).length<=(l.filter q).length
 | [],_=>OJ _
 |x::r,h=>by
  have u:=filter_le r fun y j=>h y (OF _ j);have b:=h x OH;rw[P3,P3];split
  .rename_i g;rw[am (b g)];simp only[O6];omega
  .split
   .simp only[O6];omega
   .exact u
theorem filter_lt{β:Type}{p q:β->Bool}{a:β}: ∀(l:List β),(∀x∈l,p x=is->q x=is)->a∈l->p a=jp->q a=is->(l.filter p).length<(l.filter q).length
 | [],_,h,_,_=>nomatch h
 |x::r,h,ha,h1,h2=>by
  have j:=filter_le r fun y b=>h y (OF _ b);have u:=h x OH;rw[P3,P3];rcases OG.1 ha with e|e
  .subst e;rw[h1,h2];simp only[PX,if_false,if_true,O6];omega
  .have A:=filter_lt r (fun y b=>h y (OF _ b)) e h1 h2;split
   .rename_i g;rw[am (u g)];simp only[O6];omega
   .split
    .simp only[O6];omega
    .exact A
theorem ud{β:Type}{V:List β}{s s':St β}(h:Le s s'):iQ V s'<=iQ V s:=
 filter_le V fun x _ b=>by
  refine decide_eq_true (PN fun g=>?_);have:=of_decide_eq_true b;rw[h.low x g]at this;exact g this
theorem jx{V:List α}{s:St α}{a:α}(hn: ∀x,0<=s.low x∧s.low x<=s.n)(ha:a∈V)(h0:s.low a=0):iQ V (push s a)<iQ V s:=by
 have la:(push s a).low a=(s.n:Int)+1:=iR _ _ _;refine filter_lt V (fun x _ b=>?_) ha (decide_eq_false (by rw[la];omega)) (decide_eq_true h0);have:=of_decide_eq_true b;by_cases e:x=a
 .rw[e];exact decide_eq_true h0
 .refine decide_eq_true ?_;rwa[show(push s a).low x=s.low x from jL e]at this
structure eD (succ:α->List α) (path:List α) (a:α) (s0:St α) (done:List α) (q:Int×St α) (t:List α):Prop where
 inv:Inv succ (path++ [a]) q.2
 le:Le (push s0 a) q.2
 stack:q.2.stack=s0.stack++a::t
 new: ∀y∈t,s0.low y=0
 KX:q.1<=(s0.n:Int)+1
 l1: ∀y∈t,∀z∈succ y,q.2.on z=1->q.1<=q.2.low z
 MM: ∀z∈done,q.2.on z=1->q.1<=q.2.low z
 proc: ∀z∈done,q.2.low z≠0
 l2: ∃z,q.2.on z=1∧q.2.low z=q.1∧lE succ a z
section
variable {succ:α->List α} {path:List α} {a:α} {s0:St α} {done:List α} {q:Int×St α} {t:List α}
theorem eD.la(h:eD succ path a s0 done q t):q.2.low a=(s0.n:Int)+1:=by
 have e:(push s0 a).low a=(s0.n:Int)+1:=iR _ _ _;rw[h.le.low a (by rw[e];omega),e]
theorem eD.pa(h:eD succ path a s0 done q t)(h0:Inv succ path s0)(ha:s0.low a=0): ∀g∈path,q.2.low g<q.2.low a:=by
 intro g j;have h1:=h0.KP g j;have b:=sb h0 h1;have e:(push s0 a).low g=s0.low g:=jL fun e=>b (by rw[e];exact ha);rw[h.la,h.le.low g (by rw[e];exact b),e];have:=h0.ly g;omega
theorem eD.at_(h:eD succ path a s0 done q t):a∉t:=fun g=>by
 have:=h.inv.Gw;rw[h.stack,Qi]at this;have:=(Pd.1 this.2.1).1 a g;omega
theorem eD.step{V:List α}{u:α->St α->Int×St α}{f:Nat}(hV: ∀a∈V,∀b∈succ a,b∈V)
  (ih: ∀(path:List α) (b:α) (s:St α),Inv succ path s->s.low b=0->b∈V->(∀g∈path,lE succ g b)->iQ V s<=f-> ∃t,Lm succ path b s (u b s).1 (u b s).2 t)
  (h:eD succ path a s0 done q t) (h0:Inv succ path s0) (ha:s0.low a=0) (a0:a∈V) {b:α} (hb:b∈succ a) (hw:iQ V q.2<=f): ∃t',eD succ path a s0 (done++ [b]) (qj u q b) t':=by
 have i0:=h.la;have e0:=h.pa h0 ha;have b0:=h.at_;have d0:q.2.on a=1:=(h.inv.uk a).2 (by rw[h.stack];simp);unfold qj;by_cases G:q.2.low b=0
 .rw[am G];have J: ∀g∈path++ [a],lE succ g b:=by
   intro g hg;refine .step (h.inv.dn g hg a d0 ?_) hb;rcases ON.1 hg with e|e
   .have:=e0 g e;omega
   .rw[OI]at e;rw[e];exact QI _
  obtain⟨tb,x⟩:=ih (path++ [a]) b q.2 h.inv G (hV a a0 b hb) J hw;generalize u b q.2=w at x ⊢;obtain⟨I,s'⟩:=w;have C: ∀z,q.2.on z=1->s'.on z=1:=fun z j=>(x.inv.uk z).2 (by rw[x.stack];exact Pb _ ((h.inv.uk z).1 j));have k0:=h.le.n;have j0:(push s0 a).n=s0.n+1:=rfl;refine⟨t++tb,x.inv,h.le.trans x.le,?_,fun y R=>?_,?_,fun y R z j D=>?_,fun z j D=>?_,fun z j=>?_,?_⟩
  .show s'.stack=_;rw[x.stack,h.stack];simp
  .rcases ON.1 R with g|g
   .exact h.new y g
   .refine PN fun hc=>?_
    have e:(push s0 a).low y=s0.low y:=jL fun e=>hc (by rw[e];exact ha);have:=h.le.low y (by rw[e];exact hc);rw[x.new y g,e]at this;exact hc this.symm
  .have:=h.KX;show min q.1 I<=_;omega
  .show min q.1 I<=s'.low z;rcases ON.1 R with g|g
   .have g0:q.2.on y=1:=(h.inv.uk y).2 (by rw[h.stack];simp[g]);have f0:y∉path++ [a]:=by
     rw[ON,OI];rintro(e|e)
     .have h1:=sb h0 (h0.KP y e);exact h1 (h.new y g)
     .rw[e]at g;exact b0 g
    have A:=h.inv.az y (sb h.inv g0) f0 z j;have B:=DD h.inv x.le A D;have:=h.l1 y g z j B;rw[x.le.low z A];omega
   .have:I<=s'.low z:=x.l1 y g z j D;omega
  .show min q.1 I<=s'.low z;rcases ON.1 j with g|g
   .have A:=h.proc z g;have:=h.MM z g (DD h.inv x.le A D);rw[x.le.low z A];omega
   .rw[OI]at g;subst g;have:I<=s'.low z:=x.KX;omega
  .show s'.low z≠0;rcases ON.1 j with g|g
   .have A:=h.proc z g;rw[x.le.low z A];exact A
   .rw[OI]at g;subst g;have:(q.2.n:Int)<s'.low z:=x.at_;omega
  .obtain⟨z,Y,z2,z3⟩:=h.l2;by_cases c0:q.1<=I
   .exact⟨z,C z Y,by show s'.low z=min q.1 I;rw[x.le.low z (sb h.inv Y)];omega,z3⟩
   .rcases x.l2 with⟨_,g⟩|⟨w,w1,w2,w3⟩
    .have h1:I=s'.low b:=g;have h2:(q.2.n:Int)<s'.low b:=x.at_;have h3:=h.KX;omega
    .have w2:s'.low w=I:=w2;exact⟨w,C w ((h.inv.uk w).2 w1),by show s'.low w=min q.1 I;omega,(lE.one hb).trans w3⟩
 .rw[be G];by_cases B:q.2.on b=1
  .rw[am B];refine⟨t,h.inv,h.le,h.stack,h.new,?_,fun y R z j D=>?_,fun z j D=>?_,fun z j=>?_,?_⟩
   .have:=h.KX;show min q.1 (q.2.low b)<=_;omega
   .have:=h.l1 y R z j D;show min q.1 (q.2.low b)<=q.2.low z;omega
   .show min q.1 (q.2.low b)<=q.2.low z;rcases ON.1 j with g|g
    .have:=h.MM z g D;omega
    .rw[OI]at g;subst g;omega
   .rcases ON.1 j with g|g
    .exact h.proc z g
    .rw[OI]at g;subst g;exact G
   .obtain⟨z,Y,z2,z3⟩:=h.l2;by_cases c0:q.1<=q.2.low b
    .exact⟨z,Y,by show q.2.low z=min q.1 (q.2.low b);omega,z3⟩
    .exact⟨b,B,by show q.2.low b=min q.1 (q.2.low b);omega,.one hb⟩
  .rw[be B];refine⟨t,h.inv,h.le,h.stack,h.new,h.KX,h.l1,fun z j D=>?_,fun z j=>?_,h.l2⟩
   .rcases ON.1 j with g|g
    .exact h.MM z g D
    .rw[OI]at g;subst g;exact absurd D B
   .rcases ON.1 j with g|g
    .exact h.proc z g
    .rw[OI]at g;subst g;exact G
end
theorem pO{succ:α->List α}{path:List α}{a:α}{s0:St α}{V:List α}{j:α->St α->Int×St α}{f:Nat}(B: ∀a∈V,∀b∈succ a,b∈V)
  (C: ∀(path:List α) (b:α) (s:St α),Inv succ path s->s.low b=0->b∈V->(∀g∈path,lE succ g b)->iQ V s<=f-> ∃t,Lm succ path b s (j b s).1 (j b s).2 t)
  (h0:Inv succ path s0) (ha:s0.low a=0) (u:a∈V) (y:iQ V (push s0 a)<=f):
  ∀(l done:List α) (q:Int×St α) (t:List α),eD succ path a s0 done q t->(∀b∈l,b∈succ a)-> ∃G,eD succ path a s0 (done++l) (l.foldl (qj j) q) G
 | [],done,q,t,h,_=>⟨t,by rw[Pt];exact h⟩
 |b::l,done,q,t,h,hl=>by
  obtain⟨t1,h1⟩:=h.step B C h0 ha u (hl b OH) (Pm (ud h.le) y);obtain⟨t2,A⟩:=pO B C h0 ha u y l (done++ [b]) _ t1 h1 fun x D=>hl x (OF _ D);exact⟨t2,by rw[OS]at A;exact A⟩
theorem nC{succ:α->List α}{V:List α}(hV: ∀a∈V,∀b∈succ a,b∈V): ∀(f:Nat) (path:List α) (a:α) (s:St α),Inv succ path s->s.low a=0->a∈V->(∀g∈path,lE succ g a)->iQ V s<=f-> ∃t,Lm succ path a s (dI succ f a s).1 (dI succ f a s).2 t
 |0,path,a,s,h,ha,haV,_,hw=>by
  have:=jx h.ly haV ha;omega
 |f+1,path,a,s,h,ha,haV,hp,hw=>by
  have d0:=jx h.ly haV ha;have hi:=xq h ha hp;have la:(push s a).low a=(s.n:Int)+1:=iR _ _ _;have oa:(push s a).on a=1:=iR _ _ _;have J:eD succ path a s [] ((s.n:Int)+1,push s a) []:=
   ⟨hi,.refl _,rfl,fun y u=>(nomatch u),QI _,fun y u=>(nomatch u),fun z C=>(nomatch C),fun z C=>(nomatch C),⟨a,oa,la,.refl _⟩⟩
  obtain⟨t,j⟩:=pO hV (fun p b s'=>nC hV f p b s') h ha haV (by omega) (succ a) [] _ [] J fun b hb=>hb;rw[P9]at j;rw[dI];generalize(succ a).foldl (qj (dI succ f)) ((s.n:Int)+1,push s a)=q at j ⊢;have D:=j.la;have b0:=j.pa h ha;have R:=j.at_;have a0:q.2.on a=1:=(j.inv.uk a).2 (by rw[j.stack];simp);have A:Le s q.2:=(GZ h ha).trans j.le;unfold q8;by_cases Y:q.1=(s.n:Int)+1
  .rw[am Y,pG (by rw[j.stack];simp;omega) j.stack R a0,<-D];refine⟨[],G0 j.inv j.stack b0 j.proc fun y u z C G=>?_,⟨A.low,fun x hx=>?_,A.n⟩,by rw[Pt];rfl,fun y u=>(nomatch u),?_,?_,fun y u=>(nomatch u),.inl ⟨am OH,?_⟩⟩
   .rw[D,<-Y];rcases OG.1 u with e|e
    .rw[e]at C;exact j.MM z C G
    .exact j.l1 y e z C G
   .show(if x∈a::t then(2:Int) else q.2.on x)=2;split
    .rfl
    .exact A.HI x hx
   .show(s.n:Int)<q.2.low a;omega
   .show q.1<=q.2.low a;omega
   .show q.1=q.2.low a;omega
  .rw[be Y];have c0:q.1<q.2.low a:=by have:=j.KX;omega
   obtain⟨z,z1,z2,z3⟩:=j.l2;have I:=j.inv.Gw;rw[j.stack,Qi]at I;refine⟨a::t,BZ j.inv j.proc z1 (by omega) z3,A,j.stack,fun y u=>?_,by omega,by omega,fun y u w B G=>?_,.inr ⟨z,?_,z2,z3⟩⟩
   .rcases OG.1 u with e|e
    .rw[e];exact ha
    .exact j.new y e
   .rcases OG.1 u with e|e
    .rw[e]at B;exact j.MM w B G
    .exact j.l1 y e w B G
   .have:=(j.inv.uk z).1 z1;rw[j.stack]at this;rcases ON.1 this with g|g
    .exact g
    .rcases OG.1 g with e|e
     .rw[e]at z2;omega
     .have:=(Pd.1 I.2.1).1 z e;omega
theorem Jh{β:Type}(succ:β->List β):Inv succ [] (St.o:St β):=
 ⟨fun _=>⟨QI _,QI _⟩,fun _ _ _ h=>absurd Z h,fun _=>Iff.rfl,fun _=> .inl Z,fun _=>⟨fun h=>(nomatch h),fun h=>(nomatch h)⟩,.nil,fun _ h=>(nomatch h),fun _ h=>(nomatch h),fun _ h=>(nomatch h),fun _ h=>(nomatch h),fun _ h=>absurd Z h,fun _ h=>(nomatch h),fun _ _ h=>(nomatch h)⟩
theorem pD{succ:α->List α}{V:List α}(A: ∀a∈V,∀b∈succ a,b∈V){f:Nat}(hf:V.length<=f): ∀(l:List α) (s:St α),(∀a∈l,a∈V)->Inv succ [] s->Inv succ [] (fG succ f l s)∧(∀x,s.low x≠0->(fG succ f l s).low x≠0)∧ ∀a∈l,(fG succ f l s).low a≠0
 | [],s,_,h=>⟨h,fun _ j=>j,fun _ u=>(nomatch u)⟩
 |b::l,s,hl,h=>by
  have key: ∃s',(if s.low b=0 then(dI succ f b s).2 else s)=s'∧Inv succ [] s'∧(∀x,s.low x≠0->s'.low x≠0)∧s'.low b≠0:=by
   by_cases e:s.low b=0
   .obtain⟨t,y⟩:=nC A f [] b s h e (hl b OH) (fun g C=>nomatch C) (Pm (PJ _ _) hf);refine⟨_,am e,y.inv,fun x j=>by rw[y.le.low x j];exact j,?_⟩;have:=y.at_;omega
   .exact⟨s,be e,h,fun _ j=>j,e⟩
  obtain⟨s',e,D,G,I⟩:=key;obtain⟨i1,i2,i3⟩:=pD A hf l s' (fun a u=>hl a (OF _ u)) D;have B:fG succ f (b::l) s=fG succ f l s':=by
   show fG succ f l (if s.low b=0 then(dI succ f b s).2 else s)=_;rw[e]
  rw[B];refine⟨i1,fun x j=>i2 x (G x j),fun a u=>?_⟩;rcases OG.1 u with q|q
  .rw[q];exact i2 b I
  .exact i3 a q
theorem By{succ:α->List α}{V:List α}(A: ∀a∈V,∀b∈succ a,b∈V){f:Nat}(hf:V.length<=f){a b:α}(ha:a∈V)(hb:b∈V):
  (fG succ f V St.o).ring a=(fG succ f V St.o).ring b↔lE succ a b∧lE succ b a:=by
 obtain⟨h,_,y⟩:=pD A hf V St.o (fun _ h=>h) (Jh succ);generalize fG succ f V St.o=s at h y ⊢;have j: ∀x∈V,s.on x=2:=by
  intro x B;rcases h.BL x with g|g|g
  .exact absurd ((h.Ff x).1 g) (y x B)
  .obtain⟨k,C,_⟩:=h.up x g;exact nomatch C
  .exact g
 constructor
 .intro e;obtain⟨r,r1,r2,I,J⟩:=h.MF a (j a ha);obtain⟨q,R,Y,D,G⟩:=h.MF b (j b hb);have u:s.low r≠0:=fun g=>by have:=(h.Ff r).2 g;omega
  have:r=q:=h.inj r q (by omega) u;subst this;exact⟨I.trans G,D.trans J⟩
 .rintro⟨h1,h2⟩;exact h.cmp a b (j a ha) (j b hb) h1 h2
end
end
end
end Go.Tj
namespace Go.Wa
section
inductive tv (R:Nat->Nat->Prop):Nat->Nat->Prop
 |refl (a:Nat):tv R a a
 |step {a b c:Nat} (h:R a b) (t:tv R b c):tv R a c
theorem tv.trans{R:Nat->Nat->Prop}{a b c:Nat}(h:tv R a b)(k:tv R b c):tv R a c:=by
 induction h with
 |refl=>exact k
 |step h _ ih=>exact .step h (ih k)
def W(E:Nat->Nat->Bool):Nat->Nat->Nat->Bool
 |0,a,b=>E a b||a==b
 |m+1,a,b=>W E m a b||(W E m a m&&W E m m b)
variable {E:Nat->Nat->Bool}
theorem W.mono(m a b:Nat)(h:W E m a b=is):W E (m+1) a b=is:=by simp[W,h]
theorem W.Ji{m k a b:Nat}(hk:m<=k)(h:W E m a b=is):W E k a b=is:=by
 induction hk with
 |refl=>exact h
 |step _ ih=>exact W.mono _ _ _ ih
theorem W.self(m a:Nat):W E m a a=is:=W.Ji (OL m) (by simp[W])
theorem W.trans: ∀(m a k b:Nat),k<m->W E m a k=is->W E m k b=is->W E m a b=is
 |m+1,a,k,b,hk,h1,j=>by
  simp only[W,Qu,Pk]at h1 j ⊢;by_cases A:k=m
  .subst A;have B:W E k a k=is:=by rcases h1 with h|h;exact h;exact h.1
   have C:W E k k b=is:=by rcases j with h|h;exact h;exact h.2
   exact .inr ⟨B,C⟩
  .have u:k<m:=by omega
   rcases h1 with h1|⟨h1,y⟩<;>rcases j with j|⟨j,x⟩
   .exact .inl (W.trans m a k b u h1 j)
   .exact .inr ⟨W.trans m a k m u h1 j,x⟩
   .exact .inr ⟨h1,W.trans m m k b u y j⟩
   .exact .inr ⟨h1,x⟩
theorem W.sound: ∀(m a b:Nat),W E m a b=is->tv (fun a b=>E a b=is) a b
 |0,a,b,h=>by
  simp only[W,Qu,beq_iff_eq]at h;rcases h with h|h
  .exact .step h (.refl _)
  .subst h;exact .refl _
 |m+1,a,b,h=>by
  simp only[W,Qu,Pk]at h;rcases h with h|⟨h1,j⟩
  .exact W.sound m a b h
  .exact(W.sound m a m h1).trans (W.sound m m b j)
theorem W.iff{n:Nat}(hE: ∀a b,a<n->E a b=is->b<n){a b:Nat}(ha:a<n):W E n a b=is↔tv (fun a b=>E a b=is) a b:=by
 refine⟨W.sound n a b,fun h=>?_⟩
 induction h with
 |refl a=>exact W.self n a
 |step h _ ih=>
  have hb:=hE _ _ ha h;exact W.trans n _ _ _ hb (W.Ji (OL n) (by simp[W,h])) (ih hb)
def V(E:Nat->Nat->Bool)(m a b x y:Nat):Bool:=if x<a∨x=a∧y<b then W E (m+1) x y else W E m x y
theorem V.row(m a b y:Nat):V E m a b m y=W E m m y:=by
 unfold V;split
 .simp only[W];cases W E m m y<;>simp
 .rfl
end
end Go.Wa
namespace Go.Co
section
section
variable {n:Nat} {tB:Nat->Nat->Bool} {e:Nat->Nat->Bool}
structure Far (n:Nat) (e tB:Nat->Nat->Bool):Prop where
 refl: ∀a,a<n->tB a a=is
 trans: ∀a b c,tB a b=is->tB b c=is->tB a c=is
 edge: ∀a b,a<n->e a b=is->tB a b=is
 lt: ∀a b,a<n->tB a b=is->b<n
 elt: ∀a b,a<n->e a b=is->b<n
 split: ∀a b (p:Nat->Prop),a<n->tB a b=is->p a-> ¬p b-> ∃x y,x<n∧tB a x=is∧p x∧e x y=is∧ ¬p y∧tB y b=is
def cls(tB:Nat->Nat->Bool)(a b:Nat):Bool:=tB a b&&tB b a
end
end
end Go.Co
namespace Go.Rg
open Go.Wa Go.Co Go.Tj
section
section
variable {α:Type} [Inhabited α]
def ed(V:List α)(g:α->α->Bool)(i j:Nat):Bool:=kw (i<V.length)&&kw (j<V.length)&&g (V.getD i ci) (V.getD j ci)
def tB(V:List α)(g:α->α->Bool):Nat->Nat->Bool:=W (ed V g) V.length
theorem zc{V:List α}{g:α->α->Bool}{i j:Nat}:ed V g i j=is↔i<V.length∧j<V.length∧g (V.getD i ci) (V.getD j ci)=is:=by
 simp[ed,and_assoc]
theorem vU{V:List α}{a:α}(h:a∈V): ∃i,i<V.length∧V.getD i ci=a:=by
 obtain⟨i,b,rfl⟩:=Qh.1 h;exact⟨i,b,by simp[Ow,b]⟩
theorem get_mem{V:List α}{i:Nat}(h:i<V.length):V.getD i ci∈V:=by
 rw[Ow,Ox h];exact Pg h
theorem zs{V:List α}(hn:V.Nodup){g:α->α->Bool}{succ:α->List α}(hs: ∀a∈V,∀b,b∈succ a↔b∈V∧g a b=is){i j:Nat}(hi:i<V.length)(hj:j<V.length):
  tB V g i j=is↔lE succ (V.getD i ci) (V.getD j ci):=by
 have B: ∀{x y:Nat},x<V.length->y<V.length->V.getD x ci=V.getD y ci->x=y:=by
  intro x y C u h;rw[Ow,Ow,Ox C,Ox u]at h;exact(List.getElem_inj hn).1 h
 rw[tB,W.iff (n:=V.length) (fun a b _ h=>(zc.1 h).2.1) hi];constructor
 .intro h;clear hj;have: ∀{a b:Nat},tv (fun a b=>ed V g a b=is) a b->lE succ (V.getD a ci) (V.getD b ci):=by
   intro a b h
   induction h with
   |refl a=>exact .refl _
   |step h _ ih=>
    obtain⟨h1,A,D⟩:=zc.1 h;exact(lE.step (.refl _) ((hs _ (get_mem h1) _).2 ⟨get_mem A,D⟩)).trans ih
  exact this h
 .intro h;have key: ∀{a b:α},lE succ a b-> ∀x,x<V.length->V.getD x ci=a-> ∃y,y<V.length∧V.getD y ci=b∧tv (fun a b=>ed V g a b=is) x y:=by
   intro a b h
   induction h with
   |refl=>exact fun x C G=>⟨x,C,G,.refl _⟩
   |step _ hc ih=>
    intro x C G;obtain⟨y,u,h1,A⟩:=ih x C G;subst h1;obtain⟨D,J⟩:=(hs _ (get_mem u) _).1 hc;obtain⟨z,I,rfl⟩:=vU D;exact⟨z,I,rfl,A.trans (.step (zc.2 ⟨u,I,J⟩) (.refl _))⟩
  obtain⟨y,u,h1,A⟩:=key h i hi Z;have:=B u hj h1;subst this;exact A
def tw(V:List α)(g:α->α->Bool)(b:α->Int):Prop:= ∀i j,i<V.length->j<V.length->(b (V.getD i ci)=b (V.getD j ci)↔tB V g i j=is∧tB V g j i=is)
theorem Dq[DecidableEq α]{V:List α}(hn:V.Nodup){g:α->α->Bool}{succ:α->List α}(hs: ∀a∈V,∀b,b∈succ a↔b∈V∧g a b=is){f:Nat}(hf:V.length<=f):tw V g (fG succ f V St.o).ring:=by
 intro i j u x;rw[By (fun a y b hb=>((hs a y b).1 hb).1) hf (get_mem u) (get_mem x),zs hn hs u x,zs hn hs x u]
end
end
end Go.Rg
namespace Go.Proofs.YtllkaddcplhklaaGreatDoor
open Go Go.Al
mutual
def named:Lit->List ak
 | .mk k a _ _ _ _ _ _ b _=>if k=1∨k=2 then[a.rel] else if k=4 then fJ b else[]
def fJ:List Lit->List ak
 | []=> []
 |l::r=>named l++fJ r
end
def DQ(l:Lit):List ak:=if l.kind=1∨l.kind=2 then[l.atom.rel] else if l.kind=4 then(l.ar.filter fun x=>kw (x.kind=1∨x.kind=2)).map fun x=>x.atom.rel else[]
theorem lQ: ∀l:List Lit,fJ l=l.flatMap named
 | []=>rfl
 |x::r=>by simp only[fJ,PB,lQ r]
theorem uJ: ∀(b:List Lit),(∀x∈b,x.kind≠4)->fJ b=(b.filter fun x=>kw (x.kind=1∨x.kind=2)).map fun x=>x.atom.rel
 | [],_=>rfl
 | .mk k' a' op' le' ri' af' av' ao' b' at'::b,h=>by
  have j:k'≠4:=h (.mk k' a' op' le' ri' af' av' ao' b' at') (OH ..);rw[fJ,uJ b fun y u=>h y (OF _ u),P3];by_cases hk:k'=1∨k'=2
  .have:kw ((Lit.mk k' a' op' le' ri' af' av' ao' b' at').kind=1∨(Lit.mk k' a' op' le' ri' af' av' ao' b' at').kind=2)=is:=decide_eq_true hk;rw[this,named,am hk];rfl
  .have:kw ((Lit.mk k' a' op' le' ri' af' av' ao' b' at').kind=1∨(Lit.mk k' a' op' le' ri' af' av' ao' b' at').kind=2)=jp:=decide_eq_false hk;rw[this,named,be hk,be j];rfl
theorem DP(l:Lit)(h:l.kind=4-> ∀x∈l.ar,x.kind≠4):named l=DQ l:=by
 obtain⟨k,a,op,le,B,u,A,y,b,at_⟩:=l;show(if k=1∨k=2 then[a.rel] else if k=4 then fJ b else[])=if k=1∨k=2 then[a.rel] else if k=4 then(b.filter fun x=>kw (x.kind=1∨x.kind=2)).map fun x=>x.atom.rel else[];by_cases j:k=4
 .rw[uJ b (h j)]
 .rw[be j,be j]
def kX(l:Lit):Nat:=if l.kind=1 then 1 else 2
def cG(p:Prog):List (ak×ak×Nat):=p.rules.flatMap fun r=>r.body.flatMap fun l=>(named l).map fun t=>(r.head.rel,t,kX l)
def gD(hs:List (ak×ak×Nat))(a b:ak):Nat:=hs.foldl (fun m x=>if x.1=a∧x.2.1=b then max m x.2.2 else m) 0
theorem wj(a b:ak): ∀(hs:List (ak×ak×Nat)) (m:Nat),m<=hs.foldl (fun m x=>if x.1=a∧x.2.1=b then max m x.2.2 else m) m∧(∀k,(a,b,k)∈hs->k<=hs.foldl (fun m x=>if x.1=a∧x.2.1=b then max m x.2.2 else m) m)∧
  (hs.foldl (fun m x=>if x.1=a∧x.2.1=b then max m x.2.2 else m) m=m∨(a,b,hs.foldl (fun m x=>if x.1=a∧x.2.1=b then max m x.2.2 else m) m)∈hs)
 | [],m=>⟨OJ _,fun _ h=>(nomatch h),.inl Z⟩
 |(x,y,k)::hs,m=>by
  obtain⟨h1,u,h3⟩:=wj a b hs (if x=a∧y=b then max m k else m);rw[Pl];refine⟨Pm ?_ h1,fun A hk=>?_,?_⟩
  .split<;>omega
  .rcases OG.1 hk with h|h
   .cases h;refine Pm ?_ h1;rw[am ⟨rfl,rfl⟩];exact Nat.le_max_right _ _
   .exact u A h
  .rcases h3 with h3|h3
   .by_cases j:x=a∧y=b
    .rw[am j]at h3;rcases Nat.le_total m k with h4|h4
     .right;rw[RZ h4]at h3;obtain⟨rfl,rfl⟩:=j;simp only[and_self,if_true,RZ h4]at h3 ⊢;rw[h3];simp
     .left;rw[Nat.max_eq_left h4]at h3;simp only[j,and_self,if_true,Nat.max_eq_left h4]at h3 ⊢;exact h3
    .rw[be j]at h3;left;simp only[be j];exact h3
   .exact .inr (OF _ h3)
theorem MX{hs:List (ak×ak×Nat)}{a b:ak}{k:Nat}(h:(a,b,k)∈hs):k<=gD hs a b:=(wj a b hs 0).2.1 k h
theorem MW(hs:List (ak×ak×Nat))(a b:ak):gD hs a b=0∨(a,b,gD hs a b)∈hs:=(wj a b hs 0).2.2
def ns(p:Prog):List ak:=de (p.aQ.map Decl.name)
theorem vl.KU{l:List ak}(h:vl l):l.Nodup:=by
 refine Rs ?_ h;intro a b j e;subst e;exact kO _ j
def eg(p:Prog)(a b:ak):Bool:=kw (gD (cG p) a b≠0)
def K8(p:Prog):Nat->Nat->Bool:=Go.Rg.tB (ns p) (eg p)
theorem Dr{p:Prog}(hn:(p.aQ.map Decl.name).Nodup){f:Nat}(hf:(ns p).length<=f):Go.Rg.tw (ns p) (eg p) (Go.Tj.fG (fun a=>(ns p).filter (eg p a)) f (ns p) Go.Tj.St.o).ring:=
 Go.Rg.Dq (V:=ns p) (vl.KU (iD hn)) (fun a _ b=>by rw[O5]) hf
def ringEq(p:Prog)(a b:ak):Bool:=(O4 (ns p).length).any fun i=>(O4 (ns p).length).any fun j=>kw ((ns p).getD i ci=a)&&kw ((ns p).getD j ci=b)&&Go.Co.cls (K8 p) i j
theorem yE{p:Prog}{a b:ak}:ringEq p a b=is↔ ∃i j,i<(ns p).length∧j<(ns p).length∧(ns p).getD i ci=a∧(ns p).getD j ci=b∧K8 p i j=is∧K8 p j i=is:=by
 simp only[ringEq,PI,PA,Pk,decide_eq_true_eq,Go.Co.cls];constructor
 .rintro⟨i,hi,j,hj,⟨h1,h2⟩,h3,h4⟩;exact⟨i,j,hi,hj,h1,h2,h3,h4⟩
 .rintro⟨i,j,hi,hj,h1,h2,h3,h4⟩;exact⟨i,hi,j,hj,⟨h1,h2⟩,h3,h4⟩
theorem qn{p:Prog}{u:ak->Int}(hr:Go.Rg.tw (ns p) (eg p) u){a b:ak}(ha:a∈ns p)(hb:b∈ns p):ringEq p a b=kw (u a=u b):=by
 rw[PL,yE,decide_eq_true_eq];constructor
 .rintro⟨i,j,x,y,rfl,rfl,A,B⟩;exact(hr i j x y).2 ⟨A,B⟩
 .intro h;obtain⟨i,x,rfl⟩:=Go.Rg.vU ha;obtain⟨j,y,rfl⟩:=Go.Rg.vU hb;obtain⟨A,B⟩:=(hr i j x y).1 h;exact⟨i,j,x,y,rfl,rfl,A,B⟩
def yD(p:Prog)(r:ax):Bool:=r.body.any fun l=>kw (l.kind=1)&&ringEq p l.atom.rel r.head.rel
def vv(p:Prog)(r:ax):Option Lit:=r.body.find? fun l=>kw (l.kind≠1)&&(named l).any fun t=>ringEq p t r.head.rel
def p9(r:ax):Bool:=r.head.aj.any fun t=>kw (t.kind=1)&&!du (jO r) t.var
def vm(p:Prog)(r:ax):fi:=match vv p r with
 |some l=>(70,l.at)
 |none=>if p9 r=is∧yD p r=is then(71,r.at_) else fi.z
def s7(p:Prog):fi:=if(dP p).1≠0 then dP p else((p.rules.map (vm p)).find? fun d=>kw (d.1≠0)).getD fi.z
end Go.Proofs.YtllkaddcplhklaaGreatDoor
namespace Go.Re
open Go.Tj
section
variable {α:Type}
structure Mid (succ:α->List α) (S T:α->Prop) (a:α) (l:List α):Prop where
 MJ: ∀x,S x->T x
 here:T a
 new: ∀x,T x->S x∨lE succ a x
 next: ∀x,T x->S x∨x=a∨ ∀y∈succ x,T y
 done: ∀y∈l,T y
structure Top (succ:α->List α) (V:α->Prop) (T:α->Prop) (l:List α):Prop where
 new: ∀x,T x-> ∃r∈l,V r∧lE succ r x
 next: ∀x,T x-> ∀y∈succ x,T y
 done: ∀r∈l,V r->T r
end
end Go.Re
namespace Go.Proofs.YtllkaddcplhklaaGreatDoor
open Go Go.Al
section
section
variable {r t:ax} (hh:t.head=r.head) (hb: ∀x,x∈t.body↔x∈r.body)
include hh hb
end
section
variable {r t:ax} (hh:t.head=r.head) (hb: ∀x,x∈t.body↔x∈r.body)
include hh hb
end
structure On (r t u:ax) (i k:Int):Prop where
 NH: ∀x∈eC (aD (bI r)),x∈eC (aD (aC r))
 MI: ∀x∈eC (aD (mZ r)),x∈eC (aD (bI r))
 outer:eC (aD (aC t))=eC (aD (aC r))
 lim:eC (aD (bI t))=eC (aD (bI r))
 plain:eC (aD (mZ t))=eC (aD (mZ r))
 loc:vX t i=vX r k
 vX: ∀x∈vX r k,x∉eC (aD (aC r))
 more: ∀x∈eC (aD (bI r)),x∈eC (aD (bI u))
 hasX:KS [88]∈eC (aD (bI u))
end
theorem Aa{n sz:Nat}{es:List (List PV)}(h:es.all (bd n)=is):(AO.row sz es).low n:=fun _ e b=>Pc.1 h e (O9 b)
def tz:List IV->List IV->Prop
 | [],[]=>True
 |p::r,q::s=>kD p q∧tz r s
 |_,_=>False
theorem tz.length: ∀{a b:List IV},tz a b->a.length=b.length
 | [],[],_=>rfl
 |_::_,_::_,h=>congrArg (· +1) (tz.length h.2)
 | [],_::_,h=>h.elim
 |_::_,[],h=>h.elim
theorem tz.get: ∀{a b:List IV},tz a b-> ∀(j:Nat) (q:IV),b[j]? =co q-> ∃p,a[j]? =co p∧kD p q
 | [],[],_,j,q,h=>by simp at h
 |p::r,q0::s,hh,j,q,h=>by
  cases j with
  |zero=>simp at h;subst h;exact⟨p,rfl,hh.1⟩
  |succ j=>simpa using tz.get hh.2 j q (by simpa using h)
 | [],_::_,hh,_,_,_=>hh.elim
 |_::_,[],hh,_,_,_=>hh.elim
theorem Ad(p:Prog): ∀i,∀d∈nQ p i,¬d.1=0
 |0,d,h=>by cases h
 |i+1,d,h=>by
  rw[nQ]at h;rcases ON.1 h with h|h
  .exact Ad p i d h
  .split at h
   .cases h
   .rename_i g;rw[OI]at h;subst h;exact g
theorem z8(p:Prog): ∀i,∀d∈oD p i,¬d.1=0
 |0,d,h=>by cases h
 |i+1,d,h=>by
  rw[oD]at h;rcases ON.1 h with h|h
  .exact z8 p i d h
  .split at h
   .cases h
   .rename_i g;rw[OI]at h;subst h;exact g
theorem Cb(p:Prog): ∀d∈jI p,¬d.1=0:=fun d h=>by
 rcases ON.1 h with h|h
 .exact Ad p _ d h
 .exact z8 p _ d h
theorem zg(p:Prog):(dP p).1=0↔jI p=[]:=by
 unfold dP;cases h:jI p with
 |nil=>exact⟨fun _=>rfl,fun _=>rfl⟩
 |cons d l=>exact⟨fun e=>absurd e (Cb p d (by rw[h];exact OH)),fun e=>nomatch e⟩
theorem xe(p:Prog): ∀n,oD p n=[]↔ ∀i,i<n->(rW p i).1=0
 |0=>⟨fun _ i h=>absurd h (Qv i),fun _=>rfl⟩
 |n+1=>by
  rw[oD,Q8,xe p n];constructor
  .rintro⟨h1,h2⟩ i b;rcases QD.1 b with h|h
   .exact h1 i h
   .subst h;by_cases g:(rW p i).1=0
    .exact g
    .rw[be g]at h2;cases h2
  .intro h;exact⟨fun i b=>h i (by omega),am (h n (by omega))⟩
theorem ku{α:Type}[Inhabited α]{l:List α}{i:Nat}(hi:i<l.length):l.getD i ci∈l:=by rw[Ow,Ox hi];exact Pg hi
structure gr (p:Prog):Prop where
 nodup:(p.aQ.map Decl.name).Nodup
 len:p.aQ.length<=64
 AA: ∀r∈p.rules,r.head.rel∈p.aQ.map Decl.name
 lits: ∀r∈p.rules,∀l∈r.body,∀t∈named l,t∈p.aQ.map Decl.name
 flat: ∀r∈p.rules,∀l∈r.body,l.kind=4-> ∀x∈l.ar,x.kind≠4
theorem xk(p:Prog): ∀n,nQ p n=[]-> ∀i,i<n->fw p i=0
 |0,_,i,h=>absurd h (Qv _)
 |n+1,h,i,hi=>by
  rw[nQ]at h;obtain⟨h1,b⟩:=Q8.1 h;rcases QD.1 hi with h3|h3
  .exact xk p n h1 i h3
  .subst h3;exact Decidable.byContradiction fun j=>by rw[be j]at b;cases b
theorem qo{d:Decl}{i k:Int}(h:nR d i k=0): ¬i>=64∧ ¬k>0:=by
 unfold nR at h;split at h
 .cases h
 .split at h
  .cases h
  .rename_i b;split at h
   .cases h
   .rename_i j;exact⟨fun g=>b (.inl g),j⟩
theorem sd{α:Type}[Inhabited α]: ∀(n:Nat) (l:List α),l.length=n->(∀i,i<l.length->l.getD i ci∉l.take i)->l.Nodup
 |0,l,hn,_=>by rw[PW.1 hn];exact Pe
 |n+1,l,hn,h=>by
  have hd:l=l.take n++ [l.getD n ci]:=by rw[<-ch (by omega),OP (by omega)]
  have h1:=sd n (l.take n) (by rw[PF];omega) fun i u=>by
   rw[PF]at u;have:=h i (by omega);rw[List.take_take,Nat.min_eq_left (by omega),Ow,Ph,am (by omega),<-Ow];exact this
  rw[hd,PU];refine⟨h1,by simp,fun a j b hb e=>?_⟩;rw[OI]at hb;subst e;subst hb;exact h n (by omega) j
theorem xi{s:ak}: ∀(l:List Decl) (m:DM),cO .str (l.foldl iG m) s=is->s∈m.map Pq∨s∈l.map Decl.name
 | [],m,h=> .inl (xZ.1 h)
 |d::l,m,h=>by
  rw[Pl]at h;rcases xi l _ h with h1|h1
  .unfold iG at h1;split at h1
   .exact .inl h1
   .rename_i b;rw[dA (fun g=>b (xZ.2 g))]at h1;rcases ON.1 h1 with h3|h3
    .exact .inl h3
    .rw[OI]at h3;subst h3;exact .inr OH
  .exact .inr (OF _ h1)
theorem H2{p:Prog}{a:Atom}(h:tt p a=jp):a.rel∈p.aQ.map Decl.name:=by
 unfold tt at h;rw[Qe]at h;rcases xi p.aQ [] h with h1|h1
 .cases h1
 .exact h1
theorem kP{r:ax}{e:Int}(he:e≠0){f:Int->Bool}{k:fi}(h:(lU r e f k).1=0):(∀lit∈gv r.body.length,f lit=jp)∧k.1=0:=by
 unfold lU at h;split at h
 .exact absurd h he
 .rename_i h1;refine⟨fun lit hl=>?_,h⟩;have:=Qq.1 h1 lit hl;simpa using this
theorem yC{p:Prog}{r:ax}{n:Int}(h:(ur p r n).1=0):(vW p r).1=0:=by
 unfold ur at h;split at h
 .cases h
 .split at h
  .cases h
  .split at h
   .cases h
   .split at h
    .cases h
    .split at h
     .cases h
     .exact h
theorem Hg(n:Nat):(-1:Int)∈gv n:=OZ.2 ⟨0,by simp,by simp⟩
theorem Ao{n i:Nat}(h:i<n):(i:Int)∈gv n:=OZ.2 ⟨i+1,by simp;omega,by simp⟩
theorem BP{l:Lit}{t:ak}(hf:l.kind=4-> ∀x∈l.ar,x.kind≠4)(h:t∈named l): ∃a∈(if l.kind=4 then l.ar else[l]).flatMap cv,a.rel=t:=by
 rw[DP l hf]at h;unfold DQ at h;split at h
 .rename_i hk;rw[OI]at h;have b: ¬l.kind=4:=by omega
  refine⟨l.atom,?_,h.symm⟩;rw[be b,Rh];exact⟨l,Qk _,by rw[cv,am hk];exact Qk _⟩
 .split at h
  .rename_i b;obtain⟨x,y,rfl⟩:=OZ.1 h;obtain⟨j,u⟩:=O5.1 y;refine⟨x.atom,?_,rfl⟩;rw[am b,Rh];exact⟨x,j,by rw[cv,am (zT u)];exact Qk _⟩
  .cases h
theorem AP{p:Prog}(h:(dP p).1=0):gr p:=by
 have hF:=(zg p).1 h;unfold jI at hF;obtain⟨h1,B⟩:=Q8.1 hF;have h1:=xk p _ h1;have B:=(xe p _).1 B;have u: ∀r∈p.rules,(vW p r).1=0:=by
  intro r y;obtain⟨i,b,rfl⟩:=Qh.1 y;have:=yC (B i b);rwa[Ow,Ox b]at this
 have A: ∀r∈p.rules,∀lit∈gv r.body.length,∀a∈eA r lit,a.rel∈p.aQ.map Decl.name:=by
  intro r y lit hl a C;have:=(kP (by decide) (u r y)).1 lit hl;exact H2 (by simpa using Ps.1 this a C)
 have j: ∀r∈p.rules,∀l∈r.body,l.kind=4-> ∀x∈l.ar,x.kind≠4:=by
  intro r y l hl I x Y;obtain⟨i,b,rfl⟩:=Qh.1 hl;have:=(kP (by decide) (kP (by decide) (kP (by decide) (u r y)).2).2).1 _ (Ao b);have e:aq r (i:Int)=r.body[i]:=by unfold aq;simp[Ow,b]
  unfold kH at this;rw[be (by omega),e,am I,Qx]at this;simpa using Ps.1 this.1 x Y
 refine⟨sd _ _ Z fun i b G=>?_,?_,fun r y=>?_,fun r y l hl t R=>?_,j⟩
 .rw[O3]at b;have:=(qo (h1 i b)).2;rw[bt]at this;have D:oj (fe p i) (p.aQ.getD i ci).name=0:=by omega
  rw[qb]at D;apply D;unfold fe;rw[Ow,OC,Ox b,<-List.map_take]at G;rw[Ow,Ox b];exact G
 .refine Qc fun J=>?_
  have:=(qo (h1 64 J)).1;omega
 .exact A r y (-1) (Hg _) r.head (by unfold eA;simp)
 .obtain⟨i,b,rfl⟩:=Qh.1 hl;obtain⟨a,C,rfl⟩:=BP (j r y _ hl) R;refine A r y _ (Ao b) a ?_;have e:aq r (i:Int)=r.body[i]:=by unfold aq;simp[Ow,b]
  unfold eA vY;rw[be (by omega),e];exact C
theorem gr.cG{p:Prog}(h:gr p){x:ak×ak×Nat}(j:x∈cG p):x.1∈p.aQ.map Decl.name∧x.2.1∈p.aQ.map Decl.name∧0<x.2.2:=by
 simp only[_root_.Go.Proofs.YtllkaddcplhklaaGreatDoor.cG,Rh,OZ]at j;obtain⟨r,b,l,hl,t,u,rfl⟩:=j;refine⟨h.AA r b,h.lits r b l hl t u,?_⟩;show 0<kX l;unfold kX;split<;>omega
abbrev GM:=List ((KC.str).K×Option NM)
def BJ:Option NM->IV
 |none=> .v (.map io)
 |some r=>xH r
abbrev uZ(m:GM):IV:= .dO .str BJ io (.map io) m
def Cp(row:NM)(t:ak)(b:Int):NM:=ct .str row t (max (dt .str row t 0) b)
def iF(hs:List (ak×ak×Nat))(a:ak):NM:=hs.foldl (fun row x=>if x.1=a then Cp row x.2.1 x.2.2 else row) []
def bX(p:Prog)(hs:List (ak×ak×Nat)):GM:=p.aQ.map fun r=>(r.name,co (iF hs r.name))
def sL(p:Prog):IV:=if(dP p).1=0 then uZ (bX p (cG p)) else .v (.map io)
theorem mG(hs:List (ak×ak×Nat))(x:ak×ak×Nat)(a:ak):iF (hs++ [x]) a=if x.1=a then Cp (iF hs a) x.2.1 x.2.2 else iF hs a:=by
 simp[iF,List.foldl_append]
theorem uv(hs:List (ak×ak×Nat))(a:ak):((iF hs a).map Pq).Nodup∧ ∀b:ak,b∈(iF hs a).map Pq↔ ∃k,(a,b,k)∈hs:=by
 induction hs using oz with
 |h0=>exact⟨Pe,fun b=>by simp[iF]⟩
 |h1 hs x ih=>
  obtain⟨B,A⟩:=ih;obtain⟨y,z,k⟩:=x;rw[mG];by_cases h:y=a
  .rw[am h,Cp];by_cases C:z∈(iF hs a).map Pq
   .rw[oP C];refine⟨B,fun b=>?_⟩;rw[A];constructor
    .rintro⟨j,hj⟩;exact⟨j,Pb _ hj⟩
    .rintro⟨j,hj⟩;rcases ON.1 hj with hj|hj
     .exact⟨j,hj⟩
     .rw[OI]at hj;cases hj;exact(A z).1 C
   .rw[dA C];refine⟨PU.2 ⟨B,by simp,fun u hu v D e=>?_⟩,fun b=>?_⟩
    .rw[OI]at D;subst e;subst D;exact C hu
    .rw[ON,A,OI];constructor
     .rintro(⟨j,hj⟩|rfl)
      .exact⟨j,Pb _ hj⟩
      .exact⟨k,P4 _ (by rw[h];exact Qk _)⟩
     .rintro⟨j,hj⟩;rcases ON.1 hj with hj|hj
      .exact .inl ⟨j,hj⟩
      .rw[OI]at hj;cases hj;exact .inr Z
  .rw[be h];refine⟨B,fun b=>?_⟩;rw[A];constructor
   .rintro⟨j,hj⟩;exact⟨j,Pb _ hj⟩
   .rintro⟨j,hj⟩;rcases ON.1 hj with hj|hj
    .exact⟨j,hj⟩
    .rw[OI]at hj;cases hj;exact absurd Z h
theorem Dn(hs:List (ak×ak×Nat))(a:ak):(iF hs a).length<=hs.length:=by
 induction hs using oz with
 |h0=>exact OJ _
 |h1 hs x ih=>
  rw[mG,Oy,Pu];split
  .have:=r7 (iF hs a) x.2.1 (max (dt .str (iF hs a) x.2.1 0) x.2.2);unfold Cp;omega
  .omega
def ba(p:Prog)(a:ak):List ak:=(ns p).filter (eg p a)
theorem wR{p:Prog}(h:gr p)(a:ak):de ((iF (cG p) a).map Pq)=ba p a:=by
 refine nJ (iD (uv _ _).1) (QB _ (iD h.nodup)) fun b=>?_;rw[kf,(uv _ _).2,ba,O5,ns,kf,eg,decide_eq_true_eq];constructor
 .rintro⟨k,hk⟩;have h1:=h.cG hk;refine⟨h1.2.1,?_⟩;have:=MX hk;have h2:0<k:=h1.2.2;omega
 .rintro⟨_,h1⟩;rcases MW (cG p) a b with h2|h2
  .exact absurd h2 h1
  .exact⟨_,h2⟩
theorem Ee(p:Prog)(hs:List (ak×ak×Nat)){a:ak}(h:a∈p.aQ.map Decl.name):dt .str (bX p hs) a io=co (iF hs a):=by
 unfold bX
 revert h
 generalize p.aQ=l
 induction l with
 |nil=>intro h;cases h
 |cons d l ih=>
  intro h;simp only[OU,dt];by_cases e:d.name=a
  .rw[am e,e]
  .rw[be e];rw[OU,OG]at h;exact ih (h.resolve_left fun g=>e g.symm)
theorem y1(p:Prog)(hs:List (ak×ak×Nat)):(bX p hs).map Pq=p.aQ.map Decl.name:=by
 simp[bX]
theorem qu{b:List Lit}{i:Nat}(h:i<b.length):fJ (b.take (i+1))=fJ (b.take i)++named (b.getD i ci):=by
 rw[lQ,lQ,ch h,QZ];simp
mutual
theorem ke: ∀l:Lit,(named l).length<=l.size
 | .mk k a op le ri af av ao b at_=>by
  have:=nX b;unfold named Lit.size;split
  .simp;omega
  .split
   .omega
   .simp
theorem nX: ∀l:List Lit,(fJ l).length<=Lit.aE l
 | []=>OJ _
 |l::r=>by
  have h1:=ke l;have b:=nX r;simp only[fJ,Lit.aE,Oy];omega
end
theorem BO(b:List Lit)(i:Nat):(fJ (b.take i)).length<=Lit.aE b:=by
 have h1:=nX (b.take i);have j: ∀(b:List Lit) (i:Nat),Lit.aE (b.take i)<=Lit.aE b:=by
  intro b
  induction b with
  |nil=>intro i;simp[Lit.aE]
  |cons x r ih=>
   intro i;cases i with
   |zero=>simp[Lit.aE]
   |succ i=>have:=ih i;simp only[PR,Lit.aE];omega
 exact Pm h1 (j b i)
def Lp(n:Nat):Prop:= ∀l:Lit,l.size<=n->Pure Tryz.prog 62 [ag l.c] (.iv (strs (named l)))
theorem oL(l:Lit):named l=if l.kind=1∨l.kind=2 then[l.atom.rel] else if l.kind=4 then fJ l.ar else[]:=by cases l;rfl
theorem Dc: ∀n:Nat,n<=100000000000->Lp n
 |0,_=>fun l h=>absurd l.size_pos (by omega)
 |n+1,hn=>fun l h=>by
  have C:=l.size_eq;refine Al.Pure.le (aa:=[ag l.c]) (args:=[ag l.c1]) ?_ ⟨l.D2,ac⟩;refine ai ab Tryz.func62 Z (by decide) Tryz.ntmps62 Z (by simp) Z ?_;refine zJ Z Z (fun b=>?_) fun b=>?_
  .have b:l.kind=1:=by simpa using b
   rw[oL,am (.inl b)];refine gA Z (dq (by first|exact .inr Z|exact .inl Z) Z Z (rfl) (rfl))
  have b: ¬l.kind=1:=by simpa using b
  refine zJ Z Z (fun j=>?_) fun j=>?_
  .have j:l.kind=2:=by simpa using j
   rw[oL,am (.inr j)];refine gA Z (dq (by first|exact .inr Z|exact .inl Z) Z Z (rfl) (rfl))
  have j: ¬l.kind=2:=by simpa using j
  rw[oL,be (by rintro(g|g);exact b g;exact j g)];refine zE Z Z (fun u=>?_) fun u=>?_
  .have u: ¬l.kind=4:=by simpa using u
   rw[be u];refine gA Z (zL ?_);exact .nil _ _
  have u:l.kind=4:=by simpa using u
  rw[am u];refine gA Z ?_;refine kY 3 1 Z ?_;refine aK 0 l.ar.length (OL _) (fun i=>⟨[(3,.sl 2 0 (fJ (l.ar.take i)).length 1),(19,.iv (lits l.ar)),(20,pI l.ar.length),(21,pI i)],[(2,co (aP 1 (fJ (l.ar.take i)) cR))],3⟩) (fun _=>True) [1] ac
   (zW (zS trivial)) fun i D _=>?_
  have y:=BO l.ar i;have x:=Lit.aF l.ar;refine zJ Z Z (fun h1=>?_) fun h1=>?_
  .have h1:i<l.ar.length:=by simpa using h1
   have A:=Lit.bR l.ar i h1;have B:=ke (l.ar.getD i ci);refine gA Z (zp (Dc n (by omega) (l.ar.getD i ci) (by omega)) ?_);refine gA Z ⟨h1,ac,[4],zM ⟨.row (by rw[qu h1,Oy]),rfl,bi (bi (bi ac))⟩ (hR Z (by rw[vz,qu h1,OM]) Z ac)⟩
  .have h1:l.ar.length<=i:=by simpa using h1
   rw[OP h1];refine gA Z (dq (by first|exact .inr Z|exact .inl Z) Z Z (rfl) (rfl))
theorem zZ(l:Lit)(h:l.size<=100000000000):Pure Tryz.prog 62 [ag l.c] (.iv (strs (named l))):=Dc l.size h l (OJ _)
end Go.Proofs.YtllkaddcplhklaaGreatDoor
namespace Go.Proofs.YtllkaddcplhklaaGreatDoor
open Go Go.Al Go.Proofs.Tryz
section
theorem Ja(hS:fU)(el:Nat->List IV):Pure prog 84 [.iv (.ck 1 0 el)] (.bf []):=by
 refine⟨bm func84 Z (by decide),fun M N w vs x j y=>?_⟩;obtain⟨v,rfl⟩: ∃v,vs=[v]:=by
  cases vs with
  |nil=>cases j
  |cons v r=>cases r with
   |nil=>exact⟨v,rfl⟩
   |cons a b=>simp at j
 have u:=y 0 _ Z;simp only[Ql]at u;obtain⟨a,a0,rfl⟩: ∃a a0,v= .slice a 0 a0:=by
  cases u with
  |iv _ _ h=>cases h with
   |fM _ _ a a0=>exact⟨a,a0,rfl⟩
   |ck _ _ _ b off a0=>exact⟨_,a0,rfl⟩
 refine(hS.2 a a0 w).mono ?_;rintro e A ⟨rfl,rfl⟩;exact⟨_,M,N,.bf [],_,_,rfl,⟨rfl,rfl,rfl⟩,.refl _ _ _ _ _,x,.bf [] #[] Z (by simp)⟩
section
variable {V:Type}
def Aw(m:List ((KC.str).K×V))(vs:List Nat):List ak:=fK (m.map fun x=>(x.1,0)) vs
theorem xX(m:List ((KC.str).K×V))(vs:List Nat)(j:Nat)(x:(KC.str).K×V)(h:m[j]? =co x):Aw m (j::vs)=Aw m vs++ [x.1]:=
 jE _ _ _ (x.1,0) (by rw[OC,h];rfl)
theorem Av(m:List ((KC.str).K×V))(vs:List Nat)(hn:vs.Nodup)(hb: ∀j∈vs,j<m.length)(b: ∀j,j<m.length->j∈vs):(Aw m vs).Perm (m.map (·.1)):=by
 have:=iX (m.map fun x=>(x.1,(0:Int))) vs hn (by simpa using hb) (by simpa using b);rw[PT]at this;exact this
theorem Au(m:List ((KC.str).K×V))(vs:List Nat):(Aw m vs).length<=vs.length:=sF _ _
end
def BI(i:Nat):List ak->PV
 | []=> .sl i 1 0 1
 |x::r=> .sl i 0 (x::r).length 1
def tL(n:Nat):List ak->AO
 | []=> .row 1 (Qp n [pS OB])
 |x::r=>aP 1 (x::r) cR
theorem uG(i:Nat)(l:List ak)(s:ak):BI i (l++ [s])= .sl i 0 (l.length+1) 1:=by cases l<;>simp[BI]
theorem uH(n:Nat)(l:List ak)(s:ak):tL n (l++ [s])=aP 1 (l++ [s]) cR:=by cases l<;>rfl
theorem xA{i:Nat}{l:List ak}(h:l≠ []):BI i l= .sl i 0 l.length 1:=by cases l with
 |nil=>exact absurd Z h
 |cons=>rfl
theorem xB{n:Nat}{l:List ak}(h:l≠ []):tL n l=aP 1 l cR:=by cases l with
 |nil=>exact absurd Z h
 |cons=>rfl
theorem DB(n:Nat)(l:List ak)(k:Nat):(tL n l).low k:=by
 cases l with
 |nil=>
  intro j e b;rw[List.getElem?_replicate]at b;split at b
  .cases b;rfl
  .cases b
 |cons x r=>exact dK k
theorem DA(n:Nat)(l:List ak)(σ:Nat->Nat):(tL n l).cq σ=tL n l:=by
 cases l with
 |nil=>simp only[tL,AO.cq];rw[List.map_replicate];rfl
 |cons x r=>exact b5 σ
theorem hO{h r:AH}{σ:Nat->Nat}{i n m:Nat}{o:AO}{l:List ak}(ho:h.get (σ i)=co o)(he:o=tL m l)(hi:OV i n=is)(hr:mA n σ h r):mA n σ h ((i,co (tL m l))::r):=
 ⟨⟨_,ho,.of_eq (by rw[DA,he])⟩,Oq hi,DB m l n,hr⟩
theorem oG(i:Nat)(l:List ak){n:Nat}(h:OV i n=is):(BI i l).low n=is:=by cases l<;>exact h
theorem Da(hS:fU)(m:NM)(hm:m.length<=100000000):Pure prog 66 [.iv (xH m)] (.iv (strs (de (m.map (·.1))))):=by
 refine ai ab func66 Z (by decide) ntmps66 Z (by simp) Z ?_;rcases Nat.eq_zero_or_pos m.length with h0|h0
 .have h0:=PW.1 h0;subst h0;refine gA Z (Eg ab 1 (fun k=>cR (([]:List ak).getD k ci)) Z Z Z Z Z Z Z Z Z Z ?_);refine gA Z ?_;refine eU ([]:List ((KC.str).K×Int)) (fun _=>⟨[(3,.iv (.ck 1 0 (fun k=>cR (([]:List ak).getD k ci)))),(9,.ptr 1 0)],[(1,co (.bF .str wH ([]:List ((KC.str).K×Int)) [] io))],2⟩) (fun _=>True) [] ac
   (zW (hI Z Z (.inl Z) Z trivial)) fun vs _=>?_
  refine fk Z ac (dm Z Z Z Z Z (by decide) (fun _=>?_) fun j x A _=>?_)
  .refine gA Z (aB (Ja hS _) Z Z Z Z Z Z ?_);refine gA Z (zL ?_);exact .of_eq (show _=PV.iv (strs (de [])) by rw[mE];rfl)
  .cases A
 refine gA Z (Eh ab m.length 0 Z Z Z Z Z Z Z Z Z h0 (by omega) (by show 16*m.length<=_;omega) Z (by decide) Z (.inl ⟨rfl,rfl⟩) Z ?_);refine gA Z ?_;refine eU m (fun vs=>⟨[(3,BI 2 (Aw m vs)),(9,.ptr 1 0)],[(1,co (.bF .str wH m vs io)),(2,co (tL m.length (Aw m vs)))],3⟩) (fun vs=>vs.Nodup∧ ∀j∈vs,j<m.length) [0] ⟨Pe,by simp⟩
  (zW (hI Z Z (.inl Z) Z (hO Z Z Z trivial))) fun vs Y=>?_
 obtain⟨u,y⟩:=Y;have J:=sk u y;have C:=Au m vs;refine fk Z ac (dm Z Z Z Z Z (by decide) (fun B=>?_) fun j x A G=>?_)
 .have I:=Av m vs u y B;have D:Aw m vs≠ []:=fun e=>by
   have:=I.length_eq;rw[e,O3]at this;simp at this;omega
  rw[xA D,xB D];refine fk Z ac (bJ [2] (EY hS (Aw m vs) (by omega)) Z Z Z Z Z (congrArg (fun o=> [co o]) (b5 _).symm) Z Z ?_);refine fk Z ac (dq (.inr Z) Z Z ((rX _ _).trans (by rw[nK I])) ?_);rw[iN,<-I.length_eq]
 .have hk:=xX m vs j x A;have a0: ∀b,b=j::vs->b.Nodup∧ ∀i∈b,i<m.length:=fun b e=>e▸⟨O7.2 ⟨G,u⟩,fun i hi=>(OG.1 hi).elim (fun h=>h▸(Ov.1 A).1) (y i)⟩
  cases hl:Aw m vs with
  |nil=>
   rw[hl,P9]at hk;refine gA Z (wh ab Z Z Z Z Z Z Z Z Z (by simp;omega) (by simp) (jo Z) Z ?_);refine gA Z ?_;exact⟨j,x,A,G,a0 _ Z,[4],zM ⟨.of_eq (by rw[hk];rfl),oG 2 _ Z,.refl _,rfl,ac⟩ (hI Z Z (.inr Z) Z (hO Z (by rw[hk];rfl) Z ac))⟩
  |cons a r=>
   rw[hl]at hk C;have R:(r.length+1)<=m.length:=by simpa using Pm C J
   refine gA Z ⟨j,x,A,G,a0 _ Z,[4],zM ⟨.of_eq (by rw[hk,uG];rfl),oG 2 _ Z,.refl _,rfl,ac⟩ (hI Z Z (.inr Z) Z (hO Z (by rw[hk,uH,aP,OM];rfl) Z ac))⟩
theorem Db(hS:fU)(m:GM)(hm:m.length<=100000000):Pure prog 67 [.iv (uZ m)] (.iv (strs (de (m.map (·.1))))):=by
 refine ai ab func67 Z (by decide) ntmps67 Z (by simp) Z ?_;rcases Nat.eq_zero_or_pos m.length with h0|h0
 .have h0:=PW.1 h0;subst h0;refine gA Z (Eg ab 1 (fun k=>cR (([]:List ak).getD k ci)) Z Z Z Z Z Z Z Z Z Z ?_);refine gA Z ?_;refine eU ([]:List ((KC.str).K×Option NM)) (fun _=>⟨[(3,.iv (.ck 1 0 (fun k=>cR (([]:List ak).getD k ci)))),(9,.ptr 1 0)],[(1,co (.bF .str BJ ([]:List ((KC.str).K×Option NM)) [] io))],2⟩) (fun _=>True) [] ac
   (zW (hI Z Z (.inl Z) Z trivial)) fun vs _=>?_
  refine fk Z ac (dm Z Z Z Z Z (by decide) (fun _=>?_) fun j x A _=>?_)
  .refine gA Z (aB (Ja hS _) Z Z Z Z Z Z ?_);refine gA Z (zL ?_);exact .of_eq (show _=PV.iv (strs (de [])) by rw[mE];rfl)
  .cases A
 refine gA Z (Eh ab m.length 0 Z Z Z Z Z Z Z Z Z h0 (by omega) (by show 16*m.length<=_;omega) Z (by decide) Z (.inl ⟨rfl,rfl⟩) Z ?_);refine gA Z ?_;refine eU m (fun vs=>⟨[(3,BI 2 (Aw m vs)),(9,.ptr 1 0)],[(1,co (.bF .str BJ m vs io)),(2,co (tL m.length (Aw m vs)))],3⟩) (fun vs=>vs.Nodup∧ ∀j∈vs,j<m.length) [0] ⟨Pe,by simp⟩
  (zW (hI Z Z (.inl Z) Z (hO Z Z Z trivial))) fun vs Y=>?_
 obtain⟨u,y⟩:=Y;have J:=sk u y;have C:=Au m vs;refine fk Z ac (dm Z Z Z Z Z (by decide) (fun B=>?_) fun j x A G=>?_)
 .have I:=Av m vs u y B;have D:Aw m vs≠ []:=fun e=>by
   have:=I.length_eq;rw[e,O3]at this;simp at this;omega
  rw[xA D,xB D];refine fk Z ac (bJ [2] (EY hS (Aw m vs) (by omega)) Z Z Z Z Z (congrArg (fun o=> [co o]) (b5 _).symm) Z Z ?_);refine fk Z ac (dq (.inr Z) Z Z ((rX _ _).trans (by rw[nK I])) ?_);rw[iN,<-I.length_eq]
 .have hk:=xX m vs j x A;have a0: ∀b,b=j::vs->b.Nodup∧ ∀i∈b,i<m.length:=fun b e=>e▸⟨O7.2 ⟨G,u⟩,fun i hi=>(OG.1 hi).elim (fun h=>h▸(Ov.1 A).1) (y i)⟩
  cases hl:Aw m vs with
  |nil=>
   rw[hl,P9]at hk;refine gA Z (wh ab Z Z Z Z Z Z Z Z Z (by simp;omega) (by simp) (jo Z) Z ?_);refine gA Z ?_;exact⟨j,x,A,G,a0 _ Z,[4],zM ⟨.of_eq (by rw[hk];rfl),oG 2 _ Z,.refl _,rfl,ac⟩ (hI Z Z (.inr Z) Z (hO Z (by rw[hk];rfl) Z ac))⟩
  |cons a r=>
   rw[hl]at hk C;have R:(r.length+1)<=m.length:=by simpa using Pm C J
   refine gA Z ⟨j,x,A,G,a0 _ Z,[4],zM ⟨.of_eq (by rw[hk,uG];rfl),oG 2 _ Z,.refl _,rfl,ac⟩ (hI Z Z (.inr Z) Z (hO Z (by rw[hk,uH,aP,OM];rfl) Z ac))⟩
end
end Go.Proofs.YtllkaddcplhklaaGreatDoor
namespace Go.Proofs.YtllkaddcplhklaaGreatDoor
open Go Go.Al
def NC(b:Option Nat):IV:= .v (.map b)
def dvR(p:PV):Option Nat:=match p with
 | .iv (.v (.map b))=>b
 |_=>io
abbrev RM:=List ((KC.str).K×Option Nat)
abbrev gO(m:RM):AO:= .map .str NC io (.map io) dvR m
abbrev wI:=Nat×Nat
def iU(l:List Decl)(B:List wI):RM:=Ry (fun d b=>(d.name,co b.1)) l B
def dx(L:List (Nat×Nat×NM)):bg:=fun b=>(L.find? fun y=>y.1==b).map fun y=> .obj (cC y.2.2) y.2.1
theorem fW(L:List (Nat×Nat×NM)):(dx L).still:=by
 intro b i e h;unfold dx at h;cases hf:L.find? fun y=>y.1==b<;>rw[hf]at h<;>cases h
def rowsOf(l:List Decl)(B:List wI)(hs:List (ak×ak×Nat)):List (Nat×Nat×NM):=Ry (fun d b=>(b.1,b.2,iF hs d.name)) l B
theorem BS{V:Type}{kc:KC}{ev:V->IV}{z:V}{b:Value}{u:PV->V}(y: ∀M,IR M (ev z) b):dR .fg (.map kc ev z b u []):=
 ⟨id,fun M N U w j x=>⟨#[],0,x,⟨rfl,by simp,by simp,by simp,by simp⟩,y M⟩⟩
structure BOK (l:List Decl) (i:Nat) (B:List wI):Prop where
 len:B.length=i
 nd:(B.map Pq).Nodup
theorem xm(l:List Decl):iU l []=[]:=by cases l<;>rfl
theorem rY(l:List Decl)(hs:List (ak×ak×Nat)):rowsOf l [] hs=[]:=by cases l<;>rfl
theorem yx(l:List Decl)(hs:List (ak×ak×Nat)):dx (rowsOf l [] hs)=bg.nil:=by rw[rY];rfl
theorem rC{α β γ:Type}[Inhabited α](f:α->β->γ): ∀(l:List α) (B:List β) (x:β),B.length<l.length->Ry f l (B++ [x])=Ry f l B++ [f (l.getD B.length ci) x]
 |a::l,[],x,_=>by simp
 |a::l,b::B,x,h=>by
  have:=rC f l B x (by simpa using h);simp[this]
 | [],B,x,h=>absurd h (Qv _)
theorem G8{B:List wI}{b e:Nat}(h:(B.map Pq).Nodup)(hb:b∉B.map Pq):((B++ [(b,e)]).map Pq).Nodup:=by
 rw[OM,PU];exact⟨h,by simp,fun u hu v j g=>hb (by simp at j;subst g;subst j;exact hu)⟩
theorem lM(hs:List (ak×ak×Nat)): ∀(l:List Decl) (B:List wI),B.length<=l.length->(rowsOf l B hs).map Pq=B.map Pq
 |_,[],_=>by simp[rY]
 |d::l,b::B,h=>by
  have:=lM hs l B (by simpa using h);simp only[rowsOf,Rz,OU]at this ⊢;rw[this]
 | [],b::B,h=>absurd h (by simp)
theorem Bp{l:List Decl}{B:List wI}{hs:List (ak×ak×Nat)}{b:Nat}(hl:B.length<=l.length)(h:dx (rowsOf l B hs) b=io):b∉B.map Pq:=by
 rw[<-lM hs l B hl];intro j;obtain⟨y,u,rfl⟩:=OZ.1 j;unfold dx at h;rw[QK,Qq]at h;exact h y u (by simp)
theorem w8(L:List (Nat×Nat×NM))(y:Nat×Nat×NM)(h:y.1∉L.map Pq):dx (L++ [y])=(dx L).put y.1 (.obj (cC y.2.2) y.2.1):=by
 funext c
 unfold dx bg.put;rw[List.find?_append];by_cases b:c=y.1
 .subst b;rw[am Z];have:L.find? (fun z=>z.1==y.1)=io:=Qq.2 fun z j=>by
   simp only[beq_iff_eq];exact fun e=>h (e▸Rm j)
  rw[this];simp
 .rw[be b];have: ¬y.1=c:=fun e=>b e.symm;cases hf:L.find? (fun z=>z.1==c)<;>simp[this,hf]
theorem Bn{l:List Decl}{B:List wI}{b e:Nat}(hl:B.length<l.length)(hb:b∉B.map Pq):dx (rowsOf l (B++ [(b,e)]) [])=(dx (rowsOf l B [])).put b (.obj (cC []) e):=by
 have h:rowsOf l (B++ [(b,e)]) []=rowsOf l B []++ [(b,e,[])]:=rC _ l B (b,e) hl;rw[h];exact w8 _ _ (by rw[lM _ _ _ (Nat.le_of_lt hl)];exact hb)
theorem xl: ∀(l:List Decl) (B:List wI),B.length<=l.length->(iU l B).map Pq=(l.take B.length).map Decl.name
 |_,[],_=>by simp[xm]
 |d::l,b::B,h=>by
  have:=xl l B (by simpa using h);simp only[iU,Rz,OU,O6,PR]at this ⊢;rw[this]
 | [],b::B,h=>absurd h (by simp)
theorem GV{V:Type}{m:List ((KC.str).K×V)}{s:ak}{v:V}(h:s∉m.map Pq):ct .str m s v=m++ [(s,v)]:=by
 induction m with
 |nil=>rfl
 |cons x r ih=>
  obtain⟨a,c⟩:=x;simp only[OU,OG,not_or]at h;have: ¬a=s:=fun e=>h.1 e.symm;simp only[ct,be this,ih h.2];rfl
theorem Dv{l:List Decl}{B:List wI}{i b e:Nat}(hn:(l.map Decl.name).Nodup)(hi:B.length=i)(hl:i<l.length):ct .str (iU l B) (l.getD i ci).name (co b)=iU l (B++ [(b,e)]):=by
 subst hi;have h:iU l (B++ [(b,e)])=iU l B++ [((l.getD B.length ci).name,co b)]:=rC _ l B (b,e) hl;rw[h];apply GV;rw[xl l B (Nat.le_of_lt hl)];intro u;have j:l.map Decl.name=(l.take B.length).map Decl.name++(l.drop B.length).map Decl.name:=by rw[<-OM,List.take_append_drop]
 rw[j,PU]at hn;refine hn.2.2 _ u _ (OZ.2 ⟨l.getD B.length ci,?_,rfl⟩) Z;rw[Ow,Ox hl];exact List.mem_drop_iff_getElem.2 ⟨0,by simpa using hl,by simp⟩
def oT(r:ax)(l:Lit):List (ak×ak×Nat):=(named l).map fun t=>(r.head.rel,t,kX l)
def AD(r:ax):List (ak×ak×Nat):=r.body.flatMap (oT r)
theorem AR: ∀{L:List (Nat×Nat×NM)} {j:Nat} {y:Nat×Nat×NM},(L.map Pq).Nodup->L[j]? =co y->L.find? (fun z=>z.1==y.1)=co y
 | [],_,_,_,h=>by simp at h
 |x::L,0,y,_,h=>by
  simp only[List.getElem?_cons_zero,Ou]at h;subst h;simp
 |x::L,j+1,y,hn,h=>by
  rw[Q4]at h;rw[OU,O7]at hn;have b: ¬x.1=y.1:=fun e=>hn.1 (e▸Rm (O9 h));rw[List.find?_cons_of_neg (by simpa using b)];exact AR hn.2 h
theorem oA{l:List Decl}{B:List wI}{hs:List (ak×ak×Nat)}{j:Nat}{d:Decl}{b:wI}(hl:B.length=l.length)(hn:(B.map Pq).Nodup)(hd:l[j]? =co d)(hb:B[j]? =co b):dx (rowsOf l B hs) b.1=co (.obj (cC (iF hs d.name)) b.2):=by
 have h:(rowsOf l B hs)[j]? =co (b.1,b.2,iF hs d.name):=by
  unfold rowsOf;rw[RF,hd,hb]
 have u:=AR (by rw[lM hs l B (RU hl)];exact hn) h;unfold dx;rw[u];rfl
theorem w7{l:List Decl}{B:List wI}{hs:List (ak×ak×Nat)}{c:Nat}(hl:B.length<=l.length)(h:c∉B.map Pq):dx (rowsOf l B hs) c=io:=by
 rw[<-lM hs l B hl]at h;unfold dx;rw[QK,Qq];intro y b;simp only[beq_iff_eq];exact fun e=>h (e▸Rm b)
theorem Bm{l:List Decl}{B:List wI}{hs:List (ak×ak×Nat)}{j h:Nat}{d:Decl}{b:wI}{t:ak}(hl:B.length=l.length)(hn:(B.map Pq).Nodup)(J:(l.map Decl.name).Nodup)(hd:l[j]? =co d)(hb:B[j]? =co b):
  (dx (rowsOf l B hs)).put b.1 (.obj (cC (Cp (iF hs d.name) t h)) b.2)=dx (rowsOf l B (hs++ [(d.name,t,h)])):=by
 funext c
 unfold bg.put;by_cases y:c=b.1
 .subst y;rw[am Z,oA hl hn hd hb,mG,am Z]
 .rw[be y];by_cases I:c∈B.map Pq
  .obtain⟨Y,x,rfl⟩:=OZ.1 I;obtain⟨i,A,rfl⟩:=Qh.1 x;have u:i<l.length:=by omega
   have C:i≠j:=fun e=>y (by subst e;rw[Ox A]at hb;cases hb;rfl);rw[oA hl hn (Ox u) (Ox A),oA hl hn (Ox u) (Ox A),mG,be];intro e;have R:=(Ov.1 hd)
   obtain⟨D,G⟩:=R;apply C;refine(List.getElem_inj J (h₀:=by simpa using u) (h₁:=by simpa using D)).1 ?_;rw[PQ,PQ,G];exact e.symm
  .rw[w7 (RU hl) I,w7 (RU hl) I]
theorem KL{l:List Decl}{B:List wI}{a:ak}(hl:B.length=l.length)(u:(l.map Decl.name).Nodup)(ha:a∈l.map Decl.name): ∃(j:Nat) (d:Decl) (b:wI),l[j]? =co d∧B[j]? =co b∧d.name=a∧dt .str (iU l B) a io=co b.1:=by
 induction l generalizing B with
 |nil=>cases ha
 |cons d l ih=>
  cases B with
  |nil=>cases hl
  |cons b B=>
   by_cases h:d.name=a
   .exact⟨0,d,b,rfl,rfl,h,by simp[iU,dt,h]⟩
   .rw[OU,O7]at u;rw[OU,OG]at ha;obtain⟨j,y,x,h1,A,C,D⟩:=ih (by simpa using hl) u.2 (ha.resolve_left fun e=>h e.symm);exact⟨j+1,y,x,h1,A,C,by simpa[iU,dt,h]using D⟩
def dvG(_:PV):Option NM:=io
theorem CF{p:Prog}{B:List wI}(hl:B.length=p.aQ.length)(hn:(B.map Pq).Nodup){hs:List (ak×ak×Nat)}:Jy (dx (rowsOf p.aQ B hs)) (gO (iU p.aQ B)) (.map .str BJ io (.map io) dvG (bX p hs)):=by
 refine .map _ _ _ _ _ _ _ _ _ _ (by simp[bX,iU,hl]) (fun j y u=>?_) fun M=> .v _
 obtain⟨d,hd,rfl⟩: ∃d,p.aQ[j]? =co d∧y=(d.name,co (iF hs d.name)):=by
  unfold bX at u;rw[OC,OD]at u;obtain⟨d,h1,x⟩:=u;exact⟨d,h1,x.symm⟩
 have b:j<B.length:=by rw[hl];exact(Ov.1 hd).1
 refine⟨(d.name,co B[j].1),.map (co B[j].1),?_,rfl,rfl,?_⟩
 .unfold iU;rw[RF,hd,Ox b]
 .refine .map B[j].1 B[j].2 .str wH 0 (.int .i64 0) NN (iF hs d.name) ?_;exact oA hl hn hd (Ox b)
theorem Jd(hS:fU)(p:Prog)(hb:p.fit):Pure Tryz.prog 38 [ag p.c] (.bf [.iv (sL p),pB (kw ((dP p).1=0))]):=by
 refine ai ab Tryz.func38 Z (by decide) Tryz.ntmps38 Z (by simp) Z ?_;refine gA Z (zp (c24 p hb) ?_);refine zJ Z Z (fun I=>?_) fun I=>?_
 .have I: ¬(dP p).1=0:=by simpa using I
  rw[sL,be I,decide_eq_false I];exact zU Z
 have I:(dP p).1=0:=by simpa using I
 have hf:=AP I;have w0:=hf.len;rw[sL,am I,decide_eq_true I];refine gM 1 Z ?_;refine MS ?_;refine cP (jb ?_);refine gA Z ?_;refine cP (cP (sK ⟨[(1,.ptr 0 0),(4,.mp 2),(20,.iv (bw 4 p.aQ Decl.c)),(21,pI p.aQ.length),(22,pI 0)],[(0,co (ay p.c)),(2,co (gO []))],3⟩ ?_ ?_))
 .refine gA Z (uX [1] ?_);exact zW (zK (K1 Z (fun _=> .v _) Z ac))
 refine hZ (wc 0 p.aQ.length (OL _) (fun i (x:ULift.{1} (List wI))=>⟨[(1,.ptr 0 0),(4,.mp 2),(20,.iv (bw 4 p.aQ Decl.c)),(21,pI p.aQ.length),(22,pI i)],[(0,co (ay p.c)),(2,co (gO (iU p.aQ x.down)))],3⟩)
  (fun i x Y=>BOK p.aQ i x.down∧Y=dx (rowsOf p.aQ x.down [])) ⟨[]⟩ [] ⟨⟨rfl,Pe⟩,(yx p.aQ []).symm⟩
  (zW (zK (hM Z (xm p.aQ).symm Z ac))) (fun _ _ _ h=>h.2▸fW _) fun i x Y hi hJ=>?_)
 obtain⟨hB,rfl⟩:=hJ;obtain⟨B⟩:=x;refine cP (jb ?_);refine gA Z ?_;refine cP (rq Z (fun h1=>rk ?_) (fun h1=>rn ?_))
 .have h1:i<p.aQ.length:=by simpa using h1
  refine cP (hZ (cP (jb ?_)));refine gA Z ?_;refine uW (rm 4 ?_);refine gA Z ?_;refine wb (Km (i:=4) (o':=cC []) Z (BS eY)) fun t Y C=>?_;obtain⟨rfl,rfl⟩:=C;refine wb (Bf (i:=4) (d:=29) (fW _) Z Z ac Z) fun t Y C=>?_;obtain⟨b,e,p0,rfl,rfl⟩:=C;refine rm 1 ?_;refine gA Z ?_;refine sJ (Ec (jb ?_));refine gA Z ?_;have a0:=Bp (by rw[hB.len];exact hi) p0;exact⟨h1,⟨B++ [(b,e)]⟩,[],⟨⟨by rw[Oy,hB.len];rfl,G8 hB.nd a0⟩,(Bn (by rw[hB.len];exact h1) a0).symm⟩,zW (zK (hM Z (Dv hf.nodup hB.len h1) Z ac))⟩
 have h1:p.aQ.length<=i:=by simpa using h1
 have J:B.length=p.aQ.length:=by have:B.length=i:=hB.len;omega
 have d0:=hB.nd;clear hB;have z0:p.rules.length<=1000000000:=hb.2.1
 let G:Nat->List (ak×ak×Nat):=fun r=>(p.rules.take r).flatMap AD
 change GX _ _ [.code _] _ _ _;refine cP (cP (sK ⟨[(1,.ptr 0 0),(4,.mp 2),(32,.iv (bw 5 p.rules ax.c)),(33,pI p.rules.length),(34,pI 0)],[(0,co (ay p.c)),(2,co (gO (iU p.aQ B)))],3⟩ ?_ ?_))
 .refine gA Z (uX [] ?_);exact zW (zK (zC ac))
 refine hZ (wc 0 p.rules.length (OL _) (fun i (_:PUnit.{2})=>⟨[(1,.ptr 0 0),(4,.mp 2),(32,.iv (bw 5 p.rules ax.c)),(33,pI p.rules.length),(34,pI i)],[(0,co (ay p.c)),(2,co (gO (iU p.aQ B)))],3⟩)
  (fun i _ Y=>Y=dx (rowsOf p.aQ B (G i))) ⟨⟩ [] Z (zW (zK (zC ac))) (fun _ _ _ h=>h▸fW _) fun n _ Y hn hJ=>?_)
 subst hJ;refine cP (jb ?_);refine gA Z ?_;refine cP (rq Z (fun h1=>rk ?_) (fun h1=>rn ?_));rotate_left
 .have h1:p.rules.length<=n:=by simpa using h1
  have m0:G n=cG p:=by show((p.rules.take n).flatMap AD)=_;rw[OP h1];rfl
  rw[m0];change GX _ _ [.code _] _ _ _;refine Jm (Kn (i:=2) (o':= .map .str BJ io (.map io) dvG (bX p (cG p))) Z (CF J d0)) fun t Y C=>?_;obtain⟨rfl,rfl⟩:=C;refine jb ?_;refine gA Z (lg (.inr Z) Z (iB.map 2 Z (.done (.refl _))))
 have h1:n<p.rules.length:=by simpa using h1
 have hR:p.rules.getD n ci∈p.rules:=ku h1;have g0:G (n+1)=G n++AD (p.rules.getD n ci):=by show((p.rules.take (n+1)).flatMap AD)=_;rw[ch h1,QZ];simp;rfl
 have b0:=hb.2.2 _ hR;have A:=b0.1;have u:=hf.AA _ hR;have y:=hf.lits _ hR;generalize n0:p.rules.getD n ci=R at hR g0 b0 A u y;refine cP (hZ (cP (jb ?_)));refine gA Z ?_;refine cP (sK ⟨[(1,.ptr 0 0),(4,.mp 2),(8,.ptr 3 0),(32,.iv (bw 5 p.rules ax.c)),(33,pI p.rules.length),(34,pI n),(39,.iv (lits R.body)),(40,pI R.body.length),(41,pI 0)],[(0,co (ay p.c)),(2,co (gO (iU p.aQ B))),(3,co (ay R.c))],4⟩ ?_ ?_)
 .refine gA Z (uX [] ?_);subst n0;exact zW (zK (zC (zK ac)))
 have t0:R.body.length<=10000000:=by have:=Lit.aF R.body;unfold ax.size at A;omega
 refine hZ (wc 0 R.body.length (OL _) (fun i (_:PUnit.{2})=>⟨[(1,.ptr 0 0),(4,.mp 2),(8,.ptr 3 0),(32,.iv (bw 5 p.rules ax.c)),(33,pI p.rules.length),(34,pI n),(39,.iv (lits R.body)),(40,pI R.body.length),(41,pI i)],[(0,co (ay p.c)),(2,co (gO (iU p.aQ B))),(3,co (ay R.c))],4⟩)
  (fun i _ Y=>Y=dx (rowsOf p.aQ B (G n++(R.body.take i).flatMap (oT R)))) ⟨⟩ [] (by simp) (zW (zK (zC (zK ac)))) (fun _ _ _ h=>h▸fW _) fun i _ Y v0 hJ=>?_)
 subst hJ;refine cP (jb ?_);refine gA Z ?_;refine cP (rq Z (fun D=>rk ?_) (fun D=>rn ?_));rotate_left
 .have D:R.body.length<=i:=by simpa using D
  rw[OP D,show G n++R.body.flatMap (oT R)=G (n+1) from g0.symm];change GX _ _ (.code _::_) _ _ _;refine jb ?_;refine gA Z ⟨h1,⟨⟩,[],rfl,zW (zK (zC ac))⟩
 have D:i<R.body.length:=by simpa using D
 have hl:R.body.getD i ci∈R.body:=ku D;have i0:(R.body.take (i+1)).flatMap (oT R)=(R.body.take i).flatMap (oT R)++oT R (R.body.getD i ci):=by rw[ch D,QZ];simp
 have f0:(R.body.getD i ci).size<=10000000:=by have:=Lit.bR R.body i D;unfold ax.size at A;omega
 have e0:=y _ hl;generalize r0:R.body.getD i ci=l at hl i0 f0 e0;refine cP (hZ (cP (jb ?_)));refine gA Z ?_;refine cP (sK ⟨[(1,.ptr 0 0),(4,.mp 2),(8,.ptr 3 0),(10,.ptr 4 0),(32,.iv (bw 5 p.rules ax.c)),(33,pI p.rules.length),(34,pI n),(39,.iv (lits R.body)),(40,pI R.body.length),(41,pI i),(46,.iv (strs (named l))),(47,pI (named l).length),(48,pI 0)],[(0,co (ay p.c)),(2,co (gO (iU p.aQ B))),(3,co (ay R.c)),(4,co (ay l.c))],5⟩ ?_ ?_)
 .subst r0;refine gA Z (zp (zZ (R.body.getD i ci) (by omega)) ?_);refine gA Z (uX [] ?_);exact zW (zK (zC (zK (zK ac))))
 have x0:=ke l
 refine hZ (wc 0 (named l).length (OL _) (fun k (_:PUnit.{2})=>⟨[(1,.ptr 0 0),(4,.mp 2),(8,.ptr 3 0),(10,.ptr 4 0),(32,.iv (bw 5 p.rules ax.c)),(33,pI p.rules.length),(34,pI n),(39,.iv (lits R.body)),(40,pI R.body.length),(41,pI i),(46,.iv (strs (named l))),(47,pI (named l).length),(48,pI k)],[(0,co (ay p.c)),(2,co (gO (iU p.aQ B))),(3,co (ay R.c)),(4,co (ay l.c))],5⟩)
  (fun k _ Y=>Y=dx (rowsOf p.aQ B ((G n++(R.body.take i).flatMap (oT R))++((named l).take k).map fun t=>(R.head.rel,t,kX l)))) ⟨⟩ [] (by simp) (zW (zK (zC (zK (zK ac))))) (fun _ _ _ h=>h▸fW _) fun k _ Y hk hJ=>?_)
 subst hJ;refine cP (jb ?_);refine gA Z ?_;refine cP (rq Z (fun h3=>rk ?_) (fun h3=>rn ?_));rotate_left
 .have h3:(named l).length<=k:=by simpa using h3
  have eX:(G n++(R.body.take i).flatMap (oT R))++(named l).map (fun t=>(R.head.rel,t,kX l))=G n++(R.body.take (i+1)).flatMap (oT R):=by rw[OS,i0];rfl
  rw[OP h3,eX];change GX _ _ (.code _::_) _ _ _;refine jb ?_;refine gA Z ⟨D,⟨⟩,[],rfl,zW (zK (zC (zK ac)))⟩
 have h3:k<(named l).length:=by simpa using h3
 obtain⟨j,d,b,hd,j0,q0,k0⟩:=KL J hf.nodup u;have hX:=oA (hs:=(G n++(R.body.take i).flatMap (oT R))++((named l).take k).map fun t=>(R.head.rel,t,kX l)) J d0 hd j0;have c0:=Bm (hs:=(G n++(R.body.take i).flatMap (oT R))++((named l).take k).map fun t=>(R.head.rel,t,kX l)) (t:=(named l).getD k ci) (h:=kX l) J d0 hf.nodup hd j0;rw[q0]at hX c0;have s0:((G n++(R.body.take i).flatMap (oT R))++((named l).take k).map fun t=>(R.head.rel,t,kX l))++ [(R.head.rel,(named l).getD k ci,kX l)]=(G n++(R.body.take i).flatMap (oT R))++((named l).take (k+1)).map fun t=>(R.head.rel,t,kX l):=by
  rw[ch h3,OM,OS];rfl
 rw[s0]at c0;generalize(G n++(R.body.take i).flatMap (oT R))++((named l).take k).map (fun t=>(R.head.rel,t,kX l))=hs at hX c0;refine cP (hZ (cP (jb ?_)));refine gA Z ?_;refine cP (jb ?_);refine gA Z ?_;refine cP (sK ⟨[(1,.ptr 0 0),(4,.mp 2),(8,.ptr 3 0),(10,.ptr 4 0),(32,.iv (bw 5 p.rules ax.c)),(33,pI p.rules.length),(34,pI n),(39,.iv (lits R.body)),(40,pI R.body.length),(41,pI i),(46,.iv (strs (named l))),(47,pI (named l).length),(48,pI k),(12,pS ((named l).getD k ci)),(13,pI (kX l))],[(0,co (ay p.c)),(2,co (gO (iU p.aQ B))),(3,co (ay R.c)),(4,co (ay l.c))],5⟩ ?_ ?_)
 .refine zJ Z Z (fun h4=>?_) fun h4=>?_
  .have h4:l.kind=1:=zT h4;refine gA Z (uX [] ?_);exact zM (bi (bi (bi (bi (bi (bi (bi (bi (bi (bi (bi (bi (bi (bi ⟨.of_eq (by rw[kX,am h4];rfl),rfl,ac⟩)))))))))))))) (zK (zC (zK (zK ac))))
  .have h4: ¬l.kind=1:=zF h4;refine gA Z (uX [] ?_);exact zM (bi (bi (bi (bi (bi (bi (bi (bi (bi (bi (bi (bi (bi (bi ⟨.of_eq (by rw[kX,be h4];rfl),rfl,ac⟩)))))))))))))) (zK (zC (zK (zK ac))))
 refine uW (rm 12 ?_);refine gA Z ?_;refine wb (Be (d:=65) hX (show PV.iv (.v (.map (dt .str (iU p.aQ B) R.head.rel io)))=_ by rw[k0])) fun t Y C=>?_;obtain⟨rfl,rfl⟩:=C;refine wb (CV (b:=b.1) (j:=5) (e:=b.2) (d:=59) (p:= .mp 5) (bg.eN _ _ _) fun M N U x hu o0 _ hv=>?_) fun t Y C=>?_
 .have hv:VR M N U (PV.iv (.v (.map (dt .str (iU p.aQ B) R.head.rel io)))) x:=hv;rw[k0]at hv;cases hv with
  |iv _ _ hi=>cases hi with
   |v=>rw[<-o0];exact .mp 5 hu
 obtain⟨rfl,rfl⟩:=C;refine rm 4 ?_;refine gA Z ?_;refine sJ (Ec (Jm (Mk (b:=b.1) (e:=b.2) (i:=5) (o:=cC (Cp (iF hs R.head.rel) ((named l).getD k ci) (kX l))) (bg.eN _ _ _) Z Z ac) fun t Y C=>?_));obtain⟨rfl,rfl⟩:=C;rw[bg.GU];refine jb ?_;refine gA Z ⟨h3,⟨⟩,[],c0,zW (zK (zC (zK (zK ac))))⟩
end Go.Proofs.YtllkaddcplhklaaGreatDoor
namespace Go.Proofs.YtllkaddcplhklaaGreatDoor
open Go Go.Al Go.Proofs.Tryz Go.Tj
def nG(e:Option ak)(i:Nat)(l:List ak):PV:=match e,l with
 |some _,[]=> .sl i 1 0 1
 |_,l=> .sl i 0 l.length 1
def nI(e:Option ak)(l:List ak):AO:=match e,l with
 |some y,[]=> .row 1 [[pS y]]
 |_,l=>aP 1 l cR
theorem jY(σ:Nat->Nat)(e:Option ak)(i:Nat)(l:List ak):(nG e i l).cq σ=nG e (σ i) l:=by cases e<;>cases l<;>rfl
theorem jZ(σ:Nat->Nat)(e:Option ak)(l:List ak):(nI e l).cq σ=nI e l:=by
 cases e<;>cases l<;>first|rfl|exact b5 σ
theorem wV{n i:Nat}(h:OV i n=is)(e:Option ak)(l:List ak):(nG e i l).low n=is:=by cases e<;>cases l<;>exact h
theorem wY(n:Nat)(e:Option ak)(l:List ak):(nI e l).low n:=by
 cases e with
 |none=>exact dK n
 |some y=>
  cases l with
  |nil=>
   intro k e b;cases k with
   |zero=>cases b;rfl
   |succ k=>cases b
  |cons=>exact dK n
theorem wU{e:Option ak}{i:Nat}{l:List ak}(h:e=io∨l≠ []):nG e i l= .sl i 0 l.length 1:=by
 cases e with
 |none=>rfl
 |some y=>cases l with
  |nil=>exact absurd Z (h.resolve_left (by simp))
  |cons=>rfl
theorem wW{e:Option ak}{l:List ak}(h:e=io∨l≠ []):nI e l=aP 1 l cR:=by
 cases e with
 |none=>rfl
 |some y=>cases l with
  |nil=>exact absurd Z (h.resolve_left (by simp))
  |cons=>rfl
structure TW where
 low:NM
 on:NM
 ring:NM
 stack:List ak
 qW:Option ak
def TW.st(w:TW):St ak:=⟨fun a=>dt .str w.low a 0,fun a=>dt .str w.on a 0,fun a=>dt .str w.ring a 0,w.low.length,w.stack⟩
structure TW.Ok (V:List ak) (w:TW):Prop where
 nz: ∀a∈w.low.map Pq,dt .str w.low a 0≠0
 nd:(w.low.map Pq).Nodup
 sub: ∀a∈w.low.map Pq,a∈V
abbrev wM:PV:= .b4 (.func 65) [] [.ptr 0 0,.ptr 1 0,.ptr 2 0,.ptr 3 0,.ptr 4 0,.ptr 5 0]
abbrev tO(G:IV)(w:TW):List AO:=[.cells [.mp 6],.cells [.mp 7],.cells [nG w.qW 9 w.stack],.cells [.iv G],.cells [wM],.cells [.mp 8],cC w.low,cC w.on,cC w.ring,nI w.qW w.stack]
abbrev tH(G:IV)(w:TW)(k:Nat):AH:=[(0,co (.cells [.mp 6])),(1,co (.cells [.mp 7])),(2,co (.cells [nG w.qW k w.stack])),(3,co (.cells [.iv G])),(4,co (.cells [wM])),(5,co (.cells [.mp 8])),
 (6,co (cC w.low)),(7,co (cC w.on)),(8,co (cC w.ring)),(k,co (nI w.qW w.stack))]
theorem rG{n k:Nat}{σ:Nat->Nat}{h:AH}{G:IV}{w:TW}{C:PV}{y A B:NM}{o:AO}(b:Qr 9 n=is)(bk:OV k n=is)(hs: ∀i,i<9->σ i=i)
  (g0:h.get 0=co (.cells [.mp 6])) (g1:h.get 1=co (.cells [.mp 7])) (g2:h.get 2=co (.cells [C])) (g3:h.get 3=co (.cells [.iv G])) (g4:h.get 4=co (.cells [wM])) (g5:h.get 5=co (.cells [.mp 8]))
  (g6:h.get 6=co (cC y)) (g7:h.get 7=co (cC A)) (g8:h.get 8=co (cC B)) (g9:h.get (σ k)=co o)
  (D:C=nG w.qW (σ k) w.stack) (I:y=w.low) (J:A=w.on) (R:B=w.ring) (Y:dR o (nI w.qW w.stack)):mA n σ h (tH G w k):=by
 have b9:=Oq b;have bk:=Oq bk;have hb: ∀i,i<9->OV i n=is:=fun i j=>Pp (by omega);subst D I J R;have r: ∀i,i<9->PV.mp (σ i)=PV.mp i:=fun i j=>by rw[hs i j]
 have u: ∀i,i<9->PV.ptr (σ i) 0=PV.ptr i 0:=fun i j=>by rw[hs i j]
 have x: ∀i,i<9->bd n [PV.mp i]=is:=fun i j=>by simp only[bd,PV.low,hb i j]
 refine⟨⟨_,by rw[hs 0 (by omega)];exact g0,.of_eq (by simp only[AO.cq,dy,PV.cq,r 6 (by omega)])⟩,by omega,x 6 (by omega),
  ⟨_,by rw[hs 1 (by omega)];exact g1,.of_eq (by simp only[AO.cq,dy,PV.cq,r 7 (by omega)])⟩,by omega,x 7 (by omega),
  ⟨_,by rw[hs 2 (by omega)];exact g2,.of_eq (by simp only[AO.cq,dy,jY])⟩,by omega,by simp only[AO.low,bd,wV (Pp bk)],
  ⟨_,by rw[hs 3 (by omega)];exact g3,.of_eq Z⟩,by omega,rfl,
  ⟨_,by rw[hs 4 (by omega)];exact g4,.of_eq (by simp only[AO.cq,dy,PV.cq,u 0 (by omega),u 1 (by omega),u 2 (by omega),u 3 (by omega),u 4 (by omega),u 5 (by omega)])⟩,by omega,by simp only[AO.low,bd,PV.low,hb 0 (by omega),hb 1 (by omega),hb 2 (by omega),hb 3 (by omega),hb 4 (by omega),hb 5 (by omega)],
  ⟨_,by rw[hs 5 (by omega)];exact g5,.of_eq (by simp only[AO.cq,dy,PV.cq,r 8 (by omega)])⟩,by omega,x 8 (by omega),
  ⟨_,by rw[hs 6 (by omega)];exact g6,.of_eq Z⟩,by omega,ac,
  ⟨_,by rw[hs 7 (by omega)];exact g7,.of_eq Z⟩,by omega,ac,
  ⟨_,by rw[hs 8 (by omega)];exact g8,.of_eq Z⟩,by omega,ac,
  ⟨_,g9,by rw[jZ];exact Y⟩,bk,wY _ _ _,ac⟩
theorem vw(m:NM)(b:ak)(v:Int):(fun x=>dt .str (ct .str m b v) x 0)=vo (fun x=>dt .str m x 0) b v:=by
 funext x
 rw[km,vo];by_cases h:b=x
 .rw[am h,am h.symm]
 .rw[be h,be fun e=>h e.symm]
def TW.push(w:TW)(a:ak):TW:=⟨ct .str w.low a ((w.low.length:Int)+1),ct .str w.on a 1,w.ring,w.stack++ [a],io⟩
theorem TW.key{V:List ak}{w:TW}(h:w.Ok V){a:ak}(h0:w.st.low a=0):a∉w.low.map Pq:=fun g=>h.nz a g h0
theorem qq{m:NM}{a:ak}{v:Int}(h:a∉m.map Pq):(ct .str m a v).length=m.length+1:=by
 have:=congrArg RH (dA (v:=v) h);simpa using this
theorem TW.GW{V:List ak}{w:TW}(h:w.Ok V){a:ak}(h0:w.st.low a=0):(w.push a).st=Go.Tj.push w.st a:=
 St.eq (vw _ _ _) (vw _ _ _) Z (qq (TW.key h h0)) Z
theorem TW.GY{V:List ak}{w:TW}(h:w.Ok V){a:ak}(h0:w.st.low a=0)(ha:a∈V):(w.push a).Ok V:=by
 have hk:=TW.key h h0;refine⟨fun x b=>?_,?_,fun x b=>?_⟩
 .show dt .str (ct .str w.low a _) x 0≠0;rw[km];split
  .omega
  .rename_i j;have b:x∈(ct .str w.low a ((w.low.length:Int)+1)).map Pq:=b;rw[dA hk,ON,OI]at b;exact h.nz x (b.resolve_right fun e=>j e.symm)
 .show((ct .str w.low a _).map Pq).Nodup;rw[dA hk,PU];exact⟨h.nd,by simp,fun u hu v y e=>hk (by rw[OI]at y;subst e;subst y;exact hu)⟩
 .have b:x∈(ct .str w.low a ((w.low.length:Int)+1)).map Pq:=b;rw[dA hk,ON,OI]at b;rcases b with b|rfl
  .exact h.sub x b
  .exact ha
theorem TW.len{V:List ak}{w:TW}(h:w.Ok V):w.low.length<=V.length:=by
 have:=PG h.nd (l₂:=V) h.sub;simpa using this
theorem TW.uk{V:List ak}{w:TW}(h:w.Ok V){succ:ak->List ak}{path:List ak}(hI:Inv succ path w.st):w.stack.length<=V.length:=by
 refine PG (l₂:=V) ?_ fun y A=>?_
 .refine Rs ?_ hI.Gw;intro x y u e;subst e;omega
 .have h1:=(hI.uk y).2 A;have b:w.st.low y≠0:=sb hI h1;refine h.sub y (PN fun j=>b (yP j))
def TW.pop(w:TW)(u:List ak)(b:ak)(j:Int):TW:=⟨w.low,ct .str w.on b 2,ct .str w.ring b j,u,co b⟩
theorem TW.Dy{w:TW}{u:List ak}{b:ak}(h:w.stack=u++ [b])(j:Int):(w.pop u b j).st=vL j w.st:=by
 have h1:w.st.stack.getLast? =co b:=by show w.stack.getLast? =_;rw[h];simp
 have x:w.st.stack.dropLast=u:=by show w.stack.dropLast=_;rw[h];simp
 unfold vL;rw[h1];exact St.eq Z (vw _ _ _) (vw _ _ _) Z x.symm
theorem TW.KQ{V:List ak}{w:TW}(h:w.Ok V)(u:List ak)(b:ak)(j:Int):(w.pop u b j).Ok V:=⟨h.nz,h.nd,h.sub⟩
theorem Mp(hS:fU){p:Prog}(hf:gr p)(hl:(cG p).length<=100000000)(a:ak):Pure prog 66 [.iv (xH (iF (cG p) a))] (.iv (strs (ba p a))):=by
 rw[<-wR hf];exact Da hS _ (Pm (Dn _ _) hl)
abbrev Lx(a:ak):List PV:=[pS a,.ptr 0 0,.ptr 1 0,.ptr 2 0,.ptr 3 0,.ptr 4 0,.ptr 5 0]
abbrev vF(a:ak):AF:=[(0,pS a),(1,.ptr 0 0),(2,.ptr 1 0),(3,.ptr 2 0),(4,.ptr 3 0),(5,.ptr 4 0),(6,.ptr 5 0)]
def Ll(p:Prog)(f:Nat):Prop:= ∀(path:List ak) (a:ak) (w:TW),w.Ok (ns p)->Inv (ba p) path w.st->w.st.low a=0->a∈ns p->(∀g∈path,lE (ba p) g a)->iQ (ns p) w.st<=f->
 Go.Al.Fn prog 65 (Lx a) (tO (uZ (bX p (cG p))) w) fun r h n=> ∃b:TW,b.Ok (ns p)∧b.st=(dI (ba p) f a w.st).2∧r=pI (dI (ba p) f a w.st).1∧h=tH (uZ (bX p (cG p))) b 10∧n=11
theorem Ed(p:Prog)(hs:List (ak×ak×Nat)){a:ak}(h:a∈p.aQ.map Decl.name):(BJ (dt .str (bX p hs) a io)).pv= .iv (xH (iF hs a)):=by rw[Ee p hs h];rfl
theorem Ki(G:IV)(w:TW){n:Nat}:[co (AO.cells [PV.mp 6]),co (.cells [.mp 7]),co (.cells [nG w.qW 11 w.stack]),co (.cells [.iv G]),co (.cells [wM]),co (.cells [.mp 8]),co (cC w.low),co (cC w.on),co (cC w.ring),co (nI w.qW w.stack)]=
  (tO G w).map fun o=>co (o.cq (sig [0,1,2,3,4,5,6,7,8,11] n)):=by
 have h1:=jY (sig [0,1,2,3,4,5,6,7,8,11] n) w.qW 9 w.stack;have b:=jZ (sig [0,1,2,3,4,5,6,7,8,11] n) w.qW w.stack;show _=[co (AO.cells [PV.mp 6]),co (.cells [.mp 7]),co (.cells [(nG w.qW 9 w.stack).cq (sig [0,1,2,3,4,5,6,7,8,11] n)]),co (.cells [.iv G]),co (.cells [wM]),co (.cells [.mp 8]),co (cC w.low),co (cC w.on),co (cC w.ring),co ((nI w.qW w.stack).cq (sig [0,1,2,3,4,5,6,7,8,11] n))]
 rw[h1,b];rfl
theorem CX(u:List ak)(b:ak):((u++ [b]).map fun x=>(cR x).map PV.iv)[0+((((u.length+1:Nat):Int)-1).toNat)]? =co [pS b]:=by
 rw[OY,show(((u.length+1:Nat):Int)-1).toNat=u.length by omega];simp[cR]
theorem CY(i:Nat)(u:List ak)(b:ak):(u.length=0∧nG (co b) i u= .sl i 1 0 1)∨(0<u.length∧nG (co b) i u= .sl i 0 u.length 1):=by
 cases u with
 |nil=>exact .inl ⟨rfl,rfl⟩
 |cons x r=>exact .inr ⟨by simp,rfl⟩
theorem wX(u:List ak)(b:ak):dR (aP 1 (u++ [b]) cR) (nI (co b) u):=by
 cases u with
 |nil=>exact .of_eq Z
 |cons x r=>
  have e:nI (co b) (x::r)= .row 1 (((x::r++ [b]).map fun y=>(cR y).map PV.iv).take (x::r).length):=by
   rw[<-List.map_take,List.take_left];rfl
  rw[e];exact .take
theorem ra{p:Prog}: ∀a∈ns p,∀b∈ba p a,b∈ns p:=fun _ _ _ h=>(O5.1 h).1
theorem DI{p:Prog}(hf:gr p):(ns p).length<=64:=by
 have:=hf.len;rw[ns,iN,O3];exact this
theorem CC(hS:fU){p:Prog}(hf:gr p)(hl:(cG p).length<=100000000)(f:Nat)(ih:Ll p f):Ll p (f+1):=by
 intro path a w hok hI h0 R hp hw;have i0:=DI hf;have e1:=jx hI.ly R h0;have l1:=TW.len hok;have o1:=TW.uk hok hI;have q0:a∈p.aQ.map Decl.name:=by rw[ns,kf]at R;exact R
 have D:=TW.GW hok h0;have t0:=TW.GY hok h0 R;have n1:=PJ (eg p a) (ns p);refine od ab func65 Z (by decide) ntmps65 Z (by simp) ?_;refine go_cut 6 (fun _:Unit=>⟨(9,pI ((w.low.length:Int)+1))::(10,pI ((w.low.length:Int)+1))::vF a,tH (uZ (bX p (cG p))) (w.push a) 10,11⟩) Z ?_ ?_
 .have o0:dt .str (ct .str w.low a ((w.low.length:Int)+1)) a 0=(w.low.length:Int)+1:=by rw[km,am Z]
  by_cases hu:w.qW=io∨w.stack≠ []
  .rw[show tO (uZ (bX p (cG p))) w=[.cells [.mp 6],.cells [.mp 7],.cells [.sl 9 0 w.stack.length 1],.cells [.iv (uZ (bX p (cG p)))],.cells [wM],.cells [.mp 8],cC w.low,cC w.on,cC w.ring,aP 1 w.stack cR] by
    unfold tO;rw[wU hu,wW hu]]
   refine gA Z (EN () [11] ?_);exact wk Z Z Z ⟨.of_eq (congrArg pI o0),rfl,.of_eq (congrArg pI o0),rfl,bi (bi (bi (bi (bi (bi (bi ac))))))⟩
    (rG (w:=w.push a) Z Z (fun i Y=>fj (by show i<10;omega)) Z Z Z Z Z Z Z Z Z Z (by show _=PV.sl 11 0 (w.stack++ [a]).length 1;rw[Oy];rfl) Z Z Z (.of_eq (by show _=aP 1 (w.stack++ [a]) cR;rw[aP,OM];rfl))) Z
  .obtain⟨y,hy,v0⟩: ∃y,w.qW=co y∧w.stack=[]:=by
    cases hg:w.qW with
    |none=>exact absurd (.inl hg) hu
    |some y=>exact⟨y,rfl,PN fun h=>hu (.inr h)⟩
   rw[show tO (uZ (bX p (cG p))) w=[.cells [.mp 6],.cells [.mp 7],.cells [.sl 9 1 0 1],.cells [.iv (uZ (bX p (cG p)))],.cells [wM],.cells [.mp 8],cC w.low,cC w.on,cC w.ring,.row 1 [[pS y]]] by
    unfold tO;rw[hy,v0];rfl]
   refine gA Z (wh ab Z Z Z Z Z Z Z Z Z (by simp) (by simp) (jo Z) Z ?_);refine gA Z (EN () [11] ?_);exact wk Z Z Z ⟨.of_eq (congrArg pI o0),rfl,.of_eq (congrArg pI o0),rfl,bi (bi (bi (bi (bi (bi (bi ac))))))⟩
    (rG (w:=w.push a) Z Z (fun i Y=>fj (by show i<10;omega)) Z Z Z Z Z Z Z Z Z Z (by show _=PV.sl 11 0 (w.stack++ [a]).length 1;rw[v0];rfl) Z Z Z (.of_eq (by show _=aP 1 (w.stack++ [a]) cR;rw[v0];rfl))) Z
 intro _;have Y:=xq hI h0 hp;rw[<-D]at e1 Y;have hm:((w.push a).low.length:Int)=(w.low.length:Int)+1:=by
  have:=qq (v:=(w.low.length:Int)+1) (TW.key hok h0);show(((ct .str w.low a _).length:Nat):Int)=_;rw[this];omega
 have la:(w.push a).st.low a=(w.st.n:Int)+1:=by rw[D];exact iR _ _ _
 have oa:(w.push a).st.on a=1:=by rw[D];exact iR _ _ _
 have g1:eD (ba p) path a w.st [] ((w.st.n:Int)+1,Go.Tj.push w.st a) []:=
  ⟨D▸Y,.refl _,rfl,fun y hy=>(nomatch hy),QI _,fun y hy=>(nomatch hy),fun z hz=>(nomatch hz),fun z hz=>(nomatch hz),⟨a,D▸oa,D▸la,.refl _⟩⟩
 have k0:=fun pa b s=>nC (succ:=ba p) ra f pa b s
 let I:Nat->Int×St ak:=fun i=>((ba p a).take i).foldl (Go.Tj.qj (dI (ba p) f)) ((w.st.n:Int)+1,Go.Tj.push w.st a)
 have g0: ∀i,∃t,eD (ba p) path a w.st ((ba p a).take i) (I i) t:=fun i=>by
  have:=pO ra k0 hI h0 R (by rw[<-D];omega) ((ba p a).take i) [] _ [] g1 fun b hb=>RJ hb;rwa[P9]at this
 refine gM 5 Z (Hu ab (.iv (xH (iF (cG p) a))) Z Z Z Z (Ed p _ q0) Z ?_);refine gA Z (zp (Mp hS hf hl a) ?_);refine gA Z ?_;refine ru 0 (ba p a).length (OL _) (fun i B=>⟨(9,pI ((w.low.length:Int)+1))::(10,pI (I i).1)::(32,.iv (strs (ba p a)))::(33,pI (ba p a).length)::(34,pI i)::vF a,tH (uZ (bX p (cG p))) B 11,12⟩)
  (fun i B=>B.Ok (ns p)∧B.st=(I i).2) (w.push a) [10] ⟨t0,D⟩
  (wk Z Z Z (bi (bi (bi (bi (bi (bi (bi (bi (bi (bi (bi (bi trivial))))))))))))
   (rG Z Z (fun i Y=>fj (by show i<11;omega)) Z Z Z Z Z Z Z Z Z Z Z Z Z Z (.refl _)) Z) fun i B r1 hJ=>?_
 obtain⟨C,A⟩:=hJ;obtain⟨t2,x⟩:=g0 i;have m1:(ba p a).length<=64:=Pm n1 i0;refine zJ Z Z (fun h1=>?_) fun h1=>?_
 .have h1:i<(ba p a).length:=by simpa using h1
  have d0:I (i+1)=Go.Tj.qj (dI (ba p) f) (I i) ((ba p a).getD i ci):=gF h1;have hb:((ba p a).getD i ci)∈ba p a:=ku h1;have j:Go.Tj.qj (dI (ba p) f) (I i) ((ba p a).getD i ci)=if B.st.low ((ba p a).getD i ci)=0 then(min (I i).1 (dI (ba p) f ((ba p a).getD i ci) B.st).1,(dI (ba p) f ((ba p a).getD i ci) B.st).2)
    else if B.st.on ((ba p a).getD i ci)=1 then(min (I i).1 (B.st.low ((ba p a).getD i ci)),B.st) else(I i):=by rw[A];rfl
  refine zJ Z Z (fun h2=>?_) fun h2=>?_
  .have h2:B.st.low ((ba p a).getD i ci)=0:=zT h2;rw[am h2]at j;have b0: ∀g∈path++ [a],lE (ba p) g ((ba p a).getD i ci):=by
    intro g hg;have G:(I i).2.on a=1:=(x.inv.uk a).2 (by rw[x.stack];simp);refine .step (x.inv.dn g hg a G ?_) hb;rcases ON.1 hg with e|e
    .have:=x.pa hI h0 g e;omega
    .rw[OI]at e;rw[e];exact QI _
   have q1:iQ (ns p) B.st<=f:=by
    have:=ud (V:=ns p) x.le;rw[A];rw[D]at e1;omega
   refine gA Z (oW [0,1,2,3,4,5,6,7,8,11] (ih (path++ [a]) ((ba p a).getD i ci) B C (A▸x.inv) h2 (ra a R ((ba p a).getD i ci) hb) b0 q1) Z Z Z Z Z (Ki _ _) Z ?_);rintro r h' n' ⟨w3,hok3,hst3,rfl,rfl,rfl⟩;refine⟨_,rfl,?_⟩;refine gA Z ⟨h1,w3,[12],⟨hok3,by rw[d0,j];exact hst3⟩,zM (bi ⟨.of_eq (by rw[d0,j];rfl),rfl,bi (bi (bi (bi (bi (bi (bi (bi (bi (bi ac)))))))))⟩) (rG Z Z (fun i Y=>fj (by show i<11;omega)) Z Z Z Z Z Z Z Z Z Z (jY _ _ _ _) Z Z Z (.of_eq (jZ _ _ _)))⟩
  .have h2: ¬B.st.low ((ba p a).getD i ci)=0:=zF h2;rw[be h2]at j;refine zJ Z Z (fun h3=>?_) fun h3=>?_
   .have h3:B.st.on ((ba p a).getD i ci)=1:=zT h3;rw[am h3]at j;refine gA Z ⟨h1,B,[11],⟨C,by rw[d0,j]⟩,zM (bi ⟨.of_eq (by rw[d0,j];rfl),rfl,bi (bi (bi (bi (bi (bi (bi (bi (bi (bi ac)))))))))⟩) (rG Z Z (fun i Y=>fj (by show i<11;omega)) Z Z Z Z Z Z Z Z Z Z Z Z Z Z (.refl _))⟩
   .have h3: ¬B.st.on ((ba p a).getD i ci)=1:=zF h3;rw[be h3]at j;refine gA Z ⟨h1,B,[11],⟨C,by rw[d0,j];exact A⟩,zM (bi ⟨.of_eq (by rw[d0,j];rfl),rfl,bi (bi (bi (bi (bi (bi (bi (bi (bi (bi ac)))))))))⟩) (rG Z Z (fun i Y=>fj (by show i<11;omega)) Z Z Z Z Z Z Z Z Z Z Z Z Z Z (.refl _))⟩
 .have h1:(ba p a).length<=i:=by simpa using h1
  have j1:i=(ba p a).length:=by omega
  subst j1;have n0:dI (ba p) (f+1) a w.st=q8 a ((w.st.n:Int)+1) (I (ba p a).length):=by
   show q8 a _ ((ba p a).foldl _ _)=q8 a _ (((ba p a).take (ba p a).length).foldl _ _);rw[Qd]
  have a0: ∀(w':TW) (k:Nat) (u:AS) (e:Exit),e= .normal∨e= .ret->10<=k->k<u.nx->iT nD u f65.results.toList=co (pI (I (ba p a).length).1)->w'.Ok (ns p)->w'.st=(q8 a ((w.st.n:Int)+1) (I (ba p a).length)).2->
    mA 11 (sg 10 [k]) u.h (tH (uZ (bX p (cG p))) w' 10)->H5 nD f65.results.toList 10 (fun r h n=> ∃w':TW,w'.Ok (ns p)∧w'.st=(dI (ba p) (f+1) a w.st).2∧r=pI (dI (ba p) (f+1) a w.st).1∧h=tH (uZ (bX p (cG p))) w' 10∧n=11) e u:=by
   intro w' k u e he hk k1 hr s0 w0 hh;refine ry [k] he hr ⟨w',s0,by rw[n0];exact w0,rfl,rfl,rfl⟩ ⟨rfl,by show 10<=u.nx;omega,by simpa using k1,⟨.of_eq ?_,rfl,ac⟩,hh,?_⟩
   .show pI (I (ba p a).length).1=pI (dI (ba p) (f+1) a w.st).1;rw[n0];unfold q8;split<;>rfl
   .show[0,1,2,3,4,5,6,7,8,k].Nodup;simp;omega
  generalize I (ba p a).length=q at*
  refine zE Z Z (fun h4=>?_) fun h4=>?_
  .have h4: ¬q.1=(w.st.n:Int)+1:=zF h4;refine gA Z (a0 B 11 _ _ (.inr Z) (by omega) (by show 11<12;omega) Z C (by rw[q8,be h4];exact A) ?_);exact rG Z Z (fun i Y=>fj (by omega)) Z Z Z Z Z Z Z Z Z Z Z Z Z Z (.refl _)
  have h4:q.1=(w.st.n:Int)+1:=zT h4;have hE:(q8 a ((w.st.n:Int)+1) q).2=eR a ((w.st.n:Int)+1) q.2.stack.length q.2:=by rw[q8,am h4]
  have G:q.2.on a=1:=(x.inv.uk a).2 (by rw[x.stack];simp);have hF:eR a ((w.st.n:Int)+1) (t2.length+1) q.2=(q8 a ((w.st.n:Int)+1) q).2:=by
   rw[hE,pG (by omega) x.stack x.at_ G,pG (by rw[x.stack];simp;omega) x.stack x.at_ G]
  generalize(q8 a ((w.st.n:Int)+1) q).2=F at hF a0;refine gA Z ?_;refine gi (σ:={v:TW//v.Ok (ns p)∧((∃t,v.stack=w.stack++a::t∧a∉t∧v.stack.length<=64∧v.st.on a=1∧eR a ((w.st.n:Int)+1) (t.length+1) v.st=F)∨(v.st.on a≠1∧v.st=F))})
   (fun v=>⟨(9,pI ((w.low.length:Int)+1))::(10,pI q.1)::vF a,tH (uZ (bX p (cG p))) v.1 12,13⟩) (fun v=>v.1.stack.length) ⟨B,C,.inl ⟨t2,by rw[show B.stack=B.st.stack from rfl,A];exact x.stack,x.at_,Pm (TW.uk C (A▸x.inv)) i0,by rw[A];exact G,by rw[A];exact hF⟩⟩ [11]
   (zW (rG Z Z (fun i Y=>fj (by show i<12;omega)) Z Z Z Z Z Z Z Z Z Z Z Z Z Z (.refl _))) fun v=>?_
  obtain⟨v,j0,hJ⟩:=v;rcases hJ with⟨t,hs,a1,m0,c0,J⟩|⟨c0,f1⟩
  rotate_left
  .refine zJ Z Z (fun h5=>?_) fun h5=>?_
   .exact absurd (zT h5) c0
   refine gA Z (a0 v 12 _ _ (.inr Z) (by omega) (by show 12<13;omega) Z j0 f1 ?_);exact rG Z Z (fun i Y=>fj (by omega)) Z Z Z Z Z Z Z Z Z Z Z Z Z Z (.refl _)
  have key: ∃u b,v.stack=u++ [b]∧((b=a∧vL ((w.st.n:Int)+1) v.st=F)∨ ∃t',u=w.stack++a::t'∧a∉t'∧b≠a∧eR a ((w.st.n:Int)+1) (t'.length+1) (vL ((w.st.n:Int)+1) v.st)=F):=by
   rcases t.eq_nil_or_concat with e|⟨t',b,e⟩
   .subst e;refine⟨w.stack,a,hs,.inl ⟨rfl,?_⟩⟩;rw[P0,eR,am c0]at J;exact J
   .rw[RE]at e;subst e;refine⟨w.stack++a::t',b,by rw[hs];simp,.inr ⟨t',rfl,fun h=>a1 (by simp[h]),fun h=>a1 (by simp[h]),?_⟩⟩;rw[eR,am c0,Oy]at J;exact J
  obtain⟨u,b,e0,f0⟩:=key;have s1:u.length+1<=64:=by rw[e0,Oy]at m0;exact m0
  have d1:v.stack≠ []:=by rw[e0];simp
  have x0:v.stack.length=u.length+1:=by rw[e0,Oy];rfl
  have p1:tH (uZ (bX p (cG p))) v 12=[(0,co (.cells [.mp 6])),(1,co (.cells [.mp 7])),(2,co (.cells [.sl 12 0 (u.length+1) 1])),(3,co (.cells [.iv (uZ (bX p (cG p)))])),(4,co (.cells [wM])),(5,co (.cells [.mp 8])),
    (6,co (cC v.low)),(7,co (cC v.on)),(8,co (cC v.ring)),(12,co (aP 1 (u++ [b]) cR))]:=by
   unfold tH;rw[wU (.inr d1),wW (.inr d1),x0,e0]
  show GO prog _ _ _ ⟨_,tH (uZ (bX p (cG p))) v 12,_⟩;rw[p1];refine zE Z Z (fun h5=>?_) fun h5=>?_
  .exact absurd c0 (zF h5)
  refine gM 9 Z (ob ab Z Z Z Z Z (CX u b) Z Z ?_);have z0:(v.pop u b ((w.st.n:Int)+1)).Ok (ns p)∧((∃t,(v.pop u b ((w.st.n:Int)+1)).stack=w.stack++a::t∧a∉t∧(v.pop u b ((w.st.n:Int)+1)).stack.length<=64∧(v.pop u b ((w.st.n:Int)+1)).st.on a=1∧eR a ((w.st.n:Int)+1) (t.length+1) (v.pop u b ((w.st.n:Int)+1)).st=F)∨((v.pop u b ((w.st.n:Int)+1)).st.on a≠1∧(v.pop u b ((w.st.n:Int)+1)).st=F)):=by
   refine⟨TW.KQ j0 u b _,?_⟩;rcases f0 with⟨rfl,p0⟩|⟨t',hu,r0,i1,p0⟩
   .refine .inr ⟨?_,by rw[TW.Dy e0];exact p0⟩;show dt .str (ct .str v.on b 2) b 0≠1;rw[km,am Z];decide
   .refine .inl ⟨t',hu,r0,by show u.length<=64;omega,?_,by rw[TW.Dy e0];exact p0⟩;show dt .str (ct .str v.on b 2) a 0=1;rw[km,be i1];exact c0
  have b1:(v.pop u b ((w.st.n:Int)+1)).stack.length<v.stack.length:=by show u.length<v.stack.length;omega
  rcases CY 12 u b with hc|hc
  .refine gA Z (AJ ab u.length Z Z Z Z Z Z Z (by omega) (by omega) (by omega) (.inl ⟨hc.1,rfl⟩) Z ?_);refine gA Z ⟨⟨v.pop u b ((w.st.n:Int)+1),z0⟩,[12],b1,zW (rG Z Z (fun i Y=>fj (by show i<12;omega)) Z Z Z Z Z Z Z Z Z Z hc.2.symm Z Z Z (wX u b))⟩
  .refine gA Z (AJ ab u.length Z Z Z Z Z Z Z (by omega) (by omega) (by omega) (.inr ⟨hc.1,rfl⟩) Z ?_);refine gA Z ⟨⟨v.pop u b ((w.st.n:Int)+1),z0⟩,[12],b1,zW (rG Z Z (fun i Y=>fj (by show i<12;omega)) Z Z Z Z Z Z Z Z Z Z hc.2.symm Z Z Z (wX u b))⟩
theorem Lw(hS:fU){p:Prog}(hf:gr p)(hl:(cG p).length<=100000000): ∀f,Ll p f
 |0=>fun path a w hok hI j b u x=>by
  have:=jx hI.ly b j;omega
 |f+1=>CC hS hf hl f (Lw hS hf hl f)
theorem Bu(hS:fU){p:Prog}(hf:gr p)(hs:List (ak×ak×Nat)):Pure prog 67 [.iv (uZ (bX p hs))] (.iv (strs (ns p))):=by
 have h:=Db hS (bX p hs) (by have:=hf.len;simp[bX];omega);rw[show(bX p hs).map (·.1)=p.aQ.map Decl.name from y1 p hs]at h;exact h
abbrev GS:PV:= .b4 (.func 65) [] [.ptr 4 0,.ptr 5 0,.ptr 7 0,.ptr 0 0,.ptr 8 0,.ptr 6 0]
abbrev rH(G:IV)(w:TW)(k:Nat):AH:=[(0,co (.cells [.iv G])),(1,co (cC w.low)),(2,co (cC w.on)),(3,co (cC w.ring)),(4,co (.cells [.mp 1])),(5,co (.cells [.mp 2])),(6,co (.cells [.mp 3])),(7,co (.cells [nG w.qW k w.stack])),(8,co (.cells [GS])),(k,co (nI w.qW w.stack))]
theorem JA{n k:Nat}{σ:Nat->Nat}{h:AH}{G:IV}{w:TW}{C:PV}{y A B o:AO}(b:Qr 9 n=is)(bk:OV k n=is)(hs: ∀i,i<9->σ i=i)
  (g0:h.get 0=co (.cells [.iv G])) (g1:h.get 1=co y) (g2:h.get 2=co A) (g3:h.get 3=co B)
  (g4:h.get 4=co (.cells [.mp 1])) (g5:h.get 5=co (.cells [.mp 2])) (g6:h.get 6=co (.cells [.mp 3])) (g7:h.get 7=co (.cells [C])) (g8:h.get 8=co (.cells [GS])) (g9:h.get (σ k)=co o)
  (D:dR y (cC w.low)) (I:dR A (cC w.on)) (J:dR B (cC w.ring)) (R:C=nG w.qW (σ k) w.stack) (Y:dR o (nI w.qW w.stack)):mA n σ h (rH G w k):=by
 have b9:=Oq b;have bk:=Oq bk;have hb: ∀i,i<9->OV i n=is:=fun i j=>Pp (by omega);subst R;have r: ∀i,i<9->PV.mp (σ i)=PV.mp i:=fun i j=>by rw[hs i j]
 have u: ∀i,i<9->PV.ptr (σ i) 0=PV.ptr i 0:=fun i j=>by rw[hs i j]
 have x: ∀i,i<9->bd n [PV.mp i]=is:=fun i j=>by simp only[bd,PV.low,hb i j]
 refine⟨⟨_,by rw[hs 0 (by omega)];exact g0,.of_eq Z⟩,by omega,rfl,
  ⟨_,by rw[hs 1 (by omega)];exact g1,D⟩,by omega,ac,
  ⟨_,by rw[hs 2 (by omega)];exact g2,I⟩,by omega,ac,
  ⟨_,by rw[hs 3 (by omega)];exact g3,J⟩,by omega,ac,
  ⟨_,by rw[hs 4 (by omega)];exact g4,.of_eq (by simp only[AO.cq,dy,PV.cq,r 1 (by omega)])⟩,by omega,x 1 (by omega),
  ⟨_,by rw[hs 5 (by omega)];exact g5,.of_eq (by simp only[AO.cq,dy,PV.cq,r 2 (by omega)])⟩,by omega,x 2 (by omega),
  ⟨_,by rw[hs 6 (by omega)];exact g6,.of_eq (by simp only[AO.cq,dy,PV.cq,r 3 (by omega)])⟩,by omega,x 3 (by omega),
  ⟨_,by rw[hs 7 (by omega)];exact g7,.of_eq (by simp only[AO.cq,dy,jY])⟩,by omega,by simp only[AO.low,bd,wV (Pp bk)],
  ⟨_,by rw[hs 8 (by omega)];exact g8,.of_eq (by simp only[AO.cq,dy,PV.cq,u 0 (by omega),u 4 (by omega),u 5 (by omega),u 6 (by omega),u 7 (by omega),u 8 (by omega)])⟩,by omega,by simp only[AO.low,bd,PV.low,hb 0 (by omega),hb 4 (by omega),hb 5 (by omega),hb 6 (by omega),hb 7 (by omega),hb 8 (by omega)],
  ⟨_,g9,by rw[jZ];exact Y⟩,bk,wY _ _ _,ac⟩
theorem sw{V:Type}{kc:KC}{ev:V->IV}{z:V}{b:Value}{u:PV->V}(y: ∀M,IR M (ev z) b):dR .fg (.map kc ev z b u []):=
 ⟨id,fun M N U w j x=>⟨#[],0,x,⟨rfl,by simp,by simp,by simp,by simp⟩,y M⟩⟩
def TW.o:TW:=⟨[],[],[],[],io⟩
theorem KN(G:IV)(w:TW){n:Nat}:[co (AO.cells [PV.mp 1]),co (.cells [.mp 2]),co (.cells [nG w.qW 10 w.stack]),co (.cells [.iv G]),co (.cells [GS]),co (.cells [.mp 3]),co (cC w.low),co (cC w.on),co (cC w.ring),co (nI w.qW w.stack)]=
  (tO G w).map fun o=>co (o.cq (sig [4,5,7,0,8,6,1,2,3,10] n)):=by
 have h1:=jY (sig [4,5,7,0,8,6,1,2,3,10] n) w.qW 9 w.stack;have b:=jZ (sig [4,5,7,0,8,6,1,2,3,10] n) w.qW w.stack;show _=[co (AO.cells [PV.mp 1]),co (.cells [.mp 2]),co (.cells [(nG w.qW 9 w.stack).cq (sig [4,5,7,0,8,6,1,2,3,10] n)]),co (.cells [.iv G]),co (.cells [GS]),co (.cells [.mp 3]),co (cC w.low),co (cC w.on),co (cC w.ring),co ((nI w.qW w.stack).cq (sig [4,5,7,0,8,6,1,2,3,10] n))]
 rw[h1,b];rfl
theorem Kv(hS:fU){p:Prog}(hf:gr p)(hl:(cG p).length<=100000000):Go.Al.Fn prog 40 [.iv (uZ (bX p (cG p)))] [] fun r h n=> ∃m:NM,Go.Rg.tw (ns p) (eg p) (fun a=>dt .str m a 0)∧r= .iv (xH m)∧h=[]∧n=0:=by
 have B:=DI hf;refine od ab func40 Z (by decide) ntmps40 Z (by simp) ?_;refine gA Z (zp (Bu hS hf (cG p)) ?_);refine gA Z ?_;refine oU 7 0 1 Z Z ?_
 let x:Nat->St ak:=fun i=>fG (ba p) (ns p).length ((ns p).take i) St.o
 have y: ∀i,Inv (ba p) [] (x i):=fun i=>(pD ra (OJ _) ((ns p).take i) St.o (fun a h=>RJ h) (Jh _)).1
 refine ru 0 (ns p).length (OL _) (fun i w=>⟨[(3,.ptr 4 0),(4,.ptr 5 0),(5,.ptr 6 0),(6,.ptr 7 0),(7,.ptr 8 0),(15,.iv (strs (ns p))),(16,pI (ns p).length),(17,pI i)],rH (uZ (bX p (cG p))) w 10,11⟩)
  (fun i w=>w.Ok (ns p)∧w.st=x i) TW.o [9] ⟨⟨fun a h=>(nomatch h),Pe,fun a h=>(nomatch h)⟩,rfl⟩
  (wk Z Z Z (bi (bi (bi (bi (bi (bi (bi (bi trivial))))))))
   (JA Z Z (fun i A=>fj (by show i<10;omega)) Z Z Z Z Z Z Z Z Z Z (sw eY) (sw eY) (sw eY) Z (.of_eq Z)) Z) fun i w A G=>?_
 obtain⟨hok,u⟩:=G;refine zJ Z Z (fun h1=>?_) fun h1=>?_
 .have h1:i<(ns p).length:=by simpa using h1
  have j:x (i+1)=if(x i).low ((ns p).getD i ci)=0 then(dI (ba p) (ns p).length ((ns p).getD i ci) (x i)).2 else x i:=gF h1;refine zJ Z Z (fun b=>?_) fun b=>?_
  .have b:w.st.low ((ns p).getD i ci)=0:=zT b;rw[<-u,am b]at j;refine gA Z (oW [4,5,7,0,8,6,1,2,3,10] (Lw hS hf hl (ns p).length [] ((ns p).getD i ci) w hok (u▸y i) b (ku h1) (fun g I=>nomatch I) (PJ _ _)) Z Z Z Z Z (KN _ _) Z ?_);rintro r R Y ⟨w3,hok3,hst3,rfl,rfl,rfl⟩;refine⟨_,rfl,?_⟩;refine gA Z ?_
   exact⟨h1,w3,[11],⟨hok3,by rw[j];exact hst3⟩,wk Z Z Z (bi (bi (bi (bi (bi (bi (bi (bi ac))))))))
    (JA Z Z (fun i A=>fj (by show i<10;omega)) Z Z Z Z Z Z Z Z Z Z (.refl _) (.refl _) (.refl _) (jY _ _ _ _) (.of_eq (jZ _ _ _))) Z⟩
  .have b: ¬w.st.low ((ns p).getD i ci)=0:=zF b;rw[<-u,be b]at j;refine gA Z ?_
   exact⟨h1,w,[10],⟨hok,j.symm⟩,wk Z Z Z (bi (bi (bi (bi (bi (bi (bi (bi ac))))))))
    (JA Z Z (fun i A=>fj (by show i<10;omega)) Z Z Z Z Z Z Z Z Z Z (.refl _) (.refl _) (.refl _) Z (.refl _)) Z⟩
 .have h1:(ns p).length<=i:=by simpa using h1
  have J:Go.Rg.tw (ns p) (eg p) (fun a=>dt .str w.ring a 0):=by
   have b:=Dr hf.nodup (OJ (ns p).length);have C:x i=fG (ba p) (ns p).length (ns p) St.o:=by show fG _ _ ((ns p).take i) _=_;rw[OP h1]
   have D:(fun a=>dt .str w.ring a 0)=(fG (ba p) (ns p).length (ns p) St.o).ring:=by rw[<-C,<-u];rfl
   rw[D];exact b
  refine gA Z ⟨.inr Z,_,rfl,iB.map 3 Z (.done ⟨.iv (xH w.ring),[],0,[],⟨w.ring,J,rfl,rfl,rfl⟩,?_⟩)⟩;exact⟨rfl,OL _,by simp,⟨.of_eq Z,rfl,ac⟩,ac,Pe⟩
end Go.Proofs.YtllkaddcplhklaaGreatDoor
namespace Go.Proofs.YtllkaddcplhklaaGreatDoor
open Go Go.Al Go.Proofs.Tryz
theorem KB(l:List ak)(s:ak):Pure prog 89 [.iv (strs l),pS s] (pI (n4 (fun x:ak=>kw (s=x)) l)):=by
 refine Dx (bm func89 Z (by decide)) ⟨_,_,OH⟩ fun j=>?_;simp only[maxLen]at j;refine ai ab func89 Z (by decide) ntmps89 Z (by simp) Z ?_;refine gA Z ?_
 refine aK 0 l.length (OL _) (fun i=>⟨[(0,.iv (strs l)),(1,pS s),(7,pI l.length),(8,pI i)],[],0⟩) (fun i=>(l.take i).any (fun x:ak=>kw (s=x))=jp) [] (by simp)
  (wk0 Z Z (bi (bi (bi (bi trivial)))) Z) fun i y u=>?_
 refine zJ Z Z (fun h1=>?_) fun h1=>?_
 .have h1:i<l.length:=by simpa using h1
  refine zJ Z Z (fun b=>?_) fun b=>?_
  .have b:(fun x:ak=>kw (s=x)) (l.getD i ci)=is:=b;rw[gd u h1 b];exact zU Z
  .have b:(fun x:ak=>kw (s=x)) (l.getD i ci)=jp:=b;refine gA Z ⟨h1,(cI u h1).2 b,[],wk0 Z Z (bi (bi (bi (bi ac)))) Z⟩
 .have h1:l.length<=i:=by simpa using h1
  rw[fh (any_none u h1)];exact zU Z
theorem HZ(l:List ak)(s:ak):(l.any fun x=>kw (s=x))=du l s:=by
 rw[PL,bu,PI];constructor
 .rintro⟨x,hx,h⟩;exact(zT h)▸hx
 .exact fun h=>⟨s,h,decide_eq_true Z⟩
theorem Bw(l:List ak)(s:ak):Pure prog 69 [.iv (strs l),pS s] (pB (du l s)):=by
 refine ai ab func69 Z (by decide) ntmps69 Z (by simp) Z ?_;refine gA Z (zp (KB l s) ?_);refine gA Z (zL (.of_eq ?_));exact lP (by rw[<-HZ];exact gf _ l)
def mR(m:NM)(r:ax)(l:Lit):Bool:=kw (l.kind=1)&&kw (dt .str m l.atom.rel 0=dt .str m r.head.rel 0)
abbrev KK(m:NM)(r:ax):List AO:=[.cells [.iv (xH m)],ay r.c]
abbrev GQ(m:NM)(r:ax):AH:=[(0,co (.cells [.iv (xH m)])),(1,co (ay r.c))]
theorem GG(m:NM)(r:ax)(l:Lit):bC prog 91 [ag l.c,.ptr 0 0,.ptr 1 0] (KK m r) (pB (mR m r l)) (GQ m r) 2:=by
 refine au ab func91 Z (by decide) ntmps91 Z (by simp) ?_;refine zJ Z Z (fun h1=>?_) fun h1=>?_
 .have h1:l.kind=1:=zT h1;refine gA Z (zD [] Z (zM ⟨.of_eq (lP (by rw[mR,decide_eq_true h1,QP])),rfl,ac⟩ ((zO (zK ac)))))
 .have h1: ¬l.kind=1:=zF h1;refine gA Z (zD [] Z (zM ⟨.of_eq (lP (by rw[mR,decide_eq_false h1,P6])),rfl,ac⟩ ((zO (zK ac)))))
abbrev Dp:PV:= .b4 (.func 91) [] [.ptr 0 0,.ptr 1 0]
theorem GD(m:NM)(r:ax)(l:List Lit):bC prog 137 [.iv (bw 30 l Lit.c),Dp] (KK m r) (pI (n4 (mR m r) l)) (GQ m r) 2:=by
 refine oh (bm func137 Z (by decide)) ⟨_,_,OH⟩ fun j=>?_;simp only[maxLen]at j;refine au ab func137 Z (by decide) ntmps137 Z (by simp) ?_;refine gA Z ?_
 refine aK 0 l.length (OL _) (fun i=>⟨[(0,.iv (bw 30 l Lit.c)),(1,Dp),(7,pI l.length),(8,pI i)],GQ m r,2⟩) (fun i=>(l.take i).any (mR m r)=jp) [] (by simp)
  (zW ((zO (zK trivial)))) fun i x u=>?_
 refine zJ Z Z (fun h1=>?_) fun h1=>?_
 .have h1:i<l.length:=by simpa using h1
  refine gA Z (zq [0,1] (GG m r (l.getD i ci)) ?_);refine zJ Z Z (fun b=>?_) fun b=>?_
  .have b:mR m r (l.getD i ci)=is:=b;rw[gd u h1 b];refine gA Z (zD [] Z (zW ((zO (zK ac)))))
  .have b:mR m r (l.getD i ci)=jp:=b;refine gA Z ⟨h1,(cI u h1).2 b,[],zW ((zO (zK ac)))⟩
 .have h1:l.length<=i:=by simpa using h1
  rw[fh (any_none u h1)];refine gA Z (zD [] Z (zW ((zO (zK ac)))))
theorem GF(m:NM)(r:ax)(l:List Lit):bC prog 90 [.iv (bw 30 l Lit.c),Dp] (KK m r) (pB (l.any (mR m r))) (GQ m r) 2:=by
 refine au ab func90 Z (by decide) ntmps90 Z (by simp) ?_;refine gA Z (zq [0,1] (GD m r l) ?_);refine gA Z (zD [] Z (zM ⟨.of_eq (lP (gf _ l)),rfl,ac⟩ ((zO (zK ac)))))
theorem Ku(m:NM)(r:ax):Pure prog 70 [ag r.c,.iv (xH m)] (pB (r.body.any (mR m r))):=by
 refine ai ab func70 Z (by decide) ntmps70 Z (by simp) Z ?_;refine gA Z (zq [1,0] (GF m r r.body) ?_);exact zU Z
def tJ(m:NM)(r:ax)(l:Lit):Bool:=kw (l.kind≠1)&&(named l).any fun t=>kw (dt .str m t 0=dt .str m r.head.rel 0)
def tY(m:NM)(r:ax)(t:Term):Bool:=kw (t.kind=1)&&!du (jO r) t.var&&r.body.any (mR m r)
def im(m:NM)(r:ax):fi:=match r.body.find? (tJ m r) with
 |some l=>(70,l.at)
 |none=>if r.head.aj.any (tY m r)=is then(71,r.at_) else fi.z
theorem Ks(m:NM)(r:ax)(hb:r.size<=10000000):Pure prog 41 [ag r.c,.iv (xH m)] (ag (im m r).c):=by
 have B:r.body.length<=10000000:=by have:=Lit.aF r.body;unfold ax.size at hb;omega
 have G:r.head.aj.length<=10000000:=by unfold ax.size at hb;omega
 refine ai ab func41 Z (by decide) ntmps41 Z (by simp) Z ?_;refine gA Z ?_;refine aK 0 r.body.length (OL _) (fun i=>⟨[(1,.iv (xH m)),(2,.ptr 0 0),(4,.ptr 1 0),(13,.iv (lits r.body)),(14,pI r.body.length),(15,pI i)],[(0,co (ay r.c)),(1,co (ay fi.z.c))],2⟩) (fun i=>(r.body.take i).any (tJ m r)=jp) [] (by simp)
  (zW (zK (zK trivial))) fun i I y=>?_
 refine zJ Z Z (fun h1=>?_) fun h1=>?_
 .have h1:i<r.body.length:=by simpa using h1
  have D:(r.body.getD i ci).size<=10000000:=by have:=Lit.bR r.body i h1;unfold ax.size at hb;omega
  have C:=ke (r.body.getD i ci);refine gA Z (zp (zZ (r.body.getD i ci) (by omega)) ?_);refine gA Z ?_;refine aK 0 (named (r.body.getD i ci)).length (OL _) (fun k=>⟨[(1,.iv (xH m)),(2,.ptr 0 0),(4,.ptr 1 0),(6,.ptr 2 0),(13,.iv (lits r.body)),(14,pI r.body.length),(15,pI i),(20,.iv (strs (named (r.body.getD i ci)))),(21,pI (named (r.body.getD i ci)).length),(22,pI k)],[(0,co (ay r.c)),(1,co (ay fi.z.c)),(2,co (ay (r.body.getD i ci).c))],3⟩)
   (fun k=>kw ((r.body.getD i ci).kind≠1)=jp∨((named (r.body.getD i ci)).take k).any (fun t=>kw (dt .str m t 0=dt .str m r.head.rel 0))=jp) [] (.inr (by simp))
   (zW (zK (zK (zK trivial)))) fun k hk hK=>?_
  refine zJ Z Z (fun b=>?_) fun b=>?_
  .have b:k<(named (r.body.getD i ci)).length:=by simpa using b
   refine zJ Z Z (fun j=>?_) fun j=>?_
   .have j: ¬(r.body.getD i ci).kind=1:=by simpa using j
    have hK:=hK.resolve_left (by simpa using j);refine zJ Z Z (fun u=>?_) fun u=>?_
    .have u:dt .str m ((named (r.body.getD i ci)).getD k ci) 0=dt .str m r.head.rel 0:=zT u;have hs:tJ m r (r.body.getD i ci)=is:=by
      rw[tJ,decide_eq_true j,QP];exact A7 b (decide_eq_true u)
     rw[im,ma y h1 hs];exact zU Z
    .have u: ¬dt .str m ((named (r.body.getD i ci)).getD k ci) 0=dt .str m r.head.rel 0:=zF u;refine gA Z ⟨b,.inr ((cI hK b).2 (decide_eq_false u)),[],zW (zK (zK (zK ac)))⟩
   .have j:(r.body.getD i ci).kind=1:=by simpa using j
    refine gA Z ⟨b,.inl (decide_eq_false fun h=>h j),[],zW (zK (zK (zK ac)))⟩
  .have b:(named (r.body.getD i ci)).length<=k:=by simpa using b
   have hs:tJ m r (r.body.getD i ci)=jp:=by
    rcases hK with hK|hK
    .rw[tJ,hK,P6]
    .rw[tJ,any_none hK b,QU]
   refine gA Z ⟨h1,(cI y h1).2 hs,[],zW (zK (zK ac))⟩
 have h1:r.body.length<=i:=by simpa using h1
 have A:r.body.find? (tJ m r)=io:=ky (any_none y h1);rw[im,A];refine gA Z (zp (NZ r hb) ?_);refine gA Z ?_;refine aK 0 r.head.aj.length (OL _) (fun k=>⟨[(1,.iv (xH m)),(2,.ptr 0 0),(4,.ptr 1 0),(9,.iv (strs (jO r))),(49,.iv (bw 5 r.head.aj Term.c)),(50,pI r.head.aj.length),(51,pI k)],[(0,co (ay r.c)),(1,co (ay fi.z.c))],2⟩) (fun k=>(r.head.aj.take k).any (tY m r)=jp) [] (by simp)
  (zW (zK (zK trivial))) fun k hk hK=>?_
 refine zJ Z Z (fun b=>?_) fun b=>?_
 .have b:k<r.head.aj.length:=by simpa using b
  have no:tY m r (r.head.aj.getD k ci)=jp->(r.head.aj.take (k+1)).any (tY m r)=jp:=(cI hK b).2;refine zJ Z Z (fun j=>?_) fun j=>?_
  .have j:(r.head.aj.getD k ci).kind=1:=zT j;refine gA Z (zp (Bw (jO r) (r.head.aj.getD k ci).var) ?_);refine zJ Z Z (fun u=>?_) fun u=>?_
   .have u:(!du (jO r) (r.head.aj.getD k ci).var)=is:=u;refine gA Z (zp (Ku m r) ?_);refine zJ Z Z (fun x=>?_) fun x=>?_
    .have x:r.body.any (mR m r)=is:=x;rw[am (A7 b (by rw[tY,decide_eq_true j,u,x];rfl))];exact zU Z
    .have x:r.body.any (mR m r)=jp:=x;refine gA Z ⟨b,no (by rw[tY,x,QU]),[],zW (zK (zK ac))⟩
   .have u:(!du (jO r) (r.head.aj.getD k ci).var)=jp:=u;refine gA Z ⟨b,no (by rw[tY,u,QU,P6]),[],zW (zK (zK ac))⟩
  .have j: ¬(r.head.aj.getD k ci).kind=1:=zF j;refine gA Z ⟨b,no (by rw[tY,decide_eq_false j,P6,P6]),[],zW (zK (zK ac))⟩
 .have b:r.head.aj.length<=k:=by simpa using b
  rw[be (by rw[any_none hK b];decide)];exact zU Z
theorem find_congr{α:Type}{f g:α->Bool}: ∀{l:List α},(∀x∈l,f x=g x)->l.find? f=l.find? g
 | [],_=>rfl
 |x::l,h=>by
  rw[RA,RA,h x OH,find_congr fun y b=>h y (OF _ b)]
theorem tk{α:Type}{f g:α->Bool}{l:List α}(h: ∀x∈l,f x=g x):l.any f=l.any g:=by
 rw[PL,PI,PI];exact⟨fun⟨x,hx,h1⟩=>⟨x,hx,by rw[<-h x hx];exact h1⟩,fun⟨x,hx,h1⟩=>⟨x,hx,by rw[h x hx];exact h1⟩⟩
theorem vS{p:Prog}{a:ak}(h:a∈p.aQ.map Decl.name):a∈ns p:=by rw[ns,kf];exact h
theorem KJ{p:Prog}(hf:gr p){m:NM}(hR:Go.Rg.tw (ns p) (eg p) (fun a=>dt .str m a 0)){r:ax}(hr:r∈p.rules):r.body.any (mR m r)=yD p r:=by
 refine tk fun l hl=>?_;rw[mR];by_cases hk:l.kind=1
 .have b:l.atom.rel∈named l:=by rw[oL,am (.inl hk)];exact Qk _
  rw[qn hR (vS (hf.lits r hr l hl _ b)) (vS (hf.AA r hr))]
 .rw[decide_eq_false hk];rfl
theorem Cx{p:Prog}(hf:gr p){m:NM}(hR:Go.Rg.tw (ns p) (eg p) (fun a=>dt .str m a 0)){r:ax}(hr:r∈p.rules):im m r=vm p r:=by
 have h1:r.body.find? (tJ m r)=vv p r:=find_congr fun l hl=>by
  rw[tJ];congr 1;exact tk fun t j=>(qn hR (vS (hf.lits r hr l hl t j)) (vS (hf.AA r hr))).symm
 have b:r.head.aj.any (tY m r)=(p9 r&&yD p r):=by
  rw[<-KJ hf hR hr,p9];have:tY m r=fun t=>(kw (t.kind=1)&&!du (jO r) t.var)&&r.body.any (mR m r):=rfl;rw[this];generalize r.body.any (mR m r)=c;cases c<;>simp
 rw[im,vm,h1];cases vv p r with
 |some l=>rfl
 |none=>
  simp only[b,Pk]
theorem Kx(hS:fU){p:Prog}(hb:p.fit)(h: ¬(dP p).1=0):Pure prog 38 [ag p.c] (.bf [.iv (.v (.map io)),pB jp]):=by
 have:=Jd hS p hb;rwa[sL,be h,decide_eq_false h]at this
theorem Kw(hS:fU){p:Prog}(hb:p.fit)(h:(dP p).1=0):Pure prog 38 [ag p.c] (.bf [.iv (uZ (bX p (cG p))),pB is]):=by
 have:=Jd hS p hb;rwa[sL,am h,decide_eq_true h]at this
theorem rP{α β:Type}(f:α->List β)(g:α->Nat)(h: ∀a,(f a).length<=g a): ∀l:List α,(l.flatMap f).length<=(l.map g).sum
 | []=>OJ _
 |a::l=>by
  have h1:=rP f g h l;have b:=h a;rw[PB,Oy,OU,PM];omega
theorem uo: ∀l:List Lit,Lit.aE l=(l.map Lit.size).sum
 | []=>rfl
 |x::l=>by rw[Lit.aE,uo l,OU,PM]
theorem B4{p:Prog}(hs:p.size<=10000000):(cG p).length<=100000000:=by
 have h1:=rP (fun r:ax=>r.body.flatMap fun l=>(named l).map fun t=>(r.head.rel,t,kX l)) ax.size (fun r=>by
  have:=rP (fun l=>(named l).map fun t=>(r.head.rel,t,kX l)) Lit.size (fun l=>by rw[O3];exact ke l) r.body;rw[<-uo]at this
  unfold ax.size;omega) p.rules
 unfold Prog.size at hs;show(p.rules.flatMap _).length<=_;omega
theorem KE(hS:fU)(p:Prog)(hb:p.fit)(hs:p.size<=10000000):Pure prog 23 [ag p.c] (ag (s7 p).c):=by
 by_cases y:(dP p).1=0;rotate_left
 .rw[s7,am y];refine ai ab func23 Z (by decide) ntmps23 Z (by simp) Z ?_;refine gA Z (zp (Kx hS hb y) ?_);refine zE Z Z (fun A=>?_) fun A=>?_
  .cases A
  refine gA Z (zp (c24 p hb) ?_);exact zU Z
 have G:=AP y;have R:p.rules.length<=1000000000:=hb.2.1;rw[s7,be (by simpa using y)];refine ai ab func23 Z (by decide) ntmps23 Z (by simp) Z ?_;refine gA Z (zp (Kw hS hb y) ?_);refine zJ Z Z (fun A=>?_) fun A=>?_
 .cases A
 refine gA Z (oW [] (Kv hS G (B4 hs)) Z Z Z Z Z Z Z ?_);rintro r Y n' ⟨m,hR,rfl,rfl,rfl⟩;refine⟨_,rfl,?_⟩;have I:p.rules.map (im m)=p.rules.map (vm p):=QF fun r J=>Cx G hR J;rw[<-I]
 have x: ∀i,i<p.rules.length->(p.rules.map (im m)).getD i ci=im m (p.rules.getD i ci):=fun i D=>by
  rw[Ow,OC,Ox D,Ow,Ox D];rfl
 have b:(p.rules.map (im m)).length=p.rules.length:=O3 _;refine gA Z ?_;refine aK 0 p.rules.length (OL _) (fun i=>⟨[(1,.ptr 0 0),(2,.ptr 1 0),(5,.iv (xH m)),(21,.iv (bw 5 p.rules ax.c)),(22,pI p.rules.length),(23,pI i)],[(0,co (ay p.c)),(1,co (ay fi.z.c))],2⟩) (fun i=>((p.rules.map (im m)).take i).any (fun d=>kw (d.1≠0))=jp) [] (by simp)
  (zW (zK (zK trivial))) fun i D B=>?_
 refine zJ Z Z (fun h1=>?_) fun h1=>?_
 .have h1:i<p.rules.length:=by simpa using h1
  have u:=hb.2.2 _ (ku h1);have C:=x i h1;refine gA Z (zp (Ks m (p.rules.getD i ci) u.1) ?_);refine zJ Z Z (fun j=>?_) fun j=>?_
  .have j: ¬(im m (p.rules.getD i ci)).1=0:=by simpa using j
   rw[ma B (by rw[b];exact h1) (by rw[C];exact decide_eq_true j),C];exact zU Z
  .have j:(im m (p.rules.getD i ci)).1=0:=by simpa using j
   refine gA Z ⟨h1,(cI B (by rw[b];exact h1)).2 (by rw[C];simpa using j),[],zW (zK (zK ac))⟩
 .have h1:p.rules.length<=i:=by simpa using h1
  rw[ky (any_none B (by rw[b];exact h1))];exact zU Z
end Go.Proofs.YtllkaddcplhklaaGreatDoor
namespace Go.Proofs.YtllkaddcplhklaaGreatDoor
open Go Go.Al Go.Proofs.Tryz Go.Bo
section
theorem Mq(hS:fU)(p:Prog)(hb:p.fit)(hs:p.size<=10000000)(h0:(s7 p).1=0):bC prog 8 [ag p.c] [] (.bf [.ptr 1 0,pI 0]) (bH p 0 []) 2:=by
 refine au ab func8 Z (by decide) ntmps8 Z (by simp) ?_;refine gA Z (aB (KE hS p hb hs) Z Z Z Z Z Z ?_);refine gA Z ?_;refine Oz (fun b=>?_) (fun b=>?_)
 .exact absurd h0 (by simpa using b)
 refine gA Z (aB (Ky p (by omega)) Z Z Z Z Z Z ?_);refine gA Z (aY [1,2] (by first|exact .inr Z|exact .inl Z) Z (wk Z Z Z ⟨.of_eq Z,rfl,ac⟩ (K1 Z Ew Z ⟨⟨_,rfl,.of_eq Z⟩,Oq Z,rfl,ac⟩) Z))
abbrev j8(p:Prog)(S:List Fact)(l:List (bP Fact)):PV:= .bf [.iv (bw 3 (if eS aR (okF p) S l=0 then cz aR S l else[]) bL),pI (eS aR (okF p) S l)]
theorem uw{p:Prog}{S:List Fact}{l:List (bP Fact)}(h:eS aR (okF p) S l=0):(((mapOf (bS S l)).map (·.2)).Perm (cz aR S l))∧pf aR (cz aR S l)∧(∀x∈cz aR S l,x.2.args.length<=1000000000)∧(cz aR S l).length<=100000000:=by
 have b:=j9.1 h;refine⟨?_,iM mD S l,fun x j=>?_,by have:=CO (c:=aR) S l;omega⟩
 .rw[PT];have:(Prod.snd ∘ fun x:bP Fact=>(bn x.2,x))=id:=rfl;rw[this,List.map_id];exact kU mD S l
 .have:x.2.args.length<=8:=gX (b.2.1 _ (ep ((fx mD (a:=x.1) (f:=x.2)).1 j).1));omega
section
variable (p:Prog) (n:Nat) {m:FM} {S:List Fact} (l:List (bP Fact)) (hb:p.aQ.length<=1000000000) (hk:cX bn m S) (hS:Go.Bo.gr aR (okF p) S) (hF: ∀x∈l,x.2.args.length<=1000000000)
include hb hk hS hF
theorem Mr:bC prog 11 [.ptr 1 0,.iv (bw 3 l bL)] (bO p n m) (j8 p S l) (bH p n m) 2:=by
 have h1:=Ms p n l hb hk hS hF;by_cases b:eS aR (okF p) S l=0
 .obtain⟨u,x,y,A⟩:=uw b;rw[vT b]at h1;have e:j8 p S l= .bf [.iv (bw 3 (cz aR S l) bL),pI 0]:=by unfold j8;rw[am b,b]
  rw[e];refine au ab func11 Z (by decide) ntmps11 Z (by simp) ?_;refine gA Z (bJ [0,1] (h1) Z Z Z Z Z Z Z Z ?_);refine gA Z ?_;refine Oz (fun j=>?_) (fun j=>?_)
  .exact absurd j (by decide)
  refine gA Z (aB (Jc u x y A) Z Z Z Z Z Z ?_);refine gA Z (aY [] (by first|exact .inr Z|exact .inl Z) Z (wk Z Z Z (bi ac) (hM Z Z Z ⟨⟨_,rfl,.of_eq Z⟩,Oq Z,rfl,ac⟩) Z))
 .rw[oK Z b]at h1;have e:j8 p S l= .bf [.iv (bw 3 [] bL),pI (eS aR (okF p) S l)]:=by unfold j8;rw[be b]
  rw[e];refine au ab func11 Z (by decide) ntmps11 Z (by simp) ?_;refine gA Z (bJ [0,1] (h1) Z Z Z Z Z Z Z Z ?_);refine gA Z ?_;refine Oz (fun j=>?_) (fun j=>?_);rotate_left
  .exact absurd (by simpa using j) b
  refine gA Z (aY [] (by first|exact .inr Z|exact .inl Z) Z (wk Z Z Z ⟨.bf ⟨.nil _ _,.refl _,ac⟩,rfl,ac⟩ (hM Z Z Z ⟨⟨_,rfl,.of_eq Z⟩,Oq Z,rfl,ac⟩) Z))
end
end
section
def wZ(m:FM)(x:bP Fact):FM:=if x.1=is then ct kF m (bn x.2) x.2 else jv kF m (bn x.2)
def C4(S:List Fact)(x:bP Fact):List Fact:=if x.1=is then x.2::S else S.erase x.2
def lr(m:FM)(M:CM):List Nat->FM
 | []=>m
 |j::vs=>wZ (lr m M vs) (kC M j)
def jU(S:List Fact)(M:CM):List Nat->List Fact
 | []=>S
 |j::vs=>C4 (jU S M vs) (kC M j)
section
variable {S:List Fact} {T:List (bP Fact)}
theorem zb{j:Nat}(hj:j<T.length): ∃x,T[j]? =co x∧kC (mapOf T) j=x:=by
 refine⟨T[j],Ox hj,?_⟩;unfold kC mapOf;rw[Ow,OC,Ox hj];rfl
structure Nn (S:List Fact) (T:List (bP Fact)):Prop where
 nd:(T.map (·.2)).Nodup
 Nq: ∀x∈T,kw (x.2∈S)≠x.1
 s8: ∀f∈S,f.args.length<=8
 t8: ∀x∈T,x.2.args.length<=8
theorem Nn.one(h:Nn S T){i j:Nat}{x y:bP Fact}(hi:T[i]? =co x)(hj:T[j]? =co y)(e:x.2=y.2):i=j:=by
 have C:=PH.1 h.nd;obtain⟨u,b⟩:=Ov.1 hi;obtain⟨B,A⟩:=Ov.1 hj;rcases QR i j with g|g|g
 .exact absurd (by rw[PQ,PQ,b,A];exact e) (C i j (by simpa using u) (by simpa using B) g)
 .exact g
 .exact absurd (by rw[PQ,PQ,b,A];exact e.symm) (C j i (by simpa using B) (by simpa using u) g)
theorem om(h:Nn S T)(hS:S.Nodup): ∀{vs:List Nat},vs.Nodup->(∀j∈vs,j<T.length)->(jU S (mapOf T) vs).Nodup∧ ∀f,f∈jU S (mapOf T) vs↔(∃j∈vs,T[j]? =co (is,f))∨(f∈S∧ ¬ ∃j∈vs,T[j]? =co (jp,f))
 | [],_,_=>⟨hS,fun f=>by simp[jU]⟩
 |j::vs,hn,hv=>by
  rw[O7]at hn;obtain⟨i1,i2⟩:=om h hS hn.2 fun i hi=>hv i (OF _ hi);obtain⟨x,y,D⟩:=zb (hv j (OH ..));have C:=h.Nq x (O9 y);have u: ∀i∈vs,∀b,T[i]? ≠co (b,x.2):=fun i hi b e=>hn.1 ((h.one e y Z)▸hi);simp only[jU,D,C4];obtain⟨b,g⟩:=x
  cases b with
  |true=>
   simp only[if_true];have A:g∉S:=fun m=>C (decide_eq_true m)
   have B:g∉jU S (mapOf T) vs:=fun m=>by
    rcases(i2 g).1 m with⟨i,hi,e⟩|⟨m2,_⟩
    .exact u i hi is e
    .exact A m2
   refine⟨O7.2 ⟨B,i1⟩,fun f=>?_⟩;rw[OG,i2];constructor
   .rintro(rfl|⟨i,hi,e⟩|⟨m,k⟩)
    .exact .inl ⟨j,OH ..,y⟩
    .exact .inl ⟨i,OF _ hi,e⟩
    .refine .inr ⟨m,?_⟩;rintro⟨i,hi,e⟩;rcases OG.1 hi with rfl|hi
     .rw[y]at e;cases e
     .exact k ⟨i,hi,e⟩
   .rintro(⟨i,hi,e⟩|⟨m,k⟩)
    .rcases OG.1 hi with rfl|hi
     .rw[y]at e;cases e;exact .inl Z
     .exact .inr (.inl ⟨i,hi,e⟩)
    .exact .inr (.inr ⟨m,fun⟨i,hi,e⟩=>k ⟨i,OF _ hi,e⟩⟩)
  |false=>
   simp only[PX,if_false];refine⟨i1.erase g,fun f=>?_⟩;rw[i1.mem_erase_iff,i2];constructor
   .rintro⟨hne,⟨i,hi,e⟩|⟨m,k⟩⟩
    .exact .inl ⟨i,OF _ hi,e⟩
    .refine .inr ⟨m,?_⟩;rintro⟨i,hi,e⟩;rcases OG.1 hi with rfl|hi
     .rw[y]at e;cases e;exact hne Z
     .exact k ⟨i,hi,e⟩
   .rintro(⟨i,hi,e⟩|⟨m,k⟩)
    .rcases OG.1 hi with rfl|hi
     .rw[y]at e;cases e
     .refine⟨?_,.inl ⟨i,hi,e⟩⟩;rintro rfl;exact u i hi is e
    .refine⟨?_,.inr ⟨m,fun⟨i,hi,e⟩=>k ⟨i,OF _ hi,e⟩⟩⟩;rintro rfl;exact k ⟨j,OH ..,y⟩
theorem qP{m:FM}(hk:cX bn m S)(h:Nn S T)(hS:S.Nodup): ∀{vs:List Nat},vs.Nodup->(∀j∈vs,j<T.length)->cX bn (lr m (mapOf T) vs) (jU S (mapOf T) vs)∧ ∀f∈jU S (mapOf T) vs,f.args.length<=8
 | [],_,_=>⟨hk,h.s8⟩
 |j::vs,hn,hv=>by
  have y:=O7.1 hn;obtain⟨I,D⟩:=qP hk h hS y.2 fun i A=>hv i (OF _ A);have R:=(om h hS y.2 fun i A=>hv i (OF _ A)).2;obtain⟨x,G,J⟩:=zb (hv j (OH ..));have B:=O9 G;have C:=h.Nq x B;have b: ∀u∈jU S (mapOf T) vs,bn u=bn x.2->u=x.2:=fun u hu e=>oQ (D u hu) e;simp only[lr,jU,J,wZ,C4];by_cases hb:x.1=is
  .rw[am hb,am hb];refine⟨I.put b fun m2=>?_,fun f hf=>?_⟩
   .rcases(R x.2).1 m2 with⟨i,A,e⟩|⟨m3,_⟩
    .exact y.1 (h.one e G Z▸A)
    .exact C (by rw[hb];exact decide_eq_true m3)
   .rcases OG.1 hf with rfl|hf
    .exact h.t8 x B
    .exact D f hf
  .rw[be hb,be hb];exact⟨I.del b,fun f hf=>D f (List.mem_of_mem_erase hf)⟩
end
theorem EB{p:Prog}{S:List Fact}{l:List (bP Fact)}(hS:Go.Bo.gr aR (okF p) S)(h:eS aR (okF p) S l=0):Nn S (bS S l):=by
 have u:(bS S l).Perm (cz aR S l):=kU mD S l;have y:=j9.1 h;have j: ∀x∈bS S l,cU l x.2=co x.1∧kw (x.2∈S)≠x.1:=fun x b=>(fx mD (a:=x.1) (f:=x.2)).1 (u.mem_iff.1 b);exact⟨((u.map (·.2)).nodup_iff).2 ((pf.facts (iM mD S l)).nodup mD),fun x b=>(j x b).2,fun f A=>gX (hS.ok f A),fun x b=>gX (y.2.1 _ (ep (j x b).1))⟩
theorem Cn{p:Prog}{m:FM}{S:List Fact}{l:List (bP Fact)}(hk:cX bn m S)(hS:Go.Bo.gr aR (okF p) S)(h:eS aR (okF p) S l=0){vs:List Nat}(A:vs.Nodup)(v2: ∀j∈vs,j<(bS S l).length)(v3: ∀j,j<(bS S l).length->j∈vs):
  cX bn (lr m (mapOf (bS S l)) vs) (dS aR S l):=by
 have x:=EB hS h;have u:=hS.Gw.nodup mD;have B:(bS S l).Perm (cz aR S l):=kU mD S l;obtain⟨C,_⟩:=qP hk x u A v2;obtain⟨G,I⟩:=om x u A v2;refine C.perm ((PZ G ((oy mD S l).nodup mD)).2 fun f=>?_);have hT: ∀b:Bool,(∃j∈vs,(bS S l)[j]? =co (b,f))↔cU l f=co b∧kw (f∈S)≠b:=fun b=>by
  rw[<-fx mD,<-B.mem_iff];constructor
  .rintro⟨j,_,e⟩;exact O9 e
  .intro D;obtain⟨j,y⟩:=Pj D;exact⟨j,v3 j (Ov.1 y).1,y⟩
 rw[I,kg mD,hT,hT];cases e:cU l f with
 |none=>simp
 |some b=>cases b<;>by_cases g:f∈S<;>simp[g]
theorem rV(p:Prog)(n:Nat){m:FM}{S:List Fact}(l:List (bP Fact))(hb:p.aQ.length<=1000000000)(hk:cX bn m S)(hS:Go.Bo.gr aR (okF p) S)(hF: ∀x∈l,x.2.args.length<=1000000000)(hn:n<=1000000000000):
  Al.Fn prog 10 [.ptr 1 0,.iv (bw 3 l bL)] (bO p n m) fun r h k=> ∃m',cX bn m' (iC aR (okF p) (S,n) l).1∧r=j8 p S l∧h=bH p (iC aR (okF p) (S,n) l).2 m'∧k=2:=by
 have h1:=Ms p n l hb hk hS hF;by_cases b:eS aR (okF p) S l=0;rotate_left
 .rw[oK Z b]at h1;have e:j8 p S l= .bf [.iv (bw 3 [] bL),pI (eS aR (okF p) S l)]:=by unfold j8;rw[be b]
  have J:iC aR (okF p) (S,n) l=(S,n):=by unfold iC;rw[be b]
  rw[e,J];refine od ab func10 Z (by decide) ntmps10 Z (by simp) ?_;refine gA Z (bJ [0,1] (h1) Z Z Z Z Z Z Z Z ?_);refine gA Z ?_;refine Oz (fun I=>?_) (fun I=>?_);rotate_left
  .exact absurd (by simpa using I) b
  refine gA Z (ry [] (.inr Z) Z ⟨m,hk,rfl,rfl,rfl⟩ (wk Z Z Z ⟨.bf ⟨.nil _ _,.refl _,ac⟩,rfl,ac⟩ (hM Z Z Z ⟨⟨_,rfl,.of_eq Z⟩,Oq Z,rfl,ac⟩) Z))
 obtain⟨q1,q2,q3,q4⟩:=uw b;have b0:=q1.length_eq;rw[O3,O3]at b0;rw[vT b]at h1;have e:j8 p S l= .bf [.iv (bw 3 (cz aR S l) bL),pI 0]:=by unfold j8;rw[am b,b]
 have J:iC aR (okF p) (S,n) l=(dS aR S l,n+1):=by unfold iC;rw[am b]
 rw[e,J];have R: ∀x∈bS S l,x.2.args.length<=8:=(EB hS b).t8;refine od ab func10 Z (by decide) ntmps10 Z (by simp) ?_;refine gA Z (bJ [0,1] (h1) Z Z Z Z Z Z Z Z ?_);refine gA Z ?_;refine Oz (fun I=>?_) (fun I=>?_)
 .exact absurd I (by decide)
 refine gA Z ?_;refine eU (mapOf (bS S l)) (fun vs=>⟨[(0,.ptr 1 0),(6,.iv (yf (mapOf (bS S l)))),(20,.ptr 2 0)],[(0,co (eW (lr m (mapOf (bS S l)) vs))),(1,co (gx p n 0)),(2,co (.bF kF yg (mapOf (bS S l)) vs io))],3⟩) (fun vs=>vs.Nodup∧ ∀j∈vs,j<(mapOf (bS S l)).length) [] ⟨Pe,by simp⟩
  (wk Z Z Z (bi (bi (bi trivial))) (hM Z Z Z ⟨⟨_,rfl,.of_eq Z⟩,Oq Z,rfl,hI Z Z (.inl Z) Z trivial⟩) Z) fun vs hJ=>?_
 obtain⟨v1,v2⟩:=hJ;refine fk Z ac (dm Z Z Z Z Z (by decide) (fun C=>?_) fun j x A B=>?_)
 .have Y:=Cn hk hS b v1 (fun j B=>by have:=v2 j B;rwa[O3]at this) (fun j B=>C j (by rwa[O3]));refine gA Z (aB (Jc q1 q2 q3 q4) Z Z Z Z Z Z ?_);refine gA Z (ry [] (.inr Z) Z ⟨_,Y,rfl,rfl,rfl⟩ (wk Z Z Z (bi ac) (hM Z Z Z ⟨⟨_,rfl,.of_eq Z⟩,Oq Z,rfl,ac⟩) Z))
 .have e0:x.2=kC (mapOf (bS S l)) j:=by rw[kC,Ow,A];rfl
  have a0: ∀u,u=j::vs->u.Nodup∧ ∀i∈u,i<(mapOf (bS S l)).length:=fun u e=>e▸⟨O7.2 ⟨B,v1⟩,fun i hi=>(OG.1 hi).elim (fun h=>h▸(Ov.1 A).1) (v2 i)⟩;have D:=(Ov.1 A).1;rw[O3]at D;obtain⟨y,hy,d0⟩:=zb D
  have c0:x=(bn y.2,y):=by
   have:(mapOf (bS S l))[j]? =co (bn y.2,y):=by unfold mapOf;rw[OC,hy];rfl
   rw[this]at A;exact(Pf A).symm
  subst c0;have f0:=R y (O9 hy);have G:lr m (mapOf (bS S l)) (j::vs)=wZ (lr m (mapOf (bS S l)) vs) y:=by rw[lr,d0]
  refine gA Z ?_;refine Oz (fun g1=>?_) (fun g1=>?_)
  .have g1:y.1=is:=g1;refine gA Z (bA ab [] (Pure.tC (mF y.2 (by omega))) Z Z Z Z Z Z Z Z Z Z Z Z (by(repeat' (first|exact ac|exact rfl|exact an.refl _|exact an.bk (by assumption)|apply Oz))<;>first|omega|(simp only[OA];omega)|(simp;done)|(simp;omega)) Z (by(repeat' (first|exact ac|exact rfl|exact an.refl _|exact an.bk (by assumption)|apply Oz))<;>first|omega|(simp only[OA];omega)|(simp;done)|(simp;omega)) ?_);refine fk Z ?_ ?_
   .repeat' (first|exact ac|exact rfl|exact Ex _|exact an.refl _|apply Oz)
   exact⟨j,_,A,B,a0 _ Z,[],wk Z Z Z (bi (bi (bi ac))) (hM Z (by rw[G,wZ,am g1];exact congrArg (ct kF (lr m (mapOf (bS S l)) vs) (bn y.2)) (EC y.2)) Z ⟨⟨_,rfl,.of_eq Z⟩,Oq Z,rfl,hI Z Z (.inr Z) Z ac⟩) Z⟩
  .have g1:y.1=jp:=g1;refine gA Z ⟨j,_,A,B,a0 _ Z,[],wk Z Z Z (bi (bi (bi ac))) (hM Z (by rw[G,wZ,be (by rw[g1];decide)];rfl) Z ⟨⟨_,rfl,.of_eq Z⟩,Oq Z,rfl,hI Z Z (.inr Z) Z ac⟩) Z⟩
end
section
abbrev ES:AO:= .cells [aA]
theorem NA(x y:Fact)(b:x.args.length<=1000000000)(j:y.args.length<=1000000000):bC prog 58 [ag x.c,ag y.c,.ptr 0 0] [ES] (pB (kw (aR x y=0))) [(0,co ES)] 1:=by
 refine au ab func58 Z (by decide) ntmps58 Z (by simp) ?_;refine gA Z (aB (qm x y b j) Z Z Z Z Z Z ?_);refine gA Z (aY [] (by first|exact .inr Z|exact .inl Z) Z (wk Z Z Z (bi ac) ⟨⟨_,rfl,.of_eq Z⟩,Oq Z,rfl,ac⟩ Z))
section
variable {L:List Fact} (hs:qd aR L) (hF:zk L) (hl:L.length<=1000000000)
include hs hF hl
theorem Df:bC prog 57 [bb L,.b4 (.func 58) [] [.ptr 0 0]] [ES] (bb L) [(0,co ES)] 1:=by
 refine au ab func57 Z (by decide) ntmps57 Z (by simp) ?_;refine gA Z ?_;refine Oz (fun x=>?_) (fun x=>?_)
 .refine gA Z (aY [] (by first|exact .inr Z|exact .inl Z) Z (wk Z Z Z (bi ac) ⟨⟨_,rfl,.of_eq Z⟩,Oq Z,rfl,ac⟩ Z))
 refine gA Z ?_;refine aK 1 (max 1 L.length) (Nat.le_max_left _ _) (fun i=>⟨[(0,bb L),(1,.b4 (.func 58) [] [.ptr 0 0]),(5,pI i)],[(0,co ES)],1⟩) (fun i=>1<=i) [] (OJ _)
  (wk Z Z Z (bi (bi (bi trivial))) ⟨⟨_,rfl,.of_eq Z⟩,Oq Z,rfl,ac⟩ Z) fun i A y=>?_
 refine gA Z ?_;refine Oz (fun h1=>?_) (fun h1=>?_)
 .have h1:i<L.length:=by simpa using h1
  have e:((i:Int)-1).toNat=i-1:=by omega
  refine gA Z (bA ab [0] (NA (L.getD i ci) (L.getD ((i:Int)-1).toNat ci) (hF.at (by omega)) (hF.at (by omega))) Z Z Z Z Z Z Z Z Z Z Z Z (by(repeat' (first|exact ac|exact rfl|exact an.refl _|exact an.bk (by assumption)|apply Oz))<;>first|omega|(simp only[OA];omega)|(simp;done)|(simp;omega)) Z (by(repeat' (first|exact ac|exact rfl|exact an.refl _|exact an.bk (by assumption)|apply Oz))<;>first|omega|(simp only[OA];omega)|(simp;done)|(simp;omega)) ?_);refine gA Z ?_;refine Oz (fun b=>?_) (fun b=>?_)
  .have b:aR (L.getD i ci) (L.getD ((i:Int)-1).toNat ci)=0:=of_decide_eq_true b;rw[e]at b;have u:=(PH.1 hs) (i-1) i (by omega) h1 (by omega);have j:=(mD.eq _ _).1 b;rw[Ow,Ow,Ox h1,Ox (by omega:i-1<L.length)]at j;have j:L[i]=L[i-1]:=j;rw[j]at u;exact absurd u (mD.Jl _)
  .refine gA Z ?_;exact⟨by omega,by omega,[],wk Z Z Z (bi (bi (bi ac))) ⟨⟨_,rfl,.of_eq Z⟩,Oq Z,rfl,ac⟩ Z⟩
 .refine gA Z (aY [] (by first|exact .inr Z|exact .inl Z) Z (wk Z Z Z (bi ac) ⟨⟨_,rfl,.of_eq Z⟩,Oq Z,rfl,ac⟩ Z))
omit hs hF in
theorem MD:Pure prog 56 [bb L] (bb L):=by
 refine ai ab func56 Z (by decide) ntmps56 Z (by simp) Z ?_;refine gA Z (aT (by first|exact .inr Z|exact .inl Z) Z ?_);exact .ck (by simp) (fun k _=>rfl)
theorem zX:Pure prog 33 [bb L,aA] (bb L):=by
 refine ai ab func33 Z (by decide) ntmps33 Z (by simp) Z ?_;refine gA Z (aB (GK L (by omega)) Z Z Z Z Z Z ?_);refine gA Z (aB (C9 (Ly hs) hF (by omega)) Z Z Z Z Z Z ?_);refine gA Z (bJ [0] (Df hs hF hl) Z Z Z Z Z Z Z Z ?_);refine gA Z (aB (MD hl) Z Z Z Z Z Z ?_);refine gA Z (aT (by first|exact .inr Z|exact .inl Z) Z (.of_eq ?_));rfl
end
def K7:List Fact->List Fact->Int
 | [],_=>1
 |_::_,[]=> -1
 |x::_,y::_=>aR x y
theorem yA: ∀(A B:List Fact) (u:zk A) (C:zk B),Pure prog 35 [bb A,bb B] (pI (K7 A B))
 | [],B,_,_=>by
  refine ai ab func35 Z (by decide) ntmps35 Z (by simp) Z ?_;refine gA Z ?_;refine Oz (fun b=>?_) (fun b=>?_)
  .refine gA Z (aT (by first|exact .inr Z|exact .inl Z) Z (.of_eq ?_));rfl
  .exact absurd b (by simp)
 |x::A,[],_,_=>by
  refine ai ab func35 Z (by decide) ntmps35 Z (by simp) Z ?_;refine gA Z ?_;refine Oz (fun b=>?_) (fun b=>?_)
  .exact absurd b (by simp;omega)
  refine gA Z ?_;refine Oz (fun j=>?_) (fun j=>?_)
  .refine gA Z (aT (by first|exact .inr Z|exact .inl Z) Z (.of_eq ?_));rfl
  .exact absurd j (by simp)
 |x::A,y::B,u,C=>by
  refine ai ab func35 Z (by decide) ntmps35 Z (by simp) Z ?_;refine gA Z ?_;refine Oz (fun b=>?_) (fun b=>?_)
  .exact absurd b (by simp;omega)
  refine gA Z ?_;refine Oz (fun j=>?_) (fun j=>?_)
  .exact absurd j (by simp;omega)
  refine gA Z (bA ab [] (Pure.tC (qm x y (u x (OH ..)) (C y (OH ..)))) Z Z Z Z Z Z Z Z Z Z Z Z (by(repeat' (first|exact ac|exact rfl|exact an.refl _|exact an.bk (by assumption)|apply Oz))<;>first|omega|(simp only[OA];omega)|(simp;done)|(simp;omega)) Z (by(repeat' (first|exact ac|exact rfl|exact an.refl _|exact an.bk (by assumption)|apply Oz))<;>first|omega|(simp only[OA];omega)|(simp;done)|(simp;omega)) ?_);refine gA Z (aT (by first|exact .inr Z|exact .inl Z) Z (.of_eq ?_));rfl
end
theorem kA{x:Fact}{A:List Fact}(h:zk (x::A)):zk A:=fun f b=>h f (OF _ b)
theorem pR(x:Fact)(A:List Fact):an (.iv (.ck 2 ((x::A).length-(1:Int).toNat) fun k=>(fun k=>Fact.c ((x::A).getD k ci)) ((1:Int).toNat+k))) (bb A):=
 .ck (by simp) fun k _=>by
  show Fact.c ((x::A).getD (1+k) ci)=_;rw[Nat.add_comm];rfl
abbrev btS(A B:List Fact)(out:List (bP Fact)):AS:=⟨[(5,bb A),(6,bb B),(7,.sl 1 0 out.length 3)],[(1,co (aP 3 out bL))],2⟩
theorem Dj(A B:List Fact)(hA:qd aR A)(hB:qd aR B)(Y:zk A)(fB:zk B)(lA:A.length<=1000000)(lB:B.length<=1000000):Pure prog 19 [bb A,bb B] (.iv (bw 3 (c6 aR A B) bL)):=by
 obtain⟨R,J⟩: ∃R,R=c6 aR A B:=⟨_,rfl⟩
 rw[<-J];refine ai ab func19 Z (by decide) ntmps19 Z (by simp) Z ?_;refine gA Z (aB (zX hA Y (by omega)) Z Z Z Z Z Z ?_);refine gA Z (aB (zX hB fB (by omega)) Z Z Z Z Z Z ?_);refine gM 6 Z (kY 7 3 Z ?_)
 refine gA Z (gi (σ:={s:List Fact×List Fact×List (bP Fact)//zk s.1∧zk s.2.1∧R=s.2.2++c6 aR s.1 s.2.1∧s.1.length+s.2.1.length+s.2.2.length<=2000000}) (fun s=>btS s.1.1 s.1.2.1 s.1.2.2) (fun s=>s.1.1.length+s.1.2.1.length) ⟨(A,B,[]),Y,fB,J,by simp;omega⟩ [0]
  (wk Z Z Z (bi (bi (bi ac))) (hR Z Z Z ac) Z) fun s=>?_)
 obtain⟨⟨C,D,a0⟩,b,j,G,u⟩:=s;have b:zk C:=b;have j:zk D:=j;have G:R=a0++c6 aR C D:=G;have u:C.length+D.length+a0.length<=2000000:=u;show GO _ _ _ _ (btS C D a0)
 match C,D,b,j,G,u with
 | [],[],b,j,G,u=>
  refine gA Z ?_;refine Oz (fun g1=>?_) (fun g1=>?_);rotate_left
  .exact absurd g1 (by simp)
  refine gA Z ?_;refine Oz (fun g2=>?_) (fun g2=>?_)
  .exact absurd g2 (by simp)
  rw[kM,Qo,Pt]at G;subst G;refine gA Z (dq (by first|exact .inr Z|exact .inl Z) Z Z (rfl) (rfl))
 | [],y::D,b,j,G,u=>
  have hy:=j y (OH ..);have I:R=(a0++ [(is,y)])++c6 aR [] D:=by rw[G,kM,kM,OU,OS];rfl
  simp only[O6,P0]at u;refine gA Z ?_;refine Oz (fun g1=>?_) (fun g1=>?_);rotate_left
  .exact absurd g1 (by simp)
  refine gA Z ?_;refine Oz (fun g2=>?_) (fun g2=>?_);rotate_left
  .exact absurd g2 (by simp)
  refine gA Z (aB (yA [] (y::D) b j) Z Z Z Z Z Z ?_);refine gA Z ?_;refine Oz (fun g3=>?_) (fun g3=>?_)
  .exact absurd (of_decide_eq_true g3) (by show¬(1:Int)<0;decide)
  refine gA Z ?_;refine Oz (fun g4=>?_) (fun g4=>?_);rotate_left
  .exact absurd (show(1:Int)>0 by decide) (of_decide_eq_false g4)
  refine gA Z (aB (mF y (by omega)) Z Z Z Z Z Z ?_);refine gA Z ?_;exact⟨⟨([],D,a0++ [(is,y)]),b,kA j,I,by simp;omega⟩,[3],by show _<_;simp,wk Z Z Z (bi ⟨pR y D,rfl,.row (by simp),rfl,ac⟩) (Eb Z (by rw[OM];exact(cy.refl _).app ⟨⟨.kb _,.refl _,.refl _,ac⟩,ac⟩) Z ac) Z⟩
 |x::C,[],b,j,G,u=>
  have hx:=b x (OH ..);have I:R=(a0++ [(jp,x)])++c6 aR C []:=by rw[G,qw,qw,OU,OS];rfl
  simp only[O6,P0]at u;refine gA Z ?_;refine Oz (fun g1=>?_) (fun g1=>?_)
  .exact absurd g1 (by simp)
  refine gA Z (aB (yA (x::C) [] b j) Z Z Z Z Z Z ?_);refine gA Z ?_;refine Oz (fun g3=>?_) (fun g3=>?_);rotate_left
  .exact absurd (show(-1:Int)<0 by decide) (of_decide_eq_false g3)
  refine gA Z (aB (mF x (by omega)) Z Z Z Z Z Z ?_);refine gA Z ?_;exact⟨⟨(C,[],a0++ [(jp,x)]),kA b,j,I,by simp;omega⟩,[3],by show _<_;simp,wk Z Z Z ⟨pR x C,rfl,bi ⟨.row (by simp),rfl,ac⟩⟩ (Eb Z (by rw[OM];exact(cy.refl _).app ⟨⟨.refl _,.refl _,.refl _,ac⟩,ac⟩) Z ac) Z⟩
 |x::C,y::D,b,j,G,u=>
  have hx:=b x (OH ..);have hy:=j y (OH ..);simp only[O6]at u;rw[qx]at G;refine gA Z ?_;refine Oz (fun g1=>?_) (fun g1=>?_)
  .exact absurd g1 (by simp)
  refine gA Z (aB (yA (x::C) (y::D) b j) Z Z Z Z Z Z ?_);refine gA Z ?_;refine Oz (fun g3=>?_) (fun g3=>?_)
  .have g3:aR x y<0:=of_decide_eq_true g3;rw[am g3]at G;have I:R=(a0++ [(jp,x)])++c6 aR C (y::D):=by rw[G,OS];rfl
   refine gA Z (aB (mF x (by omega)) Z Z Z Z Z Z ?_);refine gA Z ⟨⟨(C,y::D,a0++ [(jp,x)]),kA b,j,I,by simp;omega⟩,[3],by show _<_;simp,wk Z Z Z ⟨pR x C,rfl,bi ⟨.row (by simp),rfl,ac⟩⟩ (Eb Z (by rw[OM];exact(cy.refl _).app ⟨⟨.refl _,.refl _,.refl _,ac⟩,ac⟩) Z ac) Z⟩
  have g3: ¬aR x y<0:=of_decide_eq_false g3;rw[be g3]at G;refine gA Z ?_;refine Oz (fun g4=>?_) (fun g4=>?_)
  .have g4:0<aR x y:=of_decide_eq_true g4;rw[am g4]at G;have I:R=(a0++ [(is,y)])++c6 aR (x::C) D:=by rw[G,OS];rfl
   refine gA Z (aB (mF y (by omega)) Z Z Z Z Z Z ?_);refine gA Z ⟨⟨(x::C,D,a0++ [(is,y)]),b,kA j,I,by simp;omega⟩,[3],by show _<_;simp,wk Z Z Z (bi ⟨pR y D,rfl,.row (by simp),rfl,ac⟩) (Eb Z (by rw[OM];exact(cy.refl _).app ⟨⟨.kb _,.refl _,.refl _,ac⟩,ac⟩) Z ac) Z⟩
  .have g4: ¬0<aR x y:=of_decide_eq_false g4;rw[be g4]at G;refine gA Z ⟨⟨(C,D,a0),kA b,kA j,G,by simp;omega⟩,[1],by show _<_;simp;omega,wk Z Z Z ⟨pR x C,rfl,pR y D,rfl,bi ac⟩ (hR Z Z Z ac) Z⟩
theorem CS{α:Type}[Inhabited α]{a b:List α}(hl:a.length=b.length)(h: ∀j,j<a.length->a.getD j ci=b.getD j ci):a=b:=by
 refine Rb hl fun i h1 u=>?_;have:=h i h1;rwa[Ow,Ow,Ox h1,Ox u]at this
theorem DJ{α:Type}[Inhabited α]{a b:List α}{i:Nat}(h: ¬a.getD i ci=b.getD i ci):a≠b:=fun e=>h (by rw[e])
theorem yy(a b:List c8)(ha:a.length<=1000000000):Pure prog 37 [.iv (bw 3 a c8.c),.iv (bw 3 b c8.c)] (pB (kw (a=b))):=by
 refine ai ab func37 Z (by decide) ntmps37 Z (by simp) Z ?_;refine gA Z ?_;refine Oz (fun u=>?_) (fun u=>?_)
 .have u: ¬a.length=b.length:=by
   intro e;have g:(!kw ((a.length:Int)=(b.length:Int)))=is:=u;rw[e]at g;simp at g
  rw[decide_eq_false fun e=>u (by rw[e])];refine gA Z (aT (by first|exact .inr Z|exact .inl Z) Z (.of_eq ?_));rfl
 have u:a.length=b.length:=by
  have g:(!kw ((a.length:Int)=(b.length:Int)))=jp:=u;rw[Qe,decide_eq_true_eq]at g;exact Int.ofNat_inj.1 g
 refine gA Z ?_;refine aK 0 a.length (OL _) (fun i=>⟨[(0,.iv (bw 3 a c8.c)),(1,.iv (bw 3 b c8.c)),(5,pI i)],[],0⟩) (fun i=> ∀j,j<i->a.getD j ci=b.getD j ci) [] (fun j A=>absurd A (Qv j))
  (wk Z Z Z (bi (bi (bi trivial))) trivial Z) fun i G C=>?_
 refine gA Z ?_;refine Oz (fun h1=>?_) (fun h1=>?_)
 .have h1:i<a.length:=by simpa using h1
  have D:(kw ((a.getD i ci).kind=(b.getD i ci).kind)&&(kw ((a.getD i ci).num=(b.getD i ci).num)&&(kw ((a.getD i ci).sym=(b.getD i ci).sym)&&is)))=kw (a.getD i ci=b.getD i ci):=by
   generalize a.getD i ci=x;generalize b.getD i ci=y;cases x;cases y;simp[c8.mk.injEq]
  refine gA Z ?_;refine Oz (fun B=>?_) (fun B=>?_)
  .have g:(!(kw ((a.getD i ci).kind=(b.getD i ci).kind)&&(kw ((a.getD i ci).num=(b.getD i ci).num)&&(kw ((a.getD i ci).sym=(b.getD i ci).sym)&&is))))=is:=B;rw[D]at g;have g: ¬a.getD i ci=b.getD i ci:=by simpa using g
   rw[decide_eq_false (DJ g)];refine gA Z (aT (by first|exact .inr Z|exact .inl Z) Z (.of_eq ?_));rfl
  .have g:(!(kw ((a.getD i ci).kind=(b.getD i ci).kind)&&(kw ((a.getD i ci).num=(b.getD i ci).num)&&(kw ((a.getD i ci).sym=(b.getD i ci).sym)&&is))))=jp:=B;rw[D]at g;have g:a.getD i ci=b.getD i ci:=by simpa using g
   refine gA Z ⟨h1,fun j A=>by rcases QD.1 A with h|h;exact C j h;exact h▸g,[],wk Z Z Z (bi (bi (bi ac))) ac Z⟩
 .have h1:a.length<=i:=by simpa using h1
  rw[decide_eq_true (CS u fun j A=>C j (by omega))];refine gA Z (aT (by first|exact .inr Z|exact .inl Z) Z (.of_eq ?_));rfl
theorem Bv(a b:Fact)(ha:a.args.length<=1000000000):Pure prog 22 [ag a.c,ag b.c] (pB (kw (a=b))):=by
 have u:kw (a=b)=(kw (a.rel=b.rel)&&kw (a.args=b.args)):=by
  cases a;cases b;simp[Fact.mk.injEq]
 rw[u];refine ai ab func22 Z (by decide) ntmps22 Z (by simp) Z ?_;refine gA Z ?_;refine Oz (fun j=>?_) (fun j=>?_)
 .have j:a.rel=b.rel:=of_decide_eq_true j;refine gA Z (aB (yy a.args b.args ha) Z Z Z Z Z Z ?_);refine gA Z (aT (by first|exact .inr Z|exact .inl Z) Z (.of_eq ?_));rw[decide_eq_true j,QP];rfl
 .have j: ¬a.rel=b.rel:=of_decide_eq_false j;refine gA Z (aT (by first|exact .inr Z|exact .inl Z) Z ?_);rw[decide_eq_false j,P6];exact .of_eq Z
end Go.Proofs.YtllkaddcplhklaaGreatDoor
namespace Go.Proofs.YtllkaddcplhklaaGreatDoor
open Go Go.Al Go.Bo
section
def yN:ak:=⟨#[112]⟩
def bY(n:Int):Fact:=⟨yN,[⟨1,n,OB⟩]⟩
theorem AU{a b:Int}(h:bY a=bY b):a=b:=by
 simp only[bY,Fact.mk.injEq,Rk,c8.mk.injEq]at h;exact h.2.1.2.1
theorem p5{a b:Int}:bY a=bY b↔a=b:=⟨AU,fun e=>by rw[e]⟩
theorem o7(a b:Int):aR (bY a) (bY b)=jT a b:=by
 have j:nW yN yN=0:=Np.refl _;have u:nW OB OB=0:=Np.refl _;have x:jT 1 1=0:=TO.int.refl _;simp only[aR,bY,q9,cmpL,wu,j,u,x];unfold rb;rw[am Z,am Z];split
 .rename_i q;rw[am Z,q]
 .rfl
theorem mg{a b:Int}:jT a b<0↔a<b:=by
 unfold jT;split
 .simp;assumption
 .split<;>simp<;>omega
def gl(n:Nat):List Fact:=(O4 n).map fun i=>bY (i:Nat)
theorem mb(n:Nat):qd aR (gl n):=by
 refine QA.2 ((List.pairwise_lt_range (n:=n)).imp fun{a b} h=>?_);rw[o7,mg];omega
theorem o9(n:Nat):(gl n).length=n:=by simp[gl]
theorem o8{n:Nat}{k:Int}:bY k∈gl n↔0<=k∧k<n:=by
 unfold gl;rw[OZ];constructor
 .rintro⟨i,hi,e⟩;have:=AU e;rw[PA]at hi;omega
 .rintro⟨h1,h2⟩;exact⟨k.toNat,PA.2 (by omega),by rw[show((k.toNat:Nat):Int)=k by omega]⟩
theorem pb(a b:Nat):gl (a+b)=gl a++(O4 b).map fun k:Nat=>bY ((a:Int)+(k:Int)):=by
 unfold gl;rw[List.range_add,OM,PT];congr 1
def yj(i:Nat):List (bP Fact):=((O4 4096).map fun k:Nat=>bY (((4096*i:Nat):Int)+(k:Int))).map fun f=>(is,f)
theorem mM(i:Nat):(yj i).length=4096:=by simp[yj]
theorem yh(i:Nat):dS aR (gl (4096*i)) (yj i)=gl (4096*(i+1)):=by
 rw[Nat.mul_add,Rj,pb];exact xJ mD (by rw[<-pb];exact mb _)
theorem E0(i:Nat):cz aR (gl (4096*i)) (yj i)=yj i:=
 CP mD (by rw[<-pb];exact mb _)
section
variable {ok:Fact->Bool} (hok: ∀n:Int, -1<=n->n<=65536->ok (bY n)=is)
include hok
theorem HT{i:Nat}(hi:i<16):eS aR ok (gl (4096*i)) (yj i)=0:=by
 rw[j9,yh,mM,o9];refine⟨OJ _,fun x m=>?_,by omega⟩;unfold yj at m;obtain⟨f,b,rfl⟩:=OZ.1 m;obtain⟨k,hk,rfl⟩:=OZ.1 b;rw[PA]at hk;exact hok _ (by omega) (by omega)
theorem G2:eS aR ok (gl 65536) [(is,bY 65536)]=3:=by
 have e:[(is,bY 65536)]=([bY 65536]:List Fact).map fun f=>(is,f):=rfl
 have hs:qd aR (gl 65536++ [bY 65536]):=by
  have b:[bY 65536]=(O4 1).map fun k:Nat=>bY (((65536:Nat):Int)+(k:Int)):=rfl;rw[b,<-pb];exact mb _
 unfold eS;rw[be (by simp),be,am]
 .rw[e,xJ mD hs,Oy,o9];simp
 .simp[hok 65536 (by omega) (by omega)]
end
def more:List (bP Fact):=[(is,bY 65536),(is,bY (-1)),(jp,bY 0),(jp,bY 1)]
theorem pM(f:Fact):cU more f=if f=bY 65536 then co is else if f=bY (-1) then co is else if f=bY 0 then co jp else if f=bY 1 then co jp else io:=by
 have y:(more.map (·.2)).Nodup:=by
  simp[more,p5]
 have b: ∀a,cU more f=co a↔(a,f)∈more:=fun a=>yU y;split
 .rename_i e;rw[b,e];simp[more]
 .split
  .rename_i e;rw[b,e];simp[more]
  .split
   .rename_i e;rw[b,e];simp[more]
   .split
    .rename_i e;rw[b,e];simp[more]
    .rename_i h1 j u x;rw[kT];simp[more,h1,j,u,x]
theorem uK:cz aR (gl 65536) more=[(is,bY (-1)),(jp,bY 0),(jp,bY 1),(is,bY 65536)]:=by
 refine w4 mD (iM mD _ _) ?_ fun a f=>?_
 .unfold pf;simp only[Pd,OG,Ri,QS,and_true,or_false];refine⟨?_,?_,?_,?_⟩
  .rintro x (rfl|rfl|rfl)<;>(rw[o7,mg];omega)
  .rintro x (rfl|rfl)<;>(rw[o7,mg];omega)
  .rintro x rfl;rw[o7,mg];omega
  .rintro x ⟨⟩
 .rw[fx mD,pM];by_cases b:f=bY 65536
  .subst b;have:bY 65536∉gl 65536:=fun m=>by have:=(o8.1 m).2;omega
   cases a<;>simp[this,p5]
  .by_cases j:f=bY (-1)
   .subst j;have:bY (-1)∉gl 65536:=fun m=>by have:=(o8.1 m).1;omega
    cases a<;>simp[this,p5]
   .by_cases u:f=bY 0
    .subst u;have:bY 0∈gl 65536:=o8.2 (by omega);cases a<;>simp[this,p5]
    .by_cases y:f=bY 1
     .subst y;have:bY 1∈gl 65536:=o8.2 (by omega);cases a<;>simp[this,p5]
     .simp[b,j,u,y]
theorem xK:(dS aR (gl 65536) more).length=65536:=by
 have:=xI mD (mb 65536) more;rw[uK,o9]at this;simp only[P3,List.filter_nil,QC,Q7,if_true,O6,P0,PX,if_false]at this;omega
theorem DR{ok:Fact->Bool}(hok: ∀n:Int, -1<=n->n<=65536->ok (bY n)=is):eS aR ok (gl 65536) more=0:=by
 rw[j9,xK];refine⟨by simp[more],fun x m=>?_,OJ _⟩;simp only[more,OG,Ri,or_false]at m;rcases m with rfl|rfl|rfl|rfl
 .exact hok _ (by omega) (by omega)
 .exact hok _ (by omega) (by omega)
 .exact hok _ (by omega) (by omega)
 .exact hok _ (by omega) (by omega)
theorem xL:bY 65536∈dS aR (gl 65536) more∧bY 0∉dS aR (gl 65536) more:=by
 rw[kg mD,kg mD,pM,pM];simp[p5]
end
end Go.Proofs.YtllkaddcplhklaaGreatDoor
