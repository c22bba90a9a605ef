/-
  What the proofs of the claims need: part 3 of 5.
-/
import Derived.Test.YtbhphmfbligliaaGreatDoorPart2
import Derived.Sort.EncStr
import Derived.Sort.Grow
import Derived.Sort.Walk0
import Derived.Shelf.Sort.Plain
import Derived.Shelf.Slices.In.SortNone
import Derived.Shelf.Slices.In.SortNone2
import Derived.WalkKit
import Derived.Lib.Builder
import Derived.Lib.UnsafeStr
import Derived.Laws.Externs
import Derived.Shelf.RegionOpenPlain
import Derived.KernelRfl
import Derived.Test.YtbhphmfbligliaaGreatDoorProg
import Derived.Laws.RangeString
import Derived.Shelf.LaysM
import Derived.Shelf.Strconv.Itoa3
import Derived.Lib.ItoaLen
open And renaming intro→S3
open Array renaming getD_eq_getD_getElem?→SZ,getElem?_append_left→TG,getElem?_eq_getElem→T1,getElem?_eq_some_iff→TO,getElem?_modify→TH,getElem?_setIfInBounds→TL
open Bool renaming and_eq_true→Tz,and_false→U9,eq_false_iff→Vs,eq_iff_iff→Uo,false_and→US,false_eq_true→Vp,false_or→UX,not_false→V3,not_true→VC,or_eq_true→U0,true_and→U5,true_or→VZ
open ByteArray renaming empty→Ta,size→Wv
open Classical renaming byContradiction→Uv
open Int renaming fdiv_eq_ediv_of_nonneg→Uu,ofNat_eq_zero→WI,ofNat_lt→Wj,toNat→Vf,toNat_natCast→S7
open List.Nodup renaming length_le_of_subset→UH
open List.Pairwise renaming nil→WG
open List renaming all_cons→VD,all_eq_false→WH,all_eq_true→TI,any_cons→WA,any_eq_false→Ud,any_eq_true→Uq,append_assoc→Tb,append_nil→TC,cons_append→Tu,ext_getElem?→Vj,filterMap_append→Wp,filterMap_cons→Wx,filter_cons→U6,filter_eq_self→Wy,filter_sublist→VV,findIdx?_eq_none_iff→V7,findIdx?_eq_some_iff_getElem→VI,flatMap_append→UI,flatMap_cons→TJ,foldl_cons→TM,getD_cons_succ→Um,getD_eq_getElem?_getD→S4,getElem?_eq_getElem→S5,getElem?_eq_some_iff→S2,getElem?_map→S6,getElem?_of_mem→Ue,getElem?_take→TE,getElem_map→VT,getElem_mem→T8,le_antisymm→Wf,length_append→S1,length_cons→Tr,length_filter_le→Uz,length_map→TB,length_nil→Ur,length_pos_iff→Ui,length_reverse→U3,length_singleton→TU,length_take→TA,map_append→Tc,map_cons→Tg,map_map→UN,map_nil→Tx,mem_append→Ts,mem_append_left→TR,mem_append_right→Uy,mem_cons→Tt,mem_cons_of_mem→Tl,mem_cons_self→Tm,mem_filter→T5,mem_flatMap→VS,mem_map→Uf,mem_of_getElem?→T7,mem_range→U8,mem_singleton→Tk,nodup_append→UK,nodup_cons→Ug,nodup_nil→T3,not_lt→WU,not_mem_nil→VQ,pairwise_cons→Uw,range→TX,reverse_cons→Vt,sum_cons→UY,take_append_drop→T9,take_length→TV,take_of_length_le→Tf,take_succ_cons→Un
open Nat renaming add_assoc→Ua,add_zero→UR,beq→Tw,ble→UW,ble_eq_true_of_le→T6,blt→Tv,le_add_left→VF,le_add_right→We,le_of_ble_eq_true→SY,le_of_not_lt→UG,le_refl→S9,le_succ→UT,le_trans→TQ,lt_or_ge→TZ,lt_succ_of_lt→UC,lt_succ_self→Ut,min_le_right→WR,mul_one→Vu,sub_zero→VJ,zero_add→Tp,zero_le→Te
open Option renaming bind_some→Wd,getD_some→Uk,map_eq_some_iff→S8,map_some→T4
open Option.some renaming injEq→S0
open Prod renaming fst→T2
set_option maxRecDepth 100000
open Bool renaming false→jp,true→is
open Decidable renaming decide→kw
open Inhabited renaming default→co
open Option renaming none→io,some→dl
open Array renaming range→V8
open Array renaming getElem?_map→U7
open Nat renaming mul_le_mul_right→Tq
open Nat renaming add_mul→TP
open Array renaming append_assoc→VG
open List renaming getElem?_append_right→Ti
open Nat renaming sub_mul→Wu
open Array renaming getElem?_append_right→U4
open Array renaming getElem?_toList→TF
open Nat renaming add_comm→VL
open Nat renaming mod_eq_of_lt→Vy
open List renaming getElem?_cons_succ→Vn
open Array renaming toList_append→Vm
namespace Go.Al
theorem bi{a b:PV}{c:Bool}{X:Prop}(h:X)(h1:a=b:=by rfl)(h2:c=true:=by rfl):ak a b∧c=true∧X:=⟨by subst h1;exact fun _ _ _ _ h=>h,h2,h⟩
theorem bv{i n:Nat}(h:decide ((i:Int)<(n:Int))=true):i<n:=by simpa using h
theorem ci{i n:Nat}(h:decide ((i:Int)<(n:Int))=false):n≤i:=by simpa using h
end Go.Al
namespace Go.Proofs.YtbhphmfbligliaaGreatDoor
open Go Go.Al Go.Proofs.Tryz
theorem Oz:prog.follows .mixedOrders=is:=rfl
theorem ik{Q:AQ}{nt:NT}{k:List KI}{s:AS}{C:Prop}{d:NT}{st:Stop}(h:bJ mz ⟨fun _=>io,0,jp⟩ 400 nt k s True=dl (C,d,st))(hC:C)(hg:ff prog d Q st):GO prog nt k Q s:=BJ Oz ab 400 h hC hg
theorem gA{Q:AQ}{nt:NT}{k:List KI}{s:AS}{C:Prop}{d:NT}{st:Stop}(h:bJ mz ⟨fun _=>io,0,jp⟩ 400 nt k s True=dl (C,d,st))(hg:ff prog d Q st)
  (hC:C:=by(repeat' (first|exact ac|exact rfl|exact ak.refl _|exact ak.bk (by assumption)|apply S3))<;>first|omega|exact gU (fun _=>rfl) _|(simp only[S7];omega)|(simp;done)|(simp;omega)):GO prog nt k Q s:=BJ Oz ab 400 h hC hg
theorem gM(N:Nat){Q:AQ}{nt:NT}{k:List KI}{s:AS}{C:Prop}{d:NT}{st:Stop}(h:bJ mz ⟨fun _=>io,0,jp⟩ N nt k s True=dl (C,d,st))(hg:ff prog d Q st)
  (hC:C:=by(repeat' (first|exact ac|exact rfl|exact ak.refl _|exact ak.bk (by assumption)|apply S3))<;>first|omega|exact gU (fun _=>rfl) _|(simp only[S7];omega)|(simp;done)|(simp;omega)):GO prog nt k Q s:=BJ Oz ab N h hC hg
theorem zp{nt:NT}{Q:AQ}{k:List KI}{s:AS}{all rest:List Oper}{o:Oper}{c:Call}{g:FuncId}{args:List PV}{r:PV}{s':AS}(hc:Al.Pure prog g args r)(h:GO prog nt (.ops all rest::k) Q s')(ho:o.op= .call c:=by exact rfl)(hg:o.guard=io:=by exact rfl)(ha:bS s.f c=dl (g,args):=by exact rfl)(d:bA 0 args=is:=by exact rfl)(hr:r.low 0=is:=by exact rfl)(hp:putDst nt o r s=dl s':=by exact rfl):GO prog nt (.ops all (o::rest)::k) Q s:=aG hc ho hg ha d hr hp h
theorem zL{ty:Ty}{j:List ResultVar}{e:Exit}{s:AS}{r r0:PV}(d:ak r0 r)(he:e= .normal∨e= .ret:=by first|exact .inr I|exact .inl I)(h:jv ty s j=dl r0:=by exact rfl):pC ty j r e s:=aR he h d
theorem zq{nt:NT}{Q:AQ}{k:List KI}{s:AS}{all rest:List Oper}{o:Oper}{c:Call}{g:FuncId}{asv args:List PV}{os:List AO}{r:PV}{x:AH}{y:Nat}{s':AS}(L:List Nat)(hc:bB prog g args os r x y)(h:GO prog nt (.ops all rest::k) Q s')(ho:o.op= .call c:=by exact rfl)(hg:o.guard=io:=by exact rfl)(ha:bS s.f c=dl (g,asv):=by exact rfl)(hn:cM L=is:=by exact rfl)(A:L.all (fun j=>Tv j s.nx)=is:=by exact rfl)(u:L.map s.h.get=os.map fun o=>dl (o.b3 (sig L s.nx)):=by exact rfl)(d:asv=di (sig L s.nx) args:=by exact rfl)(hp:putDst nt o (r.b3 (sig L s.nx)) (aP s L x y)=dl s':=by exact rfl):GO prog nt (.ops all (o::rest)::k) Q s:=aE L hc ho hg ha hn A u d hp h
theorem zd{nt:NT}{Q:AQ}{k:List KI}{s:AS}{all:List Oper}{todo pend:List (Nat×Oper)}{j:Nat}{o:Oper}{c:Call}{g:FuncId}{asv args:List PV}{os:List AO}{r:PV}{B:AH}{C:Nat}{s':AS}{A y:Prop}(L:List Nat)(hc:bB prog g args os r B C)(h:GO prog nt (.cf all (todo.filter fun x=>!Tw x.1 j) (bh pend o)::k) Q s')(hrd:fB todo=[(j,o)]:=by exact rfl)(ho:o.op= .call c:=by exact rfl)(ha:bS s.f c=dl (g,asv):=by exact rfl)(hn:cM L=is:=by exact rfl)(D:L.all (fun j=>Tv j s.nx)=is:=by exact rfl)(u:L.map s.h.get=os.map fun o=>dl (o.b3 (sig L s.nx)):=by exact rfl)(d:asv=di (sig L s.nx) args:=by exact rfl)(hp:putDst nt o (r.b3 (sig L s.nx)) (aP s L B C)=dl s':=by exact rfl)(hg:cj nt all s.f o=dl is:=by exact rfl)(hpb:iQ all pend o=is:=by exact rfl)(hE:od todo [j]=is:=by exact rfl)(hag:oh mz nt all s todo pend=dl A:=by exact rfl)(hCA:A:=by(repeat' (first|exact ac|exact rfl|exact ak.refl _|exact ak.bk (by assumption)|apply S3))<;>first|omega|(simp only[S7];omega)|(simp;done)|(simp;omega))(hag2:dZ mz nt all s' (bh pend o)=dl y:=by exact rfl)(hC2:y:=by(repeat' (first|exact ac|exact rfl|exact ak.refl _|exact ak.bk (by assumption)|apply S3))<;>first|omega|(simp only[S7];omega)|(simp;done)|(simp;omega)):GO prog nt (.cf all todo pend::k) Q s:=ck ab L hc hrd ho ha hn D u d hp hg hpb hE hag hCA hag2 hC2 h
theorem B1{nt:NT}{Q:AQ}{k:List KI}{s:AS}{all:List Oper}{todo pend:List (Nat×Oper)}{j:Nat}{o:Oper}{c:Call}{g:FuncId}{asv args:List PV}{r:PV}{s':AS}{y u:Prop}(hc:Al.Pure prog g args r)(h:GO prog nt (.cf all (todo.filter fun x=>!Tw x.1 j) (bh pend o)::k) Q s')(hrd:fB todo=[(j,o)]:=by exact rfl)(ho:o.op= .call c:=by exact rfl)(ha:bS s.f c=dl (g,asv):=by exact rfl)(d:asv=di (sig [] s.nx) args:=by exact rfl)(hp:putDst nt o (r.b3 (sig [] s.nx)) (aP s [] [] 0)=dl s':=by exact rfl)(hg:cj nt all s.f o=dl is:=by exact rfl)(hpb:iQ all pend o=is:=by exact rfl)(hE:od todo [j]=is:=by exact rfl)(hag:oh mz nt all s todo pend=dl y:=by exact rfl)(hCA:y:=by(repeat' (first|exact ac|exact rfl|exact ak.refl _|exact ak.bk (by assumption)|apply S3))<;>first|omega|(simp only[S7];omega)|(simp;done)|(simp;omega))(hag2:dZ mz nt all s' (bh pend o)=dl u:=by exact rfl)(hC2:u:=by(repeat' (first|exact ac|exact rfl|exact ak.refl _|exact ak.bk (by assumption)|apply S3))<;>first|omega|(simp only[S7];omega)|(simp;done)|(simp;omega)):GO prog nt (.cf all todo pend::k) Q s:=ck ab [] hc.BS hrd ho ha I I I d hp hg hpb hE hag hCA hag2 hC2 h
theorem zW{n0:Nat}{L:List Nat}{s t:AS}(hh:mD t.nx (sg n0 L) s.h t.h)(h1:Tw t.nx (n0+L.length)=is:=by exact rfl)(d:UW n0 s.nx=is:=by exact rfl)(u:L.all (fun j=>Tv j s.nx)=is:=by exact rfl)(hf:EI t.nx (sg n0 L) s.f t.f:=by repeat' (first|exact ac|exact ak.refl _|exact rfl|apply S3))(x:cM (eY (sg n0 L) t.h)=is:=by exact rfl):Wk n0 L s t:=wk h1 d u hf hh x
theorem zM{n0:Nat}{L:List Nat}{s t:AS}(hf:EI t.nx (sg n0 L) s.f t.f)(hh:mD t.nx (sg n0 L) s.h t.h)(h1:Tw t.nx (n0+L.length)=is:=by exact rfl)(d:UW n0 s.nx=is:=by exact rfl)(u:L.all (fun j=>Tv j s.nx)=is:=by exact rfl)(x:cM (eY (sg n0 L) t.h)=is:=by exact rfl):Wk n0 L s t:=wk h1 d u hf hh x
theorem zK{n i:Nat}{σ:Nat->Nat}{h r:AH}{cs:List PV}{d:Option TypeId}{c:List IV}(hr:mD n σ h r)(ho:h.get (σ i)=dl (.cells cs d):=by exact rfl)(he:cs=c.map .iv:=by exact rfl)(hi:Tv i n=is:=by exact rfl):mD n σ h ((i,dl (aD c))::r):=hC ho he hi hr
theorem zS{n i:Nat}{σ:Nat->Nat}{h r:AH}{α:Type}{sz:Nat}{es:List (List PV)}{l:List α}{f:α->List IV}(hr:mD n σ h r)(ho:h.get (σ i)=dl (.row sz es):=by exact rfl)(he:es=l.map fun x=>(f x).map .iv:=by exact rfl)(hi:Tv i n=is:=by exact rfl):mD n σ h ((i,dl (aY sz l f))::r):=hR ho he hi hr
theorem zI{a b:Prop}(l:a)(r:b):a∧b:=⟨l,r⟩
theorem zO{n i:Nat}{σ:Nat->Nat}{h r:AH}{o:AO}(hr:mD n σ h r)(he: ∃p,h.get (σ i)=dl p∧dG p (o.b3 σ):=by exact⟨_,rfl,.of_eq I⟩)(hi:i<n:=by exact SY I)(d:o.low n:=by exact rfl):mD n σ h ((i,dl o)::r):=⟨he,hi,d,hr⟩
theorem zD{ty:Ty}{s:AS}{l:List ResultVar}{m:Nat}{r r0:PV}{h:AH}{n:Nat}{e:Exit}(L:List Nat)(hr:jv ty s l=dl r0)(hw:Wk m L ⟨[(0,r0)],s.h,s.nx⟩ ⟨[(0,r)],h,n⟩)(he:e= .normal∨e= .ret:=by first|exact .inr I|exact .inl I):B0 ty l m r h n e s:=aC L he hr hw
theorem zU{ty:Ty}{j:List ResultVar}{nt:NT}{k:List KI}{s s':AS}{e:Exit}{C:Prop}{d:NT}{r r0:PV}(h:bJ mz ⟨fun _=>io,0,jp⟩ 400 nt k s True=dl (C,d,.fin e s'))(hr:r0=r:=by exact rfl)(he:e= .normal∨e= .ret:=by first|exact .inr I|exact .inl I)(h1:jv ty s' j=dl r0:=by exact rfl)(hC:C:=by(repeat' (first|exact ac|exact rfl|exact ak.refl _|exact ak.bk (by assumption)|apply S3))<;>first|omega|exact gU (fun _=>rfl) _|(simp only[S7];omega)|(simp;done)|(simp;omega)):GO prog nt k (pC ty j r) s:=gA h (aR he h1 (.of_eq hr)) hC
theorem zC{n i:Nat}{σ:Nat->Nat}{h r:AH}{V:Type}{kc:KC}{ev:V->IV}{z:V}{u:Value}{d:PV->V}{m j:List (kc.K×V)}(hr:mD n σ h r)(ho:h.get (σ i)=dl (.map kc ev z u d m):=by exact rfl)(he:m=j:=by exact rfl)(hi:Tv i n=is:=by exact rfl):mD n σ h ((i,dl (.map kc ev z u d j))::r):=hM ho he hi hr
theorem zJ{Q:AQ}{nt:NT}{k:List KI}{s:AS}{C:Prop}{d:NT}{st:Stop}{a b:Prop}(h:bJ mz ⟨fun _=>io,0,jp⟩ 400 nt k s True=dl (C,d,st))(e:ff prog d Q st=(a∧b))(l:a)(r:b)(hC:C:=by(repeat' (first|exact ac|exact rfl|exact ak.refl _|exact ak.bk (by assumption)|apply S3))<;>first|omega|exact gU (fun _=>rfl) _|(simp only[S7];omega)|(simp;done)|(simp;omega)):GO prog nt k Q s:=gA h (e.mpr ⟨l,r⟩) hC
theorem zE{Q:AQ}{nt:NT}{k:List KI}{s:AS}{C:Prop}{d:NT}{st:Stop}{a b:Prop}(h:bJ mz ⟨fun _=>io,0,jp⟩ 400 nt k s True=dl (C,d,st))(e:ff prog d Q st=(a∧b))(r:b)(l:a)(hC:C:=by(repeat' (first|exact ac|exact rfl|exact ak.refl _|exact ak.bk (by assumption)|apply S3))<;>first|omega|exact gU (fun _=>rfl) _|(simp only[S7];omega)|(simp;done)|(simp;omega)):GO prog nt k Q s:=gA h (e.mpr ⟨l,r⟩) hC
theorem zT{p:Prop}[Decidable p](h:decide p=is):p:=of_decide_eq_true h
theorem zF{p:Prop}[Decidable p](h:decide p=jp): ¬p:=of_decide_eq_false h
theorem zN{a b:Nat}(h:kw ((a:Int)<(b:Int))=is):a<b:=Wj.1 (of_decide_eq_true h)
theorem zG{a b:Nat}(h:kw ((a:Int)<(b:Int))=jp):b<=a:=UG fun hh=>absurd (Wj.2 hh) (of_decide_eq_false h)
end Go.Proofs.YtbhphmfbligliaaGreatDoor
namespace Go.Proofs.YtbhphmfbligliaaGreatDoor
open Go Go.Al
abbrev ae:=ByteArray
structure eK where
 kind:Int
 num:Int
 sym:ae
 deriving Inhabited,DecidableEq
structure Term where
 kind:Int
 var:ae
 val:eK
 deriving Inhabited,DecidableEq
inductive Expr where
 |mk (kind:Int) (var:ae) (val:eK) (op:Int) (args:List Expr)
instance:Inhabited Expr:=⟨.mk 0 Ta ⟨0,0,Ta⟩ 0 []⟩
def Expr.kind:Expr->Int| .mk k _ _ _ _=>k
def Expr.var:Expr->ae| .mk _ v _ _ _=>v
def Expr.val:Expr->eK| .mk _ _ v _ _=>v
def Expr.op:Expr->Int| .mk _ _ _ o _=>o
def Expr.args:Expr->List Expr| .mk _ _ _ _ a=>a
structure Atom where
 rel:ae
 aj:List Term
 deriving Inhabited,DecidableEq
structure Pos where
 line:Int
 HM:Int
 deriving Inhabited,DecidableEq
inductive Lit where
 |mk (kind:Int) (atom:Atom) (op:Int) (left right:Expr) (dP:Int) (bH:ae) (j7:Expr) (ay:List Lit) (at_:Pos)
instance:Inhabited Lit:=⟨.mk 0 co 0 co co 0 Ta co [] ⟨0,0⟩⟩
def Lit.kind:Lit->Int| .mk k _ _ _ _ _ _ _ _ _=>k
def Lit.atom:Lit->Atom| .mk _ a _ _ _ _ _ _ _ _=>a
def Lit.op:Lit->Int| .mk _ _ o _ _ _ _ _ _ _=>o
def Lit.left:Lit->Expr| .mk _ _ _ l _ _ _ _ _ _=>l
def Lit.right:Lit->Expr| .mk _ _ _ _ r _ _ _ _ _=>r
def Lit.dP:Lit->Int| .mk _ _ _ _ _ f _ _ _ _=>f
def Lit.bH:Lit->ae| .mk _ _ _ _ _ _ v _ _ _=>v
def Lit.j7:Lit->Expr| .mk _ _ _ _ _ _ _ o _ _=>o
def Lit.ay:Lit->List Lit| .mk _ _ _ _ _ _ _ _ b _=>b
def Lit.at:Lit->Pos| .mk _ _ _ _ _ _ _ _ _ p=>p
structure gl where
 func:Int
 var:ae
 jo:Expr
 body:List Lit
 deriving Inhabited
def Lit.agg(l:Lit):gl:=⟨l.dP,l.bH,l.j7,l.ay⟩
structure aq where
 head:Atom
 body:List Lit
 at_:Pos
 deriving Inhabited
structure Decl where
 name:ae
 types:List Int
 at_:Pos
 deriving Inhabited
structure Prog where
 aw:List Decl
 rules:List aq
 deriving Inhabited
structure Fact where
 rel:ae
 args:List eK
 deriving Inhabited
def eK.c(v:eK):List IV:=[iI v.kind,iI v.num,iS v.sym]
def Term.c(t:Term):List IV:=[iI t.kind,iS t.var,iI t.val.kind,iI t.val.num,iS t.val.sym]
def cA(s:ae):List IV:=[iS s]
def eI(n:Int):List IV:=[iI n]
abbrev strs(l:List ae):IV:=bz 1 l cA
def Atom.c(a:Atom):List IV:=[iS a.rel,bz 5 a.aj Term.c]
mutual
def Expr.cr:Expr->List IV
 | .mk k v val op args=> [iI k,iS v,iI val.kind,iI val.num,iS val.sym,iI op,.bW 7 args.length (fun j=>(Expr.qP args).getD j [])]
def Expr.qP:List Expr->List (List IV)
 | []=> []
 |e::r=>e.cr::Expr.qP r
end
def Expr.c(e:Expr):List IV:=[iI e.kind,iS e.var,iI e.val.kind,iI e.val.num,iS e.val.sym,iI e.op,.bW 7 e.args.length (fun j=>(Expr.qP e.args).getD j [])]
def Expr.c1(e:Expr):List IV:=[iI e.kind,iS e.var,iI e.val.kind,iI e.val.num,iS e.val.sym,iI e.op,bz 7 e.args Expr.c]
theorem Expr.AK(e:Expr):e.cr=e.c:=by cases e;rfl
theorem Expr.j4: ∀(l:List Expr) (k:Nat),k<l.length->(Expr.qP l).getD k []=(l.getD k co).c
 |e::r,0,_=>by simp[Expr.qP,Expr.AK]
 |e::r,k+1,h=>by simpa[Expr.qP]using Expr.j4 r k (by simpa using h)
 | [],k,h=>by simp at h
theorem OV(e:Expr):jC (.bW 7 e.args.length (fun j=>(Expr.qP e.args).getD j [])) (bz 7 e.args Expr.c):= .bW I (Expr.j4 e.args)
theorem Df(e:Expr):jC (bz 7 e.args Expr.c) (.bW 7 e.args.length (fun j=>(Expr.qP e.args).getD j [])):= .bW I (fun k d=>(Expr.j4 e.args k d).symm)
mutual
def Lit.cr:Lit->List IV
 | .mk kind atom op left right dP bH j7 ay at_=>
  iI kind::(atom.c++(iI op::(left.c++(right.c++(iI dP::iS bH::(j7.c++ [.bW 30 ay.length (fun j=>(Lit.qP ay).getD j []),iI at_.line,iI at_.HM]))))))
def Lit.qP:List Lit->List (List IV)
 | []=> []
 |e::r=>e.cr::Lit.qP r
end
def Lit.cw(l:Lit)(b:IV):List IV:=
 [iI l.kind,iS l.atom.rel,bz 5 l.atom.aj Term.c,iI l.op,
  iI l.left.kind,iS l.left.var,iI l.left.val.kind,iI l.left.val.num,iS l.left.val.sym,iI l.left.op,.bW 7 l.left.args.length (fun j=>(Expr.qP l.left.args).getD j []),
  iI l.right.kind,iS l.right.var,iI l.right.val.kind,iI l.right.val.num,iS l.right.val.sym,iI l.right.op,.bW 7 l.right.args.length (fun j=>(Expr.qP l.right.args).getD j []),
  iI l.dP,iS l.bH,
  iI l.j7.kind,iS l.j7.var,iI l.j7.val.kind,iI l.j7.val.num,iS l.j7.val.sym,iI l.j7.op,.bW 7 l.j7.args.length (fun j=>(Expr.qP l.j7.args).getD j []),
  b,iI l.at.line,iI l.at.HM]
def vj(l:List Lit):IV:= .bW 30 l.length (fun j=>(Lit.qP l).getD j [])
def Lit.c(l:Lit):List IV:=l.cw (vj l.ay)
abbrev lits(l:List Lit):IV:=bz 30 l Lit.c
def Lit.c1(l:Lit):List IV:=l.cw (lits l.ay)
theorem Lit.AK(e:Lit):e.cr=e.c:=by cases e;rfl
theorem Lit.j4: ∀(l:List Lit) (k:Nat),k<l.length->(Lit.qP l).getD k []=(l.getD k co).c
 |e::r,0,_=>by simp[Lit.qP,Lit.AK]
 |e::r,k+1,h=>by simpa[Lit.qP]using Lit.j4 r k (by simpa using h)
 | [],k,h=>by simp at h
theorem mW(l:List Lit):jC (vj l) (lits l):= .bW I (Lit.j4 l)
theorem Bv(l:List Lit):jC (lits l) (vj l):= .bW I (fun k d=>(Lit.j4 l k d).symm)
def gl.cw(a:gl)(b:IV):List IV:=[iI a.func,iS a.var,iI a.jo.kind,iS a.jo.var,iI a.jo.val.kind,iI a.jo.val.num,iS a.jo.val.sym,iI a.jo.op,.bW 7 a.jo.args.length (fun j=>(Expr.qP a.jo.args).getD j []),b]
def gl.c(a:gl):List IV:=a.cw (vj a.body)
def gl.c1(a:gl):List IV:=a.cw (lits a.body)
def aq.c(r:aq):List IV:=[iS r.head.rel,bz 5 r.head.aj Term.c,lits r.body,iI r.at_.line,iI r.at_.HM]
def Decl.c(r:Decl):List IV:=[iS r.name,bz 1 r.types eI,iI r.at_.line,iI r.at_.HM]
def Prog.c(p:Prog):List IV:=[bz 4 p.aw Decl.c,bz 5 p.rules aq.c]
def Fact.c(f:Fact):List IV:=[iS f.rel,bz 3 f.args eK.c]
theorem Expr.CO(e:Expr):ak (ag e.c) (ag e.c1):= .agg ⟨.refl _,.refl _,.refl _,.refl _,.refl _,.refl _,.iv (OV e),ac⟩
theorem Expr.BA(e:Expr):ak (ag e.c1) (ag e.c):= .agg ⟨.refl _,.refl _,.refl _,.refl _,.refl _,.refl _,.iv (Df e),ac⟩
theorem Lit.Dj(l:Lit){b d:IV}(h:jC b d):ak (ag (l.cw b)) (ag (l.cw d)):=
 .agg ⟨.refl _,.refl _,.refl _,.refl _,.refl _,.refl _,.refl _,.refl _,.refl _,.refl _,.refl _,.refl _,.refl _,.refl _,.refl _,.refl _,.refl _,.refl _,.refl _,.refl _,.refl _,.refl _,.refl _,.refl _,.refl _,.refl _,.refl _,.iv h,.refl _,.refl _,ac⟩
theorem Lit.CO(l:Lit):ak (ag l.c) (ag l.c1):=l.Dj (mW _)
theorem gl.Dj(l:gl){b d:IV}(h:jC b d):ak (ag (l.cw b)) (ag (l.cw d)):=
 .agg ⟨.refl _,.refl _,.refl _,.refl _,.refl _,.refl _,.refl _,.refl _,.refl _,.iv h,ac⟩
theorem gl.CO(l:gl):ak (ag l.c) (ag l.c1):=l.Dj (mW _)
theorem gl.BA(l:gl):ak (ag l.c1) (ag l.c):=l.Dj (Bv _)
mutual
def Expr.size:Expr->Nat
 | .mk _ _ _ _ args=>1+Expr.au args
def Expr.au:List Expr->Nat
 | []=>0
 |e::r=>e.size+Expr.au r
end
mutual
def Lit.size:Lit->Nat
 | .mk _ a _ l r _ _ o b _=>2+a.aj.length+l.size+r.size+o.size+Lit.au b
def Lit.au:List Lit->Nat
 | []=>0
 |e::r=>e.size+Lit.au r
end
theorem Expr.size_eq(e:Expr):e.size=1+Expr.au e.args:=by cases e;rfl
theorem Lit.size_eq(l:Lit):l.size=2+l.atom.aj.length+l.left.size+l.right.size+l.j7.size+Lit.au l.ay:=by cases l;rfl
theorem Expr.b6: ∀(l:List Expr) (k:Nat),k<l.length->(l.getD k co).size<=Expr.au l
 |e::r,0,_=>by simp[Expr.au]
 |e::r,k+1,h=>by
  have:=Expr.b6 r k (by simpa using h);simp only[Um,Expr.au];omega
 | [],k,h=>by simp at h
theorem Lit.b6: ∀(l:List Lit) (k:Nat),k<l.length->(l.getD k co).size<=Lit.au l
 |e::r,0,_=>by simp[Lit.au]
 |e::r,k+1,h=>by
  have:=Lit.b6 r k (by simpa using h);simp only[Um,Lit.au];omega
 | [],k,h=>by simp at h
theorem Expr.size_pos(e:Expr):1<=e.size:=by rw[e.size_eq];omega
theorem Lit.size_pos(e:Lit):2<=e.size:=by rw[e.size_eq];omega
theorem Expr.aA: ∀(l:List Expr),l.length<=Expr.au l
 | []=>S9 _
 |e::r=>by have:=e.size_pos;have:=Expr.aA r;simp only[Tr,Expr.au];omega
theorem Lit.aA: ∀(l:List Lit),l.length<=Lit.au l
 | []=>S9 _
 |e::r=>by have:=e.size_pos;have:=Lit.aA r;simp only[Tr,Lit.au];omega
def aq.size(r:aq):Nat:=r.head.aj.length+Lit.au r.body
def dQ(l:List ae)(s:ae):Bool:=l.any fun x=>kw (x=s)
def ep(s:ae)(a:List ae×Bool)(x:ae):List ae×Bool:=
 if(a.2||decide (x=s))=jp∧(!(Op.bytesLess x.toList s.toList||decide (x=s)))=is then(a.1++ [s]++ [x],is) else(a.1++ [x],a.2||decide (x=s))
def gK(l:List ae)(s:ae):List ae:=
 let r:=l.foldl (ep s) ([],jp)
 if r.2 then r.1 else r.1++ [s]
def nE(l m:List ae):List ae:=m.foldl gK l
def A3(a:List ae)(t:Term):List ae:=if t.kind=1 then gK a t.var else a
def qM(a:Atom):List ae:=a.aj.foldl A3 []
theorem Lit.tW: ∀(l:List Lit) (i:Nat),Lit.au (l.take i)<=Lit.au l
 | [],i=>by simp
 |e::r,0=>by simp[Lit.au]
 |e::r,i+1=>by have:=Lit.tW r i;simp only[Un,Lit.au];omega
theorem Expr.dT: ∀(l:List Expr) (i:Nat),i<l.length->Expr.au (l.take i)+(l.getD i co).size<=Expr.au l
 |e::r,0,_=>by simp[Expr.au]
 |e::r,i+1,h=>by have:=Expr.dT r i (by simpa using h);simp only[Un,Um,Expr.au];omega
 | [],i,h=>by simp at h
theorem Lit.dT: ∀(l:List Lit) (i:Nat),i<l.length->Lit.au (l.take i)+(l.getD i co).size<=Lit.au l
 |e::r,0,_=>by simp[Lit.au]
 |e::r,i+1,h=>by have:=Lit.dT r i (by simpa using h);simp only[Un,Um,Lit.au];omega
 | [],i,h=>by simp at h
def gl.size(a:gl):Nat:=a.jo.size+Lit.au a.body
section
def yQ(n:Int):IV:= .v (.int .i64 n)
def Sg(p:PV):Int:=match p with
 | .iv (.v (.int _ n))=>n
 |_=>0
abbrev NM:=List ((KC.str).K×Int)
abbrev cN(m:NM):AO:= .map .str yQ 0 (.int .i64 0) Sg m
abbrev wL(m:NM):IV:= .eJ .str yQ 0 (.int .i64 0) m
theorem eE: ∀M,IR M (yQ 0) (.int .i64 0):=fun _=> .v _
def vh(m:NM)(s:ae):NM:=cH .str m s (cI .str m s 0+1)
def aI(l:List ae):NM:=l.foldl vh []
theorem du(l:List ae)(s:ae):aI (l++ [s])=vh (aI l) s:=by simp[aI]
section
variable {V:Type}
theorem eD{m:List ((KC.str).K×V)}{s t:ae}{v z:V}:cI .str (cH .str m s v) t z=if s=t then v else cI .str m t z:=by
 induction m with
 |nil=>simp only[cH,cI]
 |cons x r ih=>
  obtain⟨a,b⟩:=x;simp only[cH];by_cases h:a=s
  .rw[am h];simp only[cI];by_cases d:s=t
   .simp[d]
   .have: ¬a=t:=fun e=>d (h▸e)
    rw[be d,be d,be this]
  .rw[be h];simp only[cI,ih];by_cases d:a=t
   .have: ¬s=t:=fun e=>h (d.trans e.symm)
    simp[d,this]
   .simp[d]
theorem mY{m:List ((KC.str).K×V)}{t:ae}:cY .str m t=is↔t∈m.map T2:=by
 induction m with
 |nil=>simp[cY]
 |cons x r ih=>
  obtain⟨a,b⟩:=x;simp only[cY,Tg,Tt];by_cases h:a=t
  .simp[h]
  .have: ¬t=a:=fun e=>h e.symm
   simp[h,this,ih]
theorem lZ{m:List ((KC.str).K×V)}{s:ae}{v:V}(h:s∈m.map T2):(cH .str m s v).map T2=m.map T2:=by
 induction m with
 |nil=>simp at h
 |cons x r ih=>
  obtain⟨a,b⟩:=x;simp only[cH];by_cases d:a=s
  .rw[am d];simp[d]
  .have: ¬s=a:=fun e=>d e.symm
   rw[be d,Tg,ih (by simpa[this]using h)];rfl
theorem cU{m:List ((KC.str).K×V)}{s:ae}{v:V}(h:s∉m.map T2):(cH .str m s v).map T2=m.map T2++ [s]:=by
 induction m with
 |nil=>simp[cH]
 |cons x r ih=>
  obtain⟨a,b⟩:=x;simp only[Tg,Tt,not_or]at h;have: ¬a=s:=fun e=>h.1 e.symm;simp only[cH,be this,Tg,ih h.2];rfl
theorem Bu{m:List ((KC.str).K×V)}{t:ae}{z:V}(h:t∉m.map T2):cI .str m t z=z:=by
 induction m with
 |nil=>rfl
 |cons x r ih=>
  obtain⟨a,b⟩:=x;simp only[Tg,Tt,not_or]at h;have: ¬a=t:=fun e=>h.1 e.symm;simp only[cI,be this];exact ih h.2
end
theorem pN{α:Type}{p:List α->Prop}(h0:p [])(h1: ∀l a,p l->p (l++ [a]))(l:List α):p l:=by
 have key: ∀r:List α,p r.reverse:=by
  intro r
  induction r with
  |nil=>exact h0
  |cons a r ih=>rw[Vt];exact h1 _ _ ih
 simpa using key l.reverse
def pt(l:List ae)(t:ae):Nat:=(l.filter fun x=>kw (x=t)).length
theorem AM(l m:List ae)(t:ae):pt (l++m) t=pt l t+pt m t:=by simp[pt]
theorem gu(l:List ae)(t:ae):pt l t<=l.length:=Uz _ _
theorem va{l:List ae}{t:ae}:0<pt l t↔t∈l:=by
 rw[pt,List.length_pos_iff_exists_mem];constructor
 .rintro⟨x,hx⟩;obtain⟨d,j⟩:=T5.1 hx;exact(zT j)▸d
 .exact fun h=>⟨t,T5.2 ⟨h,by simp⟩⟩
theorem rO{l:List ae}{t:ae}:pt l t=0↔t∉l:=by
 rw[<-va];omega
theorem bN(l:List ae)(t:ae):cI .str (aI l) t 0=(pt l t:Int):=by
 induction l using pN with
 |h0=>rfl
 |h1 l s ih=>
  rw[du,vh,eD,AM];by_cases h:s=t
  .subst h;rw[ih];simp[pt]
  .rw[be h,ih];simp[h,pt]
theorem eB(l:List ae):((aI l).map T2).Nodup∧ ∀t:ae,t∈(aI l).map T2↔t∈l:=by
 induction l using pN with
 |h0=>simp[aI]
 |h1 l s ih=>
  rw[du,vh];obtain⟨h1,d⟩:=ih;by_cases h:s∈(aI l).map T2
  .rw[lZ h];refine⟨h1,fun t=>?_⟩;rw[d,Ts,Tk];exact⟨.inl,fun j=>j.elim id fun e=>e▸(d s).1 h⟩
  .rw[cU h];refine⟨?_,fun t=>by rw[Ts,d,Ts]⟩;rw[UK];refine⟨h1,Ug.2 ⟨VQ,T3⟩,fun a u b hb e=>?_⟩;rw[Tk]at hb;exact h ((e.trans hb)▸u)
def cV(a:Atom):List ae:=a.aj.flatMap fun t=>if t.kind=1 then[t.var] else[]
theorem bq{α β:Type}[Inhabited α]{l:List α}{f:α->List β}{i:Nat}(h:i<l.length):(l.take (i+1)).flatMap f=(l.take i).flatMap f++f (l.getD i co):=by
 rw[bb h,UI];simp
theorem tQ: ∀l:List Term,(l.flatMap fun t=>if t.kind=1 then[t.var] else[]).length<=l.length
 | []=>by simp
 |t::r=>by
  have:=tQ r;have d:(if t.kind=1 then[t.var] else[]).length<=1:=by split<;>simp
  rw[TJ,S1,Tr];omega
theorem jc(a:Atom):(cV a).length<=a.aj.length:=tQ a.aj
theorem d88(occ:List ae)(a:Atom)(hb:occ.length+a.aj.length<=1000000000000):bB Tryz.prog 228 [.mp 0,ag a.c] [cN (aI occ)] (.aZ []) [(0,dl (cN (aI (occ++cV a))))] 1:=by
 refine an ab Tryz.func228 I (by decide) Tryz.ntmps228 I (by simp) ?_;refine gA I ?_;refine aJ 0 a.aj.length (Te _) (fun i=>⟨[(0,.mp 0),(3,.ptr 1 0),(7,.iv (bz 5 a.aj Term.c)),(8,pI a.aj.length),(9,pI i)],[(0,dl (cN (aI (occ++(a.aj.take i).flatMap fun t=>if t.kind=1 then[t.var] else[]))))],2⟩) (fun _=>True) [] ac
  (zW (hM I (by simp) I trivial)) fun i C _=>?_
 have A:=tQ (a.aj.take i);simp only[TA]at A;refine zJ I I (fun d=>?_) fun d=>?_
 .have d:i<a.aj.length:=by simpa using d
  have u:=bq (f:=fun t:Term=>if t.kind=1 then[t.var] else[]) d;have B:=bN (occ++(a.aj.take i).flatMap fun t=>if t.kind=1 then[t.var] else[]) (a.aj.getD i co).var;have x:=gu (occ++(a.aj.take i).flatMap fun t=>if t.kind=1 then[t.var] else[]) (a.aj.getD i co).var;rw[S1]at x;refine zJ I I (fun j=>?_) fun j=>?_
  .have j:(a.aj.getD i co).kind=1:=by simpa using j
   rw[am j]at u;refine gA I ⟨d,ac,[],zW (hM I (by rw[u,<-Tb,du];rfl) I ac)⟩
  .have j: ¬(a.aj.getD i co).kind=1:=by simpa using j
   rw[be j,TC]at u;refine gA I ⟨d,ac,[],zW (hM I (by rw[u]) I ac)⟩
 .have d:a.aj.length<=i:=by simpa using d
  have y:a.aj.take i=a.aj:=Tf d;refine gA I (zD [] I (zW (hM I (by rw[y];rfl) I ac)))
end
end Go.Proofs.YtbhphmfbligliaaGreatDoor
namespace Go.Proofs.YtbhphmfbligliaaGreatDoor
open Go Go.Al Go.Proofs.Tryz
mutual
def cE:Expr->List ae
 | .mk k v _ _ args=>if k=1 then[v] else if k=4 then jZ args else[]
def jZ:List Expr->List ae
 | []=> []
 |e::r=>cE e++jZ r
end
theorem nn: ∀l:List Expr,jZ l=l.flatMap cE
 | []=>rfl
 |e::r=>by simp only[jZ,TJ,nn r]
theorem BP(e:Expr):cE e=if e.kind=1 then[e.var] else if e.kind=4 then e.args.flatMap cE else[]:=by
 cases e with
 |mk k v val op args=>simp only[cE,Expr.kind,Expr.var,Expr.args,nn];rfl
mutual
theorem gQ: ∀e:Expr,(cE e).length<=e.size
 | .mk k v _ _ args=>by
  have:=mc args;simp only[cE,Expr.size];split
  .simp
  .split
   .omega
   .simp
theorem mc: ∀l:List Expr,(jZ l).length<=Expr.au l
 | []=>by simp[jZ]
 |e::r=>by
  have d:=gQ e;have j:=mc r;simp only[jZ,Expr.au,S1];omega
end
theorem d135: ∀(n:Nat) (e:Expr) (occ:List ae),e.size<=n->occ.length+e.size<=1000000000000->bB prog 300 [.mp 0,ag e.c] [cN (aI occ)] (.aZ []) [(0,dl (cN (aI (occ++cE e))))] 1
 |0,e,_,h,_=>by have:=e.size_pos;omega
 |n+1,e,occ,h,hb=>by
  refine bB.le (args:=[.mp 0,ag e.c1]) ?_ ⟨.refl _,e.CO,ac⟩;have x:=BP e;have F:=e.size_eq;have C:=bN occ e.var;have B:=gu occ e.var;refine an ab func300 I (by decide) ntmps300 I (by simp) ?_;refine zJ I I (fun j=>?_) fun j=>?_
  .have j:e.kind=1:=by simpa using j
   rw[am j]at x;refine gA I (zD [] I (zW (hM I (by rw[x,du];rfl) I ac)))
  have j: ¬e.kind=1:=by simpa using j
  rw[be j]at x;refine zJ I I (fun u=>?_) fun u=>?_
  .have u:e.kind=4:=by simpa using u
   rw[am u]at x;refine gA I ?_;refine aJ 0 e.args.length (Te _) (fun i=>⟨[(0,.mp 0),(3,.ptr 1 0),(18,.iv (bz 7 e.args Expr.c)),(19,pI e.args.length),(20,pI i)],[(0,dl (cN (aI (occ++(e.args.take i).flatMap cE))))],2⟩) (fun _=>True) [] ac
    (zW (hM I (by simp) I trivial)) fun i J _=>?_
   have A:=Expr.aA e.args;refine zJ I I (fun d=>?_) fun d=>?_
   .have d:i<e.args.length:=by simpa using d
    have D:=bq (f:=cE) d;have Y:=Expr.dT e.args i d;have G:=mc (e.args.take i);rw[nn]at G;refine gA I (aE [0] (d135 n (e.args.getD i co) _ (by omega) (by rw[S1];omega)) I I I I I I I I ?_);refine gA I ⟨d,ac,[],zW (hM I (by rw[D,Tb]) I ac)⟩
   .have d:e.args.length<=i:=by simpa using d
    have y:e.args.take i=e.args:=Tf d;refine gA I (zD [] I (zW (hM I (by rw[x,y]) I ac)))
  .have u: ¬e.kind=4:=by simpa using u
   rw[be u]at x;refine gA I (zD [] I (zW (hM I (by rw[x,TC]) I ac)))
theorem G9(e:Expr)(occ:List ae)(hb:occ.length+e.size<=1000000000000):bB prog 300 [.mp 0,ag e.c] [cN (aI occ)] (.aZ []) [(0,dl (cN (aI (occ++cE e))))] 1:=d135 e.size e occ (S9 _) hb
def cX(l:Lit):List ae:=if l.kind=1∨l.kind=2 then cV l.atom else if l.kind=3 then cE l.left++cE l.right else[]
theorem lV(l:Lit):(cX l).length+2<=l.size:=by
 have d:=jc l.atom;have j:=gQ l.left;have u:=gQ l.right;rw[l.size_eq];unfold cX;split
 .omega
 .split
  .rw[S1];omega
  .simp;omega
theorem d89(l:Lit)(occ:List ae)(hb:occ.length+l.size<=1000000000000):bB prog 257 [.mp 0,ag l.c] [cN (aI occ)] (.aZ []) [(0,dl (cN (aI (occ++cX l))))] 1:=by
 have A:=l.size_eq;have B:=gQ l.left;refine an ab func257 I (by decide) ntmps257 I (by simp) ?_;refine zJ I I (fun j=>?_) fun j=>?_
 .have j:l.kind=1:=zT j;have y:cX l=cV l.atom:=am (.inl j);refine gA I (zq [0] (d88 occ l.atom (by omega)) ?_);refine gA I (zD [] I (zW (hM I (by rw[y]) I ac)))
 have j: ¬l.kind=1:=zF j;refine zJ I I (fun u=>?_) fun u=>?_
 .have u:l.kind=2:=zT u;have y:cX l=cV l.atom:=am (.inr u);refine gA I (zq [0] (d88 occ l.atom (by omega)) ?_);refine gA I (zD [] I (zW (hM I (by rw[y]) I ac)))
 have u: ¬l.kind=2:=zF u;have d:cX l=if l.kind=3 then cE l.left++cE l.right else[]:=be (by simp[j,u]);refine zJ I I (fun x=>?_) fun x=>?_
 .have x:l.kind=3:=zT x;rw[am x]at d;refine gA I (zq [0] (G9 l.left occ (by omega)) ?_);refine gA I (aE [0] (G9 l.right _ (by rw[S1];omega)) I I I I I I I I ?_);refine gA I (zD [] I (zW (hM I (by rw[d,Tb]) I ac)))
 .have x: ¬l.kind=3:=zF x;rw[be x]at d;refine gA I (zD [] I (zW (hM I (by rw[d,TC]) I ac)))
def bj(a:gl):List ae:=(if a.func=1 then[] else cE a.jo)++a.body.flatMap cX
theorem kC: ∀l:List Lit,(l.flatMap cX).length<=Lit.au l
 | []=>by simp
 |e::r=>by
  have d:=lV e;have j:=kC r;rw[TJ,S1];simp only[Lit.au];omega
theorem MG(e:Expr)(hb:e.size<=1000000000000):bB prog 300 [.mp 0,ag e.c] [.fj] (.aZ []) [(0,dl (cN (aI (cE e))))] 1:=
 (G9 e [] (by simpa using hb)).My ⟨⟨id,fun M N U w j d=>⟨#[],0,d,⟨rfl,by simp[aI],by simp[aI],by simp,by simp⟩,eE M⟩⟩,ac⟩
theorem Sk(a:Atom)(hb:a.aj.length<=1000000000000):bB prog 228 [.mp 0,ag a.c] [.fj] (.aZ []) [(0,dl (cN (aI (cV a))))] 1:=
 (d88 [] a (by simpa using hb)).My ⟨⟨id,fun M N U w j d=>⟨#[],0,d,⟨rfl,by simp[aI],by simp[aI],by simp,by simp⟩,eE M⟩⟩,ac⟩
theorem d127(a:gl)(hb:a.size<=1000000000000):bB prog 263 [ag a.c] [] (.mp 0) [(0,dl (cN (aI (bj a))))] 1:=by
 refine bB.le (args:=[ag a.c1]) ?_ ⟨a.CO,ac⟩;unfold gl.size at hb;have B:=gQ a.jo;have A:=Lit.aA a.body;refine an ab func263 I (by decide) ntmps263 I (by simp) ?_;refine zJ I I (fun j=>?_) fun j=>?_
 .have j: ¬a.func=1:=by simpa using j
  have u:bj a=cE a.jo++a.body.flatMap cX:=by unfold bj;rw[be j]
  refine gA I (zq [1] (MG a.jo (by omega)) ?_);refine gA I ?_;refine aJ 0 a.body.length (Te _) (fun i=>⟨[(3,.mp 1),(15,.iv (lits a.body)),(16,pI a.body.length),(17,pI i)],[(1,dl (cN (aI (cE a.jo++(a.body.take i).flatMap cX))))],2⟩) (fun _=>True) [] ac
   (zW (hM I (by simp) I trivial)) fun i C _=>?_
  refine zJ I I (fun d=>?_) fun d=>?_
  .have d:i<a.body.length:=by simpa using d
   have y:=bq (f:=cX) d;have D:=Lit.dT a.body i d;have F:=kC (a.body.take i);refine gA I (aE [1] (d89 (a.body.getD i co) _ (by rw[S1];omega)) I I I I I I I I ?_);refine gA I ⟨d,ac,[],zW (hM I (by rw[y,Tb]) I ac)⟩
  .have d:a.body.length<=i:=by simpa using d
   have x:a.body.take i=a.body:=Tf d;refine gA I (zD [1] I (zW (hM I (by rw[x,u]) I ac)))
 .have j:a.func=1:=by simpa using j
  have u:bj a=a.body.flatMap cX:=by unfold bj;rw[am j];rfl
  refine gA I ?_;refine aJ 0 a.body.length (Te _) (fun i=>⟨[(3,.mp 1),(15,.iv (lits a.body)),(16,pI a.body.length),(17,pI i)],[(1,dl (cN (aI ((a.body.take i).flatMap cX))))],2⟩) (fun _=>True) [] ac
   (zW (OJ I eE I trivial)) fun i C _=>?_
  refine zJ I I (fun d=>?_) fun d=>?_
  .have d:i<a.body.length:=by simpa using d
   have y:=bq (f:=cX) d;have D:=Lit.dT a.body i d;have F:=kC (a.body.take i);refine gA I (aE [1] (d89 (a.body.getD i co) _ (by omega)) I I I I I I I I ?_);refine gA I ⟨d,ac,[],zW (hM I (by rw[y]) I ac)⟩
  .have d:a.body.length<=i:=by simpa using d
   have x:a.body.take i=a.body:=Tf d;refine gA I (zD [1] I (zW (hM I (by rw[x,u]) I ac)))
def ins:List ae->ae->List ae
 | [],s=> [s]
 |x::r,s=>if x=s then x::r else if Op.bytesLess x.toList s.toList=is then x::ins r s else s::x::r
theorem jV(s:ae): ∀(l a:List ae),l.foldl (ep s) (a,is)=(a++l,is)
 | [],a=>by simp
 |x::r,a=>by
  have:ep s (a,is) x=(a++ [x],is):=by simp[ep]
  rw[TM,this,jV s r];simp
theorem xc(s:ae): ∀(l a:List ae),(if(l.foldl (ep s) (a,jp)).2 then(l.foldl (ep s) (a,jp)).1 else(l.foldl (ep s) (a,jp)).1++ [s])=a++ins l s
 | [],a=>by simp[ins]
 |x::r,a=>by
  by_cases d:x=s
  .have:ep s (a,jp) x=(a++ [x],is):=by simp[ep,d]
   rw[TM,this,jV];simp[ins,d]
  .cases h2:Op.bytesLess x.toList s.toList with
   |true=>
    have:ep s (a,jp) x=(a++ [x],jp):=by simp[ep,d,h2]
    rw[TM,this,xc s r];simp[ins,d,h2]
   |false=>
    have:ep s (a,jp) x=(a++ [s]++ [x],is):=by simp[ep,d,h2]
    rw[TM,this,jV];simp[ins,d,h2]
theorem v7(l:List ae)(s:ae):gK l s=ins l s:=by
 have:=xc s l [];simpa[gK]using this
theorem yj{x:ae}: ∀{l:List ae} {s:ae},x∈ins l s↔x∈l∨x=s
 | [],s=>by simp[ins]
 |y::r,s=>by
  simp only[ins];split
  .rename_i h;subst h;simp;exact fun h=> .inl h
  .split
   .simp[yj (l:=r),or_assoc]
   .simp;constructor
    .rintro(h|h|h)
     .exact .inr h
     .exact .inl (.inl h)
     .exact .inl (.inr h)
    .rintro((h|h)|h)
     .exact .inr (.inl h)
     .exact .inr (.inr h)
     .exact .inl h
theorem dI{x s:ae}{l:List ae}:x∈gK l s↔x∈l∨x=s:=by rw[v7];exact yj
theorem sq{x:ae}: ∀{m l:List ae},x∈nE l m↔x∈l∨x∈m
 | [],l=>by simp[nE]
 |y::r,l=>by
  have h:=sq (x:=x) (m:=r) (l:=gK l y);simp only[nE,TM]at h ⊢;rw[h,dI,Tt,or_assoc]
theorem bO{l:List ae}{s:ae}:dQ l s=is↔s∈l:=by
 simp[dQ]
theorem fi{l:List ae}{s:ae}:dQ l s=jp↔s∉l:=by
 rw[<-Bool.not_eq_true,bO]
def ji(l:Lit):List ae:=cX l++if l.kind=4 then[l.bH] else[]
def aF(r:aq):List ae:=cV r.head++r.body.flatMap ji
theorem Bw(l:Lit):(ji l).length+1<=l.size:=by
 have:=lV l;unfold ji;rw[S1];split<;>simp<;>omega
theorem mV: ∀l:List Lit,(l.flatMap ji).length<=Lit.au l
 | []=>by simp
 |e::r=>by
  have d:=Bw e;have j:=mV r;rw[TJ,S1];simp only[Lit.au];omega
theorem yc(r:aq):(aF r).length<=r.size:=by
 have d:=mV r.body;have j:=jc r.head;unfold aF aq.size;rw[S1];omega
def MI(r:aq):List IV:=[iS r.head.rel,bz 5 r.head.aj Term.c,lits r.body,iI r.at_.line,iI r.at_.HM,wL (aI (aF r))]
abbrev cF(r:aq):IV:= .iY (MI r)
theorem c48(r:aq)(hb:r.size<=1000000000000):Pure prog 212 [ag r.c] (.iv (cF r)):=by
 unfold aq.size at hb;have C:=jc r.head;have B:=Lit.aA r.body;refine ai ab func212 I (by decide) ntmps212 I (by simp) I ?_;refine gA I (zd [1] (Sk r.head (by omega)) ?_);refine gA I ?_
 refine aJ 0 r.body.length (Te _) (fun i=>⟨[(3,.ptr 2 0),(18,.iv (lits r.body)),(19,pI r.body.length),(20,pI i)],
   [(1,dl (cN (aI (cV r.head++(r.body.take i).flatMap ji)))),(2,dl (.cells [pS r.head.rel,.iv (bz 5 r.head.aj Term.c),.iv (lits r.body),pI r.at_.line,pI r.at_.HM,.mp 1]))],3⟩) (fun _=>True) [] ac
  (zW (hM I (by simp) I (zO trivial))) fun i G _=>?_
 refine zJ I I (fun j=>?_) fun j=>?_
 .have j:i<r.body.length:=by simpa using j
  have x:=bq (f:=ji) j;have J:=Lit.dT r.body i j;have Y:=mV (r.body.take i);have F:=lV (r.body.getD i co);refine gA I (ck ab [1] (d89 (r.body.getD i co) _ (by rw[S1];omega)) I I I I I I I I I I I I (by(repeat' (first|exact ac|exact rfl|exact ak.refl _|exact ak.bk (by assumption)|apply S3))<;>first|omega|(simp only[S7];omega)|(simp;done)|(simp;omega)) I (by(repeat' (first|exact ac|exact rfl|exact ak.refl _|exact ak.bk (by assumption)|apply S3))<;>first|omega|(simp only[S7];omega)|(simp;done)|(simp;omega)) ?_);refine zJ I I (fun u=>?_) fun u=>?_
  .have u:(r.body.getD i co).kind=4:=zT u;have d:ji (r.body.getD i co)=cX (r.body.getD i co)++ [(r.body.getD i co).bH]:=by unfold ji;rw[am u]
   rw[d]at x;have D:=bN (cV r.head++(r.body.take i).flatMap ji++cX (r.body.getD i co)) (r.body.getD i co).bH;have y:=gu (cV r.head++(r.body.take i).flatMap ji++cX (r.body.getD i co)) (r.body.getD i co).bH;rw[S1,S1]at y;refine gA I ⟨j,ac,[],zW (hM I (by rw[x,<-Tb,<-Tb,du];rfl) I (zO ac))⟩
  .have u: ¬(r.body.getD i co).kind=4:=zF u;have d:ji (r.body.getD i co)=cX (r.body.getD i co):=by unfold ji;rw[be u,TC]
   rw[d]at x;refine gA I ⟨j,ac,[],zW (hM I (by rw[x,<-Tb]) I (zO ac))⟩
 .have j:r.body.length<=i:=by simpa using j
  have A:r.body.take i=r.body:=Tf j;refine ik I ac (iJ (.inr I) I (.map 1 I (.cells 2 _ I (show _=List.map PV.iv (MI r) by rw[A];rfl) (.done (.of_eq I)))))
def ba(occ:List ae)(e:Expr):Bool:=(cE e).all fun x=>dQ occ x
theorem tc{l:List ae}{j:Nat}{x:(KC.str).K×Int}(h:(aI l)[j]? =dl x):x.1∈l:=
 ((eB l).2 x.1).1 (Uf.2 ⟨x,T7 h,rfl⟩)
theorem all_keys{l:List ae}{vs:List Nat}(h: ∀j,j<(aI l).length->j∈vs){p:ae->Prop}(hp: ∀j∈vs,∀x,(aI l)[j]? =dl x->p x.1): ∀t∈l,p t:=by
 intro t u;obtain⟨x,y,rfl⟩:=Uf.1 (((eB l).2 t).2 u);obtain⟨j,d⟩:=Ue y;exact hp j (h j (S2.1 d).1) x d
theorem d125(occ:List ae)(e:Expr)(hb:e.size<=1000000000000):bB prog 304 [.mp 0,ag e.c] [cN (aI occ)] (pB (ba occ e)) [(0,dl (cN (aI occ)))] 1:=by
 refine an ab func304 I (by decide) ntmps304 I (by simp) ?_;refine gA I (zq [2] (MG e hb) ?_);refine gA I ?_;refine ib (aI (cE e)) (fun vs=>⟨[(0,.mp 0),(12,.ptr 3 0)],[(0,dl (cN (aI occ))),(3,dl (.bZ .str yQ (aI (cE e)) vs io))],4⟩) (fun vs=> ∀j∈vs,∀x,(aI (cE e))[j]? =dl x->x.1∈occ) [] (by simp)
  (zW (zC (hI I I (.inl I) I trivial))) fun vs F=>?_
 refine ik I ac (fq I I I I I (by decide) (fun u=>?_) fun j x C G=>?_)
 .refine gA I (zD [] I (zM ⟨.of_eq (by rw[show ba occ e=is from TI.2 fun t J=>bO.2 (all_keys u F t J)];rfl),rfl,ac⟩ (zC ac)))
 .have A:=bN occ x.1;refine zJ I I (fun d=>?_) fun d=>?_
  .have d:cI .str (aI occ) x.1 0=0:=zT d;have B:x.1∉occ:=rO.1 (by rw[A]at d;omega);refine gA I (zD [] I (zM ⟨.of_eq (by rw[show ba occ e=jp from WH.2 ⟨x.1,tc C,by rw[fi.2 B];simp⟩];rfl),rfl,ac⟩ (zC ac)))
  .have d: ¬cI .str (aI occ) x.1 0=0:=zF d;have B:x.1∈occ:=va.1 (by rw[A]at d;omega);refine gA I ?_
   exact⟨j,x,C,G,fun i hi y D=>by
    rcases Tt.1 hi with rfl|hi
    .rw[C]at D;cases D;exact B
    .exact F i hi y D,[],zW (zC (hI I I (.inr I) I ac))⟩
def ar(r:aq)(lit:Int):Lit:=r.body.getD lit.toNat co
theorem Lit.ke(l:Lit):l.agg.size+2<=l.size:=by
 rw[l.size_eq];unfold gl.size Lit.agg;dsimp only;omega
theorem oJ{a b:ae×Bool}(h:a=b):PV.aZ [pS a.1,pB a.2]= .aZ [pS b.1,pB b.2]:=by rw[h]
def kG(l:Lit)(d:List ae):ae×Bool:=
 if¬l.kind=3∨ ¬l.op=1 then(Ta,jp)
 else if l.left.kind=1∧dQ d l.left.var=jp∧(l.right.kind=2∨l.right.kind=1∧dQ d l.right.var=is) then(l.left.var,is)
 else if l.right.kind=1∧(if l.left.kind=1 then dQ d l.left.var else kw (l.left.kind=2))=is then(l.right.var,!dQ d l.right.var)
 else(Ta,jp)
def bT(body:List Lit):List ae:=body.flatMap fun l=> [l.left.var,l.right.var,l.bH]
def cQ(c k:List ae):Nat:=(c.filter fun x=>!dQ k x).length
theorem jH: ∀body:List Lit,(bT body).length=3*body.length
 | []=>rfl
 |l::r=>by have:=jH r;simp only[bT,TJ,S1,Tr,Ur]at this ⊢;omega
theorem qp(c k:List ae):cQ c k<=c.length:=Uz _ _
theorem qo{v:ae}{k:List ae}: ∀{c:List ae},v∈c->v∉k->cQ c (gK k v)<cQ c k:=by
 have mono: ∀c:List ae,cQ c (gK k v)<=cQ c k:=by
  intro c
  induction c with
  |nil=>exact S9 _
  |cons x r j=>
   simp only[cQ]at j ⊢;simp only[U6];by_cases d:x∈k
   .have:dQ (gK k v) x=is:=bO.2 (dI.2 (.inl d));rw[this,bO.2 d];exact j
   .simp only[fi.2 d,V3,if_true,Tr];split<;>(try simp only[Tr])<;>omega
 intro c y A
 induction c with
 |nil=>cases y
 |cons x r j=>
  have B:=mono r;simp only[cQ]at j B ⊢;simp only[U6];by_cases u:x=v
  .subst u;have:dQ (gK k x) x=is:=bO.2 (dI.2 (.inr I));simp[this,fi.2 A];omega
  .have C:v∈r:=by
    rcases Tt.1 y with h|h
    .exact absurd h.symm u
    .exact h
   have j:=j C;by_cases d:x∈k
   .have:dQ (gK k v) x=is:=bO.2 (dI.2 (.inl d));simp[this,bO.2 d];exact j
   .have:dQ (gK k v) x=jp:=fi.2 fun h=>by rcases dI.1 h with h|h;exact d h;exact u h
    simp[this,fi.2 d];omega
def D1(k:List ae)(l:Lit):List ae:=if l.kind=1 then nE k (qM l.atom) else k
theorem xp{body:List Lit}{l:Lit}(h:l∈body){v:ae}(d:v∈ [l.left.var,l.right.var,l.bH]):v∈bT body:=VS.2 ⟨l,h,d⟩
def gi(may:Expr->Bool)(occ:List ae)(l:Lit):ae×Bool:=
 if¬l.kind=3∨ ¬l.op=1 then(Ta,jp)
 else if l.left.kind=1∧dQ occ l.left.var=jp∧may l.right=is then(l.left.var,is)
 else if l.right.kind=1∧dQ occ l.right.var=jp∧may l.left=is then(l.right.var,is)
 else(Ta,jp)
theorem cx{occ:List ae}{s:ae}:dQ occ s=!kw (cI .str (aI occ) s 0=0):=by
 rw[bN];by_cases h:s∈occ
 .have:=va.2 h;rw[bO.2 h];simp;omega
 .rw[fi.2 h,rO.2 h];rfl
def cB(occ:List ae)(e:Expr):Bool:=kw (e.kind=2)||(kw (e.kind=1)&&dQ occ e.var)
theorem mN{a b:Bool}(h:a=b):pB a=pB b:=by rw[h]
theorem d76(occ:List ae)(e:Expr)(hb:e.size<=1000000000000):bB prog 175 [ag e.c,.ptr 1 0] [cN (aI occ),.cells [.mp 0]] (pB (cB occ e)) [(0,dl (cN (aI occ))),(1,dl (.cells [.mp 0]))] 2:=by
 have d:=bN occ e.var;have j:=cx (occ:=occ) (s:=e.var);refine an ab func175 I (by decide) ntmps175 I (by simp) ?_
 repeat' (first
  |(refine gA I (zI (fun _=>?_) (fun _=>?_)))
  |fail)
 all_goals first
  |(refine gA I (aC [] (.inr I) I (zM ⟨.of_eq (mN (a:=is) ?_),rfl,ac⟩ (zC (zO ac))));simp_all [cB];done)
  |(refine gA I (aC [] (.inr I) I (zM ⟨.of_eq (mN (a:=jp) ?_),rfl,ac⟩ (zC (zO ac))));simp_all [cB];done)
  |(refine gA I (aC [] (.inr I) I (zM ⟨.of_eq (mN (a:=kw (cI .str (aI occ) e.var 0>0)) ?_),rfl,ac⟩ (zC (zO ac))));rw[cB,j,d];simp_all;by_cases u:pt occ e.var=0<;>simp[u]<;>omega)
theorem c77(a:gl):Pure prog 176 [ag a.c] (pB jp):=by
 refine ai ab func176 I (by decide) ntmps176 I (by simp) I ?_;exact zU I
theorem Sy(a:gl):Pure prog 306 [ag a.c] (pB jp):=by
 refine ai ab func306 I (by decide) ntmps306 I (by simp) I ?_;exact zU I
def mR(out occ:List ae)(a:gl):Bool:=(bj a).all fun x=>kw (x=a.var)||(!dQ out x||dQ occ x)
theorem d126(r:aq)(occ:List ae)(a:gl)(hb:a.size<=1000000000000):bB prog 305 [ag a.c,.ptr 1 0,.ptr 2 0] [cN (aI occ),.cells [.iv (cF r)],.cells [.mp 0]] (pB (mR (aF r) occ a)) [(0,dl (cN (aI occ))),(1,dl (.cells [.iv (cF r)])),(2,dl (.cells [.mp 0]))] 3:=by
 refine an ab func305 I (by decide) ntmps305 I (by simp) ?_;refine gA I (zq [] (d127 a hb) ?_);refine gA I ?_;refine ib (aI (bj a)) (fun vs=>⟨[(1,.ptr 1 0),(2,.ptr 2 0),(3,.ptr 3 0),(8,.ptr 5 0)],[(0,dl (cN (aI occ))),(1,dl (.cells [.iv (cF r)])),(2,dl (.cells [.mp 0])),(3,dl (aD a.c)),(5,dl (.bZ .str yQ (aI (bj a)) vs io))],6⟩) (fun vs=> ∀j∈vs,∀x,(aI (bj a))[j]? =dl x->(kw (x.1=a.var)||(!dQ (aF r) x.1||dQ occ x.1))=is) [] (by simp)
  (zW (zC ⟨⟨_,rfl,.of_eq I⟩,SY I,rfl,⟨_,rfl,.of_eq I⟩,SY I,rfl,zK (hI I I (.inl I) I trivial)⟩)) fun vs F=>?_
 refine ik I ac (fq I I I I I (by decide) (fun d=>?_) fun j x u A=>?_)
 .refine gA I (zD [] I (zM ⟨.of_eq (mN (a:=is) (TI.2 fun t G=>all_keys (p:=fun t=>(kw (t=a.var)||(!dQ (aF r) t||dQ occ t))=is) d F t G).symm),rfl,ac⟩ (zC ⟨⟨_,rfl,.of_eq I⟩,SY I,rfl,⟨_,rfl,.of_eq I⟩,SY I,rfl,ac⟩)))
 .have more:(kw (x.1=a.var)||(!dQ (aF r) x.1||dQ occ x.1))=is-> ∀i∈j::vs,∀x,(aI (bj a))[i]? =dl x->(kw (x.1=a.var)||(!dQ (aF r) x.1||dQ occ x.1))=is:=fun h i hi y B=>by
   rcases Tt.1 hi with rfl|hi
   .rw[u]at B;cases B;exact h
   .exact F i hi y B
  have C:=cx (occ:=aF r) (s:=x.1);have D:=cx (occ:=occ) (s:=x.1);have J:=bN (aF r) x.1;have Y:=bN occ x.1;refine zJ I I (fun g1=>?_) fun g1=>?_
  .have g1:kw (x.1=a.var)=jp:=by simpa using g1
   refine zJ I I (fun g2=>?_) fun g2=>?_
   .have g2:dQ (aF r) x.1=is:=by
     have:=zT g2;rw[C];simp;omega
    refine zJ I I (fun g3=>?_) fun g3=>?_
    .have g3:dQ occ x.1=jp:=by rw[D,g3];rfl
     refine gA I (zD [] I (zM ⟨.of_eq (mN (a:=jp) (WH.2 ⟨x.1,tc u,by rw[g1,g2,g3];simp⟩).symm),rfl,ac⟩ (zC ⟨⟨_,rfl,.of_eq I⟩,SY I,rfl,⟨_,rfl,.of_eq I⟩,SY I,rfl,ac⟩)))
    .have g3:dQ occ x.1=is:=by rw[D,g3];rfl
     refine gA I ⟨j,x,u,A,more (by rw[g3];simp),[],zW (zC ⟨⟨_,rfl,.of_eq I⟩,SY I,rfl,⟨_,rfl,.of_eq I⟩,SY I,rfl,zK (hI I I (.inr I) I ac)⟩)⟩
   .have g2:dQ (aF r) x.1=jp:=by
     have:=zF g2;rw[C];simp;omega
    refine gA I ⟨j,x,u,A,more (by rw[g2];simp),[],zW (zC ⟨⟨_,rfl,.of_eq I⟩,SY I,rfl,⟨_,rfl,.of_eq I⟩,SY I,rfl,zK (hI I I (.inr I) I ac)⟩)⟩
  .have g1:kw (x.1=a.var)=is:=by simpa using g1
   refine gA I ⟨j,x,u,A,more (by rw[g1];simp),[],zW (zC ⟨⟨_,rfl,.of_eq I⟩,SY I,rfl,⟨_,rfl,.of_eq I⟩,SY I,rfl,zK (hI I I (.inr I) I ac)⟩)⟩
def lR(may:Expr->Bool)(more:gl->Bool)(occ:List ae)(l:Lit):Option ae:=
 if(gi may occ l).2=is then dl (gi may occ l).1 else if l.kind=4∧dQ occ l.bH=jp∧more l.agg=is then dl l.bH else io
def b4(may:Expr->Bool)(more:gl->Bool)(occ:List ae):List Lit->Option ae
 | []=>io
 |l::r=>match lR may more occ l with
  |some v=>dl v
  |none=>b4 may more occ r
def dp(may:List ae->Expr->Bool)(more:List ae->gl->Bool)(body:List Lit):Nat->List ae->List ae
 |0,occ=>occ
 |n+1,occ=>match b4 (may occ) (more occ) occ body with
  |some v=>dp may more body n (occ++ [v])
  |none=>occ
def bx(l:Lit):List ae:=if l.kind=1 then cV l.atom else[]
def b5(may:List ae->Expr->Bool)(more:List ae->gl->Bool)(body:List Lit)(occ:List ae):List ae:=dp may more body (3*body.length+1) (occ++body.flatMap bx)
theorem eR{may:List ae->Expr->Bool}{more:List ae->gl->Bool}{body:List Lit}{n:Nat}{occ:List ae}{v:ae}(h:b4 (may occ) (more occ) occ body=dl v):dp may more body (n+1) occ=dp may more body n (occ++ [v]):=by
 simp only[dp,h]
theorem eS{may:List ae->Expr->Bool}{more:List ae->gl->Bool}{body:List Lit}{n:Nat}{occ:List ae}(h:b4 (may occ) (more occ) occ body=io):dp may more body (n+1) occ=occ:=by
 simp only[dp,h]
theorem kO{may:Expr->Bool}{more:gl->Bool}{occ:List ae}: ∀{l m:List Lit},b4 may more occ l=io->b4 may more occ (l++m)=b4 may more occ m
 | [],_,_=>rfl
 |x::r,m,h=>by
  simp only[b4]at h;split at h
  .cases h
  .rename_i d;simp only[Tu,b4,d];exact kO h
theorem dO{may:Expr->Bool}{more:gl->Bool}{occ:List ae}{l:List Lit}{i:Nat}(h:b4 may more occ (l.take i)=io)(hi:i<l.length)(d:lR may more occ (l.getD i co)=io):b4 may more occ (l.take (i+1))=io:=by
 rw[bb hi,kO h];simp only[b4,d]
theorem pj{may:Expr->Bool}{more:gl->Bool}{occ:List ae}{l:List Lit}{i:Nat}{v:ae}(h:b4 may more occ (l.take i)=io)(hi:i<l.length)(d:lR may more occ (l.getD i co)=dl v):b4 may more occ l=dl v:=by
 have e:l=l.take i++(l.getD i co::l.drop (i+1)):=by
  rw[S4,S5 hi,Uk,List.getElem_cons_drop,T9]
 rw[e,kO h];simp only[b4,d]
theorem uB{may:Expr->Bool}{more:gl->Bool}{occ:List ae}{l:Lit}{v:ae}(h:lR may more occ l=dl v):v∈ [l.left.var,l.right.var,l.bH]∧v∉occ:=by
 unfold lR at h;split at h
 .rename_i d;simp only[S0]at h;subst h;unfold gi at d ⊢;split at d
  .cases d
  .rename_i x;rw[be x];split at d
   .rename_i j;rw[am j];exact⟨by simp,fi.1 j.2.1⟩
   .rename_i j;rw[be j];split at d
    .rename_i u;rw[am u];exact⟨by simp,fi.1 u.2.1⟩
    .cases d
 .split at h
  .rename_i j;simp only[S0]at h;subst h;exact⟨by simp,fi.1 j.2.1⟩
  .cases h
theorem jY{may:Expr->Bool}{more:gl->Bool}{occ:List ae}{v:ae}: ∀{l:List Lit},b4 may more occ l=dl v->v∈bT l∧v∉occ
 | [],h=>by cases h
 |x::r,h=>by
  simp only[b4]at h;split at h
  .rename_i w u;simp only[S0]at h;subst h;obtain⟨d,j⟩:=uB u;exact⟨xp Tm d,j⟩
  .obtain⟨d,j⟩:=jY h;refine⟨?_,j⟩;simp only[bT,TJ,Ts]at d ⊢;exact .inr d
theorem fF: ∀l:List Lit,(l.flatMap bx).length<=Lit.au l
 | []=>by simp
 |e::r=>by
  have d:=fF r;have j:(bx e).length<=e.size:=by
   have:=jc e.atom;have:=e.size_eq;unfold bx;split
   .omega
   .simp
  rw[TJ,S1];simp only[Lit.au];omega
theorem Rn(occ:List ae)(l:Lit)(hb:l.size<=100000000000):bB prog 229 [ag l.c,.cJ (.func 304) [.mp 0] [],.mp 0] [cN (aI occ)] (.aZ [pS (gi (ba occ) occ l).1,pB (gi (ba occ) occ l).2]) [(0,dl (cN (aI occ)))] 1:=by
 have A:=l.size_eq;have x:=bN occ l.left.var;have y:=bN occ l.right.var;refine an ab func229 I (by decide) ntmps229 I (by simp) ?_;refine zE I I (fun d=>?_) fun d=>?_
 .have d: ¬l.kind=3:=by simpa using d
  refine gA I (zD [] I (zM ⟨.of_eq (oJ (a:=(Ta,jp)) (by rw[gi,am (.inl d)])),rfl,ac⟩ (zC ac)))
 have d:l.kind=3:=by simpa using d
 refine zJ I I (fun j=>?_) fun j=>?_
 .have j: ¬l.op=1:=by simpa using j
  refine gA I (zD [] I (zM ⟨.of_eq (oJ (a:=(Ta,jp)) (by rw[gi,am (.inr j)])),rfl,ac⟩ (zC ac)))
 have j:l.op=1:=by simpa using j
 have u:gi (ba occ) occ l=if l.left.kind=1∧dQ occ l.left.var=jp∧(ba occ) l.right=is then(l.left.var,is) else if l.right.kind=1∧dQ occ l.right.var=jp∧(ba occ) l.left=is then(l.right.var,is) else(Ta,jp):=by
  rw[gi,be (by simp[d,j])]
 repeat' (first
  |(refine gA I (zI (fun _=>?_) (fun _=>?_)))
  |(refine gA I (aE [0] (d125 occ l.left (by omega)) I I I I I I I I ?_))
  |(refine gA I (aE [0] (d125 occ l.right (by omega)) I I I I I I I I ?_))
  |fail)
 all_goals first
  |(refine gA I (aC [] (.inr I) I (zM ⟨.of_eq (oJ (a:=(Ta,jp)) ?_),rfl,ac⟩ (zC ac)));rw[u];simp only[cx] at*;simp_all;done)
  |(refine gA I (aC [] (.inr I) I (zM ⟨.of_eq (oJ (a:=(l.left.var,is)) ?_),rfl,ac⟩ (zC ac)));rw[u];simp only[cx] at*;simp_all;done)
  |(refine gA I (aC [] (.inr I) I (zM ⟨.of_eq (oJ (a:=(l.right.var,is)) ?_),rfl,ac⟩ (zC ac)));rw[u];simp only[cx] at*;simp_all;done)
  |(exfalso;simp_all;done)
theorem Sn(occ:List ae)(body:List Lit)(hb:occ.length+8*Lit.au body<=100000000000):bB prog 174 [.iv (lits body),.mp 0,.cJ (.func 304) [.mp 0] [],.cJ (.func 306) [] []] [cN (aI occ)] (.aZ []) [(0,dl (cN (aI (b5 (fun occ=>ba occ) (fun occ=>fun _=>jp) body occ))))] 1:=by
 have g0:=Lit.aA body;have l0:=fF body;have i0:=jH body;have k0:=qp (bT body) (occ++body.flatMap bx);refine an ab func174 I (by decide) ntmps174 I (by simp) ?_;refine gA I ?_;refine aJ 0 body.length (Te _) (fun i=>⟨[(0,.iv (lits body)),(1,.mp 0),(2,.cJ (.func 304) [.mp 0] []),(3,.cJ (.func 306) [] []),(14,.iv (lits body)),(15,pI body.length),(16,pI i)],[(0,dl (cN (aI (occ++(body.take i).flatMap bx))))],1⟩) (fun _=>True) [] ac
  (zW (hM I (by simp) I trivial)) fun i hi _=>?_
 refine zJ I I (fun u=>?_) fun u=>?_
 .have u:i<body.length:=by simpa using u
  have G:=bq (f:=bx) u;have hn:=Lit.dT body i u;have hv:=fF (body.take i);have n0:=(body.getD i co).size_eq;refine zJ I I (fun y=>?_) fun y=>?_
  .have y:(body.getD i co).kind=1:=by simpa using y
   rw[show bx (body.getD i co)=_ from am y]at G;refine gA I (zq [0] (d88 (occ++(body.take i).flatMap bx) (body.getD i co).atom (by rw[S1];omega)) ?_);refine gA I ⟨u,ac,[],zW (hM I (by rw[G,Tb]) I ac)⟩
  .have y: ¬(body.getD i co).kind=1:=by simpa using y
   rw[show bx (body.getD i co)=_ from be y,TC]at G;refine gA I ⟨u,ac,[],zW (hM I (by rw[G]) I ac)⟩
 have u:body.length<=i:=by simpa using u
 have e0:body.take i=body:=Tf u;rw[e0];refine gA I ?_;refine ly (σ:={x:List ae×Nat//b5 (fun occ=>ba occ) (fun occ=>fun _=>jp) body occ=dp (fun occ=>ba occ) (fun occ=>fun _=>jp) body (x.2+1) x.1∧cQ (bT body) x.1<=x.2∧x.1.length+cQ (bT body) x.1<=(occ++body.flatMap bx).length+cQ (bT body) (occ++body.flatMap bx)})
  (fun x=>⟨[(0,.iv (lits body)),(1,.mp 0),(2,.cJ (.func 304) [.mp 0] []),(3,.cJ (.func 306) [] [])],[(0,dl (cN (aI x.1.1)))],1⟩) (fun x=>cQ (bT body) x.1.1)
  ⟨(occ++body.flatMap bx,3*body.length),rfl,by dsimp only;omega,S9 _⟩ [] (zW (zC trivial)) ?_
 rintro⟨⟨ok,f⟩,hx1,hx2,hx3⟩;dsimp only at hx1 hx2 hx3 ⊢;rw[S1]at hx3;refine gA I ?_;refine aJ 0 body.length (Te _) (fun i=>⟨[(0,.iv (lits body)),(1,.mp 0),(2,.cJ (.func 304) [.mp 0] []),(3,.cJ (.func 306) [] []),(28,.iv (lits body)),(29,pI body.length),(30,pI i)],[(0,dl (cN (aI ok)))],1⟩) (fun i=>b4 ((fun occ=>ba occ) ok) ((fun occ=>fun _=>jp) ok) ok (body.take i)=io) [] I
  (zW (zC trivial)) fun i hi D=>?_
 refine zJ I I (fun d=>?_) fun d=>?_
 .have d:i<body.length:=by simpa using d
  have m0:=Lit.b6 body i d;have f0:=(body.getD i co).ke;have j: ∀v,lR ((fun occ=>ba occ) ok) ((fun occ=>fun _=>jp) ok) ok (body.getD i co)=dl v->b5 (fun occ=>ba occ) (fun occ=>fun _=>jp) body occ=dp (fun occ=>ba occ) (fun occ=>fun _=>jp) body (f-1+1) (ok++ [v])∧cQ (bT body) (ok++ [v])<=f-1∧
    (ok++ [v]).length+cQ (bT body) (ok++ [v])<=(occ++body.flatMap bx).length+cQ (bT body) (occ++body.flatMap bx)∧cQ (bT body) (ok++ [v])<cQ (bT body) ok:=by
   intro v hv;have hf:=pj D d hv;obtain⟨g1,g2⟩:=jY hf;have j0:=qo g1 g2;have d0:cQ (bT body) (ok++ [v])=cQ (bT body) (gK ok v):=by
    unfold cQ;congr 2
    funext x
    congr 1;rw[Uo,bO,bO,dI,Ts,Tk]
   have Y:f-1+1=f:=by omega
   refine⟨?_,by omega,?_,by omega⟩
   .rw[hx1,eR hf,Y]
   .rw[S1,S1,TU];omega
  have b0:=bN ok (gi (ba ok) ok (body.getD i co)).1;have Z:=gu ok (gi (ba ok) ok (body.getD i co)).1;have c0:=bN ok (body.getD i co).bH;have a0:=gu ok (body.getD i co).bH;refine gA I (zq [0] (Rn ok (body.getD i co) (by omega)) ?_);refine zJ I I (fun C=>?_) fun C=>?_
  .obtain⟨g1,g2,g3,g4⟩:=j _ (am C);refine gA I ⟨⟨(_,f-1),g1,g2,g3⟩,[],g4,zW (hM I (by dsimp only;rw[du];rfl) I ac)⟩
  .refine zJ I I (fun A=>?_) fun A=>?_
   .have A:(body.getD i co).kind=4:=by simpa using A
    refine zJ I I (fun B=>?_) fun B=>?_
    .have B:dQ ok (body.getD i co).bH=jp:=by rw[cx];simpa using B
     refine gA I (zp (Sy (body.getD i co).agg) ?_);refine zJ I I (fun J=>?_) fun J=>?_
     .obtain⟨g1,g2,g3,g4⟩:=j _ ((be (by rw[C];simp)).trans (am ⟨A,B,J⟩));refine gA I ⟨⟨(_,f-1),g1,g2,g3⟩,[],g4,zW (hM I (by dsimp only;rw[du];rfl) I ac)⟩
     .refine gA I ?_;exact⟨d,dO D d ((be (by rw[C];simp)).trans (be (fun h=>nomatch (h.2.2.symm.trans J)))),[],zW (zC ac)⟩
    .have B:dQ ok (body.getD i co).bH=is:=by rw[cx];simpa using B
     refine gA I ⟨d,dO D d ((be (by rw[C];simp)).trans (be (by rw[B];simp))),[],zW (zC ac)⟩
   .have A: ¬(body.getD i co).kind=4:=by simpa using A
    refine gA I ⟨d,dO D d ((be (by rw[C];simp)).trans (be (fun h=>A h.1))),[],zW (zC ac)⟩
 .have d:body.length<=i:=by simpa using d
  rw[Tf d]at D;have F:b5 (fun occ=>ba occ) (fun occ=>fun _=>jp) body occ=ok:=by rw[hx1,eS D]
  refine gA I (zD [] I (zW (hM I (by rw[F]) I ac)))
theorem Rm(occ:List ae)(l:Lit)(hb:l.size<=100000000000):bB prog 229 [ag l.c,.cJ (.func 175) [] [.ptr 1 0],.mp 0] [cN (aI occ),.cells [.mp 0]] (.aZ [pS (gi (cB occ) occ l).1,pB (gi (cB occ) occ l).2]) [(0,dl (cN (aI occ))),(1,dl (.cells [.mp 0]))] 2:=by
 have A:=l.size_eq;have x:=bN occ l.left.var;have y:=bN occ l.right.var;refine an ab func229 I (by decide) ntmps229 I (by simp) ?_;refine zE I I (fun d=>?_) fun d=>?_
 .have d: ¬l.kind=3:=by simpa using d
  refine gA I (zD [] I (zM ⟨.of_eq (oJ (a:=(Ta,jp)) (by rw[gi,am (.inl d)])),rfl,ac⟩ (zC (zO ac))))
 have d:l.kind=3:=by simpa using d
 refine zJ I I (fun j=>?_) fun j=>?_
 .have j: ¬l.op=1:=by simpa using j
  refine gA I (zD [] I (zM ⟨.of_eq (oJ (a:=(Ta,jp)) (by rw[gi,am (.inr j)])),rfl,ac⟩ (zC (zO ac))))
 have j:l.op=1:=by simpa using j
 have u:gi (cB occ) occ l=if l.left.kind=1∧dQ occ l.left.var=jp∧(cB occ) l.right=is then(l.left.var,is) else if l.right.kind=1∧dQ occ l.right.var=jp∧(cB occ) l.left=is then(l.right.var,is) else(Ta,jp):=by
  rw[gi,be (by simp[d,j])]
 repeat' (first
  |(refine gA I (zI (fun _=>?_) (fun _=>?_)))
  |(refine gA I (aE [0,1] (d76 occ l.left (by omega)) I I I I I I I I ?_))
  |(refine gA I (aE [0,1] (d76 occ l.right (by omega)) I I I I I I I I ?_))
  |fail)
 all_goals first
  |(refine gA I (aC [] (.inr I) I (zM ⟨.of_eq (oJ (a:=(Ta,jp)) ?_),rfl,ac⟩ (zC (zO ac))));rw[u];simp only[cx] at*;simp_all;done)
  |(refine gA I (aC [] (.inr I) I (zM ⟨.of_eq (oJ (a:=(l.left.var,is)) ?_),rfl,ac⟩ (zC (zO ac))));rw[u];simp only[cx] at*;simp_all;done)
  |(refine gA I (aC [] (.inr I) I (zM ⟨.of_eq (oJ (a:=(l.right.var,is)) ?_),rfl,ac⟩ (zC (zO ac))));rw[u];simp only[cx] at*;simp_all;done)
  |(exfalso;simp_all;done)
theorem Sm(occ:List ae)(body:List Lit)(hb:occ.length+8*Lit.au body<=100000000000):bB prog 174 [.iv (lits body),.mp 0,.cJ (.func 175) [] [.ptr 1 0],.cJ (.func 176) [] []] [cN (aI occ),.cells [.mp 0]] (.aZ []) [(0,dl (cN (aI (b5 (fun occ=>cB occ) (fun occ=>fun _=>jp) body occ)))),(1,dl (.cells [.mp 0]))] 2:=by
 have g0:=Lit.aA body;have l0:=fF body;have i0:=jH body;have k0:=qp (bT body) (occ++body.flatMap bx);refine an ab func174 I (by decide) ntmps174 I (by simp) ?_;refine gA I ?_;refine aJ 0 body.length (Te _) (fun i=>⟨[(0,.iv (lits body)),(1,.mp 0),(2,.cJ (.func 175) [] [.ptr 1 0]),(3,.cJ (.func 176) [] []),(14,.iv (lits body)),(15,pI body.length),(16,pI i)],[(0,dl (cN (aI (occ++(body.take i).flatMap bx)))),(1,dl (.cells [.mp 0]))],2⟩) (fun _=>True) [] ac
  (zW (hM I (by simp) I (zO trivial))) fun i hi _=>?_
 refine zJ I I (fun u=>?_) fun u=>?_
 .have u:i<body.length:=by simpa using u
  have G:=bq (f:=bx) u;have hn:=Lit.dT body i u;have hv:=fF (body.take i);have n0:=(body.getD i co).size_eq;refine zJ I I (fun y=>?_) fun y=>?_
  .have y:(body.getD i co).kind=1:=by simpa using y
   rw[show bx (body.getD i co)=_ from am y]at G;refine gA I (zq [0] (d88 (occ++(body.take i).flatMap bx) (body.getD i co).atom (by rw[S1];omega)) ?_);refine gA I ⟨u,ac,[],zW (hM I (by rw[G,Tb]) I (zO ac))⟩
  .have y: ¬(body.getD i co).kind=1:=by simpa using y
   rw[show bx (body.getD i co)=_ from be y,TC]at G;refine gA I ⟨u,ac,[],zW (hM I (by rw[G]) I (zO ac))⟩
 have u:body.length<=i:=by simpa using u
 have e0:body.take i=body:=Tf u;rw[e0];refine gA I ?_;refine ly (σ:={x:List ae×Nat//b5 (fun occ=>cB occ) (fun occ=>fun _=>jp) body occ=dp (fun occ=>cB occ) (fun occ=>fun _=>jp) body (x.2+1) x.1∧cQ (bT body) x.1<=x.2∧x.1.length+cQ (bT body) x.1<=(occ++body.flatMap bx).length+cQ (bT body) (occ++body.flatMap bx)})
  (fun x=>⟨[(0,.iv (lits body)),(1,.mp 0),(2,.cJ (.func 175) [] [.ptr 1 0]),(3,.cJ (.func 176) [] [])],[(0,dl (cN (aI x.1.1))),(1,dl (.cells [.mp 0]))],2⟩) (fun x=>cQ (bT body) x.1.1)
  ⟨(occ++body.flatMap bx,3*body.length),rfl,by dsimp only;omega,S9 _⟩ [] (zW (zC (zO trivial))) ?_
 rintro⟨⟨ok,f⟩,hx1,hx2,hx3⟩;dsimp only at hx1 hx2 hx3 ⊢;rw[S1]at hx3;refine gA I ?_;refine aJ 0 body.length (Te _) (fun i=>⟨[(0,.iv (lits body)),(1,.mp 0),(2,.cJ (.func 175) [] [.ptr 1 0]),(3,.cJ (.func 176) [] []),(28,.iv (lits body)),(29,pI body.length),(30,pI i)],[(0,dl (cN (aI ok))),(1,dl (.cells [.mp 0]))],2⟩) (fun i=>b4 ((fun occ=>cB occ) ok) ((fun occ=>fun _=>jp) ok) ok (body.take i)=io) [] I
  (zW (zC (zO trivial))) fun i hi D=>?_
 refine zJ I I (fun d=>?_) fun d=>?_
 .have d:i<body.length:=by simpa using d
  have m0:=Lit.b6 body i d;have f0:=(body.getD i co).ke;have j: ∀v,lR ((fun occ=>cB occ) ok) ((fun occ=>fun _=>jp) ok) ok (body.getD i co)=dl v->b5 (fun occ=>cB occ) (fun occ=>fun _=>jp) body occ=dp (fun occ=>cB occ) (fun occ=>fun _=>jp) body (f-1+1) (ok++ [v])∧cQ (bT body) (ok++ [v])<=f-1∧
    (ok++ [v]).length+cQ (bT body) (ok++ [v])<=(occ++body.flatMap bx).length+cQ (bT body) (occ++body.flatMap bx)∧cQ (bT body) (ok++ [v])<cQ (bT body) ok:=by
   intro v hv;have hf:=pj D d hv;obtain⟨g1,g2⟩:=jY hf;have j0:=qo g1 g2;have d0:cQ (bT body) (ok++ [v])=cQ (bT body) (gK ok v):=by
    unfold cQ;congr 2
    funext x
    congr 1;rw[Uo,bO,bO,dI,Ts,Tk]
   have Y:f-1+1=f:=by omega
   refine⟨?_,by omega,?_,by omega⟩
   .rw[hx1,eR hf,Y]
   .rw[S1,S1,TU];omega
  have b0:=bN ok (gi (cB ok) ok (body.getD i co)).1;have Z:=gu ok (gi (cB ok) ok (body.getD i co)).1;have c0:=bN ok (body.getD i co).bH;have a0:=gu ok (body.getD i co).bH;refine gA I (zq [0,1] (Rm ok (body.getD i co) (by omega)) ?_);refine zJ I I (fun C=>?_) fun C=>?_
  .obtain⟨g1,g2,g3,g4⟩:=j _ (am C);refine gA I ⟨⟨(_,f-1),g1,g2,g3⟩,[],g4,zW (hM I (by dsimp only;rw[du];rfl) I (zO ac))⟩
  .refine zJ I I (fun A=>?_) fun A=>?_
   .have A:(body.getD i co).kind=4:=by simpa using A
    refine zJ I I (fun B=>?_) fun B=>?_
    .have B:dQ ok (body.getD i co).bH=jp:=by rw[cx];simpa using B
     refine gA I (zp (c77 (body.getD i co).agg) ?_);refine zJ I I (fun J=>?_) fun J=>?_
     .obtain⟨g1,g2,g3,g4⟩:=j _ ((be (by rw[C];simp)).trans (am ⟨A,B,J⟩));refine gA I ⟨⟨(_,f-1),g1,g2,g3⟩,[],g4,zW (hM I (by dsimp only;rw[du];rfl) I (zO ac))⟩
     .refine gA I ?_;exact⟨d,dO D d ((be (by rw[C];simp)).trans (be (fun h=>nomatch (h.2.2.symm.trans J)))),[],zW (zC (zO ac))⟩
    .have B:dQ ok (body.getD i co).bH=is:=by rw[cx];simpa using B
     refine gA I ⟨d,dO D d ((be (by rw[C];simp)).trans (be (by rw[B];simp))),[],zW (zC (zO ac))⟩
   .have A: ¬(body.getD i co).kind=4:=by simpa using A
    refine gA I ⟨d,dO D d ((be (by rw[C];simp)).trans (be (fun h=>A h.1))),[],zW (zC (zO ac))⟩
 .have d:body.length<=i:=by simpa using d
  rw[Tf d]at D;have F:b5 (fun occ=>cB occ) (fun occ=>fun _=>jp) body occ=ok:=by rw[hx1,eS D]
  refine gA I (zD [] I (zW (hM I (by rw[F]) I (zO ac))))
theorem Rl(r:aq)(occ:List ae)(l:Lit)(hb:l.size<=100000000000):bB prog 229 [ag l.c,.cJ (.func 304) [.mp 0] [],.mp 0] [cN (aI occ),.cells [.iv (cF r)],.cells [.mp 0]] (.aZ [pS (gi (ba occ) occ l).1,pB (gi (ba occ) occ l).2]) [(0,dl (cN (aI occ))),(1,dl (.cells [.iv (cF r)])),(2,dl (.cells [.mp 0]))] 3:=by
 have A:=l.size_eq;have x:=bN occ l.left.var;have y:=bN occ l.right.var;refine an ab func229 I (by decide) ntmps229 I (by simp) ?_;refine zE I I (fun d=>?_) fun d=>?_
 .have d: ¬l.kind=3:=by simpa using d
  refine gA I (zD [] I (zM ⟨.of_eq (oJ (a:=(Ta,jp)) (by rw[gi,am (.inl d)])),rfl,ac⟩ (zC ⟨⟨_,rfl,.of_eq I⟩,SY I,rfl,⟨_,rfl,.of_eq I⟩,SY I,rfl,ac⟩)))
 have d:l.kind=3:=by simpa using d
 refine zJ I I (fun j=>?_) fun j=>?_
 .have j: ¬l.op=1:=by simpa using j
  refine gA I (zD [] I (zM ⟨.of_eq (oJ (a:=(Ta,jp)) (by rw[gi,am (.inr j)])),rfl,ac⟩ (zC ⟨⟨_,rfl,.of_eq I⟩,SY I,rfl,⟨_,rfl,.of_eq I⟩,SY I,rfl,ac⟩)))
 have j:l.op=1:=by simpa using j
 have u:gi (ba occ) occ l=if l.left.kind=1∧dQ occ l.left.var=jp∧(ba occ) l.right=is then(l.left.var,is) else if l.right.kind=1∧dQ occ l.right.var=jp∧(ba occ) l.left=is then(l.right.var,is) else(Ta,jp):=by
  rw[gi,be (by simp[d,j])]
 repeat' (first
  |(refine gA I (zI (fun _=>?_) (fun _=>?_)))
  |(refine gA I (aE [0] (d125 occ l.left (by omega)) I I I I I I I I ?_))
  |(refine gA I (aE [0] (d125 occ l.right (by omega)) I I I I I I I I ?_))
  |fail)
 all_goals first
  |(refine gA I (aC [] (.inr I) I (zM ⟨.of_eq (oJ (a:=(Ta,jp)) ?_),rfl,ac⟩ (zC ⟨⟨_,rfl,.of_eq I⟩,SY I,rfl,⟨_,rfl,.of_eq I⟩,SY I,rfl,ac⟩)));rw[u];simp only[cx] at*;simp_all;done)
  |(refine gA I (aC [] (.inr I) I (zM ⟨.of_eq (oJ (a:=(l.left.var,is)) ?_),rfl,ac⟩ (zC ⟨⟨_,rfl,.of_eq I⟩,SY I,rfl,⟨_,rfl,.of_eq I⟩,SY I,rfl,ac⟩)));rw[u];simp only[cx] at*;simp_all;done)
  |(refine gA I (aC [] (.inr I) I (zM ⟨.of_eq (oJ (a:=(l.right.var,is)) ?_),rfl,ac⟩ (zC ⟨⟨_,rfl,.of_eq I⟩,SY I,rfl,⟨_,rfl,.of_eq I⟩,SY I,rfl,ac⟩)));rw[u];simp only[cx] at*;simp_all;done)
  |(exfalso;simp_all;done)
theorem Sl(r:aq)(occ:List ae)(body:List Lit)(hb:occ.length+8*Lit.au body<=100000000000):bB prog 174 [.iv (lits body),.mp 0,.cJ (.func 304) [.mp 0] [],.cJ (.func 305) [] [.ptr 1 0,.ptr 2 0]] [cN (aI occ),.cells [.iv (cF r)],.cells [.mp 0]] (.aZ []) [(0,dl (cN (aI (b5 (fun occ=>ba occ) (fun occ=>mR (aF r) occ) body occ)))),(1,dl (.cells [.iv (cF r)])),(2,dl (.cells [.mp 0]))] 3:=by
 have g0:=Lit.aA body;have l0:=fF body;have i0:=jH body;have k0:=qp (bT body) (occ++body.flatMap bx);refine an ab func174 I (by decide) ntmps174 I (by simp) ?_;refine gA I ?_;refine aJ 0 body.length (Te _) (fun i=>⟨[(0,.iv (lits body)),(1,.mp 0),(2,.cJ (.func 304) [.mp 0] []),(3,.cJ (.func 305) [] [.ptr 1 0,.ptr 2 0]),(14,.iv (lits body)),(15,pI body.length),(16,pI i)],[(0,dl (cN (aI (occ++(body.take i).flatMap bx)))),(1,dl (.cells [.iv (cF r)])),(2,dl (.cells [.mp 0]))],3⟩) (fun _=>True) [] ac
  (zW (hM I (by simp) I ⟨⟨_,rfl,.of_eq I⟩,SY I,rfl,⟨_,rfl,.of_eq I⟩,SY I,rfl,ac⟩)) fun i hi _=>?_
 refine zJ I I (fun u=>?_) fun u=>?_
 .have u:i<body.length:=by simpa using u
  have G:=bq (f:=bx) u;have hn:=Lit.dT body i u;have hv:=fF (body.take i);have n0:=(body.getD i co).size_eq;refine zJ I I (fun y=>?_) fun y=>?_
  .have y:(body.getD i co).kind=1:=by simpa using y
   rw[show bx (body.getD i co)=_ from am y]at G;refine gA I (zq [0] (d88 (occ++(body.take i).flatMap bx) (body.getD i co).atom (by rw[S1];omega)) ?_);refine gA I ⟨u,ac,[],zW (hM I (by rw[G,Tb]) I ⟨⟨_,rfl,.of_eq I⟩,SY I,rfl,⟨_,rfl,.of_eq I⟩,SY I,rfl,ac⟩)⟩
  .have y: ¬(body.getD i co).kind=1:=by simpa using y
   rw[show bx (body.getD i co)=_ from be y,TC]at G;refine gA I ⟨u,ac,[],zW (hM I (by rw[G]) I ⟨⟨_,rfl,.of_eq I⟩,SY I,rfl,⟨_,rfl,.of_eq I⟩,SY I,rfl,ac⟩)⟩
 have u:body.length<=i:=by simpa using u
 have e0:body.take i=body:=Tf u;rw[e0];refine gA I ?_;refine ly (σ:={x:List ae×Nat//b5 (fun occ=>ba occ) (fun occ=>mR (aF r) occ) body occ=dp (fun occ=>ba occ) (fun occ=>mR (aF r) occ) body (x.2+1) x.1∧cQ (bT body) x.1<=x.2∧x.1.length+cQ (bT body) x.1<=(occ++body.flatMap bx).length+cQ (bT body) (occ++body.flatMap bx)})
  (fun x=>⟨[(0,.iv (lits body)),(1,.mp 0),(2,.cJ (.func 304) [.mp 0] []),(3,.cJ (.func 305) [] [.ptr 1 0,.ptr 2 0])],[(0,dl (cN (aI x.1.1))),(1,dl (.cells [.iv (cF r)])),(2,dl (.cells [.mp 0]))],3⟩) (fun x=>cQ (bT body) x.1.1)
  ⟨(occ++body.flatMap bx,3*body.length),rfl,by dsimp only;omega,S9 _⟩ [] (zW (zC ⟨⟨_,rfl,.of_eq I⟩,SY I,rfl,⟨_,rfl,.of_eq I⟩,SY I,rfl,ac⟩)) ?_
 rintro⟨⟨ok,f⟩,hx1,hx2,hx3⟩;dsimp only at hx1 hx2 hx3 ⊢;rw[S1]at hx3;refine gA I ?_;refine aJ 0 body.length (Te _) (fun i=>⟨[(0,.iv (lits body)),(1,.mp 0),(2,.cJ (.func 304) [.mp 0] []),(3,.cJ (.func 305) [] [.ptr 1 0,.ptr 2 0]),(28,.iv (lits body)),(29,pI body.length),(30,pI i)],[(0,dl (cN (aI ok))),(1,dl (.cells [.iv (cF r)])),(2,dl (.cells [.mp 0]))],3⟩) (fun i=>b4 ((fun occ=>ba occ) ok) ((fun occ=>mR (aF r) occ) ok) ok (body.take i)=io) [] I
  (zW (zC ⟨⟨_,rfl,.of_eq I⟩,SY I,rfl,⟨_,rfl,.of_eq I⟩,SY I,rfl,ac⟩)) fun i hi D=>?_
 refine zJ I I (fun d=>?_) fun d=>?_
 .have d:i<body.length:=by simpa using d
  have m0:=Lit.b6 body i d;have f0:=(body.getD i co).ke;have j: ∀v,lR ((fun occ=>ba occ) ok) ((fun occ=>mR (aF r) occ) ok) ok (body.getD i co)=dl v->b5 (fun occ=>ba occ) (fun occ=>mR (aF r) occ) body occ=dp (fun occ=>ba occ) (fun occ=>mR (aF r) occ) body (f-1+1) (ok++ [v])∧cQ (bT body) (ok++ [v])<=f-1∧
    (ok++ [v]).length+cQ (bT body) (ok++ [v])<=(occ++body.flatMap bx).length+cQ (bT body) (occ++body.flatMap bx)∧cQ (bT body) (ok++ [v])<cQ (bT body) ok:=by
   intro v hv;have hf:=pj D d hv;obtain⟨g1,g2⟩:=jY hf;have j0:=qo g1 g2;have d0:cQ (bT body) (ok++ [v])=cQ (bT body) (gK ok v):=by
    unfold cQ;congr 2
    funext x
    congr 1;rw[Uo,bO,bO,dI,Ts,Tk]
   have Y:f-1+1=f:=by omega
   refine⟨?_,by omega,?_,by omega⟩
   .rw[hx1,eR hf,Y]
   .rw[S1,S1,TU];omega
  have b0:=bN ok (gi (ba ok) ok (body.getD i co)).1;have Z:=gu ok (gi (ba ok) ok (body.getD i co)).1;have c0:=bN ok (body.getD i co).bH;have a0:=gu ok (body.getD i co).bH;refine gA I (zq [0,1,2] (Rl r ok (body.getD i co) (by omega)) ?_);refine zJ I I (fun C=>?_) fun C=>?_
  .obtain⟨g1,g2,g3,g4⟩:=j _ (am C);refine gA I ⟨⟨(_,f-1),g1,g2,g3⟩,[],g4,zW (hM I (by dsimp only;rw[du];rfl) I ⟨⟨_,rfl,.of_eq I⟩,SY I,rfl,⟨_,rfl,.of_eq I⟩,SY I,rfl,ac⟩)⟩
  .refine zJ I I (fun A=>?_) fun A=>?_
   .have A:(body.getD i co).kind=4:=by simpa using A
    refine zJ I I (fun B=>?_) fun B=>?_
    .have B:dQ ok (body.getD i co).bH=jp:=by rw[cx];simpa using B
     refine gA I (zq [0,1,2] (d126 r ok (body.getD i co).agg (by omega)) ?_);refine zJ I I (fun J=>?_) fun J=>?_
     .obtain⟨g1,g2,g3,g4⟩:=j _ ((be (by rw[C];simp)).trans (am ⟨A,B,J⟩));refine gA I ⟨⟨(_,f-1),g1,g2,g3⟩,[],g4,zW (hM I (by dsimp only;rw[du];rfl) I ⟨⟨_,rfl,.of_eq I⟩,SY I,rfl,⟨_,rfl,.of_eq I⟩,SY I,rfl,ac⟩)⟩
     .refine gA I ?_;exact⟨d,dO D d ((be (by rw[C];simp)).trans (be (fun h=>nomatch (h.2.2.symm.trans J)))),[],zW (zC ⟨⟨_,rfl,.of_eq I⟩,SY I,rfl,⟨_,rfl,.of_eq I⟩,SY I,rfl,ac⟩)⟩
    .have B:dQ ok (body.getD i co).bH=is:=by rw[cx];simpa using B
     refine gA I ⟨d,dO D d ((be (by rw[C];simp)).trans (be (by rw[B];simp))),[],zW (zC ⟨⟨_,rfl,.of_eq I⟩,SY I,rfl,⟨_,rfl,.of_eq I⟩,SY I,rfl,ac⟩)⟩
   .have A: ¬(body.getD i co).kind=4:=by simpa using A
    refine gA I ⟨d,dO D d ((be (by rw[C];simp)).trans (be (fun h=>A h.1))),[],zW (zC ⟨⟨_,rfl,.of_eq I⟩,SY I,rfl,⟨_,rfl,.of_eq I⟩,SY I,rfl,ac⟩)⟩
 .have d:body.length<=i:=by simpa using d
  rw[Tf d]at D;have F:b5 (fun occ=>ba occ) (fun occ=>mR (aF r) occ) body occ=ok:=by rw[hx1,eS D]
  refine gA I (zD [] I (zW (hM I (by rw[F]) I ⟨⟨_,rfl,.of_eq I⟩,SY I,rfl,⟨_,rfl,.of_eq I⟩,SY I,rfl,ac⟩)))
theorem s9:dG .fj (cN (aI [])):=⟨id,fun M N U w j d=>⟨#[],0,d,⟨rfl,by simp[aI],by simp[aI],by simp,by simp⟩,eE M⟩⟩
def bX(r:aq):List ae:=b5 (fun d=>ba d) (fun d=>mR (aF r) d) r.body []
theorem Ri(r:aq)(hb:8*Lit.au r.body<=100000000000):bB prog 174 [.iv (lits r.body),.mp 0,.cJ (.func 304) [.mp 0] [],.cJ (.func 305) [] [.ptr 1 0,.ptr 2 0]] [.fj,.cells [.iv (cF r)],.cells [.mp 0]] (.aZ []) [(0,dl (cN (aI (bX r)))),(1,dl (.cells [.iv (cF r)])),(2,dl (.cells [.mp 0]))] 3:=
 bB.My (Sl r [] r.body (by simp;omega)) ⟨s9,.refl _,.refl _,ac⟩
theorem d73(r:aq)(hb:8*r.size<=100000000000):bB prog 269 [.iv (cF r)] [] (.mp 0) [(0,dl (cN (aI (bX r))))] 1:=by
 unfold aq.size at hb;refine an ab func269 I (by decide) ntmps269 I (by simp) ?_;refine gA I (zd [1,0,2] (Ri r (by omega)) ?_);refine gA I (zD [1] I (zW (zC ac)))
def O9(p:List ae->Prop)(q:PV)(h:AH)(n:Nat):Prop:= ∃ok,p ok∧q= .mp 0∧h=[(0,dl (cN (aI ok)))]∧n=1
def Gu(r:aq)(a:gl)(occ:List ae):Prop:=occ.Nodup∧ ∀x,x∈occ↔x∈bj a∧x∈aF r
theorem wJ{l m:List ae}(h:l.Nodup)(hs: ∀x∈l,x∈m):l.length<=m.length:=UH h hs
theorem kg(a:gl):(bj a).length<=a.size:=by
 have d:=kC a.body;have j:=gQ a.jo;unfold bj gl.size;rw[S1];split
 .rw[Ur];omega
 .omega
theorem MH(a:gl)(hb:a.size<=100000000000):bB prog 263 [ag a.c1] [] (.mp 0) [(0,dl (cN (aI (bj a))))] 1:=bB.le (d127 a (by omega)) ⟨a.BA,ac⟩
theorem d161(r:aq)(a:gl)(hb:16*a.size<=100000000000):Al.Fn prog 270 [.iv (cF r),ag a.c] [] (O9 fun ok=> ∃occ,Gu r a occ∧ok=b5 (fun occ=>ba occ) (fun _=>fun _=>jp) a.body occ):=by
 have e0:=kg a;have f0:Lit.au a.body<=a.size:=by unfold gl.size;omega
 refine Al.Fn.le (args:=[.iv (cF r),ag a.c1]) ?_ ⟨.refl _,a.CO,ac⟩;refine nh ab func270 I (by decide) ntmps270 I (by simp) ?_;refine gA I (zq [] (MH a (by omega)) ?_);refine gA I ?_
 let d:List Nat->List ae:=fun vs=>(vs.reverse.filterMap fun j=>((aI (bj a))[j]?).bind fun x=>if dQ (aF r) x.1 then dl x.1 else io)
 refine ib (aI (bj a)) (fun vs=>⟨[(0,.iv (cF r)),(3,.ptr 0 0),(5,.mp 1),(10,.ptr 3 0)],[(0,dl (aD a.c1)),(1,dl (cN (aI (d vs)))),(3,dl (.bZ .str yQ (aI (bj a)) vs io))],4⟩)
  (fun vs=>(d vs).Nodup∧ ∀x,x∈d vs↔x∈aF r∧ ∃j∈vs,∃y,(aI (bj a))[j]? =dl y∧y.1=x) [] ⟨T3,by simp[d]⟩
  (zW (zK (OJ I eE I (hI I I (.inl I) I trivial)))) fun vs hJ=>?_
 obtain⟨B,C⟩:=hJ;have g0:(d vs).length<=(bj a).length:=wJ B fun x D=>by
  obtain⟨_,j,_,y,h2,rfl⟩:=(C x).1 D;exact tc h2
 refine ik I ac (fq I I I I I (by decide) (fun Z=>?_) fun j x D Y=>?_)
 .have b0:Gu r a (d vs):=⟨B,fun x=>by
   rw[C];constructor
   .rintro⟨h1,j,h2,y,A,rfl⟩;exact⟨tc A,h1⟩
   .rintro⟨h1,h2⟩;refine⟨h2,?_⟩;obtain⟨y,hy,rfl⟩:=Uf.1 (((eB (bj a)).2 x).2 h1);obtain⟨j,Y⟩:=Ue hy
    exact⟨j,Z j (S2.1 Y).1,y,Y,rfl⟩⟩
  refine gA I (zq [1] (Sn (d vs) a.body (by omega)) ?_);refine ik I ac (kF [1] (.inr I) I ⟨_,⟨d vs,b0,rfl⟩,rfl,rfl,rfl⟩ (zW (zC ac)))
 .have h5:=cx (occ:=aF r) (s:=x.1);have h7:=bN (aF r) x.1;have h8:=bN (d vs) x.1;have h9:=gu (d vs) x.1;have F:x.1∉d vs:=fun h=>by
   obtain⟨_,i,hi,y,h2,A⟩:=(C x.1).1 h;have d0:=(eB (bj a)).1;have:i=j:=by
    have G:=(S2.1 h2)
    have J:=(S2.1 D)
    obtain⟨G,a0⟩:=G;obtain⟨J,c0⟩:=J;refine(List.getElem_inj (i:=i) (j:=j) (h₀:=by rw[TB];exact G) (h₁:=by rw[TB];exact J) d0).1 ?_;rw[VT,VT,a0,c0,A]
   exact Y (this▸hi)
  have u:d (j::vs)=d vs++if dQ (aF r) x.1 then[x.1] else[]:=by
   simp only[d,Vt,Wp,Wx,List.filterMap_nil,D,Wd];congr 1;cases dQ (aF r) x.1<;>rfl
  have step:(d (j::vs)).Nodup∧ ∀z,z∈d (j::vs)↔z∈aF r∧ ∃i∈j::vs,∃y,(aI (bj a))[i]? =dl y∧y.1=z:=by
   rw[u];constructor
   .split
    .rw[UK];refine⟨B,Ug.2 ⟨VQ,T3⟩,fun p hp q hq e=>?_⟩;rw[Tk]at hq;exact F ((e.trans hq)▸hp)
    .rw[TC];exact B
   .intro z;rw[Ts,C];constructor
    .rintro(⟨h1,i,h2,A⟩|h1)
     .exact⟨h1,i,Tl _ h2,A⟩
     .split at h1
      .rename_i h2;rw[Tk]at h1;exact⟨h1▸bO.1 h2,j,Tm,x,D,h1.symm⟩
      .cases h1
    .rintro⟨h1,i,h2,y,A,h4⟩;rcases Tt.1 h2 with rfl|h2
     .rw[D]at A;cases A;exact .inr (by rw[am (bO.2 (h4▸h1))];simp[h4])
     .exact .inl ⟨h1,i,h2,y,A,h4⟩
  refine zJ I I (fun g1=>?_) fun g1=>?_
  .have g1:dQ (aF r) x.1=is:=by
    have:=zT g1;rw[h5];simp;omega
   rw[g1,am I]at u;refine gA I ⟨j,x,D,Y,step,[],zW (zK (hM I (by rw[u,du];rfl) I (hI I I (.inr I) I ac)))⟩
  .have g1:dQ (aF r) x.1=jp:=by
    have:=zF g1;rw[h5];simp;omega
   rw[g1,be (by simp),TC]at u;refine gA I ⟨j,x,D,Y,step,[],zW (zK (hM I (by rw[u]) I (hI I I (.inr I) I ac)))⟩
end Go.Proofs.YtbhphmfbligliaaGreatDoor
namespace Go.Proofs.YtbhphmfbligliaaGreatDoor
open Go Go.Al
def mH(s:ae):List UInt8:=s.data.toList
def Ot(l:List UInt8):ae:=⟨l.toArray⟩
theorem s8(s:ae):Ot (mH s)=s:=by simp[mH,Ot]
theorem Jf(l:List UInt8):mH (Ot l)=l:=by simp[mH,Ot]
def dH(l:List (List UInt8)):List (List UInt8):=l.mergeSort fun x y=>kw (x<=y)
def dL(l:List ae):List ae:=(dH (l.map mH)).map Ot
def dA:Prop:=
 (∀(d b0 a0:Nat) (j:List (List UInt8)) (w:World),Go.Sort.Holds encStr w d b0 j.toArray->d<w.heap.size->j.length<4611686018427387904->
  Calls Tryz.prog 173 #[.slice (dl ⟨d,b0,io⟩) j.length a0] w fun e u=>
   e= .returned (.tuple #[])∧ ∃n os,u=Go.Sort.grow (Go.Sort.putRow encStr (Go.Sort.ahead w n) d b0 (j.mergeSort fun x y=>kw (x<=y)).toArray) os)∧
 (∀(p:Option Addr) (a0:Nat) (w:World),Calls Tryz.prog 173 #[.slice p 0 a0] w fun e u=>e= .returned (.tuple #[])∧u=w)
theorem jE(l:List ae):(dL l).length=l.length:=by simp[dL,dH]
theorem nI:dL []=[]:=by simp[dL,dH]
theorem qU(l:List ae):(dL l).map mH=dH (l.map mH):=by
 unfold dL;rw[UN];have:mH ∘ Ot=id:=by funext x;exact Jf x
 rw[this,List.map_id]
theorem zm{l:List ae}{k:Nat}{e:List PV}(h:(l.map fun x=>(cA x).map PV.iv)[k]? =dl e): ∃s,l[k]? =dl s∧e=[pS s]:=by
 rw[S6,S8]at h;obtain⟨s,d,rfl⟩:=h;exact⟨s,d,rfl⟩
theorem Hj(hS:dA)(l:List ae)(hl:l.length<=1000000000000):bB Tryz.prog 173 [.sl 0 0 l.length 1] [aY 1 l cA] (.aZ []) [(0,dl (aY 1 (dL l) cA))] 1:=by
 refine⟨bP Tryz.func173 I (by decide),fun M N w vs hr G hv=>?_⟩;obtain⟨v,rfl⟩: ∃v,vs=[v]:=by
  cases vs with
  |nil=>cases G
  |cons v r=>cases r with
   |nil=>exact⟨v,rfl⟩
   |cons a b=>simp at G
 have A:=hv 0 _ I;simp only[List.getD_cons_zero]at A;have m0:=hr.obj 0 _ I;cases l with
 |nil=>
  have e0:v= .slice io 0 0:=by
   generalize hq:PV.sl 0 0 ([]:List ae).length 1=q at A;cases A with
   |sl i off len sz a0 h h0 Y hc he=>cases hq;simp at h0
   |lH i sz h=>rfl
   |_=>cases hq
  subst e0;refine(hS.2 io 0 w).mono ?_;rintro e w' ⟨rfl,rfl⟩;refine⟨_,M,N,.aZ [],_,1,rfl,⟨rfl,rfl,rfl⟩,?_,?_,.aZ [] #[] I (by simp)⟩
  .rw[nI];exact .refl _ _ _ _ _
  .rw[nI];exact hr
 |cons s0 r=>
  generalize hL:s0::r=L at*
  have c0:0<L.length:=by rw[<-hL];simp
  obtain⟨a0,e0⟩: ∃a0,v= .slice (dl ⟨N.az 0,0,io⟩) L.length a0:=by
   generalize hn:L.length=n at A c0;generalize hq:PV.sl 0 0 n 1=q at A;cases A with
   |sl i off len sz a0 h h0 Y hc he=>cases hq;exact⟨a0,by simp⟩
   |lH i sz h=>cases hq;omega
   |_=>cases hq
  subst e0;rcases m0 with h0|⟨_,c,T,Y,h2,h3,h4,h5⟩
  .rw[<-hL]at h0;cases h0
  rw[TB]at h3;have g0:(aY 1 L cA).real=is:=by rw[<-hL];rfl
  have d0: ∀j s,L[j]? =dl s->c.getD j undef= .string s:=fun j s F=>by
   have:=h5 j [pS s] 0 (pS s) (by rw[S6,F];rfl) I;rw[Vu,UR]at this;generalize c.getD j undef=y at this ⊢;cases this with
   |iv _ _ h=>cases h;rfl
  have l0:=hr.lt (i:=0) I g0;have k0:(L.map mH).length=L.length:=by simp
  have hH:Go.Sort.Holds encStr w (N.az 0) 0 (L.map mH).toArray:=by
   intro j F;have i0:j<L.length:=by simpa using F
   have f0:j<c.size:=by omega
   have:=d0 j L[j] (S5 i0);rw[SZ,T1 f0,Uk]at this;constructor
   .simp only[World.cell?,Y,Tp,Option.isSome_none,Vp,if_false];rw[T1 f0,this,getElem!_pos _ j F];simp[encStr,mH]
   .simp[World.frozen?,Y]
  have B:=hS.1 (N.az 0) 0 a0 (L.map mH) w hH l0 (by omega);rw[k0]at B;refine B.mono ?_;rintro e w' ⟨rfl,n,os,rfl⟩
  let J:=Go.Sort.putRow encStr (Go.Sort.ahead w n) (N.az 0) 0 ((L.map mH).mergeSort fun x y=>kw (x<=y)).toArray
  have Z:(dH (L.map mH)).length=L.length:=by simp[dH]
  have u:Ext M N (· <1) (dz 0 [aY 1 L cA]) w M N (· <1) ((0,dl (aY 1 (dL L) cA))::dz 0 [aY 1 L cA]) J∧Rel M N (· <1) ((0,dl (aY 1 (dL L) cA))::dz 0 [aY 1 L cA]) J:=by
   refine hr.write (i:=0) (o0:=aY 1 L cA) I g0 J (aY 1 (dL L) cA) I I I ?_ ?_ ?_ (We _ _)
   .show(Go.Sort.putRow _ _ _ _ _).heap.size=_;rw[Go.Sort.size_putRow];rfl
   .intro b hb;show((w.heap.modify (N.az 0) _))[b]? =_;rw[TH,be (fun e=>hb e.symm)]
   .refine .inr ⟨Nat.one_pos,Go.Sort.putCells encStr 0 (dH (L.map mH)).toArray c,T,?_,?_,?_,?_,?_⟩
    .show((w.heap.modify (N.az 0) _))[N.az 0]? =_;rw[TH,am I,Y];rfl
    .simp[Go.Sort.putCells,h2]
    .rw[TB,jE];simp[Go.Sort.putCells];omega
    .intro k e he;obtain⟨s,_,rfl⟩:=zm he;rfl
    .intro k e j p he hp;obtain⟨s,hs,rfl⟩:=zm he;have F:j=0:=by
      rcases j with _|j
      .rfl
      .simp at hp
     subst F;cases hp;have hk:k<L.length:=by
      have:=(S2.1 hs).1;rwa[jE]at this
     have n0:(dH (L.map mH))[k]? =dl (mH s):=by
      rw[<-qU,S6,hs];rfl
     have j0:k<c.size:=by omega
     have b0:(Go.Sort.putCells encStr 0 (dH (L.map mH)).toArray c).getD (k*1+0) undef= .string s:=by
      rw[Vu,UR,SZ];simp only[Go.Sort.putCells,Array.getElem?_mapIdx];rw[T1 j0,T4,Uk,am ⟨Te _,by simp[Z];omega⟩,VJ];rw[getElem!_pos _ k (by simp[Z];omega)];have h9:(dH (L.map mH)).toArray[k]'(by simp[Z];omega)=mH s:=by
       rw[List.getElem_toArray];exact(S2.1 n0).2
      rw[h9];simp[encStr,mH]
     rw[b0];exact .iv _ _ (.v _)
  have C:Rel M N (· <1) ((0,dl (aY 1 (dL L) cA))::dz 0 [aY 1 L cA]) (Go.Sort.grow J os):=u.2.more fun b hb=>by
   show(J.heap++os)[b]? =_;rw[TG hb]
  have p0:J.heap.size=w.heap.size:=by
   show(Go.Sort.putRow _ _ _ _ _).heap.size=_;rw[Go.Sort.size_putRow];rfl
  have d: ∀i o,AH.get [(0,dl (aY 1 (dL L) cA))] i=dl o->AH.get ((0,dl (aY 1 (dL L) cA))::dz 0 [aY 1 L cA]) i=dl o:=by
   intro i o h;rw[AH.ax]at h ⊢;split at h
   .rename_i h6;rw[am h6];exact h
   .simp[AH.get]at h
  refine⟨_,M,N,.aZ [],_,1,rfl,⟨rfl,rfl,rfl⟩,⟨u.1.os,u.1.tape,⟨u.1.output.out,u.1.output.drawn⟩,?_,?_,.refl _,fun b c Y h2=>(nomatch (Y.symm.trans h2)),.refl _ _,fun _ h=>h,fun i o D=>u.1.dV i o (d i o D)⟩,?_,.aZ [] #[] I (by simp)⟩
  .show w.heap.size<=(Go.Sort.grow J os).heap.size;rw[Go.Sort.size_grow,p0];omega
  .intro b hb hn;have h7:=u.1.eN b hb hn;show(J.heap++os)[b]? =_;rw[TG (by omega)];exact h7
  .exact⟨C.ej,fun i o D=>C.used i o (d i o D),fun i o D=>C.dE i o (d i o D),fun i o D=>C.obj i o (d i o D),fun i j o p D F=>C.inj i j o p (d i o D) (d j p F)⟩
end Go.Proofs.YtbhphmfbligliaaGreatDoor
namespace Go.Proofs.YtbhphmfbligliaaGreatDoor
open Go Go.Al Go.Proofs.Tryz
theorem fA(l:List (List UInt8)):(dH l).Perm l:=List.mergeSort_perm _ _
theorem ir(l:List (List UInt8)):(dH l).Pairwise (fun x y=>kw (x<=y)=is):=
 List.pairwise_mergeSort (le:=fun x y=>kw (x<=y)) (fun a b c d j=>by simp only[decide_eq_true_eq] at*;exact List.le_trans d j)
  (fun a b=>by
   rcases List.le_total a b with h|h
   .simp[h]
   .simp[h]) l
theorem DF{a b:List (List UInt8)}(h:a.Perm b)(ha:a.Pairwise (fun x y=>kw (x<=y)=is))(hb:b.Pairwise (fun x y=>kw (x<=y)=is)):a=b:=
 List.Perm.eq_of_pairwise (fun x y _ _ d j=>Wf (zT d) (zT j)) ha hb h
theorem oO{a b:List ae}(h:a.Perm b):dL a=dL b:=by
 unfold dL;rw[DF (((fA _).trans (h.map mH)).trans (fA _).symm) (ir _) (ir _)]
theorem lj{x:ae}{l:List ae}:x∈dL l↔x∈l:=by
 unfold dL;rw[Uf];constructor
 .rintro⟨b,hb,rfl⟩;obtain⟨s,d,rfl⟩:=Uf.1 ((fA _).mem_iff.1 hb);rwa[s8]
 .intro h;exact⟨mH x,(fA _).mem_iff.2 (Uf.2 ⟨x,h,rfl⟩),s8 x⟩
def gH(m:NM)(vs:List Nat):List ae:=vs.reverse.filterMap fun j=>(m[j]?).map (·.1)
theorem kD(m:NM)(vs:List Nat)(j:Nat)(x:(KC.str).K×Int)(h:m[j]? =dl x):gH m (j::vs)=gH m vs++ [x.1]:=by
 simp[gH,Wp,h]
theorem uK(m:NM)(vs:List Nat):(gH m vs).length<=vs.length:=by
 unfold gH;have:=List.length_filterMap_le (fun j=>(m[j]?).map (·.1)) vs.reverse;rwa[U3]at this
theorem yq(m:NM):(TX m.length).filterMap (fun j=>(m[j]?).map (·.1))=m.map (·.1):=by
 apply Vj;intro k;have h:(TX m.length).filterMap (fun j=>(m[j]?).map (·.1))=(TX m.length).map (fun j=>(m.getD j (Ta,0)).1):=by
  rw[show(fun j=>(m.getD j (Ta,0)).1)=fun j=>(m.getD j (Ta,0)).1 from rfl];have key: ∀l:List Nat,(∀j∈l,j<m.length)->l.filterMap (fun j=>(m[j]?).map (·.1))=l.map (fun j=>(m.getD j (Ta,0)).1):=by
   intro l
   induction l with
   |nil=>simp
   |cons j r ih=>
    intro h;have d:=h j Tm;rw[Wx,S5 d,ih fun k u=>h k (Tl _ u)];simp[d]
  exact key _ fun j d=>U8.1 d
 rw[h];by_cases u:k<m.length
 .simp[u]
 .simp[u]
theorem jQ(m:NM)(vs:List Nat)(hn:vs.Nodup)(hb: ∀j∈vs,j<m.length)(d: ∀j,j<m.length->j∈vs):(gH m vs).Perm (m.map (·.1)):=by
 rw[<-yq];unfold gH;apply List.Perm.filterMap;refine(List.reverse_perm _).trans ?_;rw[List.perm_ext_iff_of_nodup hn List.nodup_range];intro j;rw[U8];exact⟨hb j,d j⟩
def fp(m:NM):List ae:=dL (m.map (·.1))
theorem uz{vs:List Nat}{n:Nat}(h:vs.Nodup)(hb: ∀j∈vs,j<n):vs.length<=n:=by
 have:=UH h (l₂:=TX n) fun j d=>U8.2 (hb j d);rwa[List.length_range]at this
theorem pW(σ:Nat->Nat)(l:List ae):(l.map fun x=>(cA x).map PV.iv).map (di σ)=l.map fun x=>(cA x).map PV.iv:=by
 simp only[UN,cA,Tg,Tx];rfl
theorem c51(F:dA)(m:NM)(hm:m.length<=100000000):Pure prog 177 [.iv (wL m)] (.iv (strs (fp m))):=by
 refine ai ab func177 I (by decide) ntmps177 I (by simp) I ?_;refine gA I ?_;refine kE 3 1 I ?_;refine ib m (fun vs=>⟨[(3,.sl 2 0 (gH m vs).length 1),(6,.ptr 0 0)],[(0,dl (.bZ .str yQ m vs io)),(2,dl (aY 1 (gH m vs) cA))],3⟩) (fun vs=>vs.Nodup∧ ∀j∈vs,j<m.length) [1] ⟨T3,by simp⟩
  (zW (hI I I (.inl I) I (zS trivial))) fun vs D=>?_
 obtain⟨d,u⟩:=D;have Y:=uz d u;have J:=uK m vs;refine ik I ac (fq I I I I I (by decide) (fun y=>?_) fun j x A B=>?_)
 .refine ik I ac (aE [2] (Hj F (gH m vs) (by omega)) I I I I I (congrArg (fun o=> [dl o]) (bK _).symm) I I ?_);refine ik I ac (en (.inr I) I I ((pW _ _).trans (by rw[fp,oO (jQ m vs d u y)])) ?_);rw[fp,jE,<-(jQ m vs d u y).length_eq]
 .have C:=kD m vs j x A;refine gA I ⟨j,x,A,B,⟨Ug.2 ⟨B,d⟩,fun i G=>(Tt.1 G).elim (fun h=>h▸(S2.1 A).1) (u i)⟩,[4],zM ⟨.row (by rw[C,S1];rfl),rfl,bi ac⟩ (hI I I (.inr I) I (hR I (by rw[C,Tc];rfl) I ac))⟩
theorem JY{P:Program}{k:FuncId}{kc:KC}{V:Type}{e:V->IV}{z:V}{D:Value}{F:PV->V}{m:List (kc.K×V)}{y:IV}(h:Al.Pure P k [.iv (.eJ kc e z D m)] (.iv y)):bB P k [.mp 0] [.map kc e z D F m] (.iv y) [] 1:=by
 refine⟨h.1,fun M N w vs Z Y hv=>?_⟩;obtain⟨u,B,G,h3,J⟩:=qA (n:=1) Z (i:=0) I;have A:Rel u N (· <0) (dz 0 []) w:=⟨G.ej,fun i o d=>(nomatch d),fun i o d=>(nomatch d),fun i o d=>(nomatch d),fun i j o p d=>(nomatch d)⟩
 refine(h.2 u N w vs A Y fun j p C=>?_).mono ?_
 .cases j with
  |zero=>
   cases C;have:=J _ _ (hv 0 _ I);generalize vs.getD 0 undef=x at this ⊢;cases this with
   |iv _ _ h=>exact .iv _ _ h
  |succ j=>cases C
 .rintro _ w' ⟨x,M',N',r,h',n',rfl,⟨rfl,rfl,rfl⟩,hx,hrr,hvr⟩;refine⟨x,M',N,.iv y,[],1,rfl,⟨rfl,rfl,rfl⟩,?_,⟨hrr.ej,fun i o d=>(nomatch d),fun i o d=>(nomatch d),fun i o d=>(nomatch d),fun i j o p d=>(nomatch d)⟩,?_⟩
  .refine⟨hx.os,hx.tape,hx.output,hx.size,fun b hb hn=>hx.eN b hb fun i o d=>(nomatch d),B.mv.trans hx.mv,fun b c g1 g2=>?_,.refl _ _,fun _ h=>h,fun i o d=>(nomatch d)⟩;cases g3:u b with
   |some c'=>exact B.eM b c' g1 g3
   |none=>
    rcases hx.eM b c g3 g2 with g4|⟨i,o,g4,_⟩
    .exact .inl g4
    .exact nomatch g4
  .cases hvr with
   |iv _ _ h=>exact .iv _ _ h
theorem Sr(d:dA)(m:NM)(hm:m.length<=100000000):bB prog 177 [.mp 0] [cN m] (.iv (strs (fp m))) [] 1:=JY (c51 d m hm)
theorem sE: ∀{m:NM} (_:(m.map (·.1)).Nodup) (k:ae),mA .str m k=m.filter fun x=>!kw (x.1=k)
 | [],_,k=>rfl
 |(a,b)::r,h,k=>by
  rw[Tg,Ug]at h;by_cases d:a=k
  .subst d;have:r.filter (fun x=>!kw (x.1=a))=r:=Wy.2 fun x j=>by
    have:x.1≠a:=fun e=>h.1 (e▸Uf.2 ⟨x,j,rfl⟩);simp[this]
   simp[mA,this]
  .have u:=sE h.2 k;simp[mA,d,u]
theorem vP{m:NM}{p:(KC.str).K×Int->Bool}(h:(m.map (·.1)).Nodup):((m.filter p).map (·.1)).Nodup:=h.sublist ((VV).map _)
theorem nq: ∀(ks:List ae) {m:NM} (_:(m.map (·.1)).Nodup),ks.foldl (fun m k=>mA .str m k) m=m.filter fun x=>!dQ ks x.1
 | [],m,h=>(Wy.2 fun _ _=>rfl).symm
 |k::r,m,h=>by
  rw[TM,sE h,nq r (vP h),List.filter_filter];congr 1
  funext x
  by_cases d:x.1=k
  .simp[dQ,d]
  .have: ¬k=x.1:=fun e=>d e.symm
   simp[dQ,d,this]
def lq(r:aq)(a:gl):NM:=(aI (bj a)).filter fun x=>!dQ (aF r) x.1
theorem lg(l:List ae):(aI l).length<=l.length:=by
 have h:=eB l;have:=wJ h.1 fun x d=>(h.2 x).1 d;rwa[TB]at this
theorem d79(r:aq)(a:gl)(hb:a.size<=100000000000):bB prog 258 [.iv (cF r),ag a.c] [] (.mp 0) [(0,dl (cN (lq r a)))] 1:=by
 refine bB.le (args:=[.iv (cF r),ag a.c1]) ?_ ⟨.refl _,a.CO,ac⟩;have G:=kg a;have A:=(eB (bj a)).1;refine an ab func258 I (by decide) ntmps258 I (by simp) ?_;refine gA I (zq [] (MH a (by omega)) ?_);refine gA I ?_;refine ib (aI (aF r)) (fun vs=>⟨[(5,.mp 1),(13,.ptr 2 0)],[(1,dl (cN ((gH (aI (aF r)) vs).foldl (fun m k=>mA .str m k) (aI (bj a))))),(2,dl (.bZ .str yQ (aI (aF r)) vs io))],3⟩)
  (fun vs=>vs.Nodup∧ ∀j∈vs,j<(aI (aF r)).length) [] ⟨T3,by simp⟩
  (zW (zC (hI I I (.inl I) I trivial))) fun vs F=>?_
 obtain⟨d,u⟩:=F;refine ik I ac (fq I I I I I (by decide) (fun y=>?_) fun j x C D=>?_)
 .have B:(gH (aI (aF r)) vs).foldl (fun m k=>mA .str m k) (aI (bj a))=lq r a:=by
   rw[nq _ A];unfold lq;congr 1
   funext x
   congr 1;rw[Uo,bO,bO,(jQ _ vs d u y).mem_iff];exact(eB (aF r)).2 x.1
  rw[B];refine gA I (zD [1] I (zW (zC ac)))
 .have Y:=kD (aI (aF r)) vs j x C;refine gA I ⟨j,x,C,D,⟨Ug.2 ⟨D,d⟩,fun i J=>(Tt.1 J).elim (fun h=>h▸(S2.1 C).1) (u i)⟩,[],zW (hM I (by rw[Y,List.foldl_append];rfl) I (hI I I (.inr I) I ac))⟩
theorem sF{may:List ae->Expr->Bool}{more:List ae->gl->Bool}{body:List Lit}: ∀(n:Nat) (occ:List ae),(dp may more body n occ).length<=occ.length+n
 |0,occ=>S9 _
 |n+1,occ=>by
  cases h:b4 (may occ) (more occ) occ body with
  |none=>rw[eS h];omega
  |some v=>
   rw[eR h];have:=sF (may:=may) (more:=more) (body:=body) n (occ++ [v]);rw[S1,TU]at this;omega
theorem sI{may:List ae->Expr->Bool}{more:List ae->gl->Bool}{body:List Lit}(occ:List ae):(b5 may more body occ).length<=occ.length+4*Lit.au body+1:=by
 have d:=sF (may:=may) (more:=more) (body:=body) (3*body.length+1) (occ++body.flatMap bx);have j:=fF body;have u:=Lit.aA body;rw[S1]at d;unfold b5;omega
theorem Bz(r:aq):(bX r).length<=4*Lit.au r.body+1:=by
 have:=sI (may:=fun d=>ba d) (more:=fun d=>mR (aF r) d) (body:=r.body) [];rw[Ur]at this;unfold bX;omega
def oq(r:aq):List ae:=b5 (fun d=>cB d) (fun _=>fun _=>jp) r.body []
theorem D2(r:aq):(oq r).length<=4*Lit.au r.body+1:=by
 have:=sI (may:=fun d=>cB d) (more:=fun _=>fun _=>jp) (body:=r.body) [];rw[Ur]at this;unfold oq;omega
theorem Rj(r:aq)(hb:8*Lit.au r.body<=100000000000):bB prog 174 [.iv (lits r.body),.mp 0,.cJ (.func 175) [] [.ptr 1 0],.cJ (.func 176) [] []] [.fj,.cells [.mp 0]] (.aZ []) [(0,dl (cN (aI (oq r)))),(1,dl (.cells [.mp 0]))] 2:=
 bB.My (Sm [] r.body (by simp;omega)) ⟨s9,.refl _,ac⟩
theorem c33(d:dA)(r:aq)(hb:r.size<=10000000):Pure prog 141 [ag r.c] (.iv (strs (fp (aI (oq r))))):=by
 have j:=lg (oq r);have u:=D2 r;have x:Lit.au r.body<=r.size:=VF _ _;refine ai ab func141 I (by decide) ntmps141 I (by simp) I ?_;refine gA I ?_;refine gA I (zq [1,2] (Rj r (by omega)) ?_);refine gA I (zq [1] (Sr d (aI (oq r)) (by omega)) ?_);exact zU I
def yn(r:aq)(lit:Int):List ae:=if lit<0∨(r.body.length:Int)<=lit∨ ¬(ar r lit).kind=4 then[] else fp (lq r (ar r lit).agg)
theorem pq{P:Program}{k:FuncId}{args:List PV}{os:List AO}{r:PV}{h:AH}{n0:Nat}(hc:lG P k){n:Nat}(hn: ∃sz d,PV.iv (.bW sz n d)∈args)(hh:n<=maxLen->bB P k args os r h n0):bB P k args os r h n0:=GU hc hn hh
def pf{α:Type}(p:α->Bool)(l:List α):Int:=match l.findIdx? p with
 |some i=>i
 |none=> -1
theorem fT{α:Type}{p:α->Bool}{l:List α}(h:l.any p=jp):pf p l= -1:=by
 have:l.findIdx? p=io:=by
  rw[V7];intro x d;have:=Ud.1 h x d;simpa using this
 rw[pf,this]
theorem hP{α:Type}[Inhabited α]{p:α->Bool}{l:List α}{i:Nat}(h:(l.take i).any p=jp)(hi:i<l.length)(hp:p (l.getD i co)=is):pf p l=i:=by
 have:l.findIdx? p=dl i:=by
  rw[VI];have d:l.getD i co=l[i]:=by simp[hi]
  refine⟨hi,d▸hp,fun j u=>?_⟩;have:=Ud.1 h l[j] (List.mem_iff_getElem?.2 ⟨j,by rw[TE,am u,S5 (by omega)]⟩);simpa using this
 rw[pf,this]
theorem hQ{α:Type}(p:α->Bool)(l:List α):kw (pf p l>=0)=l.any p:=by
 unfold pf;cases h:l.findIdx? p with
 |none=>
  have:=V7.1 h;have:l.any p=jp:=Ud.2 fun x u=>by simp[this x u]
  rw[this];rfl
 |some i=>
  obtain⟨d,j,_⟩:=VI.1 h;rw[Uq.2 ⟨_,T8 d,j⟩];simp
theorem EN{a b:Int}(h:a=b):pI a=pI b:=by rw[h]
theorem SF(x:Int):Pure prog 209 [pI x] (pB (!kw (x=1)&&!kw (x=2))):=by
 refine ai ab func209 I (by decide) ntmps209 I (by simp) I ?_
 repeat' (first|(refine gA I (zI (fun _=>?_) (fun _=>?_)))|(refine gA I (zL (.of_eq ?_))))
 all_goals(refine(mN ?_:pB _=pB _);simp_all)
theorem SE(t:Term):Pure prog 261 [ag t.c] (pB (kw (t.kind=3))):=by
 refine ai ab func261 I (by decide) ntmps261 I (by simp) I ?_;exact zU I
theorem SD(t:Lit):Pure prog 262 [ag t.c] (pB (kw (t.kind=4))):=by
 refine ai ab func262 I (by decide) ntmps262 I (by simp) I ?_;exact zU I
def b7(v:eK):Int:=if v.kind=1 then(if v.sym=Ta∧ -2147483647<=v.num∧v.num<=2147483647 then 0 else 20) else if v.kind=2 then(if v.num=0∧v.sym.size<=64 then 0 else 20) else 20
theorem Rt(v:eK):Pure prog 242 [ag v.c] (pI (b7 v)):=by
 refine ai ab func242 I (by decide) ntmps242 I (by simp) I ?_
 repeat' (first|(refine gA I (zI (fun _=>?_) (fun _=>?_)))|(refine gA I (zL (.of_eq ?_))))
 all_goals(refine(EN ?_:pI _=pI _);have hE:(⟨#[]⟩:ByteArray)=Ta:=rfl;simp_all [b7];try omega)
def Decl.z:Decl:=⟨Ta,[],⟨0,0⟩⟩
def Di(d:Decl):IV:= .agg d.c
def G4:Value:= .agg #[.string Ta,.slice io 0 0,.int .i64 0,.int .i64 0]
def intOf:List IV->Int
 | [.v (.int .i64 n)]=>n
 |_=>0
def Sh:PV->Decl
 | .agg [.iv (.v (.string s)),.iv (.bW _ n el),.iv (.v (.int _ a)),.iv (.v (.int _ b))]=>⟨s,(TX n).map fun k=>intOf (el k),⟨a,b⟩⟩
 |_=>Decl.z
abbrev DM:=List ((KC.str).K×Decl)
abbrev ME(m:DM):AO:= .map .str Di Decl.z G4 Sh m
abbrev Rh(m:DM):IV:= .eJ .str Di Decl.z G4 m
theorem MD(d:Decl):Sh (ag d.c)=d:=by
 show(⟨d.name,(TX d.types.length).map fun k=>intOf (eI (d.types.getD k co)),⟨d.at_.line,d.at_.HM⟩⟩:Decl)=d;have:(TX d.types.length).map (fun k=>intOf (eI (d.types.getD k co)))=d.types:=by
  apply Vj;intro k;by_cases j:k<d.types.length
  .simp[j,intOf,eI]
  .simp[j]
 rw[this]
theorem G3: ∀M,IR M (Di Decl.z) G4:=fun M=>by
 refine .agg _ _ I fun j p d=>?_
 match j,d with
 |0,d=>cases d;exact .v _
 |1,d=>cases d;exact .fI _ _ _ _
 |2,d=>cases d;exact .v _
 |3,d=>cases d;exact .v _
 |j+4,d=>simp[Decl.c]at d
theorem agI(l:List IV):ak (ag l) (.iv (.agg l)):=by
 intro M N U x h;generalize d:ag l=q at h;cases h with
 |agg cs ys hl hr=>
  cases d;refine .iv _ _ (.agg _ _ (by simpa using hl) fun j p u=>?_);have:=hr j (.iv p) (by rw[S6,u];rfl);generalize ys.getD j undef=y at this ⊢;cases this with
  |iv _ _ h=>exact h
 |_=>cases d
theorem G6(d:Decl):ak (ag d.c) (.iv (Di (Sh (ag d.c)))):=by rw[MD];exact agI _
def c6(m:DM)(d:Decl):DM:=if cY .str m d.name=is then m else cH .str m d.name d
def p4(p:Prog):DM:=p.aw.foldl c6 []
abbrev cT(p:Prog):IV:=Rh (p4 p)
theorem p7{V:Type}: ∀(m:List ((KC.str).K×V)) (k:ae) (v:V),(cH .str m k v).length<=m.length+1
 | [],_,_=>by simp[cH]
 |(a,b)::r,k,v=>by
  have:=p7 r k v;simp only[cH];split
  .simp
  .simp only[Tr];omega
theorem d50(p:Prog)(hb:p.aw.length<=1000000000000):bB prog 157 [ag p.c] [] (.mp 0) [(0,dl (ME (p4 p)))] 1:=by
 refine an ab func157 I (by decide) ntmps157 I (by simp) ?_;refine gA I ?_;refine aJ 0 p.aw.length (Te _) (fun i=>⟨[(3,.mp 1),(13,.iv (bz 4 p.aw Decl.c)),(14,pI p.aw.length),(15,pI i)],[(1,dl (ME ((p.aw.take i).foldl c6 [])))],2⟩) (fun _=>True) [] ac
  (zW (OJ I G3 I trivial)) fun i x _=>?_
 refine zJ I I (fun d=>?_) fun d=>?_
 .have d:i<p.aw.length:=by simpa using d
  have u:=iB (g:=c6) (b:=[]) d;refine zJ I I (fun j=>?_) fun j=>?_
  .have j:cY .str ((p.aw.take i).foldl c6 []) (p.aw.getD i co).name=jp:=by simpa using j
   rw[c6,be (by rw[j];simp)]at u;refine ik I ?_ ?_
   .repeat' (first|exact ac|exact rfl|exact G6 _|exact ak.refl _|apply S3)
    all_goals omega
   exact⟨d,ac,[],zW (hM I (by rw[u,<-MD (p.aw.getD i co)];rfl) I ac)⟩
  .have j:cY .str ((p.aw.take i).foldl c6 []) (p.aw.getD i co).name=is:=by simpa using j
   rw[c6,am j]at u;refine gA I ⟨d,ac,[],zW (hM I (by rw[u]) I ac)⟩
 .have d:p.aw.length<=i:=by simpa using d
  rw[Tf d];refine gA I (zD [1] I (zW (zC ac)))
def vw(p:Prog)(a:Atom):Bool:=!cY .str (p4 p) a.rel
def eF(p:Prog)(s:ae):Decl:=cI .str (p4 p) s Decl.z
def yJ(p:Prog)(a:Atom):Bool:=!kw ((a.aj.length:Int)=((eF p a.rel).types.length:Int))
theorem d113(p:Prog)(a:Atom):bB prog 217 [ag a.c,.ptr 0 0] [.cells [.iv (cT p)]] (pB (vw p a)) [(0,dl (.cells [.iv (cT p)]))] 1:=by
 refine an ab func217 I (by decide) ntmps217 I (by simp) ?_;refine gA I (zD [] I (zM ⟨.of_eq I,rfl,ac⟩ (zO ac)))
theorem d115(p:Prog)(a:Atom):bB prog 219 [ag a.c,.ptr 0 0] [.cells [.iv (cT p)]] (pB (yJ p a)) [(0,dl (.cells [.iv (cT p)]))] 1:=by
 refine an ab func219 I (by decide) ntmps219 I (by simp) ?_;refine gA I (zD [] I (zM ⟨.of_eq I,rfl,ac⟩ (zO ac)))
theorem Sb(l:List Int):bB prog 256 [.iv (bz 1 l eI),.cJ (.func 209) [] []] [] (pI (pf (fun x=>!kw (x=1)&&!kw (x=2)) l)) [] 0:=by
 refine pq (bP func256 I (by decide)) ⟨_,_,Tm⟩ fun u=>?_;simp only[maxLen]at u;refine an ab func256 I (by decide) ntmps256 I (by simp) ?_;refine gA I ?_
 refine aJ 0 l.length (Te _) (fun i=>⟨[(0,.iv (bz 1 l eI)),(1,.cJ (.func 209) [] []),(7,pI l.length),(8,pI i)],[],0⟩) (fun i=>(l.take i).any (fun x=>!kw (x=1)&&!kw (x=2))=jp) [] (by simp)
  (zW trivial) fun i A y=>?_
 refine zJ I I (fun d=>?_) fun d=>?_
 .have d:i<l.length:=by simpa using d
  refine gA I (zp (SF (l.getD i co)) ?_);refine zJ I I (fun j=>?_) fun j=>?_
  .have j:(fun x=>!kw (x=1)&&!kw (x=2)) (l.getD i co)=is:=j;rw[hP y d j];refine gA I (zD [] I (zW ac))
  .have j:(fun x=>!kw (x=1)&&!kw (x=2)) (l.getD i co)=jp:=j;refine gA I ⟨d,(c5 y d).2 j,[],zW ac⟩
 .have d:l.length<=i:=by simpa using d
  rw[fT (any_none y d)];refine gA I (zD [] I (zW ac))
theorem d153(l:List Int):bB prog 208 [.iv (bz 1 l eI),.cJ (.func 209) [] []] [] (pB (l.any (fun x=>!kw (x=1)&&!kw (x=2)))) [] 0:=by
 refine an ab func208 I (by decide) ntmps208 I (by simp) ?_;refine gA I (zq [] (Sb l) ?_);refine gA I (zD [] I (zM ⟨.of_eq (mN (hQ _ l)),rfl,ac⟩ ac))
theorem Sa(l:List Term):bB prog 301 [.iv (bz 5 l Term.c),.cJ (.func 261) [] []] [] (pI (pf (fun x:Term=>kw (x.kind=3)) l)) [] 0:=by
 refine pq (bP func301 I (by decide)) ⟨_,_,Tm⟩ fun u=>?_;simp only[maxLen]at u;refine an ab func301 I (by decide) ntmps301 I (by simp) ?_;refine gA I ?_
 refine aJ 0 l.length (Te _) (fun i=>⟨[(0,.iv (bz 5 l Term.c)),(1,.cJ (.func 261) [] []),(7,pI l.length),(8,pI i)],[],0⟩) (fun i=>(l.take i).any (fun x:Term=>kw (x.kind=3))=jp) [] (by simp)
  (zW trivial) fun i A y=>?_
 refine zJ I I (fun d=>?_) fun d=>?_
 .have d:i<l.length:=by simpa using d
  refine gA I (zp (SE (l.getD i co)) ?_);refine zJ I I (fun j=>?_) fun j=>?_
  .have j:(fun x:Term=>kw (x.kind=3)) (l.getD i co)=is:=j;rw[hP y d j];refine gA I (zD [] I (zW ac))
  .have j:(fun x:Term=>kw (x.kind=3)) (l.getD i co)=jp:=j;refine gA I ⟨d,(c5 y d).2 j,[],zW ac⟩
 .have d:l.length<=i:=by simpa using d
  rw[fT (any_none y d)];refine gA I (zD [] I (zW ac))
theorem d157(l:List Term):bB prog 260 [.iv (bz 5 l Term.c),.cJ (.func 261) [] []] [] (pB (l.any (fun x:Term=>kw (x.kind=3)))) [] 0:=by
 refine an ab func260 I (by decide) ntmps260 I (by simp) ?_;refine gA I (zq [] (Sa l) ?_);refine gA I (zD [] I (zM ⟨.of_eq (mN (hQ _ l)),rfl,ac⟩ ac))
theorem R9(l:List Lit):bB prog 230 [.iv (bz 30 l Lit.c),.cJ (.func 262) [] []] [] (pI (pf (fun x:Lit=>kw (x.kind=4)) l)) [] 0:=by
 refine pq (bP func230 I (by decide)) ⟨_,_,Tm⟩ fun u=>?_;simp only[maxLen]at u;refine an ab func230 I (by decide) ntmps230 I (by simp) ?_;refine gA I ?_
 refine aJ 0 l.length (Te _) (fun i=>⟨[(0,.iv (bz 30 l Lit.c)),(1,.cJ (.func 262) [] []),(7,pI l.length),(8,pI i)],[],0⟩) (fun i=>(l.take i).any (fun x:Lit=>kw (x.kind=4))=jp) [] (by simp)
  (zW trivial) fun i A y=>?_
 refine zJ I I (fun d=>?_) fun d=>?_
 .have d:i<l.length:=by simpa using d
  refine gA I (zp (SD (l.getD i co)) ?_);refine zJ I I (fun j=>?_) fun j=>?_
  .have j:(fun x:Lit=>kw (x.kind=4)) (l.getD i co)=is:=j;rw[hP y d j];refine gA I (zD [] I (zW ac))
  .have j:(fun x:Lit=>kw (x.kind=4)) (l.getD i co)=jp:=j;refine gA I ⟨d,(c5 y d).2 j,[],zW ac⟩
 .have d:l.length<=i:=by simpa using d
  rw[fT (any_none y d)];refine gA I (zD [] I (zW ac))
theorem d159(l:List Lit):bB prog 179 [.iv (bz 30 l Lit.c),.cJ (.func 262) [] []] [] (pB (l.any (fun x:Lit=>kw (x.kind=4)))) [] 0:=by
 refine an ab func179 I (by decide) ntmps179 I (by simp) ?_;refine gA I (zq [] (R9 l) ?_);refine gA I (zD [] I (zM ⟨.of_eq (mN (hQ _ l)),rfl,ac⟩ ac))
theorem Q4(p:Prog)(l:List Atom):bB prog 259 [.iv (bz 2 l Atom.c),.cJ (.func 217) [] [.ptr 0 0]] [.cells [.iv (cT p)]] (pI (pf (fun x:Atom=>vw p x) l)) [(0,dl (.cells [.iv (cT p)]))] 1:=by
 refine pq (bP func259 I (by decide)) ⟨_,_,Tm⟩ fun u=>?_;simp only[maxLen]at u;refine an ab func259 I (by decide) ntmps259 I (by simp) ?_;refine gA I ?_
 refine aJ 0 l.length (Te _) (fun i=>⟨[(0,.iv (bz 2 l Atom.c)),(1,.cJ (.func 217) [] [.ptr 0 0]),(7,pI l.length),(8,pI i)],[(0,dl (.cells [.iv (cT p)]))],1⟩) (fun i=>(l.take i).any (fun x:Atom=>vw p x)=jp) [] (by simp)
  (zW (zO trivial)) fun i A y=>?_
 refine zJ I I (fun d=>?_) fun d=>?_
 .have d:i<l.length:=by simpa using d
  refine gA I (zq [0] (d113 p (l.getD i co)) ?_);refine zJ I I (fun j=>?_) fun j=>?_
  .have j:(fun x:Atom=>vw p x) (l.getD i co)=is:=j;rw[hP y d j];refine gA I (zD [] I (zW (zO ac)))
  .have j:(fun x:Atom=>vw p x) (l.getD i co)=jp:=j;refine gA I ⟨d,(c5 y d).2 j,[],zW (zO ac)⟩
 .have d:l.length<=i:=by simpa using d
  rw[fT (any_none y d)];refine gA I (zD [] I (zW (zO ac)))
theorem Rp(p:Prog)(l:List Atom):bB prog 215 [.iv (bz 2 l Atom.c),.cJ (.func 217) [] [.ptr 0 0]] [.cells [.iv (cT p)]] (pB (l.any (fun x:Atom=>vw p x))) [(0,dl (.cells [.iv (cT p)]))] 1:=by
 refine an ab func215 I (by decide) ntmps215 I (by simp) ?_;refine gA I (zq [0] (Q4 p l) ?_);refine gA I (zD [] I (zM ⟨.of_eq (mN (hQ _ l)),rfl,ac⟩ (zO ac)))
theorem Q3(p:Prog)(l:List Atom):bB prog 259 [.iv (bz 2 l Atom.c),.cJ (.func 219) [] [.ptr 0 0]] [.cells [.iv (cT p)]] (pI (pf (fun x:Atom=>yJ p x) l)) [(0,dl (.cells [.iv (cT p)]))] 1:=by
 refine pq (bP func259 I (by decide)) ⟨_,_,Tm⟩ fun u=>?_;simp only[maxLen]at u;refine an ab func259 I (by decide) ntmps259 I (by simp) ?_;refine gA I ?_
 refine aJ 0 l.length (Te _) (fun i=>⟨[(0,.iv (bz 2 l Atom.c)),(1,.cJ (.func 219) [] [.ptr 0 0]),(7,pI l.length),(8,pI i)],[(0,dl (.cells [.iv (cT p)]))],1⟩) (fun i=>(l.take i).any (fun x:Atom=>yJ p x)=jp) [] (by simp)
  (zW (zO trivial)) fun i A y=>?_
 refine zJ I I (fun d=>?_) fun d=>?_
 .have d:i<l.length:=by simpa using d
  refine gA I (zq [0] (d115 p (l.getD i co)) ?_);refine zJ I I (fun j=>?_) fun j=>?_
  .have j:(fun x:Atom=>yJ p x) (l.getD i co)=is:=j;rw[hP y d j];refine gA I (zD [] I (zW (zO ac)))
  .have j:(fun x:Atom=>yJ p x) (l.getD i co)=jp:=j;refine gA I ⟨d,(c5 y d).2 j,[],zW (zO ac)⟩
 .have d:l.length<=i:=by simpa using d
  rw[fT (any_none y d)];refine gA I (zD [] I (zW (zO ac)))
theorem Ro(p:Prog)(l:List Atom):bB prog 215 [.iv (bz 2 l Atom.c),.cJ (.func 219) [] [.ptr 0 0]] [.cells [.iv (cT p)]] (pB (l.any (fun x:Atom=>yJ p x))) [(0,dl (.cells [.iv (cT p)]))] 1:=by
 refine an ab func215 I (by decide) ntmps215 I (by simp) ?_;refine gA I (zq [0] (Q3 p l) ?_);refine gA I (zD [] I (zM ⟨.of_eq (mN (hQ _ l)),rfl,ac⟩ (zO ac)))
def cS(l:Lit):List Atom:=if l.kind=1∨l.kind=2 then[l.atom] else[]
theorem o6: ∀l:List Lit,(l.flatMap cS).length<=l.length
 | []=>by simp
 |x::r=>by
  have d:=o6 r;have j:(cS x).length<=1:=by unfold cS;split<;>simp
  simp only[TJ,S1,Tr];omega
def yo(r:aq)(lit:Int):List Lit:=if(ar r lit).kind=4 then(ar r lit).ay else[ar r lit]
def fo(r:aq)(lit:Int):List Atom:=if lit<0 then[r.head] else(yo r lit).flatMap cS
theorem Kc(r:aq)(lit:Int)(h:0<=lit):jC (.bW 30 ((lit+1).toNat-lit.toNat) (fun j=>(r.body.getD (lit.toNat+j) co).c)) (lits [ar r lit]):=by
 have e:(lit+1).toNat-lit.toNat=1:=by omega
 rw[e]
 exact .bW I (fun j d=>by
  have:j=0:=by omega
  subst this;rfl)
theorem Rv(r:aq)(lit:Int)(h1:lit<r.body.length)(hb:r.size<=1000000000000):Pure prog 216 [ag r.c,pI lit] (.iv (bz 2 (fo r lit) Atom.c)):=by
 have Z:=Lit.aA r.body;have h0:Lit.au r.body<=r.size:=VF _ _;refine ai ab func216 I (by decide) ntmps216 I (by simp) I ?_;refine zJ I I (fun B=>?_) fun B=>?_
 .have B:lit<0:=by simpa using B
  refine gA I (en (by first|exact .inr I|exact .inl I) I I (by rw[fo,am B];rfl) (by rw[fo,am B];rfl))
 have B: ¬lit<0:=by simpa using B
 have hk:lit.toNat<r.body.length:=by omega
 have J:=Lit.b6 r.body lit.toNat hk;have b0:=(ar r lit).size_eq;have c0:=Lit.aA (ar r lit).ay;have a0:(ar r lit).size<=Lit.au r.body:=J;refine zJ I I (fun C=>?_) fun C=>?_
 .have C:(ar r lit).kind=4:=by simpa[ar]using C
  have A:fo r lit=(ar r lit).ay.flatMap cS:=by rw[fo,be B,yo,am C]
  refine gA I ?_;refine kE 6 2 I ?_;refine aJ 0 ((ar r lit).ay).length (Te _) (fun i=>⟨[(6,.sl 2 0 ((((ar r lit).ay).take i).flatMap cS).length 2),(30,.iv (lits ((ar r lit).ay))),(31,pI ((ar r lit).ay).length),(32,pI i)],[(2,dl (aY 2 ((((ar r lit).ay).take i).flatMap cS) Atom.c))],3⟩) (fun _=>True) [1] ac
   (zM (bi ⟨.iv (mW _),rfl,bi (bi trivial)⟩) (zS trivial)) fun i hi _=>?_
  have G:=o6 (((ar r lit).ay).take i);have Y:(((ar r lit).ay).take i).length<=((ar r lit).ay).length:=by rw[TA];exact WR _ _
  have F:((ar r lit).ay).length<=1000000000000:=by first|omega|(rw[TU];omega)
  refine zJ I I (fun j=>?_) fun j=>?_
  .have j:i<((ar r lit).ay).length:=zN j;have d:=bq (f:=cS) j;have u:((((ar r lit).ay).getD i co).kind=1∨(((ar r lit).ay).getD i co).kind=2)->(((ar r lit).ay).take (i+1)).flatMap cS=(((ar r lit).ay).take i).flatMap cS++ [(((ar r lit).ay).getD i co).atom]:=fun h=>by rw[d,cS,am h]
   have D: ¬((((ar r lit).ay).getD i co).kind=1∨(((ar r lit).ay).getD i co).kind=2)->(((ar r lit).ay).take (i+1)).flatMap cS=(((ar r lit).ay).take i).flatMap cS:=fun h=>by rw[d,cS,be h,TC]
   refine zJ I I (fun x=>?_) fun x=>?_
   .have x: ¬(((ar r lit).ay).getD i co).kind=1:=by simpa using x
    refine zJ I I (fun y=>?_) fun y=>?_
    .have y:(((ar r lit).ay).getD i co).kind=2:=by simpa using y
     have d:=u (.inr y);refine gA I ⟨j,ac,[5],zM ⟨.row (by rw[d,S1];rfl),rfl,bi (bi (bi ac))⟩ (hR I (by rw[d,Tc];rfl) I ac)⟩
    .have y: ¬(((ar r lit).ay).getD i co).kind=2:=by simpa using y
     have d:=D (fun h=>h.elim x y);refine gA I ⟨j,ac,[2],zM ⟨.row (by rw[d]),rfl,bi (bi (bi ac))⟩ (hR I (by rw[d]) I ac)⟩
   .have x:(((ar r lit).ay).getD i co).kind=1:=by simpa using x
    have d:=u (.inl x);refine gA I ⟨j,ac,[5],zM ⟨.row (by rw[d,S1];rfl),rfl,bi (bi (bi ac))⟩ (hR I (by rw[d,Tc];rfl) I ac)⟩
  .have j:((ar r lit).ay).length<=i:=zG j;rw[Tf j] at*
   refine gA I (en (by first|exact .inr I|exact .inl I) I I (by rw[A]) (by rw[A]))
 .have C: ¬(ar r lit).kind=4:=by simpa[ar]using C
  have A:fo r lit=[ar r lit].flatMap cS:=by rw[fo,be B,yo,be C]
  refine gA I ?_;refine kE 6 2 I ?_;refine aJ 0 ([ar r lit]).length (Te _) (fun i=>⟨[(6,.sl 2 0 ((([ar r lit]).take i).flatMap cS).length 2),(30,.iv (lits ([ar r lit]))),(31,pI ([ar r lit]).length),(32,pI i)],[(2,dl (aY 2 ((([ar r lit]).take i).flatMap cS) Atom.c))],3⟩) (fun _=>True) [1] ac
   (zM (bi ⟨.iv (Kc r lit (by omega)),rfl,.of_eq (EN (by simp only[TU];omega)),rfl,bi trivial⟩) (zS trivial)) fun i hi _=>?_
  have G:=o6 (([ar r lit]).take i);have Y:(([ar r lit]).take i).length<=([ar r lit]).length:=by rw[TA];exact WR _ _
  have F:([ar r lit]).length<=1000000000000:=by first|omega|(rw[TU];omega)
  refine zJ I I (fun j=>?_) fun j=>?_
  .have j:i<([ar r lit]).length:=zN j;have d:=bq (f:=cS) j;have u:((([ar r lit]).getD i co).kind=1∨(([ar r lit]).getD i co).kind=2)->(([ar r lit]).take (i+1)).flatMap cS=(([ar r lit]).take i).flatMap cS++ [(([ar r lit]).getD i co).atom]:=fun h=>by rw[d,cS,am h]
   have D: ¬((([ar r lit]).getD i co).kind=1∨(([ar r lit]).getD i co).kind=2)->(([ar r lit]).take (i+1)).flatMap cS=(([ar r lit]).take i).flatMap cS:=fun h=>by rw[d,cS,be h,TC]
   refine zJ I I (fun x=>?_) fun x=>?_
   .have x: ¬(([ar r lit]).getD i co).kind=1:=by simpa using x
    refine zJ I I (fun y=>?_) fun y=>?_
    .have y:(([ar r lit]).getD i co).kind=2:=by simpa using y
     have d:=u (.inr y);refine gA I ⟨j,ac,[5],zM ⟨.row (by rw[d,S1];rfl),rfl,bi (bi (bi ac))⟩ (hR I (by rw[d,Tc];rfl) I ac)⟩
    .have y: ¬(([ar r lit]).getD i co).kind=2:=by simpa using y
     have d:=D (fun h=>h.elim x y);refine gA I ⟨j,ac,[2],zM ⟨.row (by rw[d]),rfl,bi (bi (bi ac))⟩ (hR I (by rw[d]) I ac)⟩
   .have x:(([ar r lit]).getD i co).kind=1:=by simpa using x
    have d:=u (.inl x);refine gA I ⟨j,ac,[5],zM ⟨.row (by rw[d,S1];rfl),rfl,bi (bi (bi ac))⟩ (hR I (by rw[d,Tc];rfl) I ac)⟩
  .have j:([ar r lit]).length<=i:=zG j;rw[Tf j] at*
   refine gA I (en (by first|exact .inr I|exact .inl I) I I (by rw[A]) (by rw[A]))
theorem d110(p:Prog)(r:aq)(lit:Int)(h1:lit<r.body.length)(hb:r.size<=1000000000000):bB prog 214 [pI lit,.ptr 0 0,.ptr 1 0] [aD r.c,.cells [.iv (cT p)]] (pB ((fo r lit).any fun x=>vw p x)) [(0,dl (aD r.c)),(1,dl (.cells [.iv (cT p)]))] 2:=by
 refine an ab func214 I (by decide) ntmps214 I (by simp) ?_;refine gA I (zp (Rv r lit h1 hb) ?_);refine gA I (zq [1] (Rp p (fo r lit)) ?_);refine gA I (zD [] I (zW (zK (zO ac))))
theorem d114(p:Prog)(r:aq)(lit:Int)(h1:lit<r.body.length)(hb:r.size<=1000000000000):bB prog 218 [pI lit,.ptr 0 0,.ptr 1 0] [aD r.c,.cells [.iv (cT p)]] (pB ((fo r lit).any fun x=>yJ p x)) [(0,dl (aD r.c)),(1,dl (.cells [.iv (cT p)]))] 2:=by
 refine an ab func218 I (by decide) ntmps218 I (by simp) ?_;refine gA I (zp (Rv r lit h1 hb) ?_);refine gA I (zq [1] (Ro p (fo r lit)) ?_);refine gA I (zD [] I (zW (zK (zO ac))))
def lM(r:aq)(lit:Int):Bool:=if lit<0 then r.head.aj.any fun x=>kw (x.kind=3) else if(ar r lit).kind=4 then((ar r lit).ay.any fun x=>kw (x.kind=4))||dQ (bj (ar r lit).agg) (ar r lit).bH else jp
theorem SJ(r:aq)(lit:Int)(h1:lit<r.body.length)(hb:r.size<=100000000):Pure prog 221 [ag r.c,pI lit] (pB (lM r lit)):=by
 have F:=Lit.aA r.body;have Z:Lit.au r.body<=r.size:=VF _ _;refine ai ab func221 I (by decide) ntmps221 I (by simp) I ?_;refine zJ I I (fun d=>?_) fun d=>?_
 .have d:lit<0:=by simpa using d
  refine gA I (zq [] (d157 r.head.aj) ?_);refine gA I (zL (.of_eq ?_));rw[lM,am d];rfl
 have d: ¬lit<0:=by simpa using d
 have G:lit.toNat<r.body.length:=by omega
 have B:=Lit.b6 r.body lit.toNat G;have C:=(ar r lit).ke;have J:(ar r lit).size<=Lit.au r.body:=B;have D:=kg (ar r lit).agg;refine zJ I I (fun j=>?_) fun j=>?_
 .have j: ¬(ar r lit).kind=4:=by simpa[ar]using j
  refine gA I (zL (.of_eq ?_));rw[lM,be d,be j]
 have j:(ar r lit).kind=4:=by simpa[ar]using j
 refine gA I (aE [] (bB.le (aa:=[.iv (vj (ar r lit).ay),.cJ (.func 262) [] []]) (d159 (ar r lit).ay) ⟨.iv (mW _),.refl _,ac⟩) I I I I I I I I ?_);refine zE I I (fun u=>?_) fun u=>?_
 .have u:((ar r lit).ay.any fun x=>kw (x.kind=4))=jp:=u;have A:=bN (bj (ar r lit).agg) (ar r lit).bH;have y:=cx (occ:=bj (ar r lit).agg) (s:=(ar r lit).bH);refine gA I (zd [] (d127 (ar r lit).agg (by omega)) ?_);refine gA I (zL (.of_eq ?_));refine(mN ?_:pB (kw (cI .str (aI (bj (ar r lit).agg)) (ar r lit).bH 0>0))=_);rw[lM,be d,am j,u,y,A,UX];by_cases Y:pt (bj (ar r lit).agg) (ar r lit).bH=0<;>simp[Y];omega
 .have u:((ar r lit).ay.any fun x=>kw (x.kind=4))=is:=u;refine gA I (zL (.of_eq ?_));rw[lM,be d,am j,u];rfl
theorem d116(r:aq)(lit:Int)(h1:lit<r.body.length)(hb:r.size<=100000000):bB prog 220 [pI lit,.ptr 0 0] [aD r.c] (pB (lM r lit)) [(0,dl (aD r.c))] 1:=by
 refine an ab func220 I (by decide) ntmps220 I (by simp) ?_;refine gA I (zp (SJ r lit h1 hb) ?_);refine gA I (zD [] I (zW (zK ac)))
def rk(r:aq)(lit:Int):Pos:=if lit<0 then r.at_ else(ar r lit).at
theorem Hk(r:aq)(lit:Int)(h1:lit<r.body.length):Pure prog 225 [ag r.c,pI lit] (ag [iI (rk r lit).line,iI (rk r lit).HM]):=by
 refine ai ab func225 I (by decide) ntmps225 I (by simp) I ?_;refine zJ I I (fun d=>?_) fun d=>?_
 .have d:lit<0:=by simpa using d
  refine gA I (zL (.of_eq ?_));rw[rk,am d];rfl
 have d: ¬lit<0:=by simpa using d
 refine gA I (zL (.of_eq ?_));rw[rk,be d];rfl
def lU(r:aq)(l:Lit):Nat:=if l.kind=4 then(lq r l.agg).length else 0
def Fm(r:aq):Nat:=r.body.foldl (fun n l=>n+lU r l) (aI (aF r)).length
theorem wQ(r:aq)(l:Lit):lU r l<=l.size:=by
 unfold lU;split
 .have d:(lq r l.agg).length<=(aI (bj l.agg)).length:=Uz _ _;have j:=lg (bj l.agg);have u:=kg l.agg;have x:=l.ke;omega
 .omega
theorem ze(r:aq): ∀(l:List Lit) (n:Nat),l.foldl (fun n l=>n+lU r l) n<=n+Lit.au l
 | [],n=>by simp
 |x::t,n=>by
  have d:=ze r t (n+lU r x);have j:=wQ r x;simp only[TM,Lit.au];omega
theorem SK(r:aq)(hb:r.size<=100000000):Pure prog 213 [.iv (cF r)] (pI (Fm r)):=by
 have A:=Lit.aA r.body;have G:Lit.au r.body<=r.size:=VF _ _;have Y:=yc r;have B:=lg (aF r);refine ai ab func213 I (by decide) ntmps213 I (by simp) I ?_;refine gA I ?_;refine aJ 0 r.body.length (Te _) (fun i=>⟨[(0,.iv (cF r)),(3,pI (((r.body.take i).foldl (fun n l=>n+lU r l) (aI (aF r)).length:Nat))),(15,.iv (lits r.body)),(16,pI r.body.length),(17,pI i)],[],0⟩) (fun _=>True) [] ac
  (zW trivial) fun i J _=>?_
 have C:=ze r (r.body.take i) (aI (aF r)).length;have D:=Lit.tW r.body i;refine zJ I I (fun d=>?_) fun d=>?_
 .have d:i<r.body.length:=by simpa using d
  have u:=iB (g:=fun n l=>n+lU r l) (b:=(aI (aF r)).length) d;have F:=Lit.b6 r.body i d;have y:=(r.body.getD i co).ke;have x:=wQ r (r.body.getD i co);refine zJ I I (fun j=>?_) fun j=>?_
  .have j:(r.body.getD i co).kind=4:=by simpa using j
   rw[lU,am j]at u x;refine gA I (zq [] (d79 r (r.body.getD i co).agg (by omega)) ?_);refine gA I ⟨d,ac,[],zM (bi ⟨.of_eq (EN (by rw[u];rfl)),rfl,bi (bi (bi ac))⟩) ac⟩
  .have j: ¬(r.body.getD i co).kind=4:=by simpa using j
   rw[lU,be j]at u;refine gA I ⟨d,ac,[],zM (bi ⟨.of_eq (EN (by rw[u];rfl)),rfl,bi (bi (bi ac))⟩) ac⟩
 .have d:r.body.length<=i:=by simpa using d
  refine gA I (zL (.of_eq ?_));rw[Tf d];rfl
section
section
variable {may:List ae->Expr->Bool} {more:List ae->gl->Bool} {body:List Lit}
theorem sG: ∀(n:Nat) (occ:List ae),cQ (bT body) occ<n->b4 (may (dp may more body n occ)) (more (dp may more body n occ)) (dp may more body n occ) body=io
 |0,occ,h=>by omega
 |n+1,occ,h=>by
  cases hv:b4 (may occ) (more occ) occ body with
  |none=>rw[eS hv];exact hv
  |some v=>
   rw[eR hv];refine sG n _ ?_;obtain⟨g1,g2⟩:=jY hv;have j:=qo g1 g2;have d:cQ (bT body) (occ++ [v])=cQ (bT body) (gK occ v):=by
    unfold cQ;congr 2
    funext x
    congr 1;rw[Uo,bO,bO,dI,Ts,Tk]
   omega
theorem sJ(occ:List ae):b4 (may (b5 may more body occ)) (more (b5 may more body occ)) (b5 may more body occ) body=io:=by
 refine sG _ _ ?_;have d:=qp (bT body) (occ++body.flatMap bx);have j:=jH body;omega
theorem nv: ∀(n:Nat) (occ:List ae),∀x∈occ,x∈dp may more body n occ
 |0,occ,x,h=>h
 |n+1,occ,x,h=>by
  cases hv:b4 (may occ) (more occ) occ body with
  |none=>rw[eS hv];exact h
  |some v=>rw[eR hv];exact nv n _ x (TR _ h)
theorem nj{m1:Expr->Bool}{m2:gl->Bool}{occ:List ae}: ∀{l:List Lit},b4 m1 m2 occ l=io-> ∀x∈l,lR m1 m2 occ x=io
 | [],_,x,hx=>by cases hx
 |y::r,h,x,hx=>by
  simp only[b4]at h;split at h
  .cases h
  .rename_i d;rcases Tt.1 hx with rfl|hx
   .exact d
   .exact nj h x hx
theorem sA{m1:Expr->Bool}{m2:gl->Bool}{occ:List ae}{v:ae}: ∀{l:List Lit},b4 m1 m2 occ l=dl v-> ∃x∈l,lR m1 m2 occ x=dl v
 | [],h=>by cases h
 |y::r,h=>by
  simp only[b4]at h;split at h
  .rename_i w j;exact⟨y,Tm,j.trans h⟩
  .obtain⟨x,u,d⟩:=sA h;exact⟨x,Tl _ u,d⟩
variable (hmay: ∀a b:List ae,(∀x∈a,x∈b)-> ∀e,may a e=is->may b e=is) (hmore: ∀a b:List ae,(∀x∈a,x∈b)-> ∀e,more a e=is->more b e=is)
include hmay hmore
theorem CL{occ C:List ae}(d: ∀x∈occ,x∈C){l:Lit}{v:ae}(h:lR (may occ) (more occ) occ l=dl v)(hC:lR (may C) (more C) C l=io):v∈C:=by
 have F: ∀y,y∉C->dQ C y=jp:=fun y Y=>fi.2 Y;have hnew:=(uB h).2;refine Uv fun G=>?_;unfold lR at h hC;by_cases j:(gi (may occ) occ l).2=is
 .rw[am j]at h;simp only[S0]at h;have D:(gi (may C) C l).2=is:=by
   unfold gi at j h ⊢;split at j
   .cases j
   .rename_i J;rw[be J]at h ⊢;split at j
    .rename_i A;rw[am A]at h;have B:l.left.var=v:=h;rw[am ⟨A.1,by rw[B];exact F v G,hmay occ C d _ A.2.2⟩]
    .rename_i A;rw[be A]at h;split at j
     .rename_i u;rw[am u]at h;have B:l.right.var=v:=h;split
      .rfl
      .rw[am ⟨u.1,by rw[B];exact F v G,hmay occ C d _ u.2.2⟩]
     .cases j
  rw[am D]at hC;cases hC
 .rw[be j]at h;split at h
  .rename_i u;simp only[S0]at h;split at hC
   .cases hC
   .rw[am ⟨u.1,by rw[h];exact F v G,hmore occ C d _ u.2.2⟩]at hC;cases hC
  .cases h
theorem nu{C:List ae}(hC:b4 (may C) (more C) C body=io): ∀(n:Nat) (occ:List ae),(∀x∈occ,x∈C)-> ∀x∈dp may more body n occ,x∈C
 |0,occ,h,x,hx=>h x hx
 |n+1,occ,h,x,hx=>by
  cases hv:b4 (may occ) (more occ) occ body with
  |none=>rw[eS hv]at hx;exact h x hx
  |some v=>
   rw[eR hv]at hx;refine nu hC n _ (fun y hy=>?_) x hx;rcases Ts.1 hy with hy|hy
   .exact h y hy
   .rw[Tk]at hy;subst hy;obtain⟨l,j,d⟩:=sA hv;exact CL hmay hmore h d (nj hC l j)
theorem sH{j d:List ae}(h: ∀x∈j,x∈d): ∀x∈b5 may more body j,x∈b5 may more body d:=by
 refine nu hmay hmore (sJ d) _ _ fun x hx=>?_;refine nv _ _ x ?_;rcases Ts.1 hx with hx|hx
 .exact TR _ (h x hx)
 .exact Uy _ hx
end
theorem qJ(a b:List ae)(h: ∀x∈a,x∈b)(e:Expr)(hc:ba a e=is):ba b e=is:=by
 unfold ba at*
 rw[TI] at*
 exact fun x d=>bO.2 (h x (bO.1 (hc x d)))
theorem zR(a b:List ae)(h: ∀x∈a,x∈b)(e:Expr)(hc:cB a e=is):cB b e=is:=by
 unfold cB at*
 cases hk:kw (e.kind=2) with
 |true=>simp
 |false=>
  rw[hk,UX,Tz]at hc;rw[UX,Tz];exact⟨hc.1,bO.2 (h _ (bO.1 hc.2))⟩
def BG(r:aq)(a:gl):List ae:=((aI (bj a)).map (·.1)).filter fun x=>dQ (aF r) x
def Bn(r:aq)(a:gl):List ae:=b5 (fun d=>ba d) (fun _=>fun _=>jp) a.body (BG r a)
theorem J0{r:aq}{a:gl}{occ:List ae}(h:Gu r a occ)(s:ae):dQ (b5 (fun occ=>ba occ) (fun _=>fun _=>jp) a.body occ) s=dQ (Bn r a) s:=by
 have j: ∀x,x∈BG r a↔x∈occ:=fun x=>by
  unfold BG;rw[T5,(eB (bj a)).2 x,bO,h.2 x]
 rw[Uo,bO,bO];exact⟨sH (more:=fun _=>fun _=>jp) qJ (fun _ _ _ _ h=>h) (fun x d=>(j x).2 d) s,sH (more:=fun _=>fun _=>jp) qJ (fun _ _ _ _ h=>h) (fun x d=>(j x).1 d) s⟩
def uF(r:aq)(m:NM):Bool:=m.any fun x=>!dQ (bX r) x.1
theorem mS{r:aq}{m:NM}(h: ∀j,j<m.length-> ∀x,m[j]? =dl x->dQ (bX r) x.1=is):uF r m=jp:=by
 refine Ud.2 fun x u=>?_;obtain⟨j,d⟩:=Ue u;rw[h j (S2.1 d).1 x d];simp
theorem o9{r:aq}{m:NM}{j:Nat}{x:(KC.str).K×Int}(h:m[j]? =dl x)(d:dQ (bX r) x.1=jp):uF r m=is:=
 Uq.2 ⟨x,T7 h,by rw[d];rfl⟩
def lu(r:aq)(a:gl):NM:=(aI (bj a)).filter fun x=>!dQ ((lq r a).map (·.1)) x.1
def kL(r:aq)(lit:Int):Bool:=
 if lit<0 then uF r (aI (cV r.head))
 else if(ar r lit).kind=4 then(lq r (ar r lit).agg).any (fun x=>!dQ (Bn r (ar r lit).agg) x.1)||uF r (vh (lu r (ar r lit).agg) (ar r lit).bH)
 else uF r (aI (cX (ar r lit)))
theorem Sj(a:Atom)(hb:a.aj.length<=100000000000):bB prog 228 [.mp 0,ag a.c] [.fj] (.aZ []) [(0,dl (cN (aI (cV a))))] 1:=
 bB.My (d88 [] a (by simp;omega)) ⟨s9,ac⟩
theorem Si(l:Lit)(hb:l.size<=100000000000):bB prog 257 [.mp 0,ag l.c] [.fj] (.aZ []) [(0,dl (cN (aI (cX l))))] 1:=
 bB.My (d89 l [] (by simp;omega)) ⟨s9,ac⟩
theorem wR(f:ae->Bool)(s:ae): ∀(m:NM),cI .str (m.filter fun x=>f x.1) s 0=if f s=is then cI .str m s 0 else 0
 | []=>by simp[cI]
 |(a,b)::r=>by
  have d:=wR f s r;cases hf:f a with
  |true=>
   rw[List.filter_cons_of_pos (by exact hf)];simp only[cI];split
   .rename_i h;subst h;rw[am hf]
   .exact d
  |false=>
   rw[List.filter_cons_of_neg (by simp[hf]),d];simp only[cI];split
   .rename_i h;split
    .rename_i j;subst j;rw[hf]at h;cases h
    .rfl
   .rfl
theorem Ka(r:aq)(a:gl)(s:ae):0<=cI .str (lu r a) s 0∧cI .str (lu r a) s 0<=pt (bj a) s:=by
 have d:=bN (bj a) s;have j:=wR (fun x=>!dQ ((lq r a).map (·.1)) x) s (aI (bj a));unfold lu;rw[j,d];split<;>omega
set_option maxHeartbeats 2000000 in
theorem SH(r:aq)(lit:Int)(hl:lit<r.body.length)(hb:r.size<=10000000):Pure prog 224 [.iv (cF r),pI lit] (pB (kL r lit)):=by
 have s0:=Lit.aA r.body;have h0:Lit.au r.body<=r.size:=VF _ _;have p0:r.head.aj.length<=r.size:=We _ _;have x0:=Bz r;refine ai ab func224 I (by decide) ntmps224 I (by simp) I ?_;refine gA I (zq [] (d73 r (by omega)) ?_);refine zJ I I (fun D=>?_) fun D=>?_
 .have D:lit<0:=by simpa using D
  refine gA I (zq [1] (Sj r.head (by omega)) ?_);refine gA I ?_;have e0:(aI (cV r.head)).length<=1000000000000:=by have:=lg (cV r.head);have:=jc r.head;omega
  refine ib (aI (cV r.head)) (fun vs=>⟨[(5,.mp 0),(76,.ptr 2 0)],[(0,dl (cN (aI (bX r)))),(2,dl (.bZ .str yQ (aI (cV r.head)) vs io))],3⟩) (fun vs=> ∀j∈vs,∀x,(aI (cV r.head))[j]? =dl x->dQ (bX r) x.1=is) [] (by simp)
   (zW (zC (hI I I (.inl I) I trivial))) fun vs F=>?_
  refine ik I ac (fq I I I I I (by decide) (fun u=>?_) fun j x d B=>?_)
  .refine gA I (zL (.of_eq ?_));refine(mN ?_:pB jp=_);rw[kL,am D,mS fun j B x d=>F j (u j B) x d]
  .have Z:=bN (bX r) x.1;have A:=cx (occ:=bX r) (s:=x.1);refine zJ I I (fun g1=>?_) fun g1=>?_
   .have g1:dQ (bX r) x.1=jp:=by
     have:=zT g1;rw[A];simp;omega
    refine gA I (zL (.of_eq ?_));refine(mN ?_:pB is=_);rw[kL,am D,o9 d g1]
   .have g1:dQ (bX r) x.1=is:=by
     have:=zF g1;rw[A];simp;omega
    refine gA I ?_
    exact⟨j,x,d,B,fun i hi y C=>by
     rcases Tt.1 hi with rfl|hi
     .rw[d]at C;cases C;exact g1
     .exact F i hi y C,[],zW (zC (hI I I (.inr I) I ac))⟩
 have D: ¬lit<0:=by simpa using D
 have hk:lit.toNat<r.body.length:=by omega
 have o0:=Lit.b6 r.body lit.toNat hk;have q0:=(ar r lit).ke;have v0:(ar r lit).size<=Lit.au r.body:=o0;have r0:=kg (ar r lit).agg;have m0:=lV (ar r lit);refine zE I I (fun G=>?_) fun G=>?_
 .have G: ¬(ar r lit).kind=4:=by simpa[ar]using G
  refine gA I (zq [1] (Si (ar r lit) (by omega)) ?_);refine gA I ?_;have e0:(aI (cX (ar r lit))).length<=1000000000000:=by have:=lg (cX (ar r lit));omega
  refine ib (aI (cX (ar r lit))) (fun vs=>⟨[(5,.mp 0),(76,.ptr 3 0)],[(0,dl (cN (aI (bX r)))),(3,dl (.bZ .str yQ (aI (cX (ar r lit))) vs io))],4⟩) (fun vs=> ∀j∈vs,∀x,(aI (cX (ar r lit)))[j]? =dl x->dQ (bX r) x.1=is) [] (by simp)
   (zW (zC (hI I I (.inl I) I trivial))) fun vs F=>?_
  refine ik I ac (fq I I I I I (by decide) (fun u=>?_) fun j x d B=>?_)
  .refine gA I (zL (.of_eq ?_));refine(mN ?_:pB jp=_);rw[kL,be D,be G,mS fun j B x d=>F j (u j B) x d]
  .have Z:=bN (bX r) x.1;have A:=cx (occ:=bX r) (s:=x.1);refine zJ I I (fun g1=>?_) fun g1=>?_
   .have g1:dQ (bX r) x.1=jp:=by
     have:=zT g1;rw[A];simp;omega
    refine gA I (zL (.of_eq ?_));refine(mN ?_:pB is=_);rw[kL,be D,be G,o9 d g1]
   .have g1:dQ (bX r) x.1=is:=by
     have:=zF g1;rw[A];simp;omega
    refine gA I ?_
    exact⟨j,x,d,B,fun i hi y C=>by
     rcases Tt.1 hi with rfl|hi
     .rw[d]at C;cases C;exact g1
     .exact F i hi y C,[],zW (zC (hI I I (.inr I) I ac))⟩
 have G:(ar r lit).kind=4:=by simpa[ar]using G
 refine gA I (qx [] (d161 r (ar r lit).agg (by omega)) I I I I I I I fun q h' n' hR=>?_);obtain⟨ok,⟨occ,i0,n0⟩,rfl,rfl,rfl⟩:=hR;have a0: ∀s,dQ ok s=dQ (Bn r (ar r lit).agg) s:=fun s=>by rw[n0];exact J0 i0 s
 refine⟨_,rfl,?_⟩;have z0:=lg (bj (ar r lit).agg);have w0:(lq r (ar r lit).agg).length<=(aI (bj (ar r lit).agg)).length:=Uz _ _;have t0:(lu r (ar r lit).agg).length<=(aI (bj (ar r lit).agg)).length:=Uz _ _;have j0:=(eB (bj (ar r lit).agg)).1;refine gA I (zq [] (d79 r (ar r lit).agg (by omega)) ?_);refine gA I ?_;refine ib (lq r (ar r lit).agg) (fun vs=>⟨[(0,.iv (cF r)),(5,.mp 0),(7,.ptr 2 0),(8,.mp 3),(43,.ptr 5 0)],[(0,dl (cN (aI (bX r)))),(2,dl (aD (ar r lit).c)),(3,dl (cN (aI ok))),(5,dl (.bZ .str yQ (lq r (ar r lit).agg) vs io))],6⟩) (fun vs=> ∀j∈vs,∀x,(lq r (ar r lit).agg)[j]? =dl x->dQ (Bn r (ar r lit).agg) x.1=is) [] (by simp)
  (zW (zC (zK (zC (hI I I (.inl I) I trivial))))) fun vs F=>?_
 refine ik I ac (fq I I I I I (by decide) (fun u=>?_) fun j x d B=>?_);rotate_left
 .have Z:=bN ok x.1;have A:=cx (occ:=ok) (s:=x.1);have J:=a0 x.1;refine zJ I I (fun g1=>?_) fun g1=>?_
  .have g1:dQ (Bn r (ar r lit).agg) x.1=jp:=by
    have:=zT g1;rw[<-J,A];simp;omega
   refine gA I (zL (.of_eq ?_));refine(mN ?_:pB is=_);rw[kL,be D,am G,Uq.2 ⟨x,T7 d,by rw[g1];rfl⟩,VZ]
  .have g1:dQ (Bn r (ar r lit).agg) x.1=is:=by
    have:=zF g1;rw[<-J,A];simp;omega
   refine gA I ?_
   exact⟨j,x,d,B,fun i hi y C=>by
    rcases Tt.1 hi with rfl|hi
    .rw[d]at C;cases C;exact g1
    .exact F i hi y C,[],zW (zC (zK (zC (hI I I (.inr I) I ac))))⟩
 have hA:(lq r (ar r lit).agg).any (fun x=>!dQ (Bn r (ar r lit).agg) x.1)=jp:=Ud.2 fun x d=>by
  obtain⟨j,B⟩:=Ue d;rw[F j (u j (S2.1 B).1) x B];simp
 refine gA I (zq [] (d127 (ar r lit).agg (by omega)) ?_);refine gA I (zq [] (d79 r (ar r lit).agg (by omega)) ?_);refine gA I ?_;refine ib (lq r (ar r lit).agg) (fun vs=>⟨[(5,.mp 0),(6,.mp 6),(7,.ptr 2 0),(59,.ptr 8 0)],[(0,dl (cN (aI (bX r)))),(2,dl (aD (ar r lit).c)),(6,dl (cN ((gH (lq r (ar r lit).agg) vs).foldl (fun m k=>mA .str m k) (aI (bj (ar r lit).agg))))),(8,dl (.bZ .str yQ (lq r (ar r lit).agg) vs io))],9⟩) (fun vs=>vs.Nodup∧ ∀j∈vs,j<(lq r (ar r lit).agg).length) [] ⟨T3,by simp⟩
  (zW (zC (zK (zC (hI I I (.inl I) I trivial))))) fun b0 f0=>?_
 obtain⟨c0,d0⟩:=f0;refine ik I ac (fq I I I I I (by decide) (fun Y=>?_) fun j x d B=>?_);rotate_left
 .have hk:=kD (lq r (ar r lit).agg) b0 j x d;refine gA I ⟨j,x,d,B,⟨Ug.2 ⟨B,c0⟩,fun i hi=>(Tt.1 hi).elim (fun h=>h▸(S2.1 d).1) (d0 i)⟩,[],zW (zC (zK (hM I (by rw[hk,List.foldl_append];rfl) I (hI I I (.inr I) I ac))))⟩
 have k0:(gH (lq r (ar r lit).agg) b0).foldl (fun m k=>mA .str m k) (aI (bj (ar r lit).agg))=lu r (ar r lit).agg:=by
  rw[nq _ j0];unfold lu;congr 1
  funext x
  congr 1;rw[Uo,bO,bO,(jQ _ b0 c0 d0 Y).mem_iff]
 rw[k0];have l0:=Ka r (ar r lit).agg (ar r lit).bH;have g0:=gu (bj (ar r lit).agg) (ar r lit).bH;refine gA I ?_;have e0:(vh (lu r (ar r lit).agg) (ar r lit).bH).length<=1000000000000:=by have:=p7 (lu r (ar r lit).agg) (ar r lit).bH (cI .str (lu r (ar r lit).agg) (ar r lit).bH 0+1);unfold vh;omega
 refine ib (vh (lu r (ar r lit).agg) (ar r lit).bH) (fun vs=>⟨[(5,.mp 0),(76,.ptr 9 0)],[(0,dl (cN (aI (bX r)))),(9,dl (.bZ .str yQ (vh (lu r (ar r lit).agg) (ar r lit).bH) vs io))],10⟩) (fun vs=> ∀j∈vs,∀x,(vh (lu r (ar r lit).agg) (ar r lit).bH)[j]? =dl x->dQ (bX r) x.1=is) [] (by simp)
  (zW (zC (hI I I (.inl I) I trivial))) fun vs F=>?_
 refine ik I ac (fq I I I I I (by decide) (fun u=>?_) fun j x d B=>?_)
 .refine gA I (zL (.of_eq ?_));refine(mN ?_:pB jp=_);rw[kL,be D,am G,hA,UX,mS fun j B x d=>F j (u j B) x d]
 .have Z:=bN (bX r) x.1;have A:=cx (occ:=bX r) (s:=x.1);refine zJ I I (fun g1=>?_) fun g1=>?_
  .have g1:dQ (bX r) x.1=jp:=by
    have:=zT g1;rw[A];simp;omega
   refine gA I (zL (.of_eq ?_));refine(mN ?_:pB is=_);rw[kL,be D,am G,hA,UX,o9 d g1]
  .have g1:dQ (bX r) x.1=is:=by
    have:=zF g1;rw[A];simp;omega
   refine gA I ?_
   exact⟨j,x,d,B,fun i hi y C=>by
    rcases Tt.1 hi with rfl|hi
    .rw[d]at C;cases C;exact g1
    .exact F i hi y C,[],zW (zC (hI I I (.inr I) I ac))⟩
end
end Go.Proofs.YtbhphmfbligliaaGreatDoor
namespace Go.Proofs.YtbhphmfbligliaaGreatDoor
open Go Go.Al
def J9(a b:ae):Prop:=mH a<mH b
theorem MJ(a b:ae):Op.bytesLess a.toList b.toList=is↔J9 a b:=by
 rw[ByteArray.toList_eq,ByteArray.toList_eq,bytesLess_eq,decide_eq_true_eq];rfl
theorem xG{a b:ae}(h:mH a=mH b):a=b:=by rw[<-s8 a,<-s8 b,h]
theorem wP{a b c:ae}(h:J9 a b)(k:J9 b c):J9 a c:=List.lt_trans h k
theorem lS(a:ae): ¬J9 a a:=List.lt_irrefl _
theorem J8{a b:ae}(h: ¬a=b)(k: ¬J9 a b):J9 b a:=by
 refine Uv fun d=>h (xG (Wf ?_ ?_))
 .exact WU.1 d
 .exact WU.1 k
abbrev xA(l:List ae):Prop:=l.Pairwise J9
theorem uL: ∀{l:List ae} (_:xA l) (s:ae),xA (ins l s)
 | [],_,s=>List.pairwise_singleton _ _
 |x::r,h,s=>by
  obtain⟨u,A⟩:=Uw.1 h;simp only[ins];split
  .exact h
  .rename_i j;split
   .rename_i d;have d:=(MJ x s).1 d;refine Uw.2 ⟨fun y hy=>?_,uL A s⟩;rcases yj.1 hy with hy|rfl
    .exact u y hy
    .exact d
   .rename_i d;have d:J9 s x:=J8 j fun h=>d ((MJ x s).2 h);refine Uw.2 ⟨fun y hy=>?_,h⟩;rcases Tt.1 hy with rfl|hy
    .exact d
    .exact wP d (u y hy)
theorem pG{l:List ae}(h:xA l)(s:ae):xA (gK l s):=by rw[v7];exact uL h s
theorem mE: ∀{m l:List ae} (_:xA l),xA (nE l m)
 | [],_,h=>h
 |x::r,_,h=>mE (m:=r) (pG h x)
theorem oN: ∀{a b:List ae},xA a->xA b->(∀x,x∈a↔x∈b)->a=b
 | [],[],_,_,_=>rfl
 | [],y::s,_,_,h=>by have:=(h y).2 Tm;cases this
 |x::r,[],_,_,h=>by have:=(h x).1 Tm;cases this
 |x::r,y::s,ha,hb,h=>by
  obtain⟨u,a2⟩:=Uw.1 ha;obtain⟨A,B⟩:=Uw.1 hb;have j:x=y:=by
   rcases Tt.1 ((h x).1 Tm) with h1|h1
   .exact h1
   .rcases Tt.1 ((h y).2 Tm) with h2|h2
    .exact h2.symm
    .exact absurd (wP (A x h1) (u y h2)) (lS _)
  subst j;rw[oN a2 B fun z=>?_];constructor
  .intro d;rcases Tt.1 ((h z).1 (Tl _ d)) with rfl|h3
   .exact absurd (u z d) (lS _)
   .exact h3
  .intro d;rcases Tt.1 ((h z).2 (Tl _ d)) with rfl|h3
   .exact absurd (A z d) (lS _)
   .exact h3
theorem js{l:List ae}(h:l.Nodup):xA (dL l):=by
 have u:=ir (l.map mH);rw[<-qU]at u;have C:(dL l).Nodup:=by
  have D:((dL l).map mH).Perm (l.map mH):=by rw[qU];exact fA _
  have j:(l.map mH).Nodup:=List.Pairwise.map mH (fun a b d e=>d (xG e)) h;have:=D.nodup_iff.2 j;exact List.Pairwise.of_map mH (fun a b d e=>d (by rw[e])) this
 have x:(dL l).Pairwise fun a b=>mH a<=mH b:=(List.pairwise_map.1 u).imp fun{a b} d=>zT d;refine(List.Pairwise.and x C).imp fun{a b} d=>?_;obtain⟨y,A⟩:=d;exact Uv fun B=>A (xG (Wf y (WU.1 B)))
theorem Jd{m:NM}{l:List ae}(hm:(m.map (·.1)).Nodup)(d:xA l)(h: ∀x,x∈m.map (·.1)↔x∈l):fp m=l:=by
 refine oN (js hm) d fun x=>?_;rw[fp,lj];exact h x
theorem E4{occ l:List ae}(d:xA l)(h: ∀x,x∈occ↔x∈l):fp (aI occ)=l:=
 Jd (eB occ).1 d fun x=>((eB occ).2 x).trans (h x)
theorem ou{x:ae}: ∀{l:List Term} {a:List ae},x∈l.foldl A3 a↔x∈a∨x∈l.flatMap fun t=>if t.kind=1 then[t.var] else[]
 | [],a=>by simp
 |t::r,a=>by
  rw[TM,ou,TJ,Ts];unfold A3;split
  .rw[dI,Tk,or_assoc]
  .simp
theorem yl{x:ae}{a:Atom}:x∈qM a↔x∈cV a:=by
 unfold qM cV;rw[ou];simp
def P5(a:List ae×Bool)(l:Lit):List ae×Bool:=if(kG l a.1).2=is then(gK a.1 (kG l a.1).1,is) else a
def q8(body:List Lit)(k:List ae):List ae×Bool:=body.foldl P5 (k,jp)
def uo(body:List Lit):Nat->List ae->List ae
 |0,k=>k
 |n+1,k=>if(q8 body k).2=is then uo body n (q8 body k).1 else(q8 body k).1
theorem zQ{body:List Lit}{n:Nat}{k:List ae}:uo body (n+1) k=if(q8 body k).2=is then uo body n (q8 body k).1 else(q8 body k).1:=rfl
def kK(r:aq):List ae:=uo r.body (3*r.body.length+1) (r.body.foldl D1 [])
section
section
variable (stp:List ae->Lit->ae×Bool)
def gS(a:List ae×Bool)(l:Lit):List ae×Bool:=if(stp a.1 l).2=is then(gK a.1 (stp a.1 l).1,is) else a
def gR(body:List Lit)(k:List ae):List ae×Bool:=body.foldl (gS stp) (k,jp)
def gN(body:List Lit):Nat->List ae->List ae
 |0,k=>k
 |n+1,k=>if(gR stp body k).2=is then gN body n (gR stp body k).1 else(gR stp body k).1
variable {stp}
theorem Da: ∀(body:List Lit) (k:List ae),(body.foldl (gS stp) (k,is)).2=is
 | [],k=>rfl
 |l::r,k=>by
  rw[TM];have: ∃d,gS stp (k,is) l=(d,is):=by
   unfold gS;split
   .exact⟨_,rfl⟩
   .exact⟨_,rfl⟩
  obtain⟨d,j⟩:=this;rw[j];exact Da r d
theorem Aw: ∀{body:List Lit} {k:List ae},(body.foldl (gS stp) (k,jp)).2=jp->(body.foldl (gS stp) (k,jp)).1=k∧ ∀l∈body,(stp k l).2=jp
 | [],k,_=>⟨rfl,by simp⟩
 |l::r,k,h=>by
  rw[TM]at h ⊢;cases hs:(stp k l).2 with
  |true=>
   have:gS stp (k,jp) l=(gK k (stp k l).1,is):=am hs;rw[this,Da]at h;cases h
  |false=>
   have:gS stp (k,jp) l=(k,jp):=be (by rw[hs];simp);rw[this]at h ⊢;obtain⟨d,j⟩:=Aw h
   exact⟨d,fun x hx=>by
    rcases Tt.1 hx with rfl|hx
    .exact hs
    .exact j x hx⟩
theorem BL: ∀(body:List Lit) (a:List ae×Bool),∀x∈a.1,x∈(body.foldl (gS stp) a).1
 | [],a,x,h=>h
 |l::r,a,x,h=>by
  rw[TM];refine BL r _ x ?_;unfold gS;split
  .exact dI.2 (.inl h)
  .exact h
theorem GS{body:List Lit}: ∀(n:Nat) (k:List ae),∀x∈k,x∈gN stp body n k
 |0,k,x,h=>h
 |n+1,k,x,h=>by
  unfold gN;split
  .exact GS n _ x (BL body (k,jp) x h)
  .exact BL body (k,jp) x h
theorem rD: ∀(body:List Lit) (a:List ae×Bool),xA a.1->xA (body.foldl (gS stp) a).1
 | [],a,h=>h
 |l::r,a,h=>by
  rw[TM];refine rD r _ ?_;unfold gS;split
  .exact pG h _
  .exact h
theorem w7{body:List Lit}: ∀(n:Nat) (k:List ae),xA k->xA (gN stp body n k)
 |0,k,h=>h
 |n+1,k,h=>by
  unfold gN;split
  .exact w7 n _ (rD body (k,jp) h)
  .exact rD body (k,jp) h
variable (hnew: ∀(k:List ae) (l:Lit),(stp k l).2=is->(stp k l).1∈ [l.left.var,l.right.var,l.bH]∧(stp k l).1∉k)
include hnew
theorem C9{c:List ae}: ∀{body:List Lit} {a:List ae×Bool},(∀l∈body,∀v∈ [l.left.var,l.right.var,l.bH],v∈c)->
  cQ c (body.foldl (gS stp) a).1<=cQ c a.1∧((body.foldl (gS stp) a).2=is->a.2=is∨cQ c (body.foldl (gS stp) a).1<cQ c a.1)
 | [],a,_=>⟨S9 _,fun h=> .inl h⟩
 |l::r,a,hc=>by
  have d:cQ c (gS stp a l).1<=cQ c a.1∧((gS stp a l).2=is->a.2=is∨cQ c (gS stp a l).1<cQ c a.1):=by
   unfold gS;split
   .rename_i h;obtain⟨g1,g2⟩:=hnew _ _ h;have:=qo (hc l Tm _ g1) g2;exact⟨by dsimp only;omega,fun _=> .inr this⟩
   .exact⟨S9 _,fun h=> .inl h⟩
  obtain⟨g1,g2⟩:=C9 (body:=r) (a:=gS stp a l) fun l j=>hc l (Tl _ j);rw[TM];refine⟨by omega,fun h=>?_⟩;rcases g2 h with g3|g3
  .rcases d.2 g3 with g4|g4
   .exact .inl g4
   .exact .inr (by omega)
  .exact .inr (by omega)
theorem GR{body:List Lit}: ∀(n:Nat) (k:List ae),cQ (bT body) k<n-> ∀l∈body,(stp (gN stp body n k) l).2=jp
 |0,k,h,_,_=>by omega
 |n+1,k,h,l,d=>by
  unfold gN;cases hr:(gR stp body k).2 with
  |true=>
   rw[am I];refine GR n _ ?_ l d;obtain⟨_,g2⟩:=C9 hnew (c:=bT body) (body:=body) (a:=(k,jp)) fun l d v j=>xp d j;rcases g2 hr with g3|g3
   .cases g3
   .unfold gR;dsimp only at g3;omega
  |false=>
   rw[be (by simp)];obtain⟨g1,g2⟩:=Aw hr;unfold gR;rw[g1];exact g2 l d
end
theorem ni{m1:Expr->Bool}{m2:gl->Bool}{occ:List ae}: ∀{l:List Lit},(∀x∈l,lR m1 m2 occ x=io)->b4 m1 m2 occ l=io
 | [],_=>rfl
 |y::r,h=>by
  simp only[b4,h y Tm];exact ni fun x d=>h x (Tl _ d)
section
variable {stp:List ae->Lit->ae×Bool} {may:List ae->Expr->Bool} {more:List ae->gl->Bool} {body:List Lit}
variable (hE: ∀(k:List ae) (l:Lit),lR (may k) (more k) k l=if(stp k l).2=is then dl (stp k l).1 else io)
variable (hmay: ∀a b:List ae,(∀x∈a,x∈b)-> ∀e,may a e=is->may b e=is) (hmore: ∀a b:List ae,(∀x∈a,x∈b)-> ∀e,more a e=is->more b e=is)
include hE
theorem Jh(k:List ae)(l:Lit)(h:(stp k l).2=is):(stp k l).1∈ [l.left.var,l.right.var,l.bH]∧(stp k l).1∉k:=by
 have:=hE k l;rw[am h]at this;exact uB this
include hmay hmore
theorem GP{C:List ae}(hC: ∀l∈body,lR (may C) (more C) C l=io): ∀(b:List Lit) (a:List ae×Bool),(∀l∈b,l∈body)->(∀x∈a.1,x∈C)-> ∀x∈(b.foldl (gS stp) a).1,x∈C
 | [],a,_,h,x,hx=>h x hx
 |l::r,a,hb,h,x,hx=>by
  rw[TM]at hx;refine GP hC r _ (fun l j=>hb l (Tl _ j)) (fun y d=>?_) x hx;unfold gS at d;split at d
  .rename_i u;rcases dI.1 d with d|rfl
   .exact h y d
   .have:=hE a.1 l;rw[am u]at this;exact CL hmay hmore h this (hC l (hb l Tm))
  .exact h y d
theorem GQ{C:List ae}(hC: ∀l∈body,lR (may C) (more C) C l=io): ∀(n:Nat) (k:List ae),(∀x∈k,x∈C)-> ∀x∈gN stp body n k,x∈C
 |0,k,h,x,hx=>h x hx
 |n+1,k,h,x,hx=>by
  unfold gN at hx;have d:=GP hE hmay hmore hC body (k,jp) (fun _ h=>h) h;split at hx
  .exact GQ hC n _ d x hx
  .exact d x hx
theorem zi{k occ:List ae}(j: ∀x,x∈k↔x∈occ++body.flatMap bx)(x:ae):x∈gN stp body (3*body.length+1) k↔x∈b5 may more body occ:=by
 constructor
 .refine GQ hE hmay hmore (C:=b5 may more body occ) (nj (sJ occ)) _ _ (fun y d=>?_) x;exact nv _ _ y ((j y).1 d)
 .refine nu hmay hmore (C:=gN stp body (3*body.length+1) k) (ni fun l u=>?_) _ _ (fun y d=>GS _ _ y ((j y).2 d)) x;have A:=qp (bT body) k;have B:=jH body;rw[hE,GR (Jh hE) _ _ (by omega) l u,be (by simp)]
end
theorem Ae{x:ae}: ∀{l:List Lit} {a:List ae},x∈l.foldl D1 a↔x∈a∨x∈l.flatMap bx
 | [],a=>by simp
 |t::r,a=>by
  rw[TM,Ae,TJ,Ts];by_cases d:t.kind=1
  .rw[show D1 a t=nE a (qM t.atom) from am d,show bx t=cV t.atom from am d,sq,yl,or_assoc]
  .rw[show D1 a t=a from be d,show bx t=[] from be d];simp
theorem sa: ∀(l:List Lit) (a:List ae),xA a->xA (l.foldl D1 a)
 | [],a,h=>h
 |t::r,a,h=>by
  rw[TM];refine sa r _ ?_;unfold D1;split
  .exact mE h
  .exact h
theorem Ga(k:List ae)(l:Lit):lR (cB k) (fun _=>jp) k l=if(kG l k).2=is then dl (kG l k).1 else io:=by
 unfold lR;rw[be (c:=l.kind=4∧_) (fun h=>Bool.noConfusion h.2.2)];have:(if(gi (cB k) k l).2=is then dl (gi (cB k) k l).1 else io)=if(kG l k).2=is then dl (kG l k).1 else io:=by
  unfold gi kG cB;split
  .rfl
  .by_cases d:l.left.kind=1<;>by_cases a2:l.right.kind=1<;>by_cases a3:l.left.kind=2<;>by_cases a4:l.right.kind=2<;>cases a5:dQ k l.left.var<;>cases a6:dQ k l.right.var<;>simp_all
 exact this
theorem wD(body:List Lit): ∀(n:Nat) (k:List ae),uo body n k=gN (fun k l=>kG l k) body n k
 |0,k=>rfl
 |n+1,k=>by
  rw[zQ,wD body n];rfl
theorem A4(r:aq):fp (aI (oq r))=kK r:=by
 unfold kK;rw[wD];refine E4 (w7 _ _ (sa _ _ WG)) fun x=>?_;exact(zi (may:=fun d=>cB d) (more:=fun _=>fun _=>jp) Ga zR (fun _ _ _ _ h=>h) (fun y=>by rw[Ae];simp) x).symm
end
end Go.Proofs.YtbhphmfbligliaaGreatDoor
namespace Go.Proofs
open Go.Shelf
def Tryz.Aj:Go.Shelf.Ren:=⟨fun|190=>173|125=>227|258=>226|128=>280|129=>281|302=>271|303=>272|304=>273|305=>274|306=>275|307=>276|308=>277|309=>278|310=>279|333=>307|329=>308|330=>309|334=>310|335=>311|336=>312|344=>331|n=>n,fun|31=>109|9=>9|3=>3|46=>108|0=>0|51=>50|53=>116|4=>4|183=>372|182=>371|131=>146|5=>5|218=>393|222=>76|228=>405|229=>406|n=>n,fun|n=>n⟩
theorem Tryz.CP:Go.Proofs.Lays.n190 Tryz.prog Tryz.Aj:={
 mixed:=by kernel_rfl
 f125:=Tryz.func227.trans (congrArg dl (by kernel_rfl))
 f128:=Tryz.func280.trans (congrArg dl (by kernel_rfl))
 f129:=Tryz.func281.trans (congrArg dl (by kernel_rfl))
 f190:=Tryz.func173.trans (congrArg dl (by kernel_rfl))
 f258:=Tryz.func226.trans (congrArg dl (by kernel_rfl))
 f302:=Tryz.func271.trans (congrArg dl (by kernel_rfl))
 f303:=Tryz.func272.trans (congrArg dl (by kernel_rfl))
 f304:=Tryz.func273.trans (congrArg dl (by kernel_rfl))
 f305:=Tryz.func274.trans (congrArg dl (by kernel_rfl))
 f306:=Tryz.func275.trans (congrArg dl (by kernel_rfl))
 f307:=Tryz.func276.trans (congrArg dl (by kernel_rfl))
 f308:=Tryz.func277.trans (congrArg dl (by kernel_rfl))
 f309:=Tryz.func278.trans (congrArg dl (by kernel_rfl))
 f310:=Tryz.func279.trans (congrArg dl (by kernel_rfl))
 f329:=Tryz.func308.trans (congrArg dl (by kernel_rfl))
 f330:=Tryz.func309.trans (congrArg dl (by kernel_rfl))
 f333:=Tryz.func307.trans (congrArg dl (by kernel_rfl))
 f334:=Tryz.func310.trans (congrArg dl (by kernel_rfl))
 f335:=Tryz.func311.trans (congrArg dl (by kernel_rfl))
 f336:=Tryz.func312.trans (congrArg dl (by kernel_rfl))
 f344:=Tryz.func331.trans (congrArg dl (by kernel_rfl))
 t0:=Tryz.underlying0
 a0:=Tryz.isAgg0
 z0:=Tryz.sizeOf0
 v0:=Tryz.zeroValue0
 t3:=Tryz.underlying3
 a3:=Tryz.isAgg3
 z3:=Tryz.sizeOf3
 v3:=Tryz.zeroValue3
 t4:=Tryz.underlying4
 a4:=Tryz.isAgg4
 z4:=Tryz.sizeOf4
 v4:=Tryz.zeroValue4
 t5:=Tryz.underlying5
 a5:=Tryz.isAgg5
 z5:=Tryz.sizeOf5
 v5:=Tryz.zeroValue5
 t9:=Tryz.underlying9
 a9:=Tryz.isAgg9
 z9:=Tryz.sizeOf9
 v9:=Tryz.zeroValue9
 t31:=Tryz.underlying109
 a31:=Tryz.isAgg109
 z31:=Tryz.sizeOf109
 v31:=Tryz.zeroValue109
 t46:=Tryz.underlying108
 a46:=Tryz.isAgg108
 z46:=Tryz.sizeOf108
 v46:=Tryz.zeroValue108
 t51:=Tryz.underlying50
 a51:=Tryz.isAgg50
 z51:=Tryz.sizeOf50
 v51:=Tryz.zeroValue50
 t53:=Tryz.underlying116
 a53:=Tryz.isAgg116
 z53:=Tryz.sizeOf116
 v53:=Tryz.zeroValue116
 t131:=Tryz.underlying146
 a131:=Tryz.isAgg146
 z131:=Tryz.sizeOf146
 v131:=Tryz.zeroValue146
 t182:=Tryz.underlying371
 a182:=Tryz.isAgg371
 z182:=Tryz.sizeOf371
 v182:=Tryz.zeroValue371
 t183:=Tryz.underlying372
 a183:=Tryz.isAgg372
 z183:=Tryz.sizeOf372
 v183:=Tryz.zeroValue372
 t218:=Tryz.underlying393
 a218:=Tryz.isAgg393
 z218:=Tryz.sizeOf393
 v218:=Tryz.zeroValue393
 t222:=Tryz.underlying76
 a222:=Tryz.isAgg76
 z222:=Tryz.sizeOf76
 v222:=Tryz.zeroValue76
 t228:=Tryz.underlying405
 a228:=Tryz.isAgg405
 z228:=Tryz.sizeOf405
 v228:=Tryz.zeroValue405
 t229:=Tryz.underlying406
 a229:=Tryz.isAgg406
 z229:=Tryz.sizeOf406
 v229:=Tryz.zeroValue406}
theorem YtbhphmfbligliaaGreatDoor.Mm:YtbhphmfbligliaaGreatDoor.dA:=
 ⟨fun u b0 a0 y w x d j=>Any.slices_Sort_string Tryz.CP u b0 a0 y w x d j,fun p a0 w=>Any.slices_Sort_string_none Tryz.CP p a0 w⟩
end Go.Proofs
namespace Go.Proofs.YtbhphmfbligliaaGreatDoor
open Go Go.Al
theorem gU{α:Type}[Inhabited α]{f:α->List IV}(h: ∀x,eH ((f x).map .iv)=is)(l:List α):allOnes ((TX l.length).map fun k=>(f (l.getD k co)).map PV.iv)=is:=by rw[xM];exact fM h l
def Prog.size(p:Prog):Nat:=p.aw.length+(p.aw.map fun d=>d.types.length).sum+p.rules.length+(p.rules.map aq.size).sum
theorem kq{α:Type}[Inhabited α](f:α->Nat): ∀(l:List α) (i:Nat),i<l.length->f (l.getD i co)<=(l.map f).sum
 |x::r,0,_=>by simp
 |x::r,i+1,h=>by
  have:=kq f r i (by simpa using h);simp only[Um,Tg,UY];omega
theorem db{α:Type}(i sz n d:Nat)(l:List α)(f:α->List IV):(aY d l f).iR i sz n:=by
 intro k e j p u A;rw[S6,S8]at u;obtain⟨x,_,rfl⟩:=u;rw[S6,S8]at A;obtain⟨y,_,rfl⟩:=A;exact⟨y,rfl⟩
theorem Ss(r:aq)(hb:r.size<=10000000):Pure Tryz.prog 141 [ag r.c] (.iv (strs (kK r))):=A4 r▸c33 Mm r hb
end Go.Proofs.YtbhphmfbligliaaGreatDoor
namespace Go.Proofs.YtbhphmfbligliaaGreatDoor
open Go.Proofs.Tryz
open Go
section
set_option maxHeartbeats 2000000
theorem CY: ∃j,prog.info? 186=dl j∧j.size=2:=by
 have h:(prog.info? 186).map (fun i=>i.size)=dl 2:=by kernel_rfl
 rw[S8]at h;exact h
theorem Ke:liesAt prog prog.depth 188 (4/prog.cellsOf 188) 0 186 1=is:=by kernel_rfl
theorem KF(b:Nat)(w:World)(h0:w.cell? ⟨b,0,io⟩=dl (.pointer (dl ⟨b,0,io⟩))):
  Calls prog 182 #[.pointer (dl ⟨b,0,io⟩)] w fun e u=>e= .returned (.tuple #[])∧u=w:=by
 obtain⟨j,d,_⟩:=CY
 go_enter func182,ntmps182
 go_wp2
 rw[Lib.run_neq_ptr_same w _ underlying184 d]
 go_wp2
 go_end0
 exact⟨rfl,rfl⟩
theorem Hi(b:Nat)(w:World)(h0:w.cell? ⟨b,0,io⟩=dl (.pointer io))(d:w.shape? b=dl (188,4))(y:w.frozen? ⟨b,0,io⟩=jp):
  Calls prog 182 #[.pointer (dl ⟨b,0,io⟩)] w fun e A=>e= .returned (.tuple #[])∧A=w.setCell ⟨b,0,io⟩ (.pointer (dl ⟨b,0,io⟩)):=by
 obtain⟨j,x,u⟩:=CY
 go_enter func182,ntmps182
 go_wp2
 rw[Lib.run_to_unsafe w ⟨b,0,io⟩ underlying184 underlying327 x (by rw[u];decide) d (by show 0<4;decide)];simp only[Result.andThen];rw[Oper.upon_value]
 go_wp2
 rw[run_callFunc_extern func233 (by kernel_rfl) (by kernel_rfl) (by kernel_rfl) (e:=Extern.AbiNoEscape.same) (by kernel_rfl)];rw[Lib.run_noEscape];simp only[Result.andThen];rw[Oper.upon_value]
 go_wp2
 rw[Lib.run_from_unsafe w ⟨b,0,io⟩ underlying327 underlying184 x d Ke];simp only[Result.andThen];rw[Oper.upon_value]
 go_wp2
 go_end0
 exact⟨rfl,rfl⟩
theorem Hd:prog.cellsOf 5=1:=by kernel_rfl
theorem KJ(b g cap:Nat)(p x y:Value)(d:Array Value)(l:List UInt8)(w:World)(C:w.heap[b]? =dl (.cells #[p,.slice (dl ⟨g,0,io⟩) l.length cap,x,y] 188 (0,0)))(hg:w.heap[g]? =dl (.cells d 5 (0,0)))
  (hl:l.length<=d.size) (G:l.length<=cap) (D:cap<=maxLen) (A: ∀(j:Nat) (x:UInt8),l[j]? =dl x->d.getD j undef= .int .u8 (x.toNat:Int)) (h0:l≠ []):
  Calls prog 149 #[.pointer (dl ⟨b,0,io⟩)] w fun e w'=>e= .returned (.string ⟨l.toArray⟩)∧w'=w.drew.freeze ⟨g,0,io⟩ l.length:=by
 have a0:l.length≠0:=by simpa using h0
 have c1:w.drew.cell? ⟨b,1,io⟩=dl (.slice (dl ⟨g,0,io⟩) l.length cap):=by
  have:w.drew.heap[b]? =dl (.cells #[p,.slice (dl ⟨g,0,io⟩) l.length cap,x,y] 188 (0,0)):=C;rw[Lib.cell_of_heap this];rfl
 have Y:(Builtin.unsafeSliceData_ #[33] 292 #[.slice (dl ⟨g,0,io⟩) l.length cap]).run prog w.drew= .ok (.pointer (dl ⟨g,0,io⟩)) w.drew:=
  Lib.run_unsafeSliceData_row _ _ _ _ _ _ (by omega)
 have Z:(Builtin.unsafeString_ #[292,3] 9 #[.pointer (dl ⟨g,0,io⟩),.int .i64 l.length]).run prog w.drew= .ok (.string ⟨l.toArray⟩) (w.drew.freeze ⟨g,0,io⟩ l.length):=by
  refine Lib.run_unsafeString_row w.drew 292 3 9 5 underlying292 Hd g d.size (by have u:w.drew.heap[g]? =dl (.cells d 5 (0,0)):=hg;simp[World.shape?,u]) l h0 (by omega) (by unfold maxLen at D;omega) ?_;intro j x J;have B:j<d.size:=by have:=(S2.1 J).1;omega
  have:=A j x J;rw[SZ,T1 B]at this;show w.drew.cell? _=_;have u:w.drew.heap[g]? =dl (.cells d 5 (0,0)):=hg;rw[Al.dh,Tp];simp only[World.cell?,u];simpa[B]using this
 have F:prog.follows .mixedOrders=is:=rfl
 go_enter func149,ntmps149
 go_wp2
 go_region_o
 all_goals(go_wp2;go_ret;exact⟨rfl,rfl⟩)
theorem O1(b:Nat)(p x y:Value)(w:World)(d:w.heap[b]? =dl (.cells #[p,.slice io 0 0,x,y] 188 (0,0))):
  Calls prog 149 #[.pointer (dl ⟨b,0,io⟩)] w fun e B=>e= .returned (.string ⟨#[]⟩)∧B=w.drew:=by
 have A:(W:World)->(Builtin.unsafeString_ #[292,3] 9 #[.pointer io,.int .i64 0]).run prog W= .ok (.string .empty) W:=fun W=>Lib.run_unsafeString_none W _ _ _ io
 have c1:w.drew.cell? ⟨b,1,io⟩=dl (.slice io 0 0):=by
  have:w.drew.heap[b]? =dl (.cells #[p,.slice io 0 0,x,y] 188 (0,0)):=d;rw[Lib.cell_of_heap this];rfl
 have u:(Builtin.unsafeSliceData_ #[33] 292 #[.slice io 0 0]).run prog w.drew= .ok (.pointer io) w.drew:=rfl;have j:prog.follows .mixedOrders=is:=rfl
 go_enter func149,ntmps149
 go_wp2
 go_region_o
 all_goals(go_wp2;go_ret;exact⟨rfl,rfl⟩)
end
end Go.Proofs.YtbhphmfbligliaaGreatDoor
namespace Go.Proofs.YtbhphmfbligliaaGreatDoor
open Go Go.Al Go.Proofs.Tryz
def JZ(c:Nat):Bool:=(kw (97<=c)&&kw (c<=122))||((kw (65<=c)&&kw (c<=90))||((kw (48<=c)&&kw (c<=57))||decide (c=95)))
def okB(b:UInt8):Bool:=JZ b.toNat
def hd(s:ae):Int:=((s.data.toList.getD 0 0).toNat:Int)
def tB(s:ae)(lo hi:Int):Bool:=!kw (s=⟨#[]⟩)&&(kw (s.size<=32)&&(kw (lo<=hd s)&&(kw (hd s<=hi)&&s.data.toList.all okB)))
theorem F5{c:Nat}(h:JZ c=is):c<128:=by
 simp only[JZ,U0,Tz,decide_eq_true_eq]at h;omega
theorem Jp{s:ae}(h: ¬s=⟨#[]⟩):0<s.size:=by
 refine Nat.pos_of_ne_zero fun d=>h ?_;have:s.data= #[]:=Array.eq_empty_of_size_eq_zero d;cases s;simp_all
theorem SC(c:Nat):Pure prog 232 [.iv (.v (.int .i32 (c:Int)))] (pB (!JZ c)):=by
 refine ai ab func232 I (by decide) ntmps232 I (by simp) I ?_
 repeat' (first|(refine gA I (zI (fun _=>?_) (fun _=>?_)))|(refine gA I (zL (.of_eq ?_))))
 all_goals(refine(mN ?_:pB _=pB _))
 all_goals(simp only[VC,V3,decide_eq_true_eq,decide_eq_false_iff_not] at*;rw[Uo];simp[JZ];omega)
theorem G7{s:ae}{i:Nat}(h:i<s.size)(hb:okB (s.data.toList.getD i 0)=is):Utf8.decode s i=((s.data.toList.getD i 0).toNat,1):=by
 have d:(s[i]'h)=s.data.toList.getD i 0:=by
  have:i<s.data.toList.length:=by simpa using h
  rw[S4,S5 this];simp;rfl
 have:=decode_ascii s i h (by rw[d];exact F5 hb);rw[this,d]
theorem OY{s:ae}{i:Nat}(h:i<s.size)(hb:okB (s.data.toList.getD i 0)=jp):JZ (Utf8.decode s i).1=jp:=by
 by_cases j:(s.data.toList.getD i 0).toNat<128
 .have d:(s[i]'h)=s.data.toList.getD i 0:=by
   have:i<s.data.toList.length:=by simpa using h
   rw[S4,S5 this];simp;rfl
  have:=decode_ascii s i h (by rw[d];exact j);rw[this,d];exact hb
 .have d:(s.get! (i+0)).toNat=(s.data.toList.getD i 0).toNat:=by
   have:i<s.data.toList.length:=by simpa using h
   rw[S4,S5 this];simp[ByteArray.get!,getElem!_pos,h]
  have:128<=(Utf8.decode s i).1:=by
   simp only[Utf8.decode,d,be j]
   repeat' split
   all_goals(dsimp only[Utf8.runeError];(try simp only[Tz,decide_eq_true_eq] at*);omega)
  cases hk:JZ (Utf8.decode s i).1 with
  |false=>rfl
  |true=>have:=F5 hk;omega
def Dn(s:ae):Int:=pf (fun b=>!okB b) s.data.toList
theorem d217(s:ae):bB prog 313 [pS s,.cJ (.func 232) [] [],pB is] [] (pI (Dn s)) [] 0:=by
 have A:s.data.toList.length=s.size:=by simp
 refine an ab func313 I (by decide) ntmps313 I (by simp) ?_;refine gA I ?_;refine w4 ab I I I I I I I ?_;refine gA I ?_;refine aJ 0 s.size (Te _) (fun i=>⟨[(0,pS s),(1,.cJ (.func 232) [] []),(2,pB is),(10,.ptr 0 0)],[(0,dl (.dM s i))],1⟩) (fun i=>(s.data.toList.take i).any (fun b=>!okB b)=jp) [] (by simp)
  (zW ⟨⟨_,rfl,.of_eq I⟩,SY I,ac,ac⟩) fun i B x=>?_
 refine gA I ?_;refine lv I I I I I I (fun j=>?_) (fun j=>?_)
 .have d:s.data.toList.length<=i:=by omega
  rw[Dn,fT (any_none x d)];refine gA I (zD [] I (zW ac))
 .have u:i<s.data.toList.length:=by omega
  have y:s.data.toList.getD i co=s.data.toList.getD i 0:=rfl;refine gA I (zp (SC (Utf8.decode s i).1) ?_);refine zJ I I (fun d=>?_) fun d=>?_
  .have d:JZ (Utf8.decode s i).1=jp:=by simpa using d
   have hb:okB (s.data.toList.getD i 0)=jp:=by
    cases hk:okB (s.data.toList.getD i 0) with
    |false=>rfl
    |true=>
     rw[G7 j hk]at d;exact absurd (hk.symm.trans d) (by simp)
   rw[Dn,hP x u (by rw[y,hb];rfl)];refine gA I (zD [] I (zW ac))
  .have d:JZ (Utf8.decode s i).1=is:=by simpa using d
   have hb:okB (s.data.toList.getD i 0)=is:=by
    cases hk:okB (s.data.toList.getD i 0) with
    |true=>rfl
    |false=>exact absurd ((OY j hk).symm.trans d) (by simp)
   have hd:=G7 j hb;refine gA I ⟨j,(c5 x u).2 (by rw[y,hb];rfl),[],zW ⟨⟨_,rfl,.of_eq (by rw[hd];rfl)⟩,SY I,ac,ac⟩⟩
theorem KR(l:List UInt8):(l.any fun b=>!okB b)=!l.all okB:=by
 induction l with
 |nil=>rfl
 |cons x r ih=>simp only[WA,VD,ih];cases okB x<;>rfl
theorem d203(s:ae):bB prog 282 [pS s,.cJ (.func 232) [] []] [] (pI (Dn s)) [] 0:=by
 refine an ab func282 I (by decide) ntmps282 I (by simp) ?_;refine gA I (zq [] (d217 s) ?_);refine gA I (zD [] I (zW ac))
theorem d180(s:ae):bB prog 231 [pS s,.cJ (.func 232) [] []] [] (pB (!s.data.toList.all okB)) [] 0:=by
 refine an ab func231 I (by decide) ntmps231 I (by simp) ?_;refine gA I (zq [] (d203 s) ?_);refine gA I (zD [] I (zM ⟨.of_eq (mN ((hQ _ _).trans (KR _))),rfl,ac⟩ ac))
theorem Ru(s:ae)(lo hi:Int):Pure prog 181 [pS s,.iv (.v (.int .u8 lo)),.iv (.v (.int .u8 hi))] (pB (tB s lo hi)):=by
 refine ai ab func181 I (by decide) ntmps181 I (by simp) I ?_;refine zE I I (fun d=>?_) fun d=>?_
 .have d:s=⟨#[]⟩:=zT d;refine gA I (zL (.of_eq ?_));refine(mN ?_:pB _=pB _);subst d;rfl
 have d: ¬s=⟨#[]⟩:=zF d;have y:=Jp d;refine zE I I (fun j=>?_) fun j=>?_
 .have j:32<s.size:=zN j;refine gA I (zL (.of_eq ?_));refine(mN ?_:pB _=pB _);have: ¬s.size<=32:=by omega
  simp[tB,this]
 have j:s.size<=32:=by have:=zF j;omega
 refine zE I I (fun u=>?_) fun u=>?_
 .have u:hd s<lo:=zT u;refine gA I (zL (.of_eq ?_));refine(mN ?_:pB _=pB _);have: ¬lo<=hd s:=by omega
  simp[tB,this]
 have u:lo<=hd s:=by have: ¬hd s<lo:=zF u;omega
 refine zJ I I (fun x=>?_) fun x=>?_
 .have x:hi<hd s:=zT x;refine gA I (zL (.of_eq ?_));refine(mN ?_:pB _=pB _);have: ¬hd s<=hi:=by omega
  simp[tB,this]
 have x:hd s<=hi:=by have: ¬hd s>hi:=zF x;omega
 refine gA I (zq [] (d180 s) ?_);refine gA I (zL (.of_eq ?_));refine(mN ?_:pB _=pB _);simp[tB,d,j,u,x]
def QJ:List ae:=[⟨#[114,101,108,97,116,105,111,110]⟩,⟨#[110,111,116]⟩,⟨#[110,117,109]⟩,⟨#[115,121,109]⟩,⟨#[109,111,100]⟩,⟨#[99,111,117,110,116]⟩,⟨#[115,117,109]⟩,⟨#[109,105,110]⟩,⟨#[109,97,120]⟩]
def QK(s:ae):Bool:=QJ.any fun x=>kw (s=x)
def fY(s:ae):Bool:=!QK s&&tB s 97 122
def fO(s:ae):Bool:=tB s 65 90
theorem BV(s:ae):Pure prog 183 [pS s] (pB (fO s)):=by
 refine ai ab func183 I (by decide) ntmps183 I (by simp) I ?_;refine gA I (zp (Ru s 65 90) ?_);exact zU I
theorem Rs(s:ae):Pure prog 145 [pS s] (pB (fY s)):=by
 refine ai ab func145 I (by decide) ntmps145 I (by simp) I ?_
 repeat' (first|(refine gA I (zI (fun _=>?_) (fun _=>?_)))|(refine gA I (zp (Ru s 97 122) ?_))|(refine gA I (zL (.of_eq ?_))))
 all_goals(refine(mN ?_:pB _=pB _))
 all_goals(simp only[fY,QK,QJ,WA,List.any_nil, *];rfl)
theorem SG(v:eK):Pure prog 241 [ag v.c] (pB (!kw (b7 v=0))):=by
 refine ai ab func241 I (by decide) ntmps241 I (by simp) I ?_;refine gA I (zp (Rt v) ?_);exact zU I
theorem i182(l:List eK):bB prog 287 [.iv (bz 3 l eK.c),.cJ (.func 241) [] []] [] (pI (pf (fun x:eK=>!kw (b7 x=0)) l)) [] 0:=by
 refine pq (bP func287 I (by decide)) ⟨_,_,Tm⟩ fun u=>?_;simp only[maxLen]at u;refine an ab func287 I (by decide) ntmps287 I (by simp) ?_;refine gA I ?_
 refine aJ 0 l.length (Te _) (fun i=>⟨[(0,.iv (bz 3 l eK.c)),(1,.cJ (.func 241) [] []),(7,pI l.length),(8,pI i)],[],0⟩) (fun i=>(l.take i).any (fun x:eK=>!kw (b7 x=0))=jp) [] (by simp)
  (zW trivial) fun i A y=>?_
 refine zJ I I (fun d=>?_) fun d=>?_
 .have d:i<l.length:=by simpa using d
  refine gA I (zp (SG (l.getD i co)) ?_);refine zJ I I (fun j=>?_) fun j=>?_
  .have j:(fun x:eK=>!kw (b7 x=0)) (l.getD i co)=is:=j;rw[hP y d j];refine gA I (zD [] I (zW ac))
  .have j:(fun x:eK=>!kw (b7 x=0)) (l.getD i co)=jp:=j;refine gA I ⟨d,(c5 y d).2 j,[],zW ac⟩
 .have d:l.length<=i:=by simpa using d
  rw[fT (any_none y d)];refine gA I (zD [] I (zW ac))
theorem d141(l:List eK):bB prog 240 [.iv (bz 3 l eK.c),.cJ (.func 241) [] []] [] (pB (l.any (fun x:eK=>!kw (b7 x=0)))) [] 0:=by
 refine an ab func240 I (by decide) ntmps240 I (by simp) ?_;refine gA I (zq [] (i182 l) ?_);refine gA I (zD [] I (zM ⟨.of_eq (mN (hQ _ l)),rfl,ac⟩ ac))
def mb(f:Fact):Bool:=fY f.rel&&(kw (f.args.length<=8)&&f.args.all fun v=>kw (b7 v=0))
theorem Hs(l:List eK):(l.any fun x:eK=>!kw (b7 x=0))=!l.all fun v=>kw (b7 v=0):=by
 induction l with
 |nil=>rfl
 |cons x r ih=>simp only[WA,VD,ih];cases kw (b7 x=0)<;>rfl
theorem c98(l:List eK):Pure prog 190 [.iv (bz 3 l eK.c)] (pB (l.all fun v=>kw (b7 v=0))):=by
 refine ai ab func190 I (by decide) ntmps190 I (by simp) I ?_;refine gA I (zq [] (d141 l) ?_);refine gA I (zL (.of_eq ?_));refine(mN ?_:pB _=pB _);rw[Hs,Bool.not_not]
theorem c55(f:Fact):Pure prog 158 [ag f.c] (pI (if mb f then 0 else 20)):=by
 refine ai ab func158 I (by decide) ntmps158 I (by simp) I ?_
 repeat' (first|(refine gA I (zI (fun _=>?_) (fun _=>?_)))|(refine gA I (zp (Rs f.rel) ?_))|(refine gA I (zp (c98 f.args) ?_))|(refine gA I (zL (.of_eq ?_))))
 all_goals(refine(EN ?_:pI _=pI _))
 all_goals(simp only[mb];simp_all)
 all_goals omega
section
theorem Rel.Bo{M:Mem}{N:Nm}{U:Nat->Prop}{h u:AH}{w:World}(hr:Rel M N U h w)(e: ∀i,AH.get u i=h.get i):Rel M N U u w:=
 ⟨hr.ej,fun i o d=>hr.used i o (by rw[<-e];exact d),fun i o d=>hr.dE i o (by rw[<-e];exact d),fun i o d=>hr.obj i o (by rw[<-e];exact d),fun i j o p d x=>hr.inj i j o p (by rw[<-e];exact d) (by rw[<-e];exact x)⟩
theorem Ext.Bo{M j:Mem}{N u:Nm}{U x:Nat->Prop}{h0 h y:AH}{w A:World}(d:Ext M N U h0 w j u x h A)(e: ∀i,AH.get y i=h.get i):Ext M N U h0 w j u x y A:=
 ⟨d.os,d.tape,d.output,d.size,d.eN,d.mv,d.eM,d.nm,d.ule,fun i o B=>d.dV i o (by rw[<-e];exact B)⟩
structure WS where
 fr:Bool
 l:List UInt8
 bad:Bool
 br:Int
abbrev WS.px(w:WS)(i j:Nat):AO:= .cells [.eZ w.fr i,.sl j 0 w.l.length 1,pB w.bad,pI w.br] (dl 188)
abbrev WS.c(w:WS):AO:=w.px 0 1
abbrev WS.O(w:WS):List AO:=[w.c,.bt w.l 5]
abbrev WS.H(w:WS):AH:=[(0,dl (w.px 0 2)),(2,dl (.bt w.l 5))]
theorem d204(w:WS):bB prog 182 [.ptr 0 0] w.O (.aZ []) [(0,dl ({w with fr:=jp}:WS).c),(1,dl (.bt w.l 5))] 2:=by
 refine⟨bP func182 I (by decide),fun M N wd vs J y hv=>?_⟩;obtain⟨v,rfl⟩: ∃v,vs=[v]:=by
  cases vs with
  |nil=>cases y
  |cons v r=>cases r with
   |nil=>exact⟨v,rfl⟩
   |cons a b=>simp at y
 have Y:VR M N (· <2) (.ptr 0 0) v:=hv 0 _ I;have Z:v= .pointer (dl ⟨N.az 0,0,io⟩):=by cases Y;rfl
 subst Z;have F:AH.get (dz 0 w.O) 0=dl w.c:=rfl;obtain⟨c,T,C,h2,h3,h4,h5⟩:=J.obj 0 _ F;have hT:=h5 188 I;subst hT;have A:c.size=4:=h3.symm;have a0:N.az 0<wd.heap.size:=(TO.1 C).1;have G:c.getD 0 undef= .pointer (bif w.fr then io else dl ⟨N.az 0,0,io⟩):=by
  have:=h4 0 _ I;generalize c.getD 0 undef=x at this;cases this;rfl
 have d:wd.cell? ⟨N.az 0,0,io⟩=dl (c.getD 0 undef):=by
  rw[Lib.cell_of_heap C,SZ,T1 (by omega)];rfl
 rw[G]at d;show Calls prog 182 #[_] wd _;cases hfr:w.fr with
 |false=>
  rw[hfr]at d;refine(KF (N.az 0) wd d).mono ?_;rintro e w' ⟨rfl,rfl⟩;have hw:({w with fr:=jp}:WS)=w:=by cases w;simp_all
  rw[hw];exact⟨_,M,N,.aZ [],_,2,rfl,⟨rfl,rfl,rfl⟩,.refl _ _ _ _ _,J,.aZ [] #[] I (by simp)⟩
 |true=>
  rw[hfr]at d;refine(Hi (N.az 0) wd d (by simp[World.shape?,C,A]) (Lib.frozen_of_heap C 0)).mono ?_;rintro e w' ⟨rfl,rfl⟩;have B:(wd.setCell ⟨N.az 0,0,io⟩ (.pointer (dl ⟨N.az 0,0,io⟩))).heap[N.az 0]? =dl (.cells (c.setIfInBounds 0 (.pointer (dl ⟨N.az 0,0,io⟩))) 188 (0,0)):=by
   simp[World.setCell,TH,C]
  obtain⟨g1,g2⟩:=J.write (i:=0) (o0:=w.c) F I (wd.setCell ⟨N.az 0,0,io⟩ (.pointer (dl ⟨N.az 0,0,io⟩))) ({w with fr:=jp}:WS).c I I I (by simp[World.setCell]) (fun b hb=>by
   simp only[World.setCell,TH]
   rw[be (fun e=>hb e.symm)]) ⟨_,188,B,by simpa using h2,by simp[A],fun j p D=>by
    match j,D with
    |0,D=>
     cases D;rw[SZ,TL];simp only[if_true,A];exact .eZ jp 0 (by show 0<2;decide)
    |j+1,D=>
     have:=h4 (j+1) p (by exact D);rw[SZ,TL,be (by omega)];rw[SZ]at this
     exact this,h5⟩
  have u: ∀i,AH.get [(0,dl ({w with fr:=jp}:WS).c),(1,dl (.bt w.l 5))] i=AH.get ((0,dl ({w with fr:=jp}:WS).c)::dz 0 w.O) i:=by
   intro i
   match i with
   |0=>rfl
   |1=>rfl
   |i+2=>rfl
  exact⟨_,M,N,.aZ [],_,2,rfl,⟨rfl,rfl,rfl⟩,Ext.Bo g1 u,Rel.Bo g2 u,.aZ [] #[] I (by simp)⟩
theorem d150(w:WS):bB prog 149 [.ptr 0 0] w.O (pS ⟨w.l.toArray⟩) [] 2:=by
 refine⟨bP func149 I (by decide),fun M N wd vs hr F hv=>?_⟩;obtain⟨v,rfl⟩: ∃v,vs=[v]:=by
  cases vs with
  |nil=>cases F
  |cons v r=>cases r with
   |nil=>exact⟨v,rfl⟩
   |cons a b=>simp at F
 have l0:VR M N (· <2) (.ptr 0 0) v:=hv 0 _ I;have m0:v= .pointer (dl ⟨N.az 0,0,io⟩):=by cases l0;rfl
 subst m0;have k0:AH.get (dz 0 w.O) 0=dl w.c:=rfl;have G:AH.get (dz 0 w.O) 1=dl (.bt w.l 5):=rfl;obtain⟨c,T,Z,h2,h3,h4,h5⟩:=hr.obj 0 _ k0;have hT:=h5 188 I;subst hT;have g0:c.size=4:=h3.symm;have d0: ∀(x1:Value),c.getD 1 undef=x1-> ∃p x y,c= #[p,x1,x,y]:=by
  intro x1 B;refine⟨c.getD 0 undef,c.getD 2 undef,c.getD 3 undef,?_⟩;apply Array.ext
  .simpa using g0
  .intro i u n0
   match i,u with
   |0,u=>simp[SZ,u]
   |1,u=>rw[<-B];simp[SZ,u]
   |2,u=>simp[SZ,u]
   |3,u=>simp[SZ,u]
   |i+4,u=>omega
 have A:=h4 1 _ I;have J:=hr.obj 1 _ G;show Calls prog 149 #[_] wd _;by_cases D:w.l=[]
 .have B:c.getD 1 undef= .slice io 0 0:=by
   generalize c.getD 1 undef=x at A;rw[D]at A;generalize Y:PV.sl 1 0 ([]:List UInt8).length 1=q at A;cases A with
   |sl i off len sz a0 h h0 Z hc he=>cases Y;simp at h0
   |lH i sz h=>rfl
   |_=>cases Y
  obtain⟨p,x,y,rfl⟩:=d0 _ B;refine(O1 (N.az 0) p x y wd Z).mono ?_;rintro e w' ⟨rfl,rfl⟩;refine⟨.string ⟨#[]⟩,M,N,pS ⟨w.l.toArray⟩,[],2,rfl,⟨rfl,rfl,rfl⟩,?_,?_,.iv _ _ (by rw[D];exact .v _)⟩
  .have:=Ext.drew (M:=M) (N:=N) (U:=(· <w.O.length)) (h:=dz 0 w.O) (w:=wd);exact⟨this.os,this.tape,this.output,this.size,this.eN,this.mv,this.eM,this.nm,this.ule,fun i o u=>(nomatch u)⟩
  .exact⟨hr.drew.ej,fun i o u=>(nomatch u),fun i o u=>(nomatch u),fun i o u=>(nomatch u),fun i j o p u=>(nomatch u)⟩
 .have c0:0<w.l.length:=Ui.2 D;obtain⟨a0,B,b0,i0⟩: ∃a0,c.getD 1 undef= .slice (dl ⟨N.az 1,0,io⟩) w.l.length a0∧w.l.length<=a0∧a0<=maxLen:=by
   generalize c.getD 1 undef=x at A;generalize hn:w.l.length=n at A c0;generalize Y:PV.sl 1 0 n 1=q at A;cases A with
   |sl i off len sz a0 h h0 D hc he=>cases Y;exact⟨a0,by simp,D,hc⟩
   |lH i sz h=>cases Y;omega
   |_=>cases Y
  rcases J with J|⟨f0,q1,q2,q3,q4⟩
  .exact absurd J D
  obtain⟨p,x,y,rfl⟩:=d0 _ B;refine(KJ (N.az 0) (N.az 1) a0 p x y f0 w.l wd Z q1 q3 b0 i0 q4 D).mono ?_;rintro e w' ⟨rfl,rfl⟩;have e0:(AO.bt w.l 5).real=is:=by cases hll:w.l with
   |nil=>exact absurd hll D
   |cons=>rfl
  have hk: ∀b,b≠N.az 1->(wd.drew.freeze ⟨N.az 1,0,io⟩ w.l.length).heap[b]? =wd.heap[b]? :=by
   intro b hb;unfold World.freeze;split
   .rfl
   .show(wd.heap.modify _ _)[b]? =_;simp only[TH];rw[be (fun e=>hb e.symm)]
  have C:(wd.drew.freeze ⟨N.az 1,0,io⟩ w.l.length).os=wd.os∧(wd.drew.freeze ⟨N.az 1,0,io⟩ w.l.length).tape=wd.tape∧(wd.drew.freeze ⟨N.az 1,0,io⟩ w.l.length).output=wd.output∧(wd.drew.freeze ⟨N.az 1,0,io⟩ w.l.length).heap.size=wd.heap.size:=by
   unfold World.freeze;split
   .exact⟨rfl,rfl,rfl,rfl⟩
   .exact⟨rfl,rfl,rfl,by show(wd.heap.modify _ _).size=_;simp⟩
  refine⟨_,M,N,pS ⟨w.l.toArray⟩,[],2,rfl,⟨rfl,rfl,rfl⟩,?_,?_,.iv _ _ (.v _)⟩
  .exact⟨C.1,C.2.1,⟨C.2.2.1,by unfold World.freeze;split<;>exact UT _⟩,by rw[C.2.2.2];exact S9 _,fun b hb hn=>hk b fun e=>hn 1 _ G e0 e.symm,.refl _,fun b c Z h2=>by simp[Z]at h2,.refl _ _,fun _ h=>h,fun i o u=>(nomatch u)⟩
  .refine⟨fun b d hb=>?_,fun i o u=>(nomatch u),fun i o u=>(nomatch u),fun i o u=>(nomatch u),fun i j o p u=>(nomatch u)⟩;have j0:b≠N.az 1:=fun e=>by
    have:=hr.dE 1 _ G e0;rw[<-e,hb]at this;cases this
   exact(hr.ej b d hb).mono (hk b j0)
section
variable {nt:NT} {Q:AQ} {k:List KI} {s:AS}
def wS(s:AS)(d:WS)(i j:Nat):AS:=match s with|⟨f,h,n⟩=>⟨f,(i,dl (d.px i n))::(n,dl (.bt d.l 5))::(i,io)::(j,io)::h,n+1⟩
theorem Po(s:AS)(d:WS)(i j:Nat):wS s d i j=⟨s.f,(i,dl (d.px i s.nx))::(s.nx,dl (.bt d.l 5))::(i,io)::(j,io)::s.h,s.nx+1⟩:=by cases s;rfl
def Pn(s:AS)(d:WS)(i j m:Nat):AS:=match s with|⟨f,h,n⟩=>⟨f,(i,dl (d.px i n))::(n,dl (.bt d.l 5))::(i,io)::(j,io)::(m,io)::h,n+1⟩
theorem MQ(s:AS)(d:WS)(i j m:Nat):Pn s d i j m=⟨s.f,(i,dl (d.px i s.nx))::(s.nx,dl (.bt d.l 5))::(i,io)::(j,io)::(m,io)::s.h,s.nx+1⟩:=by cases s;rfl
theorem yS{o:Oper}{c:Call}{g:FuncId}{args u:List PV}{w C:WS}{r:PV}{i j:Nat}{s':AS}(hc:bB prog g (.ptr 0 0::args) w.O r C.H 3)(ho:o.op= .call c)(ha:bS s.f c=dl (g,.ptr i 0::u))
  (hi:s.h.get i=dl (w.px i j)) (hj:s.h.get j=dl (.bt w.l 5)) (hlt:Tv i s.nx=is) (hlj:Tv j s.nx=is) (hne:Tw i j=jp) (has:u=args) (hlow:bA 0 args=is) (hr:r.low 0=is)
  (hp:putDst nt o r (wS s C i j)=dl s'):OT prog nt o s (fun t=>t=s'):=by
 have y:i≠j:=fun e=>by subst e;simp at hne
 have A:([i,j]:List Nat).Nodup:=by simp[y]
 have D: ∀x∈ [i,j],x<s.nx:=by
  intro x B;simp only[Tt,VQ,or_false]at B;rcases B with rfl|rfl
  .exact SY hlt
  .exact SY hlj
 subst has;have d: ∀σ,di σ u=u:=fun σ=>gY σ u hlow;refine mh ho ha hc A D ?_ ?_ ?_
 .simp only[Tg,Tx,hi,hj];rfl
 .simp only[di,d];rfl
 .rintro q F n0 ⟨rfl,rfl,rfl⟩;rw[PV.jw _ _ hr];rw[Po]at hp;exact⟨s',hp,rfl⟩
theorem BI{all rest:List Oper}{o:Oper}{c:Call}{g:FuncId}{args d:List PV}{w u:WS}{r:PV}{i j:Nat}{s':AS}(hc:bB prog g (.ptr 0 0::args) w.O r u.H 3)(ho:o.op= .call c)(hg:o.guard=io)(ha:bS s.f c=dl (g,.ptr i 0::d))
  (hi:s.h.get i=dl (w.px i j)) (hj:s.h.get j=dl (.bt w.l 5)) (hlt:Tv i s.nx=is) (hlj:Tv j s.nx=is) (hne:Tw i j=jp) (has:d=args) (hlow:bA 0 args=is) (hr:r.low 0=is)
  (hp:putDst nt o r (wS s u i j)=dl s') (h:GO prog nt (.ops all rest::k) Q s'):GO prog nt (.ops all (o::rest)::k) Q s:=
 bw hg (yS hc ho ha hi hj hlt hlj hne has hlow hr hp) fun t x=>by subst x;exact h
theorem hZ{all rest:List Oper}{o:Oper}{c:Call}{g:FuncId}{args d:List PV}{w u:WS}{r:PV}{i j:Nat}{s':AS}(hc:bB prog g (.ptr 0 0::args) w.O r u.H 3)(h:GO prog nt (.ops all rest::k) Q s')(ho:o.op= .call c:=by exact rfl)(hg:o.guard=io:=by exact rfl)(ha:bS s.f c=dl (g,.ptr i 0::d):=by exact rfl)(hi:s.h.get i=dl (w.px i j):=by exact rfl)(hj:s.h.get j=dl (.bt w.l 5):=by exact rfl)(hlt:Tv i s.nx=is:=by exact rfl)(hlj:Tv j s.nx=is:=by exact rfl)(hne:Tw i j=jp:=by exact rfl)(has:d=args:=by exact rfl)(hlow:bA 0 args=is:=by exact rfl)(hr:r.low 0=is:=by exact rfl)(hp:putDst nt o r (wS s u i j)=dl s':=by exact rfl):GO prog nt (.ops all (o::rest)::k) Q s:=BI (hc:=hc) (ho:=ho) (hg:=hg) (ha:=ha) (hi:=hi) (hj:=hj) (hlt:=hlt) (hlj:=hlj) (hne:=hne) (has:=has) (hlow:=hlow) (hr:=hr) (hp:=hp) (h:=h)
theorem B4{o:Oper}{c:Call}{g:FuncId}{d:List ae}{w u:WS}{i j m n:Nat}{s':AS}(hc:bB prog g [.ptr 0 0,.sl 2 0 d.length 1] [w.c,.bt w.l 5,aY 1 d cA] (.aZ []) [(0,dl (u.px 0 3)),(3,dl (.bt u.l 5))] 4)(ho:o.op= .call c)(ha:bS s.f c=dl (g,[.ptr i 0,.sl m 0 n 1]))
  (hi:s.h.get i=dl (w.px i j)) (hj:s.h.get j=dl (.bt w.l 5)) (hm:s.h.get m=dl (aY 1 d cA)) (hn:n=d.length) (hlt:Tv i s.nx=is) (hlj:Tv j s.nx=is) (hlm:Tv m s.nx=is) (hnd:cM [i,j,m]=is)
  (hp:putDst nt o (.aZ []) (Pn s u i j m)=dl s'):OT prog nt o s (fun t=>t=s'):=by
 have A: ∀x∈ [i,j,m],x<s.nx:=by
  intro x y;simp only[Tt,VQ,or_false]at y;rcases y with rfl|rfl|rfl
  .exact SY hlt
  .exact SY hlj
  .exact SY hlm
 subst hn;refine mh ho ha hc (fh hnd) A ?_ I ?_
 .simp only[Tg,Tx,hi,hj,hm,bK];rfl
 .rintro q B n0 ⟨rfl,rfl,rfl⟩;rw[MQ]at hp;exact⟨s',hp,rfl⟩
theorem go_wp{all rest:List Oper}{o:Oper}{c:Call}{g:FuncId}{d:List ae}{w u:WS}{i j m n:Nat}{s':AS}(hc:bB prog g [.ptr 0 0,.sl 2 0 d.length 1] [w.c,.bt w.l 5,aY 1 d cA] (.aZ []) [(0,dl (u.px 0 3)),(3,dl (.bt u.l 5))] 4)(ho:o.op= .call c)(hg:o.guard=io)(ha:bS s.f c=dl (g,[.ptr i 0,.sl m 0 n 1]))
  (hi:s.h.get i=dl (w.px i j)) (hj:s.h.get j=dl (.bt w.l 5)) (hm:s.h.get m=dl (aY 1 d cA)) (hn:n=d.length) (hlt:Tv i s.nx=is) (hlj:Tv j s.nx=is) (hlm:Tv m s.nx=is) (hnd:cM [i,j,m]=is)
  (hp:putDst nt o (.aZ []) (Pn s u i j m)=dl s')
  (h:GO prog nt (.ops all rest::k) Q s'):GO prog nt (.ops all (o::rest)::k) Q s:=
 bw hg (B4 hc ho ha hi hj hm hn hlt hlj hlm hnd hp) fun t x=>by subst x;exact h
theorem i6{all rest:List Oper}{o:Oper}{c:Call}{g:FuncId}{d:List ae}{w u:WS}{i j m n:Nat}{s':AS}(hc:bB prog g [.ptr 0 0,.sl 2 0 d.length 1] [w.c,.bt w.l 5,aY 1 d cA] (.aZ []) [(0,dl (u.px 0 3)),(3,dl (.bt u.l 5))] 4)(h:GO prog nt (.ops all rest::k) Q s')(ho:o.op= .call c:=by exact rfl)(hg:o.guard=io:=by exact rfl)(ha:bS s.f c=dl (g,[.ptr i 0,.sl m 0 n 1]):=by exact rfl)(hi:s.h.get i=dl (w.px i j):=by exact rfl)(hj:s.h.get j=dl (.bt w.l 5):=by exact rfl)(hm:s.h.get m=dl (aY 1 d cA):=by exact rfl)(hn:n=d.length:=by exact rfl)(hlt:Tv i s.nx=is:=by exact rfl)(hlj:Tv j s.nx=is:=by exact rfl)(hlm:Tv m s.nx=is:=by exact rfl)(hnd:cM [i,j,m]=is:=by exact rfl)(hp:putDst nt o (.aZ []) (Pn s u i j m)=dl s':=by exact rfl):GO prog nt (.ops all (o::rest)::k) Q s:=go_wp (hc:=hc) (ho:=ho) (hg:=hg) (ha:=ha) (hi:=hi) (hj:=hj) (hm:=hm) (hn:=hn) (hlt:=hlt) (hlj:=hlj) (hlm:=hlm) (hnd:=hnd) (hp:=hp) (h:=h)
theorem yy{all:List Oper}{todo pend:List (Nat×Oper)}{u:Nat}{B A:Prop}{o:Oper}{c:Call}{g:FuncId}{d:List ae}{w y:WS}{i j m n:Nat}{s':AS}(hc:bB prog g [.ptr 0 0,.sl 2 0 d.length 1] [w.c,.bt w.l 5,aY 1 d cA] (.aZ []) [(0,dl (y.px 0 3)),(3,dl (.bt y.l 5))] 4)
  (hrd:fB todo=[(u,o)]) (ho:o.op= .call c) (ha:bS s.f c=dl (g,[.ptr i 0,.sl m 0 n 1]))
  (hi:s.h.get i=dl (w.px i j)) (hj:s.h.get j=dl (.bt w.l 5)) (hm:s.h.get m=dl (aY 1 d cA)) (hn:n=d.length) (hlt:Tv i s.nx=is) (hlj:Tv j s.nx=is) (hlm:Tv m s.nx=is) (hnd:cM [i,j,m]=is)
  (hp:putDst nt o (.aZ []) (Pn s y i j m)=dl s')
  (hg:cj nt all s.f o=dl is) (hpb:iQ all pend o=is) (hE:od todo [u]=is)
  (hag:oh mz nt all s todo pend=dl B) (hCA:B) (hag2:dZ mz nt all s' (bh pend o)=dl A) (hC2:A)
  (h:GO prog nt (.cf all (todo.filter fun x=>!Tw x.1 u) (bh pend o)::k) Q s'):GO prog nt (.cf all todo pend::k) Q s:=
 l9 ab hrd hg hpb hE hag hCA (B4 hc ho ha hi hj hm hn hlt hlj hlm hnd hp) hag2 hC2 h
theorem Ra{all:List Oper}{todo pend:List (Nat×Oper)}{d:Nat}{y u:Prop}{o:Oper}{c:Call}{g:FuncId}{args A:List PV}{w B:WS}{r:PV}{i j:Nat}{s':AS}(hc:bB prog g (.ptr 0 0::args) w.O r B.H 3)
  (hrd:fB todo=[(d,o)]) (ho:o.op= .call c) (ha:bS s.f c=dl (g,.ptr i 0::A))
  (hi:s.h.get i=dl (w.px i j)) (hj:s.h.get j=dl (.bt w.l 5)) (hlt:Tv i s.nx=is) (hlj:Tv j s.nx=is) (hne:Tw i j=jp) (has:A=args) (hlow:bA 0 args=is) (hr:r.low 0=is)
  (hp:putDst nt o r (wS s B i j)=dl s')
  (hg:cj nt all s.f o=dl is) (hpb:iQ all pend o=is) (hE:od todo [d]=is)
  (hag:oh mz nt all s todo pend=dl y) (hCA:y) (hag2:dZ mz nt all s' (bh pend o)=dl u) (hC2:u)
  (h:GO prog nt (.cf all (todo.filter fun x=>!Tw x.1 d) (bh pend o)::k) Q s'):GO prog nt (.cf all todo pend::k) Q s:=
 l9 ab hrd hg hpb hE hag hCA (yS hc ho ha hi hj hlt hlj hne has hlow hr hp) hag2 hC2 h
theorem vS{all:List Oper}{todo pend:List (Nat×Oper)}{d:Nat}{y u:Prop}{o:Oper}{c:Call}{g:FuncId}{args A:List PV}{w B:WS}{r:PV}{i j:Nat}{s':AS}(hc:bB prog g (.ptr 0 0::args) w.O r B.H 3)(h:GO prog nt (.cf all (todo.filter fun x=>!Tw x.1 d) (bh pend o)::k) Q s')(hrd:fB todo=[(d,o)]:=by exact rfl)(ho:o.op= .call c:=by exact rfl)(ha:bS s.f c=dl (g,.ptr i 0::A):=by exact rfl)(hi:s.h.get i=dl (w.px i j):=by exact rfl)(hj:s.h.get j=dl (.bt w.l 5):=by exact rfl)(hlt:Tv i s.nx=is:=by exact rfl)(hlj:Tv j s.nx=is:=by exact rfl)(hne:Tw i j=jp:=by exact rfl)(has:A=args:=by exact rfl)(hlow:bA 0 args=is:=by exact rfl)(hr:r.low 0=is:=by exact rfl)(hp:putDst nt o r (wS s B i j)=dl s':=by exact rfl)(hg:cj nt all s.f o=dl is:=by exact rfl)(hpb:iQ all pend o=is:=by exact rfl)(hE:od todo [d]=is:=by exact rfl)(hag:oh mz nt all s todo pend=dl y:=by exact rfl)(hCA:y:=by(repeat' (first|exact ac|exact rfl|exact ak.refl _|exact ak.bk (by assumption)|apply S3))<;>first|omega|(simp only[S7];omega)|(simp;done)|(simp;omega))(hag2:dZ mz nt all s' (bh pend o)=dl u:=by exact rfl)(hC2:u:=by(repeat' (first|exact ac|exact rfl|exact ak.refl _|exact ak.bk (by assumption)|apply S3))<;>first|omega|(simp only[S7];omega)|(simp;done)|(simp;omega)):GO prog nt (.cf all todo pend::k) Q s:=Ra (hc:=hc) (hrd:=hrd) (ho:=ho) (ha:=ha) (hi:=hi) (hj:=hj) (hlt:=hlt) (hlj:=hlj) (hne:=hne) (has:=has) (hlow:=hlow) (hr:=hr) (hp:=hp) (hg:=hg) (hpb:=hpb) (hE:=hE) (hag:=hag) (hCA:=hCA) (hag2:=hag2) (hC2:=hC2) (h:=h)
theorem xh{l:List ResultVar}{r r0 a b c d:PV}{e:Exit}{u:WS}{j n:Nat}(he:e= .normal∨e= .ret)(hr:jv mz s l=dl r0)(hi:s.h.get 0=dl (.cells [a,b,c,d] (dl 188)))(ha:a= .eZ u.fr 0)(hb:b= .sl j 0 n 1)(hn:n=u.l.length)(hc:ak c (pB u.bad))(hd:ak d (pI u.br))
  (hj:s.h.get j=dl (.bt u.l 5)) (hlj:Tv j s.nx=is) (hne:Tw 0 j=jp) (hns:UW 2 s.nx=is)
  (hrl:ak r0 r) (hlow:r.low 0=is) (hlow3:r.low 3=is):B0 mz l 2 r u.H 3 e s:=by
 subst ha;subst hb;subst hn;refine aC [j] he hr ⟨rfl,SY hns,fun x y=>?_,⟨?_,hlow3,ac⟩,⟨⟨_,hi,.cells ⟨.refl _,.refl _,hc,hd,ac⟩⟩,SY I,rfl,⟨.bt u.l 5,hj,.of_eq I⟩,SY I,ac,ac⟩,?_⟩
 .simp only[Tk]at y;subst y;exact SY hlj
 .rw[PV.jw _ _ hlow];exact hrl
 .have:(0:Nat)≠j:=fun e=>by subst e;simp at hne
  show([0,j]:List Nat).Nodup;simpa using this
theorem iH{l:List ResultVar}{r r0 a b c d:PV}{e:Exit}{u:WS}{j n:Nat}(he:e= .normal∨e= .ret:=by first|exact .inr I|exact .inl I)(hr:jv mz s l=dl r0:=by exact rfl)(hi:s.h.get 0=dl (.cells [a,b,c,d] (dl 188)):=by exact rfl)(ha:a= .eZ u.fr 0:=by exact rfl)(hb:b= .sl j 0 n 1:=by exact rfl)(hn:n=u.l.length:=by exact rfl)(hc:ak c (pB u.bad):=by first|exact .refl _|exact .kb _)(hd:ak d (pI u.br):=by first|exact .refl _|exact .kb _)(hj:s.h.get j=dl (.bt u.l 5):=by exact rfl)(hlj:Tv j s.nx=is:=by exact rfl)(hne:Tw 0 j=jp:=by exact rfl)(hns:UW 2 s.nx=is:=by exact rfl)(hrl:ak r0 r:=by exact .refl _)(hlow:r.low 0=is:=by exact rfl)(hlow3:r.low 3=is:=by exact rfl):B0 mz l 2 r u.H 3 e s:=xh (he:=he) (hr:=hr) (hi:=hi) (ha:=ha) (hb:=hb) (hn:=hn) (hc:=hc) (hd:=hd) (hj:=hj) (hlj:=hlj) (hne:=hne) (hns:=hns) (hrl:=hrl) (hlow:=hlow) (hlow3:=hlow3)
theorem HH{n0 j m:Nat}{C:AF}{w A:WS}{a b c d:PV}(hw:w=A)(hi:s.h.get 0=dl (.cells [a,b,c,d] (dl 188)))(ha:a= .eZ w.fr 0)(hb:b= .sl j 0 m 1)(hm:m=w.l.length)(hc:ak c (pB w.bad))(hd:ak d (pI w.br))(hj:s.h.get j=dl (.bt w.l 5))
  (hlj:Tv j s.nx=is) (hne:Tw 0 j=jp) (h0:Tv 0 n0=is) (hns:UW n0 s.nx=is) (hf:EI (n0+1) (sg n0 [j]) s.f C):Wk n0 [j] s ⟨C,[(0,dl (A.px 0 n0)),(n0,dl (.bt A.l 5))],n0+1⟩:=by
 subst hw;subst ha;subst hb;subst hm;have u:0<n0:=SY h0;have s0:sg n0 [j] 0=0:=fW u;have D:Tv n0 n0=jp:=Vs.2 fun e=>absurd (SY e) (by omega);have F:Tv 0 (n0+1)=is:=T6 (by omega);have G:Tv n0 (n0+1)=is:=T6 (by omega);have y:sg n0 [j] n0=j:=by simp[sg,D]
 refine⟨rfl,SY hns,fun x B=>?_,hf,⟨⟨_,by rw[s0];exact hi,?_⟩,UC u,?_,⟨.bt w.l 5,by rw[y];exact hj,.of_eq I⟩,Ut _,ac,ac⟩,?_⟩
 .simp only[Tk]at B;subst B;exact SY hlj
 .simp only[AO.b3,di,PV.b3,s0,y];exact .cells ⟨.refl _,.refl _,hc,hd,ac⟩
 .simp[AO.low,bA,PV.low,F,G]
 .have:(0:Nat)≠j:=fun e=>by subst e;simp at hne
  simp only[eY,s0,y];simpa using this
theorem pF{n0 j m:Nat}{x:AF}{w u:WS}{a b c d:PV}(hw:w=u)(hi:s.h.get 0=dl (.cells [a,b,c,d] (dl 188)):=by exact rfl)(ha:a= .eZ w.fr 0:=by exact rfl)(hb:b= .sl j 0 m 1:=by exact rfl)(hm:m=w.l.length:=by exact rfl)(hc:ak c (pB w.bad):=by first|exact .refl _|exact .kb _)(hd:ak d (pI w.br):=by first|exact .refl _|exact .kb _)(hj:s.h.get j=dl (.bt w.l 5):=by exact rfl)(hlj:Tv j s.nx=is:=by exact rfl)(hne:Tw 0 j=jp:=by exact rfl)(h0:Tv 0 n0=is:=by exact rfl)(hns:UW n0 s.nx=is:=by exact rfl)(hf:EI (n0+1) (sg n0 [j]) s.f x:=by repeat' (first|exact ac|exact ak.refl _|exact rfl|apply S3)):Wk n0 [j] s ⟨x,[(0,dl (u.px 0 n0)),(n0,dl (.bt u.l 5))],n0+1⟩:=HH (hw:=hw) (hi:=hi) (ha:=ha) (hb:=hb) (hm:=hm) (hc:=hc) (hd:=hd) (hj:=hj) (hlj:=hlj) (hne:=hne) (h0:=h0) (hns:=hns) (hf:=hf)
end
end
def zx(w:WS)(s:ae):WS:=⟨jp,w.l++s.data.toList,w.bad,w.br⟩
theorem d183(w:WS)(s:ae)(hb:w.l.length+s.size<=140737488355328):bB prog 146 [.ptr 0 0,pS s] w.O (.aZ [pI s.size,.iv (.v .nilIface)]) (zx w s).H 3:=by
 refine an ab func146 I (by decide) ntmps146 I (by simp) ?_;refine gA I (zq [0,1] (d204 w) ?_);refine gA I ?_;refine Ki ab I I I I I I I I I I I I I I I I hb ?_;refine gA I iH
def aU(w:WS)(b:Bool):WS:=⟨w.fr,w.l,w.bad||!b,w.br⟩
theorem J4(w:WS){b:Bool}(h:(!b)=jp):aU w b=w:=by cases w;simp_all [aU]
theorem J5(w:WS){b:Bool}(h:(!b)=is):aU w b=⟨w.fr,w.l,is,w.br⟩:=by cases w;simp_all [aU]
theorem d146(w:WS)(b:Bool):bB prog 144 [.ptr 0 0,pB b] w.O (.aZ []) (aU w b).H 3:=by
 refine an ab func144 I (by decide) ntmps144 I (by simp) ?_;refine zJ I I (fun h=>?_) fun h=>?_
 .rw[J5 w h];refine gA I iH
 .rw[J4 w h];refine gA I iH
def aS(w:WS)(d:List ae):WS:=d.foldl zx w
def eA(d:List ae):Nat:=(d.map Wv).sum
theorem FV(w:WS)(s:ae):(zx w s).l.length=w.l.length+s.size:=by simp[zx]
theorem gn: ∀(d:List ae) (w:WS),(aS w d).l.length=w.l.length+eA d
 | [],w=>by simp[aS,eA]
 |s::r,w=>by
  have:=gn r (zx w s);simp only[aS,TM]at this ⊢;rw[this,FV];simp[eA];omega
theorem tY: ∀(d:List ae) (i:Nat),i<d.length->eA (d.take i)+(d.getD i co).size<=eA d
 | [],i,h=>by simp at h
 |s::r,0,_=>by simp[eA]
 |s::r,i+1,h=>by
  have:=tY r i (by simpa using h);simp[eA]at this ⊢;omega
theorem d147(w:WS)(d:List ae)(A:d.length<=1000)(hb:w.l.length+eA d<=140737488355328):bB prog 98 [.ptr 0 0,.sl 2 0 d.length 1] [w.c,.bt w.l 5,aY 1 d cA] (.aZ []) [(0,dl ((aS w d).px 0 3)),(3,dl (.bt (aS w d).l 5))] 4:=by
 refine an ab func98 I (by decide) ntmps98 I (by simp) ?_;refine gA I ?_;refine ft 2 (fun k=>cA (d.getD k co)) I (dB I) (by simp[AF.iR,PV.bg,kP]) ⟨(by simp[AO.iR,bf,PV.bg]),ac,db _ _ _ _ _ _,ac⟩ ?_;refine aJ 0 d.length (Te _) (fun i=>⟨[(0,.ptr 0 0),(6,.iv (strs d)),(7,pI d.length),(8,pI i)],[(0,dl ((aS w (d.take i)).px 0 3)),(3,dl (.bt (aS w (d.take i)).l 5))],4⟩) (fun _=>True) [1] ac
  (zM (bi ⟨.bW I (fun k _=>by rw[Tp]),rfl,bi (bi trivial)⟩) ⟨⟨_,rfl,.of_eq I⟩,SY I,rfl,⟨_,rfl,.of_eq I⟩,SY I,ac,ac⟩) fun i y _=>?_
 refine zJ I I (fun j=>?_) fun j=>?_
 .have j:i<d.length:=zN j;have u:aS w (d.take (i+1))=zx (aS w (d.take i)) (d.getD i co):=iB (g:=zx) (b:=w) j;have x:=gn (d.take i) w;have B:=tY d i j;refine gA I (hZ (d183 (aS w (d.take i)) (d.getD i co) (by omega)) ?_);refine gA I ⟨j,ac,[4],zW ⟨⟨_,rfl,.of_eq (by rw[u];rfl)⟩,SY I,rfl,⟨_,rfl,.of_eq (by rw[u];rfl)⟩,SY I,ac,ac⟩⟩
 .have j:d.length<=i:=zG j;rw[Tf j];refine gA I (zD [3] I (zW ⟨⟨_,rfl,.of_eq I⟩,SY I,rfl,⟨_,rfl,.of_eq I⟩,SY I,ac,ac⟩))
end Go.Proofs.YtbhphmfbligliaaGreatDoor
namespace Go.Proofs
open Go.Shelf
def Tryz.yp:Go.Shelf.Ren:=⟨fun|171=>250|243=>298|246=>330|283=>337|284=>338|285=>339|286=>340|129=>281|317=>343|318=>344|319=>345|320=>346|337=>348|338=>349|n=>n,fun|3=>3|9=>9|2=>2|4=>4|171=>414|0=>0|53=>116|37=>33|5=>5|173=>416|212=>420|51=>50|20=>20|213=>421|46=>108|232=>423|233=>424|n=>n,fun|17=>0|18=>1|19=>2|n=>n⟩
theorem Tryz.Gm:Go.Proofs.LaysM.n171 Tryz.prog Tryz.yp:={
 mixed:=by kernel_rfl
 f129:=Tryz.func281.trans (congrArg dl (by kernel_rfl))
 f171:=Tryz.func250.trans (congrArg dl (by kernel_rfl))
 f243:=Tryz.func298.trans (congrArg dl (by kernel_rfl))
 f246:=Tryz.func330.trans (congrArg dl (by kernel_rfl))
 f283:=Tryz.func337.trans (congrArg dl (by kernel_rfl))
 f284:=Tryz.func338.trans (congrArg dl (by kernel_rfl))
 f285:=Tryz.func339.trans (congrArg dl (by kernel_rfl))
 f286:=Tryz.func340.trans (congrArg dl (by kernel_rfl))
 f317:=Tryz.func343.trans (congrArg dl (by kernel_rfl))
 f318:=Tryz.func344.trans (congrArg dl (by kernel_rfl))
 f319:=Tryz.func345.trans (congrArg dl (by kernel_rfl))
 f320:=Tryz.func346.trans (congrArg dl (by kernel_rfl))
 f337:=Tryz.func348.trans (congrArg dl (by kernel_rfl))
 f338:=Tryz.func349.trans (congrArg dl (by kernel_rfl))
 t0:=Tryz.underlying0
 a0:=Tryz.isAgg0
 z0:=Tryz.sizeOf0
 v0:=Tryz.zeroValue0
 t2:=Tryz.underlying2
 a2:=Tryz.isAgg2
 z2:=Tryz.sizeOf2
 v2:=Tryz.zeroValue2
 t3:=Tryz.underlying3
 a3:=Tryz.isAgg3
 z3:=Tryz.sizeOf3
 v3:=Tryz.zeroValue3
 t4:=Tryz.underlying4
 a4:=Tryz.isAgg4
 z4:=Tryz.sizeOf4
 v4:=Tryz.zeroValue4
 t5:=Tryz.underlying5
 a5:=Tryz.isAgg5
 z5:=Tryz.sizeOf5
 v5:=Tryz.zeroValue5
 t9:=Tryz.underlying9
 a9:=Tryz.isAgg9
 z9:=Tryz.sizeOf9
 v9:=Tryz.zeroValue9
 t20:=Tryz.underlying20
 a20:=Tryz.isAgg20
 z20:=Tryz.sizeOf20
 v20:=Tryz.zeroValue20
 t37:=Tryz.underlying33
 a37:=Tryz.isAgg33
 z37:=Tryz.sizeOf33
 v37:=Tryz.zeroValue33
 t46:=Tryz.underlying108
 a46:=Tryz.isAgg108
 z46:=Tryz.sizeOf108
 v46:=Tryz.zeroValue108
 t51:=Tryz.underlying50
 a51:=Tryz.isAgg50
 z51:=Tryz.sizeOf50
 v51:=Tryz.zeroValue50
 t53:=Tryz.underlying116
 a53:=Tryz.isAgg116
 z53:=Tryz.sizeOf116
 v53:=Tryz.zeroValue116
 t171:=Tryz.underlying414
 a171:=Tryz.isAgg414
 z171:=Tryz.sizeOf414
 v171:=Tryz.zeroValue414
 t173:=Tryz.underlying416
 a173:=Tryz.isAgg416
 z173:=Tryz.sizeOf416
 v173:=Tryz.zeroValue416
 t212:=Tryz.underlying420
 a212:=Tryz.isAgg420
 z212:=Tryz.sizeOf420
 v212:=Tryz.zeroValue420
 t213:=Tryz.underlying421
 a213:=Tryz.isAgg421
 z213:=Tryz.sizeOf421
 t232:=Tryz.underlying423
 a232:=Tryz.isAgg423
 z232:=Tryz.sizeOf423
 v232:=Tryz.zeroValue423
 t233:=Tryz.underlying424
 a233:=Tryz.isAgg424
 z233:=Tryz.sizeOf424
 v233:=Tryz.zeroValue424
 g17:=by kernel_rfl
 g18:=by kernel_rfl
 g19:=by kernel_rfl
 i0:=by kernel_rfl
 i2:=by kernel_rfl
 i3:=by kernel_rfl
 i4:=by kernel_rfl
 i5:=by kernel_rfl
 i9:=by kernel_rfl
 i20:=by kernel_rfl
 i37:=by kernel_rfl
 i46:=by kernel_rfl
 i51:=by kernel_rfl
 i53:=by kernel_rfl
 i171:=by kernel_rfl
 i173:=by kernel_rfl
 i212:=by kernel_rfl
 i232:=by kernel_rfl
 i233:=by kernel_rfl
 m17:=by kernel_rfl
 m18:=by kernel_rfl
 m19:=by kernel_rfl}
theorem YtbhphmfbligliaaGreatDoor.QZ (n:Int) (h0: -9223372036854775808<=n) (h1:n<=9223372036854775807) (w:World) (d:Lib.TabIs Tryz.prog w "internal/strconv.uint64pow10" .u64 Lib.pow10Tab):
  Calls Tryz.prog 250 #[.int .i64 n] w fun e j=>e= .returned (.string ⟨(Lib.itoa n).toArray⟩)∧ ∃k os,j=Go.Sort.grow (w.drewN k) os:=Any.strconv_Itoa Tryz.Gm n h0 h1 w d
end Go.Proofs
namespace Go.Proofs.YtbhphmfbligliaaGreatDoor
open Go Go.Al Go.Proofs.Tryz
theorem Sd:prog.globalNamed "internal/strconv.uint64pow10" =dl 0:=by kernel_rfl
theorem pow_eq:o5=Lib.pow10Tab:=by decide
theorem RV{M:Mem}{N:Nm}{U:Nat->Prop}{h:AH}{w:World}(hr:Rel M N U h w):Lib.TabIs prog w "internal/strconv.uint64pow10" .u64 Lib.pow10Tab:=by
 obtain⟨T,j,d⟩:=hr.ej 0 _ (M.Kq 0 _ I);show World.var? _ _ _=_;simp only[World.var?,Sd,Wd,d,pow_eq]
theorem Sw(n:Int)(h0: -9223372036854775808<=n)(h1:n<=9223372036854775807):Pure prog 250 [pI n] (pS ⟨(Lib.itoa n).toArray⟩):=by
 refine⟨bP func250 I (by decide),fun M N w vs x u D=>?_⟩;obtain⟨v,rfl⟩: ∃v,vs=[v]:=by
  cases vs with
  |nil=>cases u
  |cons v r=>cases r with
   |nil=>exact⟨v,rfl⟩
   |cons a b=>simp at u
 have y:VR M N (· <0) (pI n) v:=D 0 _ I;have A:v= .int .i64 n:=by
  cases y with
  |iv _ _ h=>cases h;rfl
 subst A;refine(QZ n h0 h1 w (RV x)).mono ?_;rintro e F ⟨rfl,k,os,rfl⟩;have B: ∀b,b<w.heap.size->(Go.Sort.grow (w.drewN k) os).heap[b]? =w.heap[b]? :=fun b hb=>by
  show(w.heap++os)[b]? =_;rw[TG hb]
 refine⟨_,M,N,pS ⟨(Lib.itoa n).toArray⟩,[],0,rfl,⟨rfl,rfl,rfl⟩,⟨rfl,rfl,⟨rfl,We _ _⟩,?_,fun b hb _=>B b hb,.refl _,fun b c h1 C=>(nomatch (h1.symm.trans C)),.refl _ _,fun _ h=>h,fun i o d=>(nomatch d)⟩,⟨fun b c hb=>?_,fun i o d=>(nomatch d),fun i o d=>(nomatch d),fun i o d=>(nomatch d),fun i j o p d=>(nomatch d)⟩,.iv _ _ (.v _)⟩
 .show w.heap.size<=(w.heap++os).size;simp
 .exact(x.ej b c hb).mono (B b (x.ej b c hb).lt)
def Sc:ae:=⟨#[48,49,50,51,52,53,54,55,56,57,65,66,67,68,69,70]⟩
def Ph(c:UInt8):Int:=(c.toNat:Int).fdiv (2 ^ min (Vf 4) IntKind.u8.bits)
def Pg(c:UInt8):Int:=IntKind.u8.wrap ((BitVec.ofInt IntKind.u8.bits (c.toNat:Int)&&&BitVec.ofInt IntKind.u8.bits 15).toNat:Int)
theorem OH(c:UInt8):0<=Ph c∧Ph c<16:=by
 have h:c.toNat<256:=c.toNat_lt;have e:Ph c=(c.toNat:Int)/16:=by
  unfold Ph;have:(2:Int) ^ min (Vf 4) IntKind.u8.bits=16:=by decide
  rw[this];exact Uu _ (by decide)
 rw[e];omega
theorem OC: ∀c:UInt8,0<=Pg c∧Pg c<16:=by
 intro c;have h: ∀n:Fin 256,0<=Pg (UInt8.ofNat n.val)∧Pg (UInt8.ofNat n.val)<16:=by decide
 have:=h ⟨c.toNat,c.toNat_lt⟩;simpa using this
def Q5(n:Int):UInt8:=Sc.data.toList.getD n.toNat 0
def qB(c:UInt8):List UInt8:=if c.toNat=34∨c.toNat=92 then[92,c] else if c.toNat=10 then[92,110] else if c.toNat<32∨126<c.toNat then[92,120,Q5 (Ph c),Q5 (Pg c)] else[c]
theorem Ol(c:UInt8):(qB c).length<=4:=by
 unfold qB
 repeat' split
 all_goals simp
def rm(s:ae)(i:Nat):List UInt8:=34::(s.data.toList.take i).flatMap qB
def rh(s:ae):ae:=⟨(34::s.data.toList.flatMap qB++ [34]).toArray⟩
theorem uu(s:ae): ∀i,(rm s i).length<=1+4*i
 |0=>by simp[rm]
 |i+1=>by
  have h:=uu s i;rcases TZ i s.data.toList.length with hi|hi
  .have:=Ol (s.data.toList.getD i co);simp only[rm,Tr]at h ⊢;rw[bq hi,S1];omega
  .simp only[rm,Tf hi]at h;simp only[rm,Tf (by omega:s.data.toList.length<=i+1)];omega
theorem D3{s:ae}{i:Nat}(h:i<s.data.toList.length):rm s (i+1)=rm s i++qB (s.data.toList.getD i co):=by
 simp only[rm,bq h,Tu]
theorem Sv(s:ae)(hs:s.size<=1000):Pure prog 314 [pS s] (pS (rh s)):=by
 have Y:s.data.toList.length=s.size:=by simp
 refine ai ab func314 I (by decide) ntmps314 I (by simp) I ?_;refine gA I ?_;refine w5 ab I I I I I I I I I I I (by omega) ?_;refine gA I ?_;refine aJ 0 s.data.toList.length (Te _) (fun i=>⟨[(3,.sl 1 0 (rm s i).length 1),(8,.iv (.bW 1 s.data.toList.length fun k=>bD (s.data.toList.getD k co))),(9,pI s.data.toList.length),(10,pI i)],[(1,dl (aY 1 (rm s i) bD))],2⟩) (fun _=>True) [0] ac
  (zW (zS trivial)) fun i J _=>?_
 have Z:=uu s i;refine zE I I (fun y=>?_) fun y=>?_
 .have y:s.data.toList.length<=i:=zG y;refine gA I ?_;refine Kp ab (rm s i++ [34]) I I I I I I I I I I I I (by rw[Tc];rfl) (by rw[S1];rfl) ?_;refine gA I (zL (.of_eq ?_));simp only[rm,rh,Tf y];rfl
 have y:i<s.data.toList.length:=zN y;have d:=D3 y;have j:s.data.toList.getD (i:Int).toNat co=s.data.toList.getD i co:=rfl;generalize G:s.data.toList.getD i co=c at d j;refine zJ I I (fun B=>?_) fun B=>?_
 .have B:c.toNat=34:=by have:=zT B;rw[j]at this;omega
  rw[qB,am (.inl B)]at d;refine gA I ⟨y,ac,[3],zM ⟨.row (by rw[d,S1];rfl),rfl,bi (bi (bi ac))⟩ (hR I (by rw[d,Tc,<-G];rfl) I ac)⟩
 have B: ¬c.toNat=34:=by have:=zF B;rw[j]at this;omega
 refine zJ I I (fun C=>?_) fun C=>?_
 .have C:c.toNat=92:=by have:=zT C;rw[j]at this;omega
  rw[qB,am (.inr C)]at d;refine gA I ⟨y,ac,[3],zM ⟨.row (by rw[d,S1];rfl),rfl,bi (bi (bi ac))⟩ (hR I (by rw[d,Tc,<-G];rfl) I ac)⟩
 have C: ¬c.toNat=92:=by have:=zF C;rw[j]at this;omega
 rw[qB,be (by omega)]at d;refine zJ I I (fun A=>?_) fun A=>?_
 .have A:c.toNat=10:=by have:=zT A;rw[j]at this;omega
  rw[am A]at d;refine gA I ⟨y,ac,[3],zM ⟨.row (by rw[d,S1];rfl),rfl,bi (bi (bi ac))⟩ (hR I (by rw[d,Tc];rfl) I ac)⟩
 have A: ¬c.toNat=10:=by have:=zF A;rw[j]at this;omega
 rw[be A]at d;have u:=OH c;have x:=OC c;rw[<-G]at u x;simp only[Ph,Pg]at u x;refine zJ I I (fun D=>?_) fun D=>?_
 .have D:c.toNat<32:=by have:=zT D;rw[j]at this;omega
  rw[am (.inl D)]at d;refine ik I (by(repeat' (first|exact ac|exact rfl|exact ak.refl _|exact u|exact x|apply S3))<;>first|omega|exact u.1|exact u.2|exact x.1|exact x.2|simp) ?_;exact⟨y,ac,[3],zM ⟨.row (by rw[d,S1];rfl),rfl,bi (bi (bi ac))⟩ (hR I (by rw[d,Tc,<-G];rfl) I ac)⟩
 have D: ¬c.toNat<32:=by have:=zF D;rw[j]at this;omega
 refine zJ I I (fun F=>?_) fun F=>?_
 .have F:126<c.toNat:=by have:=zT F;rw[j]at this;omega
  rw[am (.inr F)]at d;refine ik I (by(repeat' (first|exact ac|exact rfl|exact ak.refl _|exact u|exact x|apply S3))<;>first|omega|exact u.1|exact u.2|exact x.1|exact x.2|simp) ?_;exact⟨y,ac,[3],zM ⟨.row (by rw[d,S1];rfl),rfl,bi (bi (bi ac))⟩ (hR I (by rw[d,Tc,<-G];rfl) I ac)⟩
 have F: ¬126<c.toNat:=by have:=zF F;rw[j]at this;omega
 rw[be (by omega)]at d;refine gA I ⟨y,ac,[3],zM ⟨.row (by rw[d,S1];rfl),rfl,bi (bi (bi ac))⟩ (hR I (by rw[d,Tc,<-G];rfl) I ac)⟩
def wh(v:eK):ae:=if v.kind=1 then⟨(Lib.itoa v.num).toArray⟩ else if fY v.sym then v.sym else rh v.sym
theorem tL{v:eK}(h:b7 v=0)(h1:v.kind=1): -2147483647<=v.num∧v.num<=2147483647:=by
 unfold b7 at h;rw[am h1]at h;split at h
 .rename_i d;exact d.2
 .cases h
theorem tK{v:eK}(h:b7 v=0)(h1: ¬v.kind=1):v.sym.size<=64:=by
 unfold b7 at h;rw[be h1]at h;split at h
 .split at h
  .rename_i d;exact d.2
  .cases h
 .cases h
theorem Sx(v:eK)(u:b7 v=0):Pure prog 283 [ag v.c] (pS (wh v)):=by
 refine ai ab func283 I (by decide) ntmps283 I (by simp) I ?_;refine zJ I I (fun d=>?_) fun d=>?_
 .have d:v.kind=1:=by simpa using d
  have:=tL u d;refine gA I (zp (Sw v.num (by omega) (by omega)) ?_);refine gA I (zL (.of_eq ?_));rw[wh,am d];rfl
 have d: ¬v.kind=1:=by simpa using d
 have x:=tK u d;refine gA I (zp (Rs v.sym) ?_);refine zJ I I (fun j=>?_) fun j=>?_
 .have j:fY v.sym=is:=j;refine gA I (zL (.of_eq ?_));rw[wh,be d,am j];rfl
 .have j:fY v.sym=jp:=j;refine gA I (zp (Sv v.sym (by omega)) ?_);refine gA I (zL (.of_eq ?_));rw[wh,be d,be (by rw[j];simp)];rfl
def rW(v:eK):ae:=if b7 v=0 then wh v else⟨#[]⟩
theorem SA(v:eK):Pure prog 234 [ag v.c] (.aZ [pS (rW v),pI (b7 v)]):=by
 refine ai ab func234 I (by decide) ntmps234 I (by simp) I ?_;refine gA I (zp (Rt v) ?_);refine zJ I I (fun d=>?_) fun d=>?_
 .have d: ¬b7 v=0:=by simpa using d
  refine gA I (zL (.of_eq ?_));rw[rW,be d];rfl
 .have d:b7 v=0:=by simpa using d
  refine gA I (zp (Sx v d) ?_);refine gA I (zL (.of_eq ?_));rw[rW,am d,d];rfl
def mF(w:WS)(v:eK):WS:=aS (aU w (kw (b7 v=0))) [rW v]
theorem d149(w:WS)(v:eK)(hb:w.l.length<=1000000000000)(d:(rW v).size<=1000):bB prog 184 [.ptr 0 0,ag v.c] w.O (.aZ []) (mF w v).H 3:=by
 refine an ab func184 I (by decide) ntmps184 I (by simp) ?_;refine gA I (zp (SA v) ?_);refine gA I (BI (d146 ⟨_,_,_,_⟩ (kw (b7 v=0))) I I I I I I I I I I I I ?_);refine gA I (go_wp (d147 ⟨_,_,_,_⟩ [rW v] (by simp) (by simp[eA,aU];omega)) I I I I I I I I I I I I ?_);refine gA I iH
def cG(op:Int):Int:=if op=1∨op=2 then 1 else if op=3∨op=4∨op=5 then 2 else if op=6 then 3 else 0
theorem KG(op:Int):Pure prog 285 [pI op] (pI (cG op)):=by
 refine ai ab func285 I (by decide) ntmps285 I (by simp) I ?_
 repeat' (first|(refine gA I (zI (fun _=>?_) (fun _=>?_)))|(refine gA I (zL (.of_eq ?_))))
 all_goals(refine(EN ?_:pI _=pI _);simp only[VC,V3,decide_eq_true_eq,decide_eq_false_iff_not] at*;simp_all [cG])
def dY(e:Expr):Int:=if e.kind=4 then cG e.op else 4
theorem EC(e:Expr):Pure prog 316 [ag e.c] (pI (dY e)):=by
 refine ai ab func316 I (by decide) ntmps316 I (by simp) I ?_
 repeat' (first|(refine gA I (zI (fun _=>?_) (fun _=>?_)))|(refine gA I (zp (KG e.op) ?_))|(refine gA I (zL (.of_eq ?_))))
 all_goals(refine(EN ?_:pI _=pI _);simp_all [dY])
def ef(v:eK):Bool:=kw (v.kind=0)&&(kw (v.num=0)&&(kw (v.sym=Ta)&&is))
def jz(e:Expr):Bool:=kw (e.kind=0)&&(kw (e.var=⟨#[]⟩)&&(ef e.val&&(kw (e.op=0)&&kw ((e.args.length:Int)=0))))
theorem KH(e:Expr):Pure prog 284 [ag e.c] (pB (jz e)):=by
 refine ai ab func284 I (by decide) ntmps284 I (by simp) I ?_
 repeat' (first|(refine gA I (zI (fun _=>?_) (fun _=>?_)))|(refine gA I (zL (.of_eq ?_))))
 all_goals(refine(mN ?_:pB _=pB _))
 all_goals(simp only[jz,ef, *];rfl)
def kM(l:Lit):Bool:=
 (kw (l.kind=1)||decide (l.kind=2)||!(!kw (l.atom.rel=⟨#[]⟩)||decide ((l.atom.aj.length:Int)>0)))&&
 ((!(!kw (l.kind=3))||!(!kw (l.op=0)||(!jz l.left||!jz l.right)))&&
 (kw (l.kind=4)||(kw (l.dP=0)&&(kw (l.bH=⟨#[]⟩)&&(jz l.j7&&kw ((l.ay.length:Int)=0))))))
set_option maxHeartbeats 4000000 in
theorem Sz(l:Lit):Pure prog 235 [ag l.c] (pB (kM l)):=by
 refine ai ab func235 I (by decide) ntmps235 I (by simp) I ?_
 repeat' (first|(refine gA I (zI (fun _=>?_) (fun _=>?_)))|(refine gA I (zp (KH l.left) ?_))|(refine gA I (zp (KH l.right) ?_))|(refine gA I (zp (KH l.j7) ?_))|(refine gA I (zL (.of_eq ?_))))
 all_goals(refine(mN ?_:pB _=pB _))
 all_goals(try simp only[VC,V3] at*)
 all_goals(simp_all [kM])
def mr(op:Int):ae:=if op=1 then⟨#[43]⟩ else if op=2 then⟨#[45]⟩ else if op=3 then⟨#[42]⟩ else if op=4 then⟨#[47]⟩ else⟨#[109,111,100]⟩
def sgL:ae:=⟨#[43,45,42,47]⟩
theorem Su(op:Int):Pure prog 317 [pI op] (pS (mr op)):=by
 refine ai ab func317 I (by decide) ntmps317 I (by simp) I ?_;refine gA I ?_;refine w4 ab I I I I I I I ?_;refine gA I ?_;refine aJ 0 4 (by decide) (fun i=>⟨[(0,pI op),(5,.ptr 0 0)],[(0,dl (.dM sgL i))],1⟩) (fun i=> ∀k:Nat,k<i-> ¬(k:Int)+1=op) [] (by simp)
  (zW ⟨⟨_,rfl,.of_eq I⟩,SY I,ac,ac⟩) fun i D d=>?_
 have u:i=0∨i=1∨i=2∨i=3∨i=4:=by omega
 rcases u with rfl|rfl|rfl|rfl|rfl
 .refine gA I ?_;refine lv I I I I I I (fun h=>absurd h (by decide)) (fun _=>?_);refine zJ I I (fun h=>?_) fun h=>?_
  .have h:op=1:=by have:=zT h;omega
   refine gA I ?_;refine ti ab I I I I I I I I I ?_;refine gA I (zL (.of_eq ?_));refine(congrArg pS ?_:pS _=pS _);subst h;decide
  .have h: ¬op=1:=by have:=zF h;omega
   refine gA I ⟨by decide,fun k x=>(by rcases(by omega:k<0∨k=0) with j|rfl;exact d k j;omega),[],zW ⟨⟨_,rfl,.of_eq I⟩,SY I,ac,ac⟩⟩
 .refine gA I ?_;refine lv I I I I I I (fun h=>absurd h (by decide)) (fun _=>?_);refine zJ I I (fun h=>?_) fun h=>?_
  .have h:op=2:=by have:=zT h;omega
   refine gA I ?_;refine ti ab I I I I I I I I I ?_;refine gA I (zL (.of_eq ?_));refine(congrArg pS ?_:pS _=pS _);subst h;decide
  .have h: ¬op=2:=by have:=zF h;omega
   refine gA I ⟨by decide,fun k x=>(by rcases(by omega:k<1∨k=1) with j|rfl;exact d k j;omega),[],zW ⟨⟨_,rfl,.of_eq I⟩,SY I,ac,ac⟩⟩
 .refine gA I ?_;refine lv I I I I I I (fun h=>absurd h (by decide)) (fun _=>?_);refine zJ I I (fun h=>?_) fun h=>?_
  .have h:op=3:=by have:=zT h;omega
   refine gA I ?_;refine ti ab I I I I I I I I I ?_;refine gA I (zL (.of_eq ?_));refine(congrArg pS ?_:pS _=pS _);subst h;decide
  .have h: ¬op=3:=by have:=zF h;omega
   refine gA I ⟨by decide,fun k x=>(by rcases(by omega:k<2∨k=2) with j|rfl;exact d k j;omega),[],zW ⟨⟨_,rfl,.of_eq I⟩,SY I,ac,ac⟩⟩
 .refine gA I ?_;refine lv I I I I I I (fun h=>absurd h (by decide)) (fun _=>?_);refine zJ I I (fun h=>?_) fun h=>?_
  .have h:op=4:=by have:=zT h;omega
   refine gA I ?_;refine ti ab I I I I I I I I I ?_;refine gA I (zL (.of_eq ?_));refine(congrArg pS ?_:pS _=pS _);subst h;decide
  .have h: ¬op=4:=by have:=zF h;omega
   refine gA I ⟨by decide,fun k x=>(by rcases(by omega:k<3∨k=3) with j|rfl;exact d k j;omega),[],zW ⟨⟨_,rfl,.of_eq I⟩,SY I,ac,ac⟩⟩
 .refine gA I ?_;refine lv I I I I I I (fun _=>?_) (fun h=>absurd h (by decide));refine gA I (zL (.of_eq ?_));have y:=d 0 (by decide);have A:=d 1 (by decide);have B:=d 2 (by decide);have C:=d 3 (by decide);rw[mr,be (by omega),be (by omega),be (by omega),be (by omega)];rfl
theorem Bl(s:ae):(rh s).size<=2+4*s.size:=by
 have h:=uu s s.data.toList.length;simp only[rm,TV,Tr]at h;have e:(rh s).size=(34::s.data.toList.flatMap qB++ [34]).length:=by simp[rh,Wv]
 have:s.data.toList.length=s.size:=by simp
 rw[e,S1,Tr,TU];omega
theorem qT(v:eK):(rW v).size<=300:=by
 unfold rW;split
 .rename_i j;unfold wh;split
  .rename_i d;have:=tL j d;have u:=Lib.itoa_length_le v.num (by omega) (by omega);have e:(⟨(Lib.itoa v.num).toArray⟩:ByteArray).size=(Lib.itoa v.num).length:=by simp[Wv]
   omega
  .rename_i d;have u:=tK j d;split
   .omega
   .have:=Bl v.sym;omega
 .decide
mutual
def Expr.ts:Expr->Nat
 | .mk _ v _ _ args=>v.size+400+Expr.ki args
def Expr.ki:List Expr->Nat
 | []=>0
 |e::r=>e.ts+Expr.ki r
end
theorem Expr.rV(e:Expr):e.ts=e.var.size+400+Expr.ki e.args:=by cases e;rfl
theorem Expr.xF: ∀(l:List Expr) (k:Nat),k<l.length->(l.getD k co).ts<=Expr.ki l
 |e::r,0,_=>by simp[Expr.ki]
 |e::r,k+1,h=>by
  have:=Expr.xF r k (by simpa using h);simp only[Um,Expr.ki];omega
 | [],k,h=>by simp at h
theorem Expr.Cd: ∀(l:List Expr),l.length=2->(l.getD 0 co).ts+(l.getD 1 co).ts<=Expr.ki l
 | [a,b],_=>by simp[Expr.ki]
 | [],h=>by simp at h
 | [a],h=>by simp at h
 |a::b::c::r,h=>by simp at h
def sM:ae:=⟨#[45]⟩
def sO:ae:=⟨#[40]⟩
def sC:ae:=⟨#[41]⟩
def Cp:ae:=⟨#[32]⟩
def mB(w:WS):WS:=⟨w.fr,w.l,is,w.br⟩
def ot(e:Expr):Bool:=fO e.var&&(ef e.val&&(kw (e.op=0)&&kw ((e.args.length:Int)=0)))
def qk(e:Expr):Bool:=kw (e.var=⟨#[]⟩)&&(kw (e.op=0)&&kw ((e.args.length:Int)=0))
def sU(e:Expr):Bool:=kw (e.var=⟨#[]⟩)&&(ef e.val&&kw (cG e.op>0))
def cm(e:Expr):Expr:=e.args.getD 0 co
def yK(e:Expr):Expr:=e.args.getD 1 co
def yh(e:Expr):Bool:=kw (e.kind=2)&&kw (e.val.kind=1)
def mu(a:Expr):Bool:=kw (dY a<3)||(yh a&&kw (a.val.num>0))
def jP(w:WS)(e:Expr)(k:WS):WS:=
 if w.bad=is then mB w else if e.kind=1 then aS (aU w (ot e)) [e.var] else if e.kind=2 then mF (aU w (qk e)) e.val else if e.kind=4 then k else mB w
def ld(a0:Bool->WS->Expr->WS)(w:WS)(e:Expr):WS:=
 if w.bad=is then mB w else if e.op=6 then
  (if e.args.length=1 then a0 (mu (cm e)) (if(yh (cm e)&&kw ((cm e).val.num=0))=is then aS (aS w [sM]) [sM] else aS w [sM]) (cm e) else mB w)
 else if e.args.length=2 then a0 (kw (dY (yK e)<=cG e.op)) (aS (a0 (kw (dY (cm e)<cG e.op)) w (cm e)) [Cp,mr e.op,Cp]) (yK e) else mB w
def c2:Nat->WS->Expr->WS
 |0,w,_=>mB w
 |1,w,e=>jP w e (mB (aU w (sU e)))
 |m+2,w,e=>jP w e (ld (fun d w a=>if d=is then aS (c2 m (aS w [sO]) a) [sC] else c2 (m+1) w a) (aU w (sU e)) e)
def vW(m:Nat)(d:Bool)(w:WS)(a:Expr):WS:=if d=is then aS (c2 m (aS w [sO]) a) [sC] else c2 (m+1) w a
theorem aO(w:WS)(b:Bool):(aU w b).l=w.l:=rfl
theorem fc(w:WS):(mB w).l=w.l:=rfl
theorem bp(s:ae):eA [s]=s.size:=by simp[eA]
theorem zf(op:Int):(mr op).size<=3:=by
 unfold mr
 repeat' split
 all_goals decide
theorem aH(w:WS)(s:ae):(aS w [s]).l.length=w.l.length+s.size:=by rw[gn,bp]
theorem tJ(w:WS)(v:eK):(mF w v).l.length<=w.l.length+300:=by
 have:=qT v;rw[mF,aH,aO];omega
theorem wW(w k:WS)(e:Expr)(h:k.l.length<=w.l.length+e.ts):(jP w e k).l.length<=w.l.length+e.ts:=by
 have:=e.rV;unfold jP
 repeat' split
 .rw[fc];omega
 .rw[aH,aO];omega
 .have:=tJ (aU w (qk e)) e.val;rw[aO]at this;omega
 .exact h
 .rw[fc];omega
theorem D6(a0:Bool->WS->Expr->WS)(d: ∀b w a,(a0 b w a).l.length<=w.l.length+(2+a.ts))(w:WS)(e:Expr):(ld a0 w e).l.length<=w.l.length+e.ts:=by
 have B:=e.rV;unfold ld;split
 .rw[fc];omega
 split
 .split
  .rename_i u;have y:=Expr.xF e.args 0 (by omega);have j:sM.size=1:=rfl;split
   .have:=d (mu (cm e)) (aS (aS w [sM]) [sM]) (cm e);rw[aH,aH]at this;simp only[cm]at this ⊢;omega
   .have:=d (mu (cm e)) (aS w [sM]) (cm e);rw[aH]at this;simp only[cm]at this ⊢;omega
  .rw[fc];omega
 .split
  .rename_i u;have y:=Expr.Cd e.args u;have x:=d (kw (dY (yK e)<=cG e.op)) (aS (a0 (kw (dY (cm e)<cG e.op)) w (cm e)) [Cp,mr e.op,Cp]) (yK e);have C:=d (kw (dY (cm e)<cG e.op)) w (cm e);have D:=zf e.op;have j:Cp.size=1:=rfl;rw[gn]at x;have A:eA [Cp,mr e.op,Cp]=1+((mr e.op).size+1):=by simp[eA,j]
   simp only[cm,yK] at*;omega
  .rw[fc];omega
theorem dw: ∀(n:Nat) (w:WS) (e:Expr),(c2 n w e).l.length<=w.l.length+e.ts
 |0,w,e=>by rw[c2,fc];omega
 |1,w,e=>by rw[c2];exact wW _ _ _ (by rw[fc,aO];omega)
 |m+2,w,e=>by
  rw[c2];refine wW _ _ _ ?_
  have:=D6 (fun d w a=>if d=is then aS (c2 m (aS w [sO]) a) [sC] else c2 (m+1) w a) (fun b w a=>by
   split
   .have j:=dw m (aS w [sO]) a;have u:sO.size=1:=rfl;have x:sC.size=1:=rfl;rw[aH]at j ⊢;omega
   .have:=dw (m+1) w a
    omega) (aU w (sU e)) e
  rwa[aO]at this
theorem Ho(m:Nat)(b:Bool)(w:WS)(a:Expr):(vW m b w a).l.length<=w.l.length+(2+a.ts):=by
 unfold vW;split
 .have d:=dw m (aS w [sO]) a;have j:sO.size=1:=rfl;have u:sC.size=1:=rfl;rw[aH]at d ⊢;omega
 .have:=dw (m+1) w a;omega
def PE(n:Nat):Prop:= ∀(d:Int) (w:WS) (e:Expr),d+1=n->w.l.length+e.ts<=1000000000->bB prog 236 [.ptr 0 0,ag e.c,pI d] w.O (.aZ []) (c2 n w e).H 3
theorem d225(n:Nat)(hn:n<=1000)(y:PE (n+1))(A:PE n)(j:Bool)(d:Int)(hd:d=n)(w:WS)(e:Expr)(hb:w.l.length+e.ts+2<=1000000000):bB prog 315 [.ptr 0 0,ag e.c,pB j,pI d] w.O (.aZ []) (vW n j w e).H 3:=by
 refine an ab func315 I (by decide) ntmps315 I (by simp) ?_;refine zJ I I (fun h=>?_) fun h=>?_
 .have h:j=jp:=by simpa using h
  rw[vW,be (by rw[h];simp)];refine gA I (hZ (y d w e (by omega) (by omega)) ?_);refine gA I iH
 .have h:j=is:=by simpa using h
  rw[vW,am h];have u:sO.size=1:=rfl;have x:sC.size=1:=rfl;have B:=dw n (aS w [sO]) e;have C:=aH w sO;refine gA I (i6 (d147 w [sO] (by simp) (by rw[bp,u];omega)) ?_);refine gA I (hZ (A (d-1) (aS w [sO]) e (by omega) (by omega)) ?_);refine gA I (i6 (d147 (c2 n (aS w [sO]) e) [sC] (by simp) (by rw[bp,x];omega)) ?_);refine gA I iH
theorem Rk(d:Int)(hd:d<0)(w:WS)(e:Expr):bB prog 286 [.ptr 0 0,ag e.c,pI d] w.O (.aZ []) (mB w).H 3:=by
 refine an ab func286 I (by decide) ntmps286 I (by simp) ?_
 repeat' (first
  |((rename_i h;exact absurd hd (zF h)))
  |(refine gA I (zI (fun _=>?_) (fun _=>?_)))
  |(refine gA I (xh (by first|exact .inr I|exact .inl I) I I I I I (by first|exact .refl _|exact .kb _) (by first|exact .refl _|exact .kb _) I I I I (.refl _) I I)))
set_option maxHeartbeats 2000000 in
theorem d213(m:Nat)(hm:m<=900)(J:PE (m+1))(Y:PE m)(d:Int)(hd:d=m)(w:WS)(e:Expr)(hb:w.l.length+e.ts<=1000000000):bB prog 286 [.ptr 0 0,ag e.c,pI d] w.O (.aZ []) (ld (vW m) w e).H 3:=by
 refine bB.le (aa:=[.ptr 0 0,ag e.c,pI d]) (args:=[.ptr 0 0,ag e.c1,pI d]) ?_ ⟨.refl _,e.CO,.refl _,ac⟩;have f0:=e.rV;have G:sM.size=1:=rfl;have y:m<=1000:=by omega
 refine an ab func286 I (by decide) ntmps286 I (by simp) ?_;refine zJ I I (fun Z=>?_) fun Z=>?_
 .have Z:e.op=6:=zT Z;refine zE I I (fun C=>?_) fun C=>?_
  .have C:w.bad=is:=C;rw[ld,am C];refine gA I iH
  have C: ¬w.bad=is:=by rw[show w.bad=jp from C];simp
  refine zE I I (fun D=>?_) fun D=>?_
  .have D: ¬e.args.length=1:=by simp at D;omega
   rw[ld,be C,am Z,be D];refine gA I iH
  have D:e.args.length=1:=by simp at D;omega
  have hg:(cm e).ts<=_:=Expr.xF e.args 0 (by omega);have u:ld (vW m) w e=vW m (mu (cm e)) (if(yh (cm e)&&kw ((cm e).val.num=0))=is then aS (aS w [sM]) [sM] else aS w [sM]) (cm e):=by rw[ld,be C,am Z,am D]
  have c0:e.args.getD 0 co=cm e:=rfl;refine zJ I I (fun h3=>?_) fun h3=>?_
  .exact absurd (zT h3) (by omega)
  refine zE I I (fun h7=>?_) fun h7=>?_
  .exact absurd (zF h7) (by simp)
  have A:=aH w sM;refine zJ I I (fun hk=>?_) fun hk=>?_
  .have b0:(cm e).kind=2:=zT hk;refine gA I (i6 (d147 w [sM] (by simp) (by rw[bp,G];omega)) ?_);refine zE I I (fun hv=>?_) fun hv=>?_
   .have F: ¬(cm e).val.kind=1:=zF hv;have B:yh (cm e)=jp:=by rw[yh,decide_eq_false F,U9]
    rw[B,US,be (by simp)]at u;refine gA I (B1 (EC (cm e)) ?_);refine zJ I I (fun x=>?_) fun x=>?_
    .have j:dY (cm e)<3:=zT x;rw[mu,decide_eq_true j,VZ]at u;rw[u];refine gA I (vS (d225 m y J Y is d hd (aS w [sM]) (cm e) (by rw[A,G];omega)) ?_);refine gA I iH
    .have j: ¬dY (cm e)<3:=zF x;refine zJ I I (fun hz=>?_) fun hz=>?_
     .exact absurd (zT hz) F
     rw[mu,decide_eq_false j,UX,B,US]at u;rw[u];refine gA I (vS (d225 m y J Y jp d hd (aS w [sM]) (cm e) (by rw[A,G];omega)) ?_);refine gA I iH
   .have F:(cm e).val.kind=1:=zT hv;have B:yh (cm e)=is:=by rw[yh,decide_eq_true F,decide_eq_true b0];rfl
    rw[B,U5]at u;refine zJ I I (fun h0=>?_) fun h0=>?_
    .have a0:(cm e).val.num=0:=zT h0;rw[am (decide_eq_true a0)]at u;refine gA I (i6 (d147 (aS w [sM]) [sM] (by simp) (by rw[bp,A,G];omega)) ?_);refine gA I (B1 (EC (cm e)) ?_);refine zJ I I (fun x=>?_) fun x=>?_
     .have j:dY (cm e)<3:=zT x;rw[mu,decide_eq_true j,VZ]at u;rw[u];refine gA I (vS (d225 m y J Y is d hd (aS (aS w [sM]) [sM]) (cm e) (by rw[aH,A,G];omega)) ?_);refine gA I iH
     .have j: ¬dY (cm e)<3:=zF x;refine zE I I (fun hz=>?_) fun hz=>?_
      .exact absurd F (zF hz)
      rw[mu,decide_eq_false j,UX,B,U5]at u;rw[u];refine gA I (vS (d225 m y J Y (kw ((cm e).val.num>0)) d hd (aS (aS w [sM]) [sM]) (cm e) (by rw[aH,A,G];omega)) ?_);refine gA I iH
    .have a0: ¬(cm e).val.num=0:=zF h0;rw[be (by simpa using a0)]at u;refine gA I (B1 (EC (cm e)) ?_);refine zJ I I (fun x=>?_) fun x=>?_
     .have j:dY (cm e)<3:=zT x;rw[mu,decide_eq_true j,VZ]at u;rw[u];refine gA I (vS (d225 m y J Y is d hd (aS w [sM]) (cm e) (by rw[A,G];omega)) ?_);refine gA I iH
     .have j: ¬dY (cm e)<3:=zF x;refine zE I I (fun hz=>?_) fun hz=>?_
      .exact absurd F (zF hz)
      rw[mu,decide_eq_false j,UX,B,U5]at u;rw[u];refine gA I (vS (d225 m y J Y (kw ((cm e).val.num>0)) d hd (aS w [sM]) (cm e) (by rw[A,G];omega)) ?_);refine gA I iH
  .have b0: ¬(cm e).kind=2:=zF hk;have B:yh (cm e)=jp:=by rw[yh,decide_eq_false b0];rfl
   rw[B,US,be (by simp)]at u;refine gA I (i6 (d147 w [sM] (by simp) (by rw[bp,G];omega)) ?_);refine gA I (B1 (EC (cm e)) ?_);refine zJ I I (fun x=>?_) fun x=>?_
   .have j:dY (cm e)<3:=zT x;rw[mu,decide_eq_true j,VZ]at u;rw[u];refine gA I (vS (d225 m y J Y is d hd (aS w [sM]) (cm e) (by rw[A,G];omega)) ?_);refine gA I iH
   .have j: ¬dY (cm e)<3:=zF x;rw[mu,decide_eq_false j,UX,B,US]at u;rw[u];refine gA I (vS (d225 m y J Y jp d hd (aS w [sM]) (cm e) (by rw[A,G];omega)) ?_);refine gA I iH
 .have Z: ¬e.op=6:=zF Z;refine zE I I (fun C=>?_) fun C=>?_
  .have C:w.bad=is:=C;rw[ld,am C];refine gA I iH
  have C: ¬w.bad=is:=by rw[show w.bad=jp from C];simp
  refine zE I I (fun D=>?_) fun D=>?_
  .have D: ¬e.args.length=2:=by simp at D;omega
   rw[ld,be C,be Z,be D];refine gA I iH
  have D:e.args.length=2:=by simp at D;omega
  have hg:(cm e).ts+(yK e).ts<=_:=Expr.Cd e.args D;rw[ld,be C,be Z,am D];refine zJ I I (fun h3=>?_) fun h3=>?_
  .exact absurd (zT h3) (by omega)
  refine zJ I I (fun h7=>?_) fun h7=>?_
  .exact absurd (zT h7) (by simp)
  refine gA I (B1 (EC (cm e)) ?_);refine gA I (B1 (KG e.op) ?_);refine gA I (vS (d225 m y J Y (kw (dY (cm e)<cG e.op)) d hd w (cm e) (by omega)) ?_);refine gA I (zp (Su e.op) ?_);have d0:=Ho m (kw (dY (cm e)<cG e.op)) w (cm e);have e0:=zf e.op;have e2:Cp.size=1:=rfl;have e3:eA [Cp,mr e.op,Cp]=1+((mr e.op).size+1):=by simp[eA,e2]
  refine gA I (i6 (d147 (vW m (kw (dY (cm e)<cG e.op)) w (cm e)) [Cp,mr e.op,Cp] (by simp) (by rw[e3];omega)) ?_);refine gA I (B1 (EC (yK e)) ?_);refine gA I (B1 (KG e.op) ?_);refine gA I (vS (d225 m y J Y (kw (dY (yK e)<=cG e.op)) d hd (aS (vW m (kw (dY (cm e)<cG e.op)) w (cm e)) [Cp,mr e.op,Cp]) (yK e) (by rw[gn,e3];omega)) ?_);refine gA I iH
theorem d189(d:Int)(Z:0<=d)(a0:d<=1000)(w:WS)(e:Expr)(hb:w.l.length+e.ts<=1000000000)(k:WS)(G:bB prog 286 [.ptr 0 0,ag e.c,pI (d-1)] (aU w (sU e)).O (.aZ []) k.H 3):bB prog 236 [.ptr 0 0,ag e.c,pI d] w.O (.aZ []) (jP w e k).H 3:=by
 have b0:=e.rV;refine an ab func236 I (by decide) ntmps236 I (by simp) ?_;refine zE I I (fun J=>?_) fun J=>?_
 .have J:w.bad=is:=J;rw[jP,am J];refine gA I iH
 have B: ¬w.bad=is:=by rw[show w.bad=jp from J];simp
 refine zJ I I (fun Y=>?_) fun Y=>?_
 .exact absurd (zT Y) (by omega)
 refine zJ I I (fun C=>?_) fun C=>?_
 .have u:e.kind=1:=zT C;have A:jP w e k=aS (aU w (ot e)) [e.var]:=by rw[jP,be B,am u]
  rw[A];refine gA I (zp (BV e.var) ?_);refine zE I I (fun g0=>?_) fun g0=>?_
  .have j:ot e=jp:=by simp only[ot,ef, *];rfl
   rw[j];refine gA I (hZ (d146 w jp) ?_);refine gA I (i6 (d147 (aU w jp) [e.var] (by simp) (by rw[bp,aO];omega)) ?_);refine gA I iH
  refine zE I I (fun g1=>?_) fun g1=>?_
  .have j:ot e=jp:=by simp only[ot,ef, *];rfl
   rw[j];refine gA I (hZ (d146 w jp) ?_);refine gA I (i6 (d147 (aU w jp) [e.var] (by simp) (by rw[bp,aO];omega)) ?_);refine gA I iH
  refine zE I I (fun g2=>?_) fun g2=>?_
  .have j:ot e=jp:=by simp only[ot,ef, *];rfl
   rw[j];refine gA I (hZ (d146 w jp) ?_);refine gA I (i6 (d147 (aU w jp) [e.var] (by simp) (by rw[bp,aO];omega)) ?_);refine gA I iH
  have j:ot e=kw ((e.args.length:Int)=0):=by simp only[ot,ef, *];rfl
  rw[j];refine gA I (hZ (d146 w (kw ((e.args.length:Int)=0))) ?_);refine gA I (i6 (d147 (aU w (kw ((e.args.length:Int)=0))) [e.var] (by simp) (by rw[bp,aO];omega)) ?_);refine gA I iH
 have u: ¬e.kind=1:=zF C;refine zJ I I (fun D=>?_) fun D=>?_
 .have x:e.kind=2:=zT D;have A:jP w e k=mF (aU w (qk e)) e.val:=by rw[jP,be B,be u,am x]
  rw[A];have c0:=qT e.val;refine zE I I (fun g0=>?_) fun g0=>?_
  .have j:qk e=jp:=by simp only[qk,ef, *];rfl
   rw[j];refine gA I (hZ (d146 w jp) ?_);refine gA I (hZ (d149 (aU w jp) e.val (by rw[aO];omega) (by omega)) ?_);refine gA I iH
  refine zE I I (fun g1=>?_) fun g1=>?_
  .have j:qk e=jp:=by simp only[qk,ef, *];rfl
   rw[j];refine gA I (hZ (d146 w jp) ?_);refine gA I (hZ (d149 (aU w jp) e.val (by rw[aO];omega) (by omega)) ?_);refine gA I iH
  have j:qk e=kw ((e.args.length:Int)=0):=by simp only[qk,ef, *];rfl
  rw[j];refine gA I (hZ (d146 w (kw ((e.args.length:Int)=0))) ?_);refine gA I (hZ (d149 (aU w (kw ((e.args.length:Int)=0))) e.val (by rw[aO];omega) (by omega)) ?_);refine gA I iH
 have x: ¬e.kind=2:=zF D;refine zJ I I (fun F=>?_) fun F=>?_
 .have y:e.kind=4:=zT F;have A:jP w e k=k:=by rw[jP,be B,be u,be x,am y]
  rw[A];refine zE I I (fun g0=>?_) fun g0=>?_
  .have j:sU e=jp:=by simp only[sU,ef, *];rfl
   rw[j]at G;refine gA I (hZ (d146 w jp) ?_);refine gA I (hZ (G) ?_);refine gA I iH
  refine zE I I (fun g1=>?_) fun g1=>?_
  .have j:sU e=jp:=by simp only[sU,ef, *];rfl
   rw[j]at G;refine gA I (hZ (d146 w jp) ?_);refine gA I (hZ (G) ?_);refine gA I iH
  refine gA I (zp (KG e.op) ?_);have j:sU e=kw (cG e.op>0):=by simp only[sU,ef, *];rfl
  rw[j]at G;refine gA I (hZ (d146 w (kw (cG e.op>0))) ?_);refine gA I (hZ (G) ?_);refine gA I iH
 have y: ¬e.kind=4:=zF F;rw[jP,be B,be u,be x,be y];refine gA I iH
theorem pe0:PE 0:=fun d w e hd hb=>by
 refine an ab func236 I (by decide) ntmps236 I (by simp) ?_;rw[c2]
 repeat' (first
  |((rename_i h;exact absurd (by omega:d<0) (zF h)))
  |(refine gA I (zI (fun _=>?_) (fun _=>?_)))
  |(refine gA I (xh (by first|exact .inr I|exact .inl I) I I I I I (by first|exact .refl _|exact .kb _) (by first|exact .refl _|exact .kb _) I I I I (.refl _) I I)))
theorem Bm: ∀n,n<=900->PE n
 |0,_=>pe0
 |1,_=>fun d w e hd hb=>d189 d (by omega) (by omega) w e hb _ (Rk (d-1) (by omega) (aU w (sU e)) e)
 |m+2,h=>fun d w e hd hb=>d189 d (by omega) (by omega) w e (by omega) _ (d213 m (by omega) (Bm (m+1) (by omega)) (Bm m (by omega)) (d-1) (by omega) (aU w (sU e)) e (by rw[aO];omega))
theorem oD(w:WS)(e:Expr)(hb:w.l.length+e.ts<=900000000):bB prog 236 [.ptr 0 0,ag e.c,pI 16] w.O (.aZ []) (c2 17 w e).H 3:=Bm 17 (by omega) 16 w e (by omega) (by omega)
def vM:ae:=⟨#[44,32]⟩
def NN:ae:=⟨#[95]⟩
def eQ(i:Nat)(w:WS):WS:=if i=0 then w else aS w [vM]
def ye(t:Term):Bool:=fO t.var&&ef t.val
def yf(t:Term):Bool:=kw (t.var=⟨#[]⟩)&&ef t.val
def kn(w:WS)(t:Term):WS:=
 if t.kind=1 then aS (aU w (ye t)) [t.var] else if t.kind=2 then mF (aU w (kw (t.var=⟨#[]⟩))) t.val else if t.kind=3 then aS (aU w (yf t)) [NN] else mB w
def gd(l:List Term)(w:WS):Nat->WS
 |0=>w
 |i+1=>kn (eQ i (gd l w i)) (l.getD i co)
def gT(w:WS)(a:Atom):WS:=aS (gd a.aj (aS (aU w (fY a.rel)) [a.rel,sO]) a.aj.length) [sC]
def Term.ts(t:Term):Nat:=t.var.size+310
def Atom.ts(a:Atom):Nat:=a.rel.size+10+(a.aj.map Term.ts).sum
theorem iC(i:Nat)(w:WS):(eQ i w).l.length<=w.l.length+2:=by
 have e:vM.size=2:=rfl;unfold eQ;split
 .omega
 .rw[aH,e];omega
theorem Dz(w:WS)(t:Term):(kn w t).l.length<=w.l.length+300+t.var.size:=by
 have e:NN.size=1:=rfl;unfold kn
 repeat' split
 .rw[aH,aO];omega
 .have:=tJ (aU w (kw (t.var=⟨#[]⟩))) t.val;rw[aO]at this;omega
 .rw[aH,aO,e];omega
 .rw[fc];omega
theorem wm: ∀(l:List Term) (i:Nat),i<l.length->((l.take i).map Term.ts).sum+(l.getD i co).ts<=(l.map Term.ts).sum
 | [],i,h=>by simp at h
 |s::r,0,_=>by simp
 |s::r,i+1,h=>by
  have:=wm r i (by simpa using h);simp at this ⊢;omega
theorem Ci: ∀(l:List Term) (i:Nat),((l.take i).map Term.ts).sum<=(l.map Term.ts).sum
 | [],i=>by simp
 |s::r,0=>by simp
 |s::r,i+1=>by have:=Ci r i;simp at this ⊢;omega
theorem oK(l:List Term)(w:WS): ∀i,i<=l.length->(gd l w i).l.length<=w.l.length+((l.take i).map Term.ts).sum
 |0,_=>by simp[gd]
 |i+1,h=>by
  have d:=oK l w i (by omega);have j:=iC i (gd l w i);have u:=Dz (eQ i (gd l w i)) (l.getD i co);have x:(l.getD i co).ts=(l.getD i co).var.size+310:=rfl;have y:((l.take (i+1)).map Term.ts).sum=((l.take i).map Term.ts).sum+(l.getD i co).ts:=by
   rw[bb (by omega),Tc,List.sum_append];simp
  rw[gd];omega
theorem n4(w:WS)(a:Atom):(gT w a).l.length<=w.l.length+a.ts:=by
 have d:sO.size=1:=rfl;have j:sC.size=1:=rfl;have u:eA [a.rel,sO]=a.rel.size+1:=by simp[eA,d]
 have x:=oK a.aj (aS (aU w (fY a.rel)) [a.rel,sO]) a.aj.length (S9 _);rw[gn,u,aO,TV]at x;rw[gT,aH,j];unfold Atom.ts;omega
theorem wV: ∀l:List Term,l.length<=(l.map Term.ts).sum
 | []=>by simp
 |t::r=>by have:=wV r;simp[Term.ts]at this ⊢;omega
set_option maxHeartbeats 1000000 in
theorem d104(w:WS)(a:Atom)(hb:w.l.length+a.ts<=900000000):bB prog 147 [.ptr 0 0,ag a.c] w.O (.aZ []) (gT w a).H 3:=by
 have Z:sO.size=1:=rfl;have e2:sC.size=1:=rfl;have B:vM.size=2:=rfl;have e5:NN.size=1:=rfl;have Y:eA [a.rel,sO]=a.rel.size+1:=by simp[eA,Z]
 have i0:a.ts=a.rel.size+10+(a.aj.map Term.ts).sum:=rfl;have d0:=wV a.aj;have b0:(aS (aU w (fY a.rel)) [a.rel,sO]).l.length=w.l.length+(a.rel.size+1):=by rw[gn,Y,aO]
 refine an ab func147 I (by decide) ntmps147 I (by simp) ?_;refine gA I (zp (Rs a.rel) ?_);refine gA I (hZ (d146 w (fY a.rel)) ?_);refine gA I (i6 (d147 (aU w (fY a.rel)) [a.rel,sO] (by simp) (by rw[Y,aO];omega)) ?_);generalize hW:aS (aU w (fY a.rel)) [a.rel,sO]=w1 at*
 refine gA I ?_;refine aJ 0 a.aj.length (Te _) (fun i=>⟨[(0,.ptr 0 0),(17,.iv (bz 5 a.aj Term.c)),(18,pI a.aj.length),(19,pI i)],[(0,dl ((gd a.aj w1 i).px 0 6)),(6,dl (.bt (gd a.aj w1 i).l 5))],7⟩) (fun _=>True) _ ac
  (HH (w:=w1) I I I I I (.refl _) (.refl _) I I I I I (bi (bi (bi (bi trivial))))) fun i hi _=>?_
 have c0:=oK a.aj w1 i hi;have e0:=Ci a.aj i;refine zE I I (fun x=>?_) fun x=>?_
 .have x:a.aj.length<=i:=zG x;have J:i=a.aj.length:=by omega
  subst J;refine gA I (i6 (d147 (gd a.aj w1 a.aj.length) [sC] (by simp) (by rw[bp,e2];omega)) ?_);rw[gT,hW];refine gA I iH
 have x:i<a.aj.length:=zN x;have f0:=wm a.aj i x;have d:gd a.aj w1 (i+1)=kn (eQ i (gd a.aj w1 i)) (a.aj.getD i co):=rfl;have ht:(a.aj.getD i co).ts=(a.aj.getD i co).var.size+310:=rfl;have j0:=qT (a.aj.getD i co).val;have a0:=iC i (gd a.aj w1 i);generalize hT:gd a.aj w1 i=w2 at*
 refine zJ I I (fun C=>?_) fun C=>?_
 .have C: ¬i=0:=by have:=zT C;omega
  rw[eQ,be C]at d;refine gA I (i6 (d147 w2 [vM] (by simp) (by rw[bp,B];omega)) ?_);refine zJ I I (fun D=>?_) fun D=>?_
  .have j:(a.aj.getD i co).kind=1:=zT D;rw[kn,am j]at d;refine gA I (zp (BV (a.aj.getD i co).var) ?_);refine zE I I (fun g0=>?_) fun g0=>?_
   .have y:ye (a.aj.getD i co)=jp:=by have g:fO (a.aj.getD i co).var=jp:=g0;rw[ye,g];rfl
    rw[y]at d;refine gA I (hZ (d146 (aS w2 [vM]) jp) ?_);refine gA I (i6 (d147 (aU (aS w2 [vM]) jp) [(a.aj.getD i co).var] (by simp) (by rw[bp,aO];first|omega|(rw[aH,B];omega))) ?_);refine gA I ⟨x,ac,_,pF (d.symm)⟩
   have y:ye (a.aj.getD i co)=ef (a.aj.getD i co).val:=by have g:fO (a.aj.getD i co).var=is:=g0;rw[ye,g];rfl
   rw[y]at d;refine gA I (hZ (d146 (aS w2 [vM]) (ef (a.aj.getD i co).val)) ?_);refine gA I (i6 (d147 (aU (aS w2 [vM]) (ef (a.aj.getD i co).val)) [(a.aj.getD i co).var] (by simp) (by rw[bp,aO];first|omega|(rw[aH,B];omega))) ?_);refine gA I ⟨x,ac,_,pF (d.symm)⟩
  have j: ¬(a.aj.getD i co).kind=1:=zF D;refine zJ I I (fun F=>?_) fun F=>?_
  .have u:(a.aj.getD i co).kind=2:=zT F;rw[kn,be j,am u]at d;refine gA I (hZ (d146 (aS w2 [vM]) (kw ((a.aj.getD i co).var=⟨#[]⟩))) ?_);refine gA I (hZ (d149 (aU (aS w2 [vM]) (kw ((a.aj.getD i co).var=⟨#[]⟩))) (a.aj.getD i co).val (by rw[aO];first|omega|(rw[aH,B];omega)) (by omega)) ?_);refine gA I ⟨x,ac,_,pF (d.symm)⟩
  have u: ¬(a.aj.getD i co).kind=2:=zF F;refine zJ I I (fun G=>?_) fun G=>?_
  .have A:(a.aj.getD i co).kind=3:=zT G;rw[kn,be j,be u,am A]at d;refine zE I I (fun g0=>?_) fun g0=>?_
   .have y:yf (a.aj.getD i co)=jp:=by have g:kw ((a.aj.getD i co).var=⟨#[]⟩)=jp:=g0;rw[yf,g];rfl
    rw[y]at d;refine gA I (hZ (d146 (aS w2 [vM]) jp) ?_);refine gA I (i6 (d147 (aU (aS w2 [vM]) jp) [NN] (by simp) (by rw[bp,aO];first|omega|(rw[aH,B];omega))) ?_);refine gA I ⟨x,ac,_,pF (d.symm)⟩
   have y:yf (a.aj.getD i co)=ef (a.aj.getD i co).val:=by have g:kw ((a.aj.getD i co).var=⟨#[]⟩)=is:=g0;rw[yf,g];rfl
   rw[y]at d;refine gA I (hZ (d146 (aS w2 [vM]) (ef (a.aj.getD i co).val)) ?_);refine gA I (i6 (d147 (aU (aS w2 [vM]) (ef (a.aj.getD i co).val)) [NN] (by simp) (by rw[bp,aO];first|omega|(rw[aH,B];omega))) ?_);refine gA I ⟨x,ac,_,pF (d.symm)⟩
  have A: ¬(a.aj.getD i co).kind=3:=zF G;rw[kn,be j,be u,be A]at d;refine gA I ⟨x,ac,_,pF (d.symm)⟩
 .have C:i=0:=by have:=zF C;omega
  rw[eQ,am C]at d;refine zJ I I (fun D=>?_) fun D=>?_
  .have j:(a.aj.getD i co).kind=1:=zT D;rw[kn,am j]at d;refine gA I (zp (BV (a.aj.getD i co).var) ?_);refine zE I I (fun g0=>?_) fun g0=>?_
   .have y:ye (a.aj.getD i co)=jp:=by have g:fO (a.aj.getD i co).var=jp:=g0;rw[ye,g];rfl
    rw[y]at d;refine gA I (hZ (d146 w2 jp) ?_);refine gA I (i6 (d147 (aU w2 jp) [(a.aj.getD i co).var] (by simp) (by rw[bp,aO];first|omega|(rw[aH,B];omega))) ?_);refine gA I ⟨x,ac,_,pF (d.symm)⟩
   have y:ye (a.aj.getD i co)=ef (a.aj.getD i co).val:=by have g:fO (a.aj.getD i co).var=is:=g0;rw[ye,g];rfl
   rw[y]at d;refine gA I (hZ (d146 w2 (ef (a.aj.getD i co).val)) ?_);refine gA I (i6 (d147 (aU w2 (ef (a.aj.getD i co).val)) [(a.aj.getD i co).var] (by simp) (by rw[bp,aO];first|omega|(rw[aH,B];omega))) ?_);refine gA I ⟨x,ac,_,pF (d.symm)⟩
  have j: ¬(a.aj.getD i co).kind=1:=zF D;refine zJ I I (fun F=>?_) fun F=>?_
  .have u:(a.aj.getD i co).kind=2:=zT F;rw[kn,be j,am u]at d;refine gA I (hZ (d146 w2 (kw ((a.aj.getD i co).var=⟨#[]⟩))) ?_);refine gA I (hZ (d149 (aU w2 (kw ((a.aj.getD i co).var=⟨#[]⟩))) (a.aj.getD i co).val (by rw[aO];first|omega|(rw[aH,B];omega)) (by omega)) ?_);refine gA I ⟨x,ac,_,pF (d.symm)⟩
  have u: ¬(a.aj.getD i co).kind=2:=zF F;refine zJ I I (fun G=>?_) fun G=>?_
  .have A:(a.aj.getD i co).kind=3:=zT G;rw[kn,be j,be u,am A]at d;refine zE I I (fun g0=>?_) fun g0=>?_
   .have y:yf (a.aj.getD i co)=jp:=by have g:kw ((a.aj.getD i co).var=⟨#[]⟩)=jp:=g0;rw[yf,g];rfl
    rw[y]at d;refine gA I (hZ (d146 w2 jp) ?_);refine gA I (i6 (d147 (aU w2 jp) [NN] (by simp) (by rw[bp,aO];first|omega|(rw[aH,B];omega))) ?_);refine gA I ⟨x,ac,_,pF (d.symm)⟩
   have y:yf (a.aj.getD i co)=ef (a.aj.getD i co).val:=by have g:kw ((a.aj.getD i co).var=⟨#[]⟩)=is:=g0;rw[yf,g];rfl
   rw[y]at d;refine gA I (hZ (d146 w2 (ef (a.aj.getD i co).val)) ?_);refine gA I (i6 (d147 (aU w2 (ef (a.aj.getD i co).val)) [NN] (by simp) (by rw[bp,aO];first|omega|(rw[aH,B];omega))) ?_);refine gA I ⟨x,ac,_,pF (d.symm)⟩
  have A: ¬(a.aj.getD i co).kind=3:=zF G;rw[kn,be j,be u,be A]at d;refine gA I ⟨x,ac,_,pF (d.symm)⟩
end Go.Proofs.YtbhphmfbligliaaGreatDoor
namespace Go.Proofs.YtbhphmfbligliaaGreatDoor
open Go Go.Al
def Bb:ae:=⟨#[110,111,116,32]⟩
def qY:ae:=⟨#[32,61,32]⟩
def qZ:ae:=⟨#[32,123,32]⟩
def EM:ae:=⟨#[32,58,32]⟩
def zj:ae:=⟨#[32,125]⟩
def vb(op:Int):ae:=if op=1 then⟨#[32,61,32]⟩ else if op=2 then⟨#[32,33,61,32]⟩ else if op=3 then⟨#[32,60,32]⟩ else if op=4 then⟨#[32,60,61,32]⟩ else if op=5 then⟨#[32,62,32]⟩ else⟨#[32,62,61,32]⟩
def jj(f:Int):ae:=if f=1 then⟨#[99,111,117,110,116]⟩ else if f=2 then⟨#[115,117,109]⟩ else if f=3 then⟨#[109,105,110]⟩ else⟨#[109,97,120]⟩
def vE(w:WS)(n:Int):WS:=⟨w.fr,w.l,w.bad,w.br+n⟩
def de(f:Lit->WS->WS)(l:List Lit)(w:WS):Nat->WS
 |0=>w
 |i+1=>if(de f l w i).bad=is then de f l w i else f (l.getD i co) (eQ i (de f l w i))
def pD(w:WS)(a:gl):WS:=if a.func=1 then aU w (jz a.jo) else aS (c2 17 w a.jo) [EM]
def yM(f:Lit->WS->WS)(w:WS)(a:gl):WS:=
 if a.func<1∨5<=a.func∨16<=w.br∨a.body.length=0 then mB w
 else aS (vE (de f a.body (vE (pD (aS (aU w (fO a.var)) [a.var,qY,jj a.func,qZ]) a) 1) a.body.length) (-1)) [zj]
def Bx(f:Lit->WS->WS)(l:Lit)(w:WS):WS:=
 if l.kind=2 then gT (aS w [Bb]) l.atom else if l.kind=1 then gT w l.atom
 else if l.kind=3 then(if l.op<1∨7<=l.op then mB (c2 17 w l.left) else c2 17 (aS (c2 17 w l.left) [vb l.op]) l.right)
 else if l.kind=4 then yM f w l.agg else mB w
def dF:Nat->Lit->WS->WS
 |0,_,w=>w
 |n+1,l,w=>Bx (dF n) l (aU w (kM l))
theorem bQ: ∀(d:List ae) (w:WS),(aS w d).br=w.br
 | [],w=>rfl
 |s::r,w=>bQ r (zx w s)
theorem uC(w:WS)(b:Bool):(aU w b).br=w.br:=rfl
theorem KN(w:WS):(mB w).br=w.br:=rfl
theorem wb(w:WS)(v:eK):(mF w v).br=w.br:=by rw[mF,bQ];rfl
theorem Ai(w k:WS)(e:Expr)(h:k.br=w.br):(jP w e k).br=w.br:=by
 unfold jP
 repeat' split
 .rfl
 .rw[bQ];rfl
 .rw[wb];rfl
 .exact h
 .rfl
theorem F3(a0:Bool->WS->Expr->WS)(d: ∀b w a,(a0 b w a).br=w.br)(w:WS)(e:Expr):(ld a0 w e).br=w.br:=by
 unfold ld
 repeat' split
 .rfl
 .rw[d,bQ,bQ]
 .rw[d,bQ]
 .rfl
 .rw[d,bQ,d]
 .rfl
theorem lC: ∀(n:Nat) (w:WS) (e:Expr),(c2 n w e).br=w.br
 |0,w,e=>rfl
 |1,w,e=>by rw[c2];exact Ai _ _ _ I
 |m+2,w,e=>by
  rw[c2];refine Ai _ _ _ ?_;rw[F3 _ (fun b w a=>?_)]
  .rfl
  .split
   .rw[bQ,lC m,bQ]
   .exact lC (m+1) _ _
theorem nV(i:Nat)(w:WS):(eQ i w).br=w.br:=by
 unfold eQ;split
 .rfl
 .exact bQ _ _
theorem E6(w:WS)(t:Term):(kn w t).br=w.br:=by
 unfold kn
 repeat' split
 .rw[bQ];rfl
 .rw[wb];rfl
 .rw[bQ];rfl
 .rfl
theorem wi(l:List Term)(w:WS): ∀i,(gd l w i).br=w.br
 |0=>rfl
 |i+1=>by rw[gd,E6,nV,wi l w i]
theorem lF(w:WS)(a:Atom):(gT w a).br=w.br:=by rw[gT,bQ,wi,bQ];rfl
theorem lE(f:Lit->WS->WS)(hf: ∀l w,(f l w).br=w.br)(l:List Lit)(w:WS): ∀i,(de f l w i).br=w.br
 |0=>rfl
 |i+1=>by
  rw[de];split
  .exact lE f hf l w i
  .rw[hf,nV,lE f hf l w i]
theorem F6(w:WS)(a:gl):(pD w a).br=w.br:=by
 unfold pD;split
 .rfl
 .rw[bQ,lC]
theorem KT(f:Lit->WS->WS)(hf: ∀l w,(f l w).br=w.br)(w:WS)(a:gl):(yM f w a).br=w.br:=by
 unfold yM;split
 .rfl
 .rw[bQ];show(de _ _ _ _).br+ -1=_;rw[lE f hf];show(pD _ _).br+1+ -1=_;rw[F6,bQ,uC];omega
theorem Kd(f:Lit->WS->WS)(hf: ∀l w,(f l w).br=w.br)(l:Lit)(w:WS):(Bx f l w).br=w.br:=by
 unfold Bx
 repeat' split
 .rw[lF,bQ]
 .exact lF _ _
 .rw[KN,lC]
 .rw[lC,bQ,lC]
 .exact KT f hf _ _
 .rfl
theorem ta: ∀(n:Nat) (l:Lit) (w:WS),(dF n l w).br=w.br
 |0,_,_=>rfl
 |n+1,l,w=>by rw[dF,Kd (dF n) (ta n)];rfl
mutual
def Lit.ts:Lit->Nat
 | .mk _ a _ l r _ v o b _=>100+a.ts+l.ts+r.ts+v.size+o.ts+Lit.ki b
def Lit.ki:List Lit->Nat
 | []=>0
 |e::r=>e.ts+Lit.ki r
end
theorem Lit.rV(l:Lit):l.ts=100+l.atom.ts+l.left.ts+l.right.ts+l.bH.size+l.j7.ts+Lit.ki l.ay:=by cases l;rfl
theorem Lit.yX: ∀(l:List Lit) (i:Nat),i<l.length->Lit.ki (l.take i)+(l.getD i co).ts<=Lit.ki l
 | [],i,h=>by simp at h
 |s::r,0,_=>by simp[Lit.ki]
 |s::r,i+1,h=>by
  have:=Lit.yX r i (by simpa using h);simp only[Un,Lit.ki,Um];omega
theorem Lit.E2: ∀(l:List Lit) (i:Nat),Lit.ki (l.take i)<=Lit.ki l
 | [],i=>by simp
 |s::r,0=>by simp[Lit.ki]
 |s::r,i+1=>by have:=Lit.E2 r i;simp only[Un,Lit.ki];omega
theorem Lit.Ns(l:Lit):100<=l.ts:=by rw[l.rV];omega
theorem Ha(op:Int):(vb op).size<=4:=by
 unfold vb
 repeat' split
 all_goals decide
theorem Ax(op:Int):(jj op).size<=5:=by
 unfold jj
 repeat' split
 all_goals decide
def KW(f:Lit->WS->WS):Prop:= ∀l w,(f l w).l.length+4<=w.l.length+l.ts
theorem lD(f:Lit->WS->WS)(hf:KW f)(l:List Lit)(w:WS): ∀i,i<=l.length->(de f l w i).l.length<=w.l.length+Lit.ki (l.take i)
 |0,_=>by simp[de,Lit.ki]
 |i+1,h=>by
  have d:=lD f hf l w i (by omega);have y:Lit.ki (l.take (i+1))=Lit.ki (l.take i)+(l.getD i co).ts:=by
   rw[bb (by omega)];have: ∀(a:List Lit) (b:Lit),Lit.ki (a++ [b])=Lit.ki a+b.ts:=by
    intro a b
    induction a with
    |nil=>simp[Lit.ki]
    |cons x r ih=>simp only[Tu,Lit.ki,ih];omega
   exact this _ _
  rw[de];split
  .omega
  .have j:=hf (l.getD i co) (eQ i (de f l w i));have u:=iC i (de f l w i);omega
theorem CI(w:WS)(a:gl):(pD w a).l.length<=w.l.length+a.jo.ts+3:=by
 have e:EM.size=3:=rfl;unfold pD;split
 .rw[aO];omega
 .have:=dw 17 w a.jo;rw[aH,e];omega
theorem wX(w:WS)(a:gl):(aS (aU w (fO a.var)) [a.var,qY,jj a.func,qZ]).l.length<=w.l.length+a.var.size+11:=by
 have d:qY.size=3:=rfl;have j:qZ.size=3:=rfl;have h:=Ax a.func;have e:eA [a.var,qY,jj a.func,qZ]=a.var.size+(3+((jj a.func).size+3)):=by simp[eA,d,j]
 rw[gn,aO,e];omega
theorem Hv(f:Lit->WS->WS)(hf:KW f)(w:WS)(a:gl):(yM f w a).l.length<=w.l.length+a.var.size+a.jo.ts+Lit.ki a.body+20:=by
 have e:zj.size=2:=rfl;unfold yM;split
 .rw[fc];omega
 .rw[aH,e];show(de _ _ _ _).l.length+2<=_;have d:=lD f hf a.body (vE (pD (aS (aU w (fO a.var)) [a.var,qY,jj a.func,qZ]) a) 1) a.body.length (S9 _);rw[TV]at d;have j:=CI (aS (aU w (fO a.var)) [a.var,qY,jj a.func,qZ]) a;have u:=wX w a;have x:(vE (pD (aS (aU w (fO a.var)) [a.var,qY,jj a.func,qZ]) a) 1).l.length=(pD (aS (aU w (fO a.var)) [a.var,qY,jj a.func,qZ]) a).l.length:=rfl;omega
theorem Gl(f:Lit->WS->WS)(hf:KW f)(l:Lit)(w:WS):(Bx f l w).l.length+4<=w.l.length+l.ts:=by
 have y:=l.rV;have e:Bb.size=4:=rfl;unfold Bx
 repeat' split
 .have d:=n4 (aS w [Bb]) l.atom;rw[aH,e]at d;omega
 .have d:=n4 w l.atom;omega
 .have d:=dw 17 w l.left;rw[fc];omega
 .have d:=dw 17 w l.left;have j:=dw 17 (aS (c2 17 w l.left) [vb l.op]) l.right;have u:=Ha l.op;rw[aH]at j;omega
 .have d:=Hv f hf w l.agg;have j:l.agg.var=l.bH:=rfl;have u:l.agg.jo=l.j7:=rfl;have x:l.agg.body=l.ay:=rfl;rw[j,u,x]at d;omega
 .rw[fc];omega
theorem qq: ∀n,KW (dF n)
 |0=>fun l w=>by have:=l.Ns;rw[dF];omega
 |n+1=>fun l w=>Gl (dF n) (qq n) l (aU w (kM l))
theorem xt{f:Lit->WS->WS}{l:List Lit}{w:WS}{i:Nat}(h:(de f l w i).bad=is): ∀k,de f l w (i+k)=de f l w i
 |0=>rfl
 |k+1=>by
  have:=xt h k;rw[<-Ua,de,this,am h]
end Go.Proofs.YtbhphmfbligliaaGreatDoor
namespace Go.Proofs.YtbhphmfbligliaaGreatDoor
open Go Go.Al Go.Proofs.Tryz
def HC(n:Nat):Prop:= ∀(l:Lit) (w:WS),l.size<=n->0<=w.br->w.br<=16->w.l.length+l.ts<=900000000->bB prog 185 [.ptr 0 0,ag l.c] w.O (.aZ []) (dF n l w).H 3
set_option maxHeartbeats 1000000 in
theorem d214(n:Nat)(D:HC n)(w:WS)(d:List Lit)(hs:Lit.au d<=n)(G:0<=w.br)(J:w.br<=16)(hb:w.l.length+Lit.ki d+2<=900000000)(hn:n<=100000000):
  bB prog 148 [.ptr 0 0,.iv (lits d)] w.O (.aZ []) (de (dF n) d w d.length).H 3:=by
 have F:vM.size=2:=rfl;have b0:=Lit.aA d;refine an ab func148 I (by decide) ntmps148 I (by simp) ?_;refine gA I ?_;refine aJ 0 d.length (Te _) (fun i=>⟨[(0,.ptr 0 0),(6,.iv (lits d)),(7,pI d.length),(8,pI i)],[(0,dl ((de (dF n) d w i).px 0 2)),(2,dl (.bt (de (dF n) d w i).l 5))],3⟩) (fun _=>True) _ ac
  (HH (w:=w) I I I I I (.refl _) (.refl _) I I I I I (bi (bi (bi (bi trivial))))) fun i Z _=>?_
 have a0:=lD (dF n) (qq n) d w i Z;have Y:=lE (dF n) (ta n) d w i;have d0:=Lit.E2 d i;refine zE I I (fun u=>?_) fun u=>?_
 .have u:d.length<=i:=zG u;have C:i=d.length:=by omega
  subst C;refine gA I iH
 have u:i<d.length:=zN u;have e0:=Lit.yX d i u;have c0:=Lit.b6 d i u;have j:de (dF n) d w (i+1)=if(de (dF n) d w i).bad=is then de (dF n) d w i else dF n (d.getD i co) (eQ i (de (dF n) d w i)):=rfl;have x:=fun h=>xt (f:=dF n) (l:=d) (w:=w) (i:=i) h (d.length-i);rw[Nat.add_sub_cancel' (Nat.le_of_lt u)]at x;have B:=iC i (de (dF n) d w i);have A:=nV i (de (dF n) d w i);generalize de (dF n) d w i=w2 at*
 refine zJ I I (fun g=>?_) fun g=>?_
 .have g:w2.bad=is:=g;rw[x g];refine gA I iH
 have g: ¬w2.bad=is:=by
  have g:w2.bad=jp:=g;rw[g];decide
 rw[be g]at j;refine zJ I I (fun y=>?_) fun y=>?_
 .have y: ¬i=0:=by have:=zT y;omega
  rw[eQ,be y]at j B A;refine gA I (i6 (d147 w2 [vM] (by simp) (by rw[bp,F];omega)) ?_);refine gA I (hZ (D (d.getD i co) (aS w2 [vM]) (by omega) (by omega) (by omega) (by omega)) ?_);refine gA I ⟨u,ac,_,pF (j.symm)⟩
 .have y:i=0:=by have:=zF y;omega
  rw[eQ,am y]at j B A;refine gA I (hZ (D (d.getD i co) w2 (by omega) (by omega) (by omega) (by omega)) ?_);refine gA I ⟨u,ac,_,pF (j.symm)⟩
def gl.ts(a:gl):Nat:=a.var.size+a.jo.ts+Lit.ki a.body
set_option maxHeartbeats 4000000 in
theorem d190(n:Nat)(ih:HC n)(w:WS)(a:gl)(hs:Lit.au a.body<=n)(a0:0<=w.br)(b0:w.br<=16)(hb:w.l.length+a.ts+30<=900000000)(hn:n<=100000000):
  bB prog 237 [.ptr 0 0,ag a.c] w.O (.aZ []) (yM (dF n) w a).H 3:=by
 refine bB.le (args:=[.ptr 0 0,ag a.c1]) ?_ ⟨.refl _,a.CO,ac⟩;have Z:zj.size=2:=rfl;have e5:EM.size=3:=rfl;have c0:=Lit.aA a.body;have d0:a.ts=a.var.size+a.jo.ts+Lit.ki a.body:=rfl;have hW: ¬(a.func<1∨5<=a.func∨16<=w.br∨a.body.length=0)->yM (dF n) w a=aS (vE (de (dF n) a.body (vE (pD (aS (aU w (fO a.var)) [a.var,qY,jj a.func,qZ]) a) 1) a.body.length) (-1)) [zj]:=fun h=>be h;have Y:a.func<1∨5<=a.func∨16<=w.br∨a.body.length=0->yM (dF n) w a=mB w:=fun h=>am h;have hh:=wX w a;have y:=CI (aS (aU w (fO a.var)) [a.var,qY,jj a.func,qZ]) a;have u:=F6 (aS (aU w (fO a.var)) [a.var,qY,jj a.func,qZ]) a;rw[bQ,uC]at u;have A:(vE (pD (aS (aU w (fO a.var)) [a.var,qY,jj a.func,qZ]) a) 1).l.length=(pD (aS (aU w (fO a.var)) [a.var,qY,jj a.func,qZ]) a).l.length:=rfl;have B:(vE (pD (aS (aU w (fO a.var)) [a.var,qY,jj a.func,qZ]) a) 1).br=(pD (aS (aU w (fO a.var)) [a.var,qY,jj a.func,qZ]) a).br+1:=rfl;have x:=lD (dF n) (qq n) a.body (vE (pD (aS (aU w (fO a.var)) [a.var,qY,jj a.func,qZ]) a) 1) a.body.length (S9 _);rw[TV]at x;have C:=lE (dF n) (ta n) a.body (vE (pD (aS (aU w (fO a.var)) [a.var,qY,jj a.func,qZ]) a) 1) a.body.length;have D:eA [a.var,qY,jj a.func,qZ]=a.var.size+(3+((jj a.func).size+3)):=by simp[eA,qY,qZ];rfl
 have F:=Ax a.func;obtain⟨j,var,d,body⟩:=a;dsimp only at*
 refine an ab func237 I (by decide) ntmps237 I (by simp) ?_;refine zE I I (fun g1=>?_) fun g1=>?_
 .rw[Y (.inl (zT g1))];refine gA I iH
 refine zE I I (fun g2=>?_) fun g2=>?_
 .rw[Y (.inr (.inl (zT g2)))];refine gA I iH
 refine zE I I (fun g3=>?_) fun g3=>?_
 .rw[Y (.inr (.inr (.inl (zT g3))))];refine gA I iH
 refine zJ I I (fun g4=>?_) fun g4=>?_
 .rw[Y (.inr (.inr (.inr (WI.1 (zT g4)))))];refine gA I iH
 have g1: ¬j<1:=zF g1;have g2: ¬j>=5:=zF g2;have g3: ¬w.br>=16:=zF g3;have g4: ¬body.length=0:=fun h=>zF g4 (WI.2 h);rw[hW (by rintro(h|h|h|h)<;>omega)];have hf:j=1∨j=2∨j=3∨j=4:=by omega
 clear hW Y;rcases hf with rfl|rfl|rfl|rfl
 .have e:jj 1=⟨#[99,111,117,110,116]⟩:=rfl;rw[e]at hh y u A B x C D F ⊢;refine gA I (zp (BV var) ?_);refine gA I (hZ (d146 w (fO var)) ?_);refine gA I (yy (d147 (aU w (fO var)) [var,qY,⟨#[99,111,117,110,116]⟩,qZ] (by simp) (by rw[D,aO];omega)) I I I I I I I I I I I I I I I I (by(repeat' (first|exact ac|exact rfl|exact ak.refl _|exact ak.bk (by assumption)|apply S3))<;>first|omega|(simp only[S7];omega)|(simp;done)|(simp;omega)) I (by(repeat' (first|exact ac|exact rfl|exact ak.refl _|exact ak.bk (by assumption)|apply S3))<;>first|omega|(simp only[S7];omega)|(simp;done)|(simp;omega)) ?_);generalize J:aS (aU w (fO var)) [var,qY,⟨#[99,111,117,110,116]⟩,qZ]=w1 at*
  have G:pD w1 ⟨1,var,d,body⟩=aU w1 (jz d):=rfl;rw[G]at y u A B x C ⊢;refine zE I I (fun q=>?_) fun q=>?_
  .exact absurd (show is=jp from q) (by decide)
  refine gA I (zp (KH d) ?_);refine gA I (hZ (d146 w1 (jz d)) ?_);generalize aU w1 (jz d)=w2 at*
  refine gA I (hZ (d214 n ih (vE w2 1) body hs (by omega) (by omega) (by omega) hn) ?_);generalize de (dF n) body (vE w2 1) body.length=w3 at*
  refine gA I (go_wp (d147 (vE w3 (-1)) [zj] (by simp) (by rw[bp,Z];show w3.l.length+2<=_;omega)) I I I I I I I I I I I I ?_);refine gA I iH
 .have e:jj 2=⟨#[115,117,109]⟩:=rfl;rw[e]at hh y u A B x C D F ⊢;refine gA I (zp (BV var) ?_);refine gA I (hZ (d146 w (fO var)) ?_);refine gA I (yy (d147 (aU w (fO var)) [var,qY,⟨#[115,117,109]⟩,qZ] (by simp) (by rw[D,aO];omega)) I I I I I I I I I I I I I I I I (by(repeat' (first|exact ac|exact rfl|exact ak.refl _|exact ak.bk (by assumption)|apply S3))<;>first|omega|(simp only[S7];omega)|(simp;done)|(simp;omega)) I (by(repeat' (first|exact ac|exact rfl|exact ak.refl _|exact ak.bk (by assumption)|apply S3))<;>first|omega|(simp only[S7];omega)|(simp;done)|(simp;omega)) ?_);generalize J:aS (aU w (fO var)) [var,qY,⟨#[115,117,109]⟩,qZ]=w1 at*
  have G:pD w1 ⟨2,var,d,body⟩=aS (c2 17 w1 d) [EM]:=rfl;rw[G]at y u A B x C ⊢;refine zJ I I (fun q=>?_) fun q=>?_
  .exact absurd (show jp=is from q) (by decide)
  have hx:=dw 17 w1 d;refine gA I (hZ (oD w1 d (by omega)) ?_);refine gA I (i6 (d147 (c2 17 w1 d) [EM] (by simp) (by rw[bp,e5];omega)) ?_);generalize aS (c2 17 w1 d) [EM]=w2 at*
  refine gA I (hZ (d214 n ih (vE w2 1) body hs (by omega) (by omega) (by omega) hn) ?_);generalize de (dF n) body (vE w2 1) body.length=w3 at*
  refine gA I (go_wp (d147 (vE w3 (-1)) [zj] (by simp) (by rw[bp,Z];show w3.l.length+2<=_;omega)) I I I I I I I I I I I I ?_);refine gA I iH
 .have e:jj 3=⟨#[109,105,110]⟩:=rfl;rw[e]at hh y u A B x C D F ⊢;refine gA I (zp (BV var) ?_);refine gA I (hZ (d146 w (fO var)) ?_);refine gA I (yy (d147 (aU w (fO var)) [var,qY,⟨#[109,105,110]⟩,qZ] (by simp) (by rw[D,aO];omega)) I I I I I I I I I I I I I I I I (by(repeat' (first|exact ac|exact rfl|exact ak.refl _|exact ak.bk (by assumption)|apply S3))<;>first|omega|(simp only[S7];omega)|(simp;done)|(simp;omega)) I (by(repeat' (first|exact ac|exact rfl|exact ak.refl _|exact ak.bk (by assumption)|apply S3))<;>first|omega|(simp only[S7];omega)|(simp;done)|(simp;omega)) ?_);generalize J:aS (aU w (fO var)) [var,qY,⟨#[109,105,110]⟩,qZ]=w1 at*
  have G:pD w1 ⟨3,var,d,body⟩=aS (c2 17 w1 d) [EM]:=rfl;rw[G]at y u A B x C ⊢;refine zJ I I (fun q=>?_) fun q=>?_
  .exact absurd (show jp=is from q) (by decide)
  have hx:=dw 17 w1 d;refine gA I (hZ (oD w1 d (by omega)) ?_);refine gA I (i6 (d147 (c2 17 w1 d) [EM] (by simp) (by rw[bp,e5];omega)) ?_);generalize aS (c2 17 w1 d) [EM]=w2 at*
  refine gA I (hZ (d214 n ih (vE w2 1) body hs (by omega) (by omega) (by omega) hn) ?_);generalize de (dF n) body (vE w2 1) body.length=w3 at*
  refine gA I (go_wp (d147 (vE w3 (-1)) [zj] (by simp) (by rw[bp,Z];show w3.l.length+2<=_;omega)) I I I I I I I I I I I I ?_);refine gA I iH
 .have e:jj 4=⟨#[109,97,120]⟩:=rfl;rw[e]at hh y u A B x C D F ⊢;refine gA I (zp (BV var) ?_);refine gA I (hZ (d146 w (fO var)) ?_);refine gA I (yy (d147 (aU w (fO var)) [var,qY,⟨#[109,97,120]⟩,qZ] (by simp) (by rw[D,aO];omega)) I I I I I I I I I I I I I I I I (by(repeat' (first|exact ac|exact rfl|exact ak.refl _|exact ak.bk (by assumption)|apply S3))<;>first|omega|(simp only[S7];omega)|(simp;done)|(simp;omega)) I (by(repeat' (first|exact ac|exact rfl|exact ak.refl _|exact ak.bk (by assumption)|apply S3))<;>first|omega|(simp only[S7];omega)|(simp;done)|(simp;omega)) ?_);generalize J:aS (aU w (fO var)) [var,qY,⟨#[109,97,120]⟩,qZ]=w1 at*
  have G:pD w1 ⟨4,var,d,body⟩=aS (c2 17 w1 d) [EM]:=rfl;rw[G]at y u A B x C ⊢;refine zJ I I (fun q=>?_) fun q=>?_
  .exact absurd (show jp=is from q) (by decide)
  have hx:=dw 17 w1 d;refine gA I (hZ (oD w1 d (by omega)) ?_);refine gA I (i6 (d147 (c2 17 w1 d) [EM] (by simp) (by rw[bp,e5];omega)) ?_);generalize aS (c2 17 w1 d) [EM]=w2 at*
  refine gA I (hZ (d214 n ih (vE w2 1) body hs (by omega) (by omega) (by omega) hn) ?_);generalize de (dF n) body (vE w2 1) body.length=w3 at*
  refine gA I (go_wp (d147 (vE w3 (-1)) [zj] (by simp) (by rw[bp,Z];show w3.l.length+2<=_;omega)) I I I I I I I I I I I I ?_);refine gA I iH
set_option maxHeartbeats 4000000 in
theorem Ew(n:Nat)(ih:HC n)(hn:n<=100000000):HC (n+1):=by
 intro l w hs J Y hb;have D:Bb.size=4:=rfl;have B:=l.size_eq;have C:=l.rV;have A:l.agg.ts=l.bH.size+l.j7.ts+Lit.ki l.ay:=rfl;have G:dF (n+1) l w=Bx (dF n) l (aU w (kM l)):=rfl;rw[G];have Z:(aU w (kM l)).l.length=w.l.length:=rfl;have a0:=uC w (kM l);have hx:=dw 17 (aU w (kM l)) l.left;obtain⟨kind,atom,op,left,right,dP,bH,j7,ay,at_⟩:=l;dsimp only[Lit.atom,Lit.left,Lit.right,Lit.bH,Lit.j7,Lit.ay]at B C A hx;refine an ab func185 I (by decide) ntmps185 I (by simp) ?_;refine gA I (zp (Sz (.mk kind atom op left right dP bH j7 ay at_)) ?_);refine gA I (hZ (d146 w (kM (.mk kind atom op left right dP bH j7 ay at_))) ?_);generalize aU w (kM (.mk kind atom op left right dP bH j7 ay at_))=w1 at*
 have F:Bx (dF n) (.mk kind atom op left right dP bH j7 ay at_) w1=if kind=2 then gT (aS w1 [Bb]) atom else if kind=1 then gT w1 atom
  else if kind=3 then(if op<1∨7<=op then mB (c2 17 w1 left) else c2 17 (aS (c2 17 w1 left) [vb op]) right)
  else if kind=4 then yM (dF n) w1 (Lit.mk kind atom op left right dP bH j7 ay at_).agg else mB w1:=rfl
 rw[F];refine zJ I I (fun u=>?_) fun u=>?_
 .have u:kind=2:=zT u;rw[am u];refine gA I (i6 (d147 w1 [Bb] (by simp) (by rw[bp,D];omega)) ?_);refine gA I (hZ (d104 (aS w1 [Bb]) atom (by rw[aH,D];omega)) ?_);refine gA I iH
 have u: ¬kind=2:=zF u;rw[be u];refine zJ I I (fun j=>?_) fun j=>?_
 .have j:kind=1:=zT j;rw[am j];refine gA I (hZ (d104 w1 atom (by omega)) ?_);refine gA I iH
 have j: ¬kind=1:=zF j;rw[be j];refine zE I I (fun x=>?_) fun x=>?_
 .have x: ¬kind=3:=zF x;rw[be x];refine zJ I I (fun y=>?_) fun y=>?_
  .have y:kind=4:=zT y;rw[am y];refine gA I (hZ (d190 n ih w1 (Lit.mk kind atom op left right dP bH j7 ay at_).agg (by show Lit.au ay<=n;omega) (by omega) (by omega) (by omega) hn) ?_);refine gA I iH
  .have y: ¬kind=4:=zF y;rw[be y];refine gA I iH
 have x:kind=3:=zT x;rw[am x];refine gA I (hZ (oD w1 left (by omega)) ?_);refine zE I I (fun g1=>?_) fun g1=>?_
 .rw[am (.inl (zT g1))];refine gA I iH
 refine zJ I I (fun g2=>?_) fun g2=>?_
 .rw[am (.inr (zT g2))];refine gA I iH
 have g1: ¬op<1:=zF g1;have g2: ¬op>=7:=zF g2;rw[be (by rintro(h|h)<;>omega)];generalize c2 17 w1 left=w2 at*
 have ho:op=1∨op=2∨op=3∨op=4∨op=5∨op=6:=by omega
 clear F G;rcases ho with rfl|rfl|rfl|rfl|rfl|rfl
 .have e:vb 1=⟨#[32,61,32]⟩:=rfl;have d:((⟨#[32,61,32]⟩:ae)).size=3:=rfl;rw[e];refine ik I (by dsimp only[Lit.op];exact(by(repeat' (first|exact ac|exact rfl|exact ak.refl _|exact ak.bk (by assumption)|apply S3))<;>first|omega|(simp only[S7];omega)|(simp;done)|(simp;omega))) (go_wp (d147 w2 [⟨#[32,61,32]⟩] (by simp) (by rw[bp,d];omega)) I I I I I I I I I I I I ?_);refine gA I (hZ (oD (aS w2 [⟨#[32,61,32]⟩]) right (by rw[aH,d];omega)) ?_);refine gA I iH
 .have e:vb 2=⟨#[32,33,61,32]⟩:=rfl;have d:((⟨#[32,33,61,32]⟩:ae)).size=4:=rfl;rw[e];refine ik I (by dsimp only[Lit.op];exact(by(repeat' (first|exact ac|exact rfl|exact ak.refl _|exact ak.bk (by assumption)|apply S3))<;>first|omega|(simp only[S7];omega)|(simp;done)|(simp;omega))) (go_wp (d147 w2 [⟨#[32,33,61,32]⟩] (by simp) (by rw[bp,d];omega)) I I I I I I I I I I I I ?_);refine gA I (hZ (oD (aS w2 [⟨#[32,33,61,32]⟩]) right (by rw[aH,d];omega)) ?_);refine gA I iH
 .have e:vb 3=⟨#[32,60,32]⟩:=rfl;have d:((⟨#[32,60,32]⟩:ae)).size=3:=rfl;rw[e];refine ik I (by dsimp only[Lit.op];exact(by(repeat' (first|exact ac|exact rfl|exact ak.refl _|exact ak.bk (by assumption)|apply S3))<;>first|omega|(simp only[S7];omega)|(simp;done)|(simp;omega))) (go_wp (d147 w2 [⟨#[32,60,32]⟩] (by simp) (by rw[bp,d];omega)) I I I I I I I I I I I I ?_);refine gA I (hZ (oD (aS w2 [⟨#[32,60,32]⟩]) right (by rw[aH,d];omega)) ?_);refine gA I iH
 .have e:vb 4=⟨#[32,60,61,32]⟩:=rfl;have d:((⟨#[32,60,61,32]⟩:ae)).size=4:=rfl;rw[e];refine ik I (by dsimp only[Lit.op];exact(by(repeat' (first|exact ac|exact rfl|exact ak.refl _|exact ak.bk (by assumption)|apply S3))<;>first|omega|(simp only[S7];omega)|(simp;done)|(simp;omega))) (go_wp (d147 w2 [⟨#[32,60,61,32]⟩] (by simp) (by rw[bp,d];omega)) I I I I I I I I I I I I ?_);refine gA I (hZ (oD (aS w2 [⟨#[32,60,61,32]⟩]) right (by rw[aH,d];omega)) ?_);refine gA I iH
 .have e:vb 5=⟨#[32,62,32]⟩:=rfl;have d:((⟨#[32,62,32]⟩:ae)).size=3:=rfl;rw[e];refine ik I (by dsimp only[Lit.op];exact(by(repeat' (first|exact ac|exact rfl|exact ak.refl _|exact ak.bk (by assumption)|apply S3))<;>first|omega|(simp only[S7];omega)|(simp;done)|(simp;omega))) (go_wp (d147 w2 [⟨#[32,62,32]⟩] (by simp) (by rw[bp,d];omega)) I I I I I I I I I I I I ?_);refine gA I (hZ (oD (aS w2 [⟨#[32,62,32]⟩]) right (by rw[aH,d];omega)) ?_);refine gA I iH
 .have e:vb 6=⟨#[32,62,61,32]⟩:=rfl;have d:((⟨#[32,62,61,32]⟩:ae)).size=4:=rfl;rw[e];refine ik I (by dsimp only[Lit.op];exact(by(repeat' (first|exact ac|exact rfl|exact ak.refl _|exact ak.bk (by assumption)|apply S3))<;>first|omega|(simp only[S7];omega)|(simp;done)|(simp;omega))) (go_wp (d147 w2 [⟨#[32,62,61,32]⟩] (by simp) (by rw[bp,d];omega)) I I I I I I I I I I I I ?_);refine gA I (hZ (oD (aS w2 [⟨#[32,62,61,32]⟩]) right (by rw[aH,d];omega)) ?_);refine gA I iH
theorem OD: ∀n,n<=100000001->HC n
 |0,_=>fun l w d=>by have:=l.size_pos;omega
 |n+1,h=>Ew n (OD n (by omega)) (by omega)
section
abbrev WS.o:WS:=⟨is,[],jp,0⟩
section
variable {nt:NT} {Q:AQ} {k:List KI} {s:AS}
def wN(s:AS)(i:Nat):AS:=match s with|⟨f,h,n⟩=>⟨f,(i,dl (WS.o.px i n))::(n,dl (.bt [] 5))::h,n+1⟩
theorem yv{P:Program}{c:Code}{s':AS}(i:Nat)(hi:s.h.get i=dl (.cells [.iv (.v (.pointer io)),.iv (.v (.slice io 0 0)),pB jp,pI 0] (dl 188)))
  (hs:wN s i=s') (h:GO P nt (.code c::k) Q s'):GO P nt (.code c::k) Q s:=by
 subst hs;intro M N a w B;obtain⟨sf,sh,u⟩:=s;obtain⟨h1,Z⟩:=B.1.K3 5;have F:i<u:=B.1.used i _ hi;have G:i≠u:=fun e=>by omega
 have x:AH.get ((u,dl (AO.bt [] 5))::sh) i=dl (.cells [.iv (.v (.pointer io)),.iv (.v (.slice io 0 0)),pB jp,pI 0] (dl 188)):=by
  rw[AH.ax,be G];exact hi
 obtain⟨y,T,e1,e2,e3,A,e5⟩:=Z.obj i _ x;have hv: ∀(j:Nat) (p:PV),[PV.eZ is i,.sl u 0 0 1,pB jp,pI 0][j]? =dl p->VR M N (· <u+1) p (y.getD j undef):=by
  intro j p d
  match j,d with
  |0,d=>
   cases d;have:=A 0 _ I;generalize y.getD 0 undef=v at this ⊢;cases this with
   |iv _ _ h=>cases h with
    |v=>exact .eZ is i (UC F)
  |1,d=>
   cases d;have:=A 1 _ I;generalize y.getD 1 undef=v at this ⊢;cases this with
   |iv _ _ h=>cases h with
    |v=>exact .lH _ _ (Ut _)
  |2,d=>exact A 2 p d
  |3,d=>exact A 3 p d
  |j+4,d=>cases d
 obtain⟨g1,g2⟩:=Z.write (i:=i) (o0:= .cells [.iv (.v (.pointer io)),.iv (.v (.slice io 0 0)),pB jp,pI 0] (dl 188)) x I w (WS.o.px i u) I I I I (fun _ _=>rfl) ⟨y,T,e1,e2,e3,hv,e5⟩;have C:Fits M N ⟨sf,(i,dl (WS.o.px i u))::(u,dl (.bt [] 5))::sh,u+1⟩ nt a w:=
  ⟨g2,fun k=>(B.2.1 k).mono (.refl _) (.refl _ _) (fun i hi=>UC hi),B.2.2⟩
 exact AW.then h C fun e a2 w2 M2 N2 s2 Y D J=>⟨M2,N2,s2,(h1.trans g1).trans Y,D,J⟩
end
def WS.told(w:WS):PV:= .aZ [pS (if w.bad=is then⟨#[]⟩ else⟨w.l.toArray⟩),pI (if w.bad=is then 50 else 0)]
theorem d105(w:WS):bB prog 100 [.ptr 0 0] w.O w.told [] 2:=by
 refine an ab func100 I (by decide) ntmps100 I (by simp) ?_;refine zJ I I (fun g=>?_) fun g=>?_
 .have g:w.bad=is:=g;unfold WS.told;rw[am g,am g];refine gA I (zD [] I (zW ac))
 .have g: ¬w.bad=is:=by
   have g:w.bad=jp:=g;rw[g];decide
  unfold WS.told;rw[be g,be g];refine gA I (zq [0,1] (d150 w) ?_);refine gA I (zD [] I (zW ac))
def Rx(a:Atom):PV:=(gT WS.o a).told
def R7(l:Lit):PV:=(dF l.size l WS.o).told
theorem c61(a:Atom)(hb:a.ts<=900000000):Pure prog 210 [ag a.c] (Rx a):=by
 refine ai ab func210 I (by decide) ntmps210 I (by simp) I ?_;refine gM 12 I (yv 1 I I ?_);refine gA I (hZ (d104 WS.o a (by simpa using hb)) ?_);refine gA I (zq [1,3] (d105 (gT WS.o a)) ?_);exact zU I
theorem SM(l:Lit)(hb:l.ts<=900000000)(hs:l.size<=100000000):Pure prog 211 [ag l.c] (R7 l):=by
 refine ai ab func211 I (by decide) ntmps211 I (by simp) I ?_;refine gM 12 I (yv 1 I I ?_);refine gA I (hZ (OD l.size (by omega) l WS.o (S9 _) (by decide) (by decide) (by simpa using hb)) ?_);refine gA I (zq [1,3] (d105 (dF l.size l WS.o)) ?_);exact zU I
end
def oU(d:Decl)(i k:Int):Int:=
 if(d.types.any fun x=>!kw (x=1)&&!kw (x=2))=is∨fY d.name=jp then 1
 else if i>=64∨(d.types.length:Int)>8 then 66 else if k>0 then 60 else 0
theorem SN(d:Decl)(i k:Int):Pure prog 171 [ag d.c,pI i,pI k] (pI (oU d i k)):=by
 refine ai ab func171 I (by decide) ntmps171 I (by simp) I ?_;refine gA I (zq [] (d153 d.types) ?_);refine zE I I (fun g1=>?_) fun g1=>?_
 .rw[oU,am (.inl (by simpa using g1))];exact zU I
 have g1: ¬(d.types.any fun x=>!kw (x=1)&&!kw (x=2))=is:=by
  have g1:(d.types.any fun x=>!kw (x=1)&&!kw (x=2))=jp:=g1;rw[g1];decide
 refine gA I (zp (Rs d.name) ?_);refine zJ I I (fun g2=>?_) fun g2=>?_
 .have g2:fY d.name=jp:=by simpa using g2
  rw[oU,am (.inr g2)];exact zU I
 have g2: ¬fY d.name=jp:=by
  have g2:fY d.name=is:=by simpa using g2
  rw[g2];decide
 rw[oU,be (by rintro(h|h);exact g1 h;exact g2 h)];refine zE I I (fun g3=>?_) fun g3=>?_
 .rw[am (.inl (by simpa using g3))];exact zU I
 have g3: ¬i>=64:=zF g3;refine zJ I I (fun g4=>?_) fun g4=>?_
 .rw[am (.inr (zT g4))];exact zU I
 have g4: ¬(d.types.length:Int)>8:=zF g4;rw[be (by rintro(h|h);exact g3 h;exact g4 h)];refine zJ I I (fun g5=>?_) fun g5=>?_
 .rw[am (zT g5)];exact zU I
 .rw[be (zF g5)];exact zU I
abbrev cz:=(KC.si .i64).K
def cz.z:cz:=(Ta,0)
def cz.c(s:cz):List IV:=[iS s.1,iI s.2]
def spE(s:cz):IV:= .agg s.c
def spZ:Value:= .agg #[.string Ta,.int .i64 0]
def dvP:PV->cz
 | .agg [.iv (.v (.string s)),.iv (.v (.int _ a))]=>(s,a)
 |_=>cz.z
abbrev UM:=List (cz×cz)
abbrev KM:=List (cz×Int)
abbrev oi(m:UM):AO:= .map (.si .i64) spE cz.z spZ dvP m
abbrev upI(m:UM):IV:= .eJ (.si .i64) spE cz.z spZ m
abbrev ow(m:KM):AO:= .map (.si .i64) yQ 0 (.int .i64 0) Sg m
abbrev kdI(m:KM):IV:= .eJ (.si .i64) yQ 0 (.int .i64 0) m
structure Want where
 lit:Int
 at_:cz
 kind:Int
 has:Int
 deriving Inhabited
def Want.c(w:Want):List IV:=[iI w.lit,iS w.at_.1,iI w.at_.2,iI w.kind,iI w.has]
structure TS where
 up:UM
 ws:List Want
 kind:KM
abbrev TS.cell(r:aq)(u j n k:Nat):AO:= .cells [.iv (cF r),.mp u,.sl j 0 n 5,.mp k]
abbrev TS.O(r:aq)(t:TS):List AO:=[TS.cell r 1 2 t.ws.length 3,oi t.up,aY 5 t.ws Want.c,ow t.kind]
abbrev TS.K(r:aq)(t:TS):AH:=[(0,dl (TS.cell r 1 2 t.ws.length 3)),(1,dl (oi t.up)),(2,dl (aY 5 t.ws Want.c)),(3,dl (ow t.kind))]
abbrev TS.H(r:aq)(t:TS):AH:=[(0,dl (TS.cell r 1 4 t.ws.length 3)),(1,dl (oi t.up)),(4,dl (aY 5 t.ws Want.c)),(3,dl (ow t.kind))]
def eh(r:aq)(s:ae)(w:Int):cz:=(s,if cI .str (aI (aF r)) s 0>0 then-1 else w)
theorem d136(r:aq)(t:TS)(s:ae)(w:Int):bB prog 302 [.ptr 0 0,pS s,pI w] (t.O r) (ag (eh r s w).c) (t.K r) 4:=by
 refine an ab func302 I (by decide) ntmps302 I (by simp) ?_;refine zJ I I (fun g=>?_) fun g=>?_
 .have e:eh r s w=(s, -1):=by unfold eh;rw[am (zT g)]
  rw[e];refine gA I (zD [] I (zW (zO (zC ⟨⟨_,rfl,.of_eq (bK _).symm⟩,SY I,cP _,zC ac⟩))))
 .have e:eh r s w=(s,w):=by unfold eh;rw[be (zF g)]
  rw[e];refine gA I (zD [] I (zW (zO (zC ⟨⟨_,rfl,.of_eq (bK _).symm⟩,SY I,cP _,zC ac⟩))))
def bV:UM->cz->cz
 | [],v=>v
 |(x,y)::r,v=>if x=v then bV r y else bV r v
def il:UM->Prop
 | []=>True
 |(x,y)::r=>x≠y∧(∀q∈r,q.1≠x)∧(∀q∈r,q.2≠x)∧il r
def Dw:UM->cz->Nat
 | [],_=>0
 |(x,_)::r,v=>if x=v then r.length+1 else Dw r v
theorem EY: ∀(m:UM) (v:cz),Dw m v<=m.length
 | [],_=>S9 _
 |(x,y)::r,v=>by
  have:=EY r v;unfold Dw;split
  .simp
  .simp;omega
theorem pZ: ∀(m:UM) (v:cz),cY (.si .i64) m v=jp->bV m v=v
 | [],_,_=>rfl
 |(x,y)::r,v,h=>by
  unfold cY at h;unfold bV;split at h
  .cases h
  .rename_i d;rw[be d];exact pZ r v h
theorem mK: ∀(m:UM) (v:cz),il m->cY (.si .i64) m v=is->bV m (cI (.si .i64) m v cz.z)=bV m v∧Dw m (cI (.si .i64) m v cz.z)<Dw m v
 | [],_,_,h=>nomatch h
 |(x,y)::r,v,ok,h=>by
  obtain⟨D,J,F,G⟩:=ok;by_cases u:x=v
  .subst u;have e:cI (.si .i64) ((x,y)::r) x cz.z=y:=am I;rw[e];refine⟨?_,?_⟩
   .show(if x=y then bV r y else bV r y)=if x=x then bV r y else bV r x;rw[am I];split<;>rfl
   .show(if x=y then r.length+1 else Dw r y)<if x=x then r.length+1 else Dw r x;rw[am I,be D];have:=EY r y;omega
  .have e:cI (.si .i64) ((x,y)::r) v cz.z=cI (.si .i64) r v cz.z:=be u;have A:cY (.si .i64) r v=is:=by
    unfold cY at h;rw[be u]at h;exact h
   rw[e];obtain⟨g1,g2⟩:=mK r v G A;have j:cI (.si .i64) r v cz.z≠x:=by
    have: ∀(m:UM),(∀q∈m,q.2≠x)->cY (.si .i64) m v=is->cI (.si .i64) m v cz.z≠x:=by
     intro m
     induction m with
     |nil=>intro _ h;cases h
     |cons a r ih=>
      obtain⟨Y,Z⟩:=a;intro B h;unfold cY at h;unfold cI;split at h
      .rename_i d;rw[am d];exact B _ Tm
      .rename_i d;rw[be d];exact ih (fun q C=>B q (Tl _ C)) h
    exact this r F A
   refine⟨?_,?_⟩
   .show(if x=_ then bV r y else bV r _)=if x=v then bV r y else bV r v;rw[be (fun e=>j e.symm),be u];exact g1
   .show(if x=_ then r.length+1 else Dw r _)<if x=v then r.length+1 else Dw r v;rw[be (fun e=>j e.symm),be u];exact g2
theorem d52(r:aq)(t:TS)(v0:cz)(ok:il t.up):bB prog 268 [.ptr 0 0,ag v0.c] (t.O r) (ag (bV t.up v0).c) (t.K r) 4:=by
 refine an ab func268 I (by decide) ntmps268 I (by simp) ?_;refine gA I ?_
 refine ly (σ:={v:cz//bV t.up v=bV t.up v0}) (fun v=>⟨[(0,.ptr 0 0),(3,.ptr 4 0),(4,.ptr 5 0)],
  [(0,dl (TS.cell r 1 2 t.ws.length 3)),(1,dl (oi t.up)),(2,dl (aY 5 t.ws Want.c)),(3,dl (ow t.kind)),(4,dl (.cells [pS v.1.1,pI v.1.2])),(5,dl (.cells [pS ⟨#[]⟩,pI 0]))],6⟩) (fun v=>Dw t.up v.1) ⟨v0,rfl⟩ []
  (zW (zO (zC ⟨⟨_,rfl,.of_eq (bK _).symm⟩,SY I,cP _,zC ⟨⟨_,rfl,.of_eq I⟩,SY I,rfl,⟨_,rfl,.of_eq I⟩,SY I,rfl,ac⟩⟩))) fun v=>?_
 obtain⟨v,d⟩:=v;refine zJ I I (fun g=>?_) fun g=>?_
 .have h:cY (.si .i64) t.up v=jp:=by simpa using g
  have e:bV t.up v0=v:=by rw[<-d];exact pZ t.up v h
  refine gA I (zD [] I (zM ⟨.of_eq (congrArg (fun x:cz=>ag x.c) e.symm),rfl,ac⟩ (zO (zC ⟨⟨_,rfl,.of_eq (bK _).symm⟩,SY I,cP _,zC ac⟩))))
 .have h:cY (.si .i64) t.up v=is:=by simpa using g
  obtain⟨j,u⟩:=mK t.up v ok h;refine gA I ⟨⟨cI (.si .i64) t.up v cz.z,j.trans d⟩,[],u,zW (zO (zC ⟨⟨_,rfl,.of_eq (bK _).symm⟩,SY I,cP _,zC ⟨⟨_,rfl,.of_eq I⟩,SY I,rfl,⟨_,rfl,.of_eq I⟩,SY I,rfl,ac⟩⟩))⟩
def Nr(r:aq)(t:TS):IV:= .iY [cF r,upI t.up,bz 5 t.ws Want.c,kdI t.kind]
theorem c52(r:aq)(t:TS)(v0:cz)(ok:il t.up):Pure prog 268 [.iv (Nr r t),ag v0.c] (ag (bV t.up v0).c):=by
 refine ai ab func268 I (by decide) ntmps268 I (by simp) I ?_;refine gA I ?_
 refine ly (σ:={v:cz//bV t.up v=bV t.up v0}) (fun v=>⟨[(0,.iv (Nr r t)),(3,.ptr 0 0),(4,.ptr 1 0)],
  [(0,dl (.cells [pS v.1.1,pI v.1.2])),(1,dl (.cells [pS ⟨#[]⟩,pI 0]))],2⟩) (fun v=>Dw t.up v.1) ⟨v0,rfl⟩ []
  (zW ⟨⟨_,rfl,.of_eq I⟩,SY I,rfl,⟨_,rfl,.of_eq I⟩,SY I,rfl,ac⟩) fun v=>?_
 obtain⟨v,d⟩:=v;refine zJ I I (fun g=>?_) fun g=>?_
 .have h:cY (.si .i64) t.up v=jp:=by simpa using g
  have e:bV t.up v0=v:=by rw[<-d];exact pZ t.up v h
  refine gA I (zL (.of_eq ?_));exact congrArg (fun x:cz=>ag x.c) e.symm
 .have h:cY (.si .i64) t.up v=is:=by simpa using g
  obtain⟨j,u⟩:=mK t.up v ok h;refine gA I ⟨⟨cI (.si .i64) t.up v cz.z,j.trans d⟩,[],u,zW ⟨⟨_,rfl,.of_eq I⟩,SY I,rfl,⟨_,rfl,.of_eq I⟩,SY I,rfl,ac⟩⟩
def tG(t:TS)(w:Want):Int:=if w.has=0 then cI (.si .i64) t.kind (bV t.up w.at_) 0 else w.has
def rU(t:TS)(lit:Int)(w:Want):Bool:=kw (w.lit=lit)&&!kw (tG t w=w.kind)
def qQ(t:TS)(lit:Int):Bool:=t.ws.any (rU t lit)
theorem SI(r:aq)(t:TS)(lit:Int)(ok:il t.up)(hb:t.ws.length<=1000000000000):Pure prog 223 [.iv (Nr r t),pI lit] (pB (qQ t lit)):=by
 refine ai ab func223 I (by decide) ntmps223 I (by simp) I ?_;refine gA I ?_;refine aJ 0 t.ws.length (Te _) (fun i=>⟨[(0,.iv (Nr r t)),(1,pI lit),(11,.iv (bz 5 t.ws Want.c)),(12,pI t.ws.length),(13,pI i)],[],0⟩) (fun i=>(t.ws.take i).any (rU t lit)=jp) [] I
  (zW trivial) fun i C B=>?_
 refine zJ I I (fun d=>?_) fun d=>?_
 .have d:i<t.ws.length:=by simpa using d
  have A:=c5 B d;refine zJ I I (fun x=>?_) fun x=>?_
  .have x:(t.ws.getD i co).has=0:=zT x;refine gA I (B1 (c52 r t (t.ws.getD i co).at_ ok) ?_);have y:tG t (t.ws.getD i co)=cI (.si .i64) t.kind (bV t.up (t.ws.getD i co).at_) 0:=am x;refine zJ I I (fun j=>?_) fun j=>?_
   .have j:(t.ws.getD i co).lit=lit:=zT j;refine zJ I I (fun u=>?_) fun u=>?_
    .have u: ¬tG t (t.ws.getD i co)=(t.ws.getD i co).kind:=by rw[y];simpa using u
     have e:qQ t lit=is:=Uq.2 ⟨t.ws.getD i co,by rw[S4,S5 d];exact T8 d,by rw[rU,decide_eq_true j,decide_eq_false u];rfl⟩;refine gA I (zL (.of_eq ?_));rw[e]
    .have u:tG t (t.ws.getD i co)=(t.ws.getD i co).kind:=by rw[y];simpa using u
     refine gA I ⟨d,A.2 (by rw[rU,decide_eq_true u,VC,U9]),[],zW ac⟩
   .have j: ¬(t.ws.getD i co).lit=lit:=by simpa using j
    refine gA I ⟨d,A.2 (by rw[rU,decide_eq_false j];rfl),[],zW ac⟩
  .have x: ¬(t.ws.getD i co).has=0:=zF x;have y:tG t (t.ws.getD i co)=(t.ws.getD i co).has:=be x;refine zJ I I (fun j=>?_) fun j=>?_
   .have j:(t.ws.getD i co).lit=lit:=zT j;refine zJ I I (fun u=>?_) fun u=>?_
    .have u: ¬tG t (t.ws.getD i co)=(t.ws.getD i co).kind:=by rw[y];simpa using u
     have e:qQ t lit=is:=Uq.2 ⟨t.ws.getD i co,by rw[S4,S5 d];exact T8 d,by rw[rU,decide_eq_true j,decide_eq_false u];rfl⟩;refine gA I (zL (.of_eq ?_));rw[e]
    .have u:tG t (t.ws.getD i co)=(t.ws.getD i co).kind:=by rw[y];simpa using u
     refine gA I ⟨d,A.2 (by rw[rU,decide_eq_true u,VC,U9]),[],zW ac⟩
   .have j: ¬(t.ws.getD i co).lit=lit:=by simpa using j
    refine gA I ⟨d,A.2 (by rw[rU,decide_eq_false j];rfl),[],zW ac⟩
 .have d:t.ws.length<=i:=by simpa using d
  rw[Tf d]at B;refine gA I (zL (.of_eq ?_));rw[qQ,B]
section
section
variable (r:aq) (lit w:Int)
def lX(e:Expr):List Want:=if e.kind=1 then[⟨lit,eh r e.var w,1,0⟩] else if e.kind=2 then[⟨lit,cz.z,1,e.val.kind⟩] else[]
mutual
def gh:Expr->List Want
 | .mk k v val op args=>lX r lit w (.mk k v val op args)++(if k=4 then sb args else[])
def sb:List Expr->List Want
 | []=> []
 |e::s=>gh e++sb s
end
theorem Ab: ∀l:List Expr,sb r lit w l=l.flatMap (gh r lit w)
 | []=>rfl
 |e::s=>by rw[sb,TJ,Ab s]
def iz(e:Expr):List Want:=if e.kind=4 then e.args.flatMap (gh r lit w) else[]
theorem CJ(e:Expr):gh r lit w e=lX r lit w e++iz r lit w e:=by
 cases e;rw[gh,Ab];rfl
end
abbrev TS.add(t:TS)(l:List Want):TS:=⟨t.up,t.ws++l,t.kind⟩
section
variable {nt:NT} {Q:AQ} {k:List KI} {s:AS}
def tS(s:AS)(r:aq)(t:TS)(i u j m:Nat):AS:=match s with|⟨f,h,n⟩=>⟨f,(i,dl (TS.cell r u n t.ws.length m))::(u,dl (oi t.up))::(n,dl (aY 5 t.ws Want.c))::(m,dl (ow t.kind))::(i,io)::(u,io)::(j,io)::(m,io)::h,n+1⟩
theorem P0(s:AS)(r:aq)(t:TS)(i u j m:Nat):tS s r t i u j m=⟨s.f,(i,dl (TS.cell r u s.nx t.ws.length m))::(u,dl (oi t.up))::(s.nx,dl (aY 5 t.ws Want.c))::(m,dl (ow t.kind))::(i,io)::(u,io)::(j,io)::(m,io)::s.h,s.nx+1⟩:=by cases s;rfl
def tR(s:AS)(r:aq)(t:TS)(i u j m:Nat):AS:=match s with|⟨f,h,n⟩=>⟨f,(i,dl (TS.cell r u j t.ws.length m))::(u,dl (oi t.up))::(j,dl (aY 5 t.ws Want.c))::(m,dl (ow t.kind))::(i,io)::(u,io)::(j,io)::(m,io)::h,n⟩
theorem P1(s:AS)(r:aq)(t:TS)(i u j m:Nat):tR s r t i u j m=⟨s.f,(i,dl (TS.cell r u j t.ws.length m))::(u,dl (oi t.up))::(j,dl (aY 5 t.ws Want.c))::(m,dl (ow t.kind))::(i,io)::(u,io)::(j,io)::(m,io)::s.h,s.nx⟩:=by cases s;rfl
theorem E7{o:Oper}{c:Call}{g:FuncId}{args A:List PV}{r:aq}{t B:TS}{y:PV}{i u j m n:Nat}{es:List (List PV)}{s':AS}(hc:bB prog g (.ptr 0 0::args) (t.O r) y (B.H r) 5)(ho:o.op= .call c)(ha:bS s.f c=dl (g,.ptr i 0::A))
  (hi:s.h.get i=dl (TS.cell r u j n m)) (hu:s.h.get u=dl (oi t.up)) (hj:s.h.get j=dl (.row 5 es)) (hm:s.h.get m=dl (ow t.kind)) (hn:n=t.ws.length) (he:es=t.ws.map fun x=>(Want.c x).map .iv)
  (hlt:[i,u,j,m].all (fun x=>Tv x s.nx)=is) (hnd:cM [i,u,j,m]=is) (has:A=args) (hlow:bA 0 args=is) (hr:y.low 0=is)
  (hp:putDst nt o y (tS s r B i u j m)=dl s'):OT prog nt o s (fun t=>t=s'):=by
 subst has;subst hn;subst he;have d: ∀σ,di σ A=A:=fun σ=>gY σ A hlow;refine mh ho ha hc (fh hnd) (fun j hj=>SY (TI.1 hlt j hj)) ?_ ?_ ?_
 .simp only[Tg,Tx,hi,hu,hj,hm,bK];rfl
 .simp only[di,d];rfl
 .rintro q C n0 ⟨rfl,rfl,rfl⟩;rw[PV.jw _ _ hr];rw[P0]at hp;refine⟨s',?_,rfl⟩;rw[<-hp];simp only[TS.H,aP,xU,T4,bK];rfl
theorem E3{o:Oper}{c:Call}{g:FuncId}{args A:List PV}{r:aq}{t:TS}{y:PV}{i u j m n:Nat}{es:List (List PV)}{s':AS}(hc:bB prog g (.ptr 0 0::args) (t.O r) y (t.K r) 4)(ho:o.op= .call c)(ha:bS s.f c=dl (g,.ptr i 0::A))
  (hi:s.h.get i=dl (TS.cell r u j n m)) (hu:s.h.get u=dl (oi t.up)) (hj:s.h.get j=dl (.row 5 es)) (hm:s.h.get m=dl (ow t.kind)) (hn:n=t.ws.length) (he:es=t.ws.map fun x=>(Want.c x).map .iv)
  (hlt:[i,u,j,m].all (fun x=>Tv x s.nx)=is) (hnd:cM [i,u,j,m]=is) (has:A=args) (hlow:bA 0 args=is) (hr:y.low 0=is)
  (hp:putDst nt o y (tR s r t i u j m)=dl s'):OT prog nt o s (fun t=>t=s'):=by
 subst has;subst hn;subst he;have d: ∀σ,di σ A=A:=fun σ=>gY σ A hlow;refine mh ho ha hc (fh hnd) (fun j hj=>SY (TI.1 hlt j hj)) ?_ ?_ ?_
 .simp only[Tg,Tx,hi,hu,hj,hm,bK];rfl
 .simp only[di,d];rfl
 .rintro q B n0 ⟨rfl,rfl,rfl⟩;rw[PV.jw _ _ hr];rw[P1]at hp;refine⟨s',?_,rfl⟩;rw[<-hp];simp only[TS.K,aP,xU,T4,bK];rfl
theorem Ap{all rest:List Oper}{o:Oper}{c:Call}{g:FuncId}{args y:List PV}{r:aq}{t A:TS}{d:PV}{i u j m n:Nat}{es:List (List PV)}{s':AS}(hc:bB prog g (.ptr 0 0::args) (t.O r) d (A.H r) 5)(ho:o.op= .call c)(hg:o.guard=io)(ha:bS s.f c=dl (g,.ptr i 0::y))
  (hi:s.h.get i=dl (TS.cell r u j n m)) (hu:s.h.get u=dl (oi t.up)) (hj:s.h.get j=dl (.row 5 es)) (hm:s.h.get m=dl (ow t.kind)) (hn:n=t.ws.length) (he:es=t.ws.map fun x=>(Want.c x).map .iv)
  (hlt:[i,u,j,m].all (fun x=>Tv x s.nx)=is) (hnd:cM [i,u,j,m]=is) (has:y=args) (hlow:bA 0 args=is) (hr:d.low 0=is)
  (hp:putDst nt o d (tS s r A i u j m)=dl s') (h:GO prog nt (.ops all rest::k) Q s'):GO prog nt (.ops all (o::rest)::k) Q s:=
 bw hg (E7 hc ho ha hi hu hj hm hn he hlt hnd has hlow hr hp) fun t B=>by subst B;exact h
theorem C6{all rest:List Oper}{o:Oper}{c:Call}{g:FuncId}{args y:List PV}{r:aq}{t A:TS}{d:PV}{i u j m n:Nat}{es:List (List PV)}{s':AS}(hc:bB prog g (.ptr 0 0::args) (t.O r) d (A.H r) 5)(h:GO prog nt (.ops all rest::k) Q s')(ho:o.op= .call c:=by exact rfl)(hg:o.guard=io:=by exact rfl)(ha:bS s.f c=dl (g,.ptr i 0::y):=by exact rfl)(hi:s.h.get i=dl (TS.cell r u j n m):=by exact rfl)(hu:s.h.get u=dl (oi t.up):=by exact rfl)(hj:s.h.get j=dl (.row 5 es):=by exact rfl)(hm:s.h.get m=dl (ow t.kind):=by exact rfl)(hn:n=t.ws.length:=by first|rfl|(rw[S1];rfl)|simp)(he:es=t.ws.map fun x=>(Want.c x).map .iv:=by first|rfl|(rw[Tc];rfl)|(simp only[Tc,Tb];rfl))(hlt:[i,u,j,m].all (fun x=>Tv x s.nx)=is:=by exact rfl)(hnd:cM [i,u,j,m]=is:=by exact rfl)(has:y=args:=by exact rfl)(hlow:bA 0 args=is:=by exact rfl)(hr:d.low 0=is:=by exact rfl)(hp:putDst nt o d (tS s r A i u j m)=dl s':=by exact rfl):GO prog nt (.ops all (o::rest)::k) Q s:=Ap (hc:=hc) (ho:=ho) (hg:=hg) (ha:=ha) (hi:=hi) (hu:=hu) (hj:=hj) (hm:=hm) (hn:=hn) (he:=he) (hlt:=hlt) (hnd:=hnd) (has:=has) (hlow:=hlow) (hr:=hr) (hp:=hp) (h:=h)
theorem ON{all:List Oper}{todo pend:List (Nat×Oper)}{y:Nat}{B A:Prop}{o:Oper}{c:Call}{g:FuncId}{args C:List PV}{r:aq}{t:TS}{d:PV}{i u j m n:Nat}{es:List (List PV)}{s':AS}(hc:bB prog g (.ptr 0 0::args) (t.O r) d (t.K r) 4)
  (hrd:fB todo=[(y,o)]) (ho:o.op= .call c) (ha:bS s.f c=dl (g,.ptr i 0::C))
  (hi:s.h.get i=dl (TS.cell r u j n m)) (hu:s.h.get u=dl (oi t.up)) (hj:s.h.get j=dl (.row 5 es)) (hm:s.h.get m=dl (ow t.kind)) (hn:n=t.ws.length) (he:es=t.ws.map fun x=>(Want.c x).map .iv)
  (hlt:[i,u,j,m].all (fun x=>Tv x s.nx)=is) (hnd:cM [i,u,j,m]=is) (has:C=args) (hlow:bA 0 args=is) (hr:d.low 0=is)
  (hp:putDst nt o d (tR s r t i u j m)=dl s')
  (hg:cj nt all s.f o=dl is) (hpb:iQ all pend o=is) (hE:od todo [y]=is)
  (hag:oh mz nt all s todo pend=dl B) (hCA:B) (hag2:dZ mz nt all s' (bh pend o)=dl A) (hC2:A)
  (h:GO prog nt (.cf all (todo.filter fun x=>!Tw x.1 y) (bh pend o)::k) Q s'):GO prog nt (.cf all todo pend::k) Q s:=
 l9 ab hrd hg hpb hE hag hCA (E3 hc ho ha hi hu hj hm hn he hlt hnd has hlow hr hp) hag2 hC2 h
theorem mZ{all:List Oper}{todo pend:List (Nat×Oper)}{y:Nat}{B A:Prop}{o:Oper}{c:Call}{g:FuncId}{args C:List PV}{r:aq}{t:TS}{d:PV}{i u j m n:Nat}{es:List (List PV)}{s':AS}(hc:bB prog g (.ptr 0 0::args) (t.O r) d (t.K r) 4)(h:GO prog nt (.cf all (todo.filter fun x=>!Tw x.1 y) (bh pend o)::k) Q s')(hrd:fB todo=[(y,o)]:=by exact rfl)(ho:o.op= .call c:=by exact rfl)(ha:bS s.f c=dl (g,.ptr i 0::C):=by exact rfl)(hi:s.h.get i=dl (TS.cell r u j n m):=by exact rfl)(hu:s.h.get u=dl (oi t.up):=by exact rfl)(hj:s.h.get j=dl (.row 5 es):=by exact rfl)(hm:s.h.get m=dl (ow t.kind):=by exact rfl)(hn:n=t.ws.length:=by first|rfl|(rw[S1];rfl)|simp)(he:es=t.ws.map fun x=>(Want.c x).map .iv:=by first|rfl|(rw[Tc];rfl)|(simp only[Tc,Tb];rfl))(hlt:[i,u,j,m].all (fun x=>Tv x s.nx)=is:=by exact rfl)(hnd:cM [i,u,j,m]=is:=by exact rfl)(has:C=args:=by exact rfl)(hlow:bA 0 args=is:=by exact rfl)(hr:d.low 0=is:=by exact rfl)(hp:putDst nt o d (tR s r t i u j m)=dl s':=by exact rfl)(hg:cj nt all s.f o=dl is:=by exact rfl)(hpb:iQ all pend o=is:=by exact rfl)(hE:od todo [y]=is:=by exact rfl)(hag:oh mz nt all s todo pend=dl B:=by exact rfl)(hCA:B:=by(repeat' (first|exact ac|exact rfl|exact ak.refl _|exact ak.bk (by assumption)|apply S3))<;>first|omega|(simp only[S7];omega)|(simp;done)|(simp;omega))(hag2:dZ mz nt all s' (bh pend o)=dl A:=by exact rfl)(hC2:A:=by(repeat' (first|exact ac|exact rfl|exact ak.refl _|exact ak.bk (by assumption)|apply S3))<;>first|omega|(simp only[S7];omega)|(simp;done)|(simp;omega)):GO prog nt (.cf all todo pend::k) Q s:=ON (hc:=hc) (hrd:=hrd) (ho:=ho) (ha:=ha) (hi:=hi) (hu:=hu) (hj:=hj) (hm:=hm) (hn:=hn) (he:=he) (hlt:=hlt) (hnd:=hnd) (has:=has) (hlow:=hlow) (hr:=hr) (hp:=hp) (hg:=hg) (hpb:=hpb) (hE:=hE) (hag:=hag) (hCA:=hCA) (hag2:=hag2) (hC2:=hC2) (h:=h)
theorem MC{l:List ResultVar}{r0:PV}{e:Exit}{r:aq}{u:TS}{d:PV}{j n:Nat}{es:List (List PV)}(he:e= .normal∨e= .ret)(hr:jv mz s l=dl r0)(hi:s.h.get 0=dl (TS.cell r 1 j n 3))(hu:s.h.get 1=dl (oi u.up))(hj:s.h.get j=dl (.row 5 es))(hm:s.h.get 3=dl (ow u.kind))
  (hn:n=u.ws.length) (hes:es=u.ws.map fun x=>(Want.c x).map .iv) (hlt:Tv j s.nx=is) (hnd:cM [0,1,j,3]=is) (hns:UW 4 s.nx=is) (hrl:ak r0 d) (hlow:d.low 0=is) (hlow5:d.low 5=is):B0 mz l 4 d (u.H r) 5 e s:=by
 subst hn;subst hes;refine aC [j] he hr ⟨rfl,SY hns,fun x y=>?_,⟨?_,hlow5,ac⟩,⟨⟨_,hi,.of_eq I⟩,SY I,rfl,⟨_,hu,.of_eq I⟩,SY I,ac,⟨_,hj,.of_eq (bK _).symm⟩,SY I,cP _,⟨_,hm,.of_eq I⟩,SY I,ac,ac⟩,?_⟩
 .simp only[Tk]at y;subst y;exact SY hlt
 .rw[PV.jw _ _ hlow];exact hrl
 .exact fh hnd
theorem vK{l:List ResultVar}{r0:PV}{e:Exit}{r:aq}{u:TS}{d:PV}{j n:Nat}{es:List (List PV)}(he:e= .normal∨e= .ret:=by first|exact .inr I|exact .inl I)(hr:jv mz s l=dl r0:=by exact rfl)(hi:s.h.get 0=dl (TS.cell r 1 j n 3):=by exact rfl)(hu:s.h.get 1=dl (oi u.up):=by exact rfl)(hj:s.h.get j=dl (.row 5 es):=by exact rfl)(hm:s.h.get 3=dl (ow u.kind):=by exact rfl)(hn:n=u.ws.length:=by first|rfl|(rw[S1];rfl)|simp)(hes:es=u.ws.map fun x=>(Want.c x).map .iv:=by first|rfl|(rw[Tc];rfl)|(simp only[Tc,Tb];rfl))(hlt:Tv j s.nx=is:=by exact rfl)(hnd:cM [0,1,j,3]=is:=by exact rfl)(hns:UW 4 s.nx=is:=by exact rfl)(hrl:ak r0 d:=by exact .refl _)(hlow:d.low 0=is:=by exact rfl)(hlow5:d.low 5=is:=by exact rfl):B0 mz l 4 d (u.H r) 5 e s:=MC (he:=he) (hr:=hr) (hi:=hi) (hu:=hu) (hj:=hj) (hm:=hm) (hn:=hn) (hes:=hes) (hlt:=hlt) (hnd:=hnd) (hns:=hns) (hrl:=hrl) (hlow:=hlow) (hlow5:=hlow5)
theorem K0{n0 i u j m n:Nat}{es:List (List PV)}{J:AF}{r:aq}{t d:TS}(hw:t=d)(hi:s.h.get i=dl (TS.cell r u j n m))(hu:s.h.get u=dl (oi t.up))(hj:s.h.get j=dl (.row 5 es))(hm:s.h.get m=dl (ow t.kind))
  (hn:n=t.ws.length) (hes:es=t.ws.map fun x=>(Want.c x).map .iv) (hlt:Tv j s.nx=is) (hnd:cM [i,u,j,m]=is) (h0:[i,u,m].all (fun x=>Tv x n0)=is) (hns:UW n0 s.nx=is) (hf:EI (n0+1) (sg n0 [j]) s.f J):
  Wk n0 [j] s ⟨J,[(i,dl (TS.cell r u n0 d.ws.length m)),(u,dl (oi d.up)),(n0,dl (aY 5 d.ws Want.c)),(m,dl (ow d.kind))],n0+1⟩:=by
 subst hw;subst hn;subst hes;simp only[VD,List.all_nil,Bool.and_true,Tz]at h0;have y:i<n0:=SY h0.1;have B:u<n0:=SY h0.2.1;have A:m<n0:=SY h0.2.2;have s0:sg n0 [j] i=i:=fW y;have C:sg n0 [j] u=u:=fW B;have D:sg n0 [j] m=m:=fW A;have Y:Tv n0 n0=jp:=Vs.2 fun e=>absurd (SY e) (by omega);have F:sg n0 [j] n0=j:=by simp[sg,Y]
 have c1:Tv u (n0+1)=is:=T6 (by omega);have Z:Tv m (n0+1)=is:=T6 (by omega);have cn:Tv n0 (n0+1)=is:=T6 (by omega);refine⟨rfl,SY hns,fun x G=>?_,hf,⟨⟨_,by rw[s0];exact hi,?_⟩,by show i<n0+1;omega,?_,⟨_,by rw[C];exact hu,.of_eq I⟩,by show u<n0+1;omega,ac,⟨_,by rw[F];exact hj,.of_eq (bK _).symm⟩,Ut _,cP _,⟨_,by rw[D];exact hm,.of_eq I⟩,by show m<n0+1;omega,ac,ac⟩,?_⟩
 .simp only[Tk]at G;subst G;exact SY hlt
 .simp only[AO.b3,di,PV.b3,C,D,F];exact .of_eq I
 .simp[AO.low,bA,PV.low,c1,Z,cn]
 .simp only[eY,s0,C,D,F];exact fh hnd
theorem oH{n0 i u j m n:Nat}{es:List (List PV)}{y:AF}{r:aq}{t d:TS}(hw:t=d)(hi:s.h.get i=dl (TS.cell r u j n m):=by exact rfl)(hu:s.h.get u=dl (oi t.up):=by exact rfl)(hj:s.h.get j=dl (.row 5 es):=by exact rfl)(hm:s.h.get m=dl (ow t.kind):=by exact rfl)(hn:n=t.ws.length:=by first|rfl|(rw[S1];rfl)|simp)(hes:es=t.ws.map fun x=>(Want.c x).map .iv:=by first|rfl|(rw[Tc];rfl)|(simp only[Tc,Tb];rfl))(hlt:Tv j s.nx=is:=by exact rfl)(hnd:cM [i,u,j,m]=is:=by exact rfl)(h0:[i,u,m].all (fun x=>Tv x n0)=is:=by exact rfl)(hns:UW n0 s.nx=is:=by exact rfl)(hf:EI (n0+1) (sg n0 [j]) s.f y:=by repeat' (first|exact ac|exact ak.refl _|exact rfl|apply S3)):Wk n0 [j] s ⟨y,[(i,dl (TS.cell r u n0 d.ws.length m)),(u,dl (oi d.up)),(n0,dl (aY 5 d.ws Want.c)),(m,dl (ow d.kind))],n0+1⟩:=K0 (hw:=hw) (hi:=hi) (hu:=hu) (hj:=hj) (hm:=hm) (hn:=hn) (hes:=hes) (hlt:=hlt) (hnd:=hnd) (h0:=h0) (hns:=hns) (hf:=hf)
end
theorem TS.add_add(t:TS)(a b:List Want):(t.add a).add b=t.add (a++b):=by simp[TS.add]
theorem TS.add_nil(t:TS):t.add []=t:=by simp[TS.add]
def KX(r:aq)(n:Nat):Prop:= ∀(t:TS) (e:Expr) (lit w:Int),e.size<=n->t.ws.length+Expr.au e.args<=1000000000->bB prog 303 [.ptr 0 0,ag e.c,pI lit,pI w] (t.O r) (.aZ []) ((t.add (iz r lit w e)).H r) 5
def O8(r:aq)(n:Nat):Prop:= ∀(t:TS) (e:Expr) (lit w:Int),e.size<=n->t.ws.length+e.size<=1000000000->bB prog 266 [.ptr 0 0,ag e.c,pI lit,pI w] (t.O r) (.aZ []) ((t.add (gh r lit w e)).H r) 5
theorem d92(r:aq)(n:Nat)(y:KX r n):O8 r n:=by
 intro t e lit w x hb;have A:=e.size_eq;rw[CJ,<-TS.add_add];refine an ab func266 I (by decide) ntmps266 I (by simp) ?_;refine zJ I I (fun d=>?_) fun d=>?_
 .have d:e.kind=1:=zT d;have u:lX r lit w e=[⟨lit,eh r e.var w,1,0⟩]:=am d;rw[u];refine gA I (mZ (d136 r t e.var w) ?_);refine gA I (Ap (y (t.add [⟨lit,eh r e.var w,1,0⟩]) e lit w x (by show(t.ws++_).length+_<=_;rw[S1,TU];omega)) I I I I I I I (by first|rfl|(rw[S1];rfl)|simp) (by first|rfl|(rw[Tc];rfl)|(simp only[Tc,Tb];rfl)) I I I I I I ?_);refine gA I vK
 have d: ¬e.kind=1:=zF d;refine zJ I I (fun j=>?_) fun j=>?_
 .have j:e.kind=2:=zT j;have u:lX r lit w e=[⟨lit,cz.z,1,e.val.kind⟩]:=by unfold lX;rw[be d,am j]
  rw[u];refine gA I (Ap (y (t.add [⟨lit,cz.z,1,e.val.kind⟩]) e lit w x (by show(t.ws++_).length+_<=_;rw[S1,TU];omega)) I I I I I I I (by first|rfl|(rw[S1];rfl)|simp) (by first|rfl|(rw[Tc];rfl)|(simp only[Tc,Tb];rfl)) I I I I I I ?_);refine gA I vK
 .have j: ¬e.kind=2:=zF j;have u:lX r lit w e=[]:=by unfold lX;rw[be d,be j]
  rw[u,TS.add_nil];refine gA I (C6 (y t e lit w x (by omega)) ?_);refine gA I vK
theorem gZ(r:aq)(lit w:Int): ∀e:Expr,(gh r lit w e).length<=e.size
 | .mk k v val op args=>by
  rw[gh,Expr.size,S1];have d:(lX r lit w (.mk k v val op args)).length<=1:=by
   unfold lX
   repeat' split
   all_goals simp
  have j:(if k=4 then sb r lit w args else[]).length<=Expr.au args:=by
   split
   .exact numRs_len args
   .simp
  omega
where
 numRs_len: ∀l:List Expr,(sb r lit w l).length<=Expr.au l
 | []=>by simp[sb]
 |e::s=>by
  have h1:=gZ r lit w e;have h2:=numRs_len s;rw[sb,Expr.au,S1];omega
theorem F7(r:aq)(lit w:Int)(l:List Expr)(i:Nat)(h:i<l.length):((l.take i).flatMap (gh r lit w)).length+(l.getD i co).size<=Expr.au l:=by
 have d: ∀l:List Expr,(l.flatMap (gh r lit w)).length<=Expr.au l:=by
  intro l
  induction l with
  |nil=>simp
  |cons e s ih=>
   have:=gZ r lit w e;rw[TJ,S1,Expr.au];omega
 have u:=d (l.take i);have j: ∀(l:List Expr) (i:Nat),i<l.length->Expr.au (l.take i)+(l.getD i co).size<=Expr.au l:=by
  intro l
  induction l with
  |nil=>intro i h;simp at h
  |cons e s ih=>
   intro i h;cases i with
   |zero=>simp[Expr.au]
   |succ i=>
    have:=ih i (by simpa using h);simp only[Un,Um,Expr.au];omega
 have:=j l i h;omega
theorem d137(r:aq)(n:Nat)(A:O8 r n):KX r (n+1):=by
 intro t e lit w F hb;have y:=e.size_eq;refine bB.le (args:=[.ptr 0 0,ag e.c1,pI lit,pI w]) ?_ ⟨.refl _,e.CO,.refl _,.refl _,ac⟩;have x:=Expr.aA e.args;refine an ab func303 I (by decide) ntmps303 I (by simp) ?_;refine zE I I (fun k=>?_) fun k=>?_
 .have k: ¬e.kind=4:=zF k;have j:iz r lit w e=[]:=be k;rw[j,TS.add_nil];refine gA I vK
 have k:e.kind=4:=zT k;have j:iz r lit w e=e.args.flatMap (gh r lit w):=am k;rw[j];refine gA I ?_
 refine aJ 0 e.args.length (Te _) (fun i=>⟨[(0,.ptr 0 0),(2,pI lit),(3,pI w),(14,.iv (bz 7 e.args Expr.c)),(15,pI e.args.length),(16,pI i)],
  [(0,dl (TS.cell r 1 5 (t.add ((e.args.take i).flatMap (gh r lit w))).ws.length 3)),(1,dl (oi (t.add ((e.args.take i).flatMap (gh r lit w))).up)),(5,dl (aY 5 (t.add ((e.args.take i).flatMap (gh r lit w))).ws Want.c)),(3,dl (ow (t.add ((e.args.take i).flatMap (gh r lit w))).kind))],6⟩) (fun _=>True) _ ac
  (K0 (t:=t) (TS.add_nil t).symm I I I I I I I I I I (bi (bi (bi (bi (bi (bi trivial))))))) fun i C _=>?_
 refine zJ I I (fun d=>?_) fun d=>?_
 .have d:i<e.args.length:=by simpa using d
  have u:=bq (f:=gh r lit w) d;have D:=F7 r lit w e.args i d;have B:=Expr.b6 e.args i d;refine gA I (Ap (A (t.add ((e.args.take i).flatMap (gh r lit w))) (e.args.getD i co) lit w (by omega) (by show(t.ws++_).length+_<=_;rw[S1];omega)) I I I I I I I (by first|rfl|(rw[S1];rfl)|simp) (by first|rfl|(rw[Tc];rfl)|(simp only[Tc,Tb];rfl)) I I I I I I ?_);refine gA I ⟨d,ac,_,K0 ((by rw[TS.add_add,u])) I I I I (by first|rfl|(rw[S1];rfl)|simp) (by first|rfl|(rw[Tc];rfl)|(simp only[Tc,Tb];rfl)) I I I I (bi (bi (bi (bi (bi (bi ac))))))⟩
 .have d:e.args.length<=i:=by simpa using d
  rw[Tf d];refine gA I vK
end
theorem rn(r:aq): ∀n,O8 r n∧KX r n
 |0=>by
  have d:KX r 0:=fun t e lit w u=>by have:=e.size_pos;omega
  exact⟨d92 r 0 d,d⟩
 |n+1=>by
  have j:=d137 r n (rn r n).1;exact⟨d92 r (n+1) j,j⟩
theorem G8(r:aq)(t:TS)(e:Expr)(lit w:Int)(hb:t.ws.length+e.size<=1000000000):bB prog 266 [.ptr 0 0,ag e.c,pI lit,pI w] (t.O r) (.aZ []) ((t.add (gh r lit w e)).H r) 5:=(rn r e.size).1 t e lit w (S9 _) hb
theorem MF(r:aq)(t:TS)(e:Expr)(lit w:Int)(hb:t.ws.length+e.size<=1000000000):bB prog 303 [.ptr 0 0,ag e.c,pI lit,pI w] (t.O r) (.aZ []) ((t.add (iz r lit w e)).H r) 5:=(rn r e.size).2 t e lit w (S9 _) (by have:=e.size_eq;omega)
def typeAt(p:Prog)(a:Atom)(i:Nat):Int:=(eF p a.rel).types.getD i co
def lI(p:Prog)(a:Atom)(i:Nat):Bool:=kw (i<(eF p a.rel).types.length)&&(kw (typeAt p a i=1)||decide (typeAt p a i=2))
def kJ(p:Prog)(r:aq)(a:Atom)(lit w:Int)(i:Nat):List Want:=
 if lI p a i=jp then[]
 else if(a.aj.getD i co).kind=1 then[⟨lit,eh r (a.aj.getD i co).var w,typeAt p a i,0⟩]
 else if(a.aj.getD i co).kind=2 then[⟨lit,cz.z,typeAt p a i,(a.aj.getD i co).val.kind⟩] else[]
def gj(p:Prog)(r:aq)(a:Atom)(lit w:Int):Nat->List Want
 |0=> []
 |i+1=>gj p r a lit w i++kJ p r a lit w i
theorem A5(p:Prog)(r:aq)(a:Atom)(lit w:Int)(i:Nat):(kJ p r a lit w i).length<=1:=by
 unfold kJ
 repeat' split
 all_goals simp
theorem mn(p:Prog)(r:aq)(a:Atom)(lit w:Int): ∀i,(gj p r a lit w i).length<=i
 |0=>S9 _
 |i+1=>by
  have d:=mn p r a lit w i;have j:=A5 p r a lit w i;rw[gj,S1];omega
set_option maxHeartbeats 1000000 in
theorem d90(p:Prog)(r:aq)(t:TS)(a:Atom)(lit w:Int)(hb:t.ws.length+a.aj.length<=1000000000):bB prog 264 [.ptr 0 0,.iv (cT p),ag a.c,pI lit,pI w] (t.O r) (.aZ []) ((t.add (gj p r a lit w a.aj.length)).H r) 5:=by
 refine an ab func264 I (by decide) ntmps264 I (by simp) ?_;refine gA I ?_
 refine aJ 0 a.aj.length (Te _) (fun i=>⟨[(0,.ptr 0 0),(3,pI lit),(4,pI w),(10,.iv (bz 1 (eF p a.rel).types eI)),(19,.iv (bz 5 a.aj Term.c)),(20,pI a.aj.length),(21,pI i)],
  [(0,dl (TS.cell r 1 5 (t.add (gj p r a lit w i)).ws.length 3)),(1,dl (oi (t.add (gj p r a lit w i)).up)),(5,dl (aY 5 (t.add (gj p r a lit w i)).ws Want.c)),(3,dl (ow (t.add (gj p r a lit w i)).kind))],6⟩) (fun _=>True) _ ac
  (K0 (t:=t) (TS.add_nil t).symm I I I I I I I I I I (bi (bi (bi (bi (bi (bi (bi trivial)))))))) fun i D _=>?_
 refine zE I I (fun x=>?_) fun x=>?_
 .have x:a.aj.length<=i:=by simpa using x
  have:i=a.aj.length:=by omega
  subst this;refine gA I vK
 have x:i<a.aj.length:=by simpa using x
 have F:=mn p r a lit w i;have d:t.add (gj p r a lit w (i+1))=(t.add (gj p r a lit w i)).add (kJ p r a lit w i):=by rw[TS.add_add];rfl
 have C:(t.add (gj p r a lit w i)).ws.length<=t.ws.length+i:=by show(t.ws++_).length<=_;rw[S1];omega
 generalize t.add (gj p r a lit w i)=t1 at*
 refine zE I I (fun g1=>?_) fun g1=>?_
 .have g1: ¬i<(eF p a.rel).types.length:=by have g:=zT (show kw ((i:Int)>=((eF p a.rel).types.length:Int))=is from g1);omega
  have A:lI p a i=jp:=by rw[lI,decide_eq_false g1];rfl
  have y:kJ p r a lit w i=[]:=am A;rw[y,TS.add_nil]at d;refine gA I ⟨x,ac,_,oH (d.symm)⟩
 have g1:i<(eF p a.rel).types.length:=by have g:=zF (show kw ((i:Int)>=((eF p a.rel).types.length:Int))=jp from g1);omega
 refine zJ I I (fun g2=>?_) fun g2=>?_
 .have g2: ¬typeAt p a i=1:=by simpa[typeAt]using g2
  refine zJ I I (fun g3=>?_) fun g3=>?_
  .have g3: ¬typeAt p a i=2:=by simpa[typeAt]using g3
   have A:lI p a i=jp:=by rw[lI,decide_eq_true g1,decide_eq_false g2,decide_eq_false g3];rfl
   have y:kJ p r a lit w i=[]:=am A;rw[y,TS.add_nil]at d;refine gA I ⟨x,ac,_,oH (d.symm)⟩
  .have g3:typeAt p a i=2:=by simpa[typeAt]using g3
   have B:lI p a i=is:=by rw[lI,decide_eq_true g1,decide_eq_true g3,Bool.or_true];rfl
   have y:kJ p r a lit w i=if(a.aj.getD i co).kind=1 then[⟨lit,eh r (a.aj.getD i co).var w,typeAt p a i,0⟩]
    else if(a.aj.getD i co).kind=2 then[⟨lit,cz.z,typeAt p a i,(a.aj.getD i co).val.kind⟩] else[]:=by unfold kJ;rw[B];exact be (by decide)
   rw[y]at d;refine zJ I I (fun j=>?_) fun j=>?_
   .have j:(a.aj.getD i co).kind=1:=zT j;rw[am j]at d;refine gA I (mZ (d136 r t1 (a.aj.getD i co).var w) ?_);refine gA I ⟨x,ac,_,oH (d.symm)⟩
   have j: ¬(a.aj.getD i co).kind=1:=zF j;rw[be j]at d;refine zJ I I (fun u=>?_) fun u=>?_
   .have u:(a.aj.getD i co).kind=2:=zT u;rw[am u]at d;refine gA I ⟨x,ac,_,oH (d.symm)⟩
   .have u: ¬(a.aj.getD i co).kind=2:=zF u;rw[be u,TS.add_nil]at d;refine gA I ⟨x,ac,_,oH (d.symm)⟩
 .have g2:typeAt p a i=1:=by simpa[typeAt]using g2
  have B:lI p a i=is:=by rw[lI,decide_eq_true g1,decide_eq_true g2];rfl
  have y:kJ p r a lit w i=if(a.aj.getD i co).kind=1 then[⟨lit,eh r (a.aj.getD i co).var w,typeAt p a i,0⟩]
   else if(a.aj.getD i co).kind=2 then[⟨lit,cz.z,typeAt p a i,(a.aj.getD i co).val.kind⟩] else[]:=by unfold kJ;rw[B];exact be (by decide)
  rw[y]at d;refine zJ I I (fun j=>?_) fun j=>?_
  .have j:(a.aj.getD i co).kind=1:=zT j;rw[am j]at d;refine gA I (mZ (d136 r t1 (a.aj.getD i co).var w) ?_);refine gA I ⟨x,ac,_,oH (d.symm)⟩
  have j: ¬(a.aj.getD i co).kind=1:=zF j;rw[be j]at d;refine zJ I I (fun u=>?_) fun u=>?_
  .have u:(a.aj.getD i co).kind=2:=zT u;rw[am u]at d;refine gA I ⟨x,ac,_,oH (d.symm)⟩
  .have u: ¬(a.aj.getD i co).kind=2:=zF u;rw[be u,TS.add_nil]at d;refine gA I ⟨x,ac,_,oH (d.symm)⟩
def vJ(t:TS)(u v:cz):TS:=if u=v then t else⟨cH (.si .i64) t.up u v,t.ws,t.kind⟩
def sV(y:Expr):Int:=if y.kind=2 then y.val.kind else 1
def gk(r:aq)(lit w:Int)(t:TS)(x y:Expr):TS:=
 if y.kind=1 then vJ t (bV t.up (eh r x.var w)) (bV t.up (eh r y.var w))
 else t.add (if x.kind=1 then[⟨lit,eh r x.var w,sV y,0⟩] else if x.kind=2 then[⟨lit,cz.z,sV y,x.val.kind⟩] else[⟨lit,cz.z,sV y,1⟩])
def iF(r:aq)(lit w:Int)(t:TS)(a b:Expr):TS:=
 if b.kind=1 then gk r lit w ((t.add (iz r lit w a)).add (iz r lit w b)) b a else gk r lit w ((t.add (iz r lit w a)).add (iz r lit w b)) a b
theorem Jk{u v:cz}(h:(!(kw (u.1=v.1)&&(kw (u.2=v.2)&&is)))=is):u≠v:=by
 rintro rfl;simp at h
theorem Jl{u v:cz}(h:(!(kw (u.1=v.1)&&(kw (u.2=v.2)&&is)))=jp):u=v:=by
 simp at h;exact Prod.ext h.1 h.2
theorem qv(r:aq)(lit w:Int)(e:Expr):(iz r lit w e).length<=e.size:=by
 have d:=gZ r lit w e;rw[CJ,S1]at d;omega
set_option maxHeartbeats 1000000 in
theorem d93(r:aq)(t:TS)(a b:Expr)(lit w:Int)(ok:il t.up)(hb:t.ws.length+a.size+b.size<=1000000000):bB prog 267 [.ptr 0 0,ag a.c,ag b.c,pI lit,pI w] (t.O r) (.aZ []) ((iF r lit w t a b).H r) 5:=by
 have F:=qv r lit w a;have G:=qv r lit w b;have D:iF r lit w t a b=if b.kind=1 then gk r lit w ((t.add (iz r lit w a)).add (iz r lit w b)) b a else gk r lit w ((t.add (iz r lit w a)).add (iz r lit w b)) a b:=rfl;rw[D];have B:il ((t.add (iz r lit w a)).add (iz r lit w b)).up:=ok;refine an ab func267 I (by decide) ntmps267 I (by simp) ?_;refine gA I (C6 (MF r t a lit w (by omega)) ?_);refine gA I (Ap (MF r (t.add (iz r lit w a)) b lit w (by show(t.ws++_).length+_<=_;rw[S1];omega)) I I I I I I I (by first|rfl|(rw[S1];rfl)|simp) (by first|rfl|(rw[Tc];rfl)|(simp only[Tc,Tb];rfl)) I I I I I I ?_);have J:((t.add (iz r lit w a)).add (iz r lit w b)).ws.length<=t.ws.length+a.size+b.size:=by
  show((t.ws++_)++_).length<=_;rw[S1,S1];omega
 generalize(t.add (iz r lit w a)).add (iz r lit w b)=t1 at*
 refine zJ I I (fun u=>?_) fun u=>?_
 .have u:b.kind=1:=zT u;rw[am u];refine zJ I I (fun j=>?_) fun j=>?_
  .have j:a.kind=2:=zT j;have C: ¬a.kind=1:=by omega
   have hh:sV a=a.val.kind:=am j;have y:gk r lit w t1 b a=t1.add [⟨lit,eh r b.var w,sV a,0⟩]:=by unfold gk;rw[be C,am u]
   rw[y,hh];refine zJ I I (fun x=>?_) fun x=>?_
   .exact absurd (zT x) C
   refine zE I I (fun d=>?_) fun d=>?_
   .exact absurd u (zF d)
   refine gA I (mZ (d136 r t1 b.var w) ?_);refine gA I vK
  .have j: ¬a.kind=2:=zF j;refine zJ I I (fun x=>?_) fun x=>?_
   .have x:a.kind=1:=zT x;have y:gk r lit w t1 b a=vJ t1 (bV t1.up (eh r b.var w)) (bV t1.up (eh r a.var w)):=am x;rw[y];refine gA I (mZ (d136 r t1 b.var w) ?_);refine gA I (mZ (d52 r t1 (eh r b.var w) B) ?_);refine gA I (mZ (d136 r t1 a.var w) ?_);refine gA I (mZ (d52 r t1 (eh r a.var w) B) ?_);refine zJ I I (fun d=>?_) fun d=>?_
    .have e:vJ t1 (bV t1.up (eh r b.var w)) (bV t1.up (eh r a.var w))=⟨cH (.si .i64) t1.up (bV t1.up (eh r b.var w)) (bV t1.up (eh r a.var w)),t1.ws,t1.kind⟩:=be (Jk d);rw[e];refine ik I (by repeat' (first|exact ac|exact rfl|exact agI (cz.c (bV t1.up (eh r a.var w)))|exact ak.refl _|apply S3)) (MC (by first|exact .inr I|exact .inl I) I I I I I I I I I I (.refl _) I I)
    .have e:vJ t1 (bV t1.up (eh r b.var w)) (bV t1.up (eh r a.var w))=t1:=am (Jl d);rw[e];refine gA I vK
   .have C: ¬a.kind=1:=zF x;have hh:sV a=1:=be j;have y:gk r lit w t1 b a=t1.add [⟨lit,eh r b.var w,sV a,0⟩]:=by unfold gk;rw[be C,am u]
    rw[y,hh];refine zE I I (fun d=>?_) fun d=>?_
    .exact absurd u (zF d)
    refine gA I (mZ (d136 r t1 b.var w) ?_);refine gA I vK
 have u: ¬b.kind=1:=zF u;rw[be u];have y:gk r lit w t1 a b=t1.add (if a.kind=1 then[⟨lit,eh r a.var w,sV b,0⟩] else if a.kind=2 then[⟨lit,cz.z,sV b,a.val.kind⟩] else[⟨lit,cz.z,sV b,1⟩]):=be u;rw[y];refine zJ I I (fun j=>?_) fun j=>?_
 .have j:b.kind=2:=zT j;have hh:sV b=b.val.kind:=am j;rw[hh];refine zJ I I (fun x=>?_) fun x=>?_
  .exact absurd (zT x) u
  refine zJ I I (fun d=>?_) fun d=>?_
  .rw[am (zT d)];refine gA I (mZ (d136 r t1 a.var w) ?_);refine gA I vK
  rw[be (zF d)];refine zJ I I (fun A=>?_) fun A=>?_
  .rw[am (zT A)];refine gA I vK
  .rw[be (zF A)];refine gA I vK
 .have j: ¬b.kind=2:=zF j;have hh:sV b=1:=be j;rw[hh];refine zJ I I (fun x=>?_) fun x=>?_
  .exact absurd (zT x) u
  refine zJ I I (fun d=>?_) fun d=>?_
  .rw[am (zT d)];refine gA I (mZ (d136 r t1 a.var w) ?_);refine gA I vK
  rw[be (zF d)];refine zJ I I (fun A=>?_) fun A=>?_
  .rw[am (zT A)];refine gA I vK
  .rw[be (zF A)];refine gA I vK
def ob(p:Prog)(r:aq)(lit w:Int)(t:TS)(l:Lit):TS:=
 if l.kind=1∨l.kind=2 then t.add (gj p r l.atom lit w l.atom.aj.length)
 else if l.kind=3 then(if l.op=1∨l.op=2 then iF r lit w t l.left l.right else(t.add (gh r lit w l.left)).add (gh r lit w l.right)) else t
theorem d91(p:Prog)(r:aq)(t:TS)(l:Lit)(lit w:Int)(ok:il t.up)(hb:t.ws.length+l.size<=1000000000):bB prog 265 [.ptr 0 0,.iv (cT p),ag l.c,pI lit,pI w] (t.O r) (.aZ []) ((ob p r lit w t l).H r) 5:=by
 have B:=l.size_eq;have C:=gZ r lit w l.left;refine an ab func265 I (by decide) ntmps265 I (by simp) ?_;refine zE I I (fun j=>?_) fun j=>?_
 .have j:l.kind=1:=by simpa using j
  have d:ob p r lit w t l=t.add (gj p r l.atom lit w l.atom.aj.length):=am (.inl j);rw[d];refine gA I (C6 (d90 p r t l.atom lit w (by omega)) ?_);refine gA I vK
 have j: ¬l.kind=1:=zF j;refine zJ I I (fun u=>?_) fun u=>?_
 .have u:l.kind=2:=zT u;have d:ob p r lit w t l=t.add (gj p r l.atom lit w l.atom.aj.length):=am (.inr u);rw[d];refine gA I (C6 (d90 p r t l.atom lit w (by omega)) ?_);refine gA I vK
 have u: ¬l.kind=2:=zF u;have d:ob p r lit w t l=if l.kind=3 then(if l.op=1∨l.op=2 then iF r lit w t l.left l.right else(t.add (gh r lit w l.left)).add (gh r lit w l.right)) else t:=be (by rintro(h|h);exact j h;exact u h);refine zJ I I (fun x=>?_) fun x=>?_
 .have x: ¬l.kind=3:=by simpa using x
  rw[be x]at d;rw[d];refine gA I vK
 have x:l.kind=3:=by simpa using x
 rw[am x]at d;refine zE I I (fun y=>?_) fun y=>?_
 .have y:l.op=1:=by simpa using y
  rw[am (.inl y)]at d;rw[d];refine gA I (C6 (d93 r t l.left l.right lit w ok (by omega)) ?_);refine gA I vK
 have y: ¬l.op=1:=zF y;refine zJ I I (fun A=>?_) fun A=>?_
 .have A:l.op=2:=zT A;rw[am (.inr A)]at d;rw[d];refine gA I (C6 (d93 r t l.left l.right lit w ok (by omega)) ?_);refine gA I vK
 .have A: ¬l.op=2:=zF A;rw[be (by rintro(h|h);exact y h;exact A h)]at d;rw[d];refine gA I (C6 (G8 r t l.left lit w (by omega)) ?_);refine gA I (Ap (G8 r (t.add (gh r lit w l.left)) l.right lit w (by show(t.ws++_).length+_<=_;rw[S1];omega)) I I I I I I I (by first|rfl|(rw[S1];rfl)|simp) (by first|rfl|(rw[Tc];rfl)|(simp only[Tc,Tb];rfl)) I I I I I I ?_);refine gA I vK
theorem oR: ∀(n:Nat) (m:UM) (v:cz),il m->Dw m v<=n->cY (.si .i64) m (bV m v)=jp
 |n,m,v,ok,hn=>by
  cases h:cY (.si .i64) m v with
  |false=>rw[pZ m v h];exact h
  |true=>
   obtain⟨d,j⟩:=mK m v ok h;cases n with
   |zero=>omega
   |succ n=>rw[<-d];exact oR n m _ ok (by omega)
theorem zA: ∀(m:UM) (u v:cz),cY (.si .i64) m u=jp->cH (.si .i64) m u v=m++ [(u,v)]
 | [],_,_,_=>rfl
 |(x,y)::r,u,v,h=>by
  unfold cY at h;split at h
  .cases h
  .rename_i d;show(if x=u then _ else(x,y)::cH (.si .i64) r u v)=_;rw[be d,zA r u v h];rfl
theorem Ao{m:UM}{u:cz}(h:cY (.si .i64) m u=jp): ∀q∈m,q.1≠u:=by
 induction m with
 |nil=>intro q hq;cases hq
 |cons a r ih=>
  obtain⟨x,y⟩:=a;unfold cY at h;split at h
  .cases h
  .rename_i d;intro q hq;rcases Tt.1 hq with rfl|hq
   .exact d
   .exact ih h q hq
theorem we: ∀{m:UM} {u v:cz},il m->(∀q∈m,q.1≠u)->(∀q∈m,q.1≠v)->u≠v->il (m++ [(u,v)])
 | [],u,v,_,_,_,hne=>⟨hne,fun q hq=>(nomatch hq),fun q hq=>(nomatch hq),ac⟩
 |(x,y)::r,u,v,⟨o1,o2,o3,o4⟩,hu,hv,hne=>by
  refine⟨o1,fun q hq=>?_,fun q hq=>?_,we o4 (fun q hq=>hu q (Tl _ hq)) (fun q hq=>hv q (Tl _ hq)) hne⟩
  .rcases Ts.1 hq with hq|hq
   .exact o2 q hq
   .simp only[Tk]at hq;subst hq;exact fun e=>hu _ Tm e.symm
  .rcases Ts.1 hq with hq|hq
   .exact o3 q hq
   .simp only[Tk]at hq;subst hq;exact fun e=>hv _ Tm e.symm
theorem Nw{t:TS}(ok:il t.up)(a b:cz):il (vJ t (bV t.up a) (bV t.up b)).up:=by
 unfold vJ;split
 .exact ok
 .rename_i d;have j:=oR _ t.up a ok (S9 _);have u:=oR _ t.up b ok (S9 _);show il (cH _ _ _ _);rw[zA _ _ _ j];exact we ok (Ao j) (Ao u) d
theorem xz(r:aq)(lit w:Int){t:TS}(ok:il t.up)(x y:Expr):il (gk r lit w t x y).up:=by
 unfold gk;split
 .exact Nw ok _ _
 .exact ok
theorem AY(r:aq)(lit w:Int){t:TS}(ok:il t.up)(a b:Expr):il (iF r lit w t a b).up:=by
 unfold iF;split
 .exact xz r lit w (t:=(t.add (iz r lit w a)).add (iz r lit w b)) ok _ _
 .exact xz r lit w (t:=(t.add (iz r lit w a)).add (iz r lit w b)) ok _ _
theorem Gk(p:Prog)(r:aq)(lit w:Int){t:TS}(ok:il t.up)(l:Lit):il (ob p r lit w t l).up:=by
 unfold ob
 repeat' split
 .exact ok
 .exact AY r lit w ok _ _
 .exact ok
 .exact ok
theorem Nv(t:TS)(u v:cz):(vJ t u v).ws=t.ws:=by unfold vJ;split<;>rfl
theorem vt(r:aq)(lit w:Int)(t:TS)(x y:Expr):(gk r lit w t x y).ws.length<=t.ws.length+1:=by
 unfold gk
 repeat' split
 .rw[Nv];omega
 all_goals(show(t.ws++_).length<=_;rw[S1,TU];omega)
theorem xy(r:aq)(lit w:Int)(t:TS)(a b:Expr):(iF r lit w t a b).ws.length<=t.ws.length+a.size+b.size+1:=by
 have d:=qv r lit w a;have j:=qv r lit w b;have u:((t.add (iz r lit w a)).add (iz r lit w b)).ws.length<=t.ws.length+a.size+b.size:=by
  show((t.ws++_)++_).length<=_;rw[S1,S1];omega
 unfold iF;split
 .exact TQ (vt _ _ _ _ _ _) (by omega)
 .exact TQ (vt _ _ _ _ _ _) (by omega)
theorem CN(p:Prog)(r:aq)(lit w:Int)(t:TS)(l:Lit):(ob p r lit w t l).ws.length<=t.ws.length+l.size:=by
 have d:=l.size_eq;have j:=mn p r l.atom lit w l.atom.aj.length;have u:=xy r lit w t l.left l.right;have x:=gZ r lit w l.left;have y:=gZ r lit w l.right;unfold ob
 repeat' split
 .show(t.ws++_).length<=_;rw[S1];omega
 .omega
 .show((t.ws++_)++_).length<=_;rw[S1,S1];omega
 .omega
end Go.Proofs.YtbhphmfbligliaaGreatDoor
