/-
  What the proofs of the claims need: part 1 of 5.
-/
import GoSem.Core.World
import Derived.Calls
import Derived.Laws.AppendOwn
import Derived.Below
import Derived.Laws.Cells
import Derived.Laws.Entries
import Derived.Laws.StructEq
import Derived.ChangeKeysEq
import Derived.WideLaws
import Derived.Tactics
import Derived.IntWalk
import Derived.WideShapes
import Derived.Lib.Strings
import Derived.MapKept
import Derived.Maps.RangeRun
import Derived.Still
import Derived.Scope
import Derived.Laws.CopyRow
import Derived.Laws.Append
open Array renaming append_assoc→V1,eraseIdxIfInBounds→Ww,foldl_toList→Wn,getD_eq_getD_getElem?→Tl,getElem?_append_left→T6,getElem?_append_right→Vu,getElem?_eq_getElem→Uq,getElem?_eq_none→V7,getElem?_eq_some_iff→Uf,getElem?_map→Vw,getElem?_modify→T8,getElem?_push→VF,getElem?_setIfInBounds→Ua,getElem?_toList→T5,length_toList→VX,mapM_eq_mapM_toList→Wr,mem_filter→W8,range→Wu,replicate→U3,size_append→UZ,toArray_toList→UH,toList_append→VG,toList_inj→W7
open Bool renaming and_eq_true→TZ,eq_iff_iff→UN,false_eq_true→VK,false_or→Vn,not_eq_true'→UD,not_true→VY,or_eq_true→Vr
open Classical renaming choose→VV,choose_spec→Vk
open Int renaming toNat_of_nonneg→VW
open List.Pairwise renaming nil→W1
open List renaming all_cons→VZ,all_eq_true→T7,any_eq_true→UO,append_assoc→Tz,append_inj→Xe,append_nil→T1,cons_append→TV,filter_sublist→Wh,flatten_cons→Wv,foldl_cons→Uc,forIn_cons→Xf,getD_eq_getElem?_getD→Tr,getElem?_append_left→TG,getElem?_append_right→TI,getElem?_cons_succ→VH,getElem?_drop→Uz,getElem?_eq_getElem→Ts,getElem?_eq_some_iff→Tp,getElem?_map→Tu,getElem?_of_mem→UB,getElem?_set→U9,getElem?_take→T4,getElem?_toArray→Ul,getElem_mem→Uw,headD_cons→Wg,length→Vp,length_append→Tn,length_cons→TO,length_drop→U5,length_map→T2,length_nil→UJ,length_pos_iff→UE,length_take→TY,map_append→TA,map_cons→TD,map_nil→TX,mem_append_left→Ue,mem_cons→TQ,mem_cons_of_mem→TH,mem_cons_self→TJ,mem_filter→Ub,mem_map→UG,mem_of_getElem?→Uv,mem_singleton→TF,nil_append→T3,nodup_cons→UF,nodup_nil→Us,pairwise_cons→UW,pairwise_iff_getElem→Ws,range→Uk,range'_succ→W6,size_toArray→VC
open List.cons renaming injEq→WI
open Nat renaming add_assoc→Ux,add_comm→V6,add_mul→Ug,add_zero→Vd,beq→TR,ble→Vm,ble_eq_true_of_le→Uu,blt→TU,eq_of_beq_eq_true→TM,eq_zero_or_pos→V2,le_of_ble_eq_true→Tk,le_of_not_lt→UR,le_refl→Tv,le_succ→Vg,le_trans→Uh,lt_of_lt_of_le→Vf,lt_or_ge→Un,lt_succ_of_lt→U0,lt_succ_self→US,mod_eq_of_lt→VU,mul_le_mul_right→TN,ne_of_lt→WC,not_lt_zero→Vs,sub_mul→WO,sub_zero→V4,succ_mul→U4,zero_add→TL,zero_le→TB,zero_mul→U6
open Option renaming getD_some→UI,map_eq_none_iff→V5,map_eq_some_iff→Tw,map_map→Wo,map_none→VA,map_some→Ut
open Option.some renaming inj→Uy,injEq→Tm
open Prod renaming fst→Ur
open Prod.mk renaming injEq→TC
set_option maxRecDepth 100000
open Bool renaming false→jp,true→is
open Decidable renaming decide→kw
open Inhabited renaming default→co
open Option renaming none→io,some→dl
namespace Go
theorem I.{u}{α:Sort u}{a:α}:a=a:=rfl
theorem ac:True:=trivial
theorem am.{u}{c:Prop}{h:Decidable c}(hc:c){α:Sort u}{t e:α}:(@ite α c h t e)=t:=if_pos hc
theorem be.{u}{c:Prop}{h:Decidable c}(hc:¬c){α:Sort u}{t e:α}:(@ite α c h t e)=e:=if_neg hc
end Go
namespace Go.Al
section
def o7:List Int:=[1,10,100,1000,10000,100000,1000000,10000000,100000000,1000000000,10000000000,100000000000,1000000000000,10000000000000,100000000000000,1000000000000000,10000000000000000,100000000000000000,1000000000000000000,10000000000000000000]
def O5:Nat->Option (Array Value)
 |0=>dl (o7.map fun z=>Value.int .u64 z).toArray
 |_=>io
abbrev FS:=List (Option IntKind)
@[reducible] def FK:FS->Type
 | []=>Unit
 |none::r=>ByteArray×FK r
 |some _::r=>Int×FK r
instance FK.R5:(s:FS)->DecidableEq (FK s)
 | []=>inferInstanceAs (DecidableEq Unit)
 |none::r=>have:=FK.R5 r;inferInstanceAs (DecidableEq (ByteArray×FK r))
 |some _::r=>have:=FK.R5 r;inferInstanceAs (DecidableEq (Int×FK r))
def FK.vs:(s:FS)->FK s->List Value
 | [],_=> []
 |none::r,k=> .string k.1::FK.vs r k.2
 |some q::r,k=> .int q k.1::FK.vs r k.2
inductive KC where
 |str
 |int (k:IntKind)
 |si (k:IntKind)
 |fl (s:FS)
 deriving DecidableEq
@[reducible] def KC.K:KC->Type
 | .str=>ByteArray
 | .int _=>Int
 | .si _=>ByteArray×Int
 | .fl s=>FK s
instance KC.R5:(c:KC)->DecidableEq c.K
 | .str=>inferInstanceAs (DecidableEq ByteArray)
 | .int _=>inferInstanceAs (DecidableEq Int)
 | .si _=>inferInstanceAs (DecidableEq (ByteArray×Int))
 | .fl s=>FK.R5 s
def KC.ek:(c:KC)->c.K->Value
 | .str,s=> .string s
 | .int k,n=> .int k n
 | .si k,x=> .agg #[.string x.1,.int k x.2]
 | .fl s,x=> .agg (FK.vs s x).toArray
inductive IV:Type 1 where
 |v (x:Value)
 |bU (sz n:Nat) (el:Nat->List IV)
 |i7 (cs:List IV)
 |agg (cs:List IV)
 |eP {V:Type} (kc:KC) (ev:V->IV) (z:V) (zv:Value) (m:List (kc.K×V))
 |oj (t:TypeId) (x:IV)
inductive PV:Type 1 where
 |iv (x:IV)
 |agg (cs:List PV)
 |aZ (cs:List PV)
 |ptr (i off:Nat)
 |c6 (i sz k off:Nat)
 |fj (z:Bool) (i:Nat)
 |pJ (i off n:Nat)
 |sl (i off len sz:Nat)
 |mp (i:Nat)
 |cN (fn:Fn) (first caps:List PV)
 |kb (b:Bool)
 |any
structure LC where
 ps:Array Tmp
 sL:Code
 bd:Code
 nt:Nat
inductive AO:Type 1 where
 |cells (cs:List PV) (T:Option TypeId:=io)
 |row (sz:Nat) (es:List (List PV))
 |bA (l:List UInt8) (T:TypeId)
 |fx
 |map {V:Type} (kc:KC) (ev:V->IV) (z:V) (zv:Value) (dv:PV->V) (m:List (kc.K×V))
 |b5 {V:Type} (kc:KC) (ev:V->IV) (m:List (kc.K×V)) (vs:List Nat) (cur:Option (kc.K×V))
 |dQ (s:ByteArray) (pos:Nat)
 |om {V:Type} (kc:KC) (ev:V->IV) (z:V) (zv:Value) (dv:PV->V) (m:List (kc.K×V)) (bs:List Nat) (clock:Nat)
 |iZ (mp:PV) (clock:Nat) (seen:List Nat)
 |fy (l:Nat) (c:LC) (f:List (Nat×PV))
inductive MB where
 |cells (c:Array Value)
 |map (ents:Array MapEntry) (clock:Nat)
structure Mem where
 fn:Nat->Option MB
 KG: ∀b c,O5 b=dl c->fn b=dl (.cells c)
instance:CoeFun Mem (fun _=>Nat->Option MB):=⟨Mem.fn⟩
def Mem.base:Mem:=⟨fun b=>(O5 b).map .cells,fun b c h=>by rw[h];rfl⟩
def y2(a:Option TypeId)(T:TypeId):Prop:= ∀t,a=dl t->T=t
theorem y2.none(T:TypeId):y2 io T:=fun _ h=>nomatch h
def Mem.cell(M:Mem)(b o:Nat):Option Value:=match M b with|some (.cells c)=>c[o]? |_=>io
def Mem.set(M:Mem)(b:Nat)(c:MB)(h:M b=io):Mem:=
 ⟨fun x=>if x=b then dl c else M x,fun x d j=>by
  rw[be fun e=>by have:=M.KG x d j;rw[e]at this;exact absurd (this.symm.trans h) (by simp)]
  exact M.KG x d j⟩
def MB.Eu(w:World)(b:Nat):MB->Prop
 | .cells c=> ∃T d,w.heap[b]? =dl (.cells c T d)
 | .map es cl=>w.heap[b]? =dl (.map es cl)
theorem MB.Eu.lt{w:World}{b:Nat}{m:MB}(h:m.Eu w b):b<w.heap.size:=by
 cases m with
 |cells c=>obtain⟨T,j,d⟩:=h;exact(Uf.1 d).1
 |map es cl=>exact(Uf.1 h).1
theorem MB.Eu.mono{w d:World}{b:Nat}{m:MB}(h:m.Eu w b)(e:d.heap[b]? =w.heap[b]?):m.Eu d b:=by
 cases m with
 |cells c=>obtain⟨T,j,u⟩:=h;exact⟨T,j,e.trans u⟩
 |map es cl=>exact e.trans h
structure Nm where
 aC:Nat->Nat
 ext:Nat->Nat
inductive IR (M:Mem):IV->Value->Prop
 |v (x:Value):IR M (.v x) x
 |fN (sz:Nat) (el:Nat->List IV) (a:Option Addr) (cap:Nat):IR M (.bU sz 0 el) (.slice a 0 cap)
 | bU (sz n:Nat) (el:Nat->List IV) (b off cap:Nat) (hn:n<=cap) (hc:cap<=maxLen) (hl: ∀k,k<n->(el k).length=sz)
   (hm: ∀k j,k<n->j<sz->(M.cell b (off+k*sz+j)).isSome=is)
   (hr: ∀k j p,k<n->(el k)[j]? =dl p->IR M p ((M.cell b (off+k*sz+j)).getD undef)):
   IR M (.bU sz n el) (.slice (dl ⟨b,off,io⟩) n cap)
 | i7 (cs:List IV) (b off:Nat) (hm: ∀j,j<cs.length->(M.cell b (off+j)).isSome=is)
   (hr: ∀j p,cs[j]? =dl p->IR M p ((M.cell b (off+j)).getD undef)):IR M (.i7 cs) (.pointer (dl ⟨b,off,io⟩))
 |agg (cs:List IV) (ys:Array Value) (hl:cs.length=ys.size) (hr: ∀j p,cs[j]? =dl p->IR M p (ys.getD j undef)):IR M (.agg cs) (.agg ys)
 | eP {V:Type} (kc:KC) (ev:V->IV) (z:V) (zv:Value) (m:List (kc.K×V)) (b:Nat) (ents:Array MapEntry) (clock:Nat) (hb:M b=dl (.map ents clock)) (hs:ents.size=m.length)
   (hk: ∀(j:Nat) (x:kc.K×V),m[j]? =dl x->(ents.getD j co).key=kc.ek x.1) (hv: ∀(j:Nat) (x:kc.K×V),m[j]? =dl x->IR M (ev x.2) (ents.getD j co).val) (hz:IR M (ev z) zv)
   (hi: ∀(j k:Nat) (e f:MapEntry),ents[j]? =dl e->ents[k]? =dl f->e.born=f.born->j=k) (hc: ∀(j:Nat) (e:MapEntry),ents[j]? =dl e->e.born<clock):IR M (.eP kc ev z zv m) (.map (dl b))
 |oj (t:TypeId) (p:IV) (x:Value) (h:IR M p x):IR M (.oj t p) (.iface t x)
inductive VR (M:Mem) (N:Nm) (U:Nat->Prop):PV->Value->Prop
 |iv (x:IV) (y:Value) (h:IR M x y):VR M N U (.iv x) y
 |agg (cs:List PV) (ys:Array Value) (hl:cs.length=ys.size) (hr: ∀j p,cs[j]? =dl p->VR M N U p (ys.getD j undef)):VR M N U (.agg cs) (.agg ys)
 |aZ (cs:List PV) (ys:Array Value) (hl:cs.length=ys.size) (hr: ∀j p,cs[j]? =dl p->VR M N U p (ys.getD j undef)):VR M N U (.aZ cs) (.tuple ys)
 |ptr (i off:Nat) (h:U i):VR M N U (.ptr i off) (.pointer (dl ⟨N.aC i,off,io⟩))
 |c6 (i sz k off:Nat) (h:U i):VR M N U (.c6 i sz k off) (.pointer (dl ⟨N.aC i,k*sz+off,io⟩))
 |fj (z:Bool) (i:Nat) (h:U i):VR M N U (.fj z i) (.pointer (bif z then io else dl ⟨N.aC i,0,io⟩))
 |pJ (i off n:Nat) (h:U i):VR M N U (.pJ i off n) (.slice (dl ⟨N.aC i,off,io⟩) n n)
 |sl (i off len sz cap:Nat) (h:U i) (h0:0<len) (hl:len<=cap) (hc:cap<=maxLen) (he:(off+cap)*sz=N.ext i):VR M N U (.sl i off len sz) (.slice (dl ⟨N.aC i,off*sz,io⟩) len cap)
 |lK (i sz:Nat) (h:U i):VR M N U (.sl i 0 0 sz) (.slice io 0 0)
 |sle (i sz cap:Nat) (h:U i) (hc:cap<=maxLen) (he:cap*sz=N.ext i):VR M N U (.sl i 1 0 sz) (.slice (dl ⟨N.aC i,0,io⟩) 0 cap)
 |mp (i:Nat) (h:U i):VR M N U (.mp i) (.map (dl (N.aC i)))
 | cN (fn:Fn) (first caps:List PV) (f' c':Array Value) (h1:first.length=f'.size) (h2:caps.length=c'.size)
   (hr1: ∀j p,first[j]? =dl p->VR M N U p (f'.getD j undef)) (hr2: ∀j p,caps[j]? =dl p->VR M N U p (c'.getD j undef)):VR M N U (.cN fn first caps) (.func fn f' c')
 |kb (b:Bool):VR M N U (.kb b) (.bool b)
 |any (x:Value):VR M N U .any x
def Mem.le(M d:Mem):Prop:= ∀b c,M b=dl c->d b=dl c
theorem Mem.le.refl(M:Mem):M.le M:=fun _ _ h=>h
theorem Mem.le.trans{A B C:Mem}(h:A.le B)(k:B.le C):A.le C:=fun b c e=>k b c (h b c e)
theorem Mem.le.cell{M d:Mem}(h:M.le d){b o:Nat}{v:Value}(hc:M.cell b o=dl v):d.cell b o=dl v:=by
 unfold Mem.cell at*
 cases hb:M b with
 |none=>simp[hb]at hc
 |some c=>rw[hb]at hc;rw[h b c hb];exact hc
theorem Mem.le.isSome{M d:Mem}(h:M.le d){b o:Nat}(hc:(M.cell b o).isSome=is):(d.cell b o).isSome=is∧(d.cell b o).getD undef=(M.cell b o).getD undef:=by
 cases hv:M.cell b o with
 |none=>simp[hv]at hc
 |some v=>rw[h.cell hv];simp
theorem IR.mono{M A:Mem}(hM:M.le A){p:IV}{x:Value}(h:IR M p x):IR A p x:=by
 induction h with
 |v x=>exact .v x
 |fN sz el a cap=>exact .fN sz el a cap
 |bU sz n el b off cap hn hc hl hm hr ih=>
  refine .bU sz n el b off cap hn hc hl (fun k j u d=>(hM.isSome (hm k j u d)).1) (fun k j p u y=>?_);have d:j<sz:=by rw[<-hl k u];exact(Tp.1 y).1
  rw[(hM.isSome (hm k j u d)).2];exact ih k j p u y
 |i7 cs b off hm hr ih=>
  refine .i7 cs b off (fun j d=>(hM.isSome (hm j d)).1) (fun j p y=>?_);have d:j<cs.length:=(Tp.1 y).1;rw[(hM.isSome (hm j d)).2];exact ih j p y
 |agg cs ys hl hr ih=>exact .agg cs ys hl ih
 |eP kc ev z zv m b ents clock hb hs u hv hz hi hc ihv ihz=>exact .eP kc ev z zv m b ents clock (hM _ _ hb) hs u ihv ihz hi hc
 |oj t p x h ih=>exact .oj t p x ih
structure js {V:Type} (M:Mem) (kc:KC) (ev:V->IV) (m:List (kc.K×V)) (ents:Array MapEntry) (clock:Nat):Prop where
 size:ents.size=m.length
 key: ∀(j:Nat) (x:kc.K×V),m[j]? =dl x->(ents.getD j co).key=kc.ek x.1
 val: ∀(j:Nat) (x:kc.K×V),m[j]? =dl x->IR M (ev x.2) (ents.getD j co).val
 inj: ∀(j k:Nat) (e f:MapEntry),ents[j]? =dl e->ents[k]? =dl f->e.born=f.born->j=k
 lt: ∀(j:Nat) (e:MapEntry),ents[j]? =dl e->e.born<clock
theorem js.mono{V:Type}{M d:Mem}(hM:M.le d){kc:KC}{ev:V->IV}{m:List (kc.K×V)}{ents:Array MapEntry}{clock:Nat}(h:js M kc ev m ents clock):js d kc ev m ents clock:=
 ⟨h.size,h.key,fun j x u=>(h.val j x u).mono hM,h.inj,h.lt⟩
structure Nm.agree (N N':Nm) (U:Nat->Prop):Prop where
 aC: ∀i,U i->N'.aC i=N.aC i
 ext: ∀i,U i->N'.ext i=N.ext i
theorem Nm.agree.refl(N:Nm)(U:Nat->Prop):N.agree N U:=⟨fun _ _=>rfl,fun _ _=>rfl⟩
theorem VR.mono{M u:Mem}{N A:Nm}{U B:Nat->Prop}(hM:M.le u)(d:N.agree A U)(j: ∀i,U i->B i){p:PV}{x:Value}(h:VR M N U p x):VR u A B p x:=by
 induction h with
 |iv x y h=>exact .iv x y (h.mono hM)
 |agg cs ys hl hr ih=>exact .agg cs ys hl ih
 |aZ cs ys hl hr ih=>exact .aZ cs ys hl ih
 |ptr i off h=>rw[<-d.aC i h];exact .ptr i off (j i h)
 |c6 i sz k off h=>rw[<-d.aC i h];exact .c6 i sz k off (j i h)
 |fj z i h=>rw[<-d.aC i h];exact .fj z i (j i h)
 |pJ i off n h=>rw[<-d.aC i h];exact .pJ i off n (j i h)
 |sl i off len sz cap h h0 hl hc he=>rw[<-d.aC i h];exact .sl i off len sz cap (j i h) h0 hl hc (by rw[d.ext i h];exact he)
 |lK i sz h=>exact .lK i sz (j i h)
 |sle i sz cap h hc he=>rw[<-d.aC i h];exact .sle i sz cap (j i h) hc (by rw[d.ext i h];exact he)
 |mp i h=>rw[<-d.aC i h];exact .mp i (j i h)
 |cN fn first caps f' c' h1 h2 hr1 hr2 ih1 ih2=>exact .cN fn first caps f' c' h1 h2 ih1 ih2
 |kb b=>exact .kb b
 |any x=>exact .any x
abbrev AH:=List (Nat×Option AO)
def AH.get:AH->Nat->Option AO
 | [],_=>io
 |(i,o)::r,k=>bif TR k i then o else AH.get r k
abbrev AF:=List (Nat×PV)
def AF.get:AF->Nat->PV
 | [],_=> .any
 |(i,p)::r,k=>bif TR k i then p else AF.get r k
theorem AF.ax(i:Nat)(p:PV)(r:AF)(k:Nat):AF.get ((i,p)::r) k=if k=i then p else AF.get r k:=by
 by_cases h:k=i
 .subst h;simp[AF.get]
 .have:TR k i=jp:=Bool.eq_false_iff.2 (fun e=>h (TM e));simp[AF.get,this,h]
theorem AH.ax(i:Nat)(o:Option AO)(r:AH)(k:Nat):AH.get ((i,o)::r) k=if k=i then o else AH.get r k:=by
 by_cases h:k=i
 .subst h;simp[AH.get]
 .have:TR k i=jp:=Bool.eq_false_iff.2 (fun e=>h (TM e));simp[AH.get,this,h]
def OR(M:Mem)(N:Nm)(U:Nat->Prop)(w:World)(i:Nat):AO->Prop
 | .cells cs T0=> ∃c T,w.heap[N.aC i]? =dl (.cells c T (0,0))∧c.size=N.ext i∧cs.length=c.size∧(∀j p,cs[j]? =dl p->VR M N U p (c.getD j undef))∧y2 T0 T
 | .row sz es=>es=[]∨0<sz∧ ∃c T,w.heap[N.aC i]? =dl (.cells c T (0,0))∧c.size=N.ext i∧es.length*sz<=c.size∧(∀(k:Nat) (e:List PV),es[k]? =dl e->e.length=sz)∧
   ∀(k:Nat) (e:List PV) (j:Nat) (p:PV),es[k]? =dl e->e[j]? =dl p->VR M N U p (c.getD (k*sz+j) undef)
 | .bA l T=>l=[]∨ ∃c,w.heap[N.aC i]? =dl (.cells c T (0,0))∧c.size=N.ext i∧l.length<=c.size∧ ∀(j:Nat) (x:UInt8),l[j]? =dl x->c.getD j undef= .int .u8 (x.toNat:Int)
 | .fx=>w.heap[N.aC i]? =dl (.map #[] 0)
 | .map kc ev z zv _ m=> ∃(ents:Array MapEntry) (clock:Nat),w.heap[N.aC i]? =dl (.map ents clock)∧js M kc ev m ents clock∧IR M (ev z) zv
 | .b5 kc ev m vs cur=>(m=[]∧vs=[]∧cur=io∧w.heap[N.aC i]? =dl (.mapIter io 0 #[] 0))∨ ∃(b:Nat) (ents:Array MapEntry) (clock:Nat) (u:Array Nat),w.heap[N.aC i]? =dl (.mapIter (dl b) clock u clock)∧M b=dl (.map ents clock)∧js M kc ev m ents clock∧
   u.toList=vs.reverse.map (fun j=>(ents.getD j co).born)∧(∀j∈vs,j<m.length)∧vs.Nodup∧ ∀x,cur=dl x-> ∃j r,vs=j::r∧m[j]? =dl x
 | .dQ s pos=>w.heap[N.aC i]? =dl (.stringIter s pos)
 | .om kc ev z zv _ m bs clock=> ∃ents:Array MapEntry,w.heap[N.aC i]? =dl (.map ents clock)∧js M kc ev m ents clock∧IR M (ev z) zv∧ents.toList.map MapEntry.born=bs
 | .iZ mp clock u=> ∃b,VR M N U mp (.map (dl b))∧w.heap[N.aC i]? =dl (.mapIter (dl b) clock u.toArray clock)
 | .fy l c f=>N.aC i=l∧ ∃r:Loop,w.heap[l]? =dl (.loop r)∧r.state= .ready∧r.pending=io∧r.params=c.ps∧r.assign=c.sL∧r.body=c.bd∧r.tmps.size=c.nt∧ ∀d,VR M N U (AF.get f d) (r.tmps.getD d undef)
def AO.real:AO->Bool
 | .row _ []=>jp
 | .bA [] _=>jp
 |_=>is
structure Rel (M:Mem) (N:Nm) (U:Nat->Prop) (h:AH) (w:World):Prop where
 ey: ∀b c,M b=dl c->c.Eu w b
 used: ∀i o,h.get i=dl o->U i
 dI: ∀i o,h.get i=dl o->o.real=is->M (N.aC i)=io
 obj: ∀i o,h.get i=dl o->OR M N U w i o
 inj: ∀i j o p,h.get i=dl o->h.get j=dl p->o.real=is->p.real=is->N.aC i=N.aC j->i=j
theorem OR.lt{M:Mem}{N:Nm}{U:Nat->Prop}{w:World}{i:Nat}{o:AO}(h:OR M N U w i o)(j:o.real=is):N.aC i<w.heap.size:=by
 have key: ∀x,w.heap[N.aC i]? =dl x->N.aC i<w.heap.size:=fun x y=>(Uf.1 y).1
 cases o with
 |cells cs T0=>obtain⟨c,T,d,_⟩:=h;exact key _ d
 |row sz es=>
  rcases h with rfl|⟨_,c,T,d,_⟩
  .cases j
  .exact key _ d
 |bA l T=>
  rcases h with rfl|⟨c,d,_⟩
  .cases j
  .exact key _ d
 |fx=>exact key _ h
 |map kc ev z zv dv m=>obtain⟨e,u,d,_⟩:=h;exact key _ d
 |b5 kc ev m l cu=>rcases h with⟨_,_,_,d⟩|⟨b,e,u,A,d,_⟩<;>exact key _ d
 |dQ s p=>exact key _ h
 |om kc ev z zv dv m bs clock=>obtain⟨e,d,_⟩:=h;exact key _ d
 |iZ mp clock seen=>obtain⟨b,_,d⟩:=h;exact key _ d
 |fy l c f=>obtain⟨rfl,r,d,_⟩:=h;exact key _ d
theorem OR.mono{M Z:Mem}{N D:Nm}{U U':Nat->Prop}{w G:World}{i:Nat}{o:AO}(hM:M.le Z)(u:N.agree D U)(F: ∀i,U i->U' i)(hi:U i)(hb:G.heap[N.aC i]? =w.heap[N.aC i]?)
  (h:OR M N U w i o):OR Z D U' G i o:=by
 cases o with
 |cells cs T0=>
  obtain⟨c,T,x,y,A,B,C⟩:=h;exact⟨c,T,by rw[u.aC i hi,hb,x],by rw[u.ext i hi,y],A,fun j p Y=>(B j p Y).mono hM u F,C⟩
 |row sz es=>
  rcases h with h|⟨h0,c,T,x,y,A,B,C⟩
  .exact .inl h
  exact .inr ⟨h0,c,T,by rw[u.aC i hi,hb,x],by rw[u.ext i hi,y],A,B,fun k e j p he Y=>(C k e j p he Y).mono hM u F⟩
 |bA l T=>
  rcases h with h|⟨c,x,y,A,B⟩
  .exact .inl h
  exact .inr ⟨c,by rw[u.aC i hi,hb,x],by rw[u.ext i hi,y],A,B⟩
 |fx=>show G.heap[D.aC i]? =_;rw[u.aC i hi,hb];exact h
 |map kc ev z zv dv m=>
  obtain⟨e,J,x,y,A⟩:=h;exact⟨e,J,by rw[u.aC i hi,hb,x],y.mono hM,A.mono hM⟩
 |b5 kc ev m l cu=>
  rcases h with⟨x,y,A,B⟩|⟨b,e,J,se,x,y,A,B⟩
  .exact .inl ⟨x,y,A,by rw[u.aC i hi,hb,B]⟩
  .exact .inr ⟨b,e,J,se,by rw[u.aC i hi,hb,x],hM _ _ y,A.mono hM,B⟩
 |dQ s p=>show G.heap[D.aC i]? =_;rw[u.aC i hi,hb];exact h
 |om kc ev z zv dv m bs clock=>
  obtain⟨e,x,y,A,B⟩:=h;exact⟨e,by rw[u.aC i hi,hb,x],y.mono hM,A.mono hM,B⟩
 |iZ mp clock seen=>
  obtain⟨b,x,y⟩:=h;exact⟨b,x.mono hM u F,by rw[u.aC i hi,hb,y]⟩
 |fy l c f=>
  obtain⟨rfl,r,x,y,A,B,C,h6,h7,h8⟩:=h;exact⟨u.aC i hi,r,by rw[hb];exact x,y,A,B,C,h6,h7,fun d=>(h8 d).mono hM u F⟩
structure sP (w w':World):Prop where
 out:w'.output=w.output
 drawn:w.drawn<=w'.drawn
theorem sP.refl(w:World):sP w w:=⟨rfl,Tv _⟩
theorem sP.trans{w d j:World}(b:sP d j)(a:sP w d):sP w j:=⟨b.out.trans a.out,Uh a.drawn b.drawn⟩
structure Ext (M:Mem) (N:Nm) (U:Nat->Prop) (h:AH) (w:World) (M':Mem) (N':Nm) (U':Nat->Prop) (h':AH) (w':World):Prop where
 os:w'.os=w.os
 tape:w'.tape=w.tape
 output:sP w w'
 size:w.heap.size<=w'.heap.size
 eU: ∀b,b<w.heap.size->(∀i o,h.get i=dl o->o.real=is->N.aC i≠b)->w'.heap[b]? =w.heap[b]?
 mz:M.le M'
 eT: ∀b c,M b=io->M' b=dl c->w.heap.size<=b∨ ∃i o,h.get i=dl o∧o.real=is∧N.aC i=b
 nm:N.agree N' U
 ule: ∀i,U i->U' i
 dY: ∀i o,h'.get i=dl o->o.real=is->w.heap.size<=N'.aC i∨ ∃j p,h.get j=dl p∧p.real=is∧N.aC j=N'.aC i
theorem Ext.refl(M:Mem)(N:Nm)(U:Nat->Prop)(h:AH)(w:World):Ext M N U h w M N U h w:=
 ⟨rfl,rfl,⟨rfl,Tv _⟩,Tv _,fun _ _ _=>rfl,.refl _,fun b c d j=>by simp[d]at j,.refl _ _,fun _ h=>h,fun i o u x=> .inr ⟨i,o,u,x,rfl⟩⟩
theorem Ext.trans{M D F:Mem}{N G J:Nm}{U Y Z:Nat->Prop}{h h1 h2:AH}{w w1 w2:World}
  (a:Ext M N U h w D G Y h1 w1) (b:Ext D G Y h1 w1 F J Z h2 w2):Ext M N U h w F J Z h2 w2 where
 os:=b.os.trans a.os
 tape:=b.tape.trans a.tape
 output:=b.output.trans a.output
 size:=Uh a.size b.size
 eU:=fun k hk hn=>by
  rw[b.eU k (Vf hk a.size) (fun i o d u he=>?_),a.eU k hk hn];rcases a.dY i o d u with x|⟨j,p,x,C,y⟩
  .omega
  .exact hn j p x C (y.trans he)
 mz:=a.mz.trans b.mz
 eT:=fun k c x y=>by
  cases A:D k with
  |some c'=>exact a.eT k c' x A
  |none=>
   rcases b.eT k c A y with B|⟨i,o,B,u,h7⟩
   .exact .inl (Uh a.size B)
   .rcases a.dY i o B u with h8|⟨j,p,h8,C,h9⟩
    .exact .inl (by omega)
    .exact .inr ⟨j,p,h8,C,h9.trans h7⟩
 nm:=⟨fun i d=>(b.nm.aC i (a.ule i d)).trans (a.nm.aC i d),fun i d=>(b.nm.ext i (a.ule i d)).trans (a.nm.ext i d)⟩
 ule:=fun i d=>b.ule i (a.ule i d)
 dY:=fun i o d u=>by
  rcases b.dY i o d u with x|⟨j,p,x,C,y⟩
  .exact .inl (Uh a.size x)
  .rcases a.dY j p x C with A|⟨k,q,A,hq,B⟩
   .exact .inl (by omega)
   .exact .inr ⟨k,q,A,hq,B.trans y⟩
def aj(p q:PV):Prop:= ∀(M:Mem) (N:Nm) (U:Nat->Prop) (x:Value),VR M N U p x->VR M N U q x
def jG(p q:IV):Prop:= ∀(M:Mem) (x:Value),IR M p x->IR M q x
theorem aj.refl(p:PV):aj p p:=fun _ _ _ _ h=>h
theorem rU(w:World)(o:Obj)(i:Nat)(h:i<w.heap.size):(w.alloc o).heap[i]? =w.heap[i]? :=by
 show(w.heap.push o)[i]? =_;rw[VF,be (by omega)]
def FR(M:Mem)(N:Nm)(U:Nat->Prop)(f:AF)(t:Array Value):Prop:= ∀k,VR M N U (f.get k) (t.getD k undef)
theorem FR.mono{M d:Mem}{N j:Nm}{U u:Nat->Prop}{f:AF}{t:Array Value}(hM:M.le d)(x:N.agree j U)(y: ∀i,U i->u i)(h:FR M N U f t):FR d j u f t:=fun k=>(h k).mono hM x y
theorem FR.ext{M d:Mem}{N j:Nm}{U u:Nat->Prop}{h x:AH}{w y:World}{f:AF}{t:Array Value}(e:Ext M N U h w d j u x y)(hf:FR M N U f t):FR d j u f t:=hf.mono e.mz e.nm e.ule
theorem FR.put{M:Mem}{N:Nm}{U:Nat->Prop}{f:AF}{t:Array Value}(h:FR M N U f t)(d:Nat)(p:PV)(x:Value)(hd:d<t.size)(hp:VR M N U p x):FR M N U ((d,p)::f) (t.setIfInBounds d x):=by
 intro k;rw[AF.ax];by_cases j:k=d
 .subst j;simp[Tl,hd,hp]
 .rw[be j];have:=h k;simp only[Tl,Ua]at this ⊢;rw[be (fun e=>j e.symm)];exact this
inductive TK where
  |aR (d:TypeDesc)
  |cq (fs:List (Nat×TypeId))
  |arr (n:Nat) (e:TypeId)
structure bJ where
  k:TK
  size:Nat
  bytes:Nat
  zero:Value
  eq:Bool
abbrev Ty:=Nat->Option bJ
def wF:TypeDesc->Bool
  | .struct _=>jp
  | .array _ _=>jp
  |_=>is
def HS(P:Program)(t:TypeId):TK->Prop
  | .aR d=>P.underlying t=dl d∧wF d=is
  | .cq fs=> ∃F,P.underlying t=dl (.struct F)∧F.toList.map (fun f=>(f.offset,f.type))=fs
  | .arr n e=>P.underlying t=dl (.array n e)
def R2(P:Program)(t:TypeId):Prop:=P.stoodInHeld t=jp∧P.eqGuardType P.depth t=jp∧ ∀f∈(P.fieldsOf t).toList,f.name≠ "_"
def ah(P:Program)(t:TypeId)(e:bJ):Prop:=
  (∃i,P.info? t=dl i∧i.size=e.size∧i.bytes=e.bytes∧i.zero=dl e.zero)∧HS P t e.k∧(e.eq=is->R2 P t)
def bE(P:Program)(ty:Ty):Prop:= ∀t e,ty t=dl e->ah P t e
section
variable {P:Program} {w:World}
theorem a7{t:TypeId}{e:bJ}(h:ah P t e):(sizeOf t).run P w= .ok e.size w:=by
  obtain⟨⟨i,d,j,_⟩,_⟩:=h;simp[sizeOf,run_typeInfo w d,j]
theorem dC{t:TypeId}{e:bJ}(h:ah P t e):(zeroValue t).run P w= .ok e.zero w:=by
  obtain⟨⟨i,d,u,hb,j⟩,_⟩:=h;simp[zeroValue,run_typeInfo w d,j]
def TK.agg:TK->Bool
  | .aR _=>jp
  |_=>is
theorem iz{t:TypeId}{e:bJ}(h:ah P t e):(isAgg t).run P w= .ok e.k.agg w:=by
  obtain⟨_,j,_⟩:=h;cases hek:e.k with
  | aR d=>
    rw[hek]at j;obtain⟨u,x⟩:=j;simp only[isAgg,Sem.run_bind,run_underlying u,Result.andThen_ok];cases d<;>simp_all [wF,TK.agg]
  | cq fs=>
    rw[hek]at j;obtain⟨F,u,_⟩:=j;simp[isAgg,run_underlying u,TK.agg]
  | arr n el=>
    rw[hek]at j;simp only[HS]at j;simp[isAgg,run_underlying j,TK.agg]
end
structure AS where
  f:AF
  h:AH
  nx:Nat
structure NT where
  n:Nat
  df:List Deferred
instance:Coe NT Nat:=⟨NT.n⟩
instance:Coe Nat NT:=⟨fun n=>⟨n,[]⟩⟩
def Fits(M:Mem)(N:Nm)(s:AS)(nt:NT)(a:Act)(w:World):Prop:=
  Rel M N (· <s.nx) s.h w∧FR M N (· <s.nx) s.f a.tmps∧a.defers=nt.df∧a.tmps.size=nt.n
def ofV:Value->PV
  | .agg cs=> .agg (cs.toList.map fun v=> .iv (.v v))
  | .bool b=> .kb b
  |v=> .iv (.v v)
def ev(f:AF):Operand->PV
  | .tmp t=>f.get t
  | .const v=>ofV v
  | .global _=> .any
  | .func g=> .cN (.func g) [] []
theorem OL{M:Mem}{N:Nm}{U:Nat->Prop}(v:Value):VR M N U (ofV v) v:=by
  cases v<;>first
    |exact .iv _ _ (.v _)
    |exact .kb _
    | (refine .agg _ _ (by simp) (fun j p u=>?_)
       rw[Tu,Tw]at u;obtain⟨x,A,rfl⟩:=u;rename_i y;have d:y[j]? =dl x:=by simpa using A
       rw[Tl,d]
       exact .iv _ _ (.v _))
theorem aJ{M:Mem}{N:Nm}{U:Nat->Prop}{f:AF}{a:Act}(h:FR M N U f a.tmps)(x:Operand):VR M N U (ev f x) (a.eval x):=by
  cases x with
  |tmp t=>exact h t
  |const v=>exact OL v
  |global g=>exact .any _
  |func g=>exact .cN _ _ _ _ _ I I (by simp) (by simp)
def kX(cs:List PV)(off n:Nat):Option (List PV):=let l:=(cs.drop off).take n;bif TR l.length n then dl l else io
def uZ{α:Type _}(p:PV)(k:PV->α):α:=
  match p with
  | .iv x=>k (.iv x)
  | .agg cs=>k (.agg cs)
  | .aZ cs=>k (.aZ cs)
  | .ptr i o=>k (.ptr i o)
  | .c6 i sz a o=>k (.c6 i sz a o)
  | .fj z i=>k (.fj z i)
  | .pJ i o n=>k (.pJ i o n)
  | .sl i o n sz=>k (.sl i o n sz)
  | .mp i=>k (.mp i)
  | .cN fn a b=>k (.cN fn a b)
  | .kb b=>k (.kb b)
  | .any=>k .any
theorem dO{α:Type _}(p:PV)(k:PV->α):uZ p k=k p:=by cases p<;>rfl
def je{α:Type _}:List PV->(List PV->α)->α
  | [],k=>k []
  |x::r,k=>uZ x fun j=>je r fun d=>k (j::d)
theorem dh{α:Type _}: ∀(l:List PV) (k:List PV->α),je l k=k l
  | [],_=>rfl
  |x::r,k=>by simp only[je,dO];rw[dh r]
def PV.one:PV->Bool
  | .iv (.v (.agg _))=>jp
  | .iv (.v (.tuple _))=>jp
  | .iv (.agg _)=>jp
  | .iv _=>is
  | .agg _=>jp
  | .aZ _=>jp
  | .any=>jp
  |_=>is
def PV.cells:PV->Option (List PV)
  | .agg cs=>dl cs
  | p=>match p.one with
    |true=>dl [p]
    |false=>io
def eM:List PV->Bool
  | []=>is
  | p::r=>match p.one with
    |true=>eM r
    |false=>jp
def setCells:List PV->Nat->List PV->List PV
  | [],_,_=> []
  |c::cs,0,[]=>c::cs
  |_::cs,0,x::xs=>x::setCells cs 0 xs
  |c::cs,n+1,xs=>c::setCells cs n xs
theorem da: ∀(cs:List PV) (n:Nat) (xs:List PV),(setCells cs n xs).length=cs.length
  | [],_,_=>rfl
  |c::cs,0,[]=>rfl
  |_::cs,0,x::xs=>by simp[setCells,da cs 0 xs]
  |c::cs,n+1,xs=>by simp[setCells,da cs n xs]
theorem gZ: ∀(cs:List PV) (n:Nat) (xs:List PV) (j:Nat) (p:PV),(setCells cs n xs)[j]? =dl p->(n<=j∧xs[j-n]? =dl p)∨((j<n∨n+xs.length<=j)∧cs[j]? =dl p)
  | [],_,_,j,p,h=>by simp[setCells]at h
  |c::cs,0,[],j,p,h=> .inr ⟨.inr (by simp),h⟩
  | c::cs,0,x::xs,j,p,h=>by
    simp only[setCells]at h;cases j with
    |zero=>exact .inl ⟨Tv _,by simpa using h⟩
    | succ j=>
      rcases gZ cs 0 xs j p (by simpa using h) with⟨_,d⟩|⟨d,u⟩
      · exact .inl ⟨TB _,by simpa using d⟩
      · exact .inr ⟨by simp at d ⊢;omega,by simpa using u⟩
  | c::cs,n+1,xs,j,p,h=>by
    simp only[setCells]at h;cases j with
    |zero=>exact .inr ⟨.inl (by omega),by simpa using h⟩
    | succ j=>
      rcases gZ cs n xs j p (by simpa using h) with⟨d,u⟩|⟨d,u⟩
      · exact .inl ⟨by omega,by rw[show j+1-(n+1)=j-n by omega];exact u⟩
      · exact .inr ⟨by omega,by simpa using u⟩
def cy(v:Value):List PV:=v.cells.toList.map fun x=> .iv (.v x)
def oE(d:Nat->Option (Nat×Nat)):List PV->List (Nat×PV)->Option (List PV)
  |cs,[]=>dl cs
  | cs,(i,p)::r=>match d i with
    | some (off,size)=>match p.cells with
      | some l=>match TR l.length size,Vm (off+l.length) cs.length with
        |true,is=>je (setCells cs off l) fun j=>oE d j r
        |_,_=>io
      |none=>io
    |none=>io
def jV:List PV->Option PV
  | []=>io
  |p::_=>dl p
def behind(h:AH):PV->Option (List PV)
  | .ptr i off=>match h.get i with
    |some (.cells cs _)=>dl (cs.drop off)
    |_=>io
  | .c6 i sz k off=>match h.get i with
    | some (.row sz' es)=>match TR sz' sz,es[k]? with
      |true,dl e=>dl (e.drop off)
      |_,_=>io
    |_=>io
  | .iv (.i7 cs)=>dl (cs.map .iv)
  |_=>io
def gI(e:bJ)(cs:List PV):Option PV:=
  match e.k.agg with
  | true=>match kX cs 0 e.size with
    |some l=>je l fun d=>dl (.agg d)
    |none=>io
  |false=>jV cs
def tn(e:bJ)(k:Nat):Option (Nat×TypeId):=
  match e.k with
  | .cq fs=>fs[k]?
  |_=>io
def qk(ty:Ty):List (Nat×TypeId)->Option (List (Nat×Nat))
  | []=>dl []
  | (off,u)::r=>match ty u with
    | some e=>match qk ty r with
      |some l=>dl ((off,e.size)::l)
      |none=>io
    |none=>io
def o6(n:Nat):PV->Option PV
  | .ptr i off=>dl (.ptr i (off+n))
  | .c6 i sz k off=>dl (.c6 i sz k (off+n))
  | .iv (.i7 cs)=>dl (.iv (.i7 (cs.drop n)))
  |_=>io
abbrev PV.bool(b:Bool):PV:= .iv (.v (.bool b))
abbrev PV.int(n:Int):PV:= .iv (.v (.int .i64 n))
abbrev PV.str(s:ByteArray):PV:= .iv (.v (.string s))
def qE(n:Int):Prop:= -9223372036854775808<=n∧n<=9223372036854775807
def C8(op:BinOp)(k:IntKind)(a b:Int):Option (PV×Prop):=
  match op,k with
  | .add,.i64=>dl (.int (a+b),qE (a+b))
  | .sub,.i64=>dl (.int (a-b),qE (a-b))
  | .mul,.i64=>dl (.int (a*b),qE (a*b))
  | .rem,.i64=>dl (.int (Int.tmod a b),¬b=0)
  | .quo,.i64=>dl (.int (Int.tdiv a b),¬b=0∧qE (Int.tdiv a b))
  | .add,k=>dl (.iv (.v (.int k (k.wrap (a+b)))),True)
  | .sub,k=>dl (.iv (.v (.int k (k.wrap (a-b)))),True)
  | .mul,k=>dl (.iv (.v (.int k (k.wrap (a*b)))),True)
  | .quo,k=>dl (.iv (.v (.int k (k.wrap (Int.tdiv a b)))),¬b=0)
  | .rem,k=>dl (.iv (.v (.int k (Int.tmod a b))),¬b=0)
  | .eql,_=>dl (.bool (kw (a=b)),True)
  | .neq,_=>dl (.bool (!kw (a=b)),True)
  | .lss,_=>dl (.bool (kw (a<b)),True)
  | .leq,_=>dl (.bool (kw (a<=b)),True)
  | .gtr,_=>dl (.bool (kw (a>b)),True)
  | .geq,_=>dl (.bool (kw (a>=b)),True)
  | .and,k=>dl (.iv (.v (.int k (k.wrap ((BitVec.ofInt k.bits a&&&BitVec.ofInt k.bits b).toNat:Int)))),True)
  | .or,k=>dl (.iv (.v (.int k (k.wrap ((BitVec.ofInt k.bits a|||BitVec.ofInt k.bits b).toNat:Int)))),True)
  | .xor,k=>dl (.iv (.v (.int k (k.wrap ((BitVec.ofInt k.bits a ^^^ BitVec.ofInt k.bits b).toNat:Int)))),True)
  |_,_=>io
def rZ(op:BinOp)(k:IntKind)(a b:Int):Option (PV×Prop):=
  match op with
  | .shr=>match kw (0<=b) with
    |true=>dl (.iv (.v (.int k (a.fdiv (2 ^ min b.toNat k.bits)))),True)
    |false=>io
  | .shl=>match kw (0<=b) with
    |true=>dl (.iv (.v (.int k (k.wrap (a*2 ^ min b.toNat k.bits)))),True)
    |false=>io
  |_=>io
def BO(op:BinOp)(k:IntKind)(a b:Int):Option (PV×Prop):=
  match op with
  | .shr=>rZ .shr k a b
  | .shl=>rZ .shl k a b
  |op=>C8 op k a b
def Ct(op:BinOp)(a b:ByteArray):Option (PV×Prop):=
  match op with
  | .eql=>dl (.bool (kw (a=b)),True)
  | .neq=>dl (.bool (!kw (a=b)),True)
  | .add=>dl (.str (a++b),a.size+b.size<=9223372036854775807)
  | .lss=>dl (.bool (Op.bytesLess a.toList b.toList),True)
  | .gtr=>dl (.bool (!(Op.bytesLess a.toList b.toList||decide (a=b))),True)
  | .leq=>dl (.bool (Op.bytesLess a.toList b.toList||decide (a=b)),True)
  | .geq=>dl (.bool (!(Op.bytesLess a.toList b.toList)),True)
  |_=>io
def nF(ty:Ty)(t:TypeId)(op:BinOp)(a b:Bool):Option (PV×Prop):=
  match ty t with
  | some ⟨.aR .bool,_,_,_,_⟩=>match op with
    | .eql=>dl (.bool (a==b),True)
    | .neq=>dl (.bool (!(a==b)),True)
    |_=>io
  |_=>io
def BM:TypeDesc->Bool
  | .pointer _=>is
  |_=>jp
def O1:TypeDesc->Bool
  | .map _ _=>is
  |_=>jp
def Kv:TypeDesc->Bool
  | .func _ _ _=>is
  |_=>jp
def sd(ty:Ty)(t:TypeId)(wd:TypeDesc->Bool)(op:BinOp)(b:Bool):Option (PV×Prop):=
  match ty t with
  | some ⟨.aR d,_,_,_,_⟩=>match wd d,op with
    |true,.eql=>dl (.bool b,True)
    |true,.neq=>dl (.bool (!b),True)
    |_,_=>io
  |_=>io
def yL(ty:Ty)(t:TypeId)(op:BinOp)(x y:PV):Option (PV×Prop):=
  match x,y with
  | .iv (.v (.int j a)),.iv (.v (.int k b))=>if j=k then BO op j a b else rZ op j a b
  | .iv (.v (.string a)),.iv (.v (.string b))=>Ct op a b
  | .iv (.v (.bool a)),y=>match y with
    | .iv (.v (.bool b))=>nF ty t op a b
    | .kb b=>nF ty t op a b
    |_=>io
  | .kb a,y=>match y with
    | .iv (.v (.bool b))=>nF ty t op a b
    | .kb b=>nF ty t op a b
    |_=>io
  | .ptr _ _,.iv (.v (.pointer io))=>sd ty t BM op jp
  | .iv (.v (.pointer io)),.iv (.v (.pointer io))=>sd ty t BM op is
  | .mp _,.iv (.v (.map io))=>sd ty t O1 op jp
  | .cN _ _ _,.iv (.v .nilFunc)=>sd ty t Kv op jp
  |_,_=>io
def vR:PV->Option (PV×Prop)
  | .iv (.bU _ n _)=>dl (.int n,True)
  | .iv (.v (.slice io 0 0))=>dl (.int 0,True)
  | .iv (.v (.string s))=>dl (.int s.size,True)
  | .sl _ _ len _=>dl (.int len,True)
  |_=>io
def jU(x:PV)(i:Int):Option (PV×Prop):=
  match x with
  | .iv (.bU _ n el)=>dl (.iv (.i7 (el i.toNat)),0<=i∧i<n)
  | .sl j off len sz=>dl (.c6 j sz (off+i.toNat) 0,0<=i∧i<len)
  |_=>io
def FK.rd:(s:FS)->List PV->Option (FK s)
  | [],cs=>match cs with
    | []=>dl ()
    |_=>io
  | none::r,cs=>match cs with
    | .iv (.v (.string a))::cs=>match FK.rd r cs with
      |some k=>dl (a,k)
      |none=>io
    |_=>io
  | some q::r,cs=>match cs with
    | .iv (.v (.int j n))::cs=>match kw (j=q),FK.rd r cs with
      |true,dl k=>dl (n,k)
      |_,_=>io
    |_=>io
def KC.pk:(c:KC)->c.K->PV
  | .str,s=> .iv (.v (.string s))
  | .int k,n=> .iv (.v (.int k n))
  | .si k,x=> .agg [.iv (.v (.string x.1)),.iv (.v (.int k x.2))]
  | .fl s,x=> .agg ((FK.vs s x).map fun v=> .iv (.v v))
def KC.dk:(c:KC)->PV->Option c.K
  | .str,p=>match p with
    | .iv (.v (.string s))=>dl s
    |_=>io
  | .int k,p=>match p with
    | .iv (.v (.int j n))=>if j=k then dl n else io
    |_=>io
  | .si k,p=>match p with
    | .agg [.iv (.v (.string s)),.iv (.v (.int j n))]=>if j=k then dl (s,n) else io
    |_=>io
  | .fl s,p=>match p with
    | .agg cs=>FK.rd s cs
    |_=>io
def pq(f:TypeId->Option FS):List (Nat×TypeId)->Nat->Option FS
  | [],_=>dl []
  | (off,u)::r,at_=>match TR off at_,f u with
    | true,dl s=>match pq f r (at_+s.length) with
      |some q=>dl (s++q)
      |none=>io
    |_,_=>io
def Bq(s:FS):Nat->FS
  |0=> []
  |n+1=>s++Bq s n
def u1(ty:Ty):Nat->TypeId->Option FS
  |0,_=>io
  | d+1,t=>match ty t with
    |some ⟨.aR .string,1,_,_,_⟩=>dl [io]
    |some ⟨.aR (.int q),1,_,_,_⟩=>dl [dl q]
    | some ⟨.cq fs,n,_,_,is⟩=>match pq (u1 ty d) fs 0 with
      | some s=>match TR s.length n with
        |true=>dl s
        |false=>io
      |none=>io
    | some ⟨.arr n e,m,_,_,_⟩=>match u1 ty d e with
      | some s=>match TR (n*s.length) m with
        |true=>dl (Bq s n)
        |false=>io
      |none=>io
    |_=>io
def ew(ty:Ty)(d:TypeId):Option KC:=
  match ty d with
  |some ⟨.aR .string,_,_,_,_⟩=>dl .str
  |some ⟨.aR (.int k),_,_,_,_⟩=>dl (.int k)
  | some ⟨.cq [(0,a),(1,b)],_,_,_,is⟩=>match ty a,ty b with
    |some ⟨.aR .string,1,_,_,_⟩,dl ⟨.aR (.int k),1,_,_,_⟩=>dl (.si k)
    |_,_=>io
  | some ⟨.cq _,_,_,_,is⟩=>match u1 ty 6 d with
    |some s=>dl (.fl s)
    |none=>io
  |_=>io
section
variable (kc:KC) {V:Type}
def cK:List (kc.K×V)->kc.K->V->V
  | [],_,z=>z
  |(a,b)::r,k,z=>if a=k then b else cK r k z
def cZ:List (kc.K×V)->kc.K->Bool
  | [],_=>jp
  |(a,_)::r,k=>if a=k then is else cZ r k
def cJ:List (kc.K×V)->kc.K->V->List (kc.K×V)
  | [],k,v=> [(k,v)]
  |(a,b)::r,k,v=>if a=k then(k,v)::r else(a,b)::cJ r k v
def mD:List (kc.K×V)->kc.K->List (kc.K×V)
  | [],_=> []
  |(a,b)::r,k=>if a=k then r else(a,b)::mD r k
end
def Ch:Value->Value->Bool
  | .int j a,.int k b=>kw (j=k)&&kw (a=b)
  | .string a,.string b=>kw (a=b)
  | .bool a,.bool b=>a==b
  | .slice io 0 0,.slice io 0 0=>is
  | .map io,.map io=>is
  |_,_=>jp
def wc:List Value->List Value->Bool
  | [],[]=>is
  |a::r,b::q=>Ch a b&&wc r q
  |_,_=>jp
def Nh:Value->Value->Bool
  | .agg a,.agg b=>wc a.toList b.toList
  |a,b=>Ch a b
def IV.pv:IV->PV
  | .agg cs=> .agg (cs.map .iv)
  |x=> .iv x
def uF(ty:Ty)(t:TypeId)(ok:Bool)(kc:KC){V:Type}(e:V->IV)(z:V)(d:Value)(m:List (kc.K×V))(key:PV):Option (PV×Prop):=
  match ty t with
  | some ⟨.aR (.map kt et),_,_,_,_⟩=>match ew ty kt,ty et with
    | some kc',dl ee=>match kw (kc'=kc),Nh ee.zero d,kc.dk key with
      | true,is,dl k=>match ok with
        |true=>dl (.aZ [(e (cK kc m k z)).pv,.iv (.v (.bool (cZ kc m k)))],True)
        |false=>dl ((e (cK kc m k z)).pv,True)
      |_,_,_=>io
    |_,_=>io
  |_=>io
def EE(f:TypeId->PV->PV->Option Bool)(ty:Ty):List (Nat×TypeId)->List PV->List PV->Option Bool
  | [],_,_=>dl is
  | (off,u)::r,cs,ds=>match ty u with
    | some eu=>match gI eu (cs.drop off),gI eu (ds.drop off) with
      | some a,dl b=>match f u a b,EE f ty r cs ds with
        |some x,dl y=>dl (x&&y)
        |_,_=>io
      |_,_=>io
    |none=>io
def EF(ty:Ty):Nat->TypeId->PV->PV->Option Bool
  |0,_,_,_=>io
  | d+1,t,p,q=>match ty t with
    | some ⟨.aR (.int _),_,_,_,_⟩=>match p,q with
      | .iv (.v (.int j a)),.iv (.v (.int k b))=>if j=k then dl (kw (a=b)) else io
      |_,_=>io
    | some ⟨.aR .string,_,_,_,_⟩=>match p,q with
      | .iv (.v (.string a)),.iv (.v (.string b))=>dl (kw (a=b))
      |_,_=>io
    | some ⟨.aR .bool,_,_,_,_⟩=>match p,q with
      | .iv (.v (.bool a)),.iv (.v (.bool b))=>dl (a==b)
      |_,_=>io
    | some ⟨.cq fs,_,_,_,is⟩=>match p,q with
      | .agg cs,.agg ds=>EE (EF ty d) ty fs cs ds
      |_,_=>io
    |_=>io
def DB(ty:Ty)(t:TypeId)(op:BinOp)(p q:PV):Option (PV×Prop):=
  match op with
  | .eql=>match EF ty 10 t p q with
    |some b=>dl (.bool b,True)
    |none=>io
  | .neq=>match EF ty 10 t p q with
    |some b=>dl (.bool (!b),True)
    |none=>io
  |_=>io
def iu(ty:Ty)(s:AS):Op->Option (PV×Prop)
  | .move x=>dl (ev s.f x,True)
  | .assign x=>dl (ev s.f x,True)
  | .pick c a b=>match ev s.f c with
    | .kb is=>dl (ev s.f a,True)
    | .kb jp=>dl (ev s.f b,True)
    |_=>io
  | .load t x=>match ty t with
    | some e=>match behind s.h (ev s.f x) with
      | some cs=>match gI e cs with
        |some p=>dl (p,True)
        |none=>io
      |none=>io
    |none=>io
  | .nilCheck x=>match ev s.f x with
    | .ptr i o=>dl (.ptr i o,True)
    | .c6 i sz k o=>dl (.c6 i sz k o,True)
    | .iv (.i7 cs)=>dl (.iv (.i7 cs),True)
    | .cN (.func g) a b=>dl (.cN (.func g) a b,True)
    |_=>io
  | .binOp op t x y _=>match ev s.f x,ev s.f y with
    | .agg cs,.agg ds=>DB ty t op (.agg cs) (.agg ds)
    |p,q=>yL ty t op p q
  | .lookup t x i ok=>match ev s.f x with
    | .iv (.eP kc e z zv m)=>uF ty t ok kc e z zv m (ev s.f i)
    | .mp j=>match s.h.get j with
      |some (.map kc e z zv _ m)=>uF ty t ok kc e z zv m (ev s.f i)
      |_=>io
    |_=>io
  | .entry it=>match ev s.f it with
    | .ptr i 0=>match s.h.get i with
      |some (.b5 kc e _ _ (dl x))=>dl (.aZ [kc.pk x.1,(e x.2).pv],True)
      |_=>io
    |_=>io
  | .unOp .not _ x=>match ev s.f x with
    | .kb is=>dl (.kb jp,True)
    | .kb jp=>dl (.kb is,True)
    | .iv (.v (.bool b))=>dl (.bool (!b),True)
    |_=>io
  | .fieldAddr t x k=>match ty t with
    | some e=>match tn e k with
      | some (off,u)=>match ty u with
        | some eu=>match eu.size with
          |0=>io
          | _+1=>match o6 off (ev s.f x) with
            |some p=>dl (p,True)
            |none=>io
        |none=>io
      |none=>io
    |none=>io
  | .field t x k=>match ty t with
    | some e=>match tn e k with
      | some (off,u)=>match ty u with
        | some eu=>match ev s.f x with
          | .agg cs=>match gI eu (cs.drop off) with
            |some p=>dl (p,True)
            |none=>io
          |_=>io
        |none=>io
      |none=>io
    |none=>io
  | .indexAddr t x i=>match ty t with
    | some ⟨.aR (.slice u),_,_,_,_⟩=>match ty u with
      | some eu=>match ev s.f i with
        | .iv (.v (.int _ n))=>match ev s.f x with
          | .iv (.bU sz m el)=>bif TR sz eu.size then jU (.iv (.bU sz m el)) n else io
          | .sl j off len sz=>bif TR sz eu.size then jU (.sl j off len sz) n else io
          |_=>io
        |_=>io
      |none=>io
    | some ⟨.arr len u,_,_,_,_⟩=>match ty u with
      | some eu=>match ev s.f i with
        | .iv (.v (.int _ n))=>match ev s.f x with
          | .ptr j off=>dl (.ptr j (off+n.toNat*eu.size),0<=n∧n<len)
          |_=>io
        |_=>io
      |none=>io
    |_=>io
  | .index t x i=>match ty t with
    | some ⟨.aR .string,_,_,_,_⟩=>match ev s.f i with
      | .iv (.v (.int _ n))=>match ev s.f x with
        | .iv (.v (.string b))=>dl (.iv (.v (.int .u8 ((b.data.toList.getD n.toNat 0).toNat:Int))),0<=n∧n<b.size)
        |_=>io
      |_=>io
    |_=>io
  | .slice t x (dl lo) (dl hi) io=>match ty t with
    | some ⟨.aR (.slice u),_,_,_,_⟩=>match ty u with
      | some eu=>match ev s.f lo with
        | .iv (.v (.int _ a))=>match ev s.f hi with
          | .iv (.v (.int _ b))=>match ev s.f x with
            | .iv (.bU sz m el)=>bif TR sz eu.size then dl (.iv (.bU sz (b.toNat-a.toNat) (fun k=>el (a.toNat+k))),0<=a∧a<=b∧b<=m) else io
            |_=>io
          |_=>io
        |_=>io
      |none=>io
    | some ⟨.aR .string,_,_,_,_⟩=>match ev s.f lo with
      | .iv (.v (.int _ a))=>match ev s.f hi with
        | .iv (.v (.int _ b))=>match ev s.f x with
          | .iv (.v (.string y))=>dl (.iv (.v (.string (y.extract a.toNat b.toNat))),0<=a∧a<=b∧b<=y.size)
          |_=>io
        |_=>io
      |_=>io
    |_=>io
  | .slice t x (dl lo) io io=>match ty t with
    | some ⟨.aR (.slice u),_,_,_,_⟩=>match ty u with
      | some eu=>match ev s.f lo with
        | .iv (.v (.int _ a))=>match ev s.f x with
          | .iv (.bU sz m el)=>bif TR sz eu.size then dl (.iv (.bU sz (m-a.toNat) (fun k=>el (a.toNat+k))),0<=a∧a<=m) else io
          |_=>io
        |_=>io
      |none=>io
    |_=>io
  | .slice t x io (dl hi) (dl mx)=>match ty t with
    | some ⟨.aR (.slice u),_,_,_,_⟩=>match ty u with
      | some eu=>match ev s.f hi with
        | .iv (.v (.int _ b))=>match ev s.f mx with
          | .iv (.v (.int _ c))=>match ev s.f x with
            | .iv (.bU sz m el)=>bif TR sz eu.size then dl (.iv (.bU sz b.toNat el),0<=b∧b<=c∧c<=m) else io
            |_=>io
          |_=>io
        |_=>io
      |none=>io
    |_=>io
  | .convert t t' x=>match ty t with
    | some ⟨.aR (.int _),_,_,_,_⟩=>match ty t' with
      | some ⟨.aR (.int k),_,_,_,_⟩=>match ev s.f x with
        | .iv (.v (.int _ n))=>dl (.iv (.v (.int k (k.wrap n))),True)
        |_=>io
      |_=>io
    |_=>io
  | .build t parts=>match ty t with
    | some e=>match e.k with
      | .cq fs=>match qk ty fs with
        | some pl=>match oE (pl[·]?) (cy e.zero) (parts.toList.map fun x=>(x.1,ev s.f x.2)) with
          |some cs=>je cs fun d=>dl (.agg d,True)
          |none=>io
        |none=>io
      | .arr _ u=>match ty u with
        | some eu=>match oE (fun i=>dl (i*eu.size,eu.size)) (cy e.zero) (parts.toList.map fun x=>(x.1,ev s.f x.2)) with
          |some cs=>je cs fun d=>dl (.agg d,True)
          |none=>io
        |none=>io
      |_=>io
    |none=>io
  | .extract x k=>match ev s.f x with
    | .aZ cs=>match cs[k]? with
      |some p=>dl (p,True)
      |none=>io
    |_=>io
  | .makeFunc fn first caps=>je (first.toList.map (ev s.f)) fun a=>je (caps.toList.map (ev s.f)) fun b=>dl (.cN fn a b,True)
  | .call ⟨.builtin .len,args,argTypes⟩=>match args.toList,argTypes.toList with
    | [x],[t]=>match ty t with
      | some ⟨.aR (.slice _),_,_,_,_⟩=>match ev s.f x with
        | .iv (.bU sz n el)=>vR (.iv (.bU sz n el))
        | .sl i off len sz=>vR (.sl i off len sz)
        | .iv (.v (.slice io 0 0))=>vR (.iv (.v (.slice io 0 0)))
        |_=>io
      | some ⟨.aR .string,_,_,_,_⟩=>match ev s.f x with
        | .iv (.v (.string b))=>vR (.iv (.v (.string b)))
        |_=>io
      | some ⟨.aR (.map _ _),_,_,_,_⟩=>match ev s.f x with
        | .iv (.eP _ _ _ _ m)=>dl (.int m.length,True)
        | .mp j=>match s.h.get j with
          |some (.map _ _ _ _ _ m)=>dl (.int m.length,True)
          |_=>io
        |_=>io
      |_=>io
    |_,_=>io
  | .call ⟨.builtin .max,args,_⟩=>match args.toList with
    | [x,y]=>match ev s.f x,ev s.f y with
      | .iv (.v (.int k a)),.iv (.v (.int _ b))=>dl (.iv (.v (.int k (max a b))),True)
      |_,_=>io
    |_=>io
  | .call ⟨.builtin .min,args,_⟩=>match args.toList with
    | [x,y]=>match ev s.f x,ev s.f y with
      | .iv (.v (.int k a)),.iv (.v (.int _ b))=>dl (.iv (.v (.int k (min a b))),True)
      |_,_=>io
    |_=>io
  |_=>io
inductive TT where
  |leaf
  |node (l:TT) (k:Nat) (e:bJ) (r:TT)
def TT.find:TT->Nat->Option bJ
  | .leaf,_=>io
  | .node l k e r,t=>bif TR t k then dl e else bif TU t k then l.find t else r.find t
def TT.R9(p:Nat->bJ->Prop):TT->Prop
  | .leaf=>True
  | .node l k e r=>p k e∧l.R9 p∧r.R9 p
theorem TT.u2{p:Nat->bJ->Prop}: ∀{x:TT},x.R9 p-> ∀t e,x.find t=dl e->p t e
  | .leaf,_,t,e,h=>by simp[TT.find]at h
  | .node l k e0 r,ha,t,e,h=>by
    simp only[TT.find]at h;cases hb:TR t k with
    | true=>
      simp only[hb,cond_true,Tm]at h;subst h;rw[TM hb];exact ha.1
    | false=>
      simp only[hb,cond_false]at h;cases hl:TU t k with
      |true=>simp only[hl,cond_true]at h;exact TT.u2 ha.2.1 t e h
      |false=>simp only[hl,cond_false]at h;exact TT.u2 ha.2.2 t e h
theorem ad{P:Program}{t:TypeId}{e:bJ}(h:(P.info? t).map (fun i=>(i.size,i.bytes,i.zero))=dl (e.size,e.bytes,dl e.zero)): ∃i,P.info? t=dl i∧i.size=e.size∧i.bytes=e.bytes∧i.zero=dl e.zero:=by
  rw[Tw]at h;obtain⟨i,j,d⟩:=h;simp only[TC]at d;exact⟨i,j,d.1,d.2.1,d.2.2⟩
theorem VR.one{M:Mem}{N:Nm}{U:Nat->Prop}{p:PV}{x:Value}(h:VR M N U p x)(ho:p.one=is):x.oneCell'=is:=by
  cases h with
  | iv y x hi=>
    cases hi with
    |v x=>cases x<;>first|rfl|(simp[PV.one]at ho)
    |agg=>simp[PV.one]at ho
    |_=>rfl
  |agg=>simp[PV.one]at ho
  |aZ=>simp[PV.one]at ho
  |any=>simp[PV.one]at ho
  |_=>rfl
section
variable {M:Mem} {N:Nm}
theorem VR.jF{U:Nat->Prop}{cs:List PV}{x:Value}(h:VR M N U (.agg cs) x): ∃d:Array Value,x= .agg d∧cs.length=d.size∧ ∀j p,cs[j]? =dl p->VR M N U p (d.getD j undef):=by
  cases h with
  |agg _ d hl hr=>exact⟨d,rfl,hl,hr⟩
theorem nD{U:Nat->Prop}{p:PV}{x:Value}{cs:List PV}(h:VR M N U p x)(hc:p.cells=dl cs):cs.length=x.cells.size∧ ∀j q,cs[j]? =dl q->VR M N U q (x.cells.getD j undef):=by
  have one:p.one=is->cs=[p]->cs.length=x.cells.size∧ ∀j q,cs[j]? =dl q->VR M N U q (x.cells.getD j undef):=by
    intro u d;subst d;have A:=h.one u;have D:x.cells= #[x]:=by cases x<;>first|rfl|(simp[Value.oneCell']at A)
    rw[D];refine⟨rfl,fun j q y=>?_⟩;cases j with
    |zero=>simp at y;subst y;exact h
    |succ j=>simp at y
  cases p with
  | agg l=>
    simp only[PV.cells,Tm]at hc;subst hc;obtain⟨F,rfl,B,C⟩:=h.jF;exact⟨B,C⟩
  | _=>
    simp only[PV.cells]at hc;split at hc
    · rename_i u
      simp only[Tm]at hc;exact one u hc.symm
    · cases hc
theorem iK: ∀{cs:List PV},eM cs=is-> ∀(j:Nat) (p:PV),cs[j]? =dl p->p.one=is
  | [],_,j,p,h=>by simp at h
  | c::cs,h,j,p,hj=>by
    simp only[eM]at h;split at h
    · rename_i d
      cases j with
      |zero=>simp at hj;subst hj;exact d
      |succ j=>exact iK h j p (by simpa using hj)
    · cases h
theorem ft{U:Nat->Prop}(v:Value):(cy v).length=v.cells.size∧ ∀j p,(cy v)[j]? =dl p->VR M N U p (v.cells.getD j undef):=by
  refine⟨by simp[cy],fun j p d=>?_⟩;simp only[cy]at d;rw[Tu,Tw]at d;obtain⟨x,y,rfl⟩:=d;have u:v.cells[j]? =dl x:=by simpa using y
  rw[Tl,u];exact .iv _ _ (.v _)
theorem xd: ∀(l:List Value) (k off:Nat) (cs:Array Value),off+k+l.length<=cs.size->
    ((l.zipIdx k).foldl (fun cs x=>cs.setIfInBounds (off+x.2) x.1) cs).size=cs.size∧
    ∀j,((l.zipIdx k).foldl (fun cs x=>cs.setIfInBounds (off+x.2) x.1) cs)[j]? =if off+k<=j∧j<off+k+l.length then l[j-(off+k)]? else cs[j]?
  | [],k,off,cs,_=>⟨rfl,fun j=>by simp;omega⟩
  | v::l,k,off,cs,h=>by
    simp only[List.zipIdx_cons,Uc];simp only[TO]at h;obtain⟨y,A⟩:=xd l (k+1) off (cs.setIfInBounds (off+k) v) (by simp;omega);refine⟨by rw[y];simp,fun j=>?_⟩;rw[A j];simp only[TO];by_cases u:off+(k+1)<=j∧j<off+(k+1)+l.length
    · rw[am u,am (by omega),show j-(off+k)=(j-(off+(k+1)))+1 by omega,VH]
    · rw[be u]
      by_cases d:j=off+k
      · subst d
        have hb:off+k<cs.size:=by omega
        rw[am (by omega),Nat.sub_self];simp[hb]
      · rw[be (by omega),Ua,be (fun e=>d e.symm)]
def Td(M:Mem)(N:Nm)(U:Nat->Prop)(cs:List PV)(ys:Array Value):Prop:=cs.length=ys.size∧ ∀j p,cs[j]? =dl p->VR M N U p (ys.getD j undef)
theorem qG{u:Nat->Option (Nat×Nat)}: ∀{j:List (Nat×PV)} {cs d:List PV},oE u cs j=dl d->d.length=cs.length
  | [],cs,d,h=>by simp only[oE,Tm]at h;rw[h]
  | (i,p)::r,cs,d,h=>by
    simp only[oE]at h;split at h
    · split at h
      · split at h
        · rw[dh]at h
          rw[qG h,da]
        · cases h
      · cases h
    · cases h
theorem qF{U:Nat->Prop}{u:Nat->Option (Nat×Nat)}: ∀{d:List (Nat×PV)} {vals:List (Nat×Value)} {cs A:List PV} {ys:Array Value},
    oE u cs d=dl A->d.length=vals.length->(∀(j:Nat) (x:Nat×PV) (y:Nat×Value),d[j]? =dl x->vals[j]? =dl y->x.1=y.1∧VR M N U x.2 y.2)->Td M N U cs ys->
    ∃B,Instr.fill u ys vals=dl B∧Td M N U A B
  | [],[],cs,A,ys,h,_,_,hv=>by
    simp only[oE,Tm]at h;subst h;exact⟨ys,rfl,hv⟩
  | (i,p)::r,(i',v)::vr,cs,A,ys,h,hl,hp,hv=>by
    obtain⟨h1,h2⟩:=hp 0 _ _ I I;simp only at h1 h2;subst h1;simp only[oE]at h;split at h
    · rename_i a0 size b0
      split at h
      · rename_i l Z
        split at h
        · rename_i J Y
          rw[dh]at h;obtain⟨g1,g2⟩:=nD h2 Z;have c0:v.cells.size=size:=by rw[<-g1];exact TM J
          have F:a0+v.cells.size<=ys.size:=by rw[<-g1,<-hv.1];exact Tk Y
          obtain⟨k1,k2⟩:=xd v.cells.toList 0 a0 ys (by simpa using F);have C:v.cells.zipIdx.foldl (fun cs x=>cs.setIfInBounds (a0+x.2) x.1) ys=(v.cells.toList.zipIdx 0).foldl (fun cs x=>cs.setIfInBounds (a0+x.2) x.1) ys:=by
            rw[<-Wn,Array.toList_zipIdx]
          have d0:Td M N U (setCells cs a0 l) (v.cells.zipIdx.foldl (fun cs x=>cs.setIfInBounds (a0+x.2) x.1) ys):=by
            rw[C];refine⟨by rw[da,k1];exact hv.1,fun j q hq=>?_⟩;rw[Tl,k2 j];rcases gZ cs a0 l j q hq with⟨G,D⟩|⟨G,D⟩
            · have e0:j-a0<l.length:=(Tp.1 D).1
              rw[am (by simp;omega)];have:=g2 _ q D;rw[Tl]at this;simpa using this
            · rw[be (by simp;omega)]
              have:=hv.2 j q D;rw[Tl]at this;exact this
          obtain⟨B,G,D⟩:=qF h (by simpa using hl) (fun j x y hx hy=>hp (j+1) x y (by simpa using hx) (by simpa using hy)) d0;refine⟨B,?_,D⟩;simp only[Instr.fill,b0];rw[be (by simp[c0];omega)];exact G
        · cases h
      · cases h
    · cases h
end
section
variable {P:Program} {M:Mem} {N:Nm} {U:Nat->Prop} {h:AH} {w:World}
theorem Rel.Gu(hr:Rel M N U h w){b o:Nat}{v:Value}(hc:M.cell b o=dl v):w.cell? ⟨b,o,io⟩=dl v:=by
  unfold Mem.cell at hc;cases hb:M b with
  |none=>simp[hb]at hc
  | some c=>
    cases c with
    |map es cl=>simp[hb]at hc
    | cells c=>
      obtain⟨T,j,d⟩:=hr.ey b _ hb;rw[hb]at hc;simp only[World.cell?,d];simpa using hc
theorem IR.BN{cs:List IV}{x:Value}(hr:Rel M N U h w)(hp:IR M (.i7 cs) x):
    ∃b a0,x= .pointer (dl ⟨b,a0,io⟩)∧ ∀j q,cs[j]? =dl q-> ∃y,w.cell? ⟨b,a0+j,io⟩=dl y∧IR M q y:=by
  cases hp with
  | i7 _ b a0 hm hq=>
    refine⟨b,a0,rfl,fun j q A=>?_⟩;have d:j<cs.length:=(Tp.1 A).1;have B:=hm j d;cases hv:M.cell b (a0+j) with
    |none=>simp[hv]at B
    | some y=>
      have u:=hq j q A;rw[hv]at u;exact⟨y,hr.Gu hv,u⟩
theorem xy{p:PV}{x:Value}{cs:List PV}(hr:Rel M N U h w)(hp:VR M N U p x)(hb:behind h p=dl cs):
    ∃b a0,x= .pointer (dl ⟨b,a0,io⟩)∧ ∀j q,cs[j]? =dl q-> ∃y,w.cell? ⟨b,a0+j,io⟩=dl y∧VR M N U q y:=by
  cases p with
  | ptr i a0=>
    cases hp with
    | ptr _ _ hU=>
      simp only[behind]at hb;cases ho:h.get i with
      |none=>simp[ho]at hb
      | some o=>
        cases o with
        | cells cs0 T0=>
          simp only[ho,Tm]at hb;subst hb;obtain⟨c,T,B,h2,Y,C,Z⟩:=hr.obj i _ ho;refine⟨N.aC i,a0,rfl,fun j q d=>?_⟩;rw[Uz]at d;have u:a0+j<c.size:=by rw[<-Y];exact(Tp.1 d).1
          refine⟨c.getD (a0+j) undef,?_,C _ _ d⟩;simp[World.cell?,B,Tl,u]
        |_=>simp[ho]at hb
  | c6 i sz k a0=>
    cases hp with
    | c6 _ _ _ _ hU=>
      simp only[behind]at hb;cases ho:h.get i with
      |none=>simp[ho]at hb
      | some o=>
        cases o with
        | row sz' es=>
          simp only[ho]at hb;split at hb
          · rename_i e D A
            simp only[Tm]at hb;have:=TM D;subst this;subst hb;rcases hr.obj i _ ho with J|⟨J,c,T,B,h2,Y,C,Z⟩
            · subst J;simp at A
            refine⟨N.aC i,k*sz'+a0,rfl,fun j q d=>?_⟩;rw[Uz]at d;have b0:a0+j<sz':=by rw[<-C k e A];exact(Tp.1 d).1
            have hk:k<es.length:=(Tp.1 A).1;have G:(k+1)*sz'<=es.length*sz':=TN _ hk;rw[U4]at G;have u:k*sz'+a0+j<c.size:=by omega
            refine⟨c.getD (k*sz'+a0+j) undef,?_,?_⟩
            · simp[World.cell?,B,Tl,u]
            · rw[Ux];exact Z k e _ q A d
          · cases hb
        |_=>simp[ho]at hb
  | iv x=>
    cases x with
    | i7 cs0=>
      cases hp with
      | iv _ _ hi=>
        simp only[behind,Tm]at hb;subst hb;obtain⟨b,a0,rfl,hc⟩:=hi.BN hr;refine⟨b,a0,rfl,fun j q d=>?_⟩;rw[Tu,Tw]at d;obtain⟨q0,F,rfl⟩:=d;obtain⟨y,hy,hq⟩:=hc j q0 F;exact⟨y,hy,.iv _ _ hq⟩
    |_=>simp[behind]at hb
  |_=>simp[behind]at hb
theorem mM{cs l:List PV}{off n:Nat}(hh:kX cs off n=dl l):l.length=n∧ ∀j q,l[j]? =dl q->cs[off+j]? =dl q∧j<n:=by
  unfold kX at hh;cases hb:TR ((cs.drop off).take n).length n with
  |false=>simp only[hb,cond_false]at hh;cases hh
  | true=>
    simp only[hb,cond_true,Tm]at hh;subst hh;have x:=TM hb;refine⟨x,fun j q u=>?_⟩;have d:j<n:=by rw[<-x];exact(Tp.1 u).1
    rw[T4,am d,Uz]at u;exact⟨u,d⟩
theorem oB{cs:List PV}{p:PV}(hh:jV cs=dl p):cs[0]? =dl p:=by
  cases cs with
  |nil=>simp[jV]at hh
  |cons a r=>simpa[jV]using hh
theorem dp(b off j:Nat):(⟨b,off,io⟩:Addr).add j=⟨b,off+j,io⟩:=by
  unfold Addr.add;split
  · subst_vars;rfl
  · rfl
theorem r9{t:TypeId}{e:bJ}(he:ah P t e){cs:List PV}{b off:Nat}(hc: ∀j q,cs[j]? =dl q-> ∃y,w.cell? ⟨b,off+j,io⟩=dl y∧VR M N U q y)
    {p:PV} (hp:gI e cs=dl p): ∃y,(loadVar t ⟨b,off,io⟩).run P w= .ok y w∧VR M N U p y:=by
  unfold gI at hp;cases hk:e.k.agg with
  | true=>
    simp only[hk]at hp;cases ht:kX cs 0 e.size with
    |none=>simp[ht]at hp
    | some l=>
      simp only[ht,dh,Tm]at hp;subst hp;obtain⟨J,B⟩:=mM ht;have d: ∀j,j<e.size->w.cell? ((⟨b,off,io⟩:Addr).add j)=dl (((w.cell? ⟨b,off+j,io⟩)).getD undef):=by
        intro j G;have x:l[j]? =dl (l[j]'(by omega)):=Ts (by omega);obtain⟨y,u,_⟩:=hc j _ (by simpa using(B j _ x).1);rw[dp,u];rfl
      refine⟨.agg (((Uk e.size).map fun j=>(w.cell? ⟨b,off+j,io⟩).getD undef).toArray),?_,?_⟩
      · have:=run_loadCells (P:=P) w ⟨b,off,io⟩ e.size (fun j=>(w.cell? ⟨b,off+j,io⟩).getD undef) d
        simp[loadVar,iz he,hk,a7 he,this]
      · refine .agg _ _ (by simp[J]) (fun j q Y=>?_)
        obtain⟨C,D⟩:=B j q Y;obtain⟨y,u,A⟩:=hc j q (by simpa using C);have F:(((Uk e.size).map fun j=>(w.cell? ⟨b,off+j,io⟩).getD undef).toArray).getD j undef=y:=by
          simp[Tl,D,u]
        rw[F];exact A
  | false=>
    simp only[hk]at hp;obtain⟨y,u,A⟩:=hc 0 p (oB hp);refine⟨y,?_,A⟩;simp only[loadVar,Sem.run_bind,iz he,Result.andThen_ok,hk,VK,if_false];simp only[Vd]at u;simp[u]
theorem iU{t:TypeId}{e:bJ}(he:ah P t e){cs:List PV}{ys:Array Value}{off:Nat}(Y:cs.length=ys.size)(hc: ∀j q,cs[j]? =dl q->VR M N U q (ys.getD j undef))
    {p:PV} (hp:gI e (cs.drop off)=dl p): ∃y,(part t ys off).run P w= .ok y w∧VR M N U p y:=by
  unfold gI at hp;cases hk:e.k.agg with
  | true=>
    simp only[hk]at hp;cases ht:kX (cs.drop off) 0 e.size with
    |none=>simp[ht]at hp
    | some l=>
      simp only[ht,dh,Tm]at hp;subst hp;obtain⟨B,D⟩:=mM ht;refine⟨.agg (ys.extract off (off+e.size)),by simp[part,iz he,hk,a7 he],.agg _ _ ?_ (fun j q F=>?_)⟩
      · rw[B,Array.size_extract]
        by_cases u:e.size=0
        · omega
        · have d:l[e.size-1]? =dl (l[e.size-1]'(by omega)):=Ts (by omega)
          have:=(D _ _ d).1;rw[Uz]at this;have:=(Tp.1 this).1;omega
      · obtain⟨x,J⟩:=D j q F
        rw[Uz]at x;have A:=hc _ _ x;have C:off+(0+j)<cs.length:=(Tp.1 x).1;have:(ys.extract off (off+e.size)).getD j undef=ys.getD (off+(0+j)) undef:=by
          simp only[Tl,Array.getElem?_extract,TL];rw[am (by omega)]
        rw[this];exact A
  | false=>
    simp only[hk]at hp;have u:=oB hp;rw[Uz]at u;have A:=hc _ _ u;have C:off+0<cs.length:=(Tp.1 u).1;refine⟨ys.getD (off+0) undef,?_,A⟩;have G:ys[off]? =dl (ys.getD off undef):=by
      simp[Tl,show off<ys.size by omega]
    simp only[part,Sem.run_bind,iz he,Result.andThen_ok,hk,VK,if_false,G];rfl
theorem tV(a b:ByteArray):(a.toList==b.toList)=kw (a=b):=by
  rw[Lib.toList_data,Lib.toList_data,UN];simp only[beq_iff_eq,decide_eq_true_eq];exact⟨fun h=>WideShapes.bytes_inj h,fun h=>by rw[h]⟩
theorem GF{t:TypeId}{op:BinOp}{k:IntKind}{a b:Int}{p:PV}{C:Prop}(h:C8 op k a b=dl (p,C))(hC:C): ∃x,(binOp op t (.int k a) (.int k b)).run P w= .ok x w∧VR M N U p x:=by
  have j: ∀n:Int,qE n->IntKind.i64.wrap n=n:=fun n u=>IntWalk.i64_in n u;unfold C8 at h;split at h
  all_goals first
    |cases h;done
    | (simp only[Tm,TC]at h
       obtain⟨rfl,rfl⟩:=h;refine⟨_,?_,.iv _ _ (.v _)⟩
       first
       |(simp[binOp,Op.intCmp];done)
       |rfl
       |(simp[binOp,Op.intCmp];rfl)
       |(have d:=j _ hC;simp[binOp,Op.intArith,d];done)
       |(simp[binOp,Op.intDiv,hC];done)
       |(have d:=j _ hC.2;simp[binOp,Op.intDiv,hC.1,d];done))
theorem tY{t:TypeId}{op:BinOp}{k j:IntKind}{a b:Int}{p:PV}{C:Prop}(h:rZ op k a b=dl (p,C)): ∃x,(binOp op t (.int k a) (.int j b)).run P w= .ok x w∧VR M N U p x:=by
  unfold rZ at h;split at h
  case h_3=>cases h
  all_goals
    split at h
    · rename_i hb
      simp only[Tm,TC]at h;obtain⟨rfl,rfl⟩:=h;have d: ¬b<0:=by have:=of_decide_eq_true hb;omega
      refine⟨_,?_,.iv _ _ (.v _)⟩;simp only[binOp,Op.shift,be d];rfl
    · cases h
theorem Ft{t:TypeId}{op:BinOp}{a b:ByteArray}{p:PV}{C:Prop}(h:Ct op a b=dl (p,C))(hC:C): ∃x,(binOp op t (.string a) (.string b)).run P w= .ok x w∧VR M N U p x:=by
  unfold Ct at h;split at h
  all_goals first
    |cases h;done
    | (simp only[Tm,TC]at h
       obtain⟨rfl,rfl⟩:=h;refine⟨_,?_,.iv _ _ (.v _)⟩
       first
       |(simp[binOp,Op.stringOp,<-tV];done)
       | (have d: ¬(((a.size+b.size:Nat):Int)>IntKind.i64.max):=by(have:IntKind.i64.max=9223372036854775807:=by decide);rw[this];omega
          simp only[binOp,Op.stringOp,be d];rfl))
theorem dy{op:BinOp}{t:TypeId}{x y:Operand}{a b:Value}(h1:a≠ .nilIface)(j: ∀d,a≠ .agg d):(eqGuard op t x y a b).run P w= .ok () w:=by
  unfold eqGuard;cases op<;>cases a<;>first|rfl|exact absurd I h1|exact absurd I (j _)
theorem yG{t:TypeId}(hu:P.underlying t=dl .bool)(d:Nat)(a b:Bool):(Op.equalIn (d+1) t (.bool a) (.bool b)).run P w= .ok (a==b) w:=by
  simp[Op.equalIn,run_underlying hu]
theorem u4{t:TypeId}(hu:P.underlying t=dl .bool)(a b:Bool):(Op.equal t (.bool a) (.bool b)).run P w= .ok (a==b) w:=
  yG hu 9999 a b
theorem vk{t:TypeId}(hu:P.underlying t=dl .bool)(a b:Bool):(binOp .eql t (.bool a) (.bool b)).run P w= .ok (.bool (a==b)) w:=by
  show(Op.equal t (.bool a) (.bool b)>>=fun r=>(pure (.bool r):Sem Value)).run P w=_;rw[Sem.run_bind,u4 hu];rfl
theorem vj{t:TypeId}(hu:P.underlying t=dl .bool)(a b:Bool):(binOp .neq t (.bool a) (.bool b)).run P w= .ok (.bool (!(a==b))) w:=by
  show(Op.equal t (.bool a) (.bool b)>>=fun r=>(pure (.bool (!r)):Sem Value)).run P w=_;rw[Sem.run_bind,u4 hu];rfl
theorem n7{ty:Ty}(d:bE P ty){t:TypeId}{op:BinOp}{a b:Bool}{r:PV}{C:Prop}{u v:Operand}(h:nF ty t op a b=dl (r,C)):
    ∃z,(do eqGuard op t u v (.bool a) (.bool b);binOp op t (.bool a) (.bool b):Sem Value).run P w= .ok z w∧VR M N U r z:=by
  unfold nF at h;split at h
  · rename_i j
    have hu:P.underlying t=dl .bool:=(d t _ j).2.1.1;split at h
    all_goals first
      |cases h;done
      | (simp only[Tm,TC]at h
         obtain⟨rfl,rfl⟩:=h;refine⟨_,?_,.iv _ _ (.v _)⟩;rw[Sem.run_bind,dy (by simp) (by simp)]
         first|exact vk hu _ _|exact vj hu _ _)
  · cases h
theorem mT{ty:Ty}(j:bE P ty){t:TypeId}{wd:TypeDesc->Bool}{op:BinOp}{b:Bool}{r:PV}{C:Prop}{u v:Operand}{x y:Value}(h:sd ty t wd op b=dl (r,C))(h1:x≠ .nilIface)(B: ∀F,x≠ .agg F)
    (he:binOp .eql t x y=(Op.equal t x y>>=fun r=>(pure (.bool r):Sem Value))) (hn:binOp .neq t x y=(Op.equal t x y>>=fun r=>(pure (.bool (!r)):Sem Value)))
    (D: ∀d,wd d=is->P.underlying t=dl d->(Op.equal t x y).run P w= .ok b w):
    ∃z,(do eqGuard op t u v x y;binOp op t x y:Sem Value).run P w= .ok z w∧VR M N U r z:=by
  unfold sd at h;split at h
  · rename_i d _ _ _ _ G
    have hu:P.underlying t=dl d:=(j t _ G).2.1.1;split at h
    · rename_i A
      simp only[Tm,TC]at h;obtain⟨rfl,rfl⟩:=h;refine⟨.bool b,?_,.iv _ _ (.v _)⟩;rw[Sem.run_bind,dy h1 B,Result.andThen_ok,he,Sem.run_bind,D d A hu];rfl
    · rename_i A
      simp only[Tm,TC]at h;obtain⟨rfl,rfl⟩:=h;refine⟨.bool (!b),?_,.iv _ _ (.v _)⟩;rw[Sem.run_bind,dy h1 B,Result.andThen_ok,hn,Sem.run_bind,D d A hu];rfl
    · cases h
  · cases h
theorem sX{t e:TypeId}(hu:P.underlying t=dl (.pointer e))(d:Nat)(a:Addr):(Op.equalIn (d+1) t (.pointer (dl a)) (.pointer io)).run P w= .ok jp w:=by
  simp[Op.equalIn,run_underlying hu]
theorem oG{t e:TypeId}(hu:P.underlying t=dl (.pointer e))(a:Addr):(Op.equal t (.pointer (dl a)) (.pointer io)).run P w= .ok jp w:=sX hu 9999 a
theorem sY{t e:TypeId}(hu:P.underlying t=dl (.pointer e))(d:Nat):(Op.equalIn (d+1) t (.pointer io) (.pointer io)).run P w= .ok is w:=by
  simp[Op.equalIn,run_underlying hu]
theorem vT{t e:TypeId}(hu:P.underlying t=dl (.pointer e)):(Op.equal t (.pointer io) (.pointer io)).run P w= .ok is w:=sY hu 9999
theorem sZ{t k e:TypeId}(hu:P.underlying t=dl (.map k e))(d:Nat)(a:Nat):(Op.equalIn (d+1) t (.map (dl a)) (.map io)).run P w= .ok jp w:=by
  simp[Op.equalIn,run_underlying hu]
theorem vU{t k e:TypeId}(hu:P.underlying t=dl (.map k e))(a:Nat):(Op.equal t (.map (dl a)) (.map io)).run P w= .ok jp w:=sZ hu 9999 a
theorem rM{t:TypeId}{p q:Array TypeId}{b:Bool}(hu:P.underlying t=dl (.func p q b))(d:Nat)(f:Fn)(x y:Array Value):(Op.equalIn (d+1) t (.func f x y) .nilFunc).run P w= .ok jp w:=by
  simp[Op.equalIn,run_underlying hu]
theorem u3{t:TypeId}{p q:Array TypeId}{b:Bool}(hu:P.underlying t=dl (.func p q b))(f:Fn)(x y:Array Value):(Op.equal t (.func f x y) .nilFunc).run P w= .ok jp w:=rM hu 9999 f x y
theorem EO{ty:Ty}(B:bE P ty){t:TypeId}{op:BinOp}{p q:PV}{r:PV}{C:Prop}{u v:Operand}{x y:Value}(h:yL ty t op p q=dl (r,C))(hC:C)(A:VR M N U p x)(j:VR M N U q y):
    ∃z,(do eqGuard op t u v x y;binOp op t x y:Sem Value).run P w= .ok z w∧VR M N U r z:=by
  unfold yL at h;split at h
  · cases A with
    | iv _ _ A=>cases A with
      | v=>
        cases j with
        | iv _ _ j=>cases j with
          | v=>
            split at h
            · rename_i G
              subst G;unfold BO at h;split at h
              · obtain⟨z,F,D⟩:=tY (P:=P) (M:=M) (N:=N) (U:=U) (w:=w) (t:=t) h
                exact⟨z,by rw[Sem.run_bind,dy (by simp) (by simp)];exact F,D⟩
              · obtain⟨z,F,D⟩:=tY (P:=P) (M:=M) (N:=N) (U:=U) (w:=w) (t:=t) h
                exact⟨z,by rw[Sem.run_bind,dy (by simp) (by simp)];exact F,D⟩
              obtain⟨z,F,D⟩:=GF (P:=P) (M:=M) (N:=N) (U:=U) (w:=w) (t:=t) h hC;exact⟨z,by rw[Sem.run_bind,dy (by simp) (by simp)];exact F,D⟩
            · obtain⟨z,F,D⟩:=tY (P:=P) (M:=M) (N:=N) (U:=U) (w:=w) (t:=t) h
              exact⟨z,by rw[Sem.run_bind,dy (by simp) (by simp)];exact F,D⟩
  · cases A with
    | iv _ _ A=>cases A with
      | v=>
        cases j with
        | iv _ _ j=>cases j with
          | v=>
            obtain⟨z,F,D⟩:=Ft (P:=P) (M:=M) (N:=N) (U:=U) (w:=w) (t:=t) h hC;exact⟨z,by rw[Sem.run_bind,dy (by simp) (by simp)];exact F,D⟩
  · split at h
    · cases A with
      | iv _ _ A=>cases A with
        | v=>
          cases j with
          | iv _ _ j=>cases j with
            |v=>exact n7 B h
    · cases A with
      | iv _ _ A=>cases A with
        | v=>
          cases j with
          |kb=>exact n7 B h
    · cases h
  · split at h
    · cases A with
      | kb=>
        cases j with
        | iv _ _ j=>cases j with
          |v=>exact n7 B h
    · cases A with
      | kb=>
        cases j with
        |kb=>exact n7 B h
    · cases h
  · cases A with
    | ptr i off hU=>
      cases j with
      | iv _ _ j=>cases j with
        | v=>
          refine mT B h (by simp) (by simp) I I fun d hd hu=>?_;cases d<;>first|(cases hd;done)|exact oG hu _
  · cases A with
    | iv _ _ A=>cases A with
      | v=>cases j with
        | iv _ _ j=>cases j with
          | v=>
            refine mT B h (by simp) (by simp) I I fun d hd hu=>?_;cases d<;>first|(cases hd;done)|exact vT hu
  · cases A with
    | mp i hU=>
      cases j with
      | iv _ _ j=>cases j with
        | v=>
          refine mT B h (by simp) (by simp) I I fun d hd hu=>?_;cases d<;>first|(cases hd;done)|exact vU hu _
  · cases A with
    | cN=>
      cases j with
      | iv _ _ j=>cases j with
        | v=>
          refine mT B h (by simp) (by simp) I I fun d hd hu=>?_;cases d<;>first|(cases hd;done)|exact u3 hu _ _ _
  · cases h
theorem Gw{f:AF}{a:Act}(hf:FR M N U f a.tmps)(xs:Array Operand):(xs.toList.map (ev f)).length=(xs.map a.eval).size∧ ∀j p,(xs.toList.map (ev f))[j]? =dl p->VR M N U p ((xs.map a.eval).getD j undef):=by
  refine⟨by simp,fun j p u=>?_⟩;rw[Tu,Tw]at u;obtain⟨x,y,rfl⟩:=u;have d:xs[j]? =dl x:=by simpa using y
  rw[Tl,Vw,d];exact aJ hf x
theorem qH{t:TypeId}{e:bJ}(he:ah P t e){k off:Nat}{u:TypeId}(hf:tn e k=dl (off,u)): ∃(F:Array Field) (fd:Field),P.underlying t=dl (.struct F)∧F[k]? =dl fd∧fd.offset=off∧fd.type=u:=by
  unfold tn at hf;cases hk:e.k with
  | cq fs=>
    simp only[hk]at hf;obtain⟨_,j,_⟩:=he;rw[hk]at j;obtain⟨F,x,y⟩:=j;rw[<-y,Tu,Tw]at hf;obtain⟨fd,A,d⟩:=hf;simp only[TC]at d;exact⟨F,fd,x,by simpa using A,d.1,d.2⟩
  |_=>simp[hk]at hf
theorem Ea{n:Nat}{p q:PV}{x:Value}(A:VR M N U p x)(h:o6 n p=dl q): ∃b o,x= .pointer (dl ⟨b,o,io⟩)∧VR M N U q (.pointer (dl ⟨b,o+n,io⟩)):=by
  cases A with
  |ptr i off hU=>simp only[o6,Tm]at h;subst h;exact⟨_,_,rfl,.ptr _ _ hU⟩
  |c6 i sz k off hU=>simp only[o6,Tm]at h;subst h;exact⟨_,_,rfl,by rw[Ux];exact .c6 _ _ _ _ hU⟩
  | iv y _ hi=>
    cases hi with
    | i7 cs b off hm hr=>
      simp only[o6,Tm]at h;subst h;refine⟨b,off,rfl,.iv _ _ (.i7 _ _ _ (fun j u=>?_) (fun j p d=>?_))⟩
      · rw[U5]at u
        rw[Ux];exact hm (n+j) (by omega)
      · rw[Uz]at d
        rw[Ux];exact hr (n+j) p d
    |_=>simp[o6]at h
  |_=>simp[o6]at h
theorem oA{t u:TypeId}{eu:bJ}(hu:P.underlying t=dl (.slice u))(d:ah P u eu){p q:PV}{k:IntKind}{n:Int}{C:Prop}{x:Value}(F:VR M N U p x)
    (B:(∃m A,p= .iv (.bU eu.size m A))∨ ∃i a0 len,p= .sl i a0 len eu.size) (h:jU p n=dl (q,C)) (hC:C): ∃y,(Instr.indexAt t x (.int k n)).run P w= .ok y w∧VR M N U q y:=by
  rcases B with⟨m,A,rfl⟩|⟨i,a0,len,rfl⟩
  · simp only[jU,Tm,TC]at h
    obtain⟨rfl,rfl⟩:=h;cases F with
    | iv _ _ hi=>
      cases hi with
      |fN sz A a cap=>omega
      | bU sz m A b a0 cap hn hc hl hm hr=>
        refine⟨.pointer (dl ⟨b,a0+n.toNat*eu.size,io⟩),?_,.iv _ _ (.i7 _ _ _ (fun j D=>?_) (fun j p G=>hr n.toNat j p (by omega) G))⟩
        · simp only[Instr.indexAt,asIntOf]
          simp[run_underlying hu,hC.1,hC.2,a7 d,dp]
        · rw[hl n.toNat (by omega)]at D
          exact hm n.toNat j (by omega) D
  · simp only[jU,Tm,TC]at h
    obtain⟨rfl,rfl⟩:=h;cases F with
    |lK=>omega
    |sle=>omega
    | sl _ _ _ _ cap hU h0 hl hc he=>
      refine⟨.pointer (dl ⟨N.aC i,(a0+n.toNat)*eu.size+0,io⟩),?_,.c6 _ _ _ _ hU⟩;simp only[Instr.indexAt,asIntOf];simp[run_underlying hu,hC.1,hC.2,a7 d,dp,Ug]
theorem DU{t u:TypeId}{eu:bJ}(hu:P.underlying t=dl (.slice u))(d:ah P u eu){m:Nat}{el:Nat->List IV}{ka kb:IntKind}{na nb:Int}{q:PV}{C:Prop}{x:Value}(Y:VR M N U (.iv (.bU eu.size m el)) x)
    (h:dl (PV.iv (.bU eu.size (nb.toNat-na.toNat) (fun k=>el (na.toNat+k))),0<=na∧na<=nb∧nb<=m)=dl (q,C)) (hC:C): ∃y,(Instr.sliceAt t x (dl (.int ka na)) (dl (.int kb nb)) io).run P w= .ok y w∧VR M N U q y:=by
  simp only[Tm,TC]at h;obtain⟨rfl,rfl⟩:=h;obtain⟨F,h1,h2⟩:=hC;have hb:(nb.toNat:Int)=nb:=VW (by omega);cases Y with
  | iv _ _ hi=>
    cases hi with
    | fN sz el a cap=>
      have B:na=0:=by omega
      have D:nb=0:=by omega
      subst B;subst D;refine⟨.slice (if cap=0 then a else a.map (·.add (0*eu.size))) 0 cap,?_,.iv _ _ (.fN _ _ _ _)⟩;simp[Instr.sliceAt,Instr.slice,Instr.sliceBounds,Instr.sliceBound,asIntOf,run_underlying hu,a7 d]
    | bU sz m el b off cap hn hc hl hm hr=>
      refine⟨.slice (if cap=na.toNat then dl ⟨b,off,io⟩ else(dl (⟨b,off,io⟩:Addr)).map (·.add (na.toNat*eu.size))) (nb.toNat-na.toNat) (cap-na.toNat),?_,?_⟩
      · have g1:nb<=(cap:Int):=by omega
        have g2:na<=(nb.toNat:Int):=by omega
        simp[Instr.sliceAt,Instr.slice,Instr.sliceBounds,Instr.sliceBound,asIntOf,run_underlying hu,a7 d,F,g1,(by omega:0<=nb)];intro hh;omega
      · by_cases Z:nb.toNat-na.toNat=0
        · rw[Z];exact .iv _ _ (.fN _ _ _ _)
        · rw[be (by omega),Ut,dp]
          refine .iv _ _ (IR.bU (sz:=eu.size) (n:=nb.toNat-na.toNat) (el:=fun k=>el (na.toNat+k)) (b:=b) (off:=off+na.toNat*eu.size) (cap:=cap-na.toNat) (by omega) (by omega) (fun k A=>hl _ (by omega)) (fun k j A G=>?_) (fun k j p A J=>?_))
          · have:=hm (na.toNat+k) j (by omega) G
            rwa[Ug,<-Ux]at this
          · have:=hr (na.toNat+k) j p (by omega) J
            rwa[Ug,<-Ux]at this
theorem DT{t u:TypeId}{eu:bJ}(hu:P.underlying t=dl (.slice u))(d:ah P u eu){m:Nat}{el:Nat->List IV}{ka:IntKind}{na:Int}{q:PV}{C:Prop}{x:Value}(Y:VR M N U (.iv (.bU eu.size m el)) x)
    (h:dl (PV.iv (.bU eu.size (m-na.toNat) (fun k=>el (na.toNat+k))),0<=na∧na<=m)=dl (q,C)) (hC:C): ∃y,(Instr.sliceAt t x (dl (.int ka na)) io io).run P w= .ok y w∧VR M N U q y:=by
  simp only[Tm,TC]at h;obtain⟨rfl,rfl⟩:=h;obtain⟨D,F⟩:=hC;cases Y with
  | iv _ _ hi=>
    cases hi with
    | fN sz el a cap=>
      have B:na=0:=by omega
      subst B;refine⟨.slice (if cap=0 then a else a.map (·.add (0*eu.size))) 0 cap,?_,.iv _ _ (.fN _ _ _ _)⟩;simp[Instr.sliceAt,Instr.slice,Instr.sliceBounds,Instr.sliceBound,asIntOf,run_underlying hu,a7 d]
    | bU sz m el b off cap hn hc hl hm hr=>
      refine⟨.slice (if cap=na.toNat then dl ⟨b,off,io⟩ else(dl (⟨b,off,io⟩:Addr)).map (·.add (na.toNat*eu.size))) (m-na.toNat) (cap-na.toNat),?_,?_⟩
      · simp[Instr.sliceAt,Instr.slice,Instr.sliceBounds,Instr.sliceBound,asIntOf,run_underlying hu,a7 d,D,F]
      · by_cases Z:m-na.toNat=0
        · rw[Z];exact .iv _ _ (.fN _ _ _ _)
        · rw[be (by omega),Ut,dp]
          refine .iv _ _ (IR.bU (sz:=eu.size) (n:=m-na.toNat) (el:=fun k=>el (na.toNat+k)) (b:=b) (off:=off+na.toNat*eu.size) (cap:=cap-na.toNat) (by omega) (by omega) (fun k A=>hl _ (by omega)) (fun k j A G=>?_) (fun k j p A J=>?_))
          · have:=hm (na.toNat+k) j (by omega) G
            rwa[Ug,<-Ux]at this
          · have:=hr (na.toNat+k) j p (by omega) J
            rwa[Ug,<-Ux]at this
theorem Bf{t u:TypeId}{eu:bJ}(hu:P.underlying t=dl (.slice u))(d:ah P u eu){m:Nat}{el:Nat->List IV}{kb kc:IntKind}{nb nc:Int}{q:PV}{C:Prop}{x:Value}(Z:VR M N U (.iv (.bU eu.size m el)) x)
    (h:dl (PV.iv (.bU eu.size nb.toNat el),0<=nb∧nb<=nc∧nc<=m)=dl (q,C)) (hC:C): ∃y,(Instr.sliceAt t x io (dl (.int kb nb)) (dl (.int kc nc))).run P w= .ok y w∧VR M N U q y:=by
  simp only[Tm,TC]at h;obtain⟨rfl,rfl⟩:=h;obtain⟨F,h1,h2⟩:=hC;have hb:(nb.toNat:Int)=nb:=VW (by omega);have G:(nc.toNat:Int)=nc:=VW (by omega);cases Z with
  | iv _ _ hi=>
    cases hi with
    | fN sz el a cap=>
      have B:nb=0:=by omega
      have D:nc=0:=by omega
      subst B;subst D;refine⟨.slice a 0 0,?_,.iv _ _ (.fN _ _ _ _)⟩;simp[Instr.sliceAt,Instr.slice,Instr.sliceBounds,Instr.sliceBound,asIntOf,run_underlying hu,a7 d]
    | bU sz m el b off cap hn hc hl hm hr=>
      refine⟨.slice (if nc.toNat=0 then dl ⟨b,off,io⟩ else(dl (⟨b,off,io⟩:Addr)).map (·.add (0*eu.size))) nb.toNat nc.toNat,?_,?_⟩
      · have g1:nc<=(cap:Int):=by omega
        have g2:nb<=(nc.toNat:Int):=by omega
        simp[Instr.sliceAt,Instr.slice,Instr.sliceBounds,Instr.sliceBound,asIntOf,run_underlying hu,a7 d,F,g1,(by omega:0<=nc)];intro hh;omega
      · by_cases hz:nb.toNat=0
        · rw[hz];exact .iv _ _ (.fN _ _ _ _)
        · rw[be (by omega),Ut,dp,U6,Vd]
          exact .iv _ _ (IR.bU (sz:=eu.size) (n:=nb.toNat) (el:=el) (b:=b) (off:=off) (cap:=nc.toNat) (by omega) (by omega) (fun k A=>hl _ (by omega)) (fun k j A J=>hm k j (by omega) J) (fun k j p A Y=>hr k j p (by omega) Y))
theorem y9{t:TypeId}(hu:P.underlying t=dl .string){b:ByteArray}{ka kb:IntKind}{na nb:Int}(hC:0<=na∧na<=nb∧nb<=b.size):
    (Instr.sliceAt t (.string b) (dl (.int ka na)) (dl (.int kb nb)) io).run P w= .ok (.string (b.extract na.toNat nb.toNat)) w:=by
  obtain⟨d,u,j⟩:=hC;have hb:(nb.toNat:Int)=nb:=VW (by omega);have g2:na<=(nb.toNat:Int):=by omega
  simp[Instr.sliceAt,Instr.slice,Instr.sliceBounds,Instr.sliceBound,asIntOf,run_underlying hu,d,j,(by omega:0<=nb)];intro hh;omega
end
end
end Go.Al
namespace Go.Al
open Go.MapKept
section
section
variable {P:Program} {ty:Ty} {M:Mem} {N:Nm} {U:Nat->Prop} {w:World}
theorem gT{t:TypeId}{F:Array Field}(h:P.underlying t=dl (.struct F)):P.fieldsOf t=F:=by
  simp[Program.fieldsOf,h]
theorem bH {t:TypeId} {F:Array Field} (h:P.underlying t=dl (.struct F)) (h1:P.stoodInHeld t=jp) (j:P.eqGuardType P.depth t=jp) (u:(F.toList.all fun f=>f.name != "_")=is):R2 P t:=
  ⟨h1,j,fun f d=>by
    rw[gT h]at d;have:=T7.1 u f d
    simpa using this⟩
theorem Dm(d:bE P ty){f:TypeId->PV->PV->Option Bool}{D:Nat}(hf: ∀u p q b,f u p q=dl b-> ∀x y,VR M N U p x->VR M N U q y->(Op.equalIn D u x y).run P w= .ok b w)
    {cs ds:List PV} {xs ys:Array Value} (hx:VR M N U (.agg cs) (.agg xs)) (hy:VR M N U (.agg ds) (.agg ys)):
    ∀(F:List Field) (b:Bool),(∀g∈F,g.name≠ "_")->EE f ty (F.map fun g=>(g.offset,g.type)) cs ds=dl b->(Op.eqFields D xs ys F).run P w= .ok b w
  | [],b,_,h=>by simp only[TX,EE,Tm]at h;subst h;simp[Op.eqFields]
  | g::F,b,hn,h=>by
    simp only[TD,EE]at h;split at h
    · rename_i eu j
      split at h
      · rename_i p q hp hq
        split at h
        · rename_i b1 b2 h1 h2
          simp only[Tm]at h;subst h;obtain⟨_,A,B,C⟩:=hx.jF;cases A;obtain⟨_,Y,Z,a0⟩:=hy.jF;cases Y;obtain⟨x,G,J⟩:=iU (P:=P) (w:=w) (d _ _ j) B C hp;obtain⟨y,b0,c0⟩:=iU (P:=P) (w:=w) (d _ _ j) Z a0 hq;have h3:=hf _ _ _ _ h1 x y J c0;have h4:=Dm d hf hx hy F b2 (fun g hg=>hn g (TH _ hg)) h2;simp only[Op.eqFields,am (hn g TJ),Sem.run_bind,G,b0,h3,Result.andThen_ok];cases b1 with
          |false=>simp
          |true=>simpa using h4
        · cases h
      · cases h
    · cases h
theorem BZ(j:bE P ty): ∀(d:Nat) (t:TypeId) (p q:PV) (b:Bool),EF ty d t p q=dl b-> ∀x y,VR M N U p x->VR M N U q y-> ∀m,(Op.equalIn (d+m) t x y).run P w= .ok b w
  |0,_,_,_,_,h,_,_,_,_,_=>by simp[EF]at h
  | d+1,t,p,q,b,h,x,y,A,B,m=>by
    rw[show d+1+m=(d+m)+1 by omega];simp only[EF]at h;split at h
    · rename_i k _ _ _ _ C
      have hu:=(j t _ C).2.1.1;split at h
      · split at h
        · simp only[Tm]at h
          subst h;cases A with
          | iv _ _ A => cases A
                        cases B with
                        | iv _ _ B => cases B
                                      rename_i e;subst e;rw[run_equalIn_int _ _ _ _ _ _ _ hu];congr 1
        · cases h
      · cases h
    · rename_i _ _ _ _ C
      have hu:=(j t _ C).2.1.1;split at h
      · simp only[Tm]at h
        subst h;cases A with
        | iv _ _ A => cases A
                      cases B with
                      | iv _ _ B => cases B
                                    rw[run_equalIn_string _ _ _ _ _ hu,tV]
      · cases h
    · rename_i _ _ _ _ C
      have hu:=(j t _ C).2.1.1;split at h
      · simp only[Tm]at h
        subst h;cases A with
        | iv _ _ A => cases A
                      cases B with
                      |iv _ _ B=>cases B;rw[run_equalIn_bool' _ _ _ _ _ hu]
      · cases h
    · rename_i fs _ _ _ C
      obtain⟨_,⟨F,hu,Y⟩,Z⟩:=j t _ C;obtain⟨J,a0,G⟩:=Z I;split at h
      · obtain⟨xs,rfl,_,_⟩:=A.jF
        obtain⟨ys,rfl,_,_⟩:=B.jF;have D:=gT hu;rw[run_equalIn_struct _ _ _ _ _ (by rw[D];exact hu) J,D];rw[D]at G;refine Dm j (f:=EF ty d) (fun u p q b hb x y A B=>BZ j d u p q b hb x y A B m) A B _ _ G ?_;rw[Y];exact h
      · cases h
    · cases h
theorem HJ(B:bE P ty){t:TypeId}{op:BinOp}{cs D:List PV}{r:PV}{C:Prop}{u v:Operand}{x y:Value}(h:DB ty t op (.agg cs) (.agg D)=dl (r,C))(G:VR M N U (.agg cs) x)(J:VR M N U (.agg D) y):
    C∧ ∃z,(do eqGuard op t u v x y;binOp op t x y:Sem Value).run P w= .ok z w∧VR M N U r z:=by
  have key: ∀b,EF ty 10 t (.agg cs) (.agg D)=dl b-> ∃d j,x= .agg d∧y= .agg j∧P.eqGuardType P.depth t=jp∧(Op.equalIn 10000 t (.agg d) (.agg j)).run P w= .ok b w:=by
    intro b hb;have A:=BZ (P:=P) (w:=w) B 10 t _ _ b hb x y G J 9990;obtain⟨d,rfl,_,_⟩:=G.jF;obtain⟨j,rfl,_,_⟩:=J.jF;refine⟨d,j,rfl,rfl,?_,A⟩;simp only[EF]at hb;split at hb
    · cases hb
    · cases hb
    · cases hb
    · rename_i Y
      exact((B t _ Y).2.2 I).2.1
    · cases hb
  unfold DB at h;split at h
  · split at h
    · rename_i b hb
      simp only[Tm,TC]at h;obtain⟨rfl,rfl⟩:=h;obtain⟨d,j,rfl,rfl,A,F⟩:=key b hb;refine⟨ac,.bool b,?_,.iv _ _ (.v _)⟩;rw[Sem.run_bind,run_eqGuard_agg _ _ _ _ _ _ _ A,Result.andThen_ok,run_eql_struct,F];rfl
    · cases h
  · split at h
    · rename_i b hb
      simp only[Tm,TC]at h;obtain⟨rfl,rfl⟩:=h;obtain⟨d,j,rfl,rfl,A,F⟩:=key b hb;refine⟨ac,.bool (!b),?_,.iv _ _ (.v _)⟩;rw[Sem.run_bind,run_eqGuard_agg _ _ _ _ _ _ _ A,Result.andThen_ok,run_neq_struct,F];rfl
    · cases h
  · cases h
theorem CP(kc:KC)(k:kc.K):VR M N U (kc.pk k) (kc.ek k):=by
  cases kc with
  |str=>exact .iv _ _ (.v _)
  |int k=>exact .iv _ _ (.v _)
  | si j=>
    refine .agg _ _ (by rfl) fun i p d=>?_
    match i with
    |0=>simp at d;subst d;exact .iv _ _ (.v _)
    |1=>simp at d;subst d;exact .iv _ _ (.v _)
    |i+2=>simp at d
  | fl s=>
    refine .agg _ _ (by simp) fun i p d=>?_;rw[Tu,Tw]at d;obtain⟨v,u,rfl⟩:=d;have:((FK.vs s k).toArray).getD i undef=v:=by simp[Tl,u]
    rw[this];exact .iv _ _ (.v _)
theorem F3: ∀{s:FS} {cs:List PV} {k:FK s} {ys:List Value},FK.rd s cs=dl k->cs.length=ys.length->(∀j q,cs[j]? =dl q->VR M N U q (ys.getD j undef))->ys=FK.vs s k
  | [],cs,k,ys,h,hl,hr=>by
    unfold FK.rd at h;split at h
    · match ys,hl with
      | [],_=>rfl
    · cases h
  | none::r,cs,k,ys,h,hl,hr=>by
    unfold FK.rd at h;split at h
    · rename_i a x
      split at h
      · rename_i C B
        simp only[Tm]at h;subst h
        match ys,hl with
        | y::ys,hl=>
          have d:=hr 0 _ I;have A:=F3 B (by simpa using hl) fun j q u=>by simpa using hr (j+1) q (by simpa using u)
          rw[List.getD_cons_zero]at d;cases d with
          |iv _ _ d=>cases d;simp only[FK.vs,A]
      · cases h
    · cases h
  | some q::r,cs,k,ys,h,hl,hr=>by
    unfold FK.rd at h;split at h
    · rename_i j n x
      split at h
      · rename_i C u B
        have u:=of_decide_eq_true u;subst u;simp only[Tm]at h;subst h
        match ys,hl with
        | y::ys,hl=>
          have d:=hr 0 _ I;have A:=F3 B (by simpa using hl) fun j q u=>by simpa using hr (j+1) q (by simpa using u)
          rw[List.getD_cons_zero]at d;cases d with
          |iv _ _ d=>cases d;simp only[FK.vs,A]
      · cases h
    · cases h
theorem He{kc:KC}{p:PV}{k:kc.K}{x:Value}(h:kc.dk p=dl k)(d:VR M N U p x):x=kc.ek k:=by
  cases kc with
  | str=>
    simp only[KC.dk]at h;split at h
    · simp only[Tm]at h
      subst h;cases d with
      |iv _ _ d=>cases d;rfl
    · cases h
  | int j=>
    simp only[KC.dk]at h;split at h
    · split at h
      · rename_i e
        subst e;simp only[Tm]at h;subst h;cases d with
        |iv _ _ d=>cases d;rfl
      · cases h
    · cases h
  | si j=>
    simp only[KC.dk]at h;split at h
    · split at h
      · rename_i e
        subst e;simp only[Tm]at h;subst h;obtain⟨ys,rfl,y,u⟩:=d.jF;have g0:=u 0 _ I;have g1:=u 1 _ I;obtain⟨ys⟩:=ys
        match ys,y with
        | [a,b],_=>
          simp at g0 g1;cases g0 with
          | iv _ _ g0=>
            cases g1 with
            |iv _ _ g1=>cases g0;cases g1;rfl
      · cases h
    · cases h
  | fl s=>
    simp only[KC.dk]at h;split at h
    · obtain⟨ys,rfl,y,u⟩:=d.jF
      have:=F3 (ys:=ys.toList) h (by simpa using y) fun j q A=>by
        have:=u j q A;rwa[Tl,<-T5,<-Tr]at this
      show Value.agg ys=Value.agg (FK.vs s k).toArray;rw[<-this]
    · cases h
theorem sx{j:TypeId}(d:bE P ty)(h:ew ty j=dl .str):P.underlying j=dl .string:=by
  unfold ew at h;split at h
  · rename_i u;exact(d _ _ u).2.1.1
  · cases h
  · split at h<;>cases h
  · split at h<;>cases h
  · cases h
theorem sy{j:TypeId}{k:IntKind}(d:bE P ty)(h:ew ty j=dl (.int k)):P.underlying j=dl (.int k):=by
  unfold ew at h;split at h
  · cases h
  · rename_i u;simp only[Tm,KC.int.injEq]at h;subst h;exact(d _ _ u).2.1.1
  · split at h<;>cases h
  · split at h<;>cases h
  · cases h
def okV:Option IntKind->Value->Prop
  |none,v=> ∃a,v= .string a
  |some q,v=> ∃n,v= .int q n
def vE:FS->List Value->Prop
  | [],[]=>True
  |o::s,v::l=>okV o v∧vE s l
  |_,_=>False
theorem vE.length: ∀{s:FS} {l:List Value},vE s l->l.length=s.length
  | [],[],_=>rfl
  |_::s,_::l,h=>by simp[vE.length h.2]
  | [],_::_,h=>h.elim
  |_::_,[],h=>h.elim
theorem vE.split: ∀{s q:FS} {l:List Value},vE (s++q) l-> ∃a b,l=a++b∧vE s a∧vE q b
  | [],_,l,h=>⟨[],l,rfl,ac,h⟩
  | o::s,q,v::l,h=>by
    obtain⟨a,b,d,j,u⟩:=vE.split (s:=s) h.2;exact⟨v::a,b,by rw[d];rfl,⟨h.1,j⟩,u⟩
  |_::_,_,[],h=>h.elim
theorem kU: ∀(s:FS) (k:FK s),vE s (FK.vs s k)
  | [],_=>trivial
  |none::r,k=>⟨⟨_,rfl⟩,kU r k.2⟩
  |some q::r,k=>⟨⟨_,rfl⟩,kU r k.2⟩
theorem A7: ∀{s:FS} {a b:FK s},FK.vs s a=FK.vs s b->a=b
  | [],_,_,_=>rfl
  | none::r,a,b,h=>by
    simp only[FK.vs,WI,Value.string.injEq]at h;exact Prod.ext h.1 (A7 h.2)
  | some q::r,a,b,h=>by
    simp only[FK.vs,WI,Value.int.injEq,true_and]at h;exact Prod.ext h.1 (A7 h.2)
def Gt(e:bJ)(l:List Value):Value:=match e.k.agg with
  |true=> .agg l.toArray
  |false=>l.headD undef
theorem jJ{u:TypeId}{e:bJ}(he:ah P u e)(hn:e.k.agg=jp->e.size=1)(pre a d:List Value)(ha:a.length=e.size):(part u (pre++(a++d)).toArray pre.length).run P w= .ok (Gt e a) w:=by
  cases hk:e.k.agg with
  | true=>
    have:(pre++(a++d)).toArray.extract pre.length (pre.length+e.size)=a.toArray:=by
      apply Array.ext';rw[<-ha];simp
    simp only[part,iz he,hk,a7 he,Gt,this,Sem.run_bind,Result.andThen_ok,if_true,Sem.run_pure]
  | false=>
    have j:=hn hk
    match a,ha with
    | [],h=>rw[j]at h;cases h
    | [v],_=>simp[part,iz he,hk,Gt]
    |_::_::_,h=>rw[j]at h;simp at h
def yQ(P:Program)(ty:Ty)(d:Nat)(t:TypeId)(s:FS):Prop:=
  ∃e,ty t=dl e∧e.size=s.length∧(e.k.agg=jp->e.size=1)∧(∀(w:World) a b,vE s a->vE s b-> ∀D,∃r:Bool,(Op.equalIn (d+D) t (Gt e a) (Gt e b)).run P w= .ok r w∧(r=is↔a=b))∧ ∀(w:World) a,vE s a-> ∀j D,(Instr.checkKey j (d+D) t (Gt e a)).run P w= .ok () w
theorem xg(A:bE P ty){f:TypeId->Option FS}{d:Nat}(hf: ∀u s,f u=dl s->yQ P ty d u s)(D:Nat): ∀(F:List Field) (q:FS) (j x a b:List Value),j.length=x.length->(∀g∈F,g.name≠ "_")->pq f (F.map fun g=>(g.offset,g.type)) j.length=dl q->vE q a->vE q b->
    ∃r:Bool,(Op.eqFields (d+D) (j++a).toArray (x++b).toArray F).run P w= .ok r w∧(r=is↔a=b)
  | [],q,_,_,a,b,_,_,h,ha,hb=>by
    simp only[TX,pq,Tm]at h;subst h
    match a,b,ha,hb with
    | [],[],_,_=>exact⟨is,by simp[Op.eqFields],by simp⟩
  | g::F,q,j,x,a,b,hp,hn,h,ha,hb=>by
    simp only[TD,pq]at h;split at h
    · rename_i s ho hs
      have ho:=TM ho;split at h
      · rename_i q' hq
        simp only[Tm]at h;subst h;obtain⟨B,a2,rfl,G,Z⟩:=ha.split;obtain⟨C,Y,rfl,J,a0⟩:=hb.split;obtain⟨e,he,c0,y,b0,_⟩:=hf _ _ hs;have la:=G.length;have lb:=J.length;have p1:=jJ (P:=P) (w:=w) (A _ _ he) y j B a2 (by omega);have p2:=jJ (P:=P) (w:=w) (A _ _ he) y x C Y (by omega);obtain⟨r2,ih,i2⟩:=xg A hf D F q' (j++B) (x++C) a2 Y (by simp[hp,la,lb]) (fun g hg=>hn g (TH _ hg)) (by rw[Tn,la];exact hq) Z a0;simp only[Tz]at ih;simp only[Op.eqFields,am (hn g TJ),Sem.run_bind,ho,p1,Result.andThen_ok];rw[hp,p2];obtain⟨r1,j1,j2⟩:=b0 w B C G J D;simp only[Result.andThen_ok,j1];have hd:B++a2=C++Y↔B=C∧a2=Y:=⟨fun h=>Xe h (by omega),fun h=>by rw[h.1,h.2]⟩
        cases r1 with
        |true=>exact⟨r2,by simpa using ih,by rw[hd,i2];exact⟨fun h=>⟨j2.1 I,h⟩,fun h=>h.2⟩⟩
        |false=>exact⟨jp,by simp,by rw[hd];exact⟨(fun h=>nomatch h),fun h=>j2.2 h.1⟩⟩
      · cases h
    · cases h
theorem xf(B:bE P ty){d:Nat}{u:TypeId}{s:FS}(hf:yQ P ty d u s)(D c:Nat)(hc:c=s.length): ∀(m j:Nat) (x y a b:List Value),x.length=j*c->y.length=j*c->vE (Bq s m) a->vE (Bq s m) b->
    ∃r:Bool,(Op.eqItems (d+D) u c (x++a).toArray (y++b).toArray (List.range' j m)).run P w= .ok r w∧(r=is↔a=b)
  | 0,j,_,_,a,b,_,_,ha,hb=>by
    match a,b,ha,hb with
    | [],[],_,_=>exact⟨is,by simp[Op.eqItems],by simp⟩
  | m+1,j,x,y,a,b,h1,h2,ha,hb=>by
    obtain⟨C,a2,rfl,G,Z⟩:=vE.split ha;obtain⟨F,Y,rfl,J,a0⟩:=vE.split hb;obtain⟨e,he,c0,A,b0,_⟩:=id hf;have la:=G.length;have lb:=J.length;have p1:=jJ (P:=P) (w:=w) (B _ _ he) A x C a2 (by omega);have p2:=jJ (P:=P) (w:=w) (B _ _ he) A y F Y (by omega);obtain⟨r2,ih,i2⟩:=xf B hf D c hc m (j+1) (x++C) (y++F) a2 Y (by rw[Tn,h1,la,U4,hc]) (by rw[Tn,h2,lb,U4,hc]) Z a0;simp only[Tz]at ih;rw[W6];rw[h1]at p1;rw[h2]at p2;obtain⟨r1,j1,j2⟩:=b0 w C F G J D;simp only[Op.eqItems,Sem.run_bind,p1,p2,Result.andThen_ok,j1];have hd:C++a2=F++Y↔C=F∧a2=Y:=⟨fun h=>Xe h (by omega),fun h=>by rw[h.1,h.2]⟩
    cases r1 with
    |true=>exact⟨r2,by simpa using ih,by rw[hd,i2];exact⟨fun h=>⟨j2.1 I,h⟩,fun h=>h.2⟩⟩
    |false=>exact⟨jp,by simp,by rw[hd];exact⟨(fun h=>nomatch h),fun h=>j2.2 h.1⟩⟩
theorem B2(d:bE P ty){u:TypeId}{e:bJ}(he:ty u=dl e): ∃i,P.info? u=dl i∧P.cellsOf u=e.size:=by
  obtain⟨⟨i,j,x,_⟩,_⟩:=d _ _ he;exact⟨i,j,by simp[Program.cellsOf,j,x]⟩
theorem yE(A:bE P ty): ∀(d:Nat) (t:TypeId) (s:FS),u1 ty d t=dl s->yQ P ty d t s
  |0,_,_,h=>by simp[u1]at h
  | d+1,t,s,h=>by
    have key:=fun u s=>yE A d u s;unfold u1 at h;split at h
    · rename_i _ _ _ C
      simp only[Tm]at h;subst h;have hu:=(A _ _ C).2.1.1;refine⟨_,C,rfl,fun _=>rfl,fun w a b G hb D=>?_,fun w a G em D=>?_⟩
      · match a,b,G,hb with
        | [_],[_],⟨⟨x,rfl⟩,_⟩,⟨⟨y,rfl⟩,_⟩=>
          simp only[Gt,TK.agg,Wg];rw[show d+1+D=(d+D)+1 by omega,run_equalIn_string _ _ _ _ _ hu,tV];exact⟨_,rfl,by simp⟩
      · match a,G with
        | [_],⟨⟨x,rfl⟩,_⟩=>
          simp only[Gt,TK.agg,Wg];rw[show d+1+D=(d+D)+1 by omega];exact run_checkKey hu (by simp[IsKey]) _ _
    · rename_i q _ _ _ C
      simp only[Tm]at h;subst h;have hu:=(A _ _ C).2.1.1;refine⟨_,C,rfl,fun _=>rfl,fun w a b G hb D=>?_,fun w a G em D=>?_⟩
      · match a,b,G,hb with
        | [_],[_],⟨⟨x,rfl⟩,_⟩,⟨⟨y,rfl⟩,_⟩=>
          simp only[Gt,TK.agg,Wg];rw[show d+1+D=(d+D)+1 by omega,run_equalIn_int _ _ _ _ _ _ _ hu];exact⟨_,rfl,by simp⟩
      · match a,G with
        | [_],⟨⟨x,rfl⟩,_⟩=>
          simp only[Gt,TK.agg,Wg];rw[show d+1+D=(d+D)+1 by omega];exact run_checkKey hu (by simp[IsKey]) _ _
    · rename_i fs n _ _ C
      split at h
      · rename_i s' hs
        split at h
        · rename_i Y
          simp only[Tm]at h;subst h;have hl:=TM Y;obtain⟨F,h1,h2⟩:=(A _ _ C).2.1;obtain⟨q1,_,q3⟩:=(A _ _ C).2.2 I;rw[gT h1]at q3;refine⟨_,C,hl.symm,(fun h=>nomatch h),fun w a b G hb D=>?_,fun w a G em D=>?_⟩
          · have h3:=xg (w:=w) A key D F.toList s' [] [] a b I q3 (by rw[h2];exact hs) G hb
            simp only[T3]at h3;show∃r:Bool,(Op.equalIn (d+1+D) t (.agg a.toArray) (.agg b.toArray)).run P w= .ok r w∧_;rw[show d+1+D=(d+D)+1 by omega,run_equalIn_struct w (d+D) t _ _ (by rw[gT h1];exact h1) q1,gT h1];exact h3
          · show(Instr.checkKey em (d+1+D) t (.agg a.toArray)).run P w=_
            rw[show d+1+D=(d+D)+1 by omega,Instr.checkKey];simp only[Sem.run_bind,run_underlying h1,Result.andThen_ok];rw[<-Array.forIn_toList];obtain⟨pre,hp⟩: ∃pre:List Value,pre=[]:=⟨[],rfl⟩
            rw[show a.toArray=(pre++a).toArray by rw[hp];rfl];have B:pq (u1 ty d) (F.toList.map fun g=>(g.offset,g.type)) pre.length=dl s':=by rw[h2,hp];exact hs
            clear hs hp h2 h1 hl Y C;generalize F.toList=L at B q3
            induction L generalizing pre a s' with
            |nil=>simp
            | cons g L ih=>
              simp only[TD,pq]at B;split at B
              · rename_i s1 ho j0
                have ho:=TM ho;split at B
                · rename_i q' hq
                  simp only[Tm]at B;subst B;obtain⟨a1,a2,rfl,J,b0⟩:=vE.split G;obtain⟨e,C,e0,Z,_,c0⟩:=key _ _ j0;have la:=J.length;have p1:=jJ (P:=P) (w:=w) (A _ _ C) Z pre a1 a2 (by omega);have ih:=ih q' a2 b0 (pre++a1) (by rw[Tn,la];exact hq) (fun g hg=>q3 g (TH _ hg));simp only[Tz]at ih;simp only[Xf,Sem.run_bind,ho,q3 g TJ,ne_eq,not_false_eq_true,if_true,Result.andThen_ok,p1,c0 w a1 J em D,Sem.run_pure];exact ih
                · cases B
              · cases B
        · cases h
      · cases h
    · rename_i n u m _ _ _ C
      split at h
      · rename_i s' hs
        split at h
        · rename_i Y
          simp only[Tm]at h;subst h;have hl:=TM Y;have h1:P.underlying t=dl (.array n u):=(A _ _ C).2.1;have hf:=key u s' hs;obtain⟨e,a0,e0,_,_,_⟩:=id hf;obtain⟨i,hi,g0⟩:=B2 A a0;have d0: ∀n,(Bq s' n).length=n*s'.length:=fun n=>by
            induction n with
            |zero=>simp[Bq]
            |succ n ih=>simp only[Bq,Tn,ih,U4];omega
          refine⟨_,C,by rw[d0];exact hl.symm,(fun h=>nomatch h),fun w a b G hb D=>?_,fun w a G em D=>?_⟩
          · have h3:=xf (w:=w) A hf D (P.cellsOf u) (by rw[g0,e0]) n 0 [] [] a b (by simp) (by simp) G hb
            simp only[T3]at h3;show∃r:Bool,(Op.equalIn (d+1+D) t (.agg a.toArray) (.agg b.toArray)).run P w= .ok r w∧_;rw[show d+1+D=(d+D)+1 by omega,run_equalIn_array w (d+D) _ _ h1 hi,List.range_eq_range'];exact h3
          · show(Instr.checkKey em (d+1+D) t (.agg a.toArray)).run P w=_
            rw[show d+1+D=(d+D)+1 by omega,Instr.checkKey];simp only[Sem.run_bind,run_underlying h1,Result.andThen_ok];simp only[Std.Legacy.Range.forIn_eq_forIn_range',Std.Legacy.Range.size,V4,Nat.add_one_sub_one,Nat.div_one];obtain⟨e',i0,k0,Z,_,c0⟩:=id hf;have:e'=e:=Uy (i0.symm.trans a0);subst this;obtain⟨pre,hp,f0⟩: ∃pre:List Value,pre.length=0*e'.size∧a.toArray=(pre++a).toArray:=⟨[],by simp,rfl⟩
            rw[f0];clear f0;clear hl Y h1 C;generalize 0=j at hp ⊢
            induction n generalizing j pre a with
            |zero=>simp
            | succ n ih=>
              obtain⟨a1,a2,rfl,J,b0⟩:=vE.split G;have la:=J.length;have p1:=jJ (P:=P) (w:=w) (A _ _ a0) Z pre a1 a2 (by omega);have ih:=ih a2 b0 (pre++a1) (j+1) (by rw[Tn,hp,la,U4,e0]);simp only[Tz]at ih;rw[W6];rw[hp]at p1;simp only[Xf,Sem.run_bind,a7 (A _ _ a0),Result.andThen_ok,p1,c0 w a1 J em D,Sem.run_pure];exact ih
        · cases h
      · cases h
    · cases h
theorem G9{j:TypeId}{s:FS}(d:bE P ty)(h:ew ty j=dl (.fl s)):(∃F,P.underlying j=dl (.struct F))∧ ∃e,e.k.agg=is∧yQ P ty 6 j s∧ty j=dl e:=by
  unfold ew at h;split at h
  · cases h
  · cases h
  · split at h<;>cases h
  · rename_i u
    split at h
    · rename_i s' y
      simp only[Tm,KC.fl.injEq]at h;subst h;obtain⟨F,x,_⟩:=(d _ _ u).2.1;exact⟨⟨F,x⟩,_,rfl,yE d 6 j s' y,u⟩
    · cases h
  · cases h
theorem AJ{kc:KC}{j:TypeId}(u:bE P ty)(h:ew ty j=dl kc)(a b:kc.K):(Op.equal j (kc.ek a) (kc.ek b)).run P w= .ok (kw (a=b)) w:=by
  have key: ∀(r:Bool),EF ty 10 j (kc.pk a) (kc.pk b)=dl r->(Op.equal j (kc.ek a) (kc.ek b)).run P w= .ok r w:=fun r D=>
    BZ (M:=Mem.base) (N:=⟨fun _=>0,fun _=>0⟩) (U:=fun _=>True) u 10 j _ _ r D _ _ (CP kc a) (CP kc b) 9990
  unfold ew at h;split at h
  · rename_i d
    simp only[Tm]at h;subst h;refine key _ ?_;simp[EF,d,KC.pk]
  · rename_i d
    simp only[Tm]at h;subst h;refine key _ ?_;simp[EF,d,KC.pk]
  · rename_i d
    split at h
    · rename_i C hb
      simp only[Tm]at h;subst h;refine key _ ?_;obtain⟨J,a2⟩:=a;obtain⟨Y,Z⟩:=b;simp[EF,EE,d,C,hb,KC.pk,gI,TK.agg,jV]
    · cases h
  · rename_i h0 d
    split at h
    · rename_i s F
      simp only[Tm]at h;subst h;obtain⟨e,x,G,_,y,_⟩:=yE u 6 j s F;have:e=_:=Uy (x.symm.trans d);subst this;obtain⟨r,A,B⟩:=y w (FK.vs s a) (FK.vs s b) (kU s a) (kU s b) 9994;have hd:r=kw (a=b):=by
        rw[UN,B,decide_eq_true_iff];exact⟨A7,fun h=>by rw[h]⟩
      rw[<-hd];exact A
    · cases h
  · cases h
def mf(kc:KC){V:Type}:List (kc.K×V)->kc.K->Option Nat
  | [],_=>io
  |(a,_)::r,k=>if a=k then dl 0 else(mf kc r k).map (· +1)
section
variable {kc:KC} {V:Type}
theorem nZ: ∀{m:List (kc.K×V)} {k:kc.K} {i:Nat},mf kc m k=dl i-> ∃v,m[i]? =dl (k,v)∧(∀z,cK kc m k z=v)∧cZ kc m k=is∧(∀d,cJ kc m k d=m.set i (k,d))∧mD kc m k=m.eraseIdx i
  | [],_,_,h=>by simp[mf]at h
  | (a,b)::r,k,i,h=>by
    simp only[mf]at h;split at h
    · rename_i e
      simp only[Tm]at h;subst h;subst e;exact⟨b,rfl,fun z=>by simp[cK],by simp[cZ],fun d=>by simp[cJ],by simp[mD]⟩
    · rename_i e
      obtain⟨j,C,rfl⟩:=Tw.1 h;obtain⟨v,u,x,y,A,B⟩:=nZ C;exact⟨v,by simpa using u,fun z=>by simp[cK,e,x],by simp[cZ,e,y],fun d=>by simp[cJ,e,A],by simp[mD,e,B]⟩
theorem n3: ∀{m:List (kc.K×V)} {k:kc.K},mf kc m k=io->(∀z,cK kc m k z=z)∧cZ kc m k=jp∧(∀d,cJ kc m k d=m++ [(k,d)])∧mD kc m k=m
  | [],_,_=>⟨fun z=>rfl,rfl,fun v=>rfl,rfl⟩
  | (a,b)::r,k,h=>by
    simp only[mf]at h;split at h
    · cases h
    · rename_i e
      obtain⟨j,u,x,y⟩:=n3 (V5.1 h);exact⟨fun z=>by simp[cK,e,j],by simp[cZ,e,u],fun d=>by simp[cJ,e,x],by simp[mD,e,y]⟩
def vA(kc:KC){V:Type}:List MapEntry->List (kc.K×V)->Prop
  | [],[]=>True
  |e::r,x::m=>e.key=kc.ek x.1∧vA kc r m
  |_,_=>False
theorem Ar: ∀{es:List MapEntry} {m:List (kc.K×V)},es.length=m.length->(∀(j:Nat) (x:kc.K×V),m[j]? =dl x->(es.getD j co).key=kc.ek x.1)->vA kc es m
  | [],[],_,_=>trivial
  |e::r,x::m,hl,h=>⟨by simpa using h 0 x I,Ar (by simpa using hl) fun j x d=>by simpa using h (j+1) x (by simpa using d)⟩
  | [],_::_,hl,_=>by simp at hl
  |_::_,[],hl,_=>by simp at hl
theorem sD: ∀{es:List MapEntry} {m:List ((KC.str).K×V)} {k:ByteArray} (i:Nat),vA .str es m->Instr.findNow .string (.string k) es i=dl ((mf .str m k).map fun j=>(i+j,(es.getD j co).val))
  | [],[],_,_,_=>rfl
  | e::r,(a,b)::m,k,i,h=>by
    obtain⟨u,x⟩:=h;simp only[KC.ek]at u;simp only[Instr.findNow,u,Instr.sameNow,mf];rw[beq_toListBytes,tV];by_cases d:a=k
    · subst d;simp
    · have hb:kw (k=a)=jp:=by simpa using fun e=>d e.symm
      rw[hb,be d,sD (i+1) x];simp only[Wo,Tm];congr 1
      funext j
      simp;omega
  | [],_::_,_,_,h=>h.elim
  |_::_,[],_,_,h=>h.elim
theorem sE{q:IntKind}: ∀{es:List MapEntry} {m:List ((KC.int q).K×V)} {k:Int} (i:Nat),vA (.int q) es m->Instr.findNow (.int q) (.int q k) es i=dl ((mf (.int q) m k).map fun j=>(i+j,(es.getD j co).val))
  | [],[],_,_,_=>rfl
  | e::r,(a,b)::m,k,i,h=>by
    obtain⟨u,x⟩:=h;simp only[KC.ek]at u;simp only[Instr.findNow,u,Instr.sameNow,mf,if_true];by_cases d:a=k
    · subst d;simp
    · have: ¬k=a:=fun e=>d e.symm
      have hb:(k==a)=jp:=by simpa using this
      rw[hb,be d,sE (i+1) x];simp only[Wo,Tm];congr 1
      funext j
      simp;omega
  | [],_::_,_,_,h=>h.elim
  |_::_,[],_,_,h=>h.elim
theorem oD{y:TypeId}(u:bE P ty)(x:ew ty y=dl kc): ∀{es:List MapEntry} {m:List (kc.K×V)} {k:kc.K} (i:Nat),vA kc es m->
    (Instr.findAsking y (kc.ek k) es i).run P w= .ok ((mf kc m k).map fun j=>(i+j,(es.getD j co).val)) w
  | [],[],_,_,_=>by simp[Instr.findAsking,mf]
  | e::r,(a,b)::m,k,i,h=>by
    obtain⟨A,B⟩:=h;simp only[Instr.findAsking,A,Sem.run_bind,AJ (P:=P) (w:=w) u x,Result.andThen_ok,mf];by_cases d:a=k
    · subst d;simp
    · have: ¬k=a:=fun e=>d e.symm
      rw[be d];simp only[this,decide_false,VK,if_false,oD u x (i+1) B,Wo];congr 2
      funext j
      simp;omega
  | [],_::_,_,_,h=>h.elim
  |_::_,[],_,_,h=>h.elim
theorem pt{D:TypeId}(u:bE P ty)(A:ew ty D=dl kc){es:List MapEntry}{m:List (kc.K×V)}(k:kc.K)(h:vA kc es m):
    (Instr.findKey D (kc.ek k) es).run P w= .ok ((mf kc m k).map fun j=>(j,(es.getD j co).val)) w:=by
  have hu: ∃d,P.underlying D=dl d:=by
    unfold ew at A;split at A
    · rename_i y;exact⟨_,(u _ _ y).2.1.1⟩
    · rename_i y;exact⟨_,(u _ _ y).2.1.1⟩
    · rename_i y;obtain⟨F,B,_⟩:=(u _ _ y).2.1;exact⟨_,B⟩
    · rename_i y;obtain⟨F,B,_⟩:=(u _ _ y).2.1;exact⟨_,B⟩
    · cases A
  obtain⟨d,hd⟩:=hu;unfold Instr.findKey;rw[Sem.run_bind,run_underlying hd,Result.andThen_ok];have x:=oD (P:=P) (w:=w) u A (k:=k) 0 h;simp only[TL]at x;cases kc with
  | str=>
    have:=sx u A;rw[hd]at this;cases this;simp only[KC.ek,sD 0 h,TL];rfl
  | int q=>
    have:=sy u A;rw[hd]at this;cases this;simp only[KC.ek,sE 0 h,TL];rfl
  | si q=>
    cases es with
    | nil=>
      cases m with
      |nil=>simp[Instr.findNow,mf]
      |cons=>exact h.elim
    | cons e r=>
      have C:Instr.findNow d (KC.ek (.si q) k) (e::r) 0=io:=by
        simp only[Instr.findNow,KC.ek];have:Instr.sameNow d (.agg #[.string k.1,.int q k.2]) e.key=io:=by cases d<;>rfl
        rw[this]
      rw[C];exact x
  | fl s=>
    cases es with
    | nil=>
      cases m with
      |nil=>simp[Instr.findNow,mf]
      |cons=>exact h.elim
    | cons e r=>
      have C:Instr.findNow d (KC.ek (.fl s) k) (e::r) 0=io:=by
        simp only[Instr.findNow,KC.ek];have:Instr.sameNow d (.agg (FK.vs s k).toArray) e.key=io:=by cases d<;>rfl
        rw[this]
      rw[C];exact x
theorem js.keys{V:Type}{e:V->IV}{m:List (kc.K×V)}{ents:Array MapEntry}{clock:Nat}(h:js M kc e m ents clock):vA kc ents.toList m:=
  Ar (by simpa using h.size) fun j x d=>by
    have:=h.key j x d;rwa[Tl,<-T5,<-Tr]at this
theorem js.Sc{V:Type}{e:V->IV}{m:List (kc.K×V)}{ents:Array MapEntry}{clock:Nat}(h:js M kc e m ents clock){j:Nat}{x:kc.K×V}(hj:m[j]? =dl x):IR M (e x.2) (ents.toList.getD j co).val:=by
  have:=h.val j x hj;rwa[Tl,<-T5,<-Tr]at this
theorem zH{i:IV}{x:Value}(h:IR M i x):VR M N U i.pv x:=by
  cases h with
  | agg cs ys hl hr=>
    refine .agg _ _ (by simpa using hl) fun j p d=>?_;rw[Tu,Tw]at d;obtain⟨q,u,rfl⟩:=d
    exact .iv _ _ (hr j q u)
  |v x=>exact .iv _ _ (.v x)
  |fN=>exact .iv _ _ (.fN _ _ _ _)
  |bU _ _ _ _ _ _ h1 h2 h3 h4 h5=>exact .iv _ _ (.bU _ _ _ _ _ _ h1 h2 h3 h4 h5)
  |i7 _ _ _ h1 h2=>exact .iv _ _ (.i7 _ _ _ h1 h2)
  |eP _ _ _ _ _ _ _ _ h1 h2 h3 h4 h5 h6 h7=>exact .iv _ _ (.eP _ _ _ _ _ _ _ _ h1 h2 h3 h4 h5 h6 h7)
  |oj _ _ _ h=>exact .iv _ _ (.oj _ _ _ h)
theorem ni{kt:TypeId}(d:bE P ty)(u:ew ty kt=dl kc)(k:kc.K)(b:Bool)(n:Nat):(Instr.checkKey b (n+6) kt (kc.ek k)).run P w= .ok () w:=by
  cases kc with
  |str=>exact run_checkKey (sx d u) (by simp[KC.ek,IsKey]) _ _
  |int q=>exact run_checkKey (sy d u) (by simp[KC.ek,IsKey]) _ _
  | si q=>
    unfold ew at u;split at u
    · cases u
    · cases u
    · rename_i a c _ _ _ J
      split at u
      · rename_i _ _ _ _ B _ _ _ G hc
        simp only[Tm,KC.si.injEq]at u;have a0:B=q:=u;subst a0;obtain⟨F,h1,A⟩:=(d _ _ J).2.1;have D:=((d _ _ J).2.2 I).2.2;rw[gT h1]at D;have d0:=(d _ _ G).2.1.1;have e0:=(d _ _ hc).2.1.1;have b0:(part a #[.string k.1,.int B k.2] 0).run P w= .ok (.string k.1) w:=by
          have:=iU (P:=P) (w:=w) (M:=Mem.base) (N:=⟨fun _=>0,fun _=>0⟩) (U:=fun _=>True) (off:=0) (cs:=[.iv (.v (.string k.1)),.iv (.v (.int B k.2))]) (ys:= #[.string k.1,.int B k.2]) (d _ _ G) I
            (fun j p x=>by match j with
              |0=>simp at x;subst x;exact .iv _ _ (.v _)
              |1=>simp at x;subst x;exact .iv _ _ (.v _)
              |j+2=>simp at x) (p:= .iv (.v (.string k.1))) (by simp[gI,TK.agg,jV])
          obtain⟨y,hy,C⟩:=this;cases C with
          |iv _ _ C=>cases C;exact hy
        have c0:(part c #[.string k.1,.int B k.2] 1).run P w= .ok (.int B k.2) w:=by
          have:=iU (P:=P) (w:=w) (M:=Mem.base) (N:=⟨fun _=>0,fun _=>0⟩) (U:=fun _=>True) (off:=1) (cs:=[.iv (.v (.string k.1)),.iv (.v (.int B k.2))]) (ys:= #[.string k.1,.int B k.2]) (d _ _ hc) I
            (fun j p x=>by match j with
              |0=>simp at x;subst x;exact .iv _ _ (.v _)
              |1=>simp at x;subst x;exact .iv _ _ (.v _)
              |j+2=>simp at x) (p:= .iv (.v (.int B k.2))) (by simp[gI,TK.agg,jV])
          obtain⟨y,hy,C⟩:=this;cases C with
          |iv _ _ C=>cases C;exact hy
        obtain⟨F⟩:=F
        match F,A,D with
        | [],A,_=>simp at A
        | [_],A,_=>simp at A
        |_::_::_::_,A,_=>simp at A
        | [f,g],A,D=>
          simp at A;obtain⟨⟨h3,h4⟩,h5,h6⟩:=A;have hf:=D f (by simp);have hg:=D g (by simp);have ca:=run_checkKey (w:=w) d0 (k:= .string k.1) (by simp[IsKey]) b (n+4);have cc:=run_checkKey (w:=w) e0 (k:= .int B k.2) (by simp[IsKey]) b (n+4);unfold Instr.checkKey;simp[KC.ek,run_underlying h1,hf,hg,h3,h4,h5,h6,b0,c0,ca,cc]
      · cases u
    · split at u<;>cases u
    · cases u
  | fl s=>
    obtain⟨_,e,G,⟨e',Z,_,_,_,Y⟩,J⟩:=G9 d u;have:e'=e:=Uy (Z.symm.trans J);subst this;have:=Y w (FK.vs s k) (kU s k) b n;rw[V6 6 n]at this;unfold Gt at this;rw[G]at this;exact this
theorem yX{a b:Value}(h:Ch a b=is):a=b:=by
  unfold Ch at h;split at h<;>simp_all
theorem yW: ∀{a b:List Value},wc a b=is->a=b
  | [],[],_=>rfl
  | x::r,y::q,h=>by
    simp only[wc,TZ]at h;rw[yX h.1,yW h.2]
  | [],_::_,h=>by simp[wc]at h
  |_::_,[],h=>by simp[wc]at h
theorem H5{a b:Value}(h:Nh a b=is):a=b:=by
  unfold Nh at h;split at h
  · have:=yW h
    congr 1;exact W7.1 this
  · exact yX h
theorem Am(u:bE P ty){t:TypeId}{ok:Bool}{V:Type}{e:V->IV}{z:V}{zv:Value}{m:List (kc.K×V)}{key p:PV}{C:Prop}(h:uF ty t ok kc e z zv m key=dl (p,C)){r:Nat}{ents:Array MapEntry}{clock:Nat}
    (hb:w.heap[r]? =dl (.map ents clock)) (hm:js M kc e m ents clock) (hz:IR M (e z) zv) {k:Value} (hk:VR M N U key k):
    C∧ ∃x,(Instr.lookup t (.map (dl r)) k ok).run P w= .ok x w∧VR M N U p x:=by
  unfold uF at h;split at h
  · rename_i kt et _ _ _ _ he
    have hu:=(u _ _ he).2.1.1;split at h
    · rename_i y ee B Y
      split at h
      · rename_i k0 hd hv J
        have hd:=of_decide_eq_true hd;subst hd;have Z:=He J hk;subst Z;have hv:=H5 hv;have d:=pt (P:=P) (w:=w) u B k0 hm.keys;have A:=ni (P:=P) (w:=w) u B k0 ents.isEmpty 9994;have a0:=dC (P:=P) (w:=w) (u _ _ Y);have hg:(getObj r).run P w= .ok (.map ents clock) w:=by simp[getObj,Sem.run,hb]
        have F: ∃v G,(Instr.lookup t (.map (dl r)) (y.ek k0) ok).run P w= .ok (if ok then .tuple #[v,.bool G] else v) w∧G=cZ y m k0∧IR M (e (cK y m k0 z)) v:=by
          cases hfi:mf y m k0 with
          | none=>
            obtain⟨g1,g2,_⟩:=n3 hfi;rw[hfi]at d;refine⟨ee.zero,jp,?_,by rw[g2],by rw[g1,hv];exact hz⟩;simp[Instr.lookup,run_underlying hu,hg,A,d,a0]
          | some i=>
            obtain⟨v,g0,g1,g2,_⟩:=nZ hfi;rw[hfi]at d;refine⟨(ents.toList.getD i co).val,is,?_,by rw[g2],by rw[g1];exact hm.Sc g0⟩;simp[Instr.lookup,run_underlying hu,hg,A,d]
        obtain⟨v,G,h1,h2,h3⟩:=F;split at h
        · simp only[Tm,TC]at h
          obtain⟨rfl,rfl⟩:=h;refine⟨ac,_,h1,.aZ _ _ I fun j q D=>?_⟩
          match j with
          |0=>simp at D;subst D;exact zH h3
          |1=>simp at D;subst D;subst h2;exact .iv _ _ (.v _)
          |j+2=>simp at D
        · simp only[Tm,TC]at h
          obtain⟨rfl,rfl⟩:=h;exact⟨ac,_,h1,zH h3⟩
      · cases h
    · cases h
  · cases h
end
end
section
variable {P:Program} {ty:Ty} {M:Mem} {N:Nm} {w:World} {nt:NT} {s:AS} {a:Act}
theorem aY{x:Value}{m:Sem Value}(h:m.run P w= .ok x w):(do pure (.value (<-m)):Sem Next).run P w= .ok (.value x) w:=by
  rw[Sem.run_bind,h];rfl
theorem re(B:bE P ty)(hf:Fits M N s nt a w){o:Oper}{p:PV}{C:Prop}(h:iu ty s o.op=dl (p,C))(hC:C):
    ∃x,(execOp a.eval o).run P w= .ok (.value x) w∧VR M N (· <s.nx) p x:=by
  obtain⟨e0,A,_,_⟩:=hf;cases ho:o.op with
  | move x=>
    rw[ho]at h;simp only[iu,Tm,TC]at h;obtain⟨rfl,rfl⟩:=h;exact⟨_,by simp only[execOp,ho];rfl,aJ A x⟩
  | assign x=>
    rw[ho]at h;simp only[iu,Tm,TC]at h;obtain⟨rfl,rfl⟩:=h;exact⟨_,by simp only[execOp,ho];rfl,aJ A x⟩
  | pick c x y=>
    rw[ho]at h;simp only[iu]at h;have hc:=aJ A c;split at h
    · rename_i J
      rw[J]at hc;simp only[Tm,TC]at h;obtain⟨rfl,rfl⟩:=h;generalize Y:a.eval c=v at hc;cases hc with
      |kb=>exact⟨_,by simp only[execOp,ho,Y];simp[asBool],aJ A x⟩
    · rename_i J
      rw[J]at hc;simp only[Tm,TC]at h;obtain⟨rfl,rfl⟩:=h;generalize Y:a.eval c=v at hc;cases hc with
      |kb=>exact⟨_,by simp only[execOp,ho,Y];simp[asBool],aJ A y⟩
    · cases h
  | load t x=>
    rw[ho]at h;simp only[iu]at h;split at h
    · rename_i e J
      split at h
      · rename_i cs hb
        split at h
        · rename_i q hq
          simp only[Tm,TC]at h;obtain⟨rfl,rfl⟩:=h;obtain⟨b,n0,d,p0⟩:=xy e0 (aJ A x) hb;obtain⟨y,hy,Y⟩:=r9 (P:=P) (B t e J) p0 hq;exact⟨y,by simp only[execOp,ho];exact aY (by rw[d];simpa[Instr.loadAt,Instr.sureAddr]using hy),Y⟩
        · cases h
      · cases h
    · cases h
  | nilCheck x=>
    rw[ho]at h;simp only[iu]at h;have d:=aJ A x;split at h
    all_goals first
      |cases h;done
      | (rename_i J
         simp only[Tm,TC]at h;obtain⟨rfl,rfl⟩:=h;rw[J]at d;refine⟨_,?_,d⟩;generalize Y:a.eval x=v at d
         first
         |(cases d;simp only[execOp,ho,Y];rfl)
         | (cases d with
            |iv _ _ d=>cases d;simp only[execOp,ho,Y];rfl))
  | binOp op t x y t'=>
    rw[ho]at h;simp only[iu]at h;split at h
    · rename_i cs ds k0 v1
      have h1:=aJ A x;have h2:=aJ A y;rw[k0]at h1;rw[v1]at h2;obtain⟨_,z,hz,Y⟩:=HJ (P:=P) (w:=w) B (u:=x) (v:=y) h h1 h2;exact⟨z,by simp only[execOp,ho];exact aY hz,Y⟩
    · obtain⟨z,hz,Y⟩:=EO (P:=P) (w:=w) B (u:=x) (v:=y) h hC (aJ A x) (aJ A y)
      exact⟨z,by simp only[execOp,ho];exact aY hz,Y⟩
  | unOp op t x=>
    rw[ho]at h;cases op with
    | not=>
      simp only[iu]at h;have d:=aJ A x;split at h
      · rename_i J
        simp only[Tm,TC]at h;obtain⟨rfl,rfl⟩:=h;rw[J]at d;generalize Y:a.eval x=v at d;cases d with
        |kb=>exact⟨_,by simp only[execOp,ho,Y];exact aY I,.kb _⟩
      · rename_i J
        simp only[Tm,TC]at h;obtain⟨rfl,rfl⟩:=h;rw[J]at d;generalize Y:a.eval x=v at d;cases d with
        |kb=>exact⟨_,by simp only[execOp,ho,Y];exact aY I,.kb _⟩
      · rename_i J
        simp only[Tm,TC]at h;obtain⟨rfl,rfl⟩:=h;rw[J]at d;cases d with
        | iv _ _ d=>generalize Y:a.eval x=v at d;cases d with
          |v=>exact⟨_,by simp only[execOp,ho,Y];exact aY I,.iv _ _ (.v _)⟩
      · cases h
    |_=>simp[iu]at h
  | fieldAddr t x k=>
    rw[ho]at h;simp only[iu]at h;split at h
    · rename_i e J
      split at h
      · rename_i n0 u j1
        split at h
        · rename_i eu c0
          split at h
          · cases h
          · rename_i n hn
            split at h
            · rename_i q hq
              simp only[Tm,TC]at h;obtain⟨rfl,rfl⟩:=h;obtain⟨F,fd,h1,h2,rfl,rfl⟩:=qH (B t e J) j1;obtain⟨b,o',d,Y⟩:=Ea (aJ A x) hq;refine⟨_,?_,Y⟩;simp only[execOp,ho,d];refine aY ?_;have hs:=a7 (w:=w) (B _ _ c0);simp[Instr.fieldAt,run_underlying h1,h2,Instr.sureAddr,fieldPlace,hs,hn,dp]
            · cases h
        · cases h
      · cases h
    · cases h
  | field t x k=>
    rw[ho]at h;simp only[iu]at h;split at h
    · rename_i e J
      split at h
      · rename_i n0 u j1
        split at h
        · rename_i eu c0
          split at h
          · rename_i cs k0
            split at h
            · rename_i q hq
              simp only[Tm,TC]at h;obtain⟨rfl,rfl⟩:=h;obtain⟨F,fd,h1,h2,rfl,rfl⟩:=qH (B t e J) j1;have d:=aJ A x;rw[k0]at d;generalize Y:a.eval x=v at d;cases d with
              | agg _ ys hl hr=>
                obtain⟨y,hy,j2⟩:=iU (P:=P) (w:=w) (B _ _ c0) hl hr hq;refine⟨y,?_,j2⟩;simp only[execOp,ho,Y];refine aY ?_;simp[Instr.field,run_underlying h1,h2,asAgg,hy]
            · cases h
          · cases h
        · cases h
      · cases h
    · cases h
  | indexAddr t x i=>
    rw[ho]at h;simp only[iu]at h;split at h
    · rename_i u sz i0 z _ J
      have hu:P.underlying t=dl (.slice u):=(B t _ J).2.1.1;split at h
      · rename_i eu c0
        split at h
        · rename_i k n hn
          have D:=aJ A i;rw[hn]at D;have j0:a.eval i= .int k n:=by
            generalize a.eval i=v at D;cases D with
            | iv _ _ D=>cases D with
              |v=>rfl
          split at h
          · rename_i g0 m el d
            cases hb:TR g0 eu.size with
            |false=>simp only[hb,cond_false]at h;cases h
            | true=>
              simp only[hb,cond_true]at h;have hs:=TM hb;subst hs;have G:=aJ A x;rw[d]at G;obtain⟨y,hy,Y⟩:=oA (P:=P) (k:=k) hu (B _ _ c0) G (.inl ⟨m,el,rfl⟩) h hC;exact⟨y,by simp only[execOp,ho,j0];exact aY hy,Y⟩
          · rename_i j n0 len g0 d
            cases hb:TR g0 eu.size with
            |false=>simp only[hb,cond_false]at h;cases h
            | true=>
              simp only[hb,cond_true]at h;have hs:=TM hb;subst hs;have G:=aJ A x;rw[d]at G;obtain⟨y,hy,Y⟩:=oA (P:=P) (k:=k) hu (B _ _ c0) G (.inr ⟨j,n0,len,rfl⟩) h hC;exact⟨y,by simp only[execOp,ho,j0];exact aY hy,Y⟩
          · cases h
        · cases h
      · cases h
    · rename_i len u sz i0 z _ J
      have hu:P.underlying t=dl (.array len u):=(B t _ J).2.1;split at h
      · rename_i eu c0
        split at h
        · rename_i k n hn
          have D:=aJ A i;rw[hn]at D;have j0:a.eval i= .int k n:=by
            generalize a.eval i=v at D;cases D with
            | iv _ _ D=>cases D with
              |v=>rfl
          split at h
          · rename_i j n0 d
            simp only[Tm,TC]at h;obtain⟨rfl,rfl⟩:=h;have G:=aJ A x;rw[d]at G;generalize Y:a.eval x=v at G;cases G with
            | ptr _ _ hU=>
              refine⟨.pointer (dl ⟨N.aC j,n0+n.toNat*eu.size,io⟩),?_,.ptr _ _ hU⟩;simp only[execOp,ho,j0,Y];refine aY ?_;simp only[Instr.indexAt,asIntOf];simp[run_underlying hu,hC.1,hC.2,a7 (B _ _ c0),dp,Instr.sureAddr]
          · cases h
        · cases h
      · cases h
    · cases h
  | slice t x lo D mx=>
    rw[ho]at h;have d0: ∀(o:Operand) (k:IntKind) (n:Int),ev s.f o= .iv (.v (.int k n))->a.eval o= .int k n:=fun o k n J=>by
      have D:=aJ A o;rw[J]at D;generalize a.eval o=v at D;cases D with
      | iv _ _ D=>cases D with
        |v=>rfl
    cases lo with
    | none=>
      cases D with
      |none=>simp only[iu]at h;cases h
      |some D=>
      cases mx with
      |none=>simp only[iu]at h;cases h
      |some mx=>
      simp only[iu]at h;split at h
      · rename_i u sz i0 z _ J
        have hu:P.underlying t=dl (.slice u):=(B t _ J).2.1.1;split at h
        · rename_i eu c0
          split at h
          · rename_i kb nb x0
            split at h
            · rename_i kc nc c2
              split at h
              · rename_i g0 m el d
                cases hb:TR g0 eu.size with
                |false=>simp only[hb,cond_false]at h;cases h
                | true=>
                  simp only[hb,cond_true]at h;have hs:=TM hb;subst hs;have G:=aJ A x;rw[d]at G;have v0:=d0 D _ _ x0;have a2:=d0 mx _ _ c2;obtain⟨y,hy,Y⟩:=Bf (P:=P) (w:=w) (M:=M) (N:=N) (U:=(· <s.nx)) (kb:=kb) (kc:=kc) (nb:=nb) (nc:=nc) hu (B _ _ c0) G h hC;exact⟨y,by simp only[execOp,ho,v0,a2,Ut,VA];exact aY hy,Y⟩
              · cases h
            · cases h
          · cases h
        · cases h
      · cases h
    |some lo=>
    cases D with
    | none=>
      cases mx with
      |some mx=>simp only[iu]at h;cases h
      |none=>
      simp only[iu]at h;split at h
      · rename_i u sz i0 z _ J
        have hu:P.underlying t=dl (.slice u):=(B t _ J).2.1.1;split at h
        · rename_i eu c0
          split at h
          · rename_i ka na w0
            split at h
            · rename_i g0 m el d
              cases hb:TR g0 eu.size with
              |false=>simp only[hb,cond_false]at h;cases h
              | true=>
                simp only[hb,cond_true]at h;have hs:=TM hb;subst hs;have G:=aJ A x;rw[d]at G;have t0:=d0 lo _ _ w0;obtain⟨y,hy,Y⟩:=DT (P:=P) (w:=w) (M:=M) (N:=N) (U:=(· <s.nx)) (ka:=ka) (na:=na) hu (B _ _ c0) G h hC;exact⟨y,by simp only[execOp,ho,t0,Ut,VA];exact aY hy,Y⟩
            · cases h
          · cases h
        · cases h
      · cases h
    |some D=>
    cases mx with
    |some mx=>simp only[iu]at h;cases h
    |none=>
    simp only[iu]at h;split at h
    · rename_i u sz i0 z _ J
      have hu:P.underlying t=dl (.slice u):=(B t _ J).2.1.1;split at h
      · rename_i eu c0
        split at h
        · rename_i ka na w0
          split at h
          · rename_i kb nb x0
            split at h
            · rename_i g0 m el d
              cases hb:TR g0 eu.size with
              |false=>simp only[hb,cond_false]at h;cases h
              | true=>
                simp only[hb,cond_true]at h;have hs:=TM hb;subst hs;have G:=aJ A x;rw[d]at G;have t0:=d0 lo _ _ w0;have v0:=d0 D _ _ x0;obtain⟨y,hy,Y⟩:=DU (P:=P) (w:=w) (M:=M) (N:=N) (U:=(· <s.nx)) (ka:=ka) (kb:=kb) (na:=na) (nb:=nb) hu (B _ _ c0) G h hC;exact⟨y,by simp only[execOp,ho,t0,v0,Ut,VA];exact aY hy,Y⟩
            · cases h
          · cases h
        · cases h
      · cases h
    · rename_i sz i0 z _ J
      have hu:P.underlying t=dl .string:=(B t _ J).2.1.1;split at h
      · rename_i ka na w0
        split at h
        · rename_i kb nb x0
          split at h
          · rename_i b d
            simp only[Tm,TC]at h;obtain⟨rfl,rfl⟩:=h;have G:=aJ A x;rw[d]at G;have n1:a.eval x= .string b:=by
              generalize a.eval x=v at G;cases G with
              | iv _ _ D=>cases D with
                |v=>rfl
            have t0:=d0 lo _ _ w0;have v0:=d0 D _ _ x0;refine⟨.string (b.extract na.toNat nb.toNat),?_,.iv _ _ (.v _)⟩;simp only[execOp,ho,t0,v0,n1,Ut,VA];exact aY (y9 hu hC)
          · cases h
        · cases h
      · cases h
    · cases h
  | convert t t' x=>
    rw[ho]at h;simp only[iu]at h;split at h
    · rename_i q0 n2 k2 z0 _ x1
      have i2:P.underlying t=dl (.int q0):=(B t _ x1).2.1.1;split at h
      · rename_i k sz i0 z _ J
        have hu:P.underlying t'=dl (.int k):=(B t' _ J).2.1.1;split at h
        · rename_i q n hn
          simp only[Tm,TC]at h;obtain⟨rfl,rfl⟩:=h;have D:=aJ A x;rw[hn]at D;have j0:a.eval x= .int q n:=by
            generalize a.eval x=v at D;cases D with
            | iv _ _ D=>cases D with
              |v=>rfl
          refine⟨_,?_,.iv _ _ (.v _)⟩;simp only[execOp,ho,j0];refine aY ?_;simp[convert,run_underlying i2,run_underlying hu,Conv.intToInt]
        · cases h
      · cases h
    · cases h
  | index t x i=>
    rw[ho]at h;simp only[iu]at h;split at h
    · rename_i sz i0 z _ J
      have hu:P.underlying t=dl .string:=(B t _ J).2.1.1;split at h
      · rename_i k n hn
        split at h
        · rename_i b d
          simp only[Tm,TC]at h;obtain⟨rfl,rfl⟩:=h;have D:=aJ A i;rw[hn]at D;have j0:a.eval i= .int k n:=by
            generalize a.eval i=v at D;cases D with
            | iv _ _ D=>cases D with
              |v=>rfl
          have G:=aJ A x;rw[d]at G;have n1:a.eval x= .string b:=by
            generalize a.eval x=v at G;cases G with
            | iv _ _ D=>cases D with
              |v=>rfl
          refine⟨_,?_,.iv _ _ (.v _)⟩;simp only[execOp,ho,j0,n1];refine aY ?_;have i1:n.toNat<b.size:=by omega
          have hg:b[n.toNat]? =dl (b.data.toList.getD n.toNat 0):=by
            rw[getElem?_pos b n.toNat i1];have h0:n.toNat<b.data.size:=i1;have h1:b.data.toList.getD n.toNat 0=b.data[n.toNat]:=by
              rw[Tr,T5,Uq h0];rfl
            rw[h1];rfl
          simp only[Instr.index,asIntOf];simp[run_underlying hu,hC.1,hg]
        · cases h
      · cases h
    · cases h
  | build t parts=>
    rw[ho]at h;simp only[iu]at h;split at h
    · rename_i e J
      split at h
      · rename_i fs hk
        split at h
        · rename_i pl f2
          split at h
          · rename_i cs k0
            rw[dh]at h;simp only[Tm,TC]at h;obtain⟨rfl,rfl⟩:=h;have f0:=B t e J;have l0:=f0.2.1;rw[hk]at l0;obtain⟨F,h1,h2⟩:=l0;have hz:=dC (w:=w) f0
            obtain⟨q1,h3,h4⟩:=qF (M:=M) (N:=N) (U:=(· <s.nx)) (vals:=(parts.map fun x=>(x.1,a.eval x.2)).toList) k0 (by simp) (fun j x y d hy=>by
              rw[Tu,Tw]at d;obtain⟨z,hz,rfl⟩:=d;have o1:parts[j]? =dl z:=by simpa using hz
              have:dl (z.1,a.eval z.2)=dl y:=by rw[<-hy];simp[o1]
              simp only[Tm]at this;subst this
              exact⟨rfl,aJ A z.2⟩) (ft e.zero)
            refine⟨.agg q1,?_,.agg _ _ h4.1 h4.2⟩;simp only[execOp,ho];refine aY ?_;have k1: ∀(fl:List Field) (pl:List (Nat×Nat)),qk ty (fl.map fun f=>(f.offset,f.type))=dl pl->(fl.mapM (fun f=>do pure (f.offset,<-sizeOf f.type):Field->Sem (Nat×Nat))).run P w= .ok pl w:=by
              intro fl
              induction fl with
              |nil=>intro pl hp;simp only[TX,qk,Tm]at hp;subst hp;rfl
              | cons f fl ih=>
                intro pl hp;simp only[TD,qk]at hp;split at hp
                · rename_i e' w1
                  split at hp
                  · rename_i l hl
                    simp only[Tm]at hp;subst hp;rw[List.mapM_cons,Sem.run_bind,Sem.run_bind,a7 (B _ _ w1),Result.andThen_ok,Sem.run_pure,Result.andThen_ok,Sem.run_bind,ih l hl];rfl
                  · cases hp
                · cases hp
            have hm:=k1 F.toList pl (by rw[h2];exact f2);have b2:(F.mapM (fun f=>do pure (f.offset,<-sizeOf f.type):Field->Sem (Nat×Nat))).run P w= .ok pl.toArray w:=by
              rw[Wr,Sem.run_map,hm];rfl
            have m0:(fun(i:Nat)=>pl.toArray[i]?)=(fun(i:Nat)=>pl[i]?):=by funext i;simp
            simp only[Instr.build,Sem.run_bind,hz,Result.andThen_ok,run_underlying h1,b2];rw[m0,h3];rfl
          · cases h
        · cases h
      · rename_i n u hk
        split at h
        · rename_i eu c0
          split at h
          · rename_i cs k0
            rw[dh]at h;simp only[Tm,TC]at h;obtain⟨rfl,rfl⟩:=h;have f0:=B t e J;have l0:=f0.2.1;rw[hk]at l0;have hz:=dC (w:=w) f0
            obtain⟨q1,h3,h4⟩:=qF (M:=M) (N:=N) (U:=(· <s.nx)) (vals:=(parts.map fun x=>(x.1,a.eval x.2)).toList) k0 (by simp) (fun j x y d hy=>by
              rw[Tu,Tw]at d;obtain⟨z,hz,rfl⟩:=d;have o1:parts[j]? =dl z:=by simpa using hz
              have:dl (z.1,a.eval z.2)=dl y:=by rw[<-hy];simp[o1]
              simp only[Tm]at this;subst this
              exact⟨rfl,aJ A z.2⟩) (ft e.zero)
            refine⟨.agg q1,?_,.agg _ _ h4.1 h4.2⟩;simp only[execOp,ho];refine aY ?_;simp only[Instr.build,Sem.run_bind,hz,Result.andThen_ok,run_underlying l0,a7 (B _ _ c0)];rw[h3];rfl
          · cases h
        · cases h
      · cases h
    · cases h
  | extract x k=>
    rw[ho]at h;simp only[iu]at h;split at h
    · rename_i cs k0
      split at h
      · rename_i q hq
        simp only[Tm,TC]at h;obtain⟨rfl,rfl⟩:=h;have d:=aJ A x;rw[k0]at d;generalize Y:a.eval x=v at d;cases d with
        | aZ _ ys hl hr=>
          have i1:k<ys.size:=by rw[<-hl];exact(Tp.1 hq).1
          refine⟨ys.getD k undef,?_,hr _ _ hq⟩;simp only[execOp,ho,Y];refine aY ?_;simp[Instr.extract,Tl,i1]
      · cases h
    · cases h
  | makeFunc fn first caps=>
    rw[ho]at h;simp only[iu,dh,Tm,TC]at h;obtain⟨rfl,rfl⟩:=h;have h1:=Gw A first;have h2:=Gw A caps;exact⟨_,by simp only[execOp,ho];exact aY I,.cN _ _ _ _ _ h1.1 h2.1 h1.2 h2.2⟩
  | call c=>
    obtain⟨callee,args,a0⟩:=c;rw[ho]at h;cases callee with
    | builtin b=>
      cases b with
      | len=>
        simp only[iu]at h;split at h
        · rename_i x t s1 m2
          have b0:args= #[x]:=by cases args;simp_all
          have m1:a0= #[t]:=by cases a0;simp_all
          subst b0 m1;have d:=aJ A x;have o0: ∀v,(Builtin.len_ #[t] o.type #[a.eval x]).run P w= .ok v w->(execOp a.eval o).run P w= .ok (.value v) w:=by
            intro v Y;simp only[execOp,ho,resolve];simp[invoke,builtin,Y]
          split at h
          · rename_i u sz i0 z _ J
            have hu:P.underlying t=dl (.slice u):=(B t _ J).2.1.1;split at h
            · rename_i g0 n el Z
              rw[Z]at d;simp only[vR,Tm,TC]at h;obtain⟨rfl,rfl⟩:=h;refine⟨.int .i64 n,o0 _ ?_,.iv _ _ (.v _)⟩;generalize a.eval x=v at d;cases d with
              |iv _ _ D=>cases D<;>simp[Builtin.len_,run_underlying hu,goInt]
            · rename_i i n0 len g0 Z
              rw[Z]at d;simp only[vR,Tm,TC]at h;obtain⟨rfl,rfl⟩:=h;refine⟨.int .i64 len,o0 _ ?_,.iv _ _ (.v _)⟩;generalize a.eval x=v at d;cases d<;>(simp[Builtin.len_,run_underlying hu,goInt];done)
            · rename_i Z
              rw[Z]at d;simp only[vR,Tm,TC]at h;obtain⟨rfl,rfl⟩:=h;refine⟨.int .i64 0,o0 _ ?_,.iv _ _ (.v _)⟩;generalize a.eval x=v at d;cases d with
              |iv _ _ D=>cases D;simp[Builtin.len_,run_underlying hu,goInt]
            · cases h
          · rename_i sz i0 z _ J
            have hu:P.underlying t=dl .string:=(B t _ J).2.1.1;split at h
            · rename_i b Z
              rw[Z]at d;simp only[vR,Tm,TC]at h;obtain⟨rfl,rfl⟩:=h;refine⟨.int .i64 b.size,o0 _ ?_,.iv _ _ (.v _)⟩;generalize a.eval x=v at d;cases d with
              |iv _ _ D=>cases D;simp[Builtin.len_,run_underlying hu,goInt]
            · cases h
          · rename_i kt et sz i0 z _ J
            have hu:P.underlying t=dl (.map kt et):=(B t _ J).2.1.1;have r0: ∀{r:Nat} {ents:Array MapEntry} {clock n:Nat},w.heap[r]? =dl (.map ents clock)->ents.size=n->(Builtin.len_ #[t] o.type #[.map (dl r)]).run P w= .ok (.int .i64 n) w:=by
              intro r ents clock n h1 h2;simp[Builtin.len_,run_underlying hu,goInt,getObj,Sem.run,h1,h2,Result.andThen]
            split at h
            · rename_i V d1 f1 z' r1 m' Z
              rw[Z]at d;simp only[Tm,TC]at h;obtain⟨rfl,rfl⟩:=h;refine⟨.int .i64 m'.length,o0 _ ?_,.iv _ _ (.v _)⟩;generalize a.eval x=v at d;cases d with
              | iv _ _ D=>cases D with
                |eP _ _ _ _ _ b ents clock hb hs=>exact r0 (e0.ey _ _ hb) hs
            · rename_i j Z
              rw[Z]at d;split at h
              · rename_i V d1 f1 z' r1 t1 m' hg
                simp only[Tm,TC]at h;obtain⟨rfl,rfl⟩:=h;refine⟨.int .i64 m'.length,o0 _ ?_,.iv _ _ (.v _)⟩;obtain⟨ents,clock,h1,h2,h3⟩:=e0.obj _ _ hg;generalize a.eval x=v at d;cases d with
                |mp=>exact r0 h1 h2.size
              · cases h
            · cases h
          · cases h
        · cases h
      | max=>
        simp only[iu]at h;split at h
        · rename_i x y s1
          have b0:args= #[x,y]:=by cases args;simp_all
          subst b0;split at h
          · rename_i k n j m hn hm
            simp only[Tm,TC]at h;obtain⟨rfl,rfl⟩:=h;have h1:=aJ A x;have h2:=aJ A y;rw[hn]at h1;rw[hm]at h2;have e1:a.eval x= .int k n:=by
              generalize a.eval x=v at h1;cases h1 with
              | iv _ _ D=>cases D with
                |v=>rfl
            have e2:a.eval y= .int j m:=by
              generalize a.eval y=v at h2;cases h2 with
              | iv _ _ D=>cases D with
                |v=>rfl
            have e3:(if m>n then m else n)=max n m:=by split<;>omega
            refine⟨.int k (max n m),?_,.iv _ _ (.v _)⟩;simp only[execOp,ho,resolve];simp[invoke,builtin,Builtin.max_,Builtin.max2,e1,e2,<-e3]
          · cases h
        · cases h
      | min=>
        simp only[iu]at h;split at h
        · rename_i x y s1
          have b0:args= #[x,y]:=by cases args;simp_all
          subst b0;split at h
          · rename_i k n j m hn hm
            simp only[Tm,TC]at h;obtain⟨rfl,rfl⟩:=h;have h1:=aJ A x;have h2:=aJ A y;rw[hn]at h1;rw[hm]at h2;have e1:a.eval x= .int k n:=by
              generalize a.eval x=v at h1;cases h1 with
              | iv _ _ D=>cases D with
                |v=>rfl
            have e2:a.eval y= .int j m:=by
              generalize a.eval y=v at h2;cases h2 with
              | iv _ _ D=>cases D with
                |v=>rfl
            have e3:(if m<n then m else n)=min n m:=by split<;>omega
            refine⟨.int k (min n m),?_,.iv _ _ (.v _)⟩;simp only[execOp,ho,resolve];simp[invoke,builtin,Builtin.min_,Builtin.min2,e1,e2,<-e3]
          · cases h
        · cases h
      |_=>simp[iu]at h
    |_=>simp[iu]at h
  | lookup t x i ok=>
    rw[ho]at h;simp only[iu]at h;have d:=aJ A x;have D:=aJ A i;split at h
    · rename_i V d1 f1 z' r1 m' Z
      rw[Z]at d;generalize Y:a.eval x=v at d;cases d with
      | iv _ _ hxi=>cases hxi with
        | eP _ _ _ _ _ b ents clock hb hs l0 hv' hz j0 hc=>
          obtain⟨_,y,h1,h2⟩:=Am (P:=P) B h (e0.ey _ _ hb) ⟨hs,l0,hv',j0,hc⟩ hz D;exact⟨y,by simp only[execOp,ho,Y];exact aY h1,h2⟩
    · rename_i j Z
      rw[Z]at d;split at h
      · rename_i V d1 f1 z' r1 t1 m' hg
        obtain⟨ents,clock,h1,h2,h3⟩:=e0.obj _ _ hg;generalize Y:a.eval x=v at d;cases d with
        | mp=>
          obtain⟨_,y,g1,g2⟩:=Am (P:=P) B h h1 h2 h3 D;exact⟨y,by simp only[execOp,ho,Y];exact aY g1,g2⟩
      · cases h
    · cases h
  | entry it=>
    rw[ho]at h;simp only[iu]at h;have d:=aJ A it;split at h
    · rename_i i Z
      rw[Z]at d;split at h
      · rename_i V d1 f1 m' vs x' hg
        simp only[Tm,TC]at h;obtain⟨rfl,rfl⟩:=h;obtain⟨b,ents,clock,p1,h1,h2,h3,h4,h5,h6,h7⟩:=(e0.obj _ _ hg).resolve_left fun hh=>nomatch hh.2.2.1;obtain⟨j,r,rfl,h8⟩:=h7 x' I;generalize Y:a.eval it=v at d
        cases d with
        | ptr=>
          have hj:j<ents.size:=by rw[h3.size];exact(Tp.1 h8).1
          have z1:ents.getD j co=ents[j]:=by simp[Tl,hj]
          have a1:p1=(r.reverse.map fun j=>(ents.getD j co).born).toArray.push (ents[j]).born:=by
            apply W7.1;rw[h4];simp[hj]
          rw[a1]at h1;have d2:(ents.toList.map (·.born)).Nodup:=by
            rw[List.nodup_iff_pairwise_ne,Ws];intro p q hp hq l2 J;simp at hp hq J;have:=h3.inj p q ents[p] ents[q] (by simp[hp]) (by simp[hq]) J;omega
          have l1:=run_entry_at (P:=P) w (N.aC i) b clock _ ents clock ents[j] h1 (e0.ey _ _ h2) (by simp) d2;refine⟨_,by simp only[execOp,ho,Y];exact aY l1,.aZ _ _ I fun q p hp=>?_⟩;have s0:=h3.key j _ h8;have b1:=h3.val j _ h8;rw[z1]at s0 b1
          match q with
          |0=>simp at hp;subst hp;simp only[Tl];simp;rw[s0];exact CP d1 _
          |1=>simp at hp;subst hp;exact zH b1
          |q+2=>simp at hp
      · cases h
    · cases h
  |_=>rw[ho]at h;simp[iu]at h
end
abbrev AQ:=Exit->AS->Prop
def ju(nt:NT)(M:Mem)(N:Nm)(s:AS)(w:World)(Q:AQ):Exit->Act->World->Prop:=fun e x u=>
 ∃d j s',Ext M N (· <s.nx) s.h w d j (· <s'.nx) s'.h u∧Fits d j s' nt x u∧Q e s'
theorem ju.later{nt:NT}{M d:Mem}{N j:Nm}{s s':AS}{w u:World}{Q:AQ}{e:Exit}{a:Act}{y:World}
  (x:Ext M N (· <s.nx) s.h w d j (· <s'.nx) s'.h u) (h:ju nt d j s' u Q e a y):ju nt M N s w Q e a y:=by
 obtain⟨A,B,G,C,D,F⟩:=h;exact⟨A,B,G,x.trans C,D,F⟩
theorem ju.now{nt:NT}{M:Mem}{N:Nm}{s:AS}{w:World}{Q:AQ}{e:Exit}{a:Act}(hf:Fits M N s nt a w)(h:Q e s):ju nt M N s w Q e a w:=
 ⟨M,N,s,.refl _ _ _ _ _,hf,h⟩
def AW(P:Program)(nt:NT)(c:Code)(Q:AQ)(s:AS):Prop:= ∀M N a w,Fits M N s nt a w->c.wp P (ju nt M N s w Q) a w
def AL(P:Program)(nt:NT)(all rest:List Oper)(Q:AQ)(s:AS):Prop:= ∀M N a w,Fits M N s nt a w->wpList P all.toArray (ju nt M N s w Q) rest a w
def SL(P:Program)(nt:NT)(all rest:List Oper)(Q:AQ)(s:AS):Prop:= ∀M N a w,Fits M N s nt a w->
 wpStill P all.toArray w (fun d=> ∃s',s'.h=s.h∧s'.nx=s.nx∧Fits M N s' nt d w∧Q .normal s') rest a
def waits(o:Oper)(i:Nat):Bool:=o.after.toList.any fun e=>Region.binds .any e&&TR e.on i
def looks(all:List Oper)(o x:Oper):Bool:=match x.dst with
 |some d=>(o.looksAt all.toArray).contains d
 |none=>jp
def ik:Nat->List Oper->Bool
 |_,[]=>is
 |n,o::r=>(o.after.toList.all fun e=>!Region.binds .any e||TU e.on n)&&ik (n+1) r
structure Bs where
 M:Mem
 N:Nm
 n:Nat
 h:AH
 w:World
def Bs.ext(B:Bs)(M:Mem)(N:Nm)(s:AS)(w:World):Prop:=Ext B.M B.N (· <B.n) B.h B.w M N (· <s.nx) s.h w
def M8(nt:NT)(B:Bs)(Q:AQ):Exit->Act->World->Prop:=fun e x u=> ∃d j s',B.ext d j s' u∧Fits d j s' nt x u∧Q e s'
def aS(o:Oper):Bool:=match o.op with
 | .alloc _=>is
 |_=>jp
def oJ(P:Program)(M:Mem)(N:Nm)(s:AS)(B:Bs)(a:Act)(w:World)(o:Oper)(aC:Nat):Prop:=
 ∃t v d,o.op= .alloc t∧(∀w,(zeroValue t).run P w= .ok v w)∧o.dst=dl d∧a.tmps[d]? =dl (.pointer (dl ⟨aC,0,io⟩))∧w.heap[aC]? =dl (.cells v.cells t (0,0))∧M aC=io∧
  (∀i o,s.h.get i=dl o->o.real=is->N.aC i≠aC)∧B.w.heap.size<=aC
structure mv (P:Program) (nt:NT) (all:List Oper) (todo pend:List (Nat×Oper)) (B:Bs) (M:Mem) (N:Nm) (s:AS) (listed:Array Bool) (a:Act) (w:World):Prop where
 size:listed.size=all.length
 tl: ∀x∈todo,all[x.1]? =dl x.2
 pl: ∀x∈pend,all[x.1]? =dl x.2
 dj: ∀x∈pend,∀y∈todo,y.1≠x.1
 KS: ∀i o,all[i]? =dl o->listed.getD i is=jp->(i,o)∈todo∨(i,o)∈pend
 pw:pend.Pairwise fun x y=>looks all y.2 x.2=jp∧ ∀d,x.2.dst=dl d->y.2.dst≠dl d
 pp: ∀x∈pend,∀y∈pend,waits y.2 x.1=is∨looks all y.2 x.2=jp
 pa: ∀y∈pend,∀x∈todo,aS x.2=is->waits y.2 x.1=jp
 er: ∃bl:Nat->Nat,(∀x∈todo,listed.getD x.1 is=is->oJ P M N s B a w x.2 (bl x.1))∧ ∀x∈todo,∀y∈todo,listed.getD x.1 is=is->listed.getD y.1 is=is->x.1≠y.1->bl x.1≠bl y.1
 ap: ∃b:Act,Fits M N s nt b w∧a.tmps.size=b.tmps.size∧a.defers=b.defers∧
  (∀d,(∀x∈pend,listed.getD x.1 is=jp->x.2.dst≠dl d)->(∀x∈todo,listed.getD x.1 is=is->x.2.dst≠dl d)->a.tmps[d]? =b.tmps[d]?)∧
  (∀x∈pend,listed.getD x.1 is=jp-> ∃v,YieldsAt P all.toArray w x.2 v b∧b.put x.2.dst v=b)
def jh(P:Program)(nt:NT)(all:List Oper):Prop:= ∀i o,all[i]? =dl o->aS o=is->
 o.guard=io∧(∃d,o.dst=dl d∧d<nt)∧(∃t v,o.op= .alloc t∧ ∀w,(zeroValue t).run P w= .ok v w)∧(∀k,waits o k=jp)∧
 ∀k q,all[k]? =dl q->k≠i->(waits q i=is∨looks all q o=jp)∧ ∀d,o.dst=dl d->q.dst≠dl d
def DL(P:Program)(nt:NT)(all:List Oper)(todo pend:List (Nat×Oper))(Q:AQ)(s:AS):Prop:=
 Region.noSelect all.toArray=is->ik 0 all=is->jh P nt all-> ∀B M N listed a w d,B.ext M N s w->mv P nt all todo pend B M N s listed a w->listed.toList.count jp<=d->wpAny P .any all.toArray (M8 nt B Q) d listed a w
def putDst(nt:NT)(o:Oper)(p:PV)(s:AS):Option AS:=
 match o.dst with
 |none=>dl s
 |some d=>bif TU d nt then(match s with|⟨f,h,n⟩=>uZ p fun j=>dl ⟨(d,j)::f,h,n⟩) else io
theorem dx{nt:NT}{o:Oper}{p:PV}{s s':AS}(h:putDst nt o p s=dl s')(hd:o.dst=io):s'=s:=by
 simp only[putDst,hd,Tm]at h;exact h.symm
theorem dw{nt:NT}{o:Oper}{p:PV}{s s':AS}(h:putDst nt o p s=dl s'){d:Nat}(hd:o.dst=dl d):d<nt∧s'={s with f:=(d,p)::s.f}:=by
 simp only[putDst,hd]at h;cases hb:TU d nt with
 |false=>simp[hb]at h
 |true=>
  obtain⟨f,hh,n⟩:=s;simp only[hb,cond_true,dO,Tm]at h;exact⟨Tk hb,h.symm⟩
def eN(P:Program)(nt:NT)(all:List Oper)(s:AS)(o:Oper):Prop:=
 ∀M N b w,Fits M N s nt b w-> ∃v,YieldsAt P all.toArray w o v b∧Fits M N s nt (b.put o.dst v) w
def a8(pend:List (Nat×Oper))(o:Oper):List (Nat×Oper):=pend.filter fun x=>!waits o x.1
def UA(P:Program)(nt:NT)(b:Code)(Q:AQ):Nat->AS->Prop
 |0,_=>False
 |n+1,s=>AW P nt b (fun e s'=>match e with| .normal=>UA P nt b Q n s'|e=>Q e s') s
inductive KI where
 |code (c:Code)
 |aC (id:Nat)
 |ops (all rest:List Oper)
 |lp (R:AS->Prop)
 |sR (all rest:List Oper)
 |bY (all:List Oper) (todo pend:List (Nat×Oper))
 |DI (b:Code) (n:Nat)
 |EX
 |KJ (nt:NT) (f:AF) (res:AS->Option PV) (o:Oper) (all rest:List Oper)
 |KK (nt:NT) (f:AF) (res:AS->Option PV) (j:Nat) (o:Oper) (all:List Oper) (todo pend:List (Nat×Oper))
def kp(P:Program):NT->List KI->AQ->AQ
 |_,[],Q=>Q
 |nt,.code c::k,Q=>fun e s=>match e with| .normal=>AW P nt c (kp P nt k Q) s|e=>kp P nt k Q e s
 |nt,.ops all rest::k,Q=>fun e s=>match e with| .normal=>AL P nt all rest (kp P nt k Q) s|e=>kp P nt k Q e s
 |nt,.sR all rest::k,Q=>fun e s=>match e with| .normal=>SL P nt all rest (kp P nt k Q) s|e=>kp P nt k Q e s
 |nt,.bY all todo pend::k,Q=>fun e s=>match e with| .normal=>DL P nt all todo pend (kp P nt k Q) s|e=>kp P nt k Q e s
 |nt,.lp R::k,Q=>fun e s=>match e with| .normal=>R s|e=>kp P nt k Q e s
 |nt,.aC id::k,Q=>fun e s=>match e with| .exit j=>if j=id then kp P nt k Q .normal s else kp P nt k Q (.exit j) s|e=>kp P nt k Q e s
 |nt,.DI b n::k,Q=>fun e s=>match e with| .normal=>UA P nt b (kp P nt k Q) n s|e=>kp P nt k Q e s
 |nt,.EX::k,Q=>fun e s=>match e with| .goto _=>False|e=>kp P nt k Q e s
 |_,.KJ nt f res o all rest::k,Q=>fun e s=>(e= .normal∨e= .ret)∧ ∃r s',res s=dl r∧putDst nt o r ⟨f,s.h,s.nx⟩=dl s'∧AL P nt all rest (kp P nt k Q) s'
 | _,.KK nt f res j o all todo pend::k,Q=>fun e s=>(e= .normal∨e= .ret)∧ ∃r s',res s=dl r∧putDst nt o r ⟨f,s.h,s.nx⟩=dl s'∧
   (∀x∈a8 pend o,eN P nt all s' x.2)∧DL P nt all (todo.filter fun x=>!TR x.1 j) (a8 pend o) (kp P nt k Q) s'
def GO(P:Program)(nt:NT)(k:List KI)(Q:AQ)(s:AS):Prop:=kp P nt k Q .normal s
section
variable {P:Program} {nt:NT} {Q:AQ} {k:List KI} {s:AS}
theorem AW.then{c:Code}{R:AQ}(h:AW P nt c R s){M:Mem}{N:Nm}{a:Act}{w:World}(hf:Fits M N s nt a w){Z:Exit->Act->World->Prop}
  (y: ∀e x d j u s',Ext M N (· <s.nx) s.h w j u (· <s'.nx) s'.h d->Fits j u s' nt x d->R e s'->Z e x d):c.wp P Z a w:=
 wp_mono (h M N a w hf) fun e x d ⟨j,u,s',h1,h2,h3⟩=>y e x d j u s' h1 h2 h3
theorem go_skip(h:GO P nt k Q s):GO P nt (.code .skip::k) Q s:=fun _ _ _ _ d=>wp_skip (.now d h)
theorem GU{l:Nat}(h:GO P nt k Q s):GO P nt (.code (.label l)::k) Q s:=fun _ _ _ _ d=>wp_label (.now d h)
theorem go_ret(h:kp P nt k Q .ret s):GO P nt (.code .ret::k) Q s:=fun _ _ _ _ d=>wp_ret (.now d h)
theorem KA{id:Nat}(h:kp P nt k Q (.exit id) s):GO P nt (.code (.exit id)::k) Q s:=fun _ _ _ _ d=>wp_exit (.now d h)
theorem GQ{c:Code}(h:GO P nt (.code c:: .EX::k) Q s):GO P nt (.code (.scope c)::k) Q s:=by
 intro M N a w y;refine wp_scope_straight (AW.then h y fun e B C u x s' A d j=>?_);cases e with
 |goto l=>exact j
 |_=>exact⟨u,x,s',A,d,j⟩
theorem Pa{id:Nat}(h:GO P nt k Q s):GO P nt (.aC id::k) Q s:=h
theorem O6{x y:Code}(h:GO P nt (.code x:: .code y::k) Q s):GO P nt (.code (.seq x y)::k) Q s:=by
 intro M N a w Y;refine wp_seq (AW.then h Y fun e a' w' D G s' C d B=>?_);cases e with
 |normal=>exact AW.then B d fun e a2 w2 F J Z A j u=>⟨F,J,Z,C.trans A,j,u⟩
 |_=>exact⟨D,G,s',C,d,B⟩
theorem G1{id:Nat}{x:Code}(h:GO P nt (.code x:: .aC id::k) Q s):GO P nt (.code (.block id x)::k) Q s:=by
 intro M N a w D;refine wp_block (AW.then h D fun e F G y A s' C d u=>?_);cases e with
 |exit j=>
  simp only[kp]at u;simp only[Exit.inBlock];split
  .rename_i B;rw[am B]at u;exact⟨y,A,s',C,d,u⟩
  .rename_i B;rw[be B]at u;exact⟨y,A,s',C,d,u⟩
 |_=>exact⟨y,A,s',C,d,u⟩
theorem go_region{id:Nat}{ops:Array Oper}(h:GO P nt (.ops ops.toList ops.toList::k) Q s):GO P nt (.code (.region id ops jp)::k) Q s:=by
 intro M N a w d;refine wp_region_list ?_;have:=h M N a w d;simpa using this
theorem BT{all:List Oper}(h:GO P nt k Q s):GO P nt (.ops all []::k) Q s:=fun _ _ _ _ d=>wpList_nil (ju.now d h)
theorem Fits.bool{M:Mem}{N:Nm}{a:Act}{w:World}(hf:Fits M N s nt a w){c:Operand}{t:Bool}(hc:ev s.f c= .iv (.v (.bool t))):a.eval c= .bool t:=by
 have h:=aJ hf.2.1 c;rw[hc]at h;generalize a.eval c=v at h;cases h with
 |iv _ _ h=>cases h with
  |v=>rfl
theorem Fits.put{M:Mem}{N:Nm}{a:Act}{w:World}(hf:Fits M N s nt a w)(d:Nat)(p:PV)(x:Value)(hd:d<nt)(hp:VR M N (· <s.nx) p x):Fits M N {s with f:=(d,p)::s.f} nt (a.put (dl d) x) w:=
 ⟨hf.1,hf.2.1.put d p x (by rw[hf.2.2.2];exact hd) hp,hf.2.2.1,by simp[Act.put,hf.2.2.2]⟩
def setBool(s:AS)(c:Operand)(t:Bool):AS:=
 match c with
 | .tmp d=>match s with
  |⟨f,h,n⟩=>⟨(d,.kb t)::f,h,n⟩
 |_=>s
theorem Fits.setBool{M:Mem}{N:Nm}{a:Act}{w:World}(hf:Fits M N s nt a w){c:Operand}{t:Bool}(hc:ev s.f c= .iv (.v (.bool t))):Fits M N (setBool s c t) nt a w:=by
 cases c with
 |tmp d=>
  refine⟨hf.1,fun j=>?_,hf.2.2⟩;simp only[Al.setBool,AF.ax];split
  .rename_i u;subst u;have:=hf.bool (c:= .tmp j) hc;simp only[Act.eval]at this;rw[this];exact .kb _
  .exact hf.2.1 j
 |_=>exact hf
theorem uV{c:Operand}{x y:Code}{t:Bool}(hc:ev s.f c= .kb t)(h:GO P nt (.code (bif t then x else y)::k) Q s):GO P nt (.code (.cond c x y)::k) Q s:=by
 intro M N a w d;have hb:a.eval c= .bool t:=by
  have:=aJ d.2.1 c;rw[hc]at this;generalize a.eval c=v at this;cases this;rfl
 refine wp_cond hb ?_;cases t
 .exact h M N a w d
 .exact h M N a w d
theorem KE{c:Operand}{x y:Code}{t:Bool}(hc:ev s.f c= .iv (.v (.bool t)))(h1:t=is->GO P nt (.code x::k) Q (setBool s c is))(J:t=jp->GO P nt (.code y::k) Q (setBool s c jp)):
  GO P nt (.code (.cond c x y)::k) Q s:=by
 intro M N a w G;have A:=G.setBool hc;refine wp_cond_split (G.bool hc) (fun D=>?_) (fun D=>?_)
 .subst D;exact AW.then (h1 I) A fun e a2 Y B C F u d j=>⟨B,C,F,by cases c<;>exact u,d,j⟩
 .subst D;exact AW.then (J I) A fun e a2 Y B C F u d j=>⟨B,C,F,by cases c<;>exact u,d,j⟩
theorem qw{Q d:Exit->Act->World->Prop}(j: ∀e a w,Q e a w->d e a w)(h:LetsOut Q):LetsOut d:=let ⟨a,w,x⟩:=h;⟨a,w,j _ _ _ x⟩
theorem Ag{o:Oper}{a:Act}{w:World}{K K':Act->World->Prop}{Q u:Exit->Act->World->Prop}(h: ∀a w,K a w->K' a w)(j: ∀e a w,Q e a w->u e a w)(hh:o.wp P a w K Q):o.wp P a w K' u:=by
 unfold Oper.wp at*
 generalize(execOp a.eval o).run P w=r at*
 cases r with
 |ok n w'=>
  cases n<;>simp only[Oper.upon]at hh ⊢ <;>
   first
    |exact h _ _ hh
    |exact Calls.mono hh (fun e y d=>by cases e<;>first|exact h _ _ d|exact qw j d|exact j _ _ _ d)
    |exact Rows.mono hh (fun _ _ d=>h _ _ d)
 |halt x w'=>cases x<;>simp only[Oper.upon]at hh ⊢ <;>exact j _ _ _ hh
theorem gP{ops:Array Oper}{Q u:Exit->Act->World->Prop}(d: ∀e a w,Q e a w->u e a w): ∀(l:List Oper) (a:Act) (w:World),wpList P ops Q l a w->wpList P ops u l a w
 | [],_,_,h=>d _ _ _ h
 |o::r,a,w,h=>by
  unfold wpList at*
  split
  .rename_i j;rw[am j]at h;exact h.imp (Ag (gP d r) d) (fun⟨h1,h2⟩=>⟨h1,qw d h2⟩)
  .rename_i j;rw[be j]at h;exact gP d r _ _ h
theorem AL.later{all rest:List Oper}(h:AL P nt all rest Q s){M d:Mem}{N j:Nm}{s0:AS}{a:Act}{w u:World}(x:Ext d j (· <s0.nx) s0.h u M N (· <s.nx) s.h w)(hf:Fits M N s nt a w):
  wpList P all.toArray (ju nt d j s0 u Q) rest a w:=
 gP (fun _ _ _=>ju.later x) rest a w (h M N a w hf)
def OT(P:Program)(nt:NT)(o:Oper)(s:AS)(R:AS->Prop):Prop:=
 ∀M N a w,Fits M N s nt a w-> ∀(K:Act->World->Prop) (Q:Exit->Act->World->Prop),
  (∀j u s' x d,Ext M N (· <s.nx) s.h w j u (· <s'.nx) s'.h d->Fits j u s' nt x d->R s'->K x d)->o.wp P a w K Q
theorem fE{o:Oper}(h:o.guard=io)(y:Nat->Option Bool):Region.wanted o y=is:=by simp[Region.wanted,h]
theorem bF{all rest:List Oper}{o:Oper}{R:AS->Prop}(hg:o.guard=io)(ho:OT P nt o s R)(h: ∀s',R s'->GO P nt (.ops all rest::k) Q s'):GO P nt (.ops all (o::rest)::k) Q s:=by
 intro M N a w j;unfold wpList;rw[am (fE hg _)];refine .inl (ho M N a w j _ _ fun y A s' B C x d u=>?_);exact AL.later (h s' u) x d
def guardOf(all:List Oper)(f:AF)(j:Nat):Option (Nat×PV):=
 match all[j]? with
 |some o=>match o.dst with
  |some d=>dl (d,f.get d)
  |none=>io
 |none=>io
theorem Fits.yielded{M:Mem}{N:Nm}{a:Act}{w:World}(hf:Fits M N s nt a w){all:List Oper}{j d:Nat}{t:Bool}(hg:guardOf all s.f j=dl (d,.iv (.v (.bool t))))(hd:d<nt):Go.yielded all.toArray a.tmps j=dl t:=by
 unfold guardOf at hg;cases ho:all[j]? with
 |none=>simp[ho]at hg
 |some o=>
  cases hod:o.dst with
  |none=>simp[ho,hod]at hg
  |some d'=>
   simp only[ho,hod,Tm,TC]at hg;obtain⟨rfl,C⟩:=hg;have u:=hf.2.1 d';rw[C]at u;have x:d'<a.tmps.size:=by rw[hf.2.2.2];exact hd
   have y:a.tmps[d']? =dl (a.tmps.getD d' undef):=by simp[Tl,x]
   have A:a.tmps.getD d' undef= .bool t:=by
    generalize a.tmps.getD d' undef=v at u;cases u with
    |iv _ _ h=>cases h with
     |v=>rfl
   have B:all.toArray[j]? =dl o:=by simpa using ho
   simp[Go.yielded,B,hod,y,A]
def gE(o:Oper)(s:AS):AS:=
 match o.dst with
 |some e=>match s with
  |⟨f,h,n⟩=>⟨(e,.iv (.v (.tuple #[])))::f,h,n⟩
 |none=>s
theorem Fits.skip{M:Mem}{N:Nm}{a:Act}{w:World}(hf:Fits M N s nt a w)(o:Oper):Fits M N (gE o s) nt (a.put o.dst undef) w:=by
 unfold gE;cases o.dst with
 |none=>exact hf
 |some e=>
  refine⟨hf.1,fun i=>?_,hf.2.2.1,by simp[Act.put,hf.2.2.2]⟩;simp only[AF.ax];by_cases d:i=e
  .rw[am d];subst d;have:(a.put (dl i) undef).tmps.getD i undef=undef:=by
    simp only[Act.put,Tl,Ua,if_true];split<;>rfl
   rw[this];exact .iv _ _ (.v _)
  .rw[be d];have:=hf.2.1 i;simp only[Act.put,Tl,Ua]at this ⊢;rw[be (fun e=>d e.symm)];exact this
theorem iR(o:Oper)(s:AS):(gE o s).h=s.h∧(gE o s).nx=s.nx:=by unfold gE;cases o.dst<;>exact⟨rfl,rfl⟩
theorem jw(c:Operand)(t:Bool)(s:AS):(setBool s c t).h=s.h∧(setBool s c t).nx=s.nx:=by cases c<;>exact⟨rfl,rfl⟩
theorem AL.same{all rest:List Oper}{s':AS}(h:AL P nt all rest Q s')(e:s'.h=s.h∧s'.nx=s.nx){M:Mem}{N:Nm}{a:Act}{w:World}(hf:Fits M N s' nt a w):
  wpList P all.toArray (ju nt M N s w Q) rest a w:=by
 have:=h M N a w hf;refine gP (fun j d u ⟨M2,N2,s2,h1,h2,h3⟩=>⟨M2,N2,s2,?_,h2,h3⟩) rest a w this;rw[e.1,e.2]at h1;exact h1
theorem Fits.tA{M:Mem}{N:Nm}{a:Act}{w:World}(hf:Fits M N s nt a w){all:List Oper}{j d:Nat}{t:Bool}(hg:guardOf all s.f j=dl (d,.kb t))(hd:d<nt):Go.yielded all.toArray a.tmps j=dl t:=by
 unfold guardOf at hg;cases ho:all[j]? with
 |none=>simp[ho]at hg
 |some o=>
  cases hod:o.dst with
  |none=>simp[ho,hod]at hg
  |some d'=>
   simp only[ho,hod,Tm,TC]at hg;obtain⟨rfl,C⟩:=hg;have u:=hf.2.1 d';rw[C]at u;have x:d'<a.tmps.size:=by rw[hf.2.2.2];exact hd
   have y:a.tmps[d']? =dl (a.tmps.getD d' undef):=by simp[Tl,x]
   have A:a.tmps.getD d' undef= .bool t:=by
    generalize a.tmps.getD d' undef=v at u;cases u;rfl
   have B:all.toArray[j]? =dl o:=by simpa using ho
   simp[Go.yielded,B,hod,y,A]
theorem Fits.tz{M:Mem}{N:Nm}{a:Act}{w:World}(hf:Fits M N s nt a w){all:List Oper}{j d:Nat}{vs:Array Value}(hg:guardOf all s.f j=dl (d,.iv (.v (.tuple vs)))):Go.yielded all.toArray a.tmps j=io:=by
 unfold guardOf at hg;cases ho:all[j]? with
 |none=>simp[ho]at hg
 |some o=>
  cases hod:o.dst with
  |none=>simp[ho,hod]at hg
  |some d'=>
   simp only[ho,hod,Tm,TC]at hg;obtain⟨rfl,A⟩:=hg;have x:=hf.2.1 d';rw[A]at x;have u:a.tmps.getD d' undef= .tuple vs:=by
    generalize a.tmps.getD d' undef=v at x;cases x with
    |iv _ _ h=>cases h with
     |v=>rfl
   have y:all.toArray[j]? =dl o:=by simpa using ho
   rw[Tl]at u;cases h5:a.tmps[d']? with
   |none=>simp[Go.yielded,y,hod,h5]
   |some v=>
    rw[h5]at u;simp only[UI]at u;subst u;simp[Go.yielded,y,hod,h5]
theorem Ax{all rest:List Oper}{o:Oper}{j d:Nat}{u:Bool}{vs:Array Value}(hg:o.guard=dl (j,u))(B:guardOf all s.f j=dl (d,.iv (.v (.tuple vs))))(h:GO P nt (.ops all rest::k) Q (gE o s)):GO P nt (.ops all (o::rest)::k) Q s:=by
 intro M N a w y;have x:=y.tz B;unfold wpList;have A:Region.wanted o (Go.yielded all.toArray a.tmps)=jp:=by simp[Region.wanted,hg,x]
 rw[A,be (by simp)];exact AL.same (s:=s) h (iR _ _) (y.skip o)
theorem Ay{all rest:List Oper}{o:Oper}{j d:Nat}{u t:Bool}(hg:o.guard=dl (j,u))(C:guardOf all s.f j=dl (d,.kb t))(hd:d<nt)
  (h:GO P nt (.ops all (bif t==u then{o with guard:=io}::rest else rest)::k) Q (bif t==u then s else gE o s)):GO P nt (.ops all (o::rest)::k) Q s:=by
 intro M N a w A;have x:=A.tA C hd;unfold wpList;by_cases y:t=u
 .have B:Region.wanted o (Go.yielded all.toArray a.tmps)=is:=by simp[Region.wanted,hg,x,y]
  have hb:(t==u)=is:=by simp[y]
  rw[am B];rw[hb]at h;have:=h M N a w A;simp only[cond_true]at this;unfold wpList at this;rw[am (fE I _)]at this;exact this
 .have B:Region.wanted o (Go.yielded all.toArray a.tmps)=jp:=by simp[Region.wanted,hg,x,y]
  have hb:(t==u)=jp:=by simp[y]
  rw[B,be (by simp)];rw[hb]at h;exact AL.same (s:=s) h (iR _ _) (A.skip o)
theorem GV{all rest:List Oper}{o:Oper}{j d:Nat}{u t:Bool}(hg:o.guard=dl (j,u))(y:guardOf all s.f j=dl (d,.iv (.v (.bool t))))(hd:d<nt)
  (h1:t=u->GO P nt (.ops all ({o with guard:=io}::rest)::k) Q (setBool s (.tmp d) u)) (J:t=!u->GO P nt (.ops all rest::k) Q (gE o (setBool s (.tmp d) (!u)))):
  GO P nt (.ops all (o::rest)::k) Q s:=by
 intro M N a w G;have B:=G.yielded y hd;have D:ev s.f (.tmp d)= .iv (.v (.bool t)):=by
  unfold guardOf at y;cases ho:all[j]? with
  |none=>simp[ho]at y
  |some o'=>
   cases hod:o'.dst with
   |none=>simp[ho,hod]at y
   |some d'=>
    simp only[ho,hod,Tm,TC]at y;obtain⟨rfl,Y⟩:=y;exact Y
 have x:=G.setBool D;unfold wpList;by_cases C:t=u
 .have F:Region.wanted o (Go.yielded all.toArray a.tmps)=is:=by simp[Region.wanted,hg,B,C]
  rw[am F];rw[C]at x;have:=AL.same (s:=s) (h1 C) (jw _ _ _) x;unfold wpList at this;rw[am (fE I _)]at this;exact this
 .have F:Region.wanted o (Go.yielded all.toArray a.tmps)=jp:=by simp[Region.wanted,hg,B,C]
  have A:t=!u:=by cases t<;>cases u<;>simp_all
  rw[F,be (by simp)];rw[A]at x;exact AL.same (s:=s) (J A) ⟨(iR _ _).1.trans (jw _ _ _).1,(iR _ _).2.trans (jw _ _ _).2⟩ (x.skip o)
end
section
variable {P:Program} {nt:NT} {Q:AQ} {k:List KI} {s:AS}
theorem Rel.drew{M:Mem}{N:Nm}{U:Nat->Prop}{h:AH}{w:World}(hr:Rel M N U h w):Rel M N U h {w with drawn:=w.drawn+1}:=
 ⟨hr.ey,hr.used,hr.dI,fun i o d=>(hr.obj i o d).mono (.refl _) (.refl _ _) (fun _ h=>h) (hr.used i o d) I,hr.inj⟩
theorem Fits.drew{M:Mem}{N:Nm}{a:Act}{w:World}(hf:Fits M N s nt a w):Fits M N s nt a {w with drawn:=w.drawn+1}:=⟨hf.1.drew,hf.2⟩
theorem Ext.drew{M:Mem}{N:Nm}{U:Nat->Prop}{h:AH}{w:World}:Ext M N U h w M N U h {w with drawn:=w.drawn+1}:=
 ⟨rfl,rfl,⟨rfl,Vg _⟩,Tv _,fun _ _ _=>rfl,.refl _,fun b c j u=>by simp[j]at u,.refl _ _,fun _ h=>h,fun i o x d=> .inr ⟨i,o,x,d,rfl⟩⟩
end
section
variable {P:Program} {M:Mem} {N:Nm} {w:World} {n:Nat} {h:AH}
def Nm.with(N:Nm)(n b e:Nat):Nm:={aC:=fun i=>if i=n then b else N.aC i,ext:=fun i=>if i=n then e else N.ext i}
theorem Nm.dB(N:Nm)(n b e:Nat):N.agree (N.with n b e) (· <n):=
 ⟨fun i d=>by simp[Nm.with,WC d],fun i d=>by simp[Nm.with,WC d]⟩
@[simp] theorem Nm.E4(N:Nm)(n b e:Nat):(N.with n b e).aC n=b:=by simp[Nm.with]
@[simp] theorem Nm.PI(N:Nm)(n b e:Nat):(N.with n b e).ext n=e:=by simp[Nm.with]
theorem Rel.lt(hr:Rel M N (· <n) h w){i:Nat}{o:AO}(hi:h.get i=dl o)(d:o.real=is):N.aC i<w.heap.size:=(hr.obj i o hi).lt d
theorem Rel.Ai(hr:Rel M N (· <n) h w):M w.heap.size=io:=by
 cases hm:M w.heap.size with
 |none=>rfl
 |some c=>have:=(hr.ey _ _ hm).lt;omega
theorem Rel.alloc(hr:Rel M N (· <n) h w)(obj:Obj)(o:AO)(e:Nat)(ho: ∀C,C.aC n=w.heap.size->C.ext n=e->N.agree C (· <n)->OR M C (· <n+1) (w.alloc obj) n o):
  ∃C,C.aC n=w.heap.size∧C.ext n=e∧N.agree C (· <n)∧Ext M N (· <n) h w M C (· <n+1) ((n,dl o)::h) (w.alloc obj)∧Rel M C (· <n+1) ((n,dl o)::h) (w.alloc obj):=by
 have D:=N.dB n w.heap.size e;have d: ∀i p,AH.get ((n,dl o)::h) i=dl p->(i=n∧p=o)∨(i<n∧h.get i=dl p):=by
  intro i p u;rw[AH.ax]at u;split at u
  .rename_i F;exact .inl ⟨F,by simpa using u.symm⟩
  .exact .inr ⟨hr.used i p u,u⟩
 refine⟨N.with n w.heap.size e,by simp,by simp,D,?_,?_⟩
 .refine⟨rfl,rfl,⟨rfl,Tv _⟩,by simp,fun b hb _=>rU w obj b hb,.refl _,fun b c B A=>by simp[B]at A,D,fun i u=>by omega,fun i p u x=>?_⟩;rcases d i p u with⟨rfl,rfl⟩|⟨B,A⟩
  .exact .inl (by simp)
  .exact .inr ⟨i,p,A,x,(D.aC i B).symm⟩
 .refine⟨fun b c hb=>?_,fun i p u=>?_,fun i p u x=>?_,fun i p u=>?_,fun i j p q u hj Y Z y=>?_⟩
  .exact(hr.ey b c hb).mono (rU w obj b (hr.ey b c hb).lt)
  .rcases d i p u with⟨rfl,rfl⟩|⟨B,A⟩<;>omega
  .rcases d i p u with⟨rfl,rfl⟩|⟨B,A⟩
   .simpa using hr.Ai
   .rw[D.aC i B];exact hr.dI i p A x
  .rcases d i p u with⟨rfl,rfl⟩|⟨B,A⟩
   .exact ho _ (by simp) (by simp) D
   .cases x:p.real with
    |true=>exact(hr.obj i p A).mono (.refl _) D (fun i u=>by omega) B (rU w obj _ (hr.lt A x))
    |false=>
     cases p with
     |row sz es=>cases es with
      |nil=>exact .inl I
      |cons=>cases x
     |bA l T=>cases l with
      |nil=>exact .inl I
      |cons=>cases x
     |_=>cases x
  .rcases d i p u with⟨rfl,rfl⟩|⟨B,A⟩<;>rcases d j q hj with⟨rfl,rfl⟩|⟨G,J⟩
   .rfl
   .rw[D.aC j G]at y;simp at y;have:=hr.lt J Z;omega
   .rw[D.aC i B]at y;simp at y;have:=hr.lt A Y;omega
   .rw[D.aC i B,D.aC j G]at y;exact hr.inj i j p q A J Y Z y
theorem Rel.A8(hr:Rel M N (· <n) h w)(sz:Nat):Ext M N (· <n) h w M N (· <n+1) ((n,dl (.row sz []))::h) w∧Rel M N (· <n+1) ((n,dl (.row sz []))::h) w:=by
 have d: ∀i p,AH.get ((n,dl (.row sz []))::h) i=dl p->(i=n∧p= .row sz [])∨(i<n∧h.get i=dl p):=by
  intro i p u;rw[AH.ax]at u;split at u
  .rename_i C;exact .inl ⟨C,by simpa using u.symm⟩
  .exact .inr ⟨hr.used i p u,u⟩
 refine⟨⟨rfl,rfl,⟨rfl,Tv _⟩,Tv _,fun _ _ _=>rfl,.refl _,fun b c A y=>by simp[A]at y,.refl _ _,fun i u=>by omega,fun i p u x=>?_⟩,⟨hr.ey,fun i p u=>?_,fun i p u x=>?_,fun i p u=>?_,fun i j p q u J D F B=>?_⟩⟩
 .rcases d i p u with⟨rfl,rfl⟩|⟨A,y⟩
  .cases x
  .exact .inr ⟨i,p,y,x,rfl⟩
 .rcases d i p u with⟨rfl,rfl⟩|⟨A,y⟩<;>omega
 .rcases d i p u with⟨rfl,rfl⟩|⟨A,y⟩
  .cases x
  .exact hr.dI i p y x
 .rcases d i p u with⟨rfl,rfl⟩|⟨A,y⟩
  .exact .inl I
  .exact(hr.obj i p y).mono (.refl _) (.refl _ _) (fun i u=>by omega) A I
 .rcases d i p u with⟨rfl,rfl⟩|⟨A,y⟩<;>rcases d j q J with⟨rfl,rfl⟩|⟨Y,G⟩
  .rfl
  .cases D
  .cases F
  .exact hr.inj i j p q y G D F B
theorem Rel.write(hr:Rel M N (· <n) h w){i:Nat}{o0:AO}(hi:h.get i=dl o0)(h0:o0.real=is)(A:World)(o:AO)(a0:A.os=w.os)(F:A.tape=w.tape)(G:A.output=w.output)(b0:A.heap.size=w.heap.size)
  (J: ∀b,b≠N.aC i->A.heap[b]? =w.heap[b]?) (ho:OR M N (· <n) A i o) (hd:w.drawn<=A.drawn:=by first|exact Tv _|exact Vg _):
  Ext M N (· <n) h w M N (· <n) ((i,dl o)::h) A∧Rel M N (· <n) ((i,dl o)::h) A:=by
 have d: ∀j p,AH.get ((i,dl o)::h) j=dl p->(j=i∧p=o)∨(j≠i∧h.get j=dl p):=by
  intro j p y;rw[AH.ax]at y;split at y
  .rename_i C;exact .inl ⟨C,by simpa using y.symm⟩
  .rename_i C;exact .inr ⟨C,y⟩
 refine⟨⟨a0,F,⟨G,hd⟩,by omega,fun b hb hn=>J b (fun e=>hn i o0 hi h0 e.symm),.refl _,fun b c B x=>by simp[B]at x,.refl _ _,fun _ h=>h,fun j p y u=>?_⟩,?_⟩
 .rcases d j p y with⟨rfl,rfl⟩|⟨B,x⟩
  .exact .inr ⟨j,o0,hi,h0,rfl⟩
  .exact .inr ⟨j,p,x,u,rfl⟩
 .refine⟨fun b c hb=>?_,fun j p y=>?_,fun j p y u=>?_,fun j p y=>?_,fun j k p q y Y hp hq D=>?_⟩
  .have Z:b≠N.aC i:=fun e=>by
    have:=hr.dI i o0 hi h0;rw[<-e,hb]at this;simp at this
   exact(hr.ey b c hb).mono (J b Z)
  .rcases d j p y with⟨rfl,rfl⟩|⟨B,x⟩
   .exact hr.used j o0 hi
   .exact hr.used j p x
  .rcases d j p y with⟨rfl,rfl⟩|⟨B,x⟩
   .exact hr.dI j o0 hi h0
   .exact hr.dI j p x u
  .rcases d j p y with⟨rfl,rfl⟩|⟨B,x⟩
   .exact ho
   .cases u:p.real with
    |true=>exact(hr.obj j p x).mono (.refl _) (.refl _ _) (fun _ h=>h) (hr.used j p x) (J _ (fun e=>B (hr.inj j i p o0 x hi u h0 e)))
    |false=>
     cases p with
     |row sz es=>cases es with
      |nil=>exact .inl I
      |cons=>cases u
     |bA l T=>cases l with
      |nil=>exact .inl I
      |cons=>cases u
     |_=>cases u
  .rcases d j p y with⟨rfl,rfl⟩|⟨B,x⟩<;>rcases d k q Y with⟨rfl,rfl⟩|⟨h3,h4⟩
   .rfl
   .exact hr.inj _ _ _ _ hi h4 h0 hq D
   .exact hr.inj _ _ _ _ x hi hp h0 D
   .exact hr.inj _ _ _ _ x h4 hp hq D
end
def Be(ty:Ty)(s:AS)(t:TypeId)(p x:PV):Option AS:=
 match ty t with
 |some e=>match x.cells with
  |some xs=>match TR xs.length e.size,eM xs with
   |true,is=>match p with
    | .ptr i off=>match s.h.get i with
     |some (.cells cs T0)=>match Vm (off+xs.length) cs.length with
      |true=>match s with
       |⟨f,h,n⟩=>je (setCells cs off xs) fun d=>dl ⟨f,(i,dl (.cells d T0))::h,n⟩
      |false=>io
     |_=>io
    |_=>io
   |_,_=>io
  |none=>io
 |none=>io
def newObj(s:AS)(o:AO):AS:=match s with|⟨f,h,n⟩=>⟨f,(n,dl o)::h,n+1⟩
def nw(s:AS)(g:Nat->PV)(o:AO):Option (PV×AS):=match s with|⟨f,h,n⟩=>dl (g n,⟨f,(n,dl o)::h,n+1⟩)
theorem uw(s:AS)(g:Nat->PV)(o:AO):nw s g o=dl (g s.nx,newObj s o):=by cases s;rfl
def xX:Nat->List PV->List PV
 |0,_=> []
 |n+1,l=>l++xX n l
theorem ky: ∀(n:Nat) (l:List PV),(xX n l).length=n*l.length
 |0,l=>by simp[xX]
 |n+1,l=>by simp[xX,ky n l,U4,V6]
theorem zu: ∀(n:Nat) (l:List PV) (j:Nat) (p:PV),(xX n l)[j]? =dl p->l[j % l.length]? =dl p
 |0,l,j,p,h=>by simp[xX]at h
 |n+1,l,j,p,h=>by
  simp only[xX]at h;rcases Un j l.length with hj|hj
  .rw[TG hj]at h;rw[VU hj];exact h
  .rw[TI hj]at h;have:=zu n l _ p h;rwa[Nat.mod_eq_sub_mod hj]
def mo(sz:Nat):Nat->List PV->List (List PV)
 |0,_=> []
 |n+1,cs=>cs.take sz::mo sz n (cs.drop sz)
def yI{α:Type _}(sz:Nat):Nat->List PV->(List (List PV)->α)->α
 |0,_,k=>k []
 |n+1,cs,k=>je (cs.take sz) fun c=>je (cs.drop sz) fun d=>yI sz n d fun r=>k (c::r)
theorem xq{α:Type _}(sz:Nat): ∀(n:Nat) (cs:List PV) (k:List (List PV)->α),yI sz n cs k=k (mo sz n cs)
 |0,_,_=>rfl
 |n+1,cs,k=>by simp only[yI,dh,xq sz n,mo]
theorem oI(sz:Nat): ∀(n:Nat) (cs:List PV),(mo sz n cs).length=n
 |0,_=>rfl
 |n+1,cs=>by simp[mo,oI sz n]
theorem mn(sz:Nat): ∀(n:Nat) (cs:List PV) (k:Nat) (e:List PV),cs.length=n*sz->(mo sz n cs)[k]? =dl e->e.length=sz∧ ∀j,j<sz->e[j]? =cs[k*sz+j]?
 |0,cs,k,e,_,h=>by simp[mo]at h
 |n+1,cs,k,e,hl,h=>by
  simp only[mo]at h;rw[U4]at hl;cases k with
  |zero=>
   simp at h;subst h;refine⟨by simp;omega,fun j d=>by simp[d]⟩
  |succ k=>
   obtain⟨u,x⟩:=mn sz n (cs.drop sz) k e (by simp;omega) (by simpa using h);refine⟨u,fun j d=>?_⟩;rw[x j d,Uz,U4];congr 1;omega
def MH(ty:Ty)(e:bJ):Bool:=
 match e.k with
 | .cq ((0,u)::_)=>match ty u with
  |some ⟨.cq ((0,q)::_),_,_,_,_⟩=>match ty q with
   |some ⟨.aR (.pointer v),_,_,_,_⟩=>TR u v
   |_=>jp
  |_=>jp
 |_=>jp
def Ql(ty:Ty)(t:TypeId):Bool:=
 match ty t with
 |some e=>MH ty e
 |none=>jp
def Gr(ty:Ty)(s:AS):Op->Option (PV×AS)
 | .alloc t=>match ty t with
  |some e=>match MH ty e with
   |true=>je (cy e.zero) fun d=>nw s (fun n=> .ptr n 0) (.cells d (dl t))
   |false=>je (cy e.zero) fun d=>nw s (fun n=> .ptr n 0) (.cells d)
  |none=>io
 | .box t x=>match(ev s.f x).cells with
  |some d=>match eM d with
   |true=>match Ql ty t with
    |true=>je d fun j=>nw s (fun n=> .ptr n 0) (.cells j (dl t))
    |false=>je d fun j=>nw s (fun n=> .ptr n 0) (.cells j)
   |false=>io
  |none=>io
 | .store t a x=>match Be ty s t (ev s.f a) (ev s.f x) with
  |some s'=>dl (.any,s')
  |none=>io
 | .makeMap _ io=>nw s (fun n=> .mp n) .fx
 | .makeMap t (dl r)=>match ev s.f r,ty t with
  | .iv (.v (.int _ _)),dl ⟨.aR (.map _ _),_,_,_,_⟩=>nw s (fun n=> .mp n) .fx
  |_,_=>io
 | .range t x=>match ev s.f x,ty t with
  | .iv (.eP kc e _ _ m),dl ⟨.aR (.map _ _),_,_,_,_⟩=>nw s (fun n=> .ptr n 0) (.b5 kc e m [] io)
  |_,_=>io
 | .buildSlice t len parts=>match ty t with
  |some e=>match e.k with
   | .aR (.slice u)=>match ty u with
    |some eu=>match TR eu.zero.cells.size eu.size,TU 0 (len*eu.size),Vm (len*eu.size) 16777216 with
     |true,is,is=>match oE (fun i=>dl (i*eu.size,eu.size)) (xX len (cy eu.zero)) (parts.toList.map fun x=>(x.1,ev s.f x.2)) with
      |some d=>yI eu.size len d fun es=>nw s (fun n=> .sl n 0 len eu.size) (.row eu.size es)
      |none=>io
     |_,_,_=>io
    |none=>io
   |_=>io
  |none=>io
 |_=>io
section
variable {P:Program} {ty:Ty} {nt:NT} {s:AS}
theorem dZ{M:Mem}{N:Nm}{a:Act}{w:World}(hf:Fits M N s nt a w){obj:Obj}{o:AO}{d:Nm}(j:Ext M N (· <s.nx) s.h w M d (· <s.nx+1) ((s.nx,dl o)::s.h) (w.alloc obj))
  (hr:Rel M d (· <s.nx+1) ((s.nx,dl o)::s.h) (w.alloc obj)):Fits M d (newObj s o) nt a (w.alloc obj):=
 ⟨hr,hf.2.1.ext j,hf.2.2⟩
theorem OT.value{o:Oper}{s1 s':AS}{p:PV}(hp:putDst nt o p s1=dl s')
  (h: ∀M N a w,Fits M N s nt a w-> ∃x y j u,(execOp a.eval o).run P w= .ok (.value x) y∧Ext M N (· <s.nx) s.h w j u (· <s1.nx) s1.h y∧Fits j u s1 nt a y∧VR j u (· <s1.nx) p x):OT P nt o s (fun t=>t=s'):=by
 intro M N a w F K Z C;obtain⟨x,y,j,u,J,B,A,G⟩:=h M N a w F;unfold Oper.wp;rw[J];simp only[Oper.upon];cases hd:o.dst with
 |none=>
  have:=dx hp hd;subst this;exact C j u s' _ y B A I
 |some d=>
  obtain⟨D,rfl⟩:=dw hp hd;exact C j u {s1 with f:=(d,p)::s1.f} _ y B (A.put d p x D G) I
theorem OT.skip{o:Oper}{s1 s':AS}(hp:putDst nt o .any s1=dl s')
  (h: ∀M N a w,Fits M N s nt a w-> ∃j u x,(execOp a.eval o).run P w= .ok .skip j∧Ext M N (· <s.nx) s.h w u x (· <s1.nx) s1.h j∧Fits u x s1 nt a j):OT P nt o s (fun t=>t=s'):=by
 intro M N a w D K Z B;obtain⟨j,u,x,F,A,y⟩:=h M N a w D;unfold Oper.wp;rw[F];simp only[Oper.upon];cases hd:o.dst with
 |none=>
  have:=dx hp hd;subst this;exact B u x s' _ j A y I
 |some d=>
  obtain⟨C,rfl⟩:=dw hp hd;exact B u x {s1 with f:=(d,.any)::s1.f} _ j A (y.put d .any undef C (.any _)) I
theorem DQ(f0:bE P ty){t:TypeId}{p x:PV}{s1:AS}(h:Be ty s t p x=dl s1){M:Mem}{N:Nm}{a:Act}{w:World}(hf:Fits M N s nt a w){u y:Value}(hu:VR M N (· <s.nx) p u)(hy:VR M N (· <s.nx) x y):
  ∃w',(Instr.storeAt t u y).run P w= .ok () w'∧Ext M N (· <s.nx) s.h w M N (· <s1.nx) s1.h w'∧Fits M N s1 nt a w':=by
 unfold Be at h;split at h
 .rename_i e he;split at h
  .rename_i B i0;split at h
   .rename_i h1 h2;split at h
    .rename_i i a0;split at h
     .rename_i cs T0 d;split at h
      .rename_i c0;obtain⟨sf,sh,sn⟩:=s;simp only[dh,Tm]at h;subst h;simp only at d;cases hu with
       |ptr _ _ hU=>
        obtain⟨hl,hv⟩:=nD hy i0;have e0:y.cells.size=e.size:=by rw[<-hl];exact TM h1
        obtain⟨c,T,g1,g2,g3,g4,g5⟩:=hf.1.obj i _ d;have d0:a0+B.length<=c.size:=by rw[<-g3];exact Tk c0
        have G: ∀v∈y.cells.toList,v.oneCell'=is:=by
         intro v g0;obtain⟨j,hj⟩:=UB g0;have C:j<y.cells.toList.length:=(Tp.1 hj).1;have D:B[j]? =dl (B[j]'(by simp at C;omega)):=Ts _;have:=(hv j _ D).one (iK h2 j _ D);rw[Tl]at this;have b0:y.cells[j]? =dl v:=by simpa using hj
         rw[b0]at this;exact this
        have Y:=run_storeCells_at P (N.aC i) a0 T y.cells.toList 0 c w g1 (by simp;omega) G;refine⟨w.setRow (N.aC i) (c.toList.take (a0+0)++y.cells.toList++c.toList.drop (a0+0+y.cells.toList.length)).toArray,?_,?_⟩
        .have A:=a7 (w:=w) (f0 t e he);simp only[Instr.storeAt,Instr.sureAddr,pure_bind,storeVar,Sem.run_bind,A,Result.andThen_ok,e0,ne_eq,not_true_eq_false,if_false,Y]
        .have J:=setRow_heap w (N.aC i) c (c.toList.take (a0+0)++y.cells.toList++c.toList.drop (a0+0+y.cells.toList.length)).toArray T (0,0) g1;have F: ∀b,b≠N.aC i->(w.setRow (N.aC i) (c.toList.take (a0+0)++y.cells.toList++c.toList.drop (a0+0+y.cells.toList.length)).toArray).heap[b]? =w.heap[b]? :=by
          intro b hb;simp only[World.setRow,T8];rw[be (fun e=>hb e.symm)]
         have:=hf.1.write d I (w.setRow (N.aC i) (c.toList.take (a0+0)++y.cells.toList++c.toList.drop (a0+0+y.cells.toList.length)).toArray) (.cells (setCells cs a0 B) T0) I I I (by simp) F
          ⟨_,T,J,by simp;omega,by rw[da];simp;omega,fun j q hq=>?_,g5⟩
         .exact⟨this.1,this.2,hf.2.1,hf.2.2⟩
         .rcases gZ cs a0 B j q hq with⟨k1,Z⟩|⟨k1,Z⟩
          .have:=hv _ _ Z;have C:j-a0<B.length:=(Tp.1 Z).1;rw[Tl]at this ⊢;have e1:(c.toList.take (a0+0)++y.cells.toList++c.toList.drop (a0+0+y.cells.toList.length)).toArray[j]? =y.cells[j-a0]? :=by
            simp only[Ul];rw[TG (by simp;omega),TI (by simp;omega)];simp only[TY,VX,T5];congr 1;omega
           rw[e1];exact this
          .have:=g4 _ _ Z;rw[Tl]at this ⊢;have e1:(c.toList.take (a0+0)++y.cells.toList++c.toList.drop (a0+0+y.cells.toList.length)).toArray[j]? =c[j]? :=by
            simp only[Ul];rcases k1 with k1|k1
            .rw[Tz,TG (by simp;omega),T4,am (by omega),T5]
            .rw[TI (by simp;omega),Uz,T5];congr 1;simp;omega
           rw[e1];exact this
      .cases h
     .cases h
    .cases h
   .cases h
  .cases h
 .cases h
theorem Gq(D:bE P ty){o:Oper}{p:PV}{s1 s':AS}(h:Gr ty s o.op=dl (p,s1))(hp:putDst nt o p s1=dl s'):OT P nt o s (fun t=>t=s'):=by
 cases ho:o.op with
 |alloc t=>
  rw[ho]at h;simp only[Gr,uw]at h;split at h
  .rename_i e he;obtain⟨Y,f0,h⟩: ∃Y,y2 Y t∧dl (PV.ptr s.nx 0,newObj s (.cells (cy e.zero) Y))=dl (p,s1):=by
    split at h
    .exact⟨dl t,fun x J=>by cases J;rfl,by rw[<-h,dh]⟩
    .exact⟨io,.none _,by rw[<-h,dh]⟩
   simp only[Tm,TC]at h;obtain⟨rfl,rfl⟩:=h;refine OT.value hp fun M N a w B=>?_
   obtain⟨A,F,h2,h3,C,G⟩:=B.1.alloc (.cells e.zero.cells t) (.cells (cy e.zero) Y) e.zero.cells.size (fun A g1 g2 g3=>
    ⟨e.zero.cells,t,by rw[g1];exact heap_alloc_new w _,g2.symm,(ft (M:=M) (N:=A) (U:=(· <s.nx+1)) e.zero).1,(ft e.zero).2,f0⟩)
   refine⟨.pointer (dl ⟨w.heap.size,0,io⟩),_,M,A,?_,C,dZ B C G,?_⟩
   .simp only[execOp,ho];have hz:=dC (w:=w) (D t e he);simp[Instr.alloc,hz,newVar,newRow]
   .have:=VR.ptr (M:=M) (N:=A) (U:=(· <s.nx+1)) s.nx 0 (by omega);rw[F]at this;exact this
  .cases h
 |box t x=>
  rw[ho]at h;simp only[Gr,uw]at h;split at h
  .rename_i cs c0;split at h
   .rename_i z0;obtain⟨Y,f0,h⟩: ∃Y,y2 Y t∧dl (PV.ptr s.nx 0,newObj s (.cells cs Y))=dl (p,s1):=by
     split at h
     .exact⟨dl t,fun x J=>by cases J;rfl,by rw[<-h,dh]⟩
     .exact⟨io,.none _,by rw[<-h,dh]⟩
    simp only[Tm,TC]at h;obtain⟨rfl,rfl⟩:=h;refine OT.value hp fun M N a w B=>?_;obtain⟨hl,hv⟩:=nD (aJ B.2.1 x) c0
    obtain⟨A,F,h2,h3,C,G⟩:=B.1.alloc (.cells (a.eval x).cells t) (.cells cs Y) (a.eval x).cells.size (fun A g1 g2 g3=>
     ⟨(a.eval x).cells,t,by rw[g1];exact heap_alloc_new w _,g2.symm,hl,fun j q hq=>(hv j q hq).mono (.refl _) g3 (fun i hi=>by omega),f0⟩)
    refine⟨.pointer (dl ⟨w.heap.size,0,io⟩),_,M,A,?_,C,dZ B C G,?_⟩
    .simp only[execOp,ho];simp[Instr.box,newVar,newRow]
    .have:=VR.ptr (M:=M) (N:=A) (U:=(· <s.nx+1)) s.nx 0 (by omega);rw[F]at this;exact this
   .cases h
  .cases h
 |store t a x=>
  rw[ho]at h;simp only[Gr,uw]at h;split at h
  .rename_i s2 hs;simp only[Tm,TC]at h;obtain⟨rfl,rfl⟩:=h;refine OT.skip hp fun M N b w B=>?_;obtain⟨w',F,h2,h3⟩:=DQ (P:=P) D hs B (aJ B.2.1 a) (aJ B.2.1 x);refine⟨w',M,N,?_,h2,h3⟩;simp only[execOp,ho];simp[F]
  .cases h
 |makeMap t r=>
  rw[ho]at h;cases r with
  |some r=>
   simp only[Gr,uw]at h;split at h
   .rename_i q n _ _ _ _ _ _ hr he;have hu:=(D _ _ he).2.1.1;simp only[Tm,TC]at h;obtain⟨rfl,rfl⟩:=h;refine OT.value hp fun M N a w B=>?_
    obtain⟨A,F,h2,h3,C,G⟩:=B.1.alloc (.map #[] 0) .fx 0 (fun A g1 g2 g3=>
     (by rw[g1];exact heap_alloc_new w _:(w.alloc (.map #[] 0)).heap[A.aC s.nx]? =_))
    have g0:=aJ B.2.1 r;rw[hr]at g0;have a1:a.eval r= .int q n:=by
     generalize a.eval r=y at g0;cases g0 with
     |iv _ _ h=>cases h;rfl
    refine⟨.map (dl w.heap.size),_,M,A,?_,C,dZ B C G,?_⟩
    .simp only[execOp,ho];simp[Instr.makeMap,a1,run_underlying hu,asInt,asIntOf]
    .have:=VR.mp (M:=M) (N:=A) (U:=(· <s.nx+1)) s.nx (by omega);rw[F]at this;exact this
   .cases h
  |none=>
   simp only[Gr,uw,Tm,TC]at h;obtain⟨rfl,rfl⟩:=h;refine OT.value hp fun M N a w B=>?_
   obtain⟨A,F,h2,h3,C,G⟩:=B.1.alloc (.map #[] 0) .fx 0 (fun A g1 g2 g3=>
    (by rw[g1];exact heap_alloc_new w _:(w.alloc (.map #[] 0)).heap[A.aC s.nx]? =_))
   refine⟨.map (dl w.heap.size),_,M,A,?_,C,dZ B C G,?_⟩
   .simp only[execOp,ho];simp[Instr.makeMap]
   .have:=VR.mp (M:=M) (N:=A) (U:=(· <s.nx+1)) s.nx (by omega);rw[F]at this;exact this
 |range t x=>
  rw[ho]at h;simp only[Gr,uw]at h;split at h
  .rename_i V kc e z zv m kt et _ _ _ _ r0 he;have hu:=(D _ _ he).2.1.1;simp only[Tm,TC]at h;obtain⟨rfl,rfl⟩:=h;refine OT.value hp fun M N a w B=>?_;have J:=aJ B.2.1 x;rw[r0]at J;generalize hv:a.eval x=y at J
   cases J with
   |iv _ _ hi=>cases hi with
    |eP _ _ _ _ _ b ents clock hb hs hk hv' hz hi' hc=>
     obtain⟨A,F,h2,h3,C,G⟩:=B.1.alloc (.mapIter (dl b) clock #[] clock) (.b5 kc e m [] io) 0 (fun A g1 g2 g3=>
      .inr ⟨b,ents,clock, #[],by rw[g1];exact heap_alloc_new w _,hb,⟨hs,hk,hv',hi',hc⟩,rfl,by simp,Us,by simp⟩)
     have a0:w.heap[b]? =dl (.map ents clock):=B.1.ey _ _ hb;refine⟨.pointer (dl ⟨w.heap.size,0,io⟩),_,M,A,?_,C,dZ B C G,?_⟩
     .simp only[execOp,ho,hv];simp[Instr.range,run_underlying hu,getObj,Sem.run,a0,Result.andThen]
     .have:=VR.ptr (M:=M) (N:=A) (U:=(· <s.nx+1)) s.nx 0 (by omega);rw[F]at this;exact this
  .cases h
 |buildSlice t len parts=>
  rw[ho]at h;simp only[Gr,uw]at h;split at h
  .rename_i e he;split at h
   .rename_i u hk;split at h
    .rename_i d k0;split at h
     .rename_i o0 p0 q0;split at h
      .rename_i cs c0;rw[xq]at h;simp only[Tm,TC]at h;obtain⟨rfl,rfl⟩:=h;have j0:d.zero.cells.size=d.size:=TM o0;have m0:0<len*d.size:=Tk p0;have f1:len*d.size<=16777216:=Tk q0;have i0:0<d.size:=Nat.pos_of_ne_zero fun e=>by simp[e]at m0
       have v0:0<len:=Nat.pos_of_ne_zero fun e=>by simp[e]at m0
       have e1:len<=len*d.size:=Nat.le_mul_of_pos_right _ i0;have b0:=(D t e he).2.1;rw[hk]at b0;refine OT.value hp fun M N a w B=>?_;have d0:(cy d.zero).length=d.size:=by rw[(ft (M:=M) (N:=N) (U:=(· <s.nx)) d.zero).1,j0]
       obtain⟨e0,h3,C⟩:=qF (M:=M) (N:=N) (U:=(· <s.nx)) (vals:=(parts.map fun x=>(x.1,a.eval x.2)).toList) (ys:=(Wu (len*d.size)).map (d.zero.cells[· % d.zero.cells.size]!)) c0 (by simp) (fun j x y J hy=>by
        rw[Tu,Tw]at J;obtain⟨z,hz,rfl⟩:=J;have d1:parts[j]? =dl z:=by simpa using hz
        have:dl (z.1,a.eval z.2)=dl y:=by rw[<-hy];simp[d1]
        simp only[Tm]at this;subst this
        exact⟨rfl,aJ B.2.1 z.2⟩) (by
        refine⟨by rw[ky,d0];simp,fun j p hj=>?_⟩;have G:=zu _ _ _ _ hj;have s0:j<len*d.size:=by
         have:=(Tp.1 hj).1;rwa[ky,d0]at this
        rw[d0]at G;have h6:=(ft (M:=M) (N:=N) (U:=(· <s.nx)) d.zero).2 _ _ G;have h7:((Wu (len*d.size)).map (d.zero.cells[· % d.zero.cells.size]!)).getD j undef=d.zero.cells.getD (j % d.size) undef:=by
         have hm:j % d.size<d.zero.cells.size:=by rw[j0];exact Nat.mod_lt _ i0
         have J:(Wu (len*d.size))[j]? =dl j:=by simp[s0]
         rw[Tl,Vw,J];simp only[Ut,UI,j0];rw[Tl,getElem!_pos d.zero.cells (j % d.size) hm,Uq hm];rfl
        rw[h7];exact h6)
       have Z:cs.length=len*d.size:=by
        have:(xX len (cy d.zero)).length=cs.length:=by
         have:=qG c0;exact this.symm
        rw[<-this,ky,d0]
       have l0:e0.size=len*d.size:=by rw[<-C.1,Z]
       obtain⟨A,F,h2,h8,h9,n0⟩:=B.1.alloc (.cells e0 u) (.row d.size (mo d.size len cs)) e0.size (fun A g1 g2 g3=>
        .inr ⟨i0,e0,u,by rw[g1];exact heap_alloc_new w _,g2.symm,by rw[oI,l0];exact Tv _,fun k e hk=>(mn _ _ _ _ _ Z hk).1,fun k e j p hk hj=>by
         have t0:j<d.size:=by rw[<-(mn _ _ _ _ _ Z hk).1];exact(Tp.1 hj).1
         have:=(mn _ _ _ _ _ Z hk).2 j t0;rw[hj]at this
         exact(C.2 _ _ this.symm).mono (.refl _) g3 (fun i hi=>by omega)⟩)
       refine⟨.slice (dl ⟨w.heap.size,0,io⟩) len len,_,M,A,?_,h9,dZ B h9 n0,?_⟩
       .simp only[execOp,ho];have hz:=dC (w:=w) (D u d k0);have b1:=a7 (w:=w) (D u d k0);have w0: ¬len*d.size=0:=by omega
        have x0: ¬len*d.size>2 ^ 24:=by omega
        simp only[Instr.buildSlice,Sem.run_bind,run_underlying b0.1,Result.andThen_ok,b1,be x0,be w0,hz,Sem.run_pure];rw[h3];simp[newRow]
       .have:=VR.sl (M:=M) (N:=A) (U:=(· <s.nx+1)) s.nx 0 len d.size len (by omega) v0 (Tv _) (by simp only[maxLen];omega) (by rw[h2,l0];simp);rw[F,U6]at this;exact this
      .cases h
     .cases h
    .cases h
   .cases h
  .cases h
 |_=>rw[ho]at h;simp[Gr]at h
end
mutual
def PV.bZ(σ:Nat->Nat):PV->PV
 | .iv x=> .iv x
 | .agg cs=> .agg (db σ cs)
 | .aZ cs=> .aZ (db σ cs)
 | .ptr i off=> .ptr (σ i) off
 | .c6 i sz k off=> .c6 (σ i) sz k off
 | .fj z i=> .fj z (σ i)
 | .pJ i o n=> .pJ (σ i) o n
 | .sl i off len sz=> .sl (σ i) off len sz
 | .mp i=> .mp (σ i)
 | .cN fn first caps=> .cN fn (db σ first) (db σ caps)
 | .kb b=> .kb b
 | .any=> .any
def db(σ:Nat->Nat):List PV->List PV
 | []=> []
 |p::r=>PV.bZ σ p::db σ r
end
theorem bN(σ:Nat->Nat): ∀l:List PV,db σ l=l.map (PV.bZ σ)
 | []=>rfl
 |p::r=>by simp[db,bN σ r]
def AO.bZ(σ:Nat->Nat):AO->AO
 | .cells cs T=> .cells (db σ cs) T
 | .row sz es=> .row sz (es.map (db σ))
 | .bA l T=> .bA l T
 | .fx=> .fx
 | .map kc ev z zv dv m=> .map kc ev z zv dv m
 | .b5 kc ev m l cu=> .b5 kc ev m l cu
 | .dQ s p=> .dQ s p
 | .om kc e z zv dv m bs c=> .om kc e z zv dv m bs c
 | .iZ q c l=> .iZ (q.bZ σ) c l
 | .fy l c f=> .fy l c (f.map fun x=>(x.1,x.2.bZ σ))
theorem uh(σ:Nat->Nat): ∀(f:AF) (d:Nat),AF.get (f.map fun x=>(x.1,x.2.bZ σ)) d=(AF.get f d).bZ σ
 | [],_=>rfl
 |(i,p)::r,d=>by
  rw[TD,AF.ax,AF.ax,uh σ r d];split<;>rfl
theorem AO.cj(σ:Nat->Nat)(o:AO):(o.bZ σ).real=o.real:=by
 cases o with
 |row sz es=>cases es<;>rfl
 |bA l T=>cases l<;>rfl
 |_=>rfl
def xY(σ:Nat->Nat):AH->AH
 | []=> []
 |(i,io)::r=>(σ i,io)::xY σ r
 |(i,dl o)::r=>(σ i,dl (o.bZ σ))::xY σ r
def Nm.comp(N:Nm)(σ:Nat->Nat):Nm:={aC:=fun i=>N.aC (σ i),ext:=fun i=>N.ext (σ i)}
section
variable {M:Mem} {N:Nm} {U:Nat->Prop} {σ:Nat->Nat}
theorem VR.bZ{p:PV}{x:Value}(h:VR M (N.comp σ) (fun i=>U (σ i)) p x):VR M N U (p.bZ σ) x:=by
 induction h with
 |iv x y h=>exact .iv x y h
 |agg cs ys hl hr ih=>
  refine .agg _ _ (by simpa[bN]using hl) (fun j p d=>?_);rw[bN,Tu,Tw]at d;obtain⟨q,u,rfl⟩:=d;exact ih j q u
 |aZ cs ys hl hr ih=>
  refine .aZ _ _ (by simpa[bN]using hl) (fun j p d=>?_);rw[bN,Tu,Tw]at d;obtain⟨q,u,rfl⟩:=d;exact ih j q u
 |ptr i off h=>exact .ptr _ _ h
 |c6 i sz k off h=>exact .c6 _ _ _ _ h
 |fj z i h=>exact .fj _ _ h
 |pJ i o n h=>exact .pJ _ _ _ h
 |sl i off len sz cap h h0 hl hc he=>exact .sl _ _ _ _ _ h h0 hl hc he
 |lK i sz h=>exact .lK _ _ h
 |sle i sz cap h hc he=>exact .sle _ _ _ h hc he
 |mp i h=>exact .mp _ h
 |cN fn first caps f' c' h1 h2 hr1 hr2 ih1 ih2=>
  refine .cN _ _ _ _ _ (by simpa[bN]using h1) (by simpa[bN]using h2) (fun j p d=>?_) (fun j p d=>?_)
  .rw[bN,Tu,Tw]at d;obtain⟨q,u,rfl⟩:=d;exact ih1 j q u
  .rw[bN,Tu,Tw]at d;obtain⟨q,u,rfl⟩:=d;exact ih2 j q u
 |kb b=>exact .kb b
 |any x=>exact .any x
theorem VR.pM: ∀{q:PV} {x:Value},VR M N U q x-> ∀{p:PV},q=p.bZ σ->VR M (N.comp σ) (fun i=>U (σ i)) p x:=by
 intro q x h
 induction h with
 |iv x y h=>intro p d;cases p<;>simp[PV.bZ]at d;subst d;exact .iv _ _ h
 |agg cs ys hl hr ih=>
  intro p d;cases p<;>simp[PV.bZ]at d;subst d;refine .agg _ _ (by simpa[bN]using hl) (fun j p u=>ih j (p.bZ σ) (by rw[bN,Tu,u];rfl) I)
 |aZ cs ys hl hr ih=>
  intro p d;cases p<;>simp[PV.bZ]at d;subst d;refine .aZ _ _ (by simpa[bN]using hl) (fun j p u=>ih j (p.bZ σ) (by rw[bN,Tu,u];rfl) I)
 |ptr i off h=>intro p d;cases p<;>simp[PV.bZ]at d;obtain⟨rfl,rfl⟩:=d;exact VR.ptr (N:=N.comp σ) (U:=fun i=>U (σ i)) _ _ h
 |c6 i sz k off h=>intro p d;cases p<;>simp[PV.bZ]at d;obtain⟨rfl,rfl,rfl,rfl⟩:=d;exact VR.c6 (N:=N.comp σ) (U:=fun i=>U (σ i)) _ _ _ _ h
 |fj z i h=>intro p d;cases p<;>simp[PV.bZ]at d;obtain⟨rfl,rfl⟩:=d;exact VR.fj (N:=N.comp σ) (U:=fun i=>U (σ i)) _ _ h
 |pJ i o n h=>intro p d;cases p<;>simp[PV.bZ]at d;obtain⟨rfl,rfl,rfl⟩:=d;exact VR.pJ (N:=N.comp σ) (U:=fun i=>U (σ i)) _ _ _ h
 |sl i off len sz cap h h0 hl hc he=>intro p d;cases p<;>simp[PV.bZ]at d;obtain⟨rfl,rfl,rfl,rfl⟩:=d;exact VR.sl (N:=N.comp σ) (U:=fun i=>U (σ i)) _ _ _ _ _ h h0 hl hc he
 |lK i sz h=>intro p d;cases p<;>simp[PV.bZ]at d;obtain⟨rfl,rfl,rfl,rfl⟩:=d;exact VR.lK (N:=N.comp σ) (U:=fun i=>U (σ i)) _ _ h
 |sle i sz cap h hc he=>intro p d;cases p<;>simp[PV.bZ]at d;obtain⟨rfl,rfl,rfl,rfl⟩:=d;exact VR.sle (N:=N.comp σ) (U:=fun i=>U (σ i)) _ _ _ h hc he
 |mp i h=>intro p d;cases p<;>simp[PV.bZ]at d;subst d;exact VR.mp (N:=N.comp σ) (U:=fun i=>U (σ i)) _ h
 |cN fn first caps f' c' h1 h2 hr1 hr2 ih1 ih2=>
  intro p d;cases p<;>simp[PV.bZ]at d;obtain⟨rfl,rfl,rfl⟩:=d;refine .cN _ _ _ _ _ (by simpa[bN]using h1) (by simpa[bN]using h2) (fun j p u=>ih1 j (p.bZ σ) (by rw[bN,Tu,u];rfl) I) (fun j p u=>ih2 j (p.bZ σ) (by rw[bN,Tu,u];rfl) I)
 |kb b=>intro p d;cases p<;>simp[PV.bZ]at d;subst d;exact .kb _
 |any x=>intro p d;cases p<;>simp[PV.bZ]at d;exact .any _
theorem OR.bZ{w:World}{i:Nat}{o:AO}(h:OR M (N.comp σ) (fun i=>U (σ i)) w i o):OR M N U w (σ i) (o.bZ σ):=by
 cases o with
 |cells cs T0=>
  obtain⟨c,T,u,x,A,B,C⟩:=h;refine⟨c,T,u,x,by simpa[bN]using A,fun j p F=>?_,C⟩;rw[bN,Tu,Tw]at F;obtain⟨q,Y,rfl⟩:=F;exact(B j q Y).bZ
 |row sz es=>
  rcases h with rfl|⟨J,c,T,u,x,A,B,C⟩
  .exact .inl I
  refine .inr ⟨J,c,T,u,x,by simpa using A,fun k e D=>?_,fun k e j p D F=>?_⟩
  .rw[Tu,Tw]at D;obtain⟨G,y,rfl⟩:=D;rw[bN,T2];exact B k G y
  .rw[Tu,Tw]at D;obtain⟨G,y,rfl⟩:=D;rw[bN,Tu,Tw]at F;obtain⟨q,Y,rfl⟩:=F;exact(C k G j q y Y).bZ
 |bA l T=>exact h
 |fx=>exact h
 |map kc ev z zv dv m=>exact h
 |b5 kc ev m l cu=>exact h
 |dQ s p=>exact h
 |om kc ev z zv dv m bs c=>exact h
 |iZ q c l=>obtain⟨b,u,x⟩:=h;exact⟨b,u.bZ,x⟩
 |fy l c f=>
  obtain⟨J,r,u,x,A,B,C,Z,h7,h8⟩:=h;exact⟨J,r,u,x,A,B,C,Z,h7,fun d=>by rw[uh];exact(h8 d).bZ⟩
theorem OR.pM{w:World}{i:Nat}{o:AO}(h:OR M N U w (σ i) (o.bZ σ)):OR M (N.comp σ) (fun i=>U (σ i)) w i o:=by
 cases o with
 |cells cs T0=>
  obtain⟨c,T,u,x,y,A,B⟩:=h;exact⟨c,T,u,x,by simpa[bN]using y,fun j p F=>(A j (p.bZ σ) (by rw[bN,Tu,F];rfl)).pM I,B⟩
 |row sz es=>
  rcases h with h|⟨C,c,T,u,x,y,A,B⟩
  .exact .inl (by simpa using h)
  refine .inr ⟨C,c,T,u,x,by simpa using y,fun k e D=>?_,fun k e j p D F=>?_⟩
  .have:=A k (db σ e) (by rw[Tu,D];rfl);simpa[bN]using this
  .exact(B k (db σ e) j (p.bZ σ) (by rw[Tu,D];rfl) (by rw[bN,Tu,F];rfl)).pM I
 |bA l T=>exact h
 |fx=>exact h
 |map kc ev z zv dv m=>exact h
 |b5 kc ev m l cu=>exact h
 |dQ s p=>exact h
 |om kc ev z zv dv m bs c=>exact h
 |iZ q c l=>obtain⟨b,u,x⟩:=h;exact⟨b,u.pM I,x⟩
 |fy l c f=>
  obtain⟨C,r,u,x,y,A,B,G,J,Y⟩:=h;exact⟨C,r,u,x,y,A,B,G,J,fun d=>(Y d).pM (uh σ f d)⟩
end
def sig(L:List Nat)(n:Nat)(i:Nat):Nat:=bif TU i L.length then L.getD i 0 else n+(i-L.length)
theorem jj{L:List Nat}{n i:Nat}(h:i<L.length):sig L n i=L[i]:=by
 have:TU i L.length=is:=Uu h;simp[sig,this,h]
theorem oT{L:List Nat}{n i:Nat}(h:L.length<=i):sig L n i=n+(i-L.length):=by
 have:TU i L.length=jp:=by
  cases hb:TU i L.length with
  |false=>rfl
  |true=>have:=Tk hb;omega
 simp[sig,this]
theorem ug{σ:Nat->Nat}: ∀(h:AH) (j:Nat) (o:AO),(xY σ h).get j=dl o->(∀i k,i∈h.map Ur->σ i=σ k->i=k)-> ∃i p,j=σ i∧h.get i=dl p∧o=p.bZ σ
 | [],j,o,hj,_=>by simp[xY,AH.get]at hj
 |(i,io)::r,j,o,hj,hi=>by
  simp only[xY]at hj;rw[AH.ax]at hj;split at hj
  .cases hj
  .rename_i d;obtain⟨k,p,u,x,y⟩:=ug r j o hj (fun a b A=>hi a b (TH _ A));refine⟨k,p,u,?_,y⟩;rw[AH.ax,be (fun e=>d (by rw[u,e]))];exact x
 |(i,dl q)::r,j,o,hj,hi=>by
  simp only[xY]at hj;rw[AH.ax]at hj;split at hj
  .rename_i B;exact⟨i,q,B,by rw[AH.ax,am I],by simpa using hj.symm⟩
  .rename_i d;obtain⟨k,p,u,x,y⟩:=ug r j o hj (fun a b A=>hi a b (TH _ A));refine⟨k,p,u,?_,y⟩;rw[AH.ax,be (fun e=>d (by rw[u,e]))];exact x
def dD:Nat->List AO->AH
 |_,[]=> []
 |n,o::r=>(n,dl o)::dD (n+1) r
theorem rC: ∀(os:List AO) (n i:Nat),(dD n os).get i=if n<=i then os[i-n]? else io
 | [],n,i=>by simp[dD,AH.get]
 |o::r,n,i=>by
  simp only[dD];rw[AH.ax,rC r (n+1) i];by_cases h:i=n
  .subst h;simp
  .by_cases d:n<=i
   .rw[be h,am (by omega),am d,show i-n=(i-(n+1))+1 by omega];simp
   .rw[be h,be (by omega),be d]
def lJ(P:Program)(k:FuncId):Prop:= ∀(args:Array Value) (w:World),(callFunc k args).run P w= .ok (.enter k args) w
theorem bQ {P:Program} {k:FuncId} {fn:Func} {c:Code} (hf:P.funcs[k]? =dl fn) (hb:fn.body=dl c) (hn:(fn.name== "runtime.NumGoroutine")=jp):lJ P k:=by
 intro args w;have d: ¬fn.name= "runtime.NumGoroutine" :=by simpa using hn
 simp[callFunc,program,Sem.run,hf,hb,d]
def Fn(P:Program)(k:FuncId)(args:List PV)(os:List AO)(R:PV->AH->Nat->Prop):Prop:=
 lJ P k∧ ∀M N w (vs:List Value),Rel M N (· <os.length) (dD 0 os) w->args.length=vs.length->(∀(j:Nat) (p:PV),args[j]? =dl p->VR M N (· <os.length) p (vs.getD j undef))->
  Calls P k vs.toArray w fun e B=> ∃x u y r A d,e= .returned x∧R r A d∧Ext M N (· <os.length) (dD 0 os) w u y (· <d) A B∧Rel u y (· <d) A B∧VR u y (· <d) r x
def EG:List Nat->AH
 | []=> []
 |j::r=>(j,io)::EG r
def AH.keys:AH->List Nat
 | []=> []
 |(i,_)::r=>i::AH.keys r
theorem AH.get_append: ∀(a b:AH) (j:Nat),AH.get (a++b) j=if j∈a.keys then a.get j else b.get j
 | [],b,j=>by simp[AH.keys]
 |(i,o)::r,b,j=>by
  rw[TV,AH.ax,AH.ax,AH.get_append r b j];by_cases h:j=i
  .simp[h,AH.keys]
  .simp[h,AH.keys]
theorem xn: ∀L:List Nat,(EG L).keys=L
 | []=>rfl
 |j::r=>by simp[EG,AH.keys,xn r]
theorem AN: ∀(L:List Nat) (j:Nat),(EG L).get j=io
 | [],_=>rfl
 |i::r,j=>by rw[EG,AH.ax,AN r j];split<;>rfl
theorem Cv{L:List Nat}{n:Nat}(hnd:L.Nodup)(u: ∀j∈L,j<n): ∀i k,sig L n i=sig L n k->i=k:=by
 intro i k h;rcases Un i L.length with hi|hi<;>rcases Un k L.length with hk|hk
 .rw[jj hi,jj hk]at h;have x:=Ws.1 hnd;rcases Nat.lt_trichotomy i k with d|he|hgt
  .exact absurd h (x i k hi hk d)
  .exact he
  .exact absurd h.symm (x k i hk hi hgt)
 .rw[jj hi,oT hk]at h;have:=u _ (Uw hi);omega
 .rw[oT hi,jj hk]at h;have:=u _ (Uw hk);omega
 .rw[oT hi,oT hk]at h;omega
section
variable {P:Program} {nt:NT} {s:AS}
def aO(s:AS)(L:List Nat)(d:AH)(j:Nat):AS:={f:=s.f,h:=xY (sig L s.nx) d++(EG L++s.h),nx:=s.nx+(j-L.length)}
theorem Fn.calls{k:FuncId}{args:List PV}{os:List AO}{R:PV->AH->Nat->Prop}(hc:Fn P k args os R){L:List Nat}(hnd:L.Nodup)(hL: ∀j∈L,j<s.nx)
  (i0:L.map s.h.get=os.map fun o=>dl (o.bZ (sig L s.nx))) {M:Mem} {N:Nm} {w:World} (hr:Rel M N (· <s.nx) s.h w) {vs:List Value} (hl:args.length=vs.length)
  (hv: ∀(j:Nat) (p:PV),args[j]? =dl p->VR M N (· <s.nx) (p.bZ (sig L s.nx)) (vs.getD j undef)):
  Calls P k vs.toArray w fun e w'=> ∃x M' N' r h' Y,e= .returned x∧R r h' Y∧Ext M N (· <s.nx) s.h w M' N' (· <(aO s L h' Y).nx) (aO s L h' Y).h w'∧
   Rel M' N' (· <(aO s L h' Y).nx) (aO s L h' Y).h w'∧VR M' N' (· <(aO s L h' Y).nx) (r.bZ (sig L s.nx)) x:=by
 have b0:L.length=os.length:=by simpa using congrArg Vp i0
 have hU:(fun i=>sig L s.nx i<s.nx)=(· <os.length):=by
  funext i
  apply propext;rcases Un i L.length with hi|hi
  .rw[jj hi];exact⟨fun _=>by omega,fun _=>hL _ (Uw hi)⟩
  .rw[oT hi];omega
 have e0: ∀i (hi:i<L.length),s.h.get L[i]=(os[i]?).map (AO.bZ (sig L s.nx)):=by
  intro i hi;have:=congrArg (fun l=>l[i]?) i0;simp only[Tu,Ts hi,Ut]at this;have F:os[i]? =dl (os[i]'(by omega)):=Ts (by omega);rw[F]at this ⊢;simpa using this
 have y: ∀i o,(dD 0 os).get i=dl o->i<L.length∧s.h.get (sig L s.nx i)=dl (o.bZ (sig L s.nx)):=by
  intro i o hi;rw[rC,am (TB _),V4]at hi;have c0:i<L.length:=by rw[b0];exact(Tp.1 hi).1
  refine⟨c0,?_⟩;rw[jj c0,e0 i c0,hi];rfl
 have g0:Rel M (N.comp (sig L s.nx)) (· <os.length) (dD 0 os) w:=by
  refine⟨hr.ey,fun i o hi=>by rw[<-b0];exact(y i o hi).1,fun i o hi d=>hr.dI _ _ (y i o hi).2 ((AO.cj _ o).trans d),fun i o hi=>?_,fun i j o p hi A F Z B=>?_⟩
  .have:=OR.pM (hr.obj _ _ (y i o hi).2);rw[hU]at this;exact this
  .exact Cv hnd hL i j (hr.inj _ _ _ _ (y i o hi).2 (y j p A).2 ((AO.cj _ o).trans F) ((AO.cj _ p).trans Z) B)
 refine(hc.2 M (N.comp (sig L s.nx)) w vs g0 hl (fun j p Z=>by have:=(hv j p Z).pM I;rw[hU]at this;exact this)).mono ?_;rintro e w' ⟨x,M',N',r,h',Y,rfl,hR,hx,hr',hvr⟩;have k0:os.length<=Y:=UR fun c0=>by have:=hx.ule Y c0;omega
 let N2:Nm:={aC:=fun j=>if j<s.nx then N.aC j else N'.aC (L.length+(j-s.nx)),ext:=fun j=>if j<s.nx then N.ext j else N'.ext (L.length+(j-s.nx))}
 have G:N.agree N2 (· <s.nx):=⟨fun i hi=>by simp[N2,hi],fun i hi=>by simp[N2,hi]⟩
 have J: ∀i,N2.aC (sig L s.nx i)=N'.aC i∧N2.ext (sig L s.nx i)=N'.ext i:=by
  intro i;rcases Un i L.length with hi|hi
  .have h1:sig L s.nx i<s.nx:=by rw[jj hi];exact hL _ (Uw hi)
   have u:=hx.nm.aC i (by omega);have D:=hx.nm.ext i (by omega);simp only[Nm.comp]at u D;simp[N2,h1,u,D]
  .rw[oT hi];have h1: ¬s.nx+(i-L.length)<s.nx:=by omega
   have u:L.length+(s.nx+(i-L.length)-s.nx)=i:=by omega
   constructor<;>simp only[N2,be h1,u]
 have a0:N'.agree (N2.comp (sig L s.nx)) (· <Y):=⟨fun i _=>(J i).1,fun i _=>(J i).2⟩
 have d0: ∀i,i<Y->sig L s.nx i<s.nx+(Y-L.length):=by
  intro i hi;rcases Un i L.length with h1|h1
  .rw[jj h1];have:=hL _ (Uw h1);omega
  .rw[oT h1];omega
 have C: ∀j o,(aO s L h' Y).h.get j=dl o->(∃i p,j=sig L s.nx i∧h'.get i=dl p∧o=p.bZ (sig L s.nx))∨(j∉L∧s.h.get j=dl o):=by
  intro j o A;simp only[aO]at A;rw[AH.get_append]at A;split at A
  .exact .inl (ug h' j o A (fun i k _ h=>Cv hnd hL i k h))
  .rw[AH.get_append]at A;split at A
   .rw[AN]at A;cases A
   .rename_i hd;rw[xn]at hd;exact .inr ⟨hd,A⟩
 have f0: ∀j o,j∉L->s.h.get j=dl o->o.real=is->w'.heap[N.aC j]? =w.heap[N.aC j]? :=by
  intro j o A F d;refine hx.eU _ (hr.lt F d) (fun i p hi Z he=>?_);obtain⟨h1,u⟩:=y i p hi;have:=hr.inj _ _ _ _ u F ((AO.cj _ p).trans Z) d he;rw[jj h1]at this;exact A (this▸Uw h1)
 refine⟨x,M',N2,r,h',Y,rfl,hR,?_,?_,?_⟩
 .refine⟨hx.os,hx.tape,hx.output,hx.size,fun b hb j0=>hx.eU b hb (fun i o hi F he=>j0 _ _ (y i o hi).2 ((AO.cj _ o).trans F) he),hx.mz,fun b c h1 u=>?_,G,fun i hi=>by simp only[aO];omega,fun j o A d=>?_⟩
  .rcases hx.eT b c h1 u with D|⟨i,o,D,F,h4⟩
   .exact .inl D
   .exact .inr ⟨_,_,(y i o D).2,(AO.cj _ o).trans F,h4⟩
  .rcases C j o A with⟨i,p,rfl,h1,rfl⟩|⟨h1,u⟩
   .rw[AO.cj]at d;rw[(J i).1];rcases hx.dY i p h1 d with D|⟨k,q,D,hq,h4⟩
    .exact .inl D
    .exact .inr ⟨_,_,(y k q D).2,(AO.cj _ q).trans hq,h4⟩
   .exact .inr ⟨j,o,u,d,(G.aC j (hr.used j o u)).symm⟩
 .refine⟨hr'.ey,fun j o A=>?_,fun j o A d=>?_,fun j o A=>?_,fun i j o p hi A F Z B=>?_⟩
  .rcases C j o A with⟨i,p,rfl,h1,rfl⟩|⟨h1,u⟩
   .exact d0 i (hr'.used i p h1)
   .have:=hr.used j o u;simp only[aO];omega
  .rcases C j o A with⟨i,p,rfl,h1,rfl⟩|⟨h1,u⟩
   .rw[AO.cj]at d;rw[(J i).1];exact hr'.dI i p h1 d
   .rw[G.aC j (hr.used j o u)];cases hm:M' (N.aC j) with
    |none=>rfl
    |some c=>
     rcases hx.eT _ c (hr.dI j o u d) hm with D|⟨i,q,D,hq,h4⟩
     .have:=hr.lt u d;omega
     .obtain⟨h5,h6⟩:=y i q D;have:=hr.inj _ _ _ _ h6 u ((AO.cj _ q).trans hq) d h4;rw[jj h5]at this;exact absurd (this▸Uw h5) h1
  .rcases C j o A with⟨i,p,rfl,h1,rfl⟩|⟨h1,u⟩
   .refine OR.bZ ?_;exact(hr'.obj i p h1).mono (.refl _) a0 (fun i hi=>d0 i hi) (hr'.used i p h1) I
   .cases d:o.real with
    |true=>exact(hr.obj j o u).mono hx.mz G (fun i hi=>by simp only[aO];omega) (hr.used j o u) (f0 j o h1 u d)
    |false=>
     cases o with
     |row sz es=>cases es with
      |nil=>exact .inl I
      |cons=>cases d
     |bA l T=>cases l with
      |nil=>exact .inl I
      |cons=>cases d
     |_=>cases d
  .rcases C i o hi with⟨i',o',rfl,h1,rfl⟩|⟨h1,u⟩<;>rcases C j p A with⟨j',p',rfl,D,rfl⟩|⟨D,h4⟩
   .rw[AO.cj]at F Z;rw[(J i').1,(J j').1]at B;rw[hr'.inj i' j' o' p' h1 D F Z B]
   .rw[AO.cj]at F;rw[(J i').1,G.aC j (hr.used j p h4)]at B;rcases hx.dY i' o' h1 F with h5|⟨k,q,h5,hq,h6⟩
    .have:=hr.lt h4 Z;omega
    .obtain⟨h7,h8⟩:=y k q h5;have:=hr.inj _ _ _ _ h8 h4 ((AO.cj _ q).trans hq) Z (h6.trans B);rw[jj h7]at this;exact absurd (this▸Uw h7) D
   .rw[AO.cj]at Z;rw[G.aC i (hr.used i o u),(J j').1]at B;rcases hx.dY j' p' D Z with h5|⟨k,q,h5,hq,h6⟩
    .have:=hr.lt u F;omega
    .obtain⟨h7,h8⟩:=y k q h5;have:=hr.inj _ _ _ _ h8 u ((AO.cj _ q).trans hq) F (h6.trans B.symm);rw[jj h7]at this;exact absurd (this▸Uw h7) h1
   .rw[G.aC i (hr.used i o u),G.aC j (hr.used j p h4)]at B;exact hr.inj _ _ _ _ u h4 F Z B
 .exact VR.bZ (hvr.mono (.refl _) a0 (fun i hi=>d0 i hi))
def PV.plain:PV->PV
 | .kb b=> .iv (.v (.bool b))
 |p=>p
theorem VR.plain{M:Mem}{N:Nm}{U:Nat->Prop}{p:PV}{x:Value}(h:VR M N U p x):VR M N U p.plain x:=by
 cases h with
 |kb=>exact .iv _ _ (.v _)
 |iv _ _ h1=>exact .iv _ _ h1
 |agg _ _ h1 h2=>exact .agg _ _ h1 h2
 |aZ _ _ h1 h2=>exact .aZ _ _ h1 h2
 |ptr _ _ h1=>exact .ptr _ _ h1
 |c6 _ _ _ _ h1=>exact .c6 _ _ _ _ h1
 |fj _ _ h1=>exact .fj _ _ h1
 |pJ _ _ _ h1=>exact .pJ _ _ _ h1
 |sl _ _ _ _ _ h1 h2 h3 h4 h5=>exact .sl _ _ _ _ _ h1 h2 h3 h4 h5
 |lK _ _ h1=>exact .lK _ _ h1
 |sle _ _ _ h1 h2 h3=>exact .sle _ _ _ h1 h2 h3
 |mp _ h1=>exact .mp _ h1
 |cN _ _ _ _ _ h1 h2 h3 h4=>exact .cN _ _ _ _ _ h1 h2 h3 h4
 |any=>exact .any _
def bM(f:AF)(c:Call):Option (FuncId×List PV):=
 match c.callee with
 | .value g=>match ev f g with
  | .cN (.func k) first caps=>dl (k,first++(c.args.toList.map (fun x=>(ev f x).plain)++caps))
  |_=>io
 |_=>io
theorem AK{M:Mem}{N:Nm}{a:Act}{w:World}(hf:Fits M N s nt a w){o:Oper}{c:Call}(ho:o.op= .call c){k:FuncId}{asv:List PV}(ha:bM s.f c=dl (k,asv))(hc:lJ P k):
  ∃vs:List Value,(execOp a.eval o).run P w= .ok (.enter k vs.toArray) w∧asv.length=vs.length∧ ∀(j:Nat) (p:PV),asv[j]? =dl p->VR M N (· <s.nx) p (vs.getD j undef):=by
 unfold bM at ha;obtain⟨callee,d,A⟩:=c;cases callee with
 |value g=>
  simp only at ha;have B:=aJ hf.2.1 g;split at ha
  .rename_i Z first caps hev;simp only[Tm,TC]at ha;obtain⟨rfl,rfl⟩:=ha;rw[hev]at B;generalize J:a.eval g=v at B;cases B with
   |cN _ _ _ f' c' h1 h2 hr1 hr2=>
    have F:(d.toList.map (fun x=>(ev s.f x).plain)).length=(d.map a.eval).size∧ ∀j p,(d.toList.map (fun x=>(ev s.f x).plain))[j]? =dl p->VR M N (· <s.nx) p ((d.map a.eval).getD j undef):=by
     refine⟨by simp,fun j p u=>?_⟩;rw[Tu,Tw]at u;obtain⟨x,Y,rfl⟩:=u;have D:d[j]? =dl x:=by simpa using Y
     rw[Tl,Vw,D];exact(aJ hf.2.1 x).plain
    have y:(execOp a.eval o).run P w= .ok (.enter Z (f'++d.map a.eval++c')) w:=by
     simp only[execOp,ho,resolve,J,Deferred.ofValue,pure_bind,invoke];exact hc _ w
    have C: ∀(j:Nat) (p:PV),(first++(d.toList.map (fun x=>(ev s.f x).plain)++caps))[j]? =dl p->VR M N (· <s.nx) p ((f'++d.map a.eval++c').toList.getD j undef):=by
     intro j p u;have G:(d.toList.map (fun x=>(ev s.f x).plain)).length=(d.map a.eval).size:=F.1;rw[Tr,VG,VG,Tz];rcases Un j first.length with hj|hj
     .rw[TG hj]at u;rw[TG (by simpa[<-h1]using hj)];have:=hr1 j p u;rw[Tl]at this;simpa using this
     .rw[TI hj]at u;rw[TI (by simpa[<-h1]using hj)];rcases Un (j-first.length) (d.toList.map (fun x=>(ev s.f x).plain)).length with hj2|hj2
      .rw[TG hj2]at u;rw[TG (by simp[<-h1]at hj2 ⊢;omega)];have:=F.2 _ p u;rw[Tl]at this;simpa[<-h1]using this
      .rw[TI hj2]at u;rw[TI (by simp[<-h1]at hj2 ⊢;omega)];have:=hr2 _ p u;rw[Tl]at this;simpa[<-h1]using this
    refine⟨(f'++d.map a.eval++c').toList,by rw[UH];exact y,?_,C⟩;simp[<-h1,<-h2]
  .cases ha
 |_=>simp at ha
theorem kH{o:Oper}{c:Call}(ho:o.op= .call c){k:FuncId}{asv:List PV}(ha:bM s.f c=dl (k,asv)){args:List PV}{os:List AO}{R:PV->AH->Nat->Prop}(hc:Fn P k args os R)
  {L:List Nat} (hnd:L.Nodup) (hL: ∀j∈L,j<s.nx) (d0:L.map s.h.get=os.map fun o=>dl (o.bZ (sig L s.nx))) (A:asv=db (sig L s.nx) args) {S:AS->Prop}
  (hS: ∀r D F,R r D F-> ∃s',putDst nt o (r.bZ (sig L s.nx)) (aO s L D F)=dl s'∧S s'):OT P nt o s S:=by
 intro M N a w G K Z hk;unfold bM at ha;obtain⟨callee,u,a0⟩:=c;cases callee with
 |value g=>
  simp only at ha;have hg:=aJ G.2.1 g;split at ha
  .rename_i k' first caps hev;simp only[Tm,TC]at ha;obtain⟨rfl,rfl⟩:=ha;rw[hev]at hg;generalize hv:a.eval g=v at hg;cases hg with
   |cN _ _ _ f' c' C h2 hr1 hr2=>
    have hm:(u.toList.map (fun x=>(ev s.f x).plain)).length=(u.map a.eval).size∧ ∀j p,(u.toList.map (fun x=>(ev s.f x).plain))[j]? =dl p->VR M N (· <s.nx) p ((u.map a.eval).getD j undef):=by
     refine⟨by simp,fun j p y=>?_⟩;rw[Tu,Tw]at y;obtain⟨x,hx,rfl⟩:=y;have f0:u[j]? =dl x:=by simpa using hx
     rw[Tl,Vw,f0];exact(aJ G.2.1 x).plain
    have b0:(execOp a.eval o).run P w= .ok (.enter k' (f'++u.map a.eval++c')) w:=by
     simp only[execOp,ho,resolve,hv,Deferred.ofValue,pure_bind,invoke];exact hc.1 _ w
    unfold Oper.wp;rw[b0];simp only[Oper.upon];have e0: ∀(j:Nat) (p:PV),(first++(u.toList.map (fun x=>(ev s.f x).plain)++caps))[j]? =dl p->VR M N (· <s.nx) p ((f'++u.map a.eval++c').toList.getD j undef):=by
     intro j p y;have g0:(u.toList.map (fun x=>(ev s.f x).plain)).length=(u.map a.eval).size:=hm.1;rw[Tr,VG,VG,Tz];rcases Un j first.length with hj|hj
     .rw[TG hj]at y;rw[TG (by simpa[<-C]using hj)];have:=hr1 j p y;rw[Tl]at this;simpa using this
     .rw[TI hj]at y;rw[TI (by simpa[<-C]using hj)];rcases Un (j-first.length) (u.toList.map (fun x=>(ev s.f x).plain)).length with hj2|hj2
      .rw[TG hj2]at y;rw[TG (by simp[<-C]at hj2 ⊢;omega)];have:=hm.2 _ p y;rw[Tl]at this;simpa[<-C]using this
      .rw[TI hj2]at y;rw[TI (by simp[<-C]at hj2 ⊢;omega)];have:=hr2 _ p y;rw[Tl]at this;simpa[<-C]using this
    have Y:args.length=(f'++u.map a.eval++c').toList.length:=by
     have:=congrArg Vp A;simp[bN]at this;simp[<-C,<-h2];omega
    have B:=hc.calls hnd hL d0 G.1 Y (fun j p y=>by
     refine e0 j (p.bZ (sig L s.nx)) ?_
     rw[A,bN,Tu,y];rfl)
    rw[UH]at B;refine B.mono ?_;rintro e w' ⟨x,M',N',r,D,F,rfl,hR,hx,hr,hvr⟩;obtain⟨s',y,c0⟩:=hS r D F hR;have J:Fits M' N' (aO s L D F) nt a w':=⟨hr,G.2.1.ext hx,G.2.2⟩
    show K (a.put o.dst x) w';cases hd:o.dst with
    |none=>
     have:=dx y hd;subst this;exact hk M' N' _ _ w' hx J c0
    |some d=>
     obtain⟨C,rfl⟩:=dw y hd;exact hk M' N' {aO s L D F with f:=(d,r.bZ (sig L s.nx))::(aO s L D F).f} _ w' hx (J.put d _ x C hvr) c0
  .cases ha
 |_=>simp at ha
def kS:Nat->List PV->AF
 |_,[]=> []
 |n,p::r=>(n,p)::kS (n+1) r
theorem qO: ∀(l:List PV) (n i:Nat),(kS n l).get i=if n<=i then l.getD (i-n) .any else .any
 | [],n,i=>by simp[kS,AF.get]
 |p::r,n,i=>by
  simp only[kS];rw[AF.ax,qO r (n+1) i];by_cases h:i=n
  .subst h;simp
  .by_cases d:n<=i
   .rw[be h,am (by omega),am d,show i-n=(i-(n+1))+1 by omega];simp
   .rw[be h,be (by omega),be d]
def xV(ty:Ty)(s:AS):ResultVar->Option PV
 | .tmp t=>match s.f.get t with
  | .kb b=>dl (.iv (.v (.bool b)))
  |p=>dl p
 | .cell a t=>match ty t with
  |some e=>match behind s.h (s.f.get a) with
   |some cs=>gI e cs
   |none=>io
  |none=>io
def rh(ty:Ty)(s:AS):List ResultVar->Option (List PV)
 | []=>dl []
 |v::r=>match xV ty s v with
  |some p=>match rh ty s r with
   |some l=>dl (p::l)
   |none=>io
  |none=>io
def jy(ty:Ty)(s:AS)(l:List ResultVar):Option PV:=
 match rh ty s l with
 |some [p]=>dl p
 |some l=>dl (.aZ l)
 |none=>io
def oW(tmps:Array Value):ResultVar->Sem Value
 | .tmp t=>pure (tmps.getD t undef)
 | .cell a t=>do loadVar t (<-asAddr (tmps.getD a undef))
theorem D6{ty:Ty}(u:bE P ty){M:Mem}{N:Nm}{a:Act}{w:World}(hf:Fits M N s nt a w){v:ResultVar}{p:PV}(h:xV ty s v=dl p):
  ∃x,(oW a.tmps v).run P w= .ok x w∧VR M N (· <s.nx) p x:=by
 cases v with
 |tmp t=>
  simp only[xV]at h;have:=hf.2.1 t;split at h
  .rename_i b hb;simp only[Tm]at h;subst h;rw[hb]at this;refine⟨_,rfl,?_⟩;show VR M N _ _ (a.tmps.getD t undef);generalize a.tmps.getD t undef=v at this;cases this;exact .iv _ _ (.v _)
  .simp only[Tm]at h;subst h;exact⟨_,rfl,this⟩
 |cell b t=>
  simp only[xV]at h;split at h
  .rename_i e A;split at h
   .rename_i G j;obtain⟨F,a0,C,d⟩:=xy hf.1 (hf.2.1 b) j;obtain⟨y,D,B⟩:=r9 (P:=P) (u t e A) d h;refine⟨y,?_,B⟩;simp only[oW,C,asAddr,pure_bind];exact D
   .cases h
  .cases h
theorem wz{ty:Ty}(u:bE P ty){M:Mem}{N:Nm}{a:Act}{w:World}(hf:Fits M N s nt a w): ∀{l:List ResultVar} {y:List PV},rh ty s l=dl y->
  ∃A:List Value,(l.mapM (oW a.tmps)).run P w= .ok A w∧y.length=A.length∧ ∀(j:Nat) (p:PV),y[j]? =dl p->VR M N (· <s.nx) p (A.getD j undef)
 | [],y,h=>by
  simp only[rh,Tm]at h;subst h;exact⟨[],rfl,rfl,by simp⟩
 |v::r,y,h=>by
  simp only[rh]at h;split at h
  .rename_i p G;split at h
   .rename_i l F;simp only[Tm]at h;subst h;obtain⟨x,Y,J⟩:=D6 u hf G;obtain⟨A,D,d,C⟩:=wz u hf F;refine⟨x::A,?_,by simp[d],fun j q B=>?_⟩
    .rw[List.mapM_cons,Sem.run_bind,Y,Result.andThen_ok,Sem.run_bind,D];rfl
    .cases j with
     |zero=>simp at B;subst B;exact J
     |succ j=>simpa using C j q (by simpa using B)
   .cases h
  .cases h
theorem xW{ty:Ty}(G:bE P ty){M:Mem}{N:Nm}{a:Act}{w:World}(hf:Fits M N s nt a w){fn:Func}{l:List ResultVar}(J:fn.results.toList=l){p:PV}(h:jy ty s l=dl p):
  ∃x,(results fn a.tmps).run P w= .ok x w∧VR M N (· <s.nx) p x:=by
 unfold jy at h;have key: ∀C,rh ty s l=dl C-> ∃u:List Value,(fn.results.mapM (oW a.tmps)).run P w= .ok u.toArray w∧C.length=u.length∧ ∀(j:Nat) (p:PV),C[j]? =dl p->VR M N (· <s.nx) p (u.getD j undef):=by
  intro C B;obtain⟨u,D,d,F⟩:=wz G hf B;refine⟨u,?_,d,F⟩;have e:fn.results.mapM (oW a.tmps)=(List.toArray<$>(fn.results.toList.mapM (oW a.tmps))):=by
   rw[Wr]
  rw[e,J,Sem.run_map,D];rfl
 have y:results fn a.tmps=(do let vs<-fn.results.mapM (oW a.tmps);pure (if h:vs.size=1 then vs[0] else .tuple vs)):=by
  unfold results;rfl
 split at h
 .rename_i q Z;simp only[Tm]at h;subst h;obtain⟨u,D,d,F⟩:=key _ Z
  match u,d with
  | [x],_=>
   refine⟨x,?_,by simpa using F 0 q I⟩;rw[y,Sem.run_bind,D];rfl
 .rename_i C A B;simp only[Tm]at h;subst h;obtain⟨u,D,d,F⟩:=key _ B;refine⟨.tuple u.toArray,?_,.aZ _ _ (by simpa using d) (fun j p Y=>?_)⟩
  .rw[y,Sem.run_bind,D,Result.andThen_ok];have: ¬u.toArray.size=1:=by
    intro e
    match C,A,d with
    | [q],A,_=>exact A q I
    | [],_,d=>simp at d e;omega
    |_::_::_,_,d=>simp at d e;omega
   rw[dif_neg this];rfl
  .have:=F j p Y;rw[Tl];rw[Tr]at this;simpa using this
 .cases h
theorem BV {ty:Ty} (Y:bE P ty) {k:FuncId} {fn:Func} {c:Code} (hf:P.funcs[k]? =dl fn) (hb:fn.body=dl c) (hn:(fn.name== "runtime.NumGoroutine")=jp) {nt:Nat} (c0:fn.ntmps=nt)
  {l:List ResultVar} (hl:fn.results.toList=l) {args:List PV} (b0:args.length<=nt) {os:List AO} {R:PV->AH->Nat->Prop}
  (h:GO P nt [.code c] (fun e s=>(e= .normal∨e= .ret)∧ ∃r,jy ty s l=dl r∧R r s.h s.nx) ⟨kS 0 args,dD 0 os,os.length⟩):Fn P k args os R:=by
 refine⟨bQ hf hb hn,fun M N w vs hr A hv=>?_⟩;refine calls_of_wp hf hb ?_;have y:Fits M N ⟨kS 0 args,dD 0 os,os.length⟩ nt {tmps:=vs.toArray++U3 (fn.ntmps-vs.toArray.size) undef,defers:=[]} w:=by
  refine⟨hr,fun i=>?_,rfl,by simp;omega⟩;rw[qO,am (TB _),V4,Tr];cases hi:args[i]? with
  |none=>exact .any _
  |some p=>
   have F:i<vs.length:=by rw[<-A];exact(Tp.1 hi).1
   have:=hv i p hi;have e:(vs.toArray++U3 (fn.ntmps-vs.toArray.size) undef).getD i undef=vs.getD i undef:=by
    rw[Tl,T6 (by simpa using F),Tr];simp
   simp only[UI];rw[e];exact this
 refine AW.then h y fun e a' C j u s' hx d hq=>?_;simp only[kp]at hq;obtain⟨he,r,G,J⟩:=hq;obtain⟨x,Z,a0⟩:=xW Y d hl G
 have:a'.defers=[]∧ ∃v,(results fn a'.tmps).run P C= .ok v C∧(∃x j u r D B,Ending.returned v= .returned x∧R r D B∧Ext M N (· <os.length) (dD 0 os) w j u (· <B) D C∧Rel j u (· <B) D C∧VR j u (· <B) r x):=
  ⟨d.2.2.1,x,Z,x,j,u,r,s'.h,s'.nx,rfl,J,hx,d.1,a0⟩
 rcases he with rfl|rfl<;>exact this
end
theorem Es{ops:Array Oper}{o:Oper}(hs: ∀u b,o.op≠ .select u b){a b:Act}(h: ∀d∈o.looksAt ops,a.tmps[d]? =b.tmps[d]?):
  execOp a.eval o=execOp b.eval o∧Region.wanted o (Go.yielded ops a.tmps)=Region.wanted o (Go.yielded ops b.tmps):=by
 constructor
 .refine execOp_congr o hs fun x y=>?_
  cases x with
  |tmp t=>
   have:=h t (Ue _ (List.mem_filterMap.2 ⟨.tmp t,by simpa using y,rfl⟩));simp only[Act.eval,Tl,this]
  |_=>rfl
 .unfold Region.wanted;cases hg:o.guard with
  |none=>rfl
  |some gw=>
   obtain⟨g,j⟩:=gw;have A:Go.yielded ops a.tmps g=Go.yielded ops b.tmps g:=by
    unfold Go.yielded;cases ht:(ops[g]?).bind (·.dst) with
    |none=>rfl
    |some t=>
     have:=h t (by simp[Oper.looksAt,hg,ht]);simp[this]
   simp only[A]
theorem kD{all:List Oper}{o x:Oper}(h:looks all o x=jp){d:Nat}(hd:x.dst=dl d):d∉o.looksAt all.toArray:=by
 simp only[looks,hd]at h;simpa using h
theorem gC{o:Oper}{i:Nat}(h:waits o i=is): ∃e∈o.after,Region.binds .any e=is∧e.on=i:=by
 unfold waits at h;obtain⟨e,d,hb⟩:=UO.1 h;simp only[TZ]at hb;exact⟨e,by simpa using d,hb.1,TM hb.2⟩
theorem jf: ∀(l:List Oper) (n i:Nat) (o:Oper),ik n l=is->l[i]? =dl o-> ∀e∈o.after,Region.binds .any e=is->e.on<n+i
 | [],n,i,o,_,h=>by simp at h
 |c::l,n,i,o,hd,h=>by
  simp only[ik,TZ,T7]at hd;cases i with
  |zero=>
   simp at h;subst h;intro e d hb;have:=hd.1 e (by simpa using d);simp only[hb,VY,Vn]at this;exact Tk this
  |succ i=>
   have:=jf l (n+1) i o hd.2 (by simpa using h);intro e d hb;have:=this e d hb;omega
theorem count_set: ∀(l:List Bool) (i:Nat),l[i]? =dl jp->(l.set i is).count jp+1=l.count jp
 | [],i,h=>by simp at h
 |c::l,0,h=>by simp at h;subst h;simp
 |c::l,i+1,h=>by
  have:=count_set l i (by simpa using h);simp only[List.set_cons_succ,List.count_cons];omega
theorem eZ{listed:Array Bool}{i:Nat}(h:listed.getD i is=jp):(listed.setIfInBounds i is).toList.count jp+1=listed.toList.count jp:=by
 have d:listed.toList[i]? =dl jp:=by
  rw[Tl]at h;cases hc:listed[i]? with
  |none=>simp[hc]at h
  |some c=>simp[hc]at h;subst h;simpa using hc
 have:=count_set _ _ d;rw[Array.toList_setIfInBounds];exact this
theorem rN{listed:Array Bool}{i:Nat}(h:listed.getD i is=jp):0<listed.toList.count jp:=by have:=eZ h;omega
theorem fg{listed:Array Bool}{i k:Nat}(hi:i<listed.size):(listed.setIfInBounds i is).getD k is=if k=i then is else listed.getD k is:=by
 by_cases d:k=i
 .subst d;simp[Tl,hi]
 .rw[be d,Tl,Ua,be (fun e=>d e.symm),Tl]
theorem eH{listed:Array Bool}{i:Nat}(h:listed.getD i is=jp):i<listed.size:=by
 rcases Un i listed.size with h'|h'
 .exact h'
 .simp[Tl,V7 h']at h
theorem mq{listed:Array Bool}{i:Nat}(h:listed.getD i is=jp):listed.getD i jp=jp:=by
 have:=eH h;rw[Tl] at*
 simpa[this]using h
theorem oZ{all:List Oper}{listed:Array Bool}(y:listed.size=all.length)(hd:ik 0 all=is)(hr:Region.ready .any all.toArray listed=[]): ∀i,listed.getD i is=is:=by
 intro i
 induction i using Nat.strongRecOn with
 |_ i ih=>
  cases hc:listed.getD i is with
  |true=>rfl
  |false=>
   have A:=eH hc;have j:all[i]? =dl (all[i]'(by omega)):=Ts (by omega);have:i∈Region.ready .any all.toArray listed:=by
    refine mem_ready.2 ⟨hc,_,(by rw[Ul];exact j),fun e u hb=>?_⟩;have x:=jf all 0 i _ hd j e u hb;have:=ih e.on (by omega);have d:e.on<listed.size:=by omega
    rw[Tl]at this ⊢;simpa[d]using this
   rw[hr]at this;cases this
section
variable {P:Program} {nt:NT} {all:List Oper} {todo pend:List (Nat×Oper)} {M:Mem} {N:Nm} {s:AS} {listed:Array Bool} {a:Act} {w:World} {Q:AQ}
theorem oJ.alloc{B:Bs}{o:Oper}{aC:Nat}(h:oJ P M N s B a w o aC):aS o=is:=by
 obtain⟨t,v,d,j,_⟩:=h;simp[aS,j]
theorem jh.vC(d:jh P nt all){i j:Nat}{o q:Oper}(hi:all[i]? =dl o)(hj:all[j]? =dl q)(ha:aS o=is)(hw:waits q i=jp)(hne:j≠i):looks all q o=jp:=by
 rcases((d i o hi ha).2.2.2.2 j q hj hne).1 with h|h
 .rw[hw]at h;cases h
 .exact h
theorem mv.same{b:Act}(hb: ∀d,(∀x∈pend,listed.getD x.1 is=jp->x.2.dst≠dl d)->(∀x∈todo,listed.getD x.1 is=is->x.2.dst≠dl d)->a.tmps[d]? =b.tmps[d]?)
  (hns:Region.noSelect all.toArray=is) {i:Nat} {o:Oper} (ho:all[i]? =dl o) (hr:i∈Region.ready .any all.toArray listed) (hp: ∀x∈pend,waits o x.1=is∨looks all o x.2=jp)
  (G: ∀x∈todo,listed.getD x.1 is=is->looks all o x.2=jp):
  execOp a.eval o=execOp b.eval o∧Region.wanted o (Go.yielded all.toArray a.tmps)=Region.wanted o (Go.yielded all.toArray b.tmps):=by
 refine Es (Region.noSelect_spec hns i o · · (by simpa using ho)) fun d hd=>hb d (fun x D A u=>?_) (fun x D A u=>kD (G x D A) u hd);rcases hp x D with h|h
 .obtain⟨e,u,y,C⟩:=gC h;obtain⟨_,J,B,j⟩:=mem_ready.1 hr;have:J=o:=by have:=B.symm.trans (by simpa using ho:all.toArray[i]? =dl o);exact Uy this
  subst this;have F:=j e u y;rw[C,mq A]at F;cases F
 .exact kD h u hd
theorem fI(a:Act)(a0:Option Tmp)(v:Value)(d:Nat):(a.put a0 v).tmps[d]? =if a0=dl d∧d<a.tmps.size then dl v else a.tmps[d]? :=by
 cases a0 with
 |none=>simp[Act.put]
 |some e=>
  simp only[Act.put,Tm];rw[Ua];by_cases h:e=d
  .subst h;by_cases j:e<a.tmps.size
   .simp[j]
   .simp[j]
  .simp[h]
theorem iV(a:Act)(a0:Option Tmp)(v:Value):(a.put a0 v).tmps.size=a.tmps.size:=by cases a0<;>simp[Act.put]
theorem kA(a:Act)(a0:Option Tmp)(v:Value):(a.put a0 v).defers=a.defers:=by cases a0<;>rfl
theorem wB(a:Act)(a0:Option Tmp)(v:Value):(a.put a0 v).put a0 v=a.put a0 v:=by cases a0<;>simp[Act.put]
theorem oJ.put{B:Bs}{o:Oper}{aC:Nat}(h:oJ P M N s B a w o aC){a0:Option Tmp}{v:Value}(hd: ∀d,o.dst=dl d->a0≠dl d):oJ P M N s B (a.put a0 v) w o aC:=by
 obtain⟨t,u,d,x,y,j,A,C⟩:=h;refine⟨t,u,d,x,y,j,?_,C⟩;rw[fI,be (fun D=>hd d j D.1)];exact A
theorem mv.take{B:Bs}(hi:mv P nt all todo pend B M N s listed a w)(hns:Region.noSelect all.toArray=is)(d0:jh P nt all){x:Nat×Oper}(C:x∈pend)(hr:x.1∈Region.ready .any all.toArray listed):
  ∃v,YieldsAt P all.toArray w x.2 v a∧mv P nt all todo pend B M N s (listed.setIfInBounds x.1 is) (a.put x.2.dst v) w:=by
 obtain⟨b,hb,b0,k0,c0,F⟩:=hi.ap;obtain⟨bl,e0,l0⟩:=hi.er;have hl:=(mem_ready.1 hr).1;obtain⟨v,hv,a0⟩:=F x C hl;have G: ∀y∈todo,listed.getD y.1 is=is->looks all x.2 y.2=jp∧ ∀d,y.2.dst=dl d->x.2.dst≠dl d:=fun y j u=>by
  have J:=(e0 y j u).alloc;exact⟨d0.vC (hi.tl y j) (hi.pl x C) J (hi.pa x C y j J) (fun e=>hi.dj x C y j e.symm),((d0 _ _ (hi.tl y j) J).2.2.2.2 _ _ (hi.pl x C) (fun e=>hi.dj x C y j e.symm)).2⟩
 have A:=mv.same c0 hns (hi.pl x C) hr (fun y F=>hi.pp y F x C) (fun y j u=>(G y j u).1);have Z:=eH hl;have f0: ∀k,(listed.setIfInBounds x.1 is).getD k is=jp->k≠x.1∧listed.getD k is=jp:=by
  intro k hk;rw[fg Z]at hk;split at hk
  .cases hk
  .rename_i h;exact⟨h,hk⟩
 have D: ∀y∈todo,(listed.setIfInBounds x.1 is).getD y.1 is=listed.getD y.1 is:=fun y F=>by rw[fg Z,be (hi.dj x C y F)]
 refine⟨v,hv.of_same A.1 A.2,⟨by simp[hi.size],hi.tl,hi.pl,hi.dj,fun i o ho hu=>hi.KS i o ho (f0 i hu).2,hi.pw,hi.pp,hi.pa,⟨bl,fun y j u=>?_,fun y j z i0 h1 h2=>?_⟩,b,hb,by rw[iV,b0],by rw[kA,k0],fun d hd j0=>?_,fun y m0 hu=>?_⟩⟩
 .rw[D y j]at u;exact(e0 y j u).put (G y j u).2
 .rw[D y j]at h1;rw[D z i0]at h2;exact l0 y j z i0 h1 h2
 .rw[fI];split
  .rename_i h;rw[<-a0,fI,am ⟨h.1,by rw[<-b0];exact h.2⟩]
  .rename_i h;by_cases Y:x.2.dst=dl d
   .have h2: ¬d<a.tmps.size:=fun h3=>h ⟨Y,h3⟩
    rw[V7 (UR h2),V7 (by rw[<-b0];exact UR h2)]
   .refine c0 d (fun y F hu he=>?_) (fun y j u=>j0 y j (by rw[D y j];exact u));by_cases g0:y.1=x.1
    .have h3:=hi.pl y F;rw[g0,hi.pl x C]at h3;rw[Uy h3]at Y;exact Y he
    .exact hd y F (by rw[fg Z,be g0];exact hu) he
 .exact F y m0 (f0 _ hu).2
theorem Rel.more{M:Mem}{N:Nm}{n:Nat}{h:AH}{w u:World}(hr:Rel M N (· <n) h w)(j: ∀b,b<w.heap.size->u.heap[b]? =w.heap[b]?):Rel M N (· <n) h u:=by
 refine⟨fun b c hb=>?_,hr.used,hr.dI,fun i o d=>?_,hr.inj⟩
 .exact(hr.ey b c hb).mono (j b (hr.ey b c hb).lt)
 .cases hre:o.real with
  |true=>exact(hr.obj i o d).mono (.refl _) (.refl _ _) (fun _ h=>h) (hr.used i o d) (j _ (hr.lt d hre))
  |false=>
   cases o with
   |row sz es=>cases es with
    |nil=>exact .inl I
    |cons=>cases hre
   |bA l T=>cases l with
    |nil=>exact .inl I
    |cons=>cases hre
   |_=>cases hre
theorem BA{ops:Array Oper}(h: ∀i,listed.getD i is=is):Region.ready .any ops listed=[]:=by
 cases hr:Region.ready .any ops listed with
 |nil=>rfl
 |cons i r=>
  have:i∈Region.ready .any ops listed:=by rw[hr];simp
  have:=(mem_ready.1 this).1;rw[h i]at this;cases this
theorem mv.done{B:Bs}(hi:mv P nt all [] pend B M N s listed a w)(j: ∀i,listed.getD i is=is):Fits M N s nt a w:=by
 obtain⟨b,hb,C,u,y,_⟩:=hi.ap;have A:a.tmps=b.tmps:=Array.ext_getElem? fun d=>y d (fun x _ hu=>by rw[j]at hu;cases hu) (fun _ D=>(nomatch D));have:a=b:=by cases a;cases b;simp only at A u;subst A;subst u;rfl
 rw[this];exact hb
theorem Pg(h:Q .normal s):DL P nt all [] pend Q s:=by
 intro C hd y B M N listed a w d G
 induction d generalizing listed a with
 |zero=>
  intro u Z;have j: ∀i,listed.getD i is=is:=fun i=>by
   cases hx:listed.getD i is with
   |true=>rfl
   |false=>have:=rN hx;omega
  exact⟨BA j,M,N,s,G,u.done j,h⟩
 |succ d ih=>
  intro u Z;refine⟨fun hr=>⟨M,N,s,G,u.done (oZ u.size hd hr),h⟩,fun i x=>?_⟩;obtain⟨hu,o,J,_⟩:=mem_ready.1 x;have D:all[i]? =dl o:=by simpa using J
  rcases u.KS i o D hu with hm|hm
  .cases hm
  .obtain⟨v,hv,A⟩:=u.take C y hm x;refine wpOp_of_stOp (K:=fun F=>F=a.put o.dst v) (fun F Y=>?_) (hv.stOp J I);subst Y;exact ih _ _ A (by have:=eZ hu;omega)
def vZ(all:List Oper)(pend:List (Nat×Oper))(o:Oper):Bool:=
 !looks all o o&&pend.all fun y=>!looks all y.2 o&&(waits o y.1||!looks all o y.2)&&(match o.dst,y.2.dst with|some d,dl e=>!TR d e|_,_=>is)
theorem mv.read{B:Bs}(hi:mv P nt all todo pend B M N s listed a w)(hns:Region.noSelect all.toArray=is){i:Nat}{o:Oper}{s':AS}(D:(i,o)∈todo)(l0:aS o=jp)(p0: ∀x∈todo,waits o x.1=jp)(j:vZ all pend o=is)(he:s'.h=s.h∧s'.nx=s.nx)
  (hy: ∀M N b w,Fits M N s nt b w-> ∃v,YieldsAt P all.toArray w o v b∧Fits M N s' nt (b.put o.dst v) w):mv P nt all (todo.filter fun x=>!TR x.1 i) ((i,o)::pend) B M N s' listed a w:=by
 have G: ∀x∈todo.filter fun x=>!TR x.1 i,x∈todo∧x.1≠i:=fun x hx=>by
  obtain⟨h7,h8⟩:=Ub.1 hx;exact⟨h7,fun e=>by simp[e]at h8⟩
 have h1: ∀x∈todo,x=(i,o)∨x∈todo.filter fun x=>!TR x.1 i:=fun x hx=>by
  by_cases F:x.1=i
  .have J:=hi.tl x hx;rw[F,hi.tl _ D]at J;exact .inl (by obtain⟨x1,x2⟩:=x;simp only at F J;rw[F,Uy J])
  .exact .inr (Ub.2 ⟨hx,by cases hb:TR x.1 i with|false=>rfl|true=>exact absurd (TM hb) F⟩)
 simp only[vZ,TZ,T7,UD]at j;obtain⟨b,hb,m0,i0,c0,q0⟩:=hi.ap;obtain⟨bl,a0,k0⟩:=hi.er;have b0:listed.getD i is=jp:=by
  cases C:listed.getD i is with
  |false=>rfl
  |true=>have:=(a0 _ D C).alloc;simp only at this;rw[l0]at this;cases this
 obtain⟨v,hv,hf⟩:=hy M N b w hb;refine⟨hi.size,fun x hx=>hi.tl x (G x hx).1,fun x hx=>?_,fun x hx y hy=>?_,fun k q hk hu=>?_,?_,fun x hx y hy=>?_,fun y hyp x hx d0=>?_,⟨bl,fun x hx C=>?_,fun x hx y hy=>k0 x (G x hx).1 y (G y hy).1⟩,b.put o.dst v,hf,by rw[iV,m0],by rw[kA,i0],fun d Y g0=>?_,fun x hx hu=>?_⟩
 .rcases TQ.1 hx with rfl|hx
  .exact hi.tl _ D
  .exact hi.pl x hx
 .rcases TQ.1 hx with rfl|hx
  .exact(G y hy).2
  .exact hi.dj x hx y (G y hy).1
 .rcases hi.KS k q hk hu with hm|hm
  .rcases h1 _ hm with e|hm
   .exact .inr (by rw[e];simp)
   .exact .inl hm
  .exact .inr (TH _ hm)
 .refine UW.2 ⟨fun y hy=>⟨(j.2 y hy).1.1,fun d Z j0=>?_⟩,hi.pw⟩;have:=(j.2 y hy).2;simp only at Z;rw[Z,j0]at this;simp at this
 .rcases TQ.1 hx with rfl|hx<;>rcases TQ.1 hy with rfl|hy
  .exact .inr j.1
  .exact .inr (j.2 y hy).1.1
  .have:=(j.2 x hx).1.2;simpa using this
  .exact hi.pp x hx y hy
 .rcases TQ.1 hyp with rfl|hyp
  .exact p0 x (G x hx).1
  .exact hi.pa y hyp x (G x hx).1 d0
 .have J:=a0 x (G x hx).1 C;unfold oJ at*
  rw[he.1];exact J
 .rw[fI,be (fun hc=>Y (i,o) (by simp) b0 hc.1)];refine c0 d (fun x hx=>Y x (TH _ hx)) (fun x hx C=>?_);rcases h1 x hx with e|hx
  .rw[e]at C;simp only at C;rw[b0]at C;cases C
  .exact g0 x hx C
 .have A: ∀x:Oper,looks all x o=jp-> ∀d,o.dst=dl d->d∉x.looksAt all.toArray:=fun x hx d hd=>kD hx hd
  rcases TQ.1 hx with rfl|hx
  .exact⟨v,hv.of_same (execOp_put o (fun cs b=>Region.noSelect_spec hns i o cs b (by simpa using hi.tl _ D)) b o.dst v (A o j.1)) (wanted_put o b o.dst v (A o j.1)),wB _ _ _⟩
  .obtain⟨u,n0,o0⟩:=q0 x hx hu;have C:=(j.2 x hx).1.1;refine⟨u,n0.of_same (execOp_put x.2 (fun cs b=>Region.noSelect_spec hns x.1 x.2 cs b (by simpa using hi.pl x hx)) b o.dst v (A x.2 C)) (wanted_put x.2 b o.dst v (A x.2 C)),?_⟩;rw[Act.put_comm b v u (fun d e0 f0=>?_),o0];have:=(j.2 x hx).2;rw[e0,f0]at this;simp at this
theorem Dp{i:Nat}{o:Oper}{s':AS}(A:(i,o)∈todo)(C:aS o=jp)(D: ∀x∈todo,waits o x.1=jp)(j:vZ all pend o=is)(he:s'.h=s.h∧s'.nx=s.nx)
  (Y: ∀M N b w,Fits M N s nt b w-> ∃v,YieldsAt P all.toArray w o v b∧Fits M N s' nt (b.put o.dst v) w) (h:DL P nt all (todo.filter fun x=>!TR x.1 i) ((i,o)::pend) Q s'):DL P nt all todo pend Q s:=by
 intro u hd y B M N listed a w d F J G;exact h u hd y B M N listed a w d (by unfold Bs.ext at*;rw[he.1,he.2];exact F) (J.read u A C D j he Y) G
theorem oc(hns:Region.noSelect all.toArray=is): ∀{pend:List (Nat×Oper)},(∀x∈pend,all[x.1]? =dl x.2)->(pend.Pairwise fun x y=>looks all y.2 x.2=jp∧ ∀d,x.2.dst=dl d->y.2.dst≠dl d)->
  (∀x∈pend,looks all x.2 x.2=jp)->(∀x∈pend,eN P nt all s x.2)-> ∀{b:Act},Fits M N s nt b w->
  ∃c:Act,Fits M N s nt c w∧c.tmps.size=b.tmps.size∧c.defers=b.defers∧(∀d,(∀x∈pend,listed.getD x.1 is=jp->x.2.dst≠dl d)->c.tmps[d]? =b.tmps[d]?)∧
   (∀x∈pend,listed.getD x.1 is=jp-> ∃v,YieldsAt P all.toArray w x.2 v c∧c.put x.2.dst v=c)
 | [],_,_,_,_,b,hb=>⟨b,hb,rfl,rfl,fun _ _=>rfl,fun x hx=>by cases hx⟩
 |(i,o)::pend,hpl,hpw,hse,hag,b,hb=>by
  rw[UW]at hpw;obtain⟨c,hc,G,D,B,C⟩:=oc hns (pend:=pend) (fun x hx=>hpl x (TH _ hx)) hpw.2 (fun x hx=>hse x (TH _ hx)) (fun x hx=>hag x (TH _ hx)) hb;cases hu:listed.getD i is with
  |true=>
   refine⟨c,hc,G,D,fun d hd=>B d fun x hx=>hd x (TH _ hx),fun x hx A=>?_⟩;rcases TQ.1 hx with rfl|hx
   .rw[hu]at A;cases A
   .exact C x hx A
  |false=>
   obtain⟨v,hv,hf⟩:=hag (i,o) (by simp) M N c w hc;have j: ∀x:Oper,looks all x o=jp-> ∀d,o.dst=dl d->d∉x.looksAt all.toArray:=fun x hx d hd=>kD hx hd;refine⟨c.put o.dst v,hf,by rw[iV,G],by rw[kA,D],fun d hd=>?_,fun x hx A=>?_⟩
   .rw[fI,be (fun h=>hd (i,o) (by simp) hu h.1)];exact B d fun x hx=>hd x (TH _ hx)
   .rcases TQ.1 hx with rfl|hx
    .have F:=hse (i,o) (by simp);exact⟨v,hv.of_same (execOp_put o (fun J b=>Region.noSelect_spec hns i o J b (by simpa using hpl (i,o) (by simp))) c o.dst v (j o F)) (wanted_put o c o.dst v (j o F)),wB _ _ _⟩
    .obtain⟨u,a0,b0⟩:=C x hx A;have F:=(hpw.1 x hx).1;refine⟨u,a0.of_same (execOp_put x.2 (fun J b=>Region.noSelect_spec hns x.1 x.2 J b (by simpa using hpl x (TH _ hx))) c o.dst v (j x.2 F)) (wanted_put x.2 c o.dst v (j x.2 F)),?_⟩;rw[Act.put_comm c v u (fun d Y Z=>(hpw.1 x hx).2 d Y Z),b0]
theorem H3{o:Oper}{a b:Act}{w:World}{K K':Act->World->Prop}{Q:Exit->Act->World->Prop}(he:execOp a.eval o=execOp b.eval o)(u: ∀d j,¬K' ({b with defers:=d::b.defers}.put o.dst undef) j)
  (y: ∀v j,K' (b.put o.dst v) j->K (a.put o.dst v) j) (h:o.wp P b w K' fun _ _ _=>False):o.wp P a w K Q:=by
 unfold Oper.wp at*
 rw[he];generalize(execOp b.eval o).run P w=r at*
 cases r with
 |ok n j=>
  cases n<;>simp only[Oper.upon]at h ⊢
  case value v=>exact y _ _ h
  case skip=>exact y _ _ h
  case defer d=>exact absurd h (u d j)
  case enter f args=>
   refine Calls.mono h fun e A he=>?_
   cases e with
   |returned v=>exact y _ _ he
   |panicked c=>exact he.elim
   |outgrown=>obtain⟨_,_,h⟩:=he;exact h.elim
  case row row args=>exact Rows.mono h fun v A he=>y _ _ he
 |halt x j=>cases x<;>simp only[Oper.upon]at h ⊢
def hQ(all:List Oper)(pend:List (Nat×Oper))(o:Oper):Bool:=pend.all fun x=>waits o x.1||!looks all o x.2
theorem mv.early{B:Bs}(hi:mv P nt all todo pend B M N s listed a w)(hns:Region.noSelect all.toArray=is)(hd:ik 0 all=is)(k0:jh P nt all)(hB:B.ext M N s w)(b0: ∀x∈pend,eN P nt all s x.2){j:Nat}{o:Oper}(hm:(j,o)∈todo)(ha:aS o=is)
  (hu:listed.getD j is=jp): ∃v w',(execOp a.eval o).run P w= .ok (.value v) w'∧B.ext M N s w'∧mv P nt all todo pend B M N s (listed.setIfInBounds j is) (a.put o.dst v) w':=by
 obtain⟨b,hb,i0,q0,j0,hy⟩:=hi.ap;obtain⟨bl,g0,s0⟩:=hi.er;obtain⟨h1,⟨d,G,r0⟩,⟨t,z,ht,hz⟩,_,c0⟩:=k0 j o (hi.tl _ hm) ha;have C:=eH hu;have hk: ∀b,b<w.heap.size->(w.alloc (.cells z.cells t)).heap[b]? =w.heap[b]? :=fun b hb=>rU w _ b hb
 have a0:Ext M N (· <s.nx) s.h w M N (· <s.nx) s.h (w.alloc (.cells z.cells t)):=
  ⟨rfl,rfl,⟨rfl,Tv _⟩,by simp,fun b hb _=>hk b hb,.refl _,fun b c h1 h2=>by simp[h1]at h2,.refl _ _,fun _ h=>h,fun i o hi d0=> .inr ⟨i,o,hi,d0,rfl⟩⟩
 have v0: ∀x∈pend,looks all x.2 x.2=jp:=fun x A=>by
  rcases hi.pp x A x A with h7|h7
  .obtain⟨e,he,hb,a1⟩:=gC h7;have:=jf all 0 x.1 x.2 hd (hi.pl x A) e he hb;omega
  .exact h7
 obtain⟨c,n0,o0,m0,l0,p0⟩:=oc (listed:=listed.setIfInBounds j is) hns hi.pl hi.pw v0 b0 (M:=M) (N:=N) (w:=w.alloc (.cells z.cells t)) (b:=b) ⟨hb.1.more hk,hb.2⟩;refine⟨.pointer (dl ⟨w.heap.size,0,io⟩),w.alloc (.cells z.cells t),?_,hB.trans a0,by simp[hi.size],hi.tl,hi.pl,hi.dj,fun i q hq Z=>?_,hi.pw,hi.pp,hi.pa,⟨fun k=>if k=j then w.heap.size else bl k,fun x A hl=>?_,fun x A y hy D J Y=>?_⟩,c,n0,by rw[iV,o0,i0],by rw[kA,m0,q0],fun d' e0 f0=>?_,p0⟩
 .simp only[execOp,ht];simp[Instr.alloc,hz,newVar,newRow]
 .rw[fg C]at Z;split at Z
  .cases Z
  .exact hi.KS i q hq Z
 .simp only;by_cases u:x.1=j
  .have x0:x.2=o:=by
    have:=hi.tl x A;rw[u,hi.tl _ hm]at this;exact(Uy this).symm
   rw[am u,x0];refine⟨t,z,d,ht,hz,G,?_,heap_alloc_new w _,hb.1.Ai,fun i o t0 d0 he=>?_,hB.size⟩
   .rw[fI,am ⟨G,by rw[i0,hb.2.2.2];exact r0⟩]
   .have:=hb.1.lt t0 d0;omega
  .rw[be u];rw[fg C,be u]at hl;obtain⟨t',v',d',k1,k2,k3,k4,k5,k6⟩:=g0 x A hl;refine⟨t',v',d',k1,k2,k3,?_,?_,k6⟩
   .rw[fI,be (fun hc=>(c0 x.1 x.2 (hi.tl x A) u).2 d G (by rw[k3,<-hc.1,G]))];exact k4
   .rw[hk _ (Uf.1 k5).1];exact k5
 .simp only;rw[fg C]at D J;have Rk: ∀z∈todo,z.1≠j->(if z.1=j then is else listed.getD z.1 is)=is->bl z.1<w.heap.size:=fun z hz z0 hl=>by
   rw[be z0]at hl;obtain⟨_,_,_,_,_,_,_,k5,_⟩:=g0 z hz hl;exact(Uf.1 k5).1
  by_cases u:x.1=j<;>by_cases F:y.1=j
  .exact absurd (u.trans F.symm) Y
  .rw[am u,be F];have:=Rk y hy F J;omega
  .rw[be u,am F];have:=Rk x A u D;omega
  .rw[be u,be F];rw[be u]at D;rw[be F]at J;exact s0 x A y hy D J Y
 .rw[fI,be (fun hc=>f0 (j,o) hm (by rw[fg C,am I]) hc.1),l0 d' e0];refine j0 d' (fun x A w0=>e0 x A ?_) (fun x A D=>f0 x A ?_)
  .have Y:x.1≠j:=fun e=>hi.dj x A _ hm e.symm
   rw[fg C,be Y];exact w0
  .rw[fg C];split
   .rfl
   .exact D
theorem oJ.step{B:Bs}{A:Mem}{Y:Nm}{s':AS}{w':World}{o:Oper}{aC:Nat}(h:oJ P M N s B a w o aC)(J:Ext M N (· <s.nx) s.h w A Y (· <s'.nx) s'.h w'):oJ P A Y s' B a w' o aC:=by
 obtain⟨t,v,d,h1,h2,h3,h4,Z,h6,C,h8⟩:=h;have F:=(Uf.1 Z).1;refine⟨t,v,d,h1,h2,h3,h4,by rw[J.eU aC F C];exact Z,?_,fun i o D G he=>?_,h8⟩
 .cases hm:A aC with
  |none=>rfl
  |some c=>
   rcases J.eT aC c h6 hm with y|⟨i,o,y,u,x⟩
   .omega
   .exact absurd x (C i o y u)
 .rcases J.dY i o D G with y|⟨j,p,y,u,x⟩
  .omega
  .exact C j p y u (x.trans he)
def mC(todo:List (Nat×Oper))(E:List Nat):Bool:=todo.all fun x=>E.contains x.1||(aS x.2||todo.any fun y=>!aS y.2&&waits x.2 y.1)
theorem mv.eff{B:Bs}(hi:mv P nt all todo pend B M N s listed a w)(hns:Region.noSelect all.toArray=is)(hd:ik 0 all=is)(i0:jh P nt all){j:Nat}{o:Oper}(hm:(j,o)∈todo)(h0: ∀x∈todo,aS x.2=is->waits o x.1=jp)
  (h1:hQ all pend o=is) (hj:j∈Region.ready .any all.toArray listed) (hu:listed.getD j is=jp): ∃b,Fits M N s nt b w∧execOp a.eval o=execOp b.eval o∧Region.wanted o (Go.yielded all.toArray a.tmps)=Region.wanted o (Go.yielded all.toArray b.tmps)∧
   ∀v M' N' s' w',Ext M N (· <s.nx) s.h w M' N' (· <s'.nx) s'.h w'->Fits M' N' s' nt (b.put o.dst v) w'->(∀x∈a8 pend o,eN P nt all s' x.2)->
    mv P nt all (todo.filter fun x=>!TR x.1 j) (a8 pend o) B M' N' s' (listed.setIfInBounds j is) (a.put o.dst v) w':=by
 obtain⟨bl,k0,z0⟩:=hi.er;obtain⟨_,o2,m0,a0⟩:=mem_ready.1 hj;have c0:=hi.tl _ hm;have b1:o2=o:=by
  have:all[j]? =dl o2:=by simpa using m0
  exact Uy (this.symm.trans c0)
 rw[b1]at m0 a0;have e0:=eH hu;obtain⟨b,hb,o0,x0,g0,g1⟩:=hi.ap;have d1: ∀x∈pend,waits o x.1=is∨looks all o x.2=jp:=fun x u=>by
  have:=T7.1 h1 x u;simpa using this
 have b0: ∀x∈todo,listed.getD x.1 is=is->looks all o x.2=jp∧ ∀d,x.2.dst=dl d->o.dst≠dl d:=fun x u D=>by
  have f0:=(k0 x u D).alloc;have J:j≠x.1:=fun e=>by rw[<-e,hu]at D;cases D
  exact⟨i0.vC (hi.tl x u) c0 f0 (h0 x u f0) J,((i0 _ _ (hi.tl x u) f0).2.2.2.2 _ _ c0 J).2⟩
 have Z:=mv.same g0 hns c0 hj d1 (fun x u D=>(b0 x u D).1);have Y: ∀x∈pend,listed.getD x.1 is=jp->x∈a8 pend o:=fun x u d0=>by
  refine Ub.2 ⟨u,?_⟩;cases hw:waits o x.1 with
  |false=>rfl
  |true=>
   obtain⟨e,he,hb,n0⟩:=gC hw;have:=a0 e he hb;rw[n0,mq d0]at this;cases this
 have f1: ∀k,(listed.setIfInBounds j is).getD k is=jp->k≠j∧listed.getD k is=jp:=by
  intro k hk;rw[fg e0]at hk;split at hk
  .cases hk
  .rename_i h;exact⟨h,hk⟩
 have C: ∀x∈a8 pend o,x∈pend:=fun x u=>(Ub.1 u).1
 have A: ∀x∈todo.filter (fun x=>!TR x.1 j),x∈todo∧x.1≠j:=fun x u=>by
  obtain⟨h7,h8⟩:=Ub.1 u;exact⟨h7,fun e=>by simp[e]at h8⟩
 refine⟨b,hb,Z.1,Z.2,fun v M' N' s' w' u hf h5=>?_⟩;have e1: ∀x∈a8 pend o,looks all x.2 x.2=jp:=fun x u=>by
  rcases hi.pp x (C x u) x (C x u) with h7|h7
  .obtain⟨e,he,hb,n0⟩:=gC h7;have:=jf all 0 x.1 x.2 hd (hi.pl x (C x u)) e he hb;omega
  .exact h7
 obtain⟨c,s0,t0,r0,q0,v0⟩:=oc (listed:=listed.setIfInBounds j is) hns (fun x u=>hi.pl x (C x u)) (hi.pw.sublist Wh) e1 h5 hf;have F: ∀x∈todo.filter (fun x=>!TR x.1 j),(listed.setIfInBounds j is).getD x.1 is=listed.getD x.1 is:=fun x u=>by rw[fg e0,be (A x u).2]
 refine⟨by simp[hi.size],fun x u=>hi.tl x (A x u).1,fun x u=>hi.pl x (C x u),fun x u y hy=>hi.dj x (C x u) y (A y hy).1,fun k q hk a1=>?_,hi.pw.sublist Wh,
      fun x u y hy=>hi.pp x (C x u) y (C y hy),fun y hy x u=>hi.pa y (C y hy) x (A x u).1,⟨bl,fun x G D=>?_,fun x G y p0 h1 h2=>?_⟩,c,s0,by rw[t0,iV,iV,o0],by rw[r0,kA,kA,x0],fun d j0 w0=>?_,v0⟩
 .obtain⟨h7,h8⟩:=f1 k a1;rcases hi.KS k q hk h8 with h9|h9
  .exact .inl (Ub.2 ⟨h9,by cases hb:TR k j with|false=>rfl|true=>exact absurd (TM hb) h7⟩)
  .exact .inr (Y _ h9 h8)
 .rw[F x G]at D;exact((k0 x (A x G).1 D).step u).put (b0 x (A x G).1 D).2
 .rw[F x G]at h1;rw[F y p0]at h2;exact z0 x (A x G).1 y (A y p0).1 h1 h2
 .rw[q0 d j0,fI,fI,o0];split
  .rfl
  .refine g0 d (fun x u d0=>j0 x (Y x u d0) ?_) (fun x G D=>?_)
   .have J:x.1≠j:=fun e=>hi.dj x u _ hm e.symm
    rw[fg e0,be J];exact d0
   .have J:x.1≠j:=fun e=>by rw[e,hu]at D;cases D
    have l0:x∈todo.filter (fun x=>!TR x.1 j):=Ub.2 ⟨G,by cases hb:TR x.1 j with|false=>rfl|true=>exact absurd (TM hb) J⟩;exact w0 x l0 (by rw[F x l0];exact D)
theorem Ph{E:List Nat}(hE:mC todo E=is)(hne: ∃x∈todo,aS x.2=jp)(b0: ∀x∈todo,aS x.2=is-> ∀x∈pend,eN P nt all s x.2)
  (h: ∀j o,j∈E->(j,o)∈todo->(∀o',(j,o')∈todo->o'=o)->aS o=jp∧(∀x∈todo,aS x.2=is->waits o x.1=jp)∧hQ all pend o=is∧(∀M N b w,Fits M N s nt b w->Region.wanted o (Go.yielded all.toArray b.tmps)=is)∧ ∃R,OT P nt o s R∧
   ∀s',R s'->(∀x∈a8 pend o,eN P nt all s' x.2)∧DL P nt all (todo.filter fun x=>!TR x.1 j) (a8 pend o) Q s'):DL P nt all todo pend Q s:=by
 intro G hd A B M N listed a w u hB
 induction u generalizing listed a w with
 |zero=>
  intro F hc;obtain⟨x,D,C⟩:=hne;have n0:listed.getD x.1 is=jp:=by
   obtain⟨bl,d0,_⟩:=F.er;cases hl:listed.getD x.1 is with
   |false=>rfl
   |true=>have:=(d0 x D hl).alloc;rw[C]at this;cases this
  have:=rN n0;omega
 |succ u ih=>
  intro F hc;obtain⟨bl,d0,o0⟩:=F.er;have Z: ∀x∈todo,aS x.2=jp->listed.getD x.1 is=jp:=fun x D C=>by
   cases hl:listed.getD x.1 is with
   |false=>rfl
   |true=>have:=(d0 x D hl).alloc;rw[C]at this;cases this
  refine⟨fun hr=>?_,fun j hj=>?_⟩
  .obtain⟨x,D,C⟩:=hne;have:=oZ F.size hd hr x.1;rw[Z x D C]at this;cases this
  obtain⟨hu,o,ho,c0⟩:=mem_ready.1 hj;have f0:all[j]? =dl o:=by simpa using ho
  have p0:=eH hu;rcases F.KS j o f0 hu with hm|hm
  .cases hja:aS o with
   |true=>
    obtain⟨v,w',g0,j0,e0⟩:=F.early G hd A hB (b0 _ hm hja) hm hja hu;unfold wpOp;simp only[ho];rw[am (fE (A j o f0 hja).1 _)];refine .inl ?_;unfold Oper.wp;rw[g0];simp only[Oper.upon];exact ih _ _ _ j0 e0 (by have:=eZ hu;omega)
   |false=>
   have k0:j∈E:=by
    have:=T7.1 hE _ hm;simp only[Vr,UO,TZ,UD]at this;rcases this with h1|h1|⟨y,hy,h0,h1⟩
    .simpa using h1
    .rw[hja]at h1;cases h1
    .obtain⟨e,he,hb,m0⟩:=gC h1;have:=c0 e he hb;rw[m0,mq (Z y hy h0)]at this;cases this
   obtain⟨_,h0,h1,h2,R,h3,h4⟩:=h j o k0 hm (fun o' l0=>by
    have:=F.tl _ l0;simp only at this;rw[f0]at this
    exact(Uy this).symm)
   obtain⟨b,hb,a0,i0,hnew⟩:=F.eff G hd A hm h0 h1 hj hu;unfold wpOp;simp only[ho];rw[am (by rw[i0];exact h2 M N b w hb)];refine .inl (H3 (K':=fun a' w'=> ∃J Y s',Ext M N (· <s.nx) s.h w J Y (· <s'.nx) s'.h w'∧Fits J Y s' nt a' w'∧R s') a0 ?_ ?_ (h3 M N b w hb _ _ fun J Y s' a' w' D hf hr=>⟨J,Y,s',D,hf,hr⟩))
   .rintro d w' ⟨J,Y,s',_,hf,_⟩;have:=hf.2.2.1;rw[kA]at this;have h9:d::b.defers=nt.df:=this;rw[hb.2.2.1]at h9;exact absurd (congrArg Vp h9) (by simp)
   .rintro v w' ⟨J,Y,s',D,hf,hr⟩;obtain⟨h5,h6⟩:=h4 s' hr;exact h6 G hd A B J Y _ _ w' u (hB.trans D) (hnew v J Y s' w' D hf h5) (by have:=eZ hu;omega)
  .obtain⟨v,hv,e0⟩:=F.take G A hm hj;refine wpOp_of_stOp (K:=fun a'=>a'=a.put o.dst v) (fun a' ha=>?_) (hv.stOp ho I);subst ha;exact ih _ _ _ hB e0 (by have:=eZ hu;omega)
theorem Rel.DC{M:Mem}{N:Nm}{n:Nat}{h:AH}{w:World}(hr:Rel M N (· <n) h w){aC e:Nat}{o:AO}(hM:M aC=io)(hne: ∀i p,h.get i=dl p->p.real=is->N.aC i≠aC)(ho:OR M (N.with n aC e) (· <n+1) w n o):
  Rel M (N.with n aC e) (· <n+1) ((n,dl o)::h) w:=by
 have B:=N.dB n aC e;have d: ∀i p,AH.get ((n,dl o)::h) i=dl p->(i=n∧p=o)∨(i<n∧h.get i=dl p):=by
  intro i p x;rw[AH.ax]at x;split at x
  .rename_i C;exact .inl ⟨C,by simpa using x.symm⟩
  .exact .inr ⟨hr.used i p x,x⟩
 refine⟨hr.ey,fun i p x=>?_,fun i p x D=>?_,fun i p x=>?_,fun i j p q x Z J Y u=>?_⟩
 .rcases d i p x with⟨rfl,rfl⟩|⟨y,A⟩<;>omega
 .rcases d i p x with⟨rfl,rfl⟩|⟨y,A⟩
  .simpa using hM
  .rw[B.aC i y];exact hr.dI i p A D
 .rcases d i p x with⟨rfl,rfl⟩|⟨y,A⟩
  .exact ho
  .exact(hr.obj i p A).mono (.refl _) B (fun i x=>by omega) y I
 .rcases d i p x with⟨rfl,rfl⟩|⟨y,A⟩<;>rcases d j q Z with⟨rfl,rfl⟩|⟨F,G⟩
  .rfl
  .rw[B.aC j F]at u;simp at u;exact absurd u.symm (hne _ _ G Y)
  .rw[B.aC i y]at u;simp at u;exact absurd u (hne _ _ A J)
  .rw[B.aC i y,B.aC j F]at u;exact hr.inj i j p q A G J Y u
def yO(todo:List (Nat×Oper))(i:Nat):Bool:=todo.all fun x=>TR x.1 i||(aS x.2||(waits x.2 i||todo.any fun y=>!aS y.2&&waits x.2 y.1))
def ke(s:AS)(d:Nat)(cs:List PV):AS:=match s with|⟨f,h,n⟩=>⟨(d,.ptr n 0)::f,(n,dl (.cells cs))::h,n+1⟩
theorem Hd{i:Nat}{o:Oper}{t:TypeId}{z:Value}{d:Nat}(d0:(i,o)∈todo)(ht:o.op= .alloc t)(hz: ∀w,(zeroValue t).run P w= .ok z w)(o0:o.dst=dl d)(hE:yO todo i=is)
  (m0: ∀x∈pend,eN P nt all s x.2) (a0: ∀x∈pend,eN P nt all (ke s d (cy z)) x.2)
  (h:DL P nt all (todo.filter fun x=>!TR x.1 i) pend Q (ke s d (cy z))):DL P nt all todo pend Q s:=by
 intro j0 hd b0 B M N listed a w C F;have f1:aS o=is:=by simp[aS,ht]
 have DC: ∀{C:Nat} {listed:Array Bool} {a:Act} {w:World},B.ext M N s w->mv P nt all todo pend B M N s listed a w->listed.getD i is=is->listed.toList.count jp<=C->wpAny P .any all.toArray (M8 nt B Q) C listed a w:=by
  intro C listed a w F A Z hc;obtain⟨b,hb,a2,t1,l1,f2⟩:=A.ap;obtain⟨Y,i0,p0⟩:=A.er;obtain⟨t',G,d',k1,k2,k3,k4,k5,k6,k7,k8⟩:=i0 _ d0 Z;simp only at k1 k3;have e1:t'=t:=by rw[ht]at k1;exact(Op.alloc.inj k1).symm
  subst e1;have e2:G=z:=by have:=(k2 w).symm.trans (hz w);simpa using this
  subst e2;have e3:d'=d:=by rw[o0]at k3;exact(Uy k3).symm
  subst e3;have d1:d'<nt:=by
   obtain⟨_,⟨d2,g1,g2⟩,_⟩:=b0 i o (A.tl _ d0) f1;rw[o0]at g1;rw[Uy g1];exact g2
  have ha:=N.dB s.nx (Y i) G.cells.size;have x0:=hb.1.DC (aC:=Y i) (e:=G.cells.size) (o:= .cells (cy G)) k6 k7
   ⟨G.cells,t',by simpa using k5,by simp,(ft (M:=M) (N:=N.with s.nx (Y i) G.cells.size) (U:=(· <s.nx+1)) G).1,(ft G).2,.none _⟩
  have v1:FR M (N.with s.nx (Y i) G.cells.size) (· <s.nx+1) s.f b.tmps:=hb.2.1.mono (.refl _) ha (fun i A=>by omega);have v0:VR M (N.with s.nx (Y i) G.cells.size) (· <s.nx+1) (.ptr s.nx 0) (.pointer (dl ⟨Y i,0,io⟩)):=by
   have:=VR.ptr (M:=M) (N:=N.with s.nx (Y i) G.cells.size) (U:=(· <s.nx+1)) s.nx 0 (by omega);simpa using this
  have r0:Fits M (N.with s.nx (Y i) G.cells.size) (ke s d' (cy G)) nt (b.put (dl d') (.pointer (dl ⟨Y i,0,io⟩))) w:=by
   obtain⟨sf,sh,sn⟩:=s;exact⟨x0,v1.put d' _ _ (by rw[hb.2.2.2];exact d1) v0,hb.2.2.1,by rw[iV];exact hb.2.2.2⟩
  have c0: ∀j p,(ke s d' (cy G)).h.get j=dl p->j=s.nx∨(j<s.nx∧s.h.get j=dl p):=by
   intro j p D;obtain⟨sf,sh,sn⟩:=s;simp only[ke]at D;rw[AH.ax]at D;split at D
   .rename_i e;exact .inl e
   .exact .inr ⟨hb.1.used j p D,D⟩
  have x1:(ke s d' (cy G)).nx=s.nx+1:=by obtain⟨sf,sh,sn⟩:=s;rfl
  have l0:B.ext M (N.with s.nx (Y i) G.cells.size) (ke s d' (cy G)) w:=by
   unfold Bs.ext at*
   refine⟨F.os,F.tape,F.output,F.size,F.eU,F.mz,F.eT,⟨fun j D=>(ha.aC j (F.ule j D)).trans (F.nm.aC j D),fun j D=>(ha.ext j (F.ule j D)).trans (F.nm.ext j D)⟩,fun j D=>by have:=F.ule j D;rw[x1];omega,fun j p D w0=>?_⟩;rcases c0 j p D with rfl|⟨h1,h2⟩
   .exact .inl (by simpa using k8)
   .rw[ha.aC j h1];exact F.dY j p h2 w0
  have z1: ∀x∈pend,looks all x.2 x.2=jp:=fun x J=>by
   rcases A.pp x J x J with h7|h7
   .obtain⟨e,he,hb,i1⟩:=gC h7;have:=jf all 0 x.1 x.2 hd (A.pl x J) e he hb;omega
   .exact h7
  have u: ∀x∈todo.filter (fun x=>!TR x.1 i),x∈todo∧x.1≠i:=fun x J=>by
   obtain⟨h7,h8⟩:=Ub.1 J;exact⟨h7,fun e=>by simp[e]at h8⟩
  obtain⟨c,p1,q1,o1,n1,r1⟩:=oc (listed:=listed) j0 A.pl A.pw z1 a0 r0;refine h j0 hd b0 B M _ listed a w C l0 ⟨A.size,fun x J=>A.tl x (u x J).1,A.pl,fun x J y hy=>A.dj x J y (u y hy).1,fun k q hk t0=>?_,A.pw,A.pp,fun y hy x J=>A.pa y hy x (u x J).1,⟨Y,fun x f0 k0=>?_,fun x f0 y c2=>p0 x (u x f0).1 y (u y c2).1⟩,c,p1,by rw[q1,iV,a2],by rw[o1,kA,t1],fun e b1 s1=>?_,r1⟩ hc
  .rcases A.KS k q hk t0 with h9|h9
   .refine .inl (Ub.2 ⟨h9,?_⟩);cases hbq:TR k i with
    |false=>rfl
    |true=>rw[TM hbq,Z]at t0;cases t0
   .exact .inr h9
  .obtain⟨t2,z2,d2,m1,m2,m3,m4,m5,m6,m7,m8⟩:=i0 x (u x f0).1 k0;refine⟨t2,z2,d2,m1,m2,m3,m4,m5,m6,fun j p D w0=>?_,m8⟩;rcases c0 j p D with rfl|⟨h1,h2⟩
   .rw[Nm.E4];exact fun e=>p0 x (u x f0).1 _ d0 k0 Z (u x f0).2 e.symm
   .rw[ha.aC j h1];exact m7 j p h2 w0
  .rw[n1 e b1,fI];by_cases q0:d'=e
   .subst q0;rw[am ⟨rfl,by rw[hb.2.2.2];exact d1⟩];exact k4
   .rw[be (fun hc=>q0 (Uy hc.1))];refine l1 e b1 (fun x J k0 he=>?_);by_cases j1:x.1=i
    .have h3:=A.tl x J;rw[j1,A.tl _ d0]at h3;rw[<-Uy h3,o0]at he;exact q0 (Uy he)
    .exact s1 x (Ub.2 ⟨J,by cases hb:TR x.1 i with|false=>rfl|true=>exact absurd (TM hb) j1⟩) k0 he
 clear h a0
 induction C generalizing listed a w with
 |zero=>
  intro A hc;cases Z:listed.getD i is with
  |true=>exact DC F A Z hc
  |false=>have:=rN Z;omega
 |succ C ih=>
  intro A hc;cases Z:listed.getD i is with
  |true=>exact DC F A Z hc
  |false=>
   obtain⟨Y,i0,p0⟩:=A.er;have a1: ∀x∈todo,aS x.2=jp->listed.getD x.1 is=jp:=fun x J b2=>by
    cases Z:listed.getD x.1 is with
    |false=>rfl
    |true=>have:=(i0 x J Z).alloc;rw[b2]at this;cases this
   refine⟨fun hr=>?_,fun j D=>?_⟩
   .have:=oZ A.size hd hr i;rw[Z]at this;cases this
   obtain⟨hu,q,hq,n0⟩:=mem_ready.1 D;have e0:all[j]? =dl q:=by simpa using hq
   rcases A.KS j q e0 hu with hm|hm
   .cases hja:aS q with
    |true=>
     obtain⟨v,w',z0,l0,s0⟩:=A.early j0 hd b0 F m0 hm hja hu;unfold wpOp;simp only[hq];rw[am (fE (b0 j q e0 hja).1 _)];refine .inl ?_;unfold Oper.wp;rw[z0];simp only[Oper.upon];exact ih _ _ _ l0 s0 (by have:=eZ hu;omega)
    |false=>
     exfalso;have g0: ∀k,listed.getD k is=jp->waits q k=is->False:=fun k hk hw=>by
      obtain⟨e,he,hb,i1⟩:=gC hw;have:=n0 e he hb;rw[i1,mq hk]at this;cases this
     have:=T7.1 hE _ hm;simp only[Vr,UO,TZ,UD]at this;rcases this with h1|h1|h1|⟨y,hy,h0,h1⟩
     .have w1:=TM h1;subst w1;rw[A.tl _ d0]at e0;simp only[Tm]at e0;rw[<-e0,f1]at hja;cases hja
     .rw[hja]at h1;cases h1
     .exact g0 i Z h1
     .exact g0 y.1 (a1 y hy h0) h1
   .obtain⟨v,hv,s0⟩:=A.take j0 b0 hm D;refine wpOp_of_stOp (K:=fun a'=>a'=a.put q.dst v) (fun a' ha=>?_) (hv.stOp hq I);subst ha;exact ih _ _ _ F s0 (by have:=eZ hu;omega)
def iW:Nat->List Oper->List (Nat×Oper)
 |_,[]=> []
 |n,o::r=>(n,o)::iW (n+1) r
theorem lT: ∀(l:List Oper) (n i:Nat) (o:Oper),(i,o)∈iW n l↔n<=i∧l[i-n]? =dl o
 | [],n,i,o=>by simp[iW]
 |c::l,n,i,o=>by
  simp only[iW,TQ,TC];rw[lT l (n+1) i o];by_cases h:i=n
  .subst h;simp only[true_and,Tv,Nat.sub_self,List.getElem?_cons_zero,Tm];exact⟨fun h=>h.elim Eq.symm (fun h=>by omega),fun h=> .inl h.symm⟩
  .by_cases d:n<=i
   .rw[show i-n=(i-(n+1))+1 by omega,VH];constructor
    .rintro(⟨h3,_⟩|⟨_,h3⟩)
     .exact absurd h3 h
     .exact⟨d,h3⟩
    .rintro⟨_,h3⟩;exact .inr ⟨by omega,h3⟩
   .constructor
    .rintro(⟨h3,_⟩|⟨h3,_⟩)
     .exact absurd h3 h
     .omega
    .rintro⟨h3,_⟩;exact absurd h3 d
def uz:List Oper->Bool
 | []=>is
 |o::r=>match o.op with
  | .select ..=>jp
  |_=>uz r
theorem Ek{ops:Array Oper}(h:uz ops.toList=is):Region.noSelect ops=is:=by
 have key: ∀l:List Oper,uz l=is-> ∀o∈l,(match o.op with| .select ..=>jp|_=>is)=is:=by
  intro l
  induction l with
  |nil=>intro _ o ho;cases ho
  |cons c l ih=>
   intro d o ho;unfold uz at d;split at d
   .cases d
   .rename_i j;rcases TQ.1 ho with rfl|ho
    .split
     .rename_i h;exact absurd h (j _ _)
     .rfl
    .exact ih d o ho
 unfold Region.noSelect;rw[Array.all_eq_true_iff_forall_mem];exact fun o ho=>key _ h o (by simpa using ho)
variable {k:List KI}
theorem GZ{id:Nat}{ops:Array Oper}(hm:P.follows .mixedOrders=is)(hns:Region.noSelect ops=is)(hd:ik 0 ops.toList=is)(A:jh P nt ops.toList)(h:GO P nt (.bY ops.toList (iW 0 ops.toList) []::k) Q s):GO P nt (.code (.region id ops is)::k) Q s:=by
 intro M N a w F;refine wp_region_any hm ?_;have B:=F.drew;have u: ∀x∈iW 0 ops.toList,ops.toList[x.1]? =dl x.2:=fun x d=>by
  obtain⟨_,D⟩:=(lT _ 0 x.1 x.2).1 d;simpa using D
 have C: ∀i,i<ops.size->(U3 ops.size jp).getD i is=jp:=fun i G=>by simp[Tl,G]
 have y: ∀x∈iW 0 ops.toList,(U3 ops.size jp).getD x.1 is=is->False:=fun x d j=>by
  have:x.1<ops.size:=by simpa using(Tp.1 (u x d)).1
  rw[C _ this]at j;cases j
 have:=h (by rw[UH];exact hns) hd A ⟨M,N,s.nx,s.h,w⟩ M N (U3 ops.size jp) a {w with drawn:=w.drawn+1} ops.size Ext.drew
  ⟨by simp,u,fun _ d=>(nomatch d),fun _ d=>(nomatch d),fun i o J _=> .inl ((lT _ 0 i o).2 ⟨TB _,by simpa using J⟩),W1,fun _ d=>(nomatch d),fun _ d=>(nomatch d),
   ⟨fun _=>0,fun x d j=>(y x d j).elim,fun x d _ _ j=>(y x d j).elim⟩,⟨a,B,rfl,rfl,fun _ _ _=>rfl,fun _ d=>(nomatch d)⟩⟩ (by simp)
 rw[UH]at this;exact this
theorem Az(h:GO P nt k Q s):GO P nt (.bY all [] pend::k) Q s:=Pg h
def eqB:Bool->Bool->Bool
 |true,b=>b
 |false,is=>jp
 |false,jp=>is
theorem Pe(a b:Bool):eqB a b=(a==b):=by cases a<;>cases b<;>rfl
def bV(nt:NT)(all:List Oper)(f:AF)(o:Oper):Option Bool:=
 match o.guard with
 |none=>dl is
 |some (g,want)=>match guardOf all f g with
  |some (d,.kb t)=>bif TU d nt then dl (eqB t want) else io
  |some (_,.iv (.v (.tuple _)))=>dl jp
  |_=>io
theorem eV{o:Oper}{c:Bool}(h:bV nt all s.f o=dl c){b:Act}(hf:Fits M N s nt b w):Region.wanted o (Go.yielded all.toArray b.tmps)=c:=by
 unfold bV at h;split at h
 .rename_i j;simp only[Tm]at h;rw[fE j,h]
 .rename_i g x j;split at h
  .rename_i d t u;cases hb:TU d nt with
   |false=>simp[hb]at h
   |true=>
    simp only[hb,cond_true,Tm,Pe]at h;have:=hf.tA u (Tk hb);simp[Region.wanted,j,this,<-h]
  .rename_i d vs u;simp only[Tm]at h;have:=hf.tz u;simp[Region.wanted,j,this,<-h]
  .cases h
theorem uU{i:Nat}{o:Oper}{s':AS}(j:(i,o)∈todo)(u:aS o=jp)(y: ∀x∈todo,waits o x.1=jp)(hg:bV nt all s.f o=dl is)(d:vZ all pend o=is)(he:s'.h=s.h∧s'.nx=s.nx)
  (ho: ∀M N a w,Fits M N s nt a w-> ∃x,(execOp a.eval o).run P w= .ok (.value x) w∧Fits M N s' nt (a.put o.dst x) w) (h:GO P nt (.bY all (todo.filter fun x=>!TR x.1 i) ((i,o)::pend)::k) Q s'):GO P nt (.bY all todo pend::k) Q s:=
 Dp j u y d he (fun M N b w A=>let ⟨x,h1,h2⟩:=ho M N b w A;⟨x,.inl ⟨eV hg A,.inl h1⟩,h2⟩) h
theorem GY{i:Nat}{o:Oper}(j:(i,o)∈todo)(u:aS o=jp)(y: ∀x∈todo,waits o x.1=jp)(hg:bV nt all s.f o=dl jp)(d:vZ all pend o=is)
  (h:GO P nt (.bY all (todo.filter fun x=>!TR x.1 i) ((i,o)::pend)::k) Q (gE o s)):GO P nt (.bY all todo pend::k) Q s:=
 Dp j u y d (iR o s) (fun _ _ _ _ A=>⟨undef,.inr ⟨eV hg A,rfl⟩,A.skip o⟩) h
theorem rD{d:Nat}{t:Bool}(G:s.f.get d= .iv (.v (.bool t)))(h1:t=is->GO P nt (.bY all todo pend::k) Q (setBool s (.tmp d) is))(C:t=jp->GO P nt (.bY all todo pend::k) Q (setBool s (.tmp d) jp)):
  GO P nt (.bY all todo pend::k) Q s:=by
 have key:GO P nt (.bY all todo pend::k) Q (setBool s (.tmp d) t):=by
  cases t
  .exact C I
  .exact h1 I
 intro A hd y B M N listed a w x D j F;obtain⟨b,hb,u⟩:=j.ap;exact key A hd y B M N listed a w x D ⟨j.size,j.tl,j.pl,j.dj,j.KS,j.pw,j.pp,j.pa,j.er,b,hb.setBool (c:= .tmp d) G,u⟩ F
theorem nV{E:List Nat}(hE:mC todo E=is)(hne: ∃x∈todo,aS x.2=jp)(u: ∀x∈todo,aS x.2=is-> ∀x∈pend,eN P nt all s x.2)
  (h: ∀j o,j∈E->(j,o)∈todo->(∀y,(j,y)∈todo->y=o)->aS o=jp∧(∀x∈todo,aS x.2=is->waits o x.1=jp)∧hQ all pend o=is∧bV nt all s.f o=dl is∧ ∃R,OT P nt o s R∧
   ∀s',R s'->(∀x∈a8 pend o,eN P nt all s' x.2)∧GO P nt (.bY all (todo.filter fun x=>!TR x.1 j) (a8 pend o)::k) Q s'):GO P nt (.bY all todo pend::k) Q s:=
 Ph hE hne u fun j o A B C=>let ⟨a,b,c,d,e⟩:=h j o A B C;⟨a,b,c, @fun _ _ _ _=>eV d,e⟩
theorem EB{i:Nat}{o:Oper}{t:TypeId}{z:Value}{d:Nat}(A:(i,o)∈todo)(B:o.op= .alloc t)(C: ∀w,(zeroValue t).run P w= .ok z w)(y:o.dst=dl d)(hE:yO todo i=is)
  (u: ∀x∈pend,eN P nt all s x.2) (j: ∀x∈pend,eN P nt all (ke s d (cy z)) x.2)
  (h:GO P nt (.bY all (todo.filter fun x=>!TR x.1 i) pend::k) Q (ke s d (cy z))):GO P nt (.bY all todo pend::k) Q s:=Hd A B C y hE u j h
end
section
variable {P:Program} {nt:NT} {Q:AQ} {k:List KI} {s:AS}
theorem GG{ty:Ty}(c0:bE P ty){o:Oper}{c:Call}(ho:o.op= .call c){g:FuncId}{asv:List PV}(ha:bM s.f c=dl (g,asv)){fn:Func}{cb:Code}(B:P.funcs[g]? =dl fn)(hb:fn.body=dl cb)
  (hn:(fn.name== "runtime.NumGoroutine")=jp) {G:Nat} (g0:fn.ntmps=G) {l:List ResultVar} (hl:fn.results.toList=l) (f0:asv.length<=G) {R:AS->Prop}
  (h:AW P G cb (fun e t=>(e= .normal∨e= .ret)∧ ∃r s',jy ty t l=dl r∧putDst nt o r ⟨s.f,t.h,t.nx⟩=dl s'∧R s') ⟨kS 0 asv,s.h,s.nx⟩):OT P nt o s R:=by
 intro M N a w F K Z hk;obtain⟨vs,D,C,hv⟩:=AK F ho ha (bQ B hb hn);unfold Oper.wp;rw[D];simp only[Oper.upon];refine calls_of_wp B hb ?_;have A:Fits M N ⟨kS 0 asv,s.h,s.nx⟩ G {tmps:=vs.toArray++U3 (fn.ntmps-vs.toArray.size) undef,defers:=[]} w:=by
  refine⟨F.1,fun i=>?_,rfl,by simp;omega⟩;rw[qO,am (TB _),V4,Tr];cases hi:asv[i]? with
  |none=>exact .any _
  |some p=>
   have a0:i<vs.length:=by rw[<-C];exact(Tp.1 hi).1
   have:=hv i p hi;have e:(vs.toArray++U3 (fn.ntmps-vs.toArray.size) undef).getD i undef=vs.getD i undef:=by
    rw[Tl,T6 (by simpa using a0),Tr];simp
   simp only[UI];rw[e];exact this
 refine AW.then h A fun e a' u J Y t hx j hq=>?_;obtain⟨he,r,s',b0,hp,hR⟩:=hq;obtain⟨x,d0,e0⟩:=xW c0 j hl b0;have y:Fits J Y ⟨s.f,t.h,t.nx⟩ nt a u:=⟨j.1,F.2.1.ext hx,F.2.2⟩
 have hK:K (a.put o.dst x) u:=by
  cases hd:o.dst with
  |none=>
   have:=dx hp hd;subst this;exact hk J Y {f:=s.f,h:=t.h,nx:=t.nx} _ u hx y hR
  |some d=>
   obtain⟨h1,rfl⟩:=dw hp hd;exact hk J Y {f:=(d,r)::s.f,h:=t.h,nx:=t.nx} _ u hx (y.put d _ x h1 e0) hR
 have:a'.defers=[]∧ ∃v,(results fn a'.tmps).run P u= .ok v u∧K (a.put o.dst v) u:=⟨j.2.2.1,x,d0,hK⟩
 rcases he with rfl|rfl<;>exact this
theorem O7{ty:Ty}(y:bE P ty){all rest:List Oper}{o:Oper}{c:Call}(hg:o.guard=io)(ho:o.op= .call c){g:FuncId}{asv:List PV}(ha:bM s.f c=dl (g,asv)){fn:Func}{B:Code}(j:P.funcs[g]? =dl fn)(hb:fn.body=dl B)
  (hn:(fn.name== "runtime.NumGoroutine")=jp) {A:Nat} (x:fn.ntmps=A) {l:List ResultVar} (hl:fn.results.toList=l) (u:asv.length<=A)
  (h:GO P A (.code B:: .KJ nt s.f (jy ty · l) o all rest::k) Q ⟨kS 0 asv,s.h,s.nx⟩):GO P nt (.ops all (o::rest)::k) Q s:=by
 refine bF (R:=fun t=>GO P nt (.ops all rest::k) Q t) hg (GG y ho ha j hb hn x hl u ?_) (fun t ht=>ht);intro M N a w hf;refine AW.then h hf fun e a' w' D F t hx d C=>⟨D,F,t,hx,d,?_⟩
 simp only[kp]at C;obtain⟨Z,r,s',G,J,Y⟩:=C;exact⟨Z,r,s',G,J,Y⟩
theorem KD{ty:Ty}(D:bE P ty){all:List Oper}{todo pend:List (Nat×Oper)}{j:Nat}{o:Oper}{c:Call}(hrd:(j,o)∈todo)(hE:mC todo [j]=is)(F: ∀x∈todo,waits o x.1=jp)(d: ∀x∈todo,aS x.2=is-> ∀x∈pend,eN P nt all s x.2)(hpb:hQ all pend o=is)(hg:bV nt all s.f o=dl is)(ho:o.op= .call c){g:FuncId}{asv:List PV}
  (ha:bM s.f c=dl (g,asv)) {fn:Func} {Y:Code} (A:P.funcs[g]? =dl fn) (hb:fn.body=dl Y)
  (hn:(fn.name== "runtime.NumGoroutine")=jp) {J:Nat} (C:fn.ntmps=J) {l:List ResultVar} (hl:fn.results.toList=l) (B:asv.length<=J)
  (h:GO P J (.code Y:: .KK nt s.f (jy ty · l) j o all todo pend::k) Q ⟨kS 0 asv,s.h,s.nx⟩):GO P nt (.bY all todo pend::k) Q s:=by
 have u:aS o=jp:=by simp[aS,ho]
 refine nV hE ⟨_,hrd,u⟩ d fun j' o' Z _ hu=>?_;simp only[TF]at Z;subst Z;have:=hu o hrd;subst this;refine⟨u,fun x G _=>F x G,hpb,hg,_,GG D ho ha A hb hn C hl B (R:=fun s'=>(∀x∈a8 pend o,eN P nt all s' x.2)∧GO P nt (.bY all (todo.filter fun x=>!TR x.1 j') (a8 pend o)::k) Q s') ?_,fun s' hs=>hs⟩;intro M N a w hf;refine AW.then h hf fun e a' w' M' N' t G y hq=>⟨M',N',t,G,y,?_⟩
 simp only[kp]at hq;obtain⟨he,r,s',h1,h2,h3,h4⟩:=hq;exact⟨he,r,s',h1,h2,h3,h4⟩
theorem UA.more{b:Code}{Q:AQ}: ∀{n:Nat} {s:AS},UA P nt b Q n s->n≠0
 |0,_,h=>h.elim
 |_+1,_,_=>by simp
theorem yA{b:Code}{n:Nat}(h:GO P nt (.code b:: .DI b n::k) Q s):GO P nt (.code (.loop b)::k) Q s:=by
 have h0:UA P nt b (kp P nt k Q) (n+1) s:=by
  intro M N a w Z;refine AW.then h Z fun e y D u x t C d hq=>⟨u,x,t,C,d,?_⟩
  cases e<;>exact hq
 intro M0 N0 a0 w0 c0
 let J:Act->World->Nat->Prop:=fun a w m=> ∃t M N,Ext M0 N0 (· <s.nx) s.h w0 M N (· <t.nx) t.h w∧Fits M N t nt a w∧UA P nt b (kp P nt k Q) m t
 have Y:J a0 w0 (n+1):=⟨s,M0,N0,.refl _ _ _ _ _,c0,h0⟩
 have dd: ∀{p:Nat->Prop},(∃n,p n)-> ∃n,p n∧ ∀m,p m->n<=m:=by
  intro p ⟨n,hn⟩
  induction n using Nat.strongRecOn with
  |_ n ih=>
   by_cases B: ∃m,m<n∧p m
   .obtain⟨m,F,G⟩:=B;exact ih m F G
   .exact⟨n,hn,fun m G=>UR fun F=>B ⟨m,F,G⟩⟩
 refine wp_loop (fun a w=> ∃n,J a w n) (fun a w=>by classical exact if h: ∃n,J a w n then VV (dd h) else 0) ⟨_,Y⟩ fun a w b0=>?_;obtain⟨⟨t,M,N,C,Z,hu⟩,d0⟩:=Vk (dd b0);obtain⟨m,B⟩: ∃m,VV (dd b0)=m+1:=⟨VV (dd b0)-1,by have:=hu.more;omega⟩
 rw[B]at hu;refine AW.then hu Z fun e y D u x s' j d hr=>?_
 cases e with
 |normal=>
  have A:J y D m:=⟨s',u,x,C.trans j,d,hr⟩
  refine⟨⟨_,A⟩,?_⟩;simp only[dif_pos b0,dif_pos (⟨_,A⟩: ∃n,J y D n)];have:=(Vk (dd (⟨_,A⟩: ∃n,J y D n))).2 _ A;omega
 |_=>exact⟨u,x,s',C.trans j,d,hr⟩
theorem go_round{b:Code}{n:Nat}(h:GO P nt (.code b:: .DI b n::k) Q s):GO P nt (.DI b (n+1)::k) Q s:=by
 intro M N a w x;refine AW.then h x fun e B C j u t A d y=>⟨j,u,t,A,d,?_⟩
 cases e<;>exact y
end
section
variable {M:Mem} {N:Nm} {w:World} {n:Nat} {h:AH}
theorem ba{i:Nat}{h:AH}: ∀j o,AH.get ((i,io)::h) j=dl o->j≠i∧h.get j=dl o:=by
 intro j o d;rw[AH.ax]at d;split at d
 .cases d
 .rename_i u;exact⟨u,d⟩
theorem Rel.move(hr:Rel M N (· <n) h w){i:Nat}{o0:AO}(hi:h.get i=dl o0)(h0:o0.real=is)(D:World)(o:AO)(c0:D.os=w.os)(G:D.tape=w.tape)(J:D.output=w.output)(e0:D.heap.size=w.heap.size)
  (Z: ∀b,b≠N.aC i->D.heap[b]? =w.heap[b]?) (ho:OR M (N.with n (N.aC i) (N.ext i)) (· <n+1) D n o) (hd:w.drawn<=D.drawn:=by first|exact Tv _|exact Vg _):
  Ext M N (· <n) h w M (N.with n (N.aC i) (N.ext i)) (· <n+1) ((n,dl o)::(i,io)::h) D∧Rel M (N.with n (N.aC i) (N.ext i)) (· <n+1) ((n,dl o)::(i,io)::h) D:=by
 have F:=N.dB n (N.aC i) (N.ext i);have d: ∀j p,AH.get ((n,dl o)::(i,io)::h) j=dl p->(j=n∧p=o)∨(j<n∧j≠i∧h.get j=dl p):=by
  intro j p y;rw[AH.ax]at y;split at y
  .rename_i Y;exact .inl ⟨Y,by simpa using y.symm⟩
  .obtain⟨A,B⟩:=ba j p y;exact .inr ⟨hr.used j p B,A,B⟩
 have d0:=hr.used i o0 hi;refine⟨⟨c0,G,⟨J,hd⟩,by omega,fun b hb hn=>Z b (fun e=>hn i o0 hi h0 e.symm),.refl _,fun b c A B=>by simp[A]at B,F,fun i hi=>by omega,fun j p y x=>?_⟩,?_⟩
 .rcases d j p y with⟨rfl,rfl⟩|⟨A,B,C⟩
  .exact .inr ⟨i,o0,hi,h0,by simp⟩
  .exact .inr ⟨j,p,C,x,(F.aC j A).symm⟩
 .refine⟨fun b c hb=>?_,fun j p y=>?_,fun j p y x=>?_,fun j p y=>?_,fun j k p q y a0 hp hq u=>?_⟩
  .have b0:b≠N.aC i:=fun e=>by
    have:=hr.dI i o0 hi h0;rw[<-e,hb]at this;simp at this
   exact(hr.ey b c hb).mono (Z b b0)
  .rcases d j p y with⟨rfl,rfl⟩|⟨A,B,C⟩<;>omega
  .rcases d j p y with⟨rfl,rfl⟩|⟨A,B,C⟩
   .simpa using hr.dI i o0 hi h0
   .rw[F.aC j A];exact hr.dI j p C x
  .rcases d j p y with⟨rfl,rfl⟩|⟨A,B,C⟩
   .exact ho
   .cases x:p.real with
    |true=>exact(hr.obj j p C).mono (.refl _) F (fun i hi=>by omega) A (Z _ (fun e=>B (hr.inj j i p o0 C hi x h0 e)))
    |false=>
     cases p with
     |row sz es=>cases es with
      |nil=>exact .inl I
      |cons=>cases x
     |bA l T=>cases l with
      |nil=>exact .inl I
      |cons=>cases x
     |_=>cases x
  .rcases d j p y with⟨rfl,rfl⟩|⟨A,B,C⟩<;>rcases d k q a0 with⟨rfl,rfl⟩|⟨h4,h5,h6⟩
   .rfl
   .rw[F.aC k h4]at u;simp at u;exact absurd (hr.inj _ _ _ _ hi h6 h0 hq u).symm h5
   .rw[F.aC j A]at u;simp at u;exact absurd (hr.inj _ _ _ _ C hi hp h0 u) B
   .rw[F.aC j A,F.aC k h4]at u;exact hr.inj _ _ _ _ C h6 hp hq u
theorem Rel.del{U:Nat->Prop}(hr:Rel M N U h w)(i:Nat):Rel M N U ((i,io)::h) w:=
 ⟨hr.ey,fun j o d=>hr.used j o (ba j o d).2,fun j o d u=>hr.dI j o (ba j o d).2 u,fun j o d=>hr.obj j o (ba j o d).2,
  fun j k o p d x=>hr.inj j k o p (ba j o d).2 (ba k p x).2⟩
theorem Ext.del{x:Mem}{y:Nm}{U A:Nat->Prop}{B:AH}{C:World}(d:Ext M N U h w x y A B C)(i:Nat):Ext M N U h w x y A ((i,io)::B) C:=
 ⟨d.os,d.tape,d.output,d.size,d.eU,d.mz,d.eT,d.nm,d.ule,fun j o D u=>d.dY j o (ba j o D).2 u⟩
theorem Rel.swap{U:Nat->Prop}{i j:Nat}(u:i≠j){o p:Option AO}(hr:Rel M N U ((i,o)::(j,p)::h) w):Rel M N U ((j,p)::(i,o)::h) w:=by
 have e: ∀k,AH.get ((j,p)::(i,o)::h) k=AH.get ((i,o)::(j,p)::h) k:=by
  intro k;simp only[AH.ax];by_cases x:k=i
  .subst x;rw[be u,am I,am I]
  .simp[x]
 exact⟨hr.ey,fun k o d=>hr.used k o (by rw[<-e];exact d),fun k o d=>hr.dI k o (by rw[<-e];exact d),fun k o d=>hr.obj k o (by rw[<-e];exact d),
  fun k l o p d y=>hr.inj k l o p (by rw[<-e];exact d) (by rw[<-e];exact y)⟩
end
inductive Src (h:AH) (sz:Nat):PV->List (List PV)->Prop
 |bU (n:Nat) (el:Nat->List IV):Src h sz (.iv (.bU sz n el)) ((Uk n).map fun k=>(el k).map .iv)
 |row (j off n:Nat) (fs:List (List PV)) (hj:h.get j=dl (.row sz fs)) (hle:off+n<=fs.length):Src h sz (.sl j off n sz) ((fs.drop off).take n)
 |nil:Src h sz (.iv (.v (.slice io 0 0))) []
theorem lC{sz:Nat}: ∀{es:List (List PV)},(∀(k:Nat) (e:List PV),es[k]? =dl e->e.length=sz)-> ∀j p,es.flatten[j]? =dl p-> ∃k e i,es[k]? =dl e∧e[i]? =dl p∧j=k*sz+i
 | [],_,j,p,h=>by simp at h
 |e::r,hl,j,p,h=>by
  rw[Wv]at h;have A:=hl 0 e I;rcases Un j e.length with hj|hj
  .rw[TG hj]at h;exact⟨0,e,j,rfl,h,by simp⟩
  .rw[TI hj]at h;obtain⟨k,d,i,u,x,y⟩:=lC (fun k e h=>hl (k+1) e (by simpa using h)) _ p h;exact⟨k+1,d,i,by simpa using u,x,by rw[Ug];omega⟩
theorem di{sz:Nat}: ∀{es:List (List PV)},(∀(k:Nat) (e:List PV),es[k]? =dl e->e.length=sz)->es.flatten.length=es.length*sz
 | [],_=>by simp
 |e::r,hl=>by
  rw[Wv,Tn,di (fun k e h=>hl (k+1) e (by simpa using h)),hl 0 e I,TO,Ug];omega
theorem jZ{sz:Nat}: ∀{es:List (List PV)},(∀(k:Nat) (e:List PV),es[k]? =dl e->e.length=sz)-> ∀k e i p,es[k]? =dl e->e[i]? =dl p->es.flatten[k*sz+i]? =dl p
 | [],_,k,e,i,p,h,_=>by simp at h
 |e0::r,hl,k,e,i,p,h,hi=>by
  rw[Wv];have d:=hl 0 e0 I;cases k with
  |zero=>
   simp at h;subst h;rw[U6,TL,TG (Tp.1 hi).1];exact hi
  |succ k=>
   rw[TI (by rw[d,Ug];omega)];rw[show(k+1)*sz+i-e0.length=k*sz+i by rw[d,Ug];omega];exact jZ (fun k e h=>hl (k+1) e (by simpa using h)) k e i p (by simpa using h) hi
section
variable {P:Program} {ty:Ty} {M:Mem} {N:Nm} {w:World} {nt:NT} {s:AS} {a:Act}
theorem Src.ok{sz:Nat}{p:PV}{news:List (List PV)}(hs:Src s.h sz p news)(hf:Fits M N s nt a w){y:Value}(hy:VR M N (· <s.nx) p y):
  (∀(k:Nat) (e:List PV),news[k]? =dl e->e.length=sz)∧ ∃G c,y= .slice G news.length c∧(news≠ []-> ∃b a0,G=dl ⟨b,a0,io⟩∧
   ∀j p,news.flatten[j]? =dl p-> ∃u,w.cell? ⟨b,a0+j,io⟩=dl u∧VR M N (· <s.nx) p u):=by
 cases hs with
 |bU n el=>
  cases hy with
  |iv _ _ D=>
   cases D with
   |fN _ _ G c=>exact⟨by simp,G,c,by simp,by simp⟩
   |bU _ _ _ b a0 c hn hc hl hm hr=>
    have B: ∀(k:Nat) (e:List PV),((Uk n).map fun k=>(el k).map PV.iv)[k]? =dl e->e.length=sz:=by
     intro k e x;rw[Tu,Tw]at x;obtain⟨k',C,rfl⟩:=x;obtain⟨d,A⟩:=Tp.1 C;simp at A d;subst A;simpa using hl k d
    refine⟨B,_,c,by simp,fun _=>⟨b,a0,rfl,fun j p hp=>?_⟩⟩;obtain⟨k,e,i,d,A,rfl⟩:=lC B j p hp;rw[Tu,Tw]at d;obtain⟨k',C,rfl⟩:=d;obtain⟨J,h4⟩:=Tp.1 C;simp at h4 J;subst h4;rw[Tu,Tw]at A;obtain⟨q,hq,rfl⟩:=A;have D:i<sz:=by rw[<-hl k J];exact(Tp.1 hq).1
    have h5:=hm k i J D;cases hv:M.cell b (a0+k*sz+i) with
    |none=>simp[hv]at h5
    |some u=>
     refine⟨u,by rw[<-Ux];exact hf.1.Gu hv,.iv _ _ ?_⟩;have:=hr k i q J hq;rw[hv]at this;exact this
 |row j a0 n fs hj hle=>
  have Y:=hf.1.obj j _ hj;have base:(∀(k:Nat) (e:List PV),fs[k]? =dl e->e.length=sz)-> ∀(k:Nat) (e:List PV),((fs.drop a0).take n)[k]? =dl e->e.length=sz:=by
   intro h k e x;rw[T4]at x;split at x
   .rw[Uz]at x;exact h _ e x
   .cases x
  cases hy with
  |lK _ _ hU=>exact⟨by simp,io,0,by simp,by simp⟩
  |sle _ _ cap hU hc x=>exact⟨by simp,dl ⟨N.aC j,0,io⟩,cap,by simp,by simp⟩
  |sl _ _ _ _ cap hU h0 hl hc x=>
   rcases Y with rfl|⟨hsz,c,T,g1,g2,g3,g4,g5⟩
   .simp at hle;omega
   refine⟨base g4,_,cap,by simp;rw[Nat.min_eq_left (by omega)],fun _=>⟨N.aC j,a0*sz,rfl,fun i p hp=>?_⟩⟩;obtain⟨k,e,F,d,A,rfl⟩:=lC (base g4) i p hp;rw[T4]at d;split at d
   .rename_i hk;rw[Uz]at d;have c0:F<sz:=by rw[<-g4 _ e d];exact(Tp.1 A).1
    have Z:a0+k<fs.length:=(Tp.1 d).1;have b0:(a0+k)*sz+F<c.size:=by
     have:(a0+k+1)*sz<=fs.length*sz:=TN _ Z;rw[Ug]at this;omega
    refine⟨c.getD ((a0+k)*sz+F) undef,?_,g5 _ e _ p d A⟩;rw[show a0*sz+(k*sz+F)=(a0+k)*sz+F by rw[Ug];omega];simp[World.cell?,g1,Tl,b0]
   .cases d
 |nil=>
  cases hy with
  |iv _ _ D=>cases D with
   |v=>exact⟨by simp,io,0,rfl,by simp⟩
theorem nJ{l:List PV}{b off:Nat}(h: ∀j p,l[j]? =dl p-> ∃u,w.cell? ⟨b,off+j,io⟩=dl u∧VR M N (· <s.nx) p u):
  ∃vs:List Value,vs.length=l.length∧(∀(j:Nat) (u:Value),vs[j]? =dl u->w.cell? ((⟨b,off,io⟩:Addr).add j)=dl u)∧ ∀(j:Nat) (p:PV),l[j]? =dl p->VR M N (· <s.nx) p (vs.getD j undef):=by
 refine⟨(Uk l.length).map fun j=>(w.cell? ⟨b,off+j,io⟩).getD undef,by simp,fun j u hu=>?_,fun j p B=>?_⟩
 .rw[Tu,Tw]at hu;obtain⟨D,d,rfl⟩:=hu;obtain⟨y,A⟩:=Tp.1 d;simp at y A;subst A;obtain⟨u,hu,_⟩:=h j _ (Ts y);rw[dp,hu];rfl
 .have x:j<l.length:=(Tp.1 B).1;obtain⟨u,hu,C⟩:=h j p B;rw[Tr];simp[x,hu,C]
theorem iA(t ty e:TypeId)(i:TypeInfo)(J:P.underlying t=dl (.slice e))(hi:P.info? e=dl i)(T:TypeId)
  (g d y:Nat) (x:Array Value) (hg:w.heap[g]? =dl (.cells x T (0,0)))
  (a:Addr) (m c:Nat) (news:List Value) (G:news.length=m*i.size) (A: ∀(j:Nat) (u:Value),news[j]? =dl u->w.cell? (a.add j)=dl u) (h1: ∀u∈news,u.oneCell'=is)
  (B:d+m<=y) (C:d*i.size+news.length<=x.size):
  (Builtin.append_ #[t,t] ty #[.slice (dl ⟨g,0,io⟩) d y,.slice (dl a) m c]).run P w=
   .ok (.slice (dl ⟨g,0,io⟩) (d+m) y) (w.setRow g (x.toList.take (d*i.size)++news++x.toList.drop (d*i.size+news.length)).toArray):=by
 have F:=run_firstCells_some (P:=P) w i.size m a m c news G A;have D:=run_storeCells_at P g (d*i.size) T news 0 x w hg (by simpa using C) h1;simp only[Vd]at D;simp[Builtin.append_,run_underlying J,sizeOf,typeInfo,hi,Builtin.lenOf,B,F,Addr.add_lit,D]
theorem fh(t ty e:TypeId)(i:TypeInfo)(B:P.underlying t=dl (.slice e))(hi:P.info? e=dl i)(x:Option Addr)(j d:Nat)(u:j<=d)(y:Option Addr)(c:Nat)(hs:x=io∨ ∃b o,x=dl ⟨b,o,io⟩):
  (Builtin.append_ #[t,t] ty #[.slice x j d,.slice y 0 c]).run P w= .ok (.slice x j d) w:=by
 have A:(Builtin.firstCells i.size 0 (.slice y 0 c)).run P w= .ok #[] w:=by
  cases y with
  |none=>simp[Builtin.firstCells]
  |some a=>simp[Builtin.firstCells,loadCells,loadCellsFrom]
 rcases hs with rfl|⟨b,o,rfl⟩
 .simp[Builtin.append_,run_underlying B,sizeOf,typeInfo,hi,Builtin.lenOf,u,A]
 .simp[Builtin.append_,run_underlying B,sizeOf,typeInfo,hi,Builtin.lenOf,u,A,storeCells]
def gX(s:AS)(i sz:Nat)(es news:List (List PV)):AS:=match s with|⟨f,h,n⟩=>⟨f,(n,dl (.row sz (es++news)))::(i,io)::h,n+1⟩
theorem HF(s:AS)(i sz:Nat)(es news:List (List PV)):(gX s i sz es news).h=(s.nx,dl (.row sz (es++news)))::(i,io)::s.h:=by cases s;rfl
theorem Po(s:AS)(i sz:Nat)(es news:List (List PV)):(gX s i sz es news).f=s.f:=by cases s;rfl
theorem gB(s:AS)(i sz:Nat)(es news:List (List PV)):(gX s i sz es news).nx=s.nx+1:=by cases s;rfl
theorem im{i sz:Nat}{es news:List (List PV)}{d:Mem}{j:Nm}{u:World}(hf:Fits M N s nt a w)(x:Ext M N (· <s.nx) s.h w d j (· <s.nx+1) ((s.nx,dl (.row sz (es++news)))::(i,io)::s.h) u)
  (hr:Rel d j (· <s.nx+1) ((s.nx,dl (.row sz (es++news)))::(i,io)::s.h) u):
  Ext M N (· <s.nx) s.h w d j (· <(gX s i sz es news).nx) (gX s i sz es news).h u∧Fits d j (gX s i sz es news) nt a u:=by
 rw[HF,gB];refine⟨x,?_,?_,hf.2.2⟩
 .rw[HF,gB];exact hr
 .rw[Po,gB];exact hf.2.1.ext x
theorem Ext.swap{U B:Nat->Prop}{h u:AH}{y:Mem}{A:Nm}{D:World}{i j:Nat}(x:i≠j){o p:Option AO}(d:Ext M N U h w y A B ((i,o)::(j,p)::u) D):Ext M N U h w y A B ((j,p)::(i,o)::u) D:=by
 have e: ∀k,AH.get ((j,p)::(i,o)::u) k=AH.get ((i,o)::(j,p)::u) k:=by
  intro k;simp only[AH.ax];by_cases C:k=i
  .subst C;rw[be x,am I,am I]
  .simp[C]
 exact⟨d.os,d.tape,d.output,d.size,d.eU,d.mz,d.eT,d.nm,d.ule,fun k o F=>d.dY k o (by rw[<-e];exact F)⟩
theorem Pn(t1:bE P ty){o:Oper}{x y:Operand}{t u:TypeId}(ho:o.op= .call ⟨.builtin .append, #[x,y], #[t,t]⟩){e eu:bJ}(ht:ty t=dl e)(hk:e.k= .aR (.slice u))(hu:ty u=dl eu)
  {i len sz:Nat} {es news:List (List PV)} {py:PV} (hx:ev s.f x= .sl i 0 len sz) (hi:s.h.get i=dl (.row sz es)) (C:es.length=len) (i2:eu.size=sz) (hz:eu.zero.cells.size=sz) (f2:0<sz)
  (d2:ev s.f y=py) (hy:Src s.h sz py news) (j1: ∀e∈news,eM e=is) (hb:(len+news.length)*eu.bytes<=140737488355328) (n2:len+news.length<=140737488355328)
  {s':AS} (hp:putDst nt o (.sl s.nx 0 (len+news.length) sz) (gX s i sz es news)=dl s'):OT P nt o s (fun t=>t=s'):=by
 refine OT.value hp fun M N a w hf=>?_;subst i2;obtain⟨⟨ii,o0,t0,a2,r1⟩,_⟩:=t1 u _ hu
 have q0:P.underlying t=dl (.slice u):=by
  have:=(t1 t _ ht).2.1;rw[hk]at this;exact this.1
 have m1:=aJ hf.2.1 x;rw[hx]at m1;have v1:=aJ hf.2.1 y;rw[d2]at v1;obtain⟨G,ao,c,m2,c0⟩:=hy.ok hf v1;have A: ∀v w',(Builtin.append_ #[t,t] o.type #[a.eval x,a.eval y]).run P w= .ok v w'->(execOp a.eval o).run P w= .ok (.value v) w':=by
  intro v w' h;simp only[execOp,ho,resolve];simp[invoke,builtin,h]
 rw[m2]at A;have o2:i<s.nx:=hf.1.used i _ hi;have v0:s.nx≠i:=by omega
 have c2:=hf.1.obj i _ hi;have b0:(len+news.length)*ii.bytes<=140737488355328:=by rw[a2];exact hb
 have f0: ∀(D vs:List Value) (a0:Nat),D.length=es.length*eu.size->vs.length=news.length*eu.size->(∀(k:Nat) (e:List PV) (j:Nat) (p:PV),es[k]? =dl e->e[j]? =dl p->VR M N (· <s.nx) p (D.getD (k*eu.size+j) undef))->
   (∀(k:Nat) (e:List PV),es[k]? =dl e->e.length=eu.size)->(∀(j:Nat) (p:PV),news.flatten[j]? =dl p->VR M N (· <s.nx) p (vs.getD j undef))->len+news.length<=a0->a0<=maxLen->0<len+news.length->
   ∀z:Array Value,z=D.toArray++vs.toArray++Builtin.zeroCells eu.zero.cells (a0-(len+news.length))->
   ∃M' N',Ext M N (· <s.nx) s.h w M' N' (· <(gX s i eu.size es news).nx) (gX s i eu.size es news).h (w.drew.alloc (.cells z u))∧Fits M' N' (gX s i eu.size es news) nt a (w.drew.alloc (.cells z u))∧
    VR M' N' (· <(gX s i eu.size es news).nx) (.sl s.nx 0 (len+news.length) eu.size) (.slice (dl ⟨w.heap.size,0,io⟩) (len+news.length) a0):=by
  intro D vs a0 i1 J k2 p1 j2 j0 z1 k1 z n1;have e0:z.size=a0*eu.size:=by
   rw[n1,UZ,UZ,size_zeroCells,hz];simp only[VC,i1,J,C];rw[<-Ug,<-Ug,Nat.add_sub_cancel' j0]
  obtain⟨N',h1,h2,h3,h4,h5⟩:=hf.1.drew.alloc (.cells z u) (.row eu.size (es++news)) z.size (fun N' g1 g2 g3=>by
   refine .inr ⟨f2,z,u,by rw[g1];exact heap_alloc_new _ _,g2.symm,?_,fun k e d=>?_,fun k e j p d F=>?_⟩
   .rw[e0,Tn,C];exact TN _ j0
   .rcases Un k es.length with hk|hk
    .rw[TG hk]at d;exact p1 k e d
    .rw[TI hk]at d;exact G _ e d
   .rcases Un k es.length with hk|hk
    .rw[TG hk]at d;have d1:j<eu.size:=by rw[<-p1 k e d];exact(Tp.1 F).1
     have n0:k*eu.size+j<D.length:=by
      rw[i1];have:(k+1)*eu.size<=es.length*eu.size:=TN _ hk;rw[Ug]at this;omega
     have:=k2 k e j p d F;have e1:z.getD (k*eu.size+j) undef=D.getD (k*eu.size+j) undef:=by
      rw[n1,Tl,V1,T6 (by simpa using n0),Tr];simp
     rw[e1];exact this.mono (.refl _) g3 (fun i hi=>by omega)
    .rw[TI hk]at d;have d1:j<eu.size:=by rw[<-G _ e d];exact(Tp.1 F).1
     have f1:k-es.length<news.length:=(Tp.1 d).1;have b1:=jZ G _ e j p d F;have n0:(k-es.length)*eu.size+j<vs.length:=by
      rw[J];have:(k-es.length+1)*eu.size<=news.length*eu.size:=TN _ f1;rw[Ug]at this;omega
     have d0:k*eu.size+j=D.length+((k-es.length)*eu.size+j):=by
      rw[i1,WO];have:es.length*eu.size<=k*eu.size:=TN _ hk;omega
     have:=j2 _ p b1;have e1:z.getD (k*eu.size+j) undef=vs.getD ((k-es.length)*eu.size+j) undef:=by
      rw[n1,Tl,d0,T6 (by simp;omega),Vu (by simp),Tr];simp
     rw[e1];exact this.mono (.refl _) g3 (fun i hi=>by omega))
  have e2:=(h5.del i).swap (Ne.symm v0);have l2:=(((Ext.drew (M:=M) (N:=N) (U:=(· <s.nx)) (h:=s.h) (w:=w)).trans h4).del i).swap (Ne.symm v0);obtain⟨g1,g2⟩:=im hf l2 e2;refine⟨M,N',g1,g2,?_⟩;rw[gB];have:=VR.sl (M:=M) (N:=N') (U:=(· <s.nx+1)) s.nx 0 (len+news.length) eu.size a0 (by omega) k1 j0 z1 (by rw[h2,e0];simp);rw[h1,U6]at this;exact this
 have l0: ∀vs:List Value,vs.length=news.flatten.length->vs.length=news.length*ii.size:=fun vs h=>by rw[h,di G,t0]
 generalize a.eval x=vx at m1 A;cases m1 with
 |lK _ _ hU=>
  have d:es=[]:=by simpa using C
  subst d;by_cases hm:news=[]
  .subst hm;have B:=fh (P:=P) (w:=w) t o.type u ii q0 o0 io 0 0 (Tv _) ao c (.inl I);obtain⟨h1,h2⟩:=hf.1.A8 eu.size;obtain⟨g1,g2⟩:=im (es:=[]) (news:=[]) (i:=i) hf ((h1.del i).swap (Ne.symm v0)) ((h2.del i).swap (Ne.symm v0));exact⟨_,w,M,N,A _ _ B,g1,g2,.lK _ _ (by rw[gB];omega)⟩
  .obtain⟨b,x0,z0,Y⟩:=c0 hm;subst z0;obtain⟨vs,J,w0,s0⟩:=nJ (s:=s) Y;have s1:0<news.length:=UE.2 hm;have B:=run_append_nil (P:=P) w t o.type u ii eu.zero q0 o0 r1 ⟨b,x0,io⟩ news.length c vs (l0 vs J) w0 s1 (by omega) (by simp only[UJ,TL]at b0;omega);obtain⟨M',N',g1,g2,g3⟩:=f0 [] vs (grownCap w news.length 0 u) (by simp) (by rw[J,di G]) (by simp) (by simp) s0 (by simpa using grownCap_ge w news.length 0 u) (grownCap_le_maxLen w _ _ _ (by simp only[maxLen];omega)) (by omega) _ I;simp only[TL,T3] at*
   exact⟨_,_,M',N',A _ _ B,by simpa using g1,by simpa using g2,by simpa using g3⟩
 |sl _ _ _ _ a0 hU h0 hl hc hext=>
  rcases c2 with rfl|⟨hsz0,cur,T,q1,q2,q3,q4,q5⟩
  .simp at C;omega
  have i0:(AO.row eu.size es).real=is:=by cases es with
   |nil=>simp at C;omega
   |cons=>rfl
  rw[U6]at A;have k0:cur.size=a0*eu.size:=by rw[q2,<-hext,TL]
  by_cases hm:news=[]
  .subst hm;have B:=fh (P:=P) (w:=w) t o.type u ii q0 o0 (dl ⟨N.aC i,0,io⟩) len a0 hl ao c (.inr ⟨_,_,rfl⟩)
   obtain⟨h1,h2⟩:=hf.1.move hi i0 w (.row eu.size (es++ [])) I I I I (fun _ _=>rfl) (by
    rw[T1]
    exact .inr ⟨hsz0,cur,T,by simpa using q1,by simpa using q2,q3,q4,fun k e j p d F=>(q5 k e j p d F).mono (.refl _) (N.dB _ _ _) (fun i hi=>by omega)⟩)
   obtain⟨g1,g2⟩:=im (es:=es) (news:=[]) (i:=i) hf h1 h2;refine⟨_,w,M,_,A _ _ B,g1,g2,?_⟩;have:=VR.sl (M:=M) (N:=N.with s.nx (N.aC i) (N.ext i)) (U:=(· <s.nx+1)) s.nx 0 len eu.size a0 (by omega) h0 hl hc (by simpa using hext);rw[gB];simpa using this
  .obtain⟨b,x0,z0,Y⟩:=c0 hm;subst z0;obtain⟨vs,J,w0,s0⟩:=nJ (s:=s) Y;have s1:0<news.length:=UE.2 hm;have m0:vs.length=news.length*eu.size:=by rw[J,di G]
   have p0: ∀(j:Nat) (v:Value),(cur.toList.take (len*eu.size))[j]? =dl v->w.cell? ((⟨N.aC i,0,io⟩:Addr).add j)=dl v:=by
    intro j v hv;rw[T4]at hv;split at hv
    .rw[dp,TL];simp only[World.cell?,q1];simpa using hv
    .cases hv
   have p2:len*eu.size<=cur.size:=by rw[k0];exact TN _ hl
   have g0: ∀(k:Nat) (e:List PV) (j:Nat) (p:PV),es[k]? =dl e->e[j]? =dl p->k*eu.size+j<len*eu.size:=by
    intro k e j p d F;have hk:k<len:=by rw[<-C];exact(Tp.1 d).1
    have d1:j<eu.size:=by rw[<-q4 k e d];exact(Tp.1 F).1
    have:(k+1)*eu.size<=len*eu.size:=TN _ hk;rw[Ug]at this;omega
   by_cases Z:len+news.length<=a0
   .have a1:len*eu.size+vs.length<=cur.size:=by rw[m0,<-Ug,k0];exact TN _ Z
    have r0: ∀v∈vs,v.oneCell'=is:=by
     intro v hv;obtain⟨j,F⟩:=UB hv;have b2:j<news.flatten.length:=by rw[<-J];exact(Tp.1 F).1
     have hp:=Ts b2;obtain⟨k,e,i',h1,h2,_⟩:=lC G j _ hp;have:=(s0 j _ hp).one (iK (j1 e (Uv h1)) i' _ h2);rw[Tr,F]at this;exact this
    have B:=iA (P:=P) (w:=w) t o.type u ii q0 o0 T (N.aC i) len a0 cur q1 ⟨b,x0,io⟩ news.length c vs (l0 vs J) w0 r0 Z (by rw[t0];exact a1);rw[t0]at B;generalize hL:(cur.toList.take (len*eu.size)++vs++cur.toList.drop (len*eu.size+vs.length)).toArray=L at B;have o1:L.size=cur.size:=by rw[<-hL];simp;omega
    have l1:=setRow_heap w (N.aC i) cur L T (0,0) q1;have x1: ∀j,j<len*eu.size->L.getD j undef=cur.getD j undef:=by
     intro j F;rw[<-hL,Tl,Tl];simp only[Ul];rw[Tz,TG (by simp;omega),T4,am F,T5]
    have w1: ∀j,j<vs.length->L.getD (len*eu.size+j) undef=vs.getD j undef:=by
     intro j F;rw[<-hL,Tl,Tr];simp only[Ul];rw[TG (by simp;omega),TI (by simp;omega)];congr 2;simp;omega
    obtain⟨h1,h2⟩:=hf.1.move hi i0 (w.setRow (N.aC i) L) (.row eu.size (es++news)) I I I (by simp) (fun b hb=>by
      simp only[World.setRow,T8]
      rw[be (fun e=>hb e.symm)]) (by
     refine .inr ⟨hsz0,L,T,by simpa using l1,by rw[o1];simpa using q2,?_,fun k e d=>?_,fun k e j p d F=>?_⟩
     .rw[o1,k0,Tn,C];exact TN _ Z
     .rcases Un k es.length with hk|hk
      .rw[TG hk]at d;exact q4 k e d
      .rw[TI hk]at d;exact G _ e d
     .rcases Un k es.length with hk|hk
      .rw[TG hk]at d;rw[x1 _ (g0 k e j p d F)];exact(q5 k e j p d F).mono (.refl _) (N.dB _ _ _) (fun i hi=>by omega)
      .rw[TI hk]at d;have d1:j<eu.size:=by rw[<-G _ e d];exact(Tp.1 F).1
       have f1:k-es.length<news.length:=(Tp.1 d).1;have b1:=jZ G _ e j p d F;have n0:(k-es.length)*eu.size+j<vs.length:=by
        rw[m0];have:(k-es.length+1)*eu.size<=news.length*eu.size:=TN _ f1;rw[Ug]at this;omega
       have d0:k*eu.size+j=len*eu.size+((k-es.length)*eu.size+j):=by
        rw[<-C,WO];have:es.length*eu.size<=k*eu.size:=TN _ hk;omega
       rw[d0,w1 _ n0]
       exact(s0 _ p b1).mono (.refl _) (N.dB _ _ _) (fun i hi=>by omega))
    obtain⟨g1,g2⟩:=im (es:=es) (news:=news) (i:=i) hf h1 h2;refine⟨_,_,M,_,A _ _ B,g1,g2,?_⟩;have:=VR.sl (M:=M) (N:=N.with s.nx (N.aC i) (N.ext i)) (U:=(· <s.nx+1)) s.nx 0 (len+news.length) eu.size a0 (by omega) (by omega) Z hc (by simpa using hext);rw[gB];simpa using this
   .have B:=run_append_grow (P:=P) w t o.type u ii eu.zero q0 o0 r1 ⟨N.aC i,0,io⟩ len a0 (cur.toList.take (len*eu.size)) (by rw[t0];simp;omega) p0 ⟨b,x0,io⟩ news.length c vs (l0 vs J) w0 (by omega) (by omega)
     (growslice_fits (by omega) b0)
    obtain⟨M',N',g1,g2,g3⟩:=f0 (cur.toList.take (len*eu.size)) vs (grownCap w (len+news.length) a0 u) (by rw[C];simp;omega) m0 (fun k e j p d F=>by
      have:=q5 k e j p d F;have n0:=g0 k e j p d F;rw[Tr,T4,am n0,T5]
      rw[Tl]at this;exact this) q4 s0 (grownCap_ge w _ _ _) (grownCap_le_maxLen w _ _ _ (by simp only[maxLen];omega)) (by omega) _ I
    exact⟨_,_,M',N',A _ _ B,g1,g2,g3⟩
def zg(h:AH)(sz:Nat):PV->Option (List (List PV))
 | .iv (.bU sz' n el)=>match TR sz' sz with
  |true=>dl ((Uk n).map fun k=>(el k).map .iv)
  |false=>io
 | .iv (.v (.slice io 0 0))=>dl []
 | .sl j off n sz'=>match TR sz' sz,h.get j with
  |true,dl (.row sz2 fs)=>match TR sz2 sz,Vm (off+n) fs.length with
   |true,is=>dl ((fs.drop off).take n)
   |_,_=>io
  |_,_=>io
 |_=>io
theorem ku{h:AH}{sz:Nat}{p:PV}{news:List (List PV)}(hs:zg h sz p=dl news):Src h sz p news:=by
 unfold zg at hs;split at hs
 .split at hs
  .rename_i hb;simp only[Tm]at hs;have:=TM hb;subst this;subst hs;exact .bU _ _
  .cases hs
 .simp only[Tm]at hs;subst hs;exact .nil
 .split at hs
  .rename_i d A;split at hs
   .rename_i j u;simp only[Tm]at hs;have x:=TM d;have y:=TM j;subst x;subst y;subst hs;exact .row _ _ _ _ A (Tk u)
   .cases hs
  .cases hs
 .cases hs
def allOnes:List (List PV)->Bool
 | []=>is
 |e::r=>match eM e with
  |true=>allOnes r
  |false=>jp
theorem fe: ∀{l:List (List PV)},allOnes l=is-> ∀e∈l,eM e=is
 | [],_,e,h=>by cases h
 |c::l,h,e,he=>by
  simp only[allOnes]at h;split at h
  .rename_i d;rcases TQ.1 he with rfl|he
   .exact d
   .exact fe h e he
  .cases h
def tI(s:AS)(t sz:Nat):AS:=match s with|⟨f,h,n⟩=>⟨(t,.sl n 0 0 sz)::f,(n,dl (.row sz []))::h,n+1⟩
theorem H4{o:Oper}{R:AS->Prop}{t sz:Nat}(y:s.f.get t= .iv (.v (.slice io 0 0)))(h:OT P nt o (tI s t sz) R):OT P nt o s R:=by
 intro M N a w d K Z J;obtain⟨sf,sh,sn⟩:=s;obtain⟨D,F⟩:=d.1.A8 sz;have u:Fits M N (tI ⟨sf,sh,sn⟩ t sz) nt a w:=by
  refine⟨F,fun k=>?_,d.2.2⟩;simp only[tI];rw[AF.ax];split
  .rename_i x;subst x;have:=d.2.1 k;simp only at y this;rw[y]at this;generalize a.tmps.getD k undef=v at this;cases this with
   |iv _ _ h=>cases h with
    |v=>exact .lK _ _ (US _)
  .exact(d.2.1 k).mono (.refl _) (.refl _ _) (fun i G=>U0 G)
 exact h M N a w u K Z fun A B s' C w' hx j Y=>J A B s' C w' (D.trans hx) j Y
def BB(s:AS)(op:Op):Option (Nat×TypeId):=
 match op with
 | .call ⟨.builtin .append,args,tys⟩=>match args.toList,tys.toList with
  | [.tmp t0,_],[t,_]=>match s.f.get t0 with
   | .iv (.v (.slice io 0 0))=>dl (t0,t)
   |_=>io
  |_,_=>io
 |_=>io
theorem Em{op:Op}{t0:Nat}{t:TypeId}(h:BB s op=dl (t0,t)):s.f.get t0= .iv (.v (.slice io 0 0)):=by
 unfold BB at h;split at h
 .split at h
  .split at h
   .rename_i d;simp only[Tm,TC]at h;rw[<-h.1];exact d
   .cases h
  .cases h
 .cases h
end
end
section
section
variable {kc:KC} {V:Type} {M:Mem} {e:V->IV} {m:List (kc.K×V)} {ents:Array MapEntry} {clock:Nat}
theorem js.G2(h:js M kc e m ents clock){j:Nat}(hj:j<ents.size):ents.getD j co=ents[j]:=by simp[Tl,hj]
theorem js.set(h:js M kc e m ents clock){i:Nat}{k:kc.K}{v:V}{y:Value}(hv:IR M (e v) y):js M kc e (m.set i (k,v)) (ents.modify i fun x=>{x with key:=kc.ek k,val:=y}) clock:=by
 have hb: ∀(j:Nat) (f:MapEntry),(ents.modify i fun x=>{x with key:=kc.ek k,val:=y})[j]? =dl f-> ∃g,ents[j]? =dl g∧g.born=f.born:=by
  intro j f u;rw[T8]at u;split at u
  .obtain⟨g,J,rfl⟩:=Tw.1 u;exact⟨g,J,rfl⟩
  .exact⟨f,u,rfl⟩
 have Y: ∀(j:Nat) (x:kc.K×V),(m.set i (k,v))[j]? =dl x->(j=i∧x=(k,v)∧i<m.length)∨(j≠i∧m[j]? =dl x):=by
  intro j x d;rw[U9]at d;split at d
  .rename_i C;split at d
   .simp only[Tm]at d;exact .inl ⟨C.symm,d.symm,by assumption⟩
   .cases d
  .rename_i C;exact .inr ⟨fun e=>C e.symm,d⟩
 refine⟨by simp[h.size],fun j x d=>?_,fun j x d=>?_,fun j l f g u J G=>?_,fun j f u=>?_⟩
 .rcases Y j x d with⟨rfl,rfl,D⟩|⟨A,B⟩
  .have:j<ents.size:=by rw[h.size];exact D
   rw[Tl,T8,am I,Uq this];rfl
  .have:=h.key j x B;rw[Tl,T8,be (fun e=>A e.symm),<-Tl];exact this
 .rcases Y j x d with⟨rfl,rfl,D⟩|⟨A,B⟩
  .have:j<ents.size:=by rw[h.size];exact D
   rw[Tl,T8,am I,Uq this];exact hv
  .have:=h.val j x B;rw[Tl,T8,be (fun e=>A e.symm),<-Tl];exact this
 .obtain⟨F,A,B⟩:=hb j f u;obtain⟨Z,h3,h4⟩:=hb l g J;exact h.inj j l F Z A h3 (by rw[B,h4,G])
 .obtain⟨F,A,B⟩:=hb j f u;rw[<-B];exact h.lt j F A
theorem js.push(h:js M kc e m ents clock){k:kc.K}{v:V}{y:Value}(Z:IR M (e v) y):js M kc e (m++ [(k,v)]) (ents.push {key:=kc.ek k,val:=y,born:=clock}) (clock+1):=by
 have D: ∀(j:Nat) (x:kc.K×V),(m++ [(k,v)])[j]? =dl x->(j=ents.size∧x=(k,v))∨(j<ents.size∧m[j]? =dl x):=by
  intro j x u;rw[h.size];rcases Un j m.length with hj|hj
  .rw[TG hj]at u;exact .inr ⟨hj,u⟩
  .rw[TI hj]at u;have F:j-m.length=0:=by
    rcases V2 (j-m.length) with h1|h1
    .exact h1
    .rw[List.getElem?_eq_none (by simp;omega)]at u;cases u
   rw[F]at u;exact .inl ⟨by omega,by simpa using u.symm⟩
 have hb: ∀(j:Nat) (f:MapEntry),(ents.push {key:=kc.ek k,val:=y,born:=clock})[j]? =dl f->(j=ents.size∧f.born=clock)∨(j<ents.size∧ents[j]? =dl f∧f.born<clock):=by
  intro j f d;rw[VF]at d;split at d
  .rename_i hj;simp only[Tm]at d;subst d;exact .inl ⟨hj,rfl⟩
  .exact .inr ⟨(Uf.1 d).1,d,h.lt j f d⟩
 refine⟨by simp[h.size],fun j x u=>?_,fun j x u=>?_,fun j l f g d Y B=>?_,fun j f d=>?_⟩
 .rcases D j x u with⟨rfl,rfl⟩|⟨h1,A⟩
  .simp[Tl]
  .have:=h.key j x A;rw[Tl,VF,be (by omega),<-Tl];exact this
 .rcases D j x u with⟨rfl,rfl⟩|⟨h1,A⟩
  .simpa[Tl]using Z
  .have:=h.val j x A;rw[Tl,VF,be (by omega),<-Tl];exact this
 .rcases hb j f d with⟨h1,A⟩|⟨h1,A,G⟩<;>rcases hb l g Y with⟨J,C⟩|⟨J,C,h6⟩
  .omega
  .omega
  .omega
  .exact h.inj j l f g A C B
 .rcases hb j f d with⟨h1,A⟩|⟨h1,A,G⟩<;>omega
theorem js.erase(h:js M kc e m ents clock){i:Nat}(hi:i<m.length):js M kc e (m.eraseIdx i) (ents.eraseIdxIfInBounds i) clock:=by
 have C:i<ents.size:=by rw[h.size];exact hi
 have D: ∀j,(ents.eraseIdxIfInBounds i)[j]? =if j<i then ents[j]? else ents[j+1]? :=by
  intro j;simp only[Ww,C,dif_pos];rw[Array.getElem?_eraseIdx]
 have F: ∀j,(m.eraseIdx i)[j]? =if j<i then m[j]? else m[j+1]? :=fun j=>List.getElem?_eraseIdx;refine⟨?_,fun j x A=>?_,fun j x A=>?_,fun j l f g u d y=>?_,fun j f u=>?_⟩
 .simp only[Ww,C,dif_pos,Array.size_eraseIdx,List.length_eraseIdx,hi,if_true,h.size]
 .rw[F]at A;rw[Tl,D];split at A
  .rename_i B;rw[am B,<-Tl];exact h.key j x A
  .rename_i B;rw[be B,<-Tl];exact h.key _ x A
 .rw[F]at A;rw[Tl,D];split at A
  .rename_i B;rw[am B,<-Tl];exact h.val j x A
  .rename_i B;rw[be B,<-Tl];exact h.val _ x A
 .rw[D]at u d;split at u<;>split at d
  .exact h.inj _ _ f g u d y
  .have:=h.inj _ _ f g u d y;omega
  .have:=h.inj _ _ f g u d y;omega
  .have:=h.inj _ _ f g u d y;omega
 .rw[D]at u;split at u<;>exact h.lt _ f u
theorem xT(kc:KC)(k:kc.K):Instr.sameBits 10000 (kc.ek k) (kc.ek k)=is:=by
 have j: ∀(n:Nat) (a:ByteArray),Instr.sameBits n (.string a) (.string a)=is:=by
  intro n a;cases n<;>(simp only[Instr.sameBits];rw[beq_toListBytes,tV];simp)
 have d: ∀(n:Nat) (q:IntKind) (a:Int),Instr.sameBits n (.int q a) (.int q a)=is:=by
  intro n q a;cases n<;>simp[Instr.sameBits]
 cases kc with
 |str=>exact j _ _
 |int q=>exact d _ _ _
 |si q=>
  simp only[KC.ek];show((#[Value.string k.1,.int q k.2].size== #[Value.string k.1,.int q k.2].size)&&(Instr.sameBits 9999 (.string k.1) (.string k.1)&&(Instr.sameBits 9999 (.int q k.2) (.int q k.2)&&is)))=is;rw[j,d];rfl
 |fl s=>
  have u: ∀(t:FS) (l:List Value),vE t l->(l.zip l).all (fun(x:Value×Value)=>Instr.sameBits 9999 x.1 x.2)=is:=by
   intro t
   induction t with
   |nil=>intro l h;match l,h with
    | [],_=>rfl
   |cons o t ih=>intro l h;match l,h with
    |v::l,h=>
     rw[List.zip_cons_cons,VZ,ih l h.2,Bool.and_true];cases o with
     |none=>obtain⟨a,rfl⟩:=h.1;exact j _ _
     |some q=>obtain⟨n,rfl⟩:=h.1;exact d _ _ _
  simp only[KC.ek];show(((FK.vs s k).toArray.size==(FK.vs s k).toArray.size)&&(((FK.vs s k).toArray.toList.zip (FK.vs s k).toArray.toList).all fun(x:Value×Value)=>Instr.sameBits 9999 x.1 x.2))=is;rw[List.toList_toArray,u s _ (kU s k)];simp
end
def Nj(ty:Ty)(s:AS):Op->Option (Prop×AS)
 | .mapUpdate t m k x=>match ev s.f m with
  | .mp i=>match s.h.get i with
   |some (.map kc e z zv dv mm)=>match ty t with
    |some ⟨.aR (.map kt _),_,_,_,_⟩=>match ew ty kt with
     |some kc'=>match kw (kc'=kc),kc.dk (ev s.f k) with
      |true,dl kk=>match s with
       |⟨f,h,n⟩=>uZ (ev f x) fun p=>dl (aj p (.iv (e (dv p))),⟨f,(i,dl (.map kc e z zv dv (cJ kc mm kk (dv p))))::h,n⟩)
      |_,_=>io
     |none=>io
    |_=>io
   |_=>io
  |_=>io
 | .call ⟨.builtin .delete,args,tys⟩=>match args.toList,tys.toList with
  | [m,k],[t,_]=>match ev s.f m with
   | .mp i=>match s.h.get i with
    |some (.map kc e z zv dv mm)=>match ty t with
     |some ⟨.aR (.map kt _),_,_,_,_⟩=>match ew ty kt with
      |some kc'=>match kw (kc'=kc),kc.dk (ev s.f k) with
       |true,dl kk=>match s with
        |⟨f,h,n⟩=>dl (True,⟨f,(i,dl (.map kc e z zv dv (mD kc mm kk)))::h,n⟩)
       |_,_=>io
      |none=>io
     |_=>io
    |_=>io
   |_=>io
  |_,_=>io
 |_=>io
section
variable {P:Program} {ty:Ty} {nt:NT} {s:AS} {M:Mem} {N:Nm} {w:World}
def tZ(w:World)(b:Nat)(o:Obj):World:={w with heap:=w.heap.setIfInBounds b o}
theorem sw{nx:Nat}{h:AH}(hr:Rel M N (· <nx) h w){i:Nat}{kc:KC}{V:Type}{e:V->IV}{z:V}{A:Value}{u:PV->V}{D y:List (kc.K×V)}(hi:h.get i=dl (.map kc e z A u D)){j:Array MapEntry}{d:Nat}
  (hm:js M kc e y j d):Ext M N (· <nx) h w M N (· <nx) ((i,dl (.map kc e z A u y))::h) (tZ w (N.aC i) (.map j d))∧Rel M N (· <nx) ((i,dl (.map kc e z A u y))::h) (tZ w (N.aC i) (.map j d)):=by
 have B:=hr.obj i _ hi;have x:=OR.lt B I;obtain⟨ents,clock,F,G,C⟩:=B;refine hr.write hi I _ _ I I I (by simp[tZ]) (fun b hb=>?_) ⟨j,d,?_,hm,C⟩
 .show(w.heap.setIfInBounds _ _)[b]? =_;rw[Ua,be (fun e=>hb e.symm)]
 .show(w.heap.setIfInBounds _ _)[_]? =_;rw[Ua,am I,am x]
theorem kv{r:Nat}{es:Array MapEntry}{clock:Nat}(o:Obj)(hb:w.heap[r]? =dl (.map es clock)):(setObj r o).run P w= .ok () (tZ w r o):=by
 simp[setObj,Sem.run,hb,tZ]
theorem H8(J:bE P ty){o:Oper}{C:Prop}{s1 s':AS}(h:Nj ty s o.op=dl (C,s1))(hC:C)(hp:putDst nt o .any s1=dl s'):OT P nt o s (fun t=>t=s'):=by
 unfold Nj at h;split at h
 .rename_i t m k x ho;split at h
  .rename_i i Z;split at h
   .rename_i V kc e z zv dv mm hi;split at h
    .rename_i kt et _ _ _ _ he;have hu:=(J _ _ he).2.1.1;split at h
     .rename_i d c0;split at h
      .rename_i D hd d0;have hd:=of_decide_eq_true hd;subst hd;obtain⟨f,hh,n⟩:=s;simp only[dO,Tm,TC]at h;obtain⟨rfl,rfl⟩:=h;refine OT.skip hp fun M N a w G=>?_;have e0:=He d0 (aJ G.2.1 k);have F:=aJ G.2.1 m;simp only at Z;rw[Z]at F
       have k0:IR M (e (dv (ev f x))) (a.eval x):=by
        have:=hC M N (· <n) _ (aJ G.2.1 x);generalize a.eval x=y at this;cases this with
        |iv _ _ h=>exact h
       obtain⟨ents,clock,h1,h2,h3⟩:=G.1.obj i _ hi;have Y:=ni (P:=P) (w:=w) J c0 D jp 9994;have B:=pt (P:=P) (w:=w) J c0 D h2.keys;have hg:(getObj (N.aC i)).run P w= .ok (.map ents clock) w:=by simp[getObj,Sem.run,h1]
       have a0: ∀A u,js M d e (cJ d mm D (dv (ev f x))) A u->(Instr.mapUpdate t (.map (dl (N.aC i))) (d.ek D) (a.eval x)).run P w= .ok () (tZ w (N.aC i) (.map A u))->
         ∃w' M' N',(execOp a.eval o).run P w= .ok .skip w'∧Ext M N (· <n) hh w M' N' (· <n) ((i,dl (.map d e z zv dv (cJ d mm D (dv (ev f x)))))::hh) w'∧
          Fits M' N' ⟨f,(i,dl (.map d e z zv dv (cJ d mm D (dv (ev f x)))))::hh,n⟩ nt a w':=by
        intro A u g1 g2;obtain⟨g3,g4⟩:=sw G.1 hi g1;refine⟨_,M,N,?_,g3,g4,G.2.1,G.2.2⟩;have f0:a.eval m= .map (dl (N.aC i)):=by
         generalize a.eval m=y at F;cases F;rfl
        simp only[execOp,ho,f0,e0];simp[g2]
       cases hfi:mf d mm D with
       |none=>
        obtain⟨_,_,g3,_⟩:=n3 hfi;rw[hfi]at B;refine a0 _ _ (by rw[g3];exact h2.push k0) ?_;simp[Instr.mapUpdate,run_underlying hu,hg,Y,B,kv (P:=P) _ h1]
       |some j=>
        obtain⟨v,g0,_,_,g3,_⟩:=nZ hfi;rw[hfi]at B;refine a0 _ _ (by rw[g3];exact h2.set k0) ?_;have hj:j<ents.size:=by rw[h2.size];exact(Tp.1 g0).1
        have j0:=h2.key j _ g0;rw[h2.G2 hj]at j0;have m0:(Instr.keyThatStays (d.ek D) (d.ek D)).run P w= .ok (d.ek D) w:=by simp[Instr.keyThatStays,xT]
        simp[Instr.mapUpdate,run_underlying hu,hg,Y,B,hj,j0,m0,kv (P:=P) _ h1]
      .cases h
     .cases h
    .cases h
   .cases h
  .cases h
 .rename_i args l0 ho;split at h
  .rename_i m k t t' b0 i0;have ha:args= #[m,k]:=by rw[<-UH (xs:=args),b0]
   have ht:l0= #[t,t']:=by rw[<-UH (xs:=l0),i0]
   subst ha ht;split at h
   .rename_i i Z;split at h
    .rename_i V kc e z zv dv mm hi;split at h
     .rename_i kt et _ _ _ _ he;have hu:=(J _ _ he).2.1.1;split at h
      .rename_i d c0;split at h
       .rename_i D hd d0;have hd:=of_decide_eq_true hd;subst hd;obtain⟨f,hh,n⟩:=s;simp only[Tm,TC]at h;obtain⟨rfl,rfl⟩:=h;refine OT.value hp fun M N a w G=>?_;have e0:=He d0 (aJ G.2.1 k);have F:=aJ G.2.1 m;simp only at Z;rw[Z]at F;obtain⟨ents,clock,h1,h2,h3⟩:=G.1.obj i _ hi;have Y:=ni (P:=P) (w:=w) J c0 D ents.isEmpty 9994;have B:=pt (P:=P) (w:=w) J c0 D h2.keys;have hg:(getObj (N.aC i)).run P w= .ok (.map ents clock) w:=by simp[getObj,Sem.run,h1]
        have a0: ∀A u,js M d e (mD d mm D) A u->(Builtin.delete_ #[t,t'] o.type #[.map (dl (N.aC i)),d.ek D]).run P w= .ok (.tuple #[]) (tZ w (N.aC i) (.map A u))->
          ∃x w' M' N',(execOp a.eval o).run P w= .ok (.value x) w'∧Ext M N (· <n) hh w M' N' (· <n) ((i,dl (.map d e z zv dv (mD d mm D)))::hh) w'∧
           Fits M' N' ⟨f,(i,dl (.map d e z zv dv (mD d mm D)))::hh,n⟩ nt a w'∧VR M' N' (· <n) .any x:=by
         intro A u g1 g2;obtain⟨g3,g4⟩:=sw G.1 hi g1;refine⟨.tuple #[],_,M,N,?_,g3,⟨g4,G.2.1,G.2.2⟩,.any _⟩;have f0:a.eval m= .map (dl (N.aC i)):=by
          generalize a.eval m=y at F;cases F;rfl
         simp only[execOp,ho,resolve];simp[invoke,builtin,f0,e0,g2]
        cases hfi:mf d mm D with
        |none=>
         obtain⟨_,_,_,g3⟩:=n3 hfi;rw[hfi]at B;refine a0 _ _ (by rw[g3];exact h2) ?_;simp[Builtin.delete_,run_underlying hu,hg,Y,B,kv (P:=P) _ h1]
        |some j=>
         obtain⟨v,g0,_,_,_,g3⟩:=nZ hfi;rw[hfi]at B;refine a0 _ _ (by rw[g3];exact h2.erase (Tp.1 g0).1) ?_;simp[Builtin.delete_,run_underlying hu,hg,Y,B,kv (P:=P) _ h1]
       .cases h
      .cases h
     .cases h
    .cases h
   .cases h
  .cases h
 .cases h
end
section
variable {P:Program} {ty:Ty} {nt:NT} {s:AS} {Q:AQ} {k:List KI}
def R0(nt:NT)(o:Oper)(s:AS)(i:Nat)(kc:KC){V:Type}(e:V->IV)(m:List (kc.K×V))(vs:List Nat)(t:AS):Prop:=
 ((∀j,j<m.length->j∈vs)∧putDst nt o (.aZ [.kb jp]) s=dl t)∨
 ∃j x,m[j]? =dl x∧j∉vs∧putDst nt o (.aZ [.kb is,kc.pk x.1,(e x.2).pv]) ⟨s.f,(i,dl (.b5 kc e m (j::vs) (dl x)))::s.h,s.nx⟩=dl t
theorem Kh{o:Oper}{it:Operand}(ho:o.op= .next it jp){i:Nat}(r0:ev s.f it= .ptr i 0){kc:KC}{V:Type}{e:V->IV}{m:List (kc.K×V)}{vs:List Nat}{q0:Option (kc.K×V)}
  (hi:s.h.get i=dl (.b5 kc e m vs q0)) {d:Nat} (hd:o.dst=dl d) (hlt:d<nt):OT P nt o s (R0 nt o s i kc e m vs):=by
 intro M N a w hf K Z hk;have hx:=aJ hf.2.1 it;rw[r0]at hx;have i0:=hf.1.obj i _ hi;have c0:N.aC i<w.heap.size:=OR.lt i0 I;have d0:a.eval it= .pointer (dl ⟨N.aC i,0,io⟩):=by
  generalize a.eval it=y at hx;cases hx;rfl
 have J: ∀p s1,∃t,putDst nt o p s1=dl t∧t={s1 with f:=(d,p)::s1.f}:=by
  intro p s1;have hb:TU d nt=is:=Uu hlt;obtain⟨f,h,n⟩:=s1;exact⟨_,by simp only[putDst,hd,hb,cond_true,dO],rfl⟩
 rcases i0 with⟨rfl,rfl,rfl,h0⟩|⟨b,ents,clock,u,h1,h2,F,h4,h5,h6,h7⟩
 .have B:(execOp a.eval o).run P w= .ok (.value (.tuple #[.bool jp])) w:=by
   simp only[execOp,ho,d0];refine aY ?_;simp only[Instr.next,getObj,Sem.run_bind,Sem.run,h0,Result.andThen];rfl
  unfold Oper.wp;rw[B];simp only[Oper.upon];obtain⟨t,ht,C⟩:=J (.aZ [.kb jp]) s
  refine hk M N t _ w (by rw[C];exact .refl _ _ _ _ _) (by
   rw[C,hd]
   exact hf.put d _ _ hlt (.aZ _ _ I fun j p D=>by
    match j with
    |0=>simp at D;subst D;exact .kb _
    |j+1=>simp at D)) (.inl ⟨fun j G=>absurd G (Vs _),ht⟩)
 have hb:w.heap[b]? =dl (.map ents clock):=hf.1.ey _ _ h2;have x0: ∀j,j<ents.size->ents.getD j co=ents[j]! :=fun j G=>by simp[Tl,G,getElem!_pos]
 have g0: ∀x∈ents.toList,x.born<clock:=by
  intro x hx;obtain⟨j,G⟩:=UB hx;exact F.lt j x (by simpa using G)
 unfold Oper.wp;rcases run_next_at (P:=P) w o.type (N.aC i) b clock clock u ents clock h1 hb g0 (Tv _) with⟨g1,g2⟩|⟨x,p0,w1,o0,g2⟩
 .have B:(execOp a.eval o).run P w= .ok (.value (.tuple #[.bool jp])) w:=by
   simp only[execOp,ho,d0];exact aY g2
  rw[B];simp only[Oper.upon];obtain⟨t,ht,C⟩:=J (.aZ [.kb jp]) s
  refine hk M N t _ w (by rw[C];exact .refl _ _ _ _ _) (by
   rw[C,hd]
   exact hf.put d _ _ hlt (.aZ _ _ I fun j p D=>by
    match j with
    |0=>simp at D;subst D;exact .kb _
    |j+1=>simp at D)) (.inl ⟨fun j G=>?_,ht⟩)
  have s0:j<ents.size:=by rw[F.size];exact G
  have f0:(ents[j]).born∈u:=by
   refine Decidable.byContradiction fun hn=>?_
   have:ents[j]∈leftOf ents u:=by
    simp only[leftOf,W8];exact⟨by simp,by simpa using hn⟩
   rw[Array.eq_empty_of_size_eq_zero g1]at this;simp at this
  have:(ents[j]).born∈u.toList:=by simpa using f0
  rw[h4,UG]at this;obtain⟨q,hq,m0⟩:=this;have n0:q∈vs:=by simpa using hq
  have l0:q<ents.size:=by rw[F.size];exact h5 q n0
  rw[F.G2 l0]at m0;have:=F.inj q j ents[q] ents[j] (by simp[l0]) (by simp[s0]) m0;rw[<-this];exact n0
 .have B:(execOp a.eval o).run P w= .ok (.value (.tuple #[.bool is,x.key,x.val])) (tZ w1 (N.aC i) (.mapIter (dl b) clock (u.push x.born) clock)):=by
   simp only[execOp,ho,d0];rw[Sem.run_bind,g2];rfl
  rw[B];simp only[Oper.upon];simp only[leftOf,Array.mem_toList_iff,W8]at p0;obtain⟨v0,w0⟩:=p0;obtain⟨j,G,e0⟩:=Array.getElem_of_mem v0;have j0:j<m.length:=by rw[<-F.size];exact G
  have Y:m[j]? =dl m[j]:=Ts j0;have k0:j∉vs:=by
   intro hv;have:(ents[j]).born∈u.toList:=by
    rw[h4,UG];exact⟨j,by simpa using hv,by rw[F.G2 G]⟩
   rw[e0]at this;have:x.born∈u:=by simpa using this
   simp[this]at w0
  obtain⟨t,ht,C⟩:=J (.aZ [.kb is,kc.pk m[j].1,(e m[j].2).pv]) ⟨s.f,(i,dl (.b5 kc e m (j::vs) (dl m[j])))::s.h,s.nx⟩;have A:w1.heap=w.heap∧w1.os=w.os∧w1.tape=w.tape∧w1.output=w.output:=by
   rcases o0 with rfl|rfl<;>exact⟨rfl,rfl,rfl,rfl⟩
  have t0:OR M N (· <s.nx) (tZ w1 (N.aC i) (.mapIter (dl b) clock (u.push x.born) clock)) i (.b5 kc e m (j::vs) (dl m[j])):=by
   refine .inr ⟨b,ents,clock,u.push x.born,?_,h2,F,?_,?_,?_,?_⟩
   .show(w1.heap.setIfInBounds _ _)[_]? =_;rw[Ua,am I,A.1,am c0]
   .simp only[Array.toList_push,h4,List.reverse_cons,TA,TD,TX];rw[F.G2 G,e0]
   .intro q hq;rcases TQ.1 hq with rfl|hq
    .exact j0
    .exact h5 q hq
   .exact UF.2 ⟨k0,h6⟩
   .intro y hy;simp only[Tm]at hy;subst hy;exact⟨j,vs,rfl,Y⟩
  obtain⟨q1,q2⟩:=hf.1.write hi I (tZ w1 (N.aC i) (.mapIter (dl b) clock (u.push x.born) clock)) _ A.2.1 A.2.2.1 A.2.2.2 (by simp[tZ,A.1]) (fun c hc=>by
   show(w1.heap.setIfInBounds _ _)[c]? =_
   rw[Ua,be (fun e=>hc e.symm),A.1]) t0 (o0.elim (fun e=>e▸Tv _) fun e=>e▸Vg _)
  have a0:=F.key j _ Y;have b0:=F.val j _ Y;rw[F.G2 G,e0]at a0 b0
  refine hk M N t _ _ (by rw[C];exact q1) (by
   rw[C,hd];refine Fits.put (s:=⟨s.f,(i,dl (.b5 kc e m (j::vs) (dl m[j])))::s.h,s.nx⟩) ⟨q2,hf.2⟩ d _ _ hlt (.aZ _ _ I fun q p D=>?_)
   match q with
   |0=>simp at D;subst D;exact .kb _
   |1=>simp at D;subst D;simp only[Tl];simp;rw[a0];exact CP kc _
   |2=>simp at D;subst D;exact zH b0
   |q+3=>simp at D) (.inr ⟨j,m[j],Y,k0,ht⟩)
theorem fB{all rest:List Oper}{o:Oper}{A:Operand}{i:Nat}{kc:KC}{V:Type}{e:V->IV}{m:List (kc.K×V)}{vs:List Nat}{u:Option (kc.K×V)}{d:Nat}
  (ho:o.op= .next A jp) (hg:o.guard=io) (y:ev s.f A= .ptr i 0) (hi:s.h.get i=dl (.b5 kc e m vs u)) (hd:o.dst=dl d) (hlt:d<nt)
  (h1:(∀j,j<m.length->j∈vs)->GO P nt (.ops all rest::k) Q ⟨(d,.aZ [.kb jp])::s.f,s.h,s.nx⟩)
  (B: ∀j x,m[j]? =dl x->j∉vs->GO P nt (.ops all rest::k) Q ⟨(d,.aZ [.kb is,kc.pk x.1,(e x.2).pv])::s.f,(i,dl (.b5 kc e m (j::vs) (dl x)))::s.h,s.nx⟩):
  GO P nt (.ops all (o::rest)::k) Q s:=by
 refine bF hg (Kh ho y hi hd hlt) fun t C=>?_;have hb:TU d nt=is:=Uu hlt;rcases C with⟨g1,g2⟩|⟨j,x,g1,g2,g3⟩
 .obtain⟨f,h,n⟩:=s;simp only[putDst,hd,hb,cond_true,dO,Tm]at g2;subst g2;exact h1 g1
 .simp only[putDst,hd,hb,cond_true,dO,Tm]at g3;subst g3;exact B j x g1 g2
mutual
def PV.fO(i:Nat)(x:IV):PV->PV
 | .iv x=> .iv x
 | .agg cs=> .agg (uY i x cs)
 | .aZ cs=> .aZ (uY i x cs)
 | .sl j off len sz'=> .sl j off len sz'
 | .ptr j o=> .ptr j o
 | .c6 j a b c=> .c6 j a b c
 | .fj z j=> .fj z j
 | .pJ j o n=> .pJ j o n
 | .mp j=>bif TR j i then .iv x else .mp j
 | .cN fn a b=> .cN fn a b
 | .kb b=> .kb b
 | .any=> .any
def uY(i:Nat)(x:IV):List PV->List PV
 | []=> []
 |p::r=>PV.fO i x p::uY i x r
end
theorem ij(i:Nat)(x:IV): ∀l:List PV,uY i x l=l.map (PV.fO i x)
 | []=>rfl
 |p::r=>by simp[uY,ij i x r]
theorem KH{M:Mem}{N:Nm}{n:Nat}{h:AH}{w:World}(hr:Rel M N (· <n) h w){i:Nat}{kc:KC}{V:Type}{e:V->IV}{z:V}{zv:Value}{dv:PV->V}{m:List (kc.K×V)}(hi:h.get i=dl (.map kc e z zv dv m)):
  ∃B,Ext M N (· <n) h w B N (· <n) ((i,io)::h) w∧Rel B N (· <n) ((i,io)::h) w∧M.le B∧
   ∀p x,VR M N (· <n) p x->VR B N (· <n) (p.fO i (.eP kc e z zv m)) x:=by
 have J:=hr.dI i _ hi I;obtain⟨ents,clock,F,C,h3⟩:=hr.obj i _ hi
 let B:Mem:=M.set (N.aC i) (.map ents clock) J
 have hM:M.le B:=fun b d hb=>by
  simp only[B,Mem.set];by_cases u:b=N.aC i
  .rw[u,J]at hb;cases hb
  .rw[be u];exact hb
 have hnew: ∀b d,M b=io->B b=dl d->b=N.aC i:=fun b d F C=>by
  simp only[B,Mem.set]at C;by_cases u:b=N.aC i
  .exact u
  .rw[be u,F]at C;cases C
 refine⟨B,?_,?_,hM,fun p x hx=>?_⟩
 .exact⟨rfl,rfl,⟨rfl,Tv _⟩,Tv _,fun _ _ _=>rfl,hM,fun b d F C=> .inr ⟨i,_,hi,rfl,(hnew b d F C).symm⟩,.refl _ _,fun _ h=>h,fun j o A Z=> .inr ⟨j,o,(ba j o A).2,Z,rfl⟩⟩
 .refine⟨fun b d hb=>?_,fun j o A=>hr.used j o (ba j o A).2,fun j o A D=>?_,fun j o A=>?_,fun j k o p A hk=>hr.inj j k o p (ba j o A).2 (ba k p hk).2⟩
  .simp only[B,Mem.set]at hb;by_cases u:b=N.aC i
   .rw[am u]at hb;cases hb;rw[u];exact F
   .rw[be u]at hb;exact hr.ey b d hb
  .obtain⟨g1,g2⟩:=ba j o A;simp only[B,Mem.set];rw[be fun e=>g1 (hr.inj j i o _ g2 hi D I e)];exact hr.dI j o g2 D
  .obtain⟨g1,g2⟩:=ba j o A;exact(hr.obj j o g2).mono hM (.refl _ _) (fun _ h=>h) (hr.used j o g2) I
 .induction hx with
  |iv x y h=>exact .iv _ _ (h.mono hM)
  |agg cs ys hl _ ih=>
   refine .agg _ _ (by simpa[ij]using hl) fun j q Y=>?_;rw[ij,Tu,Tw]at Y;obtain⟨q0,G,rfl⟩:=Y
   exact ih j q0 G
  |aZ cs ys hl _ ih=>
   refine .aZ _ _ (by simpa[ij]using hl) fun j q Y=>?_;rw[ij,Tu,Tw]at Y;obtain⟨q0,G,rfl⟩:=Y
   exact ih j q0 G
  |ptr i off h=>exact .ptr _ _ h
  |c6 i sz k off h=>exact .c6 _ _ _ _ h
  |fj z i h=>exact .fj _ _ h
  |pJ i o n h=>exact .pJ _ _ _ h
  |sl j off len sz' cap h h0 hl hc he=>exact .sl _ _ _ _ _ h h0 hl hc he
  |lK j sz' h=>exact .lK _ _ h
  |sle j sz' cap h hc he=>exact .sle _ _ _ h hc he
  |mp j h=>
   simp only[PV.fO];cases hb:TR j i with
   |true=>
    have A:=TM hb;subst A;exact .iv _ _ (.eP _ _ _ _ _ _ ents clock (by simp[B,Mem.set]) C.size C.key (fun j x hx=>(C.val j x hx).mono hM) (h3.mono hM) C.inj C.lt)
   |false=>exact .mp _ h
  |cN fn first caps f' c' F C hr1 hr2 _ _=>exact .cN _ _ _ _ _ F C (fun j p A=>(hr1 j p A).mono hM (.refl _ _) (fun _ h=>h)) (fun j p A=>(hr2 j p A).mono hM (.refl _ _) (fun _ h=>h))
  |kb b=>exact .kb _
  |any x=>exact .any _
def AO.fO(i:Nat)(x:IV):AO->AO
 | .cells cs T=> .cells (uY i x cs) T
 | .row sz es=> .row sz (es.map (uY i x))
 | .bA l T=> .bA l T
 | .fx=> .fx
 | .map kc e z zv dv m=> .map kc e z zv dv m
 | .b5 kc e m vs c=> .b5 kc e m vs c
 | .dQ s p=> .dQ s p
 | .om kc e z zv dv m bs c=> .om kc e z zv dv m bs c
 | .iZ q c l=> .iZ q c l
 | .fy l c f=> .fy l c f
def AH.fO(i:Nat)(x:IV):AH->AH
 | []=> []
 |(k,io)::r=>(k,io)::AH.fO i x r
 |(k,dl o)::r=>(k,dl (o.fO i x))::AH.fO i x r
theorem AH.jX(i:Nat)(x:IV): ∀(h:AH) (j:Nat),(AH.fO i x h).get j=(h.get j).map (AO.fO i x)
 | [],_=>rfl
 |(k,io)::r,j=>by
  simp only[AH.fO,AH.ax,AH.jX i x r j];split<;>rfl
 |(k,dl o)::r,j=>by
  simp only[AH.fO,AH.ax,AH.jX i x r j];split<;>rfl
theorem AO.rI(i:Nat)(x:IV)(o:AO):(o.fO i x).real=o.real:=by
 cases o with
 |row sz es=>cases es<;>rfl
 |bA l T=>cases l<;>rfl
 |_=>rfl
theorem qC{M:Mem}{N:Nm}{n:Nat}{h:AH}{w:World}(hr:Rel M N (· <n) h w){i:Nat}{kc:KC}{V:Type}{e:V->IV}{z:V}{F:Value}{dv:PV->V}{m:List (kc.K×V)}(hi:h.get i=dl (.map kc e z F dv m)):
  ∃C,Ext M N (· <n) h w C N (· <n) ((i,io)::h.fO i (.eP kc e z F m)) w∧Rel C N (· <n) ((i,io)::h.fO i (.eP kc e z F m)) w∧M.le C∧
   ∀p x,VR M N (· <n) p x->VR C N (· <n) (p.fO i (.eP kc e z F m)) x:=by
 obtain⟨C,A,d,h3,h4⟩:=KH hr hi;have D: ∀j o,AH.get ((i,io)::h.fO i (.eP kc e z F m)) j=dl o-> ∃p,AH.get ((i,io)::h) j=dl p∧h.get j=dl p∧o=p.fO i (.eP kc e z F m):=by
  intro j o u;obtain⟨g1,g2⟩:=ba j o u;rw[AH.jX,Tw]at g2;obtain⟨p,g3,g4⟩:=g2;exact⟨p,by rw[AH.ax,be g1];exact g3,g3,g4.symm⟩
 refine⟨C,⟨A.os,A.tape,A.output,A.size,A.eU,A.mz,A.eT,A.nm,A.ule,fun j o u y=>?_⟩,⟨d.ey,fun j o u=>?_,fun j o u y=>?_,fun j o u=>?_,fun j k o p u hk ho hp=>?_⟩,h3,h4⟩
 .obtain⟨p,g1,_,rfl⟩:=D j o u;rw[AO.rI]at y;exact A.dY j p g1 y
 .obtain⟨p,g1,_,rfl⟩:=D j o u;exact d.used j p g1
 .obtain⟨p,g1,_,rfl⟩:=D j o u;rw[AO.rI]at y;exact d.dI j p g1 y
 .obtain⟨p,g1,g2,rfl⟩:=D j o u;have J:=hr.obj j p g2;cases p with
  |cells cs T0=>
   obtain⟨c,T,q1,q2,q3,q4,q5⟩:=J;refine⟨c,T,q1,q2,by simpa[ij]using q3,fun k q Y=>?_,q5⟩;rw[ij,Tu,Tw]at Y;obtain⟨q0,b0,rfl⟩:=Y;exact h4 _ _ (q4 k q0 b0)
  |row sz es=>
   rcases J with rfl|⟨q0,c,T,q1,q2,q3,q4,q5⟩
   .exact .inl I
   refine .inr ⟨q0,c,T,q1,q2,by simpa using q3,fun k e G=>?_,fun k e j q G Y=>?_⟩
   .rw[Tu,Tw]at G;obtain⟨Z,B,rfl⟩:=G;rw[ij,T2];exact q4 k Z B
   .rw[Tu,Tw]at G;obtain⟨Z,B,rfl⟩:=G;rw[ij,Tu,Tw]at Y;obtain⟨q',a0,rfl⟩:=Y;exact h4 _ _ (q5 k Z j q' B a0)
  |bA=>exact d.obj j _ g1
  |fx=>exact d.obj j _ g1
  |map=>exact d.obj j _ g1
  |b5=>exact d.obj j _ g1
  |dQ=>exact d.obj j _ g1
  |om=>exact d.obj j _ g1
  |iZ=>exact d.obj j _ g1
  |fy=>exact d.obj j _ g1
 .obtain⟨o',g1,_,rfl⟩:=D j o u;obtain⟨p',g2,_,rfl⟩:=D k p hk;rw[AO.rI]at ho hp;exact d.inj j k o' p' g1 g2 ho hp
def AF.fO(i:Nat)(x:IV):AF->AF
 | []=> []
 |(d,p)::r=>(d,p.fO i x)::AF.fO i x r
theorem AF.jX(i:Nat)(x:IV): ∀(f:AF) (d:Nat),(AF.fO i x f).get d=(f.get d).fO i x
 | [],_=>rfl
 |(k,p)::r,d=>by
  simp only[AF.fO,AF.ax,AF.jX i x r d];split<;>rfl
theorem Dg{c:Code}(i:Nat){kc:KC}{V:Type}{e:V->IV}{z:V}{j:Value}{G:PV->V}{m:List (kc.K×V)}(hi:s.h.get i=dl (.map kc e z j G m))
  (h:GO P nt (.code c::k) Q ⟨s.f.fO i (.eP kc e z j m),(i,io)::s.h.fO i (.eP kc e z j m),s.nx⟩):GO P nt (.code c::k) Q s:=by
 intro M N a w u;obtain⟨C,J,Y,h3,Z⟩:=qC u.1 hi
 have x:Fits C N ⟨s.f.fO i (.eP kc e z j m),(i,io)::s.h.fO i (.eP kc e z j m),s.nx⟩ nt a w:=⟨Y,fun d=>by
  rw[AF.jX];exact Z _ _ (u.2.1 d),u.2.2⟩
 exact AW.then h x fun e a2 w2 D F s2 B y A=>⟨D,F,s2,J.trans B,y,A⟩
end
def OB(ty:Ty)(s:AS):Op->Option (PV×AS)
 | .range t x=>match ev s.f x with
  | .mp i=>match s.h.get i with
   |some (.map kc e z zv _ m)=>match ty t with
    |some ⟨.aR (.map _ _),_,_,_,_⟩=>match s with
     |⟨f,h,n⟩=>dl (.ptr n 0,⟨f.fO i (.eP kc e z zv m),(n,dl (.b5 kc e m [] io))::(i,io)::h.fO i (.eP kc e z zv m),n+1⟩)
    |_=>io
   |_=>io
  |_=>io
 |_=>io
theorem JW{P:Program}{ty:Ty}{nt:NT}{s:AS}(J:bE P ty){o:Oper}{p:PV}{s1 s':AS}(h:OB ty s o.op=dl (p,s1))(hp:putDst nt o p s1=dl s'):OT P nt o s (fun t=>t=s'):=by
 unfold OB at h;split at h
 .rename_i t x ho;split at h
  .rename_i i C;split at h
   .rename_i V kc e z zv dv m B;split at h
    .rename_i kt et _ _ _ _ he;have hu:=(J _ _ he).2.1.1;obtain⟨f,hh,n⟩:=s;simp only[Tm,TC]at h;obtain⟨rfl,rfl⟩:=h;refine OT.value hp fun M N a w A=>?_;have Y:=aJ A.2.1 x;simp only at C B;rw[C]at Y;obtain⟨ents,clock,g1,g2,g3⟩:=A.1.obj i _ B;obtain⟨F,h1,Z,h3,h4⟩:=qC A.1 B;have j:VR F N (· <n) ((PV.mp i).fO i (.eP kc e z zv m)) (.map (dl (N.aC i))):=h4 _ _ (.mp i (A.1.used i _ B));have hb:TR i i=is:=by simp
     simp only[PV.fO,hb,cond_true]at j;cases j with
     |iv _ _ j=>cases j with
      |eP _ _ _ _ _ b ents' clock' hb' hs hk hv' hz hi' hc=>
       obtain⟨G,q1,q2,q3,q4,q5⟩:=Z.alloc (.mapIter (dl (N.aC i)) clock' #[] clock') (.b5 kc e m [] io) 0 (fun G r1 r2 r3=>
        .inr ⟨N.aC i,ents',clock', #[],by rw[r1];exact heap_alloc_new w _,hb',⟨hs,hk,hv',hi',hc⟩,rfl,by simp,Us,by simp⟩)
       have u:w.heap[N.aC i]? =dl (.map ents' clock'):=Z.ey _ _ hb';have D:a.eval x= .map (dl (N.aC i)):=by
        generalize a.eval x=y at Y;cases Y;rfl
       refine⟨.pointer (dl ⟨w.heap.size,0,io⟩),_,F,G,?_,h1.trans q4,⟨q5,fun d=>?_,A.2.2⟩,?_⟩
       .simp only[execOp,ho,D];simp[Instr.range,run_underlying hu,getObj,Sem.run,u,Result.andThen]
       .rw[AF.jX];exact(h4 _ _ (A.2.1 d)).mono (.refl _) q3 (fun i B=>U0 B)
       .have:=VR.ptr (M:=F) (N:=G) (U:=(· <n+1)) n 0 (by omega);rw[q1]at this;exact this
    .cases h
   .cases h
  .cases h
 .cases h
def N5(h:AH)(sz:Nat):PV->Option (List (List PV)×Nat×Prop)
 | .iv (.bU sz' n el)=>match TR sz' sz with
  |true=>dl ((Uk n).map fun k=>(el k).map .iv,n,True)
  |false=>io
 | .iv (.v (.slice io 0 0))=>dl ([],0,True)
 | .sl j off n sz'=>match TR sz' sz,h.get j with
  |true,dl (.row sz2 fs)=>match TR sz2 sz with
   |true=>dl ((fs.drop off).take n,n,off+n<=fs.length)
   |_=>io
  |_,_=>io
 |_=>io
theorem Jx{h:AH}{sz n:Nat}{p:PV}{news:List (List PV)}{C:Prop}(hs:N5 h sz p=dl (news,n,C))(hC:C):Src h sz p news∧news.length=n:=by
 unfold N5 at hs;split at hs
 .split at hs
  .rename_i hb;simp only[Tm,TC]at hs;have:=TM hb;obtain⟨rfl,rfl,rfl⟩:=hs;subst this;exact⟨.bU _ _,by simp⟩
  .cases hs
 .simp only[Tm,TC]at hs;obtain⟨rfl,rfl,rfl⟩:=hs;exact⟨.nil,rfl⟩
 .split at hs
  .rename_i d y;split at hs
   .rename_i j;simp only[Tm,TC]at hs;have u:=TM d;have x:=TM j;subst u;subst x;obtain⟨rfl,rfl,rfl⟩:=hs;exact⟨.row _ _ _ _ y hC,by simp;omega⟩
   .cases hs
  .cases hs
 .cases hs
def K7(ty:Ty)(s:AS)(op:Op):Option (Prop×PV×AS):=
 match op with
 | .call ⟨.builtin .append,args,tys⟩=>match args.toList,tys.toList with
  | [x,y],[t,t']=>match TR t' t,ty t with
   |true,dl ⟨.aR (.slice u),_,_,_,_⟩=>match ty u with
    |some ⟨_,esz,eby,ez,_⟩=>match TR ez.cells.size esz,TU 0 esz,ev s.f x with
     |true,is,.sl i 0 len sz=>match TR esz sz,s.h.get i with
      |true,dl (.row sz' es)=>match TR sz' sz,N5 s.h sz (ev s.f y) with
       |true,dl (news,n,C)=>match s with
        |⟨f,h,nx⟩=>dl (es.length=len∧C∧allOnes news=is∧(len+n)*eby<=140737488355328∧len+n<=140737488355328,.sl nx 0 (len+n) sz,⟨f,(nx,dl (.row sz (es++news)))::(i,io)::h,nx+1⟩)
       |_,_=>io
      |_,_=>io
     |_,_,_=>io
    |none=>io
   |_,_=>io
  |_,_=>io
 |_=>io
section
variable {P:Program} {ty:Ty} {nt:NT} {s:AS}
theorem Dz(b0:bE P ty){o:Oper}{p:PV}{C:Prop}{s1 s':AS}(h:K7 ty s o.op=dl (C,p,s1))(hC:C)(hp:putDst nt o p s1=dl s'):OT P nt o s (fun t=>t=s'):=by
 unfold K7 at h;split at h
 .rename_i args j ho;split at h
  .rename_i x y t A ha ht;split at h
   .rename_i u _ _ _ _ F he;split at h
    .rename_i ek d0 D ez c0 hu;split at h
     .rename_i i len sz G J hx;split at h
      .rename_i f0 es Y hi;split at h
       .rename_i d n C' Z hs;have h:dl (es.length=len∧C'∧allOnes d=is∧(len+n)*D<=140737488355328∧len+n<=140737488355328,PV.sl s.nx 0 (len+n) sz,gX s i sz es d)=dl (C,p,s1):=by
         rw[<-h];cases s;rfl
        simp only[Tm,TC]at h;obtain⟨rfl,rfl,rfl⟩:=h;have e0:=TM F;have e4:=TM Z;have B:=TM Y;subst e0;subst e4;have a0:o.op= .call ⟨.builtin .append, #[x,y], #[A,A]⟩:=by
         rw[ho];have h1:args= #[x,y]:=by rw[<-UH (xs:=args),ha]
         have h2:j= #[A,A]:=by rw[<-UH (xs:=j),ht]
         rw[h1,h2]
        obtain⟨g1,g2,g3,g4,g5⟩:=hC;obtain⟨g6,g7⟩:=Jx hs g2;subst g7;exact Pn b0 a0 he I hu hx hi g1 B (by rw[TM G,B]) (by rw[<-B];exact Tk J) I g6 (fe g3) g4 g5 hp
       .cases h
      .cases h
     .cases h
    .cases h
   .cases h
  .cases h
 .cases h
def HE(ty:Ty)(s:AS)(op:Op):Option (Prop×PV×AS):=
 match K7 ty s op with
 |some r=>dl r
 |none=>match BB s op with
  |some (t0,t)=>match ty t with
   |some ⟨.aR (.slice u),_,_,_,_⟩=>match ty u with
    |some ⟨_,esz,_,_,_⟩=>K7 ty (tI s t0 esz) op
    |none=>io
   |_=>io
  |none=>io
theorem HD(d:bE P ty){o:Oper}{p:PV}{C:Prop}{s1 s':AS}(h:HE ty s o.op=dl (C,p,s1))(hC:C)(hp:putDst nt o p s1=dl s'):OT P nt o s (fun t=>t=s'):=by
 unfold HE at h;split at h
 .rename_i r u;simp only[Tm]at h;subst h;exact Dz d u hC hp
 .split at h
  .rename_i t0 t j;split at h
   .split at h
    .exact H4 (Em j) (Dz d h hC hp)
    .cases h
   .cases h
  .cases h
def R3(ty:Ty)(s:AS)(op:Op):Option (Prop×PV×AS):=
 match Nj ty s op with
 |some (C,s1)=>dl (C,.any,s1)
 |none=>match OB ty s op with
  |some (p,s1)=>dl (True,p,s1)
  |none=>HE ty s op
theorem E2(d:bE P ty){o:Oper}{p:PV}{C:Prop}{s1 s':AS}(h:R3 ty s o.op=dl (C,p,s1))(hC:C)(hp:putDst nt o p s1=dl s'):OT P nt o s (fun t=>t=s'):=by
 unfold R3 at h;split at h
 .rename_i x u hu;simp only[Tm,TC]at h;obtain⟨rfl,rfl,rfl⟩:=h;exact H8 d hu hC hp
 .split at h
  .rename_i y u j;simp only[Tm,TC]at h;obtain⟨rfl,rfl,rfl⟩:=h;exact JW d j hp
  .exact HD d h hC hp
end
end
end Go.Al
