/-
  What the proofs of the claims need: part 1 of 6.
-/
import GoSem.Core.World
import Derived.Calls
import Derived.Laws.AppendOwn
import Derived.Below
import Derived.Laws.Cells
import Derived.Laws.Entries
import Derived.Laws.StructEq
import Derived.ChangeKeysEq
import Derived.WideLaws
import Derived.Tactics
import Derived.IntWalk
import Derived.WideShapes
import Derived.Lib.Strings
import Derived.MapKept
import Derived.Maps.RangeRun
import Derived.Still
import Derived.Scope
import Derived.Laws.CopyRow
import Derived.Laws.Append
open Array renaming eraseIdxIfInBounds→ZR,getD_eq_getD_getElem?→WT,getElem?_append_left→X8,getElem?_eq_getElem→XS,getElem?_eq_none→ZB,getElem?_eq_some_iff→Yd,getElem?_map→Zk,getElem?_modify→XR,getElem?_push→Zh,getElem?_setIfInBounds→XG,getElem?_toList→X4,mapM_eq_mapM_toList→ZN,mem_filter→aak,range→aaa,replicate→YL,size_append→ZC,toArray_toList→Yr,toList_append→Zx,toList_inj→aaj
open Bool renaming and_eq_true→Xg,eq_false_iff→X7,eq_iff_iff→Xy,false_eq_true→Yn,false_or→Ya,not_eq_true'→XF,not_true→Zy,or_eq_true→XJ
open Classical renaming choose→Zp,choose_spec→YW
open Int renaming toNat_of_nonneg→aab
open List.Pairwise renaming nil→YG
open List renaming all_eq_true→Xm,any_eq_true→XM,append_assoc→Xa,append_nil→XE,cons_append→Ym,flatten_cons→ZP,foldl_cons→Xq,getD_eq_getElem?_getD→WU,getElem?_append_left→Xf,getElem?_append_right→Xj,getElem?_cons_succ→Y3,getElem?_cons_zero→ZA,getElem?_drop→Yc,getElem?_eq_getElem→WY,getElem?_eq_none→Zc,getElem?_eq_some_iff→WX,getElem?_map→W1,getElem?_of_mem→XP,getElem?_set→XK,getElem?_take→XY,getElem?_toArray→Yf,getElem_mem→XD,length→Zn,length_append→WW,length_cons→Xx,length_map→Xr,length_nil→YB,length_take→XH,map_append→WZ,map_cons→Xe,map_nil→XN,mem_append_left→Xv,mem_cons→Xb,mem_cons_of_mem→W8,mem_cons_self→Xd,mem_filter→Xs,mem_map→Xt,mem_of_getElem?→Xo,mem_singleton→W5,nil_append→Y5,nodup_cons→X5,nodup_nil→XT,pairwise_cons→Yo,pairwise_iff_getElem→Zu,range→Xc
open Nat renaming add_assoc→Yu,add_mul→Yj,add_zero→Y8,beq→Xn,ble→YQ,ble_eq_true_of_le→XB,blt→Xi,eq_of_beq_eq_true→Xh,le_of_ble_eq_true→WR,le_of_not_lt→YY,le_refl→W0,le_trans→Xz,lt_of_lt_of_le→YX,lt_or_ge→X3,lt_succ_of_lt→YS,lt_succ_self→YC,mul_le_mul_right→Xw,ne_of_lt→ZY,not_lt_zero→Y6,sub_self→ZX,sub_zero→ZZ,succ_mul→Y7,zero_add→Xk,zero_le→W3,zero_mul→Za
open Option renaming getD_some→Yl,map_eq_none_iff→Y9,map_eq_some_iff→W6,map_map→Z9,map_none→Z3,map_some→XW
open Option.some renaming inj→XX,injEq→WV
open Prod renaming fst→Xl
open Prod.mk renaming injEq→W9
set_option maxRecDepth 100000
namespace Go
theorem Z.{u}{α:Sort u}{a:α}:a=a:=rfl
theorem ac:True:=trivial
theorem am.{u}{c:Prop}{h:Decidable c}(hc:c){α:Sort u}{t e:α}:(@ite α c h t e)=t:=if_pos hc
theorem be.{u}{c:Prop}{h:Decidable c}(hc:¬c){α:Sort u}{t e:α}:(@ite α c h t e)=e:=if_neg hc
end Go
namespace Go.Al
def sA:List Int:=[1,10,100,1000,10000,100000,1000000,10000000,100000000,1000000000,10000000000,100000000000,1000000000000,10000000000000,100000000000000,1000000000000000,10000000000000000,100000000000000000,1000000000000000000,10000000000000000000]
def Sq:Nat->Option (Array Value)
 |0=>some (sA.map fun z=>Value.int .u64 z).toArray
 |_=>none
inductive KC where
 |str
 |int (k:IntKind)
 |si (k:IntKind)
 deriving DecidableEq
@[reducible] def KC.K:KC->Type
 | .str=>ByteArray
 | .int _=>Int
 | .si _=>ByteArray×Int
instance KC.deq:(c:KC)->DecidableEq c.K
 | .str=>inferInstanceAs (DecidableEq ByteArray)
 | .int _=>inferInstanceAs (DecidableEq Int)
 | .si _=>inferInstanceAs (DecidableEq (ByteArray×Int))
def KC.ek:(c:KC)->c.K->Value
 | .str,s=> .string s
 | .int k,n=> .int k n
 | .si k,x=> .agg #[.string x.1, .int k x.2]
inductive IV:Type 1 where
 |v (x:Value)
 |dq (sz n:Nat) (el:Nat->List IV)
 |mf (cs:List IV)
 |agg (cs:List IV)
 |fw {V:Type} (kc:KC) (ev:V->IV) (z:V) (zv:Value) (m:List (kc.K×V))
inductive PV:Type 1 where
 |iv (x:IV)
 |agg (cs:List PV)
 |bT (cs:List PV)
 |ptr (i off:Nat)
 |dC (i sz k off:Nat)
 |fv (z:Bool) (i:Nat)
 |sl (i off len sz:Nat)
 |mp (i:Nat)
 |dr (fn:Fn) (first caps:List PV)
 |kb (b:Bool)
 |any
inductive AO:Type 1 where
 |cells (cs:List PV) (T:Option TypeId:=none)
 |row (sz:Nat) (es:List (List PV))
 |bG (l:List UInt8) (T:TypeId)
 |fY
 |map {V:Type} (kc:KC) (ev:V->IV) (z:V) (zv:Value) (dv:PV->V) (m:List (kc.K×V))
 |bS {V:Type} (kc:KC) (ev:V->IV) (m:List (kc.K×V)) (vs:List Nat) (cur:Option (kc.K×V))
 |eJ (s:ByteArray) (pos:Nat)
inductive MB where
 |cells (c:Array Value)
 |map (ents:Array MapEntry) (clock:Nat)
structure Mem where
 fn:Nat->Option MB
 OV: ∀b c,Sq b=some c->fn b=some (.cells c)
instance:CoeFun Mem (fun _=>Nat->Option MB):=⟨Mem.fn⟩
def Mem.base:Mem:=⟨fun b=>(Sq b).map .cells,fun b c h=>by rw[h];rfl⟩
def B6(a:Option TypeId)(T:TypeId):Prop:= ∀t,a=some t->T=t
theorem B6.none(T:TypeId):B6 none T:=fun _ h=>nomatch h
def Mem.cell(M:Mem)(b o:Nat):Option Value:=match M b with|some (.cells c)=>c[o]? |_=>none
def Mem.set(M:Mem)(b:Nat)(c:MB)(h:M b=none):Mem:=
 ⟨fun x=>if x=b then some c else M x,fun x d hx=>by
  rw[be fun e=>by have:=M.OV x d hx;rw[e]at this;exact absurd (this.symm.trans h) (by simp)]
  exact M.OV x d hx⟩
def MB.H7(w:World)(b:Nat):MB->Prop
 | .cells c=> ∃T fr,w.heap[b]? =some (.cells c T fr)
 | .map es cl=>w.heap[b]? =some (.map es cl)
theorem MB.H7.lt{w:World}{b:Nat}{m:MB}(h:m.H7 w b):b<w.heap.size:=by
 cases m with
 |cells c=>obtain⟨T,fr,h1⟩:=h;exact(Yd.1 h1).1
 |map es cl=>exact(Yd.1 h).1
theorem MB.H7.mono{w w':World}{b:Nat}{m:MB}(h:m.H7 w b)(e:w'.heap[b]? =w.heap[b]?):m.H7 w' b:=by
 cases m with
 |cells c=>obtain⟨T,fr,h1⟩:=h;exact⟨T,fr,e.trans h1⟩
 |map es cl=>exact e.trans h
structure Nm where
 aI:Nat->Nat
 ext:Nat->Nat
inductive IR (M:Mem):IV->Value->Prop
 |v (x:Value):IR M (.v x) x
 |kQ (sz:Nat) (el:Nat->List IV) (a:Option Addr) (cap:Nat):IR M (.dq sz 0 el) (.slice a 0 cap)
 | dq (sz n:Nat) (el:Nat->List IV) (b off cap:Nat) (hn:n<=cap) (hc:cap<=maxLen) (hl: ∀k,k<n->(el k).length=sz)
   (hm: ∀k j,k<n->j<sz->(M.cell b (off+k*sz+j)).isSome=true)
   (hr: ∀k j p,k<n->(el k)[j]? =some p->IR M p ((M.cell b (off+k*sz+j)).getD undef)):
   IR M (.dq sz n el) (.slice (some ⟨b,off,none⟩) n cap)
 | mf (cs:List IV) (b off:Nat) (hm: ∀j,j<cs.length->(M.cell b (off+j)).isSome=true)
   (hr: ∀j p,cs[j]? =some p->IR M p ((M.cell b (off+j)).getD undef)):IR M (.mf cs) (.pointer (some ⟨b,off,none⟩))
 |agg (cs:List IV) (ys:Array Value) (hl:cs.length=ys.size) (hr: ∀j p,cs[j]? =some p->IR M p (ys.getD j undef)):IR M (.agg cs) (.agg ys)
 | fw {V:Type} (kc:KC) (ev:V->IV) (z:V) (zv:Value) (m:List (kc.K×V)) (b:Nat) (ents:Array MapEntry) (clock:Nat) (hb:M b=some (.map ents clock)) (hs:ents.size=m.length)
   (hk: ∀(j:Nat) (x:kc.K×V),m[j]? =some x->(ents.getD j default).key=kc.ek x.1) (hv: ∀(j:Nat) (x:kc.K×V),m[j]? =some x->IR M (ev x.2) (ents.getD j default).val) (hz:IR M (ev z) zv)
   (hi: ∀(j k:Nat) (e f:MapEntry),ents[j]? =some e->ents[k]? =some f->e.born=f.born->j=k) (hc: ∀(j:Nat) (e:MapEntry),ents[j]? =some e->e.born<clock):IR M (.fw kc ev z zv m) (.map (some b))
inductive VR (M:Mem) (N:Nm) (U:Nat->Prop):PV->Value->Prop
 |iv (x:IV) (y:Value) (h:IR M x y):VR M N U (.iv x) y
 |agg (cs:List PV) (ys:Array Value) (hl:cs.length=ys.size) (hr: ∀j p,cs[j]? =some p->VR M N U p (ys.getD j undef)):VR M N U (.agg cs) (.agg ys)
 |bT (cs:List PV) (ys:Array Value) (hl:cs.length=ys.size) (hr: ∀j p,cs[j]? =some p->VR M N U p (ys.getD j undef)):VR M N U (.bT cs) (.tuple ys)
 |ptr (i off:Nat) (h:U i):VR M N U (.ptr i off) (.pointer (some ⟨N.aI i,off,none⟩))
 |dC (i sz k off:Nat) (h:U i):VR M N U (.dC i sz k off) (.pointer (some ⟨N.aI i,k*sz+off,none⟩))
 |fv (z:Bool) (i:Nat) (h:U i):VR M N U (.fv z i) (.pointer (bif z then none else some ⟨N.aI i,0,none⟩))
 |sl (i off len sz cap:Nat) (h:U i) (h0:0<len) (hl:len<=cap) (hc:cap<=maxLen) (he:(off+cap)*sz=N.ext i):VR M N U (.sl i off len sz) (.slice (some ⟨N.aI i,off*sz,none⟩) len cap)
 |ph (i sz:Nat) (h:U i):VR M N U (.sl i 0 0 sz) (.slice none 0 0)
 |sle (i sz cap:Nat) (h:U i) (hc:cap<=maxLen) (he:cap*sz=N.ext i):VR M N U (.sl i 1 0 sz) (.slice (some ⟨N.aI i,0,none⟩) 0 cap)
 |mp (i:Nat) (h:U i):VR M N U (.mp i) (.map (some (N.aI i)))
 | dr (fn:Fn) (first caps:List PV) (f' c':Array Value) (h1:first.length=f'.size) (h2:caps.length=c'.size)
   (hr1: ∀j p,first[j]? =some p->VR M N U p (f'.getD j undef)) (hr2: ∀j p,caps[j]? =some p->VR M N U p (c'.getD j undef)):VR M N U (.dr fn first caps) (.func fn f' c')
 |kb (b:Bool):VR M N U (.kb b) (.bool b)
 |any (x:Value):VR M N U .any x
def Mem.le(M M':Mem):Prop:= ∀b c,M b=some c->M' b=some c
theorem Mem.le.refl(M:Mem):M.le M:=fun _ _ h=>h
theorem Mem.le.trans{A B C:Mem}(h:A.le B)(k:B.le C):A.le C:=fun b c e=>k b c (h b c e)
theorem Mem.le.cell{M M':Mem}(h:M.le M'){b o:Nat}{v:Value}(hc:M.cell b o=some v):M'.cell b o=some v:=by
 unfold Mem.cell at*
 cases hb:M b with
 |none=>simp[hb]at hc
 |some c=>rw[hb]at hc;rw[h b c hb];exact hc
theorem Mem.le.isSome{M M':Mem}(h:M.le M'){b o:Nat}(hc:(M.cell b o).isSome=true):(M'.cell b o).isSome=true∧(M'.cell b o).getD undef=(M.cell b o).getD undef:=by
 cases hv:M.cell b o with
 |none=>simp[hv]at hc
 |some v=>rw[h.cell hv];simp
theorem IR.mono{M M':Mem}(hM:M.le M'){p:IV}{x:Value}(h:IR M p x):IR M' p x:=by
 induction h with
 |v x=>exact .v x
 |kQ sz el a cap=>exact .kQ sz el a cap
 |dq sz n el b off cap hn hc hl hm hr ih=>
  refine .dq sz n el b off cap hn hc hl (fun k j hk hj=>(hM.isSome (hm k j hk hj)).1) (fun k j p hk hp=>?_);have hj:j<sz:=by rw[<-hl k hk];exact(WX.1 hp).1
  rw[(hM.isSome (hm k j hk hj)).2];exact ih k j p hk hp
 |mf cs b off hm hr ih=>
  refine .mf cs b off (fun j hj=>(hM.isSome (hm j hj)).1) (fun j p hp=>?_);have hj:j<cs.length:=(WX.1 hp).1;rw[(hM.isSome (hm j hj)).2];exact ih j p hp
 |agg cs ys hl hr ih=>exact .agg cs ys hl ih
 |fw kc ev z zv m b ents clock hb hs hk hv hz hi hc ihv ihz=>exact .fw kc ev z zv m b ents clock (hM _ _ hb) hs hk ihv ihz hi hc
structure lA {V:Type} (M:Mem) (kc:KC) (ev:V->IV) (m:List (kc.K×V)) (ents:Array MapEntry) (clock:Nat):Prop where
 size:ents.size=m.length
 key: ∀(j:Nat) (x:kc.K×V),m[j]? =some x->(ents.getD j default).key=kc.ek x.1
 val: ∀(j:Nat) (x:kc.K×V),m[j]? =some x->IR M (ev x.2) (ents.getD j default).val
 inj: ∀(j k:Nat) (e f:MapEntry),ents[j]? =some e->ents[k]? =some f->e.born=f.born->j=k
 lt: ∀(j:Nat) (e:MapEntry),ents[j]? =some e->e.born<clock
theorem lA.mono{V:Type}{M M':Mem}(hM:M.le M'){kc:KC}{ev:V->IV}{m:List (kc.K×V)}{ents:Array MapEntry}{clock:Nat}(h:lA M kc ev m ents clock):lA M' kc ev m ents clock:=
 ⟨h.size,h.key,fun j x hx=>(h.val j x hx).mono hM,h.inj,h.lt⟩
structure Nm.agree (N N':Nm) (U:Nat->Prop):Prop where
 aI: ∀i,U i->N'.aI i=N.aI i
 ext: ∀i,U i->N'.ext i=N.ext i
theorem Nm.agree.refl(N:Nm)(U:Nat->Prop):N.agree N U:=⟨fun _ _=>rfl,fun _ _=>rfl⟩
theorem VR.mono{M M':Mem}{N N':Nm}{U U':Nat->Prop}(hM:M.le M')(hN:N.agree N' U)(hU: ∀i,U i->U' i){p:PV}{x:Value}(h:VR M N U p x):VR M' N' U' p x:=by
 induction h with
 |iv x y h=>exact .iv x y (h.mono hM)
 |agg cs ys hl hr ih=>exact .agg cs ys hl ih
 |bT cs ys hl hr ih=>exact .bT cs ys hl ih
 |ptr i off h=>rw[<-hN.aI i h];exact .ptr i off (hU i h)
 |dC i sz k off h=>rw[<-hN.aI i h];exact .dC i sz k off (hU i h)
 |fv z i h=>rw[<-hN.aI i h];exact .fv z i (hU i h)
 |sl i off len sz cap h h0 hl hc he=>rw[<-hN.aI i h];exact .sl i off len sz cap (hU i h) h0 hl hc (by rw[hN.ext i h];exact he)
 |ph i sz h=>exact .ph i sz (hU i h)
 |sle i sz cap h hc he=>rw[<-hN.aI i h];exact .sle i sz cap (hU i h) hc (by rw[hN.ext i h];exact he)
 |mp i h=>rw[<-hN.aI i h];exact .mp i (hU i h)
 |dr fn first caps f' c' h1 h2 hr1 hr2 ih1 ih2=>exact .dr fn first caps f' c' h1 h2 ih1 ih2
 |kb b=>exact .kb b
 |any x=>exact .any x
abbrev AH:=List (Nat×Option AO)
def AH.get:AH->Nat->Option AO
 | [],_=>none
 |(i,o)::r,k=>bif Xn k i then o else AH.get r k
abbrev AF:=List (Nat×PV)
def AF.get:AF->Nat->PV
 | [],_=> .any
 |(i,p)::r,k=>bif Xn k i then p else AF.get r k
theorem AF.au(i:Nat)(p:PV)(r:AF)(k:Nat):AF.get ((i,p)::r) k=if k=i then p else AF.get r k:=by
 by_cases h:k=i
 ·subst h;simp[AF.get]
 ·have:Xn k i=false:=X7.2 (fun e=>h (Xh e));simp[AF.get,this,h]
theorem AH.au(i:Nat)(o:Option AO)(r:AH)(k:Nat):AH.get ((i,o)::r) k=if k=i then o else AH.get r k:=by
 by_cases h:k=i
 ·subst h;simp[AH.get]
 ·have:Xn k i=false:=X7.2 (fun e=>h (Xh e));simp[AH.get,this,h]
def OR(M:Mem)(N:Nm)(U:Nat->Prop)(w:World)(i:Nat):AO->Prop
 | .cells cs T0=> ∃c T,w.heap[N.aI i]? =some (.cells c T (0,0))∧c.size=N.ext i∧cs.length=c.size∧(∀j p,cs[j]? =some p->VR M N U p (c.getD j undef))∧B6 T0 T
 | .row sz es=>es=[]∨0<sz∧ ∃c T,w.heap[N.aI i]? =some (.cells c T (0,0))∧c.size=N.ext i∧es.length*sz<=c.size∧(∀(k:Nat) (e:List PV),es[k]? =some e->e.length=sz)∧
   ∀(k:Nat) (e:List PV) (j:Nat) (p:PV),es[k]? =some e->e[j]? =some p->VR M N U p (c.getD (k*sz+j) undef)
 | .bG l T=>l=[]∨ ∃c,w.heap[N.aI i]? =some (.cells c T (0,0))∧c.size=N.ext i∧l.length<=c.size∧ ∀(j:Nat) (x:UInt8),l[j]? =some x->c.getD j undef= .int .u8 (x.toNat:Int)
 | .fY=>w.heap[N.aI i]? =some (.map #[] 0)
 | .map kc ev z zv _ m=> ∃(ents:Array MapEntry) (clock:Nat),w.heap[N.aI i]? =some (.map ents clock)∧lA M kc ev m ents clock∧IR M (ev z) zv
 | .bS kc ev m vs cur=>(m=[]∧vs=[]∧cur=none∧w.heap[N.aI i]? =some (.mapIter none 0 #[] 0))∨ ∃(b:Nat) (ents:Array MapEntry) (clock:Nat) (a0:Array Nat),w.heap[N.aI i]? =some (.mapIter (some b) clock a0 clock)∧M b=some (.map ents clock)∧lA M kc ev m ents clock∧
   a0.toList=vs.reverse.map (fun j=>(ents.getD j default).born)∧(∀j∈vs,j<m.length)∧vs.Nodup∧ ∀x,cur=some x-> ∃j r,vs=j::r∧m[j]? =some x
 | .eJ s pos=>w.heap[N.aI i]? =some (.stringIter s pos)
def AO.real:AO->Bool
 | .row _ []=>false
 | .bG [] _=>false
 |_=>true
structure Rel (M:Mem) (N:Nm) (U:Nat->Prop) (h:AH) (w:World):Prop where
 dF: ∀b c,M b=some c->c.H7 w b
 used: ∀i o,h.get i=some o->U i
 eK: ∀i o,h.get i=some o->o.real=true->M (N.aI i)=none
 obj: ∀i o,h.get i=some o->OR M N U w i o
 inj: ∀i j o p,h.get i=some o->h.get j=some p->o.real=true->p.real=true->N.aI i=N.aI j->i=j
theorem OR.lt{M:Mem}{N:Nm}{U:Nat->Prop}{w:World}{i:Nat}{o:AO}(h:OR M N U w i o)(a0:o.real=true):N.aI i<w.heap.size:=by
 have key: ∀x,w.heap[N.aI i]? =some x->N.aI i<w.heap.size:=fun x hx=>(Yd.1 hx).1
 cases o with
 |cells cs T0=>obtain⟨c,T,h1,_⟩:=h;exact key _ h1
 |row sz es=>
  rcases h with rfl|⟨_,c,T,h1,_⟩
  ·cases a0
  ·exact key _ h1
 |bG l T=>
  rcases h with rfl|⟨c,h1,_⟩
  ·cases a0
  ·exact key _ h1
 |fY=>exact key _ h
 |map kc ev z zv dv m=>obtain⟨e,cl,h1,_⟩:=h;exact key _ h1
 |bS kc ev m l cu=>rcases h with⟨_,_,_,h1⟩|⟨b,e,cl,se,h1,_⟩<;>exact key _ h1
 |eJ s p=>exact key _ h
theorem OR.mono{M M':Mem}{N N':Nm}{U U':Nat->Prop}{w w':World}{i:Nat}{o:AO}(hM:M.le M')(hN:N.agree N' U)(hU: ∀i,U i->U' i)(hi:U i)(hb:w'.heap[N.aI i]? =w.heap[N.aI i]?)
  (h:OR M N U w i o):OR M' N' U' w' i o:=by
 cases o with
 |cells cs T0=>
  obtain⟨c,T,h1,h2,h3,h4,h5⟩:=h;exact⟨c,T,by rw[hN.aI i hi,hb,h1],by rw[hN.ext i hi,h2],h3,fun j p hp=>(h4 j p hp).mono hM hN hU,h5⟩
 |row sz es=>
  rcases h with h|⟨h0,c,T,h1,h2,h3,h4,h5⟩
  ·exact .inl h
  exact .inr ⟨h0,c,T,by rw[hN.aI i hi,hb,h1],by rw[hN.ext i hi,h2],h3,h4,fun k e j p he hp=>(h5 k e j p he hp).mono hM hN hU⟩
 |bG l T=>
  rcases h with h|⟨c,h1,h2,h3,h4⟩
  ·exact .inl h
  exact .inr ⟨c,by rw[hN.aI i hi,hb,h1],by rw[hN.ext i hi,h2],h3,h4⟩
 |fY=>show w'.heap[N'.aI i]? =_;rw[hN.aI i hi,hb];exact h
 |map kc ev z zv dv m=>
  obtain⟨e,cl,h1,h2,h3⟩:=h;exact⟨e,cl,by rw[hN.aI i hi,hb,h1],h2.mono hM,h3.mono hM⟩
 |bS kc ev m l cu=>
  rcases h with⟨h1,h2,h3,h4⟩|⟨b,e,cl,se,h1,h2,h3,h4⟩
  ·exact .inl ⟨h1,h2,h3,by rw[hN.aI i hi,hb,h4]⟩
  ·exact .inr ⟨b,e,cl,se,by rw[hN.aI i hi,hb,h1],hM _ _ h2,h3.mono hM,h4⟩
 |eJ s p=>show w'.heap[N'.aI i]? =_;rw[hN.aI i hi,hb];exact h
structure Ext (M:Mem) (N:Nm) (U:Nat->Prop) (h:AH) (w:World) (M':Mem) (N':Nm) (U':Nat->Prop) (h':AH) (w':World):Prop where
 os:w'.os=w.os
 tape:w'.tape=w.tape
 output:w'.output=w.output
 size:w.heap.size<=w'.heap.size
 jq: ∀b,b<w.heap.size->(∀i o,h.get i=some o->o.real=true->N.aI i≠b)->w'.heap[b]? =w.heap[b]?
 rF:M.le M'
 jM: ∀b c,M b=none->M' b=some c->w.heap.size<=b∨ ∃i o,h.get i=some o∧o.real=true∧N.aI i=b
 nm:N.agree N' U
 ule: ∀i,U i->U' i
 iW: ∀i o,h'.get i=some o->o.real=true->w.heap.size<=N'.aI i∨ ∃j p,h.get j=some p∧p.real=true∧N.aI j=N'.aI i
theorem Ext.refl(M:Mem)(N:Nm)(U:Nat->Prop)(h:AH)(w:World):Ext M N U h w M N U h w:=
 ⟨rfl,rfl,rfl,W0 _,fun _ _ _=>rfl, .refl _,fun b c h1 h2=>by simp[h1]at h2, .refl _ _,fun _ h=>h,fun i o hi hr=> .inr ⟨i,o,hi,hr,rfl⟩⟩
theorem Ext.trans{M M1 M2:Mem}{N N1 N2:Nm}{U U1 U2:Nat->Prop}{h h1 h2:AH}{w w1 w2:World}
  (a:Ext M N U h w M1 N1 U1 h1 w1) (b:Ext M1 N1 U1 h1 w1 M2 N2 U2 h2 w2):Ext M N U h w M2 N2 U2 h2 w2 where
 os:=b.os.trans a.os
 tape:=b.tape.trans a.tape
 output:=b.output.trans a.output
 size:=Xz a.size b.size
 jq:=fun k hk hn=>by
  rw[b.jq k (YX hk a.size) (fun i o hi a0 he=>?_),a.jq k hk hn];rcases a.iW i o hi a0 with h3|⟨j,p,h3,hp,h4⟩
  ·omega
  ·exact hn j p h3 hp (h4.trans he)
 rF:=a.rF.trans b.rF
 jM:=fun k c h3 h4=>by
  cases h5:M1 k with
  |some c'=>exact a.jM k c' h3 h5
  |none=>
   rcases b.jM k c h5 h4 with h6|⟨i,o,h6,a0,h7⟩
   ·exact .inl (Xz a.size h6)
   ·rcases a.iW i o h6 a0 with h8|⟨j,p,h8,hp,h9⟩
    ·exact .inl (by omega)
    ·exact .inr ⟨j,p,h8,hp,h9.trans h7⟩
 nm:=⟨fun i hi=>(b.nm.aI i (a.ule i hi)).trans (a.nm.aI i hi),fun i hi=>(b.nm.ext i (a.ule i hi)).trans (a.nm.ext i hi)⟩
 ule:=fun i hi=>b.ule i (a.ule i hi)
 iW:=fun i o hi a0=>by
  rcases b.iW i o hi a0 with h3|⟨j,p,h3,hp,h4⟩
  ·exact .inl (Xz a.size h3)
  ·rcases a.iW j p h3 hp with h5|⟨k,q,h5,hq,h6⟩
   ·exact .inl (by omega)
   ·exact .inr ⟨k,q,h5,hq,h6.trans h4⟩
def aH(p q:PV):Prop:= ∀(M:Mem) (N:Nm) (U:Nat->Prop) (x:Value),VR M N U p x->VR M N U q x
def nA(p q:IV):Prop:= ∀(M:Mem) (x:Value),IR M p x->IR M q x
theorem aH.refl(p:PV):aH p p:=fun _ _ _ _ h=>h
theorem BQ(w:World)(o:Obj)(i:Nat)(h:i<w.heap.size):(w.alloc o).heap[i]? =w.heap[i]? :=by
 show(w.heap.push o)[i]? =_;rw[Zh,be (by omega)]
def FR(M:Mem)(N:Nm)(U:Nat->Prop)(f:AF)(t:Array Value):Prop:= ∀k,VR M N U (f.get k) (t.getD k undef)
theorem FR.mono{M M':Mem}{N N':Nm}{U U':Nat->Prop}{f:AF}{t:Array Value}(hM:M.le M')(hN:N.agree N' U)(hU: ∀i,U i->U' i)(h:FR M N U f t):FR M' N' U' f t:=fun k=>(h k).mono hM hN hU
theorem FR.ext{M M':Mem}{N N':Nm}{U U':Nat->Prop}{h h':AH}{w w':World}{f:AF}{t:Array Value}(e:Ext M N U h w M' N' U' h' w')(hf:FR M N U f t):FR M' N' U' f t:=hf.mono e.rF e.nm e.ule
theorem FR.put{M:Mem}{N:Nm}{U:Nat->Prop}{f:AF}{t:Array Value}(h:FR M N U f t)(d:Nat)(p:PV)(x:Value)(hd:d<t.size)(hp:VR M N U p x):FR M N U ((d,p)::f) (t.setIfInBounds d x):=by
 intro k;rw[AF.au];by_cases hk:k=d
 ·subst hk;simp[WT,hd,hp]
 ·rw[be hk];have:=h k;simp only[WT,XG]at this ⊢;rw[be (fun e=>hk e.symm)];exact this
inductive TK where
  |bb (d:TypeDesc)
  |dE (fs:List (Nat×TypeId))
  |arr (n:Nat) (e:TypeId)
structure cI where
  k:TK
  size:Nat
  bytes:Nat
  zero:Value
  eq:Bool
abbrev Ty:=Nat->Option cI
def zi:TypeDesc->Bool
  | .struct _=>false
  | .array _ _=>false
  |_=>true
def L2(P:Program)(t:TypeId):TK->Prop
  | .bb d=>P.underlying t=some d∧zi d=true
  | .dE fs=> ∃F,P.underlying t=some (.struct F)∧F.toList.map (fun f=>(f.offset,f.type))=fs
  | .arr n e=>P.underlying t=some (.array n e)
def Vl(P:Program)(t:TypeId):Prop:=P.stoodInHeld t=false∧P.eqGuardType P.depth t=false∧ ∀f∈(P.fieldsOf t).toList,f.name≠ "_"
def ay(P:Program)(t:TypeId)(e:cI):Prop:=
  (∃i,P.info? t=some i∧i.size=e.size∧i.bytes=e.bytes∧i.zero=some e.zero)∧L2 P t e.k∧(e.eq=true->Vl P t)
def cz(P:Program)(ty:Ty):Prop:= ∀t e,ty t=some e->ay P t e
section
variable {P:Program} {w:World}
theorem ct{t:TypeId}{e:cI}(h:ay P t e):(sizeOf t).run P w= .ok e.size w:=by
  obtain⟨⟨i,hi,hs,_⟩,_⟩:=h;simp[sizeOf,run_typeInfo w hi,hs]
theorem dZ{t:TypeId}{e:cI}(h:ay P t e):(zeroValue t).run P w= .ok e.zero w:=by
  obtain⟨⟨i,hi,hs,hb,hz⟩,_⟩:=h;simp[zeroValue,run_typeInfo w hi,hz]
def TK.agg:TK->Bool
  | .bb _=>false
  |_=>true
theorem oy{t:TypeId}{e:cI}(h:ay P t e):(isAgg t).run P w= .ok e.k.agg w:=by
  obtain⟨_,hk,_⟩:=h;cases hek:e.k with
  | bb d=>
    rw[hek]at hk;obtain⟨h1,h2⟩:=hk;simp only[isAgg,Sem.run_bind,run_underlying h1,Result.andThen_ok];cases d<;>simp_all [zi,TK.agg]
  | dE fs=>
    rw[hek]at hk;obtain⟨F,h1,_⟩:=hk;simp[isAgg,run_underlying h1,TK.agg]
  | arr n el=>
    rw[hek]at hk;simp only[L2]at hk;simp[isAgg,run_underlying hk,TK.agg]
end
structure AS where
  f:AF
  h:AH
  nx:Nat
def Fits(M:Mem)(N:Nm)(s:AS)(nt:Nat)(a:Act)(w:World):Prop:=
  Rel M N (· <s.nx) s.h w∧FR M N (· <s.nx) s.f a.tmps∧a.defers=[]∧a.tmps.size=nt
def ofV:Value->PV
  | .agg cs=> .agg (cs.toList.map fun v=> .iv (.v v))
  | .bool b=> .kb b
  |v=> .iv (.v v)
def ev(f:AF):Operand->PV
  | .tmp t=>f.get t
  | .const v=>ofV v
  | .global _=> .any
  | .func g=> .dr (.func g) [] []
theorem Sj{M:Mem}{N:Nm}{U:Nat->Prop}(v:Value):VR M N U (ofV v) v:=by
  cases v<;>first
    |exact .iv _ _ (.v _)
    |exact .kb _
    | (refine .agg _ _ (by simp) (fun j p hp=>?_)
       rw[W1,W6]at hp;obtain⟨x,hx,rfl⟩:=hp;rename_i cs;have a0:cs[j]? =some x:=by simpa using hx
       rw[WT,a0]
       exact .iv _ _ (.v _))
theorem bf{M:Mem}{N:Nm}{U:Nat->Prop}{f:AF}{a:Act}(h:FR M N U f a.tmps)(x:Operand):VR M N U (ev f x) (a.eval x):=by
  cases x with
  |tmp t=>exact h t
  |const v=>exact Sj v
  |global g=>exact .any _
  |func g=>exact .dr _ _ _ _ _ Z Z (by simp) (by simp)
def nF(cs:List PV)(off n:Nat):Option (List PV):=let l:=(cs.drop off).take n;bif Xn l.length n then some l else none
def xV{α:Type _}(p:PV)(k:PV->α):α:=
  match p with
  | .iv x=>k (.iv x)
  | .agg cs=>k (.agg cs)
  | .bT cs=>k (.bT cs)
  | .ptr i o=>k (.ptr i o)
  | .dC i sz a o=>k (.dC i sz a o)
  | .fv z i=>k (.fv z i)
  | .sl i o n sz=>k (.sl i o n sz)
  | .mp i=>k (.mp i)
  | .dr fn a b=>k (.dr fn a b)
  | .kb b=>k (.kb b)
  | .any=>k .any
theorem eF{α:Type _}(p:PV)(k:PV->α):xV p k=k p:=by cases p<;>rfl
def force{α:Type _}:List PV->(List PV->α)->α
  | [],k=>k []
  |x::r,k=>xV x fun x'=>force r fun r'=>k (x'::r')
theorem force_eq{α:Type _}: ∀(l:List PV) (k:List PV->α),force l k=k l
  | [],_=>rfl
  |x::r,k=>by simp only[force,eF];rw[force_eq r]
def PV.one:PV->Bool
  | .iv (.v (.agg _))=>false
  | .iv (.v (.tuple _))=>false
  | .iv (.agg _)=>false
  | .iv _=>true
  | .agg _=>false
  | .bT _=>false
  | .any=>false
  |_=>true
def PV.cells:PV->Option (List PV)
  | .agg cs=>some cs
  | p=>match p.one with
    |true=>some [p]
    |false=>none
def jb:List PV->Bool
  | []=>true
  | p::r=>match p.one with
    |true=>jb r
    |false=>false
def setCells:List PV->Nat->List PV->List PV
  | [],_,_=> []
  |c::cs,0,[]=>c::cs
  |_::cs,0,x::xs=>x::setCells cs 0 xs
  |c::cs,n+1,xs=>c::setCells cs n xs
theorem fM: ∀(cs:List PV) (n:Nat) (xs:List PV),(setCells cs n xs).length=cs.length
  | [],_,_=>rfl
  |c::cs,0,[]=>rfl
  |_::cs,0,x::xs=>by simp[setCells,fM cs 0 xs]
  |c::cs,n+1,xs=>by simp[setCells,fM cs n xs]
theorem ld: ∀(cs:List PV) (n:Nat) (xs:List PV) (j:Nat) (p:PV),(setCells cs n xs)[j]? =some p->(n<=j∧xs[j-n]? =some p)∨((j<n∨n+xs.length<=j)∧cs[j]? =some p)
  | [],_,_,j,p,h=>by simp[setCells]at h
  |c::cs,0,[],j,p,h=> .inr ⟨.inr (by simp),h⟩
  | c::cs,0,x::xs,j,p,h=>by
    simp only[setCells]at h;cases j with
    |zero=>exact .inl ⟨W0 _,by simpa using h⟩
    | succ j=>
      rcases ld cs 0 xs j p (by simpa using h) with⟨_,h1⟩|⟨h1,h2⟩
      · exact .inl ⟨W3 _,by simpa using h1⟩
      · exact .inr ⟨by simp at h1 ⊢;omega,by simpa using h2⟩
  | c::cs,n+1,xs,j,p,h=>by
    simp only[setCells]at h;cases j with
    |zero=>exact .inr ⟨.inl (by omega),by simpa using h⟩
    | succ j=>
      rcases ld cs n xs j p (by simpa using h) with⟨h1,h2⟩|⟨h1,h2⟩
      · exact .inl ⟨by omega,by rw[show j+1-(n+1)=j-n by omega];exact h2⟩
      · exact .inr ⟨by omega,by simpa using h2⟩
def cV(v:Value):List PV:=v.cells.toList.map fun x=> .iv (.v x)
def rQ(a0:Nat->Option (Nat×Nat)):List PV->List (Nat×PV)->Option (List PV)
  |cs,[]=>some cs
  | cs,(i,p)::r=>match a0 i with
    | some (off,size)=>match p.cells with
      | some l=>match Xn l.length size,YQ (off+l.length) cs.length with
        |true,true=>force (setCells cs off l) fun b0=>rQ a0 b0 r
        |_,_=>none
      |none=>none
    |none=>none
def mh:List PV->Option PV
  | []=>none
  |p::_=>some p
def behind(h:AH):PV->Option (List PV)
  | .ptr i off=>match h.get i with
    |some (.cells cs _)=>some (cs.drop off)
    |_=>none
  | .dC i sz k off=>match h.get i with
    | some (.row sz' es)=>match Xn sz' sz,es[k]? with
      |true,some e=>some (e.drop off)
      |_,_=>none
    |_=>none
  | .iv (.mf cs)=>some (cs.map .iv)
  |_=>none
def jX(e:cI)(cs:List PV):Option PV:=
  match e.k.agg with
  | true=>match nF cs 0 e.size with
    |some l=>force l fun l'=>some (.agg l')
    |none=>none
  |false=>mh cs
def wL(e:cI)(k:Nat):Option (Nat×TypeId):=
  match e.k with
  | .dE fs=>fs[k]?
  |_=>none
def tE(ty:Ty):List (Nat×TypeId)->Option (List (Nat×Nat))
  | []=>some []
  | (off,u)::r=>match ty u with
    | some e=>match tE ty r with
      |some l=>some ((off,e.size)::l)
      |none=>none
    |none=>none
def sy(n:Nat):PV->Option PV
  | .ptr i off=>some (.ptr i (off+n))
  | .dC i sz k off=>some (.dC i sz k (off+n))
  | .iv (.mf cs)=>some (.iv (.mf (cs.drop n)))
  |_=>none
abbrev PV.bool(b:Bool):PV:= .iv (.v (.bool b))
abbrev PV.int(n:Int):PV:= .iv (.v (.int .i64 n))
abbrev PV.str(s:ByteArray):PV:= .iv (.v (.string s))
def iO(n:Int):Prop:= -9223372036854775808<=n∧n<=9223372036854775807
def Gz(op:BinOp)(k:IntKind)(a b:Int):Option (PV×Prop):=
  match op,k with
  | .add, .i64=>some (.int (a+b),iO (a+b))
  | .sub, .i64=>some (.int (a-b),iO (a-b))
  | .mul, .i64=>some (.int (a*b),iO (a*b))
  | .rem, .i64=>some (.int (Int.tmod a b),¬b=0)
  | .quo, .i64=>some (.int (Int.tdiv a b),¬b=0∧iO (Int.tdiv a b))
  | .add,k=>some (.iv (.v (.int k (k.wrap (a+b)))),True)
  | .sub,k=>some (.iv (.v (.int k (k.wrap (a-b)))),True)
  | .mul,k=>some (.iv (.v (.int k (k.wrap (a*b)))),True)
  | .quo,k=>some (.iv (.v (.int k (k.wrap (Int.tdiv a b)))),¬b=0)
  | .rem,k=>some (.iv (.v (.int k (Int.tmod a b))),¬b=0)
  | .eql,_=>some (.bool (decide (a=b)),True)
  | .neq,_=>some (.bool (!decide (a=b)),True)
  | .lss,_=>some (.bool (decide (a<b)),True)
  | .leq,_=>some (.bool (decide (a<=b)),True)
  | .gtr,_=>some (.bool (decide (a>b)),True)
  | .geq,_=>some (.bool (decide (a>=b)),True)
  | .and,k=>some (.iv (.v (.int k (k.wrap ((BitVec.ofInt k.bits a&&&BitVec.ofInt k.bits b).toNat:Int)))),True)
  | .or,k=>some (.iv (.v (.int k (k.wrap ((BitVec.ofInt k.bits a|||BitVec.ofInt k.bits b).toNat:Int)))),True)
  | .xor,k=>some (.iv (.v (.int k (k.wrap ((BitVec.ofInt k.bits a ^^^ BitVec.ofInt k.bits b).toNat:Int)))),True)
  |_,_=>none
def FY(op:BinOp)(k:IntKind)(a b:Int):Option (PV×Prop):=
  match op with
  | .shr=>match decide (0<=b) with
    |true=>some (.iv (.v (.int k (a.fdiv (2 ^ min b.toNat k.bits)))),True)
    |false=>none
  | .shl=>match decide (0<=b) with
    |true=>some (.iv (.v (.int k (k.wrap (a*2 ^ min b.toNat k.bits)))),True)
    |false=>none
  |_=>none
def FU(op:BinOp)(a b:ByteArray):Option (PV×Prop):=
  match op with
  | .eql=>some (.bool (decide (a=b)),True)
  | .neq=>some (.bool (!decide (a=b)),True)
  | .add=>some (.str (a++b),a.size+b.size<=9223372036854775807)
  | .lss=>some (.bool (Op.bytesLess a.toList b.toList),True)
  | .gtr=>some (.bool (!(Op.bytesLess a.toList b.toList||decide (a=b))),True)
  | .leq=>some (.bool (Op.bytesLess a.toList b.toList||decide (a=b)),True)
  | .geq=>some (.bool (!(Op.bytesLess a.toList b.toList)),True)
  |_=>none
def qu(ty:Ty)(t:TypeId)(op:BinOp)(a b:Bool):Option (PV×Prop):=
  match ty t with
  | some ⟨.bb .bool,_,_,_,_⟩=>match op with
    | .eql=>some (.bool (a==b),True)
    | .neq=>some (.bool (!(a==b)),True)
    |_=>none
  |_=>none
def BN(ty:Ty)(t:TypeId)(op:BinOp)(x y:PV):Option (PV×Prop):=
  match x,y with
  | .iv (.v (.int j a)), .iv (.v (.int k b))=>if j=k then Gz op j a b else FY op j a b
  | .iv (.v (.string a)), .iv (.v (.string b))=>FU op a b
  | .iv (.v (.bool a)),y=>match y with
    | .iv (.v (.bool b))=>qu ty t op a b
    | .kb b=>qu ty t op a b
    |_=>none
  | .kb a,y=>match y with
    | .iv (.v (.bool b))=>qu ty t op a b
    | .kb b=>qu ty t op a b
    |_=>none
  |_,_=>none
def yK:PV->Option (PV×Prop)
  | .iv (.dq _ n _)=>some (.int n,True)
  | .iv (.v (.slice none 0 0))=>some (.int 0,True)
  | .iv (.v (.string s))=>some (.int s.size,True)
  | .sl _ _ len _=>some (.int len,True)
  |_=>none
def mg(x:PV)(i:Int):Option (PV×Prop):=
  match x with
  | .iv (.dq _ n el)=>some (.iv (.mf (el i.toNat)),0<=i∧i<n)
  | .sl j off len sz=>some (.dC j sz (off+i.toNat) 0,0<=i∧i<len)
  |_=>none
def KC.pk:(c:KC)->c.K->PV
  | .str,s=> .iv (.v (.string s))
  | .int k,n=> .iv (.v (.int k n))
  | .si k,x=> .agg [.iv (.v (.string x.1)), .iv (.v (.int k x.2))]
def KC.dk:(c:KC)->PV->Option c.K
  | .str,p=>match p with
    | .iv (.v (.string s))=>some s
    |_=>none
  | .int k,p=>match p with
    | .iv (.v (.int j n))=>if j=k then some n else none
    |_=>none
  | .si k,p=>match p with
    | .agg [.iv (.v (.string s)), .iv (.v (.int j n))]=>if j=k then some (s,n) else none
    |_=>none
def gi(ty:Ty)(kt:TypeId):Option KC:=
  match ty kt with
  |some ⟨.bb .string,_,_,_,_⟩=>some .str
  |some ⟨.bb (.int k),_,_,_,_⟩=>some (.int k)
  | some ⟨.dE [(0,a),(1,b)],_,_,_,true⟩=>match ty a,ty b with
    |some ⟨.bb .string,1,_,_,_⟩,some ⟨.bb (.int k),1,_,_,_⟩=>some (.si k)
    |_,_=>none
  |_=>none
section
variable (kc:KC) {V:Type}
def bQ:List (kc.K×V)->kc.K->V->V
  | [],_,z=>z
  |(a,b)::r,k,z=>if a=k then b else bQ r k z
def dV:List (kc.K×V)->kc.K->Bool
  | [],_=>false
  |(a,_)::r,k=>if a=k then true else dV r k
def b6:List (kc.K×V)->kc.K->V->List (kc.K×V)
  | [],k,v=> [(k,v)]
  |(a,b)::r,k,v=>if a=k then(k,v)::r else(a,b)::b6 r k v
def pg:List (kc.K×V)->kc.K->List (kc.K×V)
  | [],_=> []
  |(a,b)::r,k=>if a=k then r else(a,b)::pg r k
end
def FM:Value->Value->Bool
  | .int j a, .int k b=>decide (j=k)&&decide (a=b)
  | .string a, .string b=>decide (a=b)
  | .bool a, .bool b=>a==b
  | .slice none 0 0, .slice none 0 0=>true
  | .map none, .map none=>true
  |_,_=>false
def yY:List Value->List Value->Bool
  | [],[]=>true
  |a::r,b::q=>FM a b&&yY r q
  |_,_=>false
def Rm:Value->Value->Bool
  | .agg a, .agg b=>yY a.toList b.toList
  |a,b=>FM a b
def IV.pv:IV->PV
  | .agg cs=> .agg (cs.map .iv)
  |x=> .iv x
def xD(ty:Ty)(t:TypeId)(ok:Bool)(kc:KC){V:Type}(e:V->IV)(z:V)(zv:Value)(m:List (kc.K×V))(key:PV):Option (PV×Prop):=
  match ty t with
  | some ⟨.bb (.map kt et),_,_,_,_⟩=>match gi ty kt,ty et with
    | some kc',some ee=>match decide (kc'=kc),Rm ee.zero zv,kc.dk key with
      | true,true,some k=>match ok with
        |true=>some (.bT [(e (bQ kc m k z)).pv, .iv (.v (.bool (dV kc m k)))],True)
        |false=>some ((e (bQ kc m k z)).pv,True)
      |_,_,_=>none
    |_,_=>none
  |_=>none
def Iu(f:TypeId->PV->PV->Option Bool)(ty:Ty):List (Nat×TypeId)->List PV->List PV->Option Bool
  | [],_,_=>some true
  | (off,u)::r,cs,ds=>match ty u with
    | some eu=>match jX eu (cs.drop off),jX eu (ds.drop off) with
      | some a,some b=>match f u a b,Iu f ty r cs ds with
        |some x,some y=>some (x&&y)
        |_,_=>none
      |_,_=>none
    |none=>none
def Iv(ty:Ty):Nat->TypeId->PV->PV->Option Bool
  |0,_,_,_=>none
  | d+1,t,p,q=>match ty t with
    | some ⟨.bb (.int _),_,_,_,_⟩=>match p,q with
      | .iv (.v (.int j a)), .iv (.v (.int k b))=>if j=k then some (decide (a=b)) else none
      |_,_=>none
    | some ⟨.bb .string,_,_,_,_⟩=>match p,q with
      | .iv (.v (.string a)), .iv (.v (.string b))=>some (decide (a=b))
      |_,_=>none
    | some ⟨.bb .bool,_,_,_,_⟩=>match p,q with
      | .iv (.v (.bool a)), .iv (.v (.bool b))=>some (a==b)
      |_,_=>none
    | some ⟨.dE fs,_,_,_,true⟩=>match p,q with
      | .agg cs, .agg ds=>Iu (Iv ty d) ty fs cs ds
      |_,_=>none
    |_=>none
def Hd(ty:Ty)(t:TypeId)(op:BinOp)(p q:PV):Option (PV×Prop):=
  match op with
  | .eql=>match Iv ty 10 t p q with
    |some b=>some (.bool b,True)
    |none=>none
  | .neq=>match Iv ty 10 t p q with
    |some b=>some (.bool (!b),True)
    |none=>none
  |_=>none
def kN(ty:Ty)(s:AS):Op->Option (PV×Prop)
  | .move x=>some (ev s.f x,True)
  | .assign x=>some (ev s.f x,True)
  | .pick c a b=>match ev s.f c with
    | .kb true=>some (ev s.f a,True)
    | .kb false=>some (ev s.f b,True)
    |_=>none
  | .load t x=>match ty t with
    | some e=>match behind s.h (ev s.f x) with
      | some cs=>match jX e cs with
        |some p=>some (p,True)
        |none=>none
      |none=>none
    |none=>none
  | .nilCheck x=>match ev s.f x with
    | .ptr i o=>some (.ptr i o,True)
    | .dC i sz k o=>some (.dC i sz k o,True)
    | .iv (.mf cs)=>some (.iv (.mf cs),True)
    | .dr (.func g) a b=>some (.dr (.func g) a b,True)
    |_=>none
  | .binOp op t x y _=>match ev s.f x,ev s.f y with
    | .agg cs, .agg ds=>Hd ty t op (.agg cs) (.agg ds)
    |p,q=>BN ty t op p q
  | .lookup t x i ok=>match ev s.f x with
    | .iv (.fw kc e z zv m)=>xD ty t ok kc e z zv m (ev s.f i)
    | .mp j=>match s.h.get j with
      |some (.map kc e z zv _ m)=>xD ty t ok kc e z zv m (ev s.f i)
      |_=>none
    |_=>none
  | .entry it=>match ev s.f it with
    | .ptr i 0=>match s.h.get i with
      |some (.bS kc e _ _ (some x))=>some (.bT [kc.pk x.1,(e x.2).pv],True)
      |_=>none
    |_=>none
  | .unOp .not _ x=>match ev s.f x with
    | .kb true=>some (.kb false,True)
    | .kb false=>some (.kb true,True)
    | .iv (.v (.bool b))=>some (.bool (!b),True)
    |_=>none
  | .fieldAddr t x k=>match ty t with
    | some e=>match wL e k with
      | some (off,u)=>match ty u with
        | some eu=>match eu.size with
          |0=>none
          | _+1=>match sy off (ev s.f x) with
            |some p=>some (p,True)
            |none=>none
        |none=>none
      |none=>none
    |none=>none
  | .field t x k=>match ty t with
    | some e=>match wL e k with
      | some (off,u)=>match ty u with
        | some eu=>match ev s.f x with
          | .agg cs=>match jX eu (cs.drop off) with
            |some p=>some (p,True)
            |none=>none
          |_=>none
        |none=>none
      |none=>none
    |none=>none
  | .indexAddr t x i=>match ty t with
    | some ⟨.bb (.slice u),_,_,_,_⟩=>match ty u with
      | some eu=>match ev s.f i with
        | .iv (.v (.int _ n))=>match ev s.f x with
          | .iv (.dq sz m el)=>bif Xn sz eu.size then mg (.iv (.dq sz m el)) n else none
          | .sl j off len sz=>bif Xn sz eu.size then mg (.sl j off len sz) n else none
          |_=>none
        |_=>none
      |none=>none
    | some ⟨.arr len u,_,_,_,_⟩=>match ty u with
      | some eu=>match ev s.f i with
        | .iv (.v (.int _ n))=>match ev s.f x with
          | .ptr j off=>some (.ptr j (off+n.toNat*eu.size),0<=n∧n<len)
          |_=>none
        |_=>none
      |none=>none
    |_=>none
  | .index t x i=>match ty t with
    | some ⟨.bb .string,_,_,_,_⟩=>match ev s.f i with
      | .iv (.v (.int _ n))=>match ev s.f x with
        | .iv (.v (.string b))=>some (.iv (.v (.int .u8 ((b.data.toList.getD n.toNat 0).toNat:Int))),0<=n∧n<b.size)
        |_=>none
      |_=>none
    |_=>none
  | .slice t x (some lo) (some hi) none=>match ty t with
    | some ⟨.bb (.slice u),_,_,_,_⟩=>match ty u with
      | some eu=>match ev s.f lo with
        | .iv (.v (.int _ a))=>match ev s.f hi with
          | .iv (.v (.int _ b))=>match ev s.f x with
            | .iv (.dq sz m el)=>bif Xn sz eu.size then some (.iv (.dq sz (b.toNat-a.toNat) (fun k=>el (a.toNat+k))),0<=a∧a<=b∧b<=m) else none
            |_=>none
          |_=>none
        |_=>none
      |none=>none
    | some ⟨.bb .string,_,_,_,_⟩=>match ev s.f lo with
      | .iv (.v (.int _ a))=>match ev s.f hi with
        | .iv (.v (.int _ b))=>match ev s.f x with
          | .iv (.v (.string y))=>some (.iv (.v (.string (y.extract a.toNat b.toNat))),0<=a∧a<=b∧b<=y.size)
          |_=>none
        |_=>none
      |_=>none
    |_=>none
  | .build t parts=>match ty t with
    | some e=>match e.k with
      | .dE fs=>match tE ty fs with
        | some pl=>match rQ (pl[·]?) (cV e.zero) (parts.toList.map fun x=>(x.1,ev s.f x.2)) with
          |some cs=>force cs fun a0=>some (.agg a0,True)
          |none=>none
        |none=>none
      | .arr _ u=>match ty u with
        | some eu=>match rQ (fun i=>some (i*eu.size,eu.size)) (cV e.zero) (parts.toList.map fun x=>(x.1,ev s.f x.2)) with
          |some cs=>force cs fun a0=>some (.agg a0,True)
          |none=>none
        |none=>none
      |_=>none
    |none=>none
  | .extract x k=>match ev s.f x with
    | .bT cs=>match cs[k]? with
      |some p=>some (p,True)
      |none=>none
    |_=>none
  | .makeFunc fn first caps=>force (first.toList.map (ev s.f)) fun a=>force (caps.toList.map (ev s.f)) fun b=>some (.dr fn a b,True)
  | .call ⟨.builtin .len,args,argTypes⟩=>match args.toList,argTypes.toList with
    | [x],[t]=>match ty t with
      | some ⟨.bb (.slice _),_,_,_,_⟩=>match ev s.f x with
        | .iv (.dq sz n el)=>yK (.iv (.dq sz n el))
        | .sl i off len sz=>yK (.sl i off len sz)
        | .iv (.v (.slice none 0 0))=>yK (.iv (.v (.slice none 0 0)))
        |_=>none
      | some ⟨.bb .string,_,_,_,_⟩=>match ev s.f x with
        | .iv (.v (.string b))=>yK (.iv (.v (.string b)))
        |_=>none
      | some ⟨.bb (.map _ _),_,_,_,_⟩=>match ev s.f x with
        | .iv (.fw _ _ _ _ m)=>some (.int m.length,True)
        | .mp j=>match s.h.get j with
          |some (.map _ _ _ _ _ m)=>some (.int m.length,True)
          |_=>none
        |_=>none
      |_=>none
    |_,_=>none
  | .call ⟨.builtin .max,args,_⟩=>match args.toList with
    | [x,y]=>match ev s.f x,ev s.f y with
      | .iv (.v (.int k a)), .iv (.v (.int _ b))=>some (.iv (.v (.int k (max a b))),True)
      |_,_=>none
    |_=>none
  | .call ⟨.builtin .min,args,_⟩=>match args.toList with
    | [x,y]=>match ev s.f x,ev s.f y with
      | .iv (.v (.int k a)), .iv (.v (.int _ b))=>some (.iv (.v (.int k (min a b))),True)
      |_,_=>none
    |_=>none
  |_=>none
inductive TT where
  |leaf
  |node (l:TT) (k:Nat) (e:cI) (r:TT)
def TT.find:TT->Nat->Option cI
  | .leaf,_=>none
  | .node l k e r,t=>bif Xn t k then some e else bif Xi t k then l.find t else r.find t
def TT.Ri(p:Nat->cI->Prop):TT->Prop
  | .leaf=>True
  | .node l k e r=>p k e∧l.Ri p∧r.Ri p
theorem TT.n6{p:Nat->cI->Prop}: ∀{x:TT},x.Ri p-> ∀t e,x.find t=some e->p t e
  | .leaf,_,t,e,h=>by simp[TT.find]at h
  | .node l k e0 r,ha,t,e,h=>by
    simp only[TT.find]at h;cases hb:Xn t k with
    | true=>
      simp only[hb,cond_true,WV]at h;subst h;rw[Xh hb];exact ha.1
    | false=>
      simp only[hb,cond_false]at h;cases hl:Xi t k with
      |true=>simp only[hl,cond_true]at h;exact TT.n6 ha.2.1 t e h
      |false=>simp only[hl,cond_false]at h;exact TT.n6 ha.2.2 t e h
theorem ak{P:Program}{t:TypeId}{e:cI}(h:(P.info? t).map (fun i=>(i.size,i.bytes,i.zero))=some (e.size,e.bytes,some e.zero)): ∃i,P.info? t=some i∧i.size=e.size∧i.bytes=e.bytes∧i.zero=some e.zero:=by
  rw[W6]at h;obtain⟨i,h1,h2⟩:=h;simp only[W9]at h2;exact⟨i,h1,h2.1,h2.2.1,h2.2.2⟩
theorem VR.one{M:Mem}{N:Nm}{U:Nat->Prop}{p:PV}{x:Value}(h:VR M N U p x)(ho:p.one=true):x.oneCell'=true:=by
  cases h with
  | iv y x hi=>
    cases hi with
    |v x=>cases x<;>first|rfl|(simp[PV.one]at ho)
    |agg=>simp[PV.one]at ho
    |_=>rfl
  |agg=>simp[PV.one]at ho
  |bT=>simp[PV.one]at ho
  |any=>simp[PV.one]at ho
  |_=>rfl
section
variable {M:Mem} {N:Nm}
theorem VR.mZ{U:Nat->Prop}{cs:List PV}{x:Value}(h:VR M N U (.agg cs) x): ∃ys:Array Value,x= .agg ys∧cs.length=ys.size∧ ∀j p,cs[j]? =some p->VR M N U p (ys.getD j undef):=by
  cases h with
  |agg _ ys hl hr=>exact⟨ys,rfl,hl,hr⟩
theorem qs{U:Nat->Prop}{p:PV}{x:Value}{cs:List PV}(h:VR M N U p x)(hc:p.cells=some cs):cs.length=x.cells.size∧ ∀j q,cs[j]? =some q->VR M N U q (x.cells.getD j undef):=by
  have a0:p.one=true->cs=[p]->cs.length=x.cells.size∧ ∀j q,cs[j]? =some q->VR M N U q (x.cells.getD j undef):=by
    intro ho b0;subst b0;have h1:=h.one ho;have hx:x.cells= #[x]:=by cases x<;>first|rfl|(simp[Value.oneCell']at h1)
    rw[hx];refine⟨rfl,fun j q hq=>?_⟩;cases j with
    |zero=>simp at hq;subst hq;exact h
    |succ j=>simp at hq
  cases p with
  | agg l=>
    simp only[PV.cells,WV]at hc;subst hc;obtain⟨ys,rfl,hl,hr⟩:=h.mZ;exact⟨hl,hr⟩
  | _=>
    simp only[PV.cells]at hc;split at hc
    · rename_i ho
      simp only[WV]at hc;exact a0 ho hc.symm
    · cases hc
theorem oi: ∀{cs:List PV},jb cs=true-> ∀(j:Nat) (p:PV),cs[j]? =some p->p.one=true
  | [],_,j,p,h=>by simp at h
  | c::cs,h,j,p,hj=>by
    simp only[jb]at h;split at h
    · rename_i hc
      cases j with
      |zero=>simp at hj;subst hj;exact hc
      |succ j=>exact oi h j p (by simpa using hj)
    · cases h
theorem fS{U:Nat->Prop}(v:Value):(cV v).length=v.cells.size∧ ∀j p,(cV v)[j]? =some p->VR M N U p (v.cells.getD j undef):=by
  refine⟨by simp[cV],fun j p hp=>?_⟩;simp only[cV]at hp;rw[W1,W6]at hp;obtain⟨x,hx,rfl⟩:=hp;have a0:v.cells[j]? =some x:=by simpa using hx
  rw[WT,a0];exact .iv _ _ (.v _)
theorem Ab: ∀(l:List Value) (k off:Nat) (cs:Array Value),off+k+l.length<=cs.size->
    ((l.zipIdx k).foldl (fun cs x=>cs.setIfInBounds (off+x.2) x.1) cs).size=cs.size∧
    ∀j,((l.zipIdx k).foldl (fun cs x=>cs.setIfInBounds (off+x.2) x.1) cs)[j]? =if off+k<=j∧j<off+k+l.length then l[j-(off+k)]? else cs[j]?
  | [],k,off,cs,_=>⟨rfl,fun j=>by simp;omega⟩
  | v::l,k,off,cs,h=>by
    simp only[List.zipIdx_cons,Xq];simp only[Xx]at h;obtain⟨h1,h2⟩:=Ab l (k+1) off (cs.setIfInBounds (off+k) v) (by simp;omega);refine⟨by rw[h1];simp,fun j=>?_⟩;rw[h2 j];simp only[Xx];by_cases hj:off+(k+1)<=j∧j<off+(k+1)+l.length
    · rw[am hj,am (by omega),show j-(off+k)=(j-(off+(k+1)))+1 by omega,Y3]
    · rw[be hj]
      by_cases he:j=off+k
      · subst he
        have hb:off+k<cs.size:=by omega
        rw[am (by omega),ZX];simp[hb]
      · rw[be (by omega),XG,be (fun e=>he e.symm)]
def WJ(M:Mem)(N:Nm)(U:Nat->Prop)(cs:List PV)(ys:Array Value):Prop:=cs.length=ys.size∧ ∀j p,cs[j]? =some p->VR M N U p (ys.getD j undef)
theorem ue{a0:Nat->Option (Nat×Nat)}: ∀{b0:List (Nat×PV)} {cs c0:List PV},rQ a0 cs b0=some c0->c0.length=cs.length
  | [],cs,c0,h=>by simp only[rQ,WV]at h;rw[h]
  | (i,p)::r,cs,c0,h=>by
    simp only[rQ]at h;split at h
    · split at h
      · split at h
        · rw[force_eq]at h
          rw[ue h,fM]
        · cases h
      · cases h
    · cases h
theorem ud{U:Nat->Prop}{b0:Nat->Option (Nat×Nat)}: ∀{a0:List (Nat×PV)} {vals:List (Nat×Value)} {cs e0:List PV} {ys:Array Value},
    rQ b0 cs a0=some e0->a0.length=vals.length->(∀(j:Nat) (x:Nat×PV) (y:Nat×Value),a0[j]? =some x->vals[j]? =some y->x.1=y.1∧VR M N U x.2 y.2)->WJ M N U cs ys->
    ∃d0,Instr.fill b0 ys vals=some d0∧WJ M N U e0 d0
  | [],[],cs,e0,ys,h,_,_,hv=>by
    simp only[rQ,WV]at h;subst h;exact⟨ys,rfl,hv⟩
  | (i,p)::r,(i',v)::vr,cs,e0,ys,h,hl,hp,hv=>by
    obtain⟨h1,h2⟩:=hp 0 _ _ Z Z;simp only at h1 h2;subst h1;simp only[rQ]at h;split at h
    · rename_i off f0 i0
      split at h
      · rename_i l o0
        split at h
        · rename_i n0 m0
          rw[force_eq]at h;obtain⟨g1,g2⟩:=qs h2 o0;have k0:v.cells.size=f0:=by rw[<-g1];exact Xh n0
          have g0:off+v.cells.size<=ys.size:=by rw[<-g1,<-hv.1];exact WR m0
          obtain⟨k1,k2⟩:=Ab v.cells.toList 0 off ys (by simpa using g0);have c0:v.cells.zipIdx.foldl (fun cs x=>cs.setIfInBounds (off+x.2) x.1) ys=(v.cells.toList.zipIdx 0).foldl (fun cs x=>cs.setIfInBounds (off+x.2) x.1) ys:=by
            rw[<-Array.foldl_toList,Array.toList_zipIdx]
          have j0:WJ M N U (setCells cs off l) (v.cells.zipIdx.foldl (fun cs x=>cs.setIfInBounds (off+x.2) x.1) ys):=by
            rw[c0];refine⟨by rw[fM,k1];exact hv.1,fun j q hq=>?_⟩;rw[WT,k2 j];rcases ld cs off l j q hq with⟨e1,e2⟩|⟨e1,e2⟩
            · have p0:j-off<l.length:=(WX.1 e2).1
              rw[am (by simp;omega)];have:=g2 _ q e2;rw[WT]at this;simpa using this
            · rw[be (by simp;omega)]
              have:=hv.2 j q e2;rw[WT]at this;exact this
          obtain⟨d0,e1,e2⟩:=ud h (by simpa using hl) (fun j x y hx hy=>hp (j+1) x y (by simpa using hx) (by simpa using hy)) j0;refine⟨d0,?_,e2⟩;simp only[Instr.fill,i0];rw[be (by simp[k0];omega)];exact e1
        · cases h
      · cases h
    · cases h
end
section
variable {P:Program} {M:Mem} {N:Nm} {U:Nat->Prop} {h:AH} {w:World}
theorem Rel.QO(hr:Rel M N U h w){b o:Nat}{v:Value}(hc:M.cell b o=some v):w.cell? ⟨b,o,none⟩=some v:=by
  unfold Mem.cell at hc;cases hb:M b with
  |none=>simp[hb]at hc
  | some c=>
    cases c with
    |map es cl=>simp[hb]at hc
    | cells c=>
      obtain⟨T,fr,hw⟩:=hr.dF b _ hb;rw[hb]at hc;simp only[World.cell?,hw];simpa using hc
theorem IR.Fb{cs:List IV}{x:Value}(hr:Rel M N U h w)(hp:IR M (.mf cs) x):
    ∃b off,x= .pointer (some ⟨b,off,none⟩)∧ ∀j q,cs[j]? =some q-> ∃y,w.cell? ⟨b,off+j,none⟩=some y∧IR M q y:=by
  cases hp with
  | mf _ b off hm hq=>
    refine⟨b,off,rfl,fun j q hj=>?_⟩;have hlt:j<cs.length:=(WX.1 hj).1;have h1:=hm j hlt;cases hv:M.cell b (off+j) with
    |none=>simp[hv]at h1
    | some y=>
      have h2:=hq j q hj;rw[hv]at h2;exact⟨y,hr.QO hv,h2⟩
theorem Ap{p:PV}{x:Value}{cs:List PV}(hr:Rel M N U h w)(hp:VR M N U p x)(hb:behind h p=some cs):
    ∃b off,x= .pointer (some ⟨b,off,none⟩)∧ ∀j q,cs[j]? =some q-> ∃y,w.cell? ⟨b,off+j,none⟩=some y∧VR M N U q y:=by
  cases p with
  | ptr i off=>
    cases hp with
    | ptr _ _ hU=>
      simp only[behind]at hb;cases ho:h.get i with
      |none=>simp[ho]at hb
      | some o=>
        cases o with
        | cells cs0 T0=>
          simp only[ho,WV]at hb;subst hb;obtain⟨c,T,h1,h2,h3,h4,h5⟩:=hr.obj i _ ho;refine⟨N.aI i,off,rfl,fun j q hj=>?_⟩;rw[Yc]at hj;have hlt:off+j<c.size:=by rw[<-h3];exact(WX.1 hj).1
          refine⟨c.getD (off+j) undef,?_,h4 _ _ hj⟩;simp[World.cell?,h1,WT,hlt]
        |_=>simp[ho]at hb
  | dC i sz k off=>
    cases hp with
    | dC _ _ _ _ hU=>
      simp only[behind]at hb;cases ho:h.get i with
      |none=>simp[ho]at hb
      | some o=>
        cases o with
        | row sz' es=>
          simp only[ho]at hb;split at hb
          · rename_i e c0 he
            simp only[WV]at hb;have:=Xh c0;subst this;subst hb;rcases hr.obj i _ ho with h0|⟨h0,c,T,h1,h2,h3,h4,h5⟩
            · subst h0;simp at he
            refine⟨N.aI i,k*sz'+off,rfl,fun j q hj=>?_⟩;rw[Yc]at hj;have d0:off+j<sz':=by rw[<-h4 k e he];exact(WX.1 hj).1
            have hk:k<es.length:=(WX.1 he).1;have a0:(k+1)*sz'<=es.length*sz':=Xw _ hk;rw[Y7]at a0;have hlt:k*sz'+off+j<c.size:=by omega
            refine⟨c.getD (k*sz'+off+j) undef,?_,?_⟩
            · simp[World.cell?,h1,WT,hlt]
            · rw[Yu];exact h5 k e _ q he hj
          · cases hb
        |_=>simp[ho]at hb
  | iv x=>
    cases x with
    | mf cs0=>
      cases hp with
      | iv _ _ hi=>
        simp only[behind,WV]at hb;subst hb;obtain⟨b,off,rfl,hc⟩:=hi.Fb hr;refine⟨b,off,rfl,fun j q hj=>?_⟩;rw[W1,W6]at hj;obtain⟨q0,b0,rfl⟩:=hj;obtain⟨y,hy,hq⟩:=hc j q0 b0;exact⟨y,hy, .iv _ _ hq⟩
    |_=>simp[behind]at hb
  |_=>simp[behind]at hb
theorem po{cs l:List PV}{off n:Nat}(hh:nF cs off n=some l):l.length=n∧ ∀j q,l[j]? =some q->cs[off+j]? =some q∧j<n:=by
  unfold nF at hh;cases hb:Xn ((cs.drop off).take n).length n with
  |false=>simp only[hb,cond_false]at hh;cases hh
  | true=>
    simp only[hb,cond_true,WV]at hh;subst hh;have hl:=Xh hb;refine⟨hl,fun j q hj=>?_⟩;have a0:j<n:=by rw[<-hl];exact(WX.1 hj).1
    rw[XY,am a0,Yc]at hj;exact⟨hj,a0⟩
theorem rN{cs:List PV}{p:PV}(hh:mh cs=some p):cs[0]? =some p:=by
  cases cs with
  |nil=>simp[mh]at hh
  |cons a r=>simpa[mh]using hh
theorem gU(b off j:Nat):(⟨b,off,none⟩:Addr).add j=⟨b,off+j,none⟩:=by
  unfold Addr.add;split
  · subst_vars;rfl
  · rfl
theorem vm{t:TypeId}{e:cI}(he:ay P t e){cs:List PV}{b off:Nat}(hc: ∀j q,cs[j]? =some q-> ∃y,w.cell? ⟨b,off+j,none⟩=some y∧VR M N U q y)
    {p:PV} (hp:jX e cs=some p): ∃y,(loadVar t ⟨b,off,none⟩).run P w= .ok y w∧VR M N U p y:=by
  unfold jX at hp;cases hk:e.k.agg with
  | true=>
    simp only[hk]at hp;cases ht:nF cs 0 e.size with
    |none=>simp[ht]at hp
    | some l=>
      simp only[ht,force_eq,WV]at hp;subst hp;obtain⟨hl,hj⟩:=po ht;have a0: ∀j,j<e.size->w.cell? ((⟨b,off,none⟩:Addr).add j)=some (((w.cell? ⟨b,off+j,none⟩)).getD undef):=by
        intro j b0;have hlj:l[j]? =some (l[j]'(by omega)):=WY (by omega);obtain⟨y,hy,_⟩:=hc j _ (by simpa using(hj j _ hlj).1);rw[gU,hy];rfl
      refine⟨.agg (((Xc e.size).map fun j=>(w.cell? ⟨b,off+j,none⟩).getD undef).toArray),?_,?_⟩
      · have:=run_loadCells (P:=P) w ⟨b,off,none⟩ e.size (fun j=>(w.cell? ⟨b,off+j,none⟩).getD undef) a0
        simp[loadVar,oy he,hk,ct he,this]
      · refine .agg _ _ (by simp[hl]) (fun j q hq=>?_)
        obtain⟨h1,h2⟩:=hj j q hq;obtain⟨y,hy,hv⟩:=hc j q (by simpa using h1);have hg:(((Xc e.size).map fun j=>(w.cell? ⟨b,off+j,none⟩).getD undef).toArray).getD j undef=y:=by
          simp[WT,h2,hy]
        rw[hg];exact hv
  | false=>
    simp only[hk]at hp;obtain⟨y,hy,hv⟩:=hc 0 p (rN hp);refine⟨y,?_,hv⟩;simp only[loadVar,Sem.run_bind,oy he,Result.andThen_ok,hk,Yn,if_false];simp only[Y8]at hy;simp[hy]
theorem ko{t:TypeId}{e:cI}(he:ay P t e){cs:List PV}{ys:Array Value}{off:Nat}(hl:cs.length=ys.size)(hc: ∀j q,cs[j]? =some q->VR M N U q (ys.getD j undef))
    {p:PV} (hp:jX e (cs.drop off)=some p): ∃y,(part t ys off).run P w= .ok y w∧VR M N U p y:=by
  unfold jX at hp;cases hk:e.k.agg with
  | true=>
    simp only[hk]at hp;cases ht:nF (cs.drop off) 0 e.size with
    |none=>simp[ht]at hp
    | some l=>
      simp only[ht,force_eq,WV]at hp;subst hp;obtain⟨b0,hj⟩:=po ht;refine⟨.agg (ys.extract off (off+e.size)),by simp[part,oy he,hk,ct he], .agg _ _ ?_ (fun j q hq=>?_)⟩
      · rw[b0,Array.size_extract]
        by_cases h0:e.size=0
        · omega
        · have a0:l[e.size-1]? =some (l[e.size-1]'(by omega)):=WY (by omega)
          have:=(hj _ _ a0).1;rw[Yc]at this;have:=(WX.1 this).1;omega
      · obtain⟨h1,h2⟩:=hj j q hq
        rw[Yc]at h1;have h3:=hc _ _ h1;have hlt:off+(0+j)<cs.length:=(WX.1 h1).1;have:(ys.extract off (off+e.size)).getD j undef=ys.getD (off+(0+j)) undef:=by
          simp only[WT,Array.getElem?_extract,Xk];rw[am (by omega)]
        rw[this];exact h3
  | false=>
    simp only[hk]at hp;have h0:=rN hp;rw[Yc]at h0;have h3:=hc _ _ h0;have hlt:off+0<cs.length:=(WX.1 h0).1;refine⟨ys.getD (off+0) undef,?_,h3⟩;have hy:ys[off]? =some (ys.getD off undef):=by
      simp[WT,show off<ys.size by omega]
    simp only[part,Sem.run_bind,oy he,Result.andThen_ok,hk,Yn,if_false,hy];rfl
theorem AV(a b:ByteArray):(a.toList==b.toList)=decide (a=b):=by
  rw[Lib.toList_data,Lib.toList_data,Xy];simp only[beq_iff_eq,decide_eq_true_eq];exact⟨fun h=>WideShapes.bytes_inj h,fun h=>by rw[h]⟩
theorem Kw{t:TypeId}{op:BinOp}{k:IntKind}{a b:Int}{p:PV}{C:Prop}(h:Gz op k a b=some (p,C))(hC:C): ∃x,(binOp op t (.int k a) (.int k b)).run P w= .ok x w∧VR M N U p x:=by
  have hi: ∀n:Int,iO n->IntKind.i64.wrap n=n:=fun n hn=>IntWalk.i64_in n hn;unfold Gz at h;split at h
  all_goals first
    |cases h;done
    | (simp only[WV,W9]at h
       obtain⟨rfl,rfl⟩:=h;refine⟨_,?_, .iv _ _ (.v _)⟩
       first
       |(simp[binOp,Op.intCmp];done)
       |rfl
       |(simp[binOp,Op.intCmp];rfl)
       |(have hw:=hi _ hC;simp[binOp,Op.intArith,hw];done)
       |(simp[binOp,Op.intDiv,hC];done)
       |(have hw:=hi _ hC.2;simp[binOp,Op.intDiv,hC.1,hw];done))
theorem Jx{t:TypeId}{op:BinOp}{k j:IntKind}{a b:Int}{p:PV}{C:Prop}(h:FY op k a b=some (p,C)): ∃x,(binOp op t (.int k a) (.int j b)).run P w= .ok x w∧VR M N U p x:=by
  unfold FY at h;split at h
  case h_3=>cases h
  all_goals
    split at h
    · rename_i hb
      simp only[WV,W9]at h;obtain⟨rfl,rfl⟩:=h;have a0: ¬b<0:=by have:=of_decide_eq_true hb;omega
      refine⟨_,?_, .iv _ _ (.v _)⟩;simp only[binOp,Op.shift,be a0];rfl
    · cases h
theorem Jk{t:TypeId}{op:BinOp}{a b:ByteArray}{p:PV}{C:Prop}(h:FU op a b=some (p,C))(hC:C): ∃x,(binOp op t (.string a) (.string b)).run P w= .ok x w∧VR M N U p x:=by
  unfold FU at h;split at h
  all_goals first
    |cases h;done
    | (simp only[WV,W9]at h
       obtain⟨rfl,rfl⟩:=h;refine⟨_,?_, .iv _ _ (.v _)⟩
       first
       |(simp[binOp,Op.stringOp,<-AV];done)
       | (have hn: ¬(((a.size+b.size:Nat):Int)>IntKind.i64.max):=by(have:IntKind.i64.max=9223372036854775807:=by decide);rw[this];omega
          simp only[binOp,Op.stringOp,be hn];rfl))
theorem kj{op:BinOp}{t:TypeId}{x y:Operand}{a b:Value}(h1:a≠ .nilIface)(h2: ∀cs,a≠ .agg cs):(eqGuard op t x y a b).run P w= .ok () w:=by
  unfold eqGuard;cases op<;>cases a<;>first|rfl|exact absurd Z h1|exact absurd Z (h2 _)
theorem BG{t:TypeId}(hu:P.underlying t=some .bool)(d:Nat)(a b:Bool):(Op.equalIn (d+1) t (.bool a) (.bool b)).run P w= .ok (a==b) w:=by
  simp[Op.equalIn,run_underlying hu]
theorem xZ{t:TypeId}(hu:P.underlying t=some .bool)(a b:Bool):(Op.equal t (.bool a) (.bool b)).run P w= .ok (a==b) w:=
  BG hu 9999 a b
theorem yj{t:TypeId}(hu:P.underlying t=some .bool)(a b:Bool):(binOp .eql t (.bool a) (.bool b)).run P w= .ok (.bool (a==b)) w:=by
  show(Op.equal t (.bool a) (.bool b)>>=fun r=>(pure (.bool r):Sem Value)).run P w=_;rw[Sem.run_bind,xZ hu];rfl
theorem yi{t:TypeId}(hu:P.underlying t=some .bool)(a b:Bool):(binOp .neq t (.bool a) (.bool b)).run P w= .ok (.bool (!(a==b))) w:=by
  show(Op.equal t (.bool a) (.bool b)>>=fun r=>(pure (.bool (!r)):Sem Value)).run P w=_;rw[Sem.run_bind,xZ hu];rfl
theorem q6{ty:Ty}(a0:cz P ty){t:TypeId}{op:BinOp}{a b:Bool}{r:PV}{C:Prop}{u v:Operand}(h:qu ty t op a b=some (r,C)):
    ∃z,(do eqGuard op t u v (.bool a) (.bool b);binOp op t (.bool a) (.bool b):Sem Value).run P w= .ok z w∧VR M N U r z:=by
  unfold qu at h;split at h
  · rename_i ht
    have hu:P.underlying t=some .bool:=(a0 t _ ht).2.1.1;split at h
    all_goals first
      |cases h;done
      | (simp only[WV,W9]at h
         obtain⟨rfl,rfl⟩:=h;refine⟨_,?_, .iv _ _ (.v _)⟩;rw[Sem.run_bind,kj (by simp) (by simp)]
         first|exact yj hu _ _|exact yi hu _ _)
  · cases h
theorem IG{ty:Ty}(a0:cz P ty){t:TypeId}{op:BinOp}{p q:PV}{r:PV}{C:Prop}{u v:Operand}{x y:Value}(h:BN ty t op p q=some (r,C))(hC:C)(hx:VR M N U p x)(hy:VR M N U q y):
    ∃z,(do eqGuard op t u v x y;binOp op t x y:Sem Value).run P w= .ok z w∧VR M N U r z:=by
  unfold BN at h;split at h
  · cases hx with
    | iv _ _ hx=>cases hx with
      | v=>
        cases hy with
        | iv _ _ hy=>cases hy with
          | v=>
            split at h
            · rename_i b0
              subst b0;obtain⟨z,hz,hv⟩:=Kw (P:=P) (M:=M) (N:=N) (U:=U) (w:=w) (t:=t) h hC;exact⟨z,by rw[Sem.run_bind,kj (by simp) (by simp)];exact hz,hv⟩
            · obtain⟨z,hz,hv⟩:=Jx (P:=P) (M:=M) (N:=N) (U:=U) (w:=w) (t:=t) h
              exact⟨z,by rw[Sem.run_bind,kj (by simp) (by simp)];exact hz,hv⟩
  · cases hx with
    | iv _ _ hx=>cases hx with
      | v=>
        cases hy with
        | iv _ _ hy=>cases hy with
          | v=>
            obtain⟨z,hz,hv⟩:=Jk (P:=P) (M:=M) (N:=N) (U:=U) (w:=w) (t:=t) h hC;exact⟨z,by rw[Sem.run_bind,kj (by simp) (by simp)];exact hz,hv⟩
  · split at h
    · cases hx with
      | iv _ _ hx=>cases hx with
        | v=>
          cases hy with
          | iv _ _ hy=>cases hy with
            |v=>exact q6 a0 h
    · cases hx with
      | iv _ _ hx=>cases hx with
        | v=>
          cases hy with
          |kb=>exact q6 a0 h
    · cases h
  · split at h
    · cases hx with
      | kb=>
        cases hy with
        | iv _ _ hy=>cases hy with
          |v=>exact q6 a0 h
    · cases hx with
      | kb=>
        cases hy with
        |kb=>exact q6 a0 h
    · cases h
  · cases h
theorem Ke{f:AF}{a:Act}(hf:FR M N U f a.tmps)(xs:Array Operand):(xs.toList.map (ev f)).length=(xs.map a.eval).size∧ ∀j p,(xs.toList.map (ev f))[j]? =some p->VR M N U p ((xs.map a.eval).getD j undef):=by
  refine⟨by simp,fun j p hp=>?_⟩;rw[W1,W6]at hp;obtain⟨x,hx,rfl⟩:=hp;have a0:xs[j]? =some x:=by simpa using hx
  rw[WT,Zk,a0];exact bf hf x
theorem uf{t:TypeId}{e:cI}(he:ay P t e){k off:Nat}{u:TypeId}(hf:wL e k=some (off,u)): ∃(F:Array Field) (fd:Field),P.underlying t=some (.struct F)∧F[k]? =some fd∧fd.offset=off∧fd.type=u:=by
  unfold wL at hf;cases hk:e.k with
  | dE fs=>
    simp only[hk]at hf;obtain⟨_,h2,_⟩:=he;rw[hk]at h2;obtain⟨F,h3,h4⟩:=h2;rw[<-h4,W1,W6]at hf;obtain⟨fd,h5,h6⟩:=hf;simp only[W9]at h6;exact⟨F,fd,h3,by simpa using h5,h6.1,h6.2⟩
  |_=>simp[hk]at hf
theorem HL{n:Nat}{p q:PV}{x:Value}(hx:VR M N U p x)(h:sy n p=some q): ∃b o,x= .pointer (some ⟨b,o,none⟩)∧VR M N U q (.pointer (some ⟨b,o+n,none⟩)):=by
  cases hx with
  |ptr i off hU=>simp only[sy,WV]at h;subst h;exact⟨_,_,rfl, .ptr _ _ hU⟩
  |dC i sz k off hU=>simp only[sy,WV]at h;subst h;exact⟨_,_,rfl,by rw[Yu];exact .dC _ _ _ _ hU⟩
  | iv y _ hi=>
    cases hi with
    | mf cs b off hm hr=>
      simp only[sy,WV]at h;subst h;refine⟨b,off,rfl, .iv _ _ (.mf _ _ _ (fun j hj=>?_) (fun j p hp=>?_))⟩
      · rw[List.length_drop]at hj
        rw[Yu];exact hm (n+j) (by omega)
      · rw[Yc]at hp
        rw[Yu];exact hr (n+j) p hp
    |_=>simp[sy]at h
  |_=>simp[sy]at h
theorem rL{t u:TypeId}{eu:cI}(hu:P.underlying t=some (.slice u))(a0:ay P u eu){p q:PV}{k:IntKind}{n:Int}{C:Prop}{x:Value}(hx:VR M N U p x)
    (c0:(∃m el,p= .iv (.dq eu.size m el))∨ ∃i off b0,p= .sl i off b0 eu.size) (h:mg p n=some (q,C)) (hC:C): ∃y,(Instr.indexAt t x (.int k n)).run P w= .ok y w∧VR M N U q y:=by
  rcases c0 with⟨m,el,rfl⟩|⟨i,off,b0,rfl⟩
  · simp only[mg,WV,W9]at h
    obtain⟨rfl,rfl⟩:=h;cases hx with
    | iv _ _ hi=>
      cases hi with
      |kQ sz el a cap=>omega
      | dq sz m el b off cap hn hc hl hm hr=>
        refine⟨.pointer (some ⟨b,off+n.toNat*eu.size,none⟩),?_, .iv _ _ (.mf _ _ _ (fun j hj=>?_) (fun j p hp=>hr n.toNat j p (by omega) hp))⟩
        · simp only[Instr.indexAt,asIntOf]
          simp[run_underlying hu,hC.1,hC.2,ct a0,gU]
        · rw[hl n.toNat (by omega)]at hj
          exact hm n.toNat j (by omega) hj
  · simp only[mg,WV,W9]at h
    obtain⟨rfl,rfl⟩:=h;cases hx with
    |ph=>omega
    |sle=>omega
    | sl _ _ _ _ cap hU h0 hl hc he=>
      refine⟨.pointer (some ⟨N.aI i,(off+n.toNat)*eu.size+0,none⟩),?_, .dC _ _ _ _ hU⟩;simp only[Instr.indexAt,asIntOf];simp[run_underlying hu,hC.1,hC.2,ct a0,gU,Yj]
theorem Hw{t u:TypeId}{eu:cI}(hu:P.underlying t=some (.slice u))(a0:ay P u eu){m:Nat}{el:Nat->List IV}{ka kb:IntKind}{na nb:Int}{q:PV}{C:Prop}{x:Value}(hx:VR M N U (.iv (.dq eu.size m el)) x)
    (h:some (PV.iv (.dq eu.size (nb.toNat-na.toNat) (fun k=>el (na.toNat+k))),0<=na∧na<=nb∧nb<=m)=some (q,C)) (hC:C): ∃y,(Instr.sliceAt t x (some (.int ka na)) (some (.int kb nb)) none).run P w= .ok y w∧VR M N U q y:=by
  simp only[WV,W9]at h;obtain⟨rfl,rfl⟩:=h;obtain⟨h0,h1,h2⟩:=hC;have hb:(nb.toNat:Int)=nb:=aab (by omega);cases hx with
  | iv _ _ hi=>
    cases hi with
    | kQ sz el a cap=>
      have ea:na=0:=by omega
      have eb:nb=0:=by omega
      subst ea;subst eb;refine⟨.slice (if cap=0 then a else a.map (·.add (0*eu.size))) 0 cap,?_, .iv _ _ (.kQ _ _ _ _)⟩;simp[Instr.sliceAt,Instr.slice,Instr.sliceBounds,Instr.sliceBound,asIntOf,run_underlying hu,ct a0]
    | dq sz m el b off cap hn hc hl hm hr=>
      refine⟨.slice (if cap=na.toNat then some ⟨b,off,none⟩ else(some (⟨b,off,none⟩:Addr)).map (·.add (na.toNat*eu.size))) (nb.toNat-na.toNat) (cap-na.toNat),?_,?_⟩
      · have g1:nb<=(cap:Int):=by omega
        have g2:na<=(nb.toNat:Int):=by omega
        simp[Instr.sliceAt,Instr.slice,Instr.sliceBounds,Instr.sliceBound,asIntOf,run_underlying hu,ct a0,h0,g1,(by omega:0<=nb)];intro hh;omega
      · by_cases hz:nb.toNat-na.toNat=0
        · rw[hz];exact .iv _ _ (.kQ _ _ _ _)
        · rw[be (by omega),XW,gU]
          refine .iv _ _ (IR.dq (sz:=eu.size) (n:=nb.toNat-na.toNat) (el:=fun k=>el (na.toNat+k)) (b:=b) (off:=off+na.toNat*eu.size) (cap:=cap-na.toNat) (by omega) (by omega) (fun k hk=>hl _ (by omega)) (fun k j hk hj=>?_) (fun k j p hk hp=>?_))
          · have:=hm (na.toNat+k) j (by omega) hj
            rwa[Yj,<-Yu]at this
          · have:=hr (na.toNat+k) j p (by omega) hp
            rwa[Yj,<-Yu]at this
theorem Cc{t:TypeId}(hu:P.underlying t=some .string){b:ByteArray}{ka kb:IntKind}{na nb:Int}(hC:0<=na∧na<=nb∧nb<=b.size):
    (Instr.sliceAt t (.string b) (some (.int ka na)) (some (.int kb nb)) none).run P w= .ok (.string (b.extract na.toNat nb.toNat)) w:=by
  obtain⟨h0,h1,h2⟩:=hC;have hb:(nb.toNat:Int)=nb:=aab (by omega);have g2:na<=(nb.toNat:Int):=by omega
  simp[Instr.sliceAt,Instr.slice,Instr.sliceBounds,Instr.sliceBound,asIntOf,run_underlying hu,h0,h2,(by omega:0<=nb)];intro hh;omega
end
end Go.Al
namespace Go.Al
open Go.MapKept
section
variable {P:Program} {ty:Ty} {M:Mem} {N:Nm} {U:Nat->Prop} {w:World}
theorem p8{t:TypeId}{F:Array Field}(h:P.underlying t=some (.struct F)):P.fieldsOf t=F:=by
  simp[Program.fieldsOf,h]
theorem cT {t:TypeId} {F:Array Field} (h:P.underlying t=some (.struct F)) (h1:P.stoodInHeld t=false) (h2:P.eqGuardType P.depth t=false) (h3:(F.toList.all fun f=>f.name != "_")=true):Vl P t:=
  ⟨h1,h2,fun f hf=>by
    rw[p8 h]at hf;have:=Xm.1 h3 f hf
    simpa using this⟩
theorem GZ(a0:cz P ty){f:TypeId->PV->PV->Option Bool}{D:Nat}(hf: ∀u p q b,f u p q=some b-> ∀x y,VR M N U p x->VR M N U q y->(Op.equalIn D u x y).run P w= .ok b w)
    {cs ds:List PV} {xs ys:Array Value} (hx:VR M N U (.agg cs) (.agg xs)) (hy:VR M N U (.agg ds) (.agg ys)):
    ∀(F:List Field) (b:Bool),(∀g∈F,g.name≠ "_")->Iu f ty (F.map fun g=>(g.offset,g.type)) cs ds=some b->(Op.eqFields D xs ys F).run P w= .ok b w
  | [],b,_,h=>by simp only[XN,Iu,WV]at h;subst h;simp[Op.eqFields]
  | g::F,b,hn,h=>by
    simp only[Xe,Iu]at h;split at h
    · rename_i eu b0
      split at h
      · rename_i p q hp hq
        split at h
        · rename_i b1 b2 h1 h2
          simp only[WV]at h;subst h;obtain⟨_,m0,k0,d0⟩:=hx.mZ;cases m0;obtain⟨_,n0,e0,f0⟩:=hy.mZ;cases n0;obtain⟨x,c0,j0⟩:=ko (P:=P) (w:=w) (a0 _ _ b0) k0 d0 hp;obtain⟨y,i0,g0⟩:=ko (P:=P) (w:=w) (a0 _ _ b0) e0 f0 hq;have h3:=hf _ _ _ _ h1 x y j0 g0;have h4:=GZ a0 hf hx hy F b2 (fun g hg=>hn g (W8 _ hg)) h2;simp only[Op.eqFields,am (hn g Xd),Sem.run_bind,c0,i0,h3,Result.andThen_ok];cases b1 with
          |false=>simp
          |true=>simpa using h4
        · cases h
      · cases h
    · cases h
theorem Fs(a0:cz P ty): ∀(d:Nat) (t:TypeId) (p q:PV) (b:Bool),Iv ty d t p q=some b-> ∀x y,VR M N U p x->VR M N U q y-> ∀m,(Op.equalIn (d+m) t x y).run P w= .ok b w
  |0,_,_,_,_,h,_,_,_,_,_=>by simp[Iv]at h
  | d+1,t,p,q,b,h,x,y,hx,hy,m=>by
    rw[show d+1+m=(d+m)+1 by omega];simp only[Iv]at h;split at h
    · rename_i k _ _ _ _ he
      have hu:=(a0 t _ he).2.1.1;split at h
      · split at h
        · simp only[WV]at h
          subst h;cases hx with
          | iv _ _ hx => cases hx
                         cases hy with
                         | iv _ _ hy => cases hy
                                        rename_i e;subst e;rw[run_equalIn_int _ _ _ _ _ _ _ hu];congr 1
        · cases h
      · cases h
    · rename_i _ _ _ _ he
      have hu:=(a0 t _ he).2.1.1;split at h
      · simp only[WV]at h
        subst h;cases hx with
        | iv _ _ hx => cases hx
                       cases hy with
                       | iv _ _ hy => cases hy
                                      rw[run_equalIn_string _ _ _ _ _ hu,AV]
      · cases h
    · rename_i _ _ _ _ he
      have hu:=(a0 t _ he).2.1.1;split at h
      · simp only[WV]at h
        subst h;cases hx with
        | iv _ _ hx => cases hx
                       cases hy with
                       |iv _ _ hy=>cases hy;rw[run_equalIn_bool' _ _ _ _ _ hu]
      · cases h
    · rename_i fs _ _ _ he
      obtain⟨_,⟨F,hu,hF⟩,hq⟩:=a0 t _ he;obtain⟨d0,e0,c0⟩:=hq Z;split at h
      · obtain⟨xs,rfl,_,_⟩:=hx.mZ
        obtain⟨ys,rfl,_,_⟩:=hy.mZ;have b0:=p8 hu;rw[run_equalIn_struct _ _ _ _ _ (by rw[b0];exact hu) d0,b0];rw[b0]at c0;refine GZ a0 (f:=Iv ty d) (fun u p q b hb x y hx hy=>Fs a0 d u p q b hb x y hx hy m) hx hy _ _ c0 ?_;rw[hF];exact h
      · cases h
    · cases h
theorem LW(a0:cz P ty){t:TypeId}{op:BinOp}{cs ds:List PV}{r:PV}{C:Prop}{u v:Operand}{x y:Value}(h:Hd ty t op (.agg cs) (.agg ds)=some (r,C))(hx:VR M N U (.agg cs) x)(hy:VR M N U (.agg ds) y):
    C∧ ∃z,(do eqGuard op t u v x y;binOp op t x y:Sem Value).run P w= .ok z w∧VR M N U r z:=by
  have key: ∀b,Iv ty 10 t (.agg cs) (.agg ds)=some b-> ∃xs ys,x= .agg xs∧y= .agg ys∧P.eqGuardType P.depth t=false∧(Op.equalIn 10000 t (.agg xs) (.agg ys)).run P w= .ok b w:=by
    intro b hb;have h1:=Fs (P:=P) (w:=w) a0 10 t _ _ b hb x y hx hy 9990;obtain⟨xs,rfl,_,_⟩:=hx.mZ;obtain⟨ys,rfl,_,_⟩:=hy.mZ;refine⟨xs,ys,rfl,rfl,?_,h1⟩;simp only[Iv]at hb;split at hb
    · cases hb
    · cases hb
    · cases hb
    · rename_i he
      exact((a0 t _ he).2.2 Z).2.1
    · cases hb
  unfold Hd at h;split at h
  · split at h
    · rename_i b hb
      simp only[WV,W9]at h;obtain⟨rfl,rfl⟩:=h;obtain⟨xs,ys,rfl,rfl,h1,h2⟩:=key b hb;refine⟨ac, .bool b,?_, .iv _ _ (.v _)⟩;rw[Sem.run_bind,run_eqGuard_agg _ _ _ _ _ _ _ h1,Result.andThen_ok,run_eql_struct,h2];rfl
    · cases h
  · split at h
    · rename_i b hb
      simp only[WV,W9]at h;obtain⟨rfl,rfl⟩:=h;obtain⟨xs,ys,rfl,rfl,h1,h2⟩:=key b hb;refine⟨ac, .bool (!b),?_, .iv _ _ (.v _)⟩;rw[Sem.run_bind,run_eqGuard_agg _ _ _ _ _ _ _ h1,Result.andThen_ok,run_neq_struct,h2];rfl
    · cases h
  · cases h
theorem Gg(kc:KC)(k:kc.K):VR M N U (kc.pk k) (kc.ek k):=by
  cases kc with
  |str=>exact .iv _ _ (.v _)
  |int k=>exact .iv _ _ (.v _)
  | si j=>
    refine .agg _ _ (by rfl) fun i p hp=>?_
    match i with
    |0=>simp at hp;subst hp;exact .iv _ _ (.v _)
    |1=>simp at hp;subst hp;exact .iv _ _ (.v _)
    |i+2=>simp at hp
theorem Li{kc:KC}{p:PV}{k:kc.K}{x:Value}(h:kc.dk p=some k)(hx:VR M N U p x):x=kc.ek k:=by
  cases kc with
  | str=>
    simp only[KC.dk]at h;split at h
    · simp only[WV]at h
      subst h;cases hx with
      |iv _ _ hx=>cases hx;rfl
    · cases h
  | int j=>
    simp only[KC.dk]at h;split at h
    · split at h
      · rename_i e
        subst e;simp only[WV]at h;subst h;cases hx with
        |iv _ _ hx=>cases hx;rfl
      · cases h
    · cases h
  | si j=>
    simp only[KC.dk]at h;split at h
    · split at h
      · rename_i e
        subst e;simp only[WV]at h;subst h;obtain⟨ys,rfl,h1,h2⟩:=hx.mZ;have g0:=h2 0 _ Z;have g1:=h2 1 _ Z;obtain⟨ys⟩:=ys
        match ys,h1 with
        | [a,b],_=>
          simp at g0 g1;cases g0 with
          | iv _ _ g0=>
            cases g1 with
            |iv _ _ g1=>cases g0;cases g1;rfl
      · cases h
    · cases h
theorem vv{kt:TypeId}(a0:cz P ty)(h:gi ty kt=some .str):P.underlying kt=some .string:=by
  unfold gi at h;split at h
  · rename_i he;exact(a0 _ _ he).2.1.1
  · cases h
  · split at h<;>cases h
  · cases h
theorem vw{kt:TypeId}{k:IntKind}(a0:cz P ty)(h:gi ty kt=some (.int k)):P.underlying kt=some (.int k):=by
  unfold gi at h;split at h
  · cases h
  · rename_i he;simp only[WV,KC.int.injEq]at h;subst h;exact(a0 _ _ he).2.1.1
  · split at h<;>cases h
  · cases h
theorem DF{kc:KC}{kt:TypeId}(a0:cz P ty)(h:gi ty kt=some kc)(a b:kc.K):(Op.equal kt (kc.ek a) (kc.ek b)).run P w= .ok (decide (a=b)) w:=by
  have key: ∀(r:Bool),Iv ty 10 kt (kc.pk a) (kc.pk b)=some r->(Op.equal kt (kc.ek a) (kc.ek b)).run P w= .ok r w:=fun r hr=>
    Fs (M:=Mem.base) (N:=⟨fun _=>0,fun _=>0⟩) (U:=fun _=>True) a0 10 kt _ _ r hr _ _ (Gg kc a) (Gg kc b) 9990
  unfold gi at h;split at h
  · rename_i he
    simp only[WV]at h;subst h;refine key _ ?_;simp[Iv,he,KC.pk]
  · rename_i he
    simp only[WV]at h;subst h;refine key _ ?_;simp[Iv,he,KC.pk]
  · rename_i he
    split at h
    · rename_i ha hb
      simp only[WV]at h;subst h;refine key _ ?_;obtain⟨a1,a2⟩:=a;obtain⟨b1,b2⟩:=b;simp[Iv,Iu,he,ha,hb,KC.pk,jX,TK.agg,mh]
    · cases h
  · cases h
def kT(kc:KC){V:Type}:List (kc.K×V)->kc.K->Option Nat
  | [],_=>none
  |(a,_)::r,k=>if a=k then some 0 else(kT kc r k).map (· +1)
section
variable {kc:KC} {V:Type}
theorem lF: ∀{m:List (kc.K×V)} {k:kc.K} {i:Nat},kT kc m k=some i-> ∃v,m[i]? =some (k,v)∧(∀z,bQ kc m k z=v)∧dV kc m k=true∧(∀v',b6 kc m k v'=m.set i (k,v'))∧pg kc m k=m.eraseIdx i
  | [],_,_,h=>by simp[kT]at h
  | (a,b)::r,k,i,h=>by
    simp only[kT]at h;split at h
    · rename_i e
      simp only[WV]at h;subst h;subst e;exact⟨b,rfl,fun z=>by simp[bQ],by simp[dV],fun v'=>by simp[b6],by simp[pg]⟩
    · rename_i e
      obtain⟨j,hj,rfl⟩:=W6.1 h;obtain⟨v,h1,h2,h3,h4,h5⟩:=lF hj;exact⟨v,by simpa using h1,fun z=>by simp[bQ,e,h2],by simp[dV,e,h3],fun v'=>by simp[b6,e,h4],by simp[pg,e,h5]⟩
theorem lG: ∀{m:List (kc.K×V)} {k:kc.K},kT kc m k=none->(∀z,bQ kc m k z=z)∧dV kc m k=false∧(∀v',b6 kc m k v'=m++ [(k,v')])∧pg kc m k=m
  | [],_,_=>⟨fun z=>rfl,rfl,fun v=>rfl,rfl⟩
  | (a,b)::r,k,h=>by
    simp only[kT]at h;split at h
    · cases h
    · rename_i e
      obtain⟨h2,h3,h4,h5⟩:=lG (Y9.1 h);exact⟨fun z=>by simp[bQ,e,h2],by simp[dV,e,h3],fun v'=>by simp[b6,e,h4],by simp[pg,e,h5]⟩
def yC(kc:KC){V:Type}:List MapEntry->List (kc.K×V)->Prop
  | [],[]=>True
  |e::r,x::m=>e.key=kc.ek x.1∧yC kc r m
  |_,_=>False
theorem Dd: ∀{es:List MapEntry} {m:List (kc.K×V)},es.length=m.length->(∀(j:Nat) (x:kc.K×V),m[j]? =some x->(es.getD j default).key=kc.ek x.1)->yC kc es m
  | [],[],_,_=>trivial
  |e::r,x::m,hl,h=>⟨by simpa using h 0 x Z,Dd (by simpa using hl) fun j x hj=>by simpa using h (j+1) x (by simpa using hj)⟩
  | [],_::_,hl,_=>by simp at hl
  |_::_,[],hl,_=>by simp at hl
theorem vC: ∀{es:List MapEntry} {m:List ((KC.str).K×V)} {k:ByteArray} (i:Nat),yC .str es m->Instr.findNow .string (.string k) es i=some ((kT .str m k).map fun j=>(i+j,(es.getD j default).val))
  | [],[],_,_,_=>rfl
  | e::r,(a,b)::m,k,i,h=>by
    obtain⟨h1,h2⟩:=h;simp only[KC.ek]at h1;simp only[Instr.findNow,h1,Instr.sameNow,kT];rw[beq_toListBytes,AV];by_cases hk:a=k
    · subst hk;simp
    · have hb:decide (k=a)=false:=by simpa using fun e=>hk e.symm
      rw[hb,be hk,vC (i+1) h2];simp only[Z9,WV];congr 1
      funext j
      simp;omega
  | [],_::_,_,_,h=>h.elim
  |_::_,[],_,_,h=>h.elim
theorem vE{q:IntKind}: ∀{es:List MapEntry} {m:List ((KC.int q).K×V)} {k:Int} (i:Nat),yC (.int q) es m->Instr.findNow (.int q) (.int q k) es i=some ((kT (.int q) m k).map fun j=>(i+j,(es.getD j default).val))
  | [],[],_,_,_=>rfl
  | e::r,(a,b)::m,k,i,h=>by
    obtain⟨h1,h2⟩:=h;simp only[KC.ek]at h1;simp only[Instr.findNow,h1,Instr.sameNow,kT,if_true];by_cases hk:a=k
    · subst hk;simp
    · have: ¬k=a:=fun e=>hk e.symm
      have hb:(k==a)=false:=by simpa using this
      rw[hb,be hk,vE (i+1) h2];simp only[Z9,WV];congr 1
      funext j
      simp;omega
  | [],_::_,_,_,h=>h.elim
  |_::_,[],_,_,h=>h.elim
theorem rP{kt:TypeId}(b0:cz P ty)(hk:gi ty kt=some kc): ∀{es:List MapEntry} {m:List (kc.K×V)} {k:kc.K} (i:Nat),yC kc es m->
    (Instr.findAsking kt (kc.ek k) es i).run P w= .ok ((kT kc m k).map fun j=>(i+j,(es.getD j default).val)) w
  | [],[],_,_,_=>by simp[Instr.findAsking,kT]
  | e::r,(a,b)::m,k,i,h=>by
    obtain⟨h1,h2⟩:=h;simp only[Instr.findAsking,h1,Sem.run_bind,DF (P:=P) (w:=w) b0 hk,Result.andThen_ok,kT];by_cases a0:a=k
    · subst a0;simp
    · have: ¬k=a:=fun e=>a0 e.symm
      rw[be a0];simp only[this,decide_false,Yn,if_false,rP b0 hk (i+1) h2,Z9];congr 2
      funext j
      simp;omega
  | [],_::_,_,_,h=>h.elim
  |_::_,[],_,_,h=>h.elim
theorem sX{kt:TypeId}(a0:cz P ty)(hk:gi ty kt=some kc){es:List MapEntry}{m:List (kc.K×V)}(k:kc.K)(h:yC kc es m):
    (Instr.findKey kt (kc.ek k) es).run P w= .ok ((kT kc m k).map fun j=>(j,(es.getD j default).val)) w:=by
  have hu: ∃d,P.underlying kt=some d:=by
    unfold gi at hk;split at hk
    · rename_i he;exact⟨_,(a0 _ _ he).2.1.1⟩
    · rename_i he;exact⟨_,(a0 _ _ he).2.1.1⟩
    · rename_i he;obtain⟨F,h1,_⟩:=(a0 _ _ he).2.1;exact⟨_,h1⟩
    · cases hk
  obtain⟨d,hd⟩:=hu;unfold Instr.findKey;rw[Sem.run_bind,run_underlying hd,Result.andThen_ok];have b0:=rP (P:=P) (w:=w) a0 hk (k:=k) 0 h;simp only[Xk]at b0;cases kc with
  | str=>
    have:=vv a0 hk;rw[hd]at this;cases this;simp only[KC.ek,vC 0 h,Xk];rfl
  | int q=>
    have:=vw a0 hk;rw[hd]at this;cases this;simp only[KC.ek,vE 0 h,Xk];rfl
  | si q=>
    cases es with
    | nil=>
      cases m with
      |nil=>simp[Instr.findNow,kT]
      |cons=>exact h.elim
    | cons e r=>
      have hn:Instr.findNow d (KC.ek (.si q) k) (e::r) 0=none:=by
        simp only[Instr.findNow,KC.ek];have:Instr.sameNow d (.agg #[.string k.1, .int q k.2]) e.key=none:=by cases d<;>rfl
        rw[this]
      rw[hn];exact b0
theorem lA.keys{V:Type}{e:V->IV}{m:List (kc.K×V)}{ents:Array MapEntry}{clock:Nat}(h:lA M kc e m ents clock):yC kc ents.toList m:=
  Dd (by simpa using h.size) fun j x hj=>by
    have:=h.key j x hj;rwa[WT,<-X4,<-WU]at this
theorem lA.Vu{V:Type}{e:V->IV}{m:List (kc.K×V)}{ents:Array MapEntry}{clock:Nat}(h:lA M kc e m ents clock){j:Nat}{x:kc.K×V}(hj:m[j]? =some x):IR M (e x.2) (ents.toList.getD j default).val:=by
  have:=h.val j x hj;rwa[WT,<-X4,<-WU]at this
theorem Ge{i:IV}{x:Value}(h:IR M i x):VR M N U i.pv x:=by
  cases h with
  | agg cs ys hl hr=>
    refine .agg _ _ (by simpa using hl) fun j p hp=>?_;rw[W1,W6]at hp;obtain⟨q,hq,rfl⟩:=hp
    exact .iv _ _ (hr j q hq)
  |v x=>exact .iv _ _ (.v x)
  |kQ=>exact .iv _ _ (.kQ _ _ _ _)
  |dq _ _ _ _ _ _ h1 h2 h3 h4 h5=>exact .iv _ _ (.dq _ _ _ _ _ _ h1 h2 h3 h4 h5)
  |mf _ _ _ h1 h2=>exact .iv _ _ (.mf _ _ _ h1 h2)
  |fw _ _ _ _ _ _ _ _ h1 h2 h3 h4 h5 h6 h7=>exact .iv _ _ (.fw _ _ _ _ _ _ _ _ h1 h2 h3 h4 h5 h6 h7)
theorem pV{kt:TypeId}(a0:cz P ty)(hk:gi ty kt=some kc)(k:kc.K)(b:Bool)(n:Nat):(Instr.checkKey b (n+2) kt (kc.ek k)).run P w= .ok () w:=by
  cases kc with
  |str=>exact run_checkKey (vv a0 hk) (by simp[KC.ek,IsKey]) _ _
  |int q=>exact run_checkKey (vw a0 hk) (by simp[KC.ek,IsKey]) _ _
  | si q=>
    unfold gi at hk;split at hk
    · cases hk
    · cases hk
    · rename_i a c _ _ _ he
      split at hk
      · rename_i _ _ _ _ q' _ _ _ ha hc
        simp only[WV,KC.si.injEq]at hk;have d0:q'=q:=hk;subst d0;obtain⟨F,h1,h2⟩:=(a0 _ _ he).2.1;have hq:=((a0 _ _ he).2.2 Z).2.2;rw[p8 h1]at hq;have c0:=(a0 _ _ ha).2.1.1;have f0:=(a0 _ _ hc).2.1.1;have e0:(part a #[.string k.1, .int q' k.2] 0).run P w= .ok (.string k.1) w:=by
          have:=ko (P:=P) (w:=w) (M:=Mem.base) (N:=⟨fun _=>0,fun _=>0⟩) (U:=fun _=>True) (off:=0) (cs:=[.iv (.v (.string k.1)), .iv (.v (.int q' k.2))]) (ys:= #[.string k.1, .int q' k.2]) (a0 _ _ ha) Z
            (fun j p hp=>by match j with
              |0=>simp at hp;subst hp;exact .iv _ _ (.v _)
              |1=>simp at hp;subst hp;exact .iv _ _ (.v _)
              |j+2=>simp at hp) (p:= .iv (.v (.string k.1))) (by simp[jX,TK.agg,mh])
          obtain⟨y,hy,hv⟩:=this;cases hv with
          |iv _ _ hv=>cases hv;exact hy
        have b0:(part c #[.string k.1, .int q' k.2] 1).run P w= .ok (.int q' k.2) w:=by
          have:=ko (P:=P) (w:=w) (M:=Mem.base) (N:=⟨fun _=>0,fun _=>0⟩) (U:=fun _=>True) (off:=1) (cs:=[.iv (.v (.string k.1)), .iv (.v (.int q' k.2))]) (ys:= #[.string k.1, .int q' k.2]) (a0 _ _ hc) Z
            (fun j p hp=>by match j with
              |0=>simp at hp;subst hp;exact .iv _ _ (.v _)
              |1=>simp at hp;subst hp;exact .iv _ _ (.v _)
              |j+2=>simp at hp) (p:= .iv (.v (.int q' k.2))) (by simp[jX,TK.agg,mh])
          obtain⟨y,hy,hv⟩:=this;cases hv with
          |iv _ _ hv=>cases hv;exact hy
        obtain⟨F⟩:=F
        match F,h2,hq with
        | [],h2,_=>simp at h2
        | [_],h2,_=>simp at h2
        |_::_::_::_,h2,_=>simp at h2
        | [f,g],h2,hq=>
          simp at h2;obtain⟨⟨h3,h4⟩,h5,h6⟩:=h2;have hf:=hq f (by simp);have hg:=hq g (by simp);have ca:=run_checkKey (w:=w) c0 (k:= .string k.1) (by simp[IsKey]) b n;have cc:=run_checkKey (w:=w) f0 (k:= .int q' k.2) (by simp[IsKey]) b n;unfold Instr.checkKey;simp[KC.ek,run_underlying h1,hf,hg,h3,h4,h5,h6,e0,b0,ca,cc]
      · cases hk
    · cases hk
theorem BW{a b:Value}(h:FM a b=true):a=b:=by
  unfold FM at h;split at h<;>simp_all
theorem BV: ∀{a b:List Value},yY a b=true->a=b
  | [],[],_=>rfl
  | x::r,y::q,h=>by
    simp only[yY,Xg]at h;rw[BW h.1,BV h.2]
  | [],_::_,h=>by simp[yY]at h
  |_::_,[],h=>by simp[yY]at h
theorem Mh{a b:Value}(h:Rm a b=true):a=b:=by
  unfold Rm at h;split at h
  · have:=BV h
    congr 1;exact aaj.1 this
  · exact BW h
theorem C4(a0:cz P ty){t:TypeId}{ok:Bool}{V:Type}{e:V->IV}{z:V}{zv:Value}{m:List (kc.K×V)}{key p:PV}{C:Prop}(h:xD ty t ok kc e z zv m key=some (p,C)){r:Nat}{ents:Array MapEntry}{clock:Nat}
    (hb:w.heap[r]? =some (.map ents clock)) (hm:lA M kc e m ents clock) (hz:IR M (e z) zv) {k:Value} (hk:VR M N U key k):
    C∧ ∃x,(Instr.lookup t (.map (some r)) k ok).run P w= .ok x w∧VR M N U p x:=by
  unfold xD at h;split at h
  · rename_i kt et _ _ _ _ he
    have hu:=(a0 _ _ he).2.1.1;split at h
    · rename_i c0 ee e0 i0
      split at h
      · rename_i k0 hd hv n0
        have hd:=of_decide_eq_true hd;subst hd;have j0:=Li n0 hk;subst j0;have hv:=Mh hv;have b0:=sX (P:=P) (w:=w) a0 e0 k0 hm.keys;have f0:=pV (P:=P) (w:=w) a0 e0 k0 ents.isEmpty 9998;have m0:=dZ (P:=P) (w:=w) (a0 _ _ i0);have hg:(getObj r).run P w= .ok (.map ents clock) w:=by simp[getObj,Sem.run,hb]
        have d0: ∃v bo,(Instr.lookup t (.map (some r)) (c0.ek k0) ok).run P w= .ok (if ok then .tuple #[v, .bool bo] else v) w∧bo=dV c0 m k0∧IR M (e (bQ c0 m k0 z)) v:=by
          cases hfi:kT c0 m k0 with
          | none=>
            obtain⟨g1,g2,_⟩:=lG hfi;rw[hfi]at b0;refine⟨ee.zero,false,?_,by rw[g2],by rw[g1,hv];exact hz⟩;simp[Instr.lookup,run_underlying hu,hg,f0,b0,m0]
          | some i=>
            obtain⟨v,g0,g1,g2,_⟩:=lF hfi;rw[hfi]at b0;refine⟨(ents.toList.getD i default).val,true,?_,by rw[g2],by rw[g1];exact hm.Vu g0⟩;simp[Instr.lookup,run_underlying hu,hg,f0,b0]
        obtain⟨v,bo,h1,h2,h3⟩:=d0;split at h
        · simp only[WV,W9]at h
          obtain⟨rfl,rfl⟩:=h;refine⟨ac,_,h1, .bT _ _ Z fun j q hq=>?_⟩
          match j with
          |0=>simp at hq;subst hq;exact Ge h3
          |1=>simp at hq;subst hq;subst h2;exact .iv _ _ (.v _)
          |j+2=>simp at hq
        · simp only[WV,W9]at h
          obtain⟨rfl,rfl⟩:=h;exact⟨ac,_,h1,Ge h3⟩
      · cases h
    · cases h
  · cases h
end
end
section
variable {P:Program} {ty:Ty} {M:Mem} {N:Nm} {w:World} {nt:Nat} {s:AS} {a:Act}
theorem bO{x:Value}{m:Sem Value}(h:m.run P w= .ok x w):(do pure (.value (<-m)):Sem Next).run P w= .ok (.value x) w:=by
  rw[Sem.run_bind,h];rfl
theorem xn(b0:cz P ty)(hf:Fits M N s nt a w){o:Oper}{p:PV}{C:Prop}(h:kN ty s o.op=some (p,C))(hC:C):
    ∃x,(execOp a.eval o).run P w= .ok (.value x) w∧VR M N (· <s.nx) p x:=by
  obtain⟨g0,a0,_,_⟩:=hf;cases ho:o.op with
  | move x=>
    rw[ho]at h;simp only[kN,WV,W9]at h;obtain⟨rfl,rfl⟩:=h;exact⟨_,by simp only[execOp,ho];rfl,bf a0 x⟩
  | assign x=>
    rw[ho]at h;simp only[kN,WV,W9]at h;obtain⟨rfl,rfl⟩:=h;exact⟨_,by simp only[execOp,ho];rfl,bf a0 x⟩
  | pick c x y=>
    rw[ho]at h;simp only[kN]at h;have hc:=bf a0 c;split at h
    · rename_i he
      rw[he]at hc;simp only[WV,W9]at h;obtain⟨rfl,rfl⟩:=h;generalize hv:a.eval c=v at hc;cases hc with
      |kb=>exact⟨_,by simp only[execOp,ho,hv];simp[asBool],bf a0 x⟩
    · rename_i he
      rw[he]at hc;simp only[WV,W9]at h;obtain⟨rfl,rfl⟩:=h;generalize hv:a.eval c=v at hc;cases hc with
      |kb=>exact⟨_,by simp only[execOp,ho,hv];simp[asBool],bf a0 y⟩
    · cases h
  | load t x=>
    rw[ho]at h;simp only[kN]at h;split at h
    · rename_i e he
      split at h
      · rename_i cs hb
        split at h
        · rename_i q hq
          simp only[WV,W9]at h;obtain⟨rfl,rfl⟩:=h;obtain⟨b,off,hx,y0⟩:=Ap g0 (bf a0 x) hb;obtain⟨y,hy,hv⟩:=vm (P:=P) (b0 t e he) y0 hq;exact⟨y,by simp only[execOp,ho];exact bO (by rw[hx];simpa[Instr.loadAt,Instr.sureAddr]using hy),hv⟩
        · cases h
      · cases h
    · cases h
  | nilCheck x=>
    rw[ho]at h;simp only[kN]at h;have hx:=bf a0 x;split at h
    all_goals first
      |cases h;done
      | (rename_i he
         simp only[WV,W9]at h;obtain⟨rfl,rfl⟩:=h;rw[he]at hx;refine⟨_,?_,hx⟩;generalize hv:a.eval x=v at hx
         first
         |(cases hx;simp only[execOp,ho,hv];rfl)
         | (cases hx with
            |iv _ _ hx=>cases hx;simp only[execOp,ho,hv];rfl))
  | binOp op t x y t'=>
    rw[ho]at h;simp only[kN]at h;split at h
    · rename_i cs ds m0 v1
      have h1:=bf a0 x;have h2:=bf a0 y;rw[m0]at h1;rw[v1]at h2;obtain⟨_,z,hz,hv⟩:=LW (P:=P) (w:=w) b0 (u:=x) (v:=y) h h1 h2;exact⟨z,by simp only[execOp,ho];exact bO hz,hv⟩
    · obtain⟨z,hz,hv⟩:=IG (P:=P) (w:=w) b0 (u:=x) (v:=y) h hC (bf a0 x) (bf a0 y)
      exact⟨z,by simp only[execOp,ho];exact bO hz,hv⟩
  | unOp op t x=>
    rw[ho]at h;cases op with
    | not=>
      simp only[kN]at h;have hx:=bf a0 x;split at h
      · rename_i he
        simp only[WV,W9]at h;obtain⟨rfl,rfl⟩:=h;rw[he]at hx;generalize hv:a.eval x=v at hx;cases hx with
        |kb=>exact⟨_,by simp only[execOp,ho,hv];exact bO Z, .kb _⟩
      · rename_i he
        simp only[WV,W9]at h;obtain⟨rfl,rfl⟩:=h;rw[he]at hx;generalize hv:a.eval x=v at hx;cases hx with
        |kb=>exact⟨_,by simp only[execOp,ho,hv];exact bO Z, .kb _⟩
      · rename_i he
        simp only[WV,W9]at h;obtain⟨rfl,rfl⟩:=h;rw[he]at hx;cases hx with
        | iv _ _ hx=>generalize hv:a.eval x=v at hx;cases hx with
          |v=>exact⟨_,by simp only[execOp,ho,hv];exact bO Z, .iv _ _ (.v _)⟩
      · cases h
    |_=>simp[kN]at h
  | fieldAddr t x k=>
    rw[ho]at h;simp only[kN]at h;split at h
    · rename_i e he
      split at h
      · rename_i off u o1
        split at h
        · rename_i eu i0
          split at h
          · cases h
          · rename_i n hn
            split at h
            · rename_i q hq
              simp only[WV,W9]at h;obtain⟨rfl,rfl⟩:=h;obtain⟨F,fd,h1,h2,rfl,rfl⟩:=uf (b0 t e he) o1;obtain⟨b,o',hx,hv⟩:=HL (bf a0 x) hq;refine⟨_,?_,hv⟩;simp only[execOp,ho,hx];refine bO ?_;have hs:=ct (w:=w) (b0 _ _ i0);simp[Instr.fieldAt,run_underlying h1,h2,Instr.sureAddr,fieldPlace,hs,hn,gU]
            · cases h
        · cases h
      · cases h
    · cases h
  | field t x k=>
    rw[ho]at h;simp only[kN]at h;split at h
    · rename_i e he
      split at h
      · rename_i off u o1
        split at h
        · rename_i eu i0
          split at h
          · rename_i cs m0
            split at h
            · rename_i q hq
              simp only[WV,W9]at h;obtain⟨rfl,rfl⟩:=h;obtain⟨F,fd,h1,h2,rfl,rfl⟩:=uf (b0 t e he) o1;have hx:=bf a0 x;rw[m0]at hx;generalize hv:a.eval x=v at hx;cases hx with
              | agg _ ys hl hr=>
                obtain⟨y,hy,b2⟩:=ko (P:=P) (w:=w) (b0 _ _ i0) hl hr hq;refine⟨y,?_,b2⟩;simp only[execOp,ho,hv];refine bO ?_;simp[Instr.field,run_underlying h1,h2,asAgg,hy]
            · cases h
          · cases h
        · cases h
      · cases h
    · cases h
  | indexAddr t x i=>
    rw[ho]at h;simp only[kN]at h;split at h
    · rename_i u sz r0 z _ he
      have hu:P.underlying t=some (.slice u):=(b0 t _ he).2.1.1;split at h
      · rename_i eu i0
        split at h
        · rename_i k n hn
          have hi:=bf a0 i;rw[hn]at hi;have n0:a.eval i= .int k n:=by
            generalize a.eval i=v at hi;cases hi with
            | iv _ _ hi=>cases hi with
              |v=>rfl
          split at h
          · rename_i s0 m el hx
            cases hb:Xn s0 eu.size with
            |false=>simp only[hb,cond_false]at h;cases h
            | true=>
              simp only[hb,cond_true]at h;have hs:=Xh hb;subst hs;have c0:=bf a0 x;rw[hx]at c0;obtain⟨y,hy,hv⟩:=rL (P:=P) (k:=k) hu (b0 _ _ i0) c0 (.inl ⟨m,el,rfl⟩) h hC;exact⟨y,by simp only[execOp,ho,n0];exact bO hy,hv⟩
          · rename_i j off len s0 hx
            cases hb:Xn s0 eu.size with
            |false=>simp only[hb,cond_false]at h;cases h
            | true=>
              simp only[hb,cond_true]at h;have hs:=Xh hb;subst hs;have c0:=bf a0 x;rw[hx]at c0;obtain⟨y,hy,hv⟩:=rL (P:=P) (k:=k) hu (b0 _ _ i0) c0 (.inr ⟨j,off,len,rfl⟩) h hC;exact⟨y,by simp only[execOp,ho,n0];exact bO hy,hv⟩
          · cases h
        · cases h
      · cases h
    · rename_i len u sz r0 z _ he
      have hu:P.underlying t=some (.array len u):=(b0 t _ he).2.1;split at h
      · rename_i eu i0
        split at h
        · rename_i k n hn
          have hi:=bf a0 i;rw[hn]at hi;have n0:a.eval i= .int k n:=by
            generalize a.eval i=v at hi;cases hi with
            | iv _ _ hi=>cases hi with
              |v=>rfl
          split at h
          · rename_i j off hx
            simp only[WV,W9]at h;obtain⟨rfl,rfl⟩:=h;have c0:=bf a0 x;rw[hx]at c0;generalize hv:a.eval x=v at c0;cases c0 with
            | ptr _ _ hU=>
              refine⟨.pointer (some ⟨N.aI j,off+n.toNat*eu.size,none⟩),?_, .ptr _ _ hU⟩;simp only[execOp,ho,n0,hv];refine bO ?_;simp only[Instr.indexAt,asIntOf];simp[run_underlying hu,hC.1,hC.2,ct (b0 _ _ i0),gU,Instr.sureAddr]
          · cases h
        · cases h
      · cases h
    · cases h
  | slice t x lo hi mx=>
    rw[ho]at h;have k0: ∀(o:Operand) (k:IntKind) (n:Int),ev s.f o= .iv (.v (.int k n))->a.eval o= .int k n:=fun o k n he=>by
      have hi:=bf a0 o;rw[he]at hi;generalize a.eval o=v at hi;cases hi with
      | iv _ _ hi=>cases hi with
        |v=>rfl
    cases lo with
    |none=>simp only[kN]at h;cases h
    |some lo=>
    cases hi with
    |none=>simp only[kN]at h;cases h
    |some hi=>
    cases mx with
    |some mx=>simp only[kN]at h;cases h
    |none=>
    simp only[kN]at h;split at h
    · rename_i u sz r0 z _ he
      have hu:P.underlying t=some (.slice u):=(b0 t _ he).2.1.1;split at h
      · rename_i eu i0
        split at h
        · rename_i ka na m1
          split at h
          · rename_i kb nb r1
            split at h
            · rename_i s0 m el hx
              cases hb:Xn s0 eu.size with
              |false=>simp only[hb,cond_false]at h;cases h
              | true=>
                simp only[hb,cond_true]at h;have hs:=Xh hb;subst hs;have c0:=bf a0 x;rw[hx]at c0;have j1:=k0 lo _ _ m1;have t1:=k0 hi _ _ r1;obtain⟨y,hy,hv⟩:=Hw (P:=P) (w:=w) (M:=M) (N:=N) (U:=(· <s.nx)) (ka:=ka) (kb:=kb) (na:=na) (nb:=nb) hu (b0 _ _ i0) c0 h hC;exact⟨y,by simp only[execOp,ho,j1,t1,XW,Z3];exact bO hy,hv⟩
            · cases h
          · cases h
        · cases h
      · cases h
    · rename_i sz r0 z _ he
      have hu:P.underlying t=some .string:=(b0 t _ he).2.1.1;split at h
      · rename_i ka na m1
        split at h
        · rename_i kb nb r1
          split at h
          · rename_i b hx
            simp only[WV,W9]at h;obtain⟨rfl,rfl⟩:=h;have c0:=bf a0 x;rw[hx]at c0;have d1:a.eval x= .string b:=by
              generalize a.eval x=v at c0;cases c0 with
              | iv _ _ hi=>cases hi with
                |v=>rfl
            have j1:=k0 lo _ _ m1;have t1:=k0 hi _ _ r1;refine⟨.string (b.extract na.toNat nb.toNat),?_, .iv _ _ (.v _)⟩;simp only[execOp,ho,j1,t1,d1,XW,Z3];exact bO (Cc hu hC)
          · cases h
        · cases h
      · cases h
    · cases h
  | index t x i=>
    rw[ho]at h;simp only[kN]at h;split at h
    · rename_i sz r0 z _ he
      have hu:P.underlying t=some .string:=(b0 t _ he).2.1.1;split at h
      · rename_i k n hn
        split at h
        · rename_i b hx
          simp only[WV,W9]at h;obtain⟨rfl,rfl⟩:=h;have hi:=bf a0 i;rw[hn]at hi;have n0:a.eval i= .int k n:=by
            generalize a.eval i=v at hi;cases hi with
            | iv _ _ hi=>cases hi with
              |v=>rfl
          have c0:=bf a0 x;rw[hx]at c0;have d1:a.eval x= .string b:=by
            generalize a.eval x=v at c0;cases c0 with
            | iv _ _ hi=>cases hi with
              |v=>rfl
          refine⟨_,?_, .iv _ _ (.v _)⟩;simp only[execOp,ho,n0,d1];refine bO ?_;have hlt:n.toNat<b.size:=by omega
          have hg:b[n.toNat]? =some (b.data.toList.getD n.toNat 0):=by
            rw[getElem?_pos b n.toNat hlt];have h0:n.toNat<b.data.size:=hlt;have h1:b.data.toList.getD n.toNat 0=b.data[n.toNat]:=by
              rw[WU,X4,XS h0];rfl
            rw[h1];rfl
          simp only[Instr.index,asIntOf];simp[run_underlying hu,hC.1,hg]
        · cases h
      · cases h
    · cases h
  | build t parts=>
    rw[ho]at h;simp only[kN]at h;split at h
    · rename_i e he
      split at h
      · rename_i fs hk
        split at h
        · rename_i pl w1
          split at h
          · rename_i cs m0
            rw[force_eq]at h;simp only[WV,W9]at h;obtain⟨rfl,rfl⟩:=h;have j0:=b0 t e he;have o0:=j0.2.1;rw[hk]at o0;obtain⟨F,h1,h2⟩:=o0;have hz:=dZ (w:=w) j0
            obtain⟨f1,h3,h4⟩:=ud (M:=M) (N:=N) (U:=(· <s.nx)) (vals:=(parts.map fun x=>(x.1,a.eval x.2)).toList) m0 (by simp) (fun j x y hx hy=>by
              rw[W1,W6]at hx;obtain⟨z,hz,rfl⟩:=hx;have s1:parts[j]? =some z:=by simpa using hz
              have:some (z.1,a.eval z.2)=some y:=by rw[<-hy];simp[s1]
              simp only[WV]at this;subst this
              exact⟨rfl,bf a0 z.2⟩) (fS e.zero)
            refine⟨.agg f1,?_, .agg _ _ h4.1 h4.2⟩;simp only[execOp,ho];refine bO ?_;have q1: ∀(fl:List Field) (pl:List (Nat×Nat)),tE ty (fl.map fun f=>(f.offset,f.type))=some pl->(fl.mapM (fun f=>do pure (f.offset,<-sizeOf f.type):Field->Sem (Nat×Nat))).run P w= .ok pl w:=by
              intro fl
              induction fl with
              |nil=>intro pl hp;simp only[XN,tE,WV]at hp;subst hp;rfl
              | cons f fl ih=>
                intro pl hp;simp only[Xe,tE]at hp;split at hp
                · rename_i e' x1
                  split at hp
                  · rename_i l hl
                    simp only[WV]at hp;subst hp;rw[List.mapM_cons,Sem.run_bind,Sem.run_bind,ct (b0 _ _ x1),Result.andThen_ok,Sem.run_pure,Result.andThen_ok,Sem.run_bind,ih l hl];rfl
                  · cases hp
                · cases hp
            have hm:=q1 F.toList pl (by rw[h2];exact w1);have a2:(F.mapM (fun f=>do pure (f.offset,<-sizeOf f.type):Field->Sem (Nat×Nat))).run P w= .ok pl.toArray w:=by
              rw[ZN,Sem.run_map,hm];rfl
            have q0:(fun(i:Nat)=>pl.toArray[i]?)=(fun(i:Nat)=>pl[i]?):=by funext i;simp
            simp only[Instr.build,Sem.run_bind,hz,Result.andThen_ok,run_underlying h1,a2];rw[q0,h3];rfl
          · cases h
        · cases h
      · rename_i n u hk
        split at h
        · rename_i eu i0
          split at h
          · rename_i cs m0
            rw[force_eq]at h;simp only[WV,W9]at h;obtain⟨rfl,rfl⟩:=h;have j0:=b0 t e he;have o0:=j0.2.1;rw[hk]at o0;have hz:=dZ (w:=w) j0
            obtain⟨f1,h3,h4⟩:=ud (M:=M) (N:=N) (U:=(· <s.nx)) (vals:=(parts.map fun x=>(x.1,a.eval x.2)).toList) m0 (by simp) (fun j x y hx hy=>by
              rw[W1,W6]at hx;obtain⟨z,hz,rfl⟩:=hx;have s1:parts[j]? =some z:=by simpa using hz
              have:some (z.1,a.eval z.2)=some y:=by rw[<-hy];simp[s1]
              simp only[WV]at this;subst this
              exact⟨rfl,bf a0 z.2⟩) (fS e.zero)
            refine⟨.agg f1,?_, .agg _ _ h4.1 h4.2⟩;simp only[execOp,ho];refine bO ?_;simp only[Instr.build,Sem.run_bind,hz,Result.andThen_ok,run_underlying o0,ct (b0 _ _ i0)];rw[h3];rfl
          · cases h
        · cases h
      · cases h
    · cases h
  | extract x k=>
    rw[ho]at h;simp only[kN]at h;split at h
    · rename_i cs m0
      split at h
      · rename_i q hq
        simp only[WV,W9]at h;obtain⟨rfl,rfl⟩:=h;have hx:=bf a0 x;rw[m0]at hx;generalize hv:a.eval x=v at hx;cases hx with
        | bT _ ys hl hr=>
          have hlt:k<ys.size:=by rw[<-hl];exact(WX.1 hq).1
          refine⟨ys.getD k undef,?_,hr _ _ hq⟩;simp only[execOp,ho,hv];refine bO ?_;simp[Instr.extract,WT,hlt]
      · cases h
    · cases h
  | makeFunc fn first caps=>
    rw[ho]at h;simp only[kN,force_eq,WV,W9]at h;obtain⟨rfl,rfl⟩:=h;have h1:=Ke a0 first;have h2:=Ke a0 caps;exact⟨_,by simp only[execOp,ho];exact bO Z, .dr _ _ _ _ _ h1.1 h2.1 h1.2 h2.2⟩
  | call c=>
    obtain⟨p0,args,d0⟩:=c;rw[ho]at h;cases p0 with
    | builtin b=>
      cases b with
      | len=>
        simp only[kN]at h;split at h
        · rename_i x t u1 c2
          have f0:args= #[x]:=by cases args;simp_all
          have l1:d0= #[t]:=by cases d0;simp_all
          subst f0 l1;have hx:=bf a0 x;have t0: ∀v,(Builtin.len_ #[t] o.type #[a.eval x]).run P w= .ok v w->(execOp a.eval o).run P w= .ok (.value v) w:=by
            intro v hv;simp only[execOp,ho,resolve];simp[invoke,builtin,hv]
          split at h
          · rename_i u sz r0 z _ he
            have hu:P.underlying t=some (.slice u):=(b0 t _ he).2.1.1;split at h
            · rename_i s0 n el e0
              rw[e0]at hx;simp only[yK,WV,W9]at h;obtain⟨rfl,rfl⟩:=h;refine⟨.int .i64 n,t0 _ ?_, .iv _ _ (.v _)⟩;generalize a.eval x=v at hx;cases hx with
              |iv _ _ hi=>cases hi<;>simp[Builtin.len_,run_underlying hu,goInt]
            · rename_i i off len s0 e0
              rw[e0]at hx;simp only[yK,WV,W9]at h;obtain⟨rfl,rfl⟩:=h;refine⟨.int .i64 len,t0 _ ?_, .iv _ _ (.v _)⟩;generalize a.eval x=v at hx;cases hx<;>(simp[Builtin.len_,run_underlying hu,goInt];done)
            · rename_i e0
              rw[e0]at hx;simp only[yK,WV,W9]at h;obtain⟨rfl,rfl⟩:=h;refine⟨.int .i64 0,t0 _ ?_, .iv _ _ (.v _)⟩;generalize a.eval x=v at hx;cases hx with
              |iv _ _ hi=>cases hi;simp[Builtin.len_,run_underlying hu,goInt]
            · cases h
          · rename_i sz r0 z _ he
            have hu:P.underlying t=some .string:=(b0 t _ he).2.1.1;split at h
            · rename_i b e0
              rw[e0]at hx;simp only[yK,WV,W9]at h;obtain⟨rfl,rfl⟩:=h;refine⟨.int .i64 b.size,t0 _ ?_, .iv _ _ (.v _)⟩;generalize a.eval x=v at hx;cases hx with
              |iv _ _ hi=>cases hi;simp[Builtin.len_,run_underlying hu,goInt]
            · cases h
          · rename_i kt et sz r0 z _ he
            have hu:P.underlying t=some (.map kt et):=(b0 t _ he).2.1.1;have w0: ∀{r:Nat} {ents:Array MapEntry} {clock n:Nat},w.heap[r]? =some (.map ents clock)->ents.size=n->(Builtin.len_ #[t] o.type #[.map (some r)]).run P w= .ok (.int .i64 n) w:=by
              intro r ents clock n h1 h2;simp[Builtin.len_,run_underlying hu,goInt,getObj,Sem.run,h1,h2,Result.andThen]
            split at h
            · rename_i V z0 b1 z' p1 m' e0
              rw[e0]at hx;simp only[WV,W9]at h;obtain⟨rfl,rfl⟩:=h;refine⟨.int .i64 m'.length,t0 _ ?_, .iv _ _ (.v _)⟩;generalize a.eval x=v at hx;cases hx with
              | iv _ _ hi=>cases hi with
                |fw _ _ _ _ _ b ents clock hb hs=>exact w0 (g0.dF _ _ hb) hs
            · rename_i j e0
              rw[e0]at hx;split at h
              · rename_i V z0 b1 z' p1 y1 m' hg
                simp only[WV,W9]at h;obtain⟨rfl,rfl⟩:=h;refine⟨.int .i64 m'.length,t0 _ ?_, .iv _ _ (.v _)⟩;obtain⟨ents,clock,h1,h2,h3⟩:=g0.obj _ _ hg;generalize a.eval x=v at hx;cases hx with
                |mp=>exact w0 h1 h2.size
              · cases h
            · cases h
          · cases h
        · cases h
      | max=>
        simp only[kN]at h;split at h
        · rename_i x y u1
          have f0:args= #[x,y]:=by cases args;simp_all
          subst f0;split at h
          · rename_i k n j m hn hm
            simp only[WV,W9]at h;obtain⟨rfl,rfl⟩:=h;have h1:=bf a0 x;have h2:=bf a0 y;rw[hn]at h1;rw[hm]at h2;have e1:a.eval x= .int k n:=by
              generalize a.eval x=v at h1;cases h1 with
              | iv _ _ hi=>cases hi with
                |v=>rfl
            have e2:a.eval y= .int j m:=by
              generalize a.eval y=v at h2;cases h2 with
              | iv _ _ hi=>cases hi with
                |v=>rfl
            have e3:(if m>n then m else n)=max n m:=by split<;>omega
            refine⟨.int k (max n m),?_, .iv _ _ (.v _)⟩;simp only[execOp,ho,resolve];simp[invoke,builtin,Builtin.max_,Builtin.max2,e1,e2,<-e3]
          · cases h
        · cases h
      | min=>
        simp only[kN]at h;split at h
        · rename_i x y u1
          have f0:args= #[x,y]:=by cases args;simp_all
          subst f0;split at h
          · rename_i k n j m hn hm
            simp only[WV,W9]at h;obtain⟨rfl,rfl⟩:=h;have h1:=bf a0 x;have h2:=bf a0 y;rw[hn]at h1;rw[hm]at h2;have e1:a.eval x= .int k n:=by
              generalize a.eval x=v at h1;cases h1 with
              | iv _ _ hi=>cases hi with
                |v=>rfl
            have e2:a.eval y= .int j m:=by
              generalize a.eval y=v at h2;cases h2 with
              | iv _ _ hi=>cases hi with
                |v=>rfl
            have e3:(if m<n then m else n)=min n m:=by split<;>omega
            refine⟨.int k (min n m),?_, .iv _ _ (.v _)⟩;simp only[execOp,ho,resolve];simp[invoke,builtin,Builtin.min_,Builtin.min2,e1,e2,<-e3]
          · cases h
        · cases h
      |_=>simp[kN]at h
    |_=>simp[kN]at h
  | lookup t x i ok=>
    rw[ho]at h;simp only[kN]at h;have hx:=bf a0 x;have hi:=bf a0 i;split at h
    · rename_i V z0 b1 z' p1 m' e0
      rw[e0]at hx;generalize hv:a.eval x=v at hx;cases hx with
      | iv _ _ hxi=>cases hxi with
        | fw _ _ _ _ _ b ents clock hb hs o0 hv' hz n0 hc=>
          obtain⟨_,y,h1,h2⟩:=C4 (P:=P) b0 h (g0.dF _ _ hb) ⟨hs,o0,hv',n0,hc⟩ hz hi;exact⟨y,by simp only[execOp,ho,hv];exact bO h1,h2⟩
    · rename_i j e0
      rw[e0]at hx;split at h
      · rename_i V z0 b1 z' p1 y1 m' hg
        obtain⟨ents,clock,h1,h2,h3⟩:=g0.obj _ _ hg;generalize hv:a.eval x=v at hx;cases hx with
        | mp=>
          obtain⟨_,y,g1,g2⟩:=C4 (P:=P) b0 h h1 h2 h3 hi;exact⟨y,by simp only[execOp,ho,hv];exact bO g1,g2⟩
      · cases h
    · cases h
  | entry it=>
    rw[ho]at h;simp only[kN]at h;have hx:=bf a0 it;split at h
    · rename_i i e0
      rw[e0]at hx;split at h
      · rename_i V z0 b1 m' vs x' hg
        simp only[WV,W9]at h;obtain⟨rfl,rfl⟩:=h;obtain⟨b,ents,clock,n1,h1,h2,h3,h4,h5,h6,h7⟩:=(g0.obj _ _ hg).resolve_left fun hh=>nomatch hh.2.2.1;obtain⟨j,r,rfl,h8⟩:=h7 x' Z;generalize hv:a.eval it=v at hx
        cases hx with
        | ptr=>
          have hj:j<ents.size:=by rw[h3.size];exact(WX.1 h8).1
          have z1:ents.getD j default=ents[j]:=by simp[WT,hj]
          have a1:n1=(r.reverse.map fun j=>(ents.getD j default).born).toArray.push (ents[j]).born:=by
            apply aaj.1;rw[h4];simp[hj]
          rw[a1]at h1;have hnd:(ents.toList.map (·.born)).Nodup:=by
            rw[List.nodup_iff_pairwise_ne,Zu];intro p q hp hq d2 he;simp at hp hq he;have:=h3.inj p q ents[p] ents[q] (by simp[hp]) (by simp[hq]) he;omega
          have i1:=run_entry_at (P:=P) w (N.aI i) b clock _ ents clock ents[j] h1 (g0.dF _ _ h2) (by simp) hnd;refine⟨_,by simp only[execOp,ho,hv];exact bO i1, .bT _ _ Z fun q p hp=>?_⟩;have v0:=h3.key j _ h8;have x0:=h3.val j _ h8;rw[z1]at v0 x0
          match q with
          |0=>simp at hp;subst hp;simp only[WT];simp;rw[v0];exact Gg z0 _
          |1=>simp at hp;subst hp;exact Ge x0
          |q+2=>simp at hp
      · cases h
    · cases h
  |_=>rw[ho]at h;simp[kN]at h
end
abbrev AQ:=Exit->AS->Prop
def pb(nt:Nat)(M:Mem)(N:Nm)(s:AS)(w:World)(Q:AQ):Exit->Act->World->Prop:=fun e a' w'=>
 ∃M' N' s',Ext M N (· <s.nx) s.h w M' N' (· <s'.nx) s'.h w'∧Fits M' N' s' nt a' w'∧Q e s'
theorem pb.later{nt:Nat}{M M':Mem}{N N':Nm}{s s':AS}{w w':World}{Q:AQ}{e:Exit}{a:Act}{w2:World}
  (x:Ext M N (· <s.nx) s.h w M' N' (· <s'.nx) s'.h w') (h:pb nt M' N' s' w' Q e a w2):pb nt M N s w Q e a w2:=by
 obtain⟨M2,N2,s2,h1,h2,h3⟩:=h;exact⟨M2,N2,s2,x.trans h1,h2,h3⟩
theorem pb.now{nt:Nat}{M:Mem}{N:Nm}{s:AS}{w:World}{Q:AQ}{e:Exit}{a:Act}(hf:Fits M N s nt a w)(h:Q e s):pb nt M N s w Q e a w:=
 ⟨M,N,s, .refl _ _ _ _ _,hf,h⟩
def AW(P:Program)(nt:Nat)(c:Code)(Q:AQ)(s:AS):Prop:= ∀M N a w,Fits M N s nt a w->c.wp P (pb nt M N s w Q) a w
def AL(P:Program)(nt:Nat)(all rest:List Oper)(Q:AQ)(s:AS):Prop:= ∀M N a w,Fits M N s nt a w->wpList P all.toArray (pb nt M N s w Q) rest a w
def SL(P:Program)(nt:Nat)(all rest:List Oper)(Q:AQ)(s:AS):Prop:= ∀M N a w,Fits M N s nt a w->
 wpStill P all.toArray w (fun a'=> ∃s',s'.h=s.h∧s'.nx=s.nx∧Fits M N s' nt a' w∧Q .normal s') rest a
def waits(o:Oper)(i:Nat):Bool:=o.after.toList.any fun e=>Region.binds .any e&&Xn e.on i
def looks(all:List Oper)(o x:Oper):Bool:=match x.dst with
 |some d=>(o.looksAt all.toArray).contains d
 |none=>false
def gL:Nat->List Oper->Bool
 |_,[]=>true
 |n,o::r=>(o.after.toList.all fun e=>!Region.binds .any e||Xi e.on n)&&gL (n+1) r
structure Bs where
 M:Mem
 N:Nm
 n:Nat
 h:AH
 w:World
def Bs.ext(B:Bs)(M:Mem)(N:Nm)(s:AS)(w:World):Prop:=Ext B.M B.N (· <B.n) B.h B.w M N (· <s.nx) s.h w
def Rh(nt:Nat)(B:Bs)(Q:AQ):Exit->Act->World->Prop:=fun e a' w'=> ∃M' N' s',B.ext M' N' s' w'∧Fits M' N' s' nt a' w'∧Q e s'
def aU(o:Oper):Bool:=match o.op with
 | .alloc _=>true
 |_=>false
def rU(P:Program)(M:Mem)(N:Nm)(s:AS)(B:Bs)(a:Act)(w:World)(o:Oper)(aI:Nat):Prop:=
 ∃t v d,o.op= .alloc t∧(∀w,(zeroValue t).run P w= .ok v w)∧o.dst=some d∧a.tmps[d]? =some (.pointer (some ⟨aI,0,none⟩))∧w.heap[aI]? =some (.cells v.cells t (0,0))∧M aI=none∧
  (∀i o,s.h.get i=some o->o.real=true->N.aI i≠aI)∧B.w.heap.size<=aI
structure oq (P:Program) (nt:Nat) (all:List Oper) (todo pend:List (Nat×Oper)) (B:Bs) (M:Mem) (N:Nm) (s:AS) (listed:Array Bool) (a:Act) (w:World):Prop where
 size:listed.size=all.length
 tl: ∀x∈todo,all[x.1]? =some x.2
 pl: ∀x∈pend,all[x.1]? =some x.2
 dj: ∀x∈pend,∀y∈todo,y.1≠x.1
 IT: ∀i o,all[i]? =some o->listed.getD i true=false->(i,o)∈todo∨(i,o)∈pend
 pw:pend.Pairwise fun x y=>looks all y.2 x.2=false∧ ∀d,x.2.dst=some d->y.2.dst≠some d
 pp: ∀x∈pend,∀y∈pend,waits y.2 x.1=true∨looks all y.2 x.2=false
 pa: ∀y∈pend,∀x∈todo,aU x.2=true->waits y.2 x.1=false
 er: ∃bl:Nat->Nat,(∀x∈todo,listed.getD x.1 true=true->rU P M N s B a w x.2 (bl x.1))∧ ∀x∈todo,∀y∈todo,listed.getD x.1 true=true->listed.getD y.1 true=true->x.1≠y.1->bl x.1≠bl y.1
 ap: ∃b:Act,Fits M N s nt b w∧a.tmps.size=b.tmps.size∧a.defers=b.defers∧
  (∀d,(∀x∈pend,listed.getD x.1 true=false->x.2.dst≠some d)->(∀x∈todo,listed.getD x.1 true=true->x.2.dst≠some d)->a.tmps[d]? =b.tmps[d]?)∧
  (∀x∈pend,listed.getD x.1 true=false-> ∃v,YieldsAt P all.toArray w x.2 v b∧b.put x.2.dst v=b)
def jK(P:Program)(nt:Nat)(all:List Oper):Prop:= ∀i o,all[i]? =some o->aU o=true->
 o.guard=none∧(∃d,o.dst=some d∧d<nt)∧(∃t v,o.op= .alloc t∧ ∀w,(zeroValue t).run P w= .ok v w)∧(∀k,waits o k=false)∧
 ∀k q,all[k]? =some q->k≠i->(waits q i=true∨looks all q o=false)∧ ∀d,o.dst=some d->q.dst≠some d
def DL(P:Program)(nt:Nat)(all:List Oper)(todo pend:List (Nat×Oper))(Q:AQ)(s:AS):Prop:=
 Region.noSelect all.toArray=true->gL 0 all=true->jK P nt all-> ∀B M N listed a w a0,B.ext M N s w->oq P nt all todo pend B M N s listed a w->listed.toList.count false<=a0->wpAny P .any all.toArray (Rh nt B Q) a0 listed a w
def putDst(nt:Nat)(o:Oper)(p:PV)(s:AS):Option AS:=
 match o.dst with
 |none=>some s
 |some d=>bif Xi d nt then(match s with|⟨f,h,n⟩=>xV p fun p'=>some ⟨(d,p')::f,h,n⟩) else none
theorem gv{nt:Nat}{o:Oper}{p:PV}{s s':AS}(h:putDst nt o p s=some s')(hd:o.dst=none):s'=s:=by
 simp only[putDst,hd,WV]at h;exact h.symm
theorem gu{nt:Nat}{o:Oper}{p:PV}{s s':AS}(h:putDst nt o p s=some s'){d:Nat}(hd:o.dst=some d):d<nt∧s'={s with f:=(d,p)::s.f}:=by
 simp only[putDst,hd]at h;cases hb:Xi d nt with
 |false=>simp[hb]at h
 |true=>
  obtain⟨f,hh,n⟩:=s;simp only[hb,cond_true,eF,WV]at h;exact⟨WR hb,h.symm⟩
def im(P:Program)(nt:Nat)(all:List Oper)(s:AS)(o:Oper):Prop:=
 ∀M N b w,Fits M N s nt b w-> ∃v,YieldsAt P all.toArray w o v b∧Fits M N s nt (b.put o.dst v) w
def bg(pend:List (Nat×Oper))(o:Oper):List (Nat×Oper):=pend.filter fun x=>!waits o x.1
def UA(P:Program)(nt:Nat)(b:Code)(Q:AQ):Nat->AS->Prop
 |0,_=>False
 |n+1,s=>AW P nt b (fun e s'=>match e with| .normal=>UA P nt b Q n s'|e=>Q e s') s
inductive KI where
 |code (c:Code)
 |aI (id:Nat)
 |ops (all rest:List Oper)
 |lp (R:AS->Prop)
 |vW (all rest:List Oper)
 |cJ (all:List Oper) (todo pend:List (Nat×Oper))
 |Hj (b:Code) (n:Nat)
 |IM
 |OX (nt:Nat) (f:AF) (res:AS->Option PV) (o:Oper) (all rest:List Oper)
 |OY (nt:Nat) (f:AF) (res:AS->Option PV) (j:Nat) (o:Oper) (all:List Oper) (todo pend:List (Nat×Oper))
def kp(P:Program):Nat->List KI->AQ->AQ
 |_,[],Q=>Q
 |nt, .code c::k,Q=>fun e s=>match e with| .normal=>AW P nt c (kp P nt k Q) s|e=>kp P nt k Q e s
 |nt, .ops all rest::k,Q=>fun e s=>match e with| .normal=>AL P nt all rest (kp P nt k Q) s|e=>kp P nt k Q e s
 |nt, .vW all rest::k,Q=>fun e s=>match e with| .normal=>SL P nt all rest (kp P nt k Q) s|e=>kp P nt k Q e s
 |nt, .cJ all todo pend::k,Q=>fun e s=>match e with| .normal=>DL P nt all todo pend (kp P nt k Q) s|e=>kp P nt k Q e s
 |nt, .lp R::k,Q=>fun e s=>match e with| .normal=>R s|e=>kp P nt k Q e s
 |nt, .aI id::k,Q=>fun e s=>match e with| .exit j=>if j=id then kp P nt k Q .normal s else kp P nt k Q (.exit j) s|e=>kp P nt k Q e s
 |nt, .Hj b n::k,Q=>fun e s=>match e with| .normal=>UA P nt b (kp P nt k Q) n s|e=>kp P nt k Q e s
 |nt, .IM::k,Q=>fun e s=>match e with| .goto _=>False|e=>kp P nt k Q e s
 |_, .OX nt f res o all rest::k,Q=>fun e s=>(e= .normal∨e= .ret)∧ ∃r s',res s=some r∧putDst nt o r ⟨f,s.h,s.nx⟩=some s'∧AL P nt all rest (kp P nt k Q) s'
 | _, .OY nt f res j o all todo pend::k,Q=>fun e s=>(e= .normal∨e= .ret)∧ ∃r s',res s=some r∧putDst nt o r ⟨f,s.h,s.nx⟩=some s'∧
   (∀x∈bg pend o,im P nt all s' x.2)∧DL P nt all (todo.filter fun x=>!Xn x.1 j) (bg pend o) (kp P nt k Q) s'
def GO(P:Program)(nt:Nat)(k:List KI)(Q:AQ)(s:AS):Prop:=kp P nt k Q .normal s
section
variable {P:Program} {nt:Nat} {Q:AQ} {k:List KI} {s:AS}
theorem AW.then{c:Code}{R:AQ}(h:AW P nt c R s){M:Mem}{N:Nm}{a:Act}{w:World}(hf:Fits M N s nt a w){Z:Exit->Act->World->Prop}
  (hz: ∀e a' w' M' N' s',Ext M N (· <s.nx) s.h w M' N' (· <s'.nx) s'.h w'->Fits M' N' s' nt a' w'->R e s'->Z e a' w'):c.wp P Z a w:=
 wp_mono (h M N a w hf) fun e a' w' ⟨M',N',s',h1,h2,h3⟩=>hz e a' w' M' N' s' h1 h2 h3
theorem go_skip(h:GO P nt k Q s):GO P nt (.code .skip::k) Q s:=fun _ _ _ _ hf=>wp_skip (.now hf h)
theorem KU{l:Nat}(h:GO P nt k Q s):GO P nt (.code (.label l)::k) Q s:=fun _ _ _ _ hf=>wp_label (.now hf h)
theorem go_ret(h:kp P nt k Q .ret s):GO P nt (.code .ret::k) Q s:=fun _ _ _ _ hf=>wp_ret (.now hf h)
theorem OP{id:Nat}(h:kp P nt k Q (.exit id) s):GO P nt (.code (.exit id)::k) Q s:=fun _ _ _ _ hf=>wp_exit (.now hf h)
theorem KS{c:Code}(h:GO P nt (.code c:: .IM::k) Q s):GO P nt (.code (.scope c)::k) Q s:=by
 intro M N a w hf;refine wp_scope_straight (AW.then h hf fun e a' w' M' N' s' hx a0 hr=>?_);cases e with
 |goto l=>exact hr
 |_=>exact⟨M',N',s',hx,a0,hr⟩
theorem Sz{id:Nat}(h:GO P nt k Q s):GO P nt (.aI id::k) Q s:=h
theorem Su{x y:Code}(h:GO P nt (.code x:: .code y::k) Q s):GO P nt (.code (.seq x y)::k) Q s:=by
 intro M N a w hf;refine wp_seq (AW.then h hf fun e a' w' M' N' s' hx a0 hr=>?_);cases e with
 |normal=>exact AW.then hr a0 fun e a2 w2 M2 N2 s2 b0 d0 c0=>⟨M2,N2,s2,hx.trans b0,d0,c0⟩
 |_=>exact⟨M',N',s',hx,a0,hr⟩
theorem KY{id:Nat}{x:Code}(h:GO P nt (.code x:: .aI id::k) Q s):GO P nt (.code (.block id x)::k) Q s:=by
 intro M N a w hf;refine wp_block (AW.then h hf fun e a' w' M' N' s' hx a0 hr=>?_);cases e with
 |exit j=>
  simp only[kp]at hr;simp only[Exit.inBlock];split
  ·rename_i hj;rw[am hj]at hr;exact⟨M',N',s',hx,a0,hr⟩
  ·rename_i hj;rw[be hj]at hr;exact⟨M',N',s',hx,a0,hr⟩
 |_=>exact⟨M',N',s',hx,a0,hr⟩
theorem go_region{id:Nat}{ops:Array Oper}(h:GO P nt (.ops ops.toList ops.toList::k) Q s):GO P nt (.code (.region id ops false)::k) Q s:=by
 intro M N a w hf;refine wp_region_list ?_;have:=h M N a w hf;simpa using this
theorem Fh{all:List Oper}(h:GO P nt k Q s):GO P nt (.ops all []::k) Q s:=fun _ _ _ _ hf=>wpList_nil (pb.now hf h)
theorem Fits.bool{M:Mem}{N:Nm}{a:Act}{w:World}(hf:Fits M N s nt a w){c:Operand}{t:Bool}(hc:ev s.f c= .iv (.v (.bool t))):a.eval c= .bool t:=by
 have h:=bf hf.2.1 c;rw[hc]at h;generalize a.eval c=v at h;cases h with
 |iv _ _ h=>cases h with
  |v=>rfl
theorem Fits.put{M:Mem}{N:Nm}{a:Act}{w:World}(hf:Fits M N s nt a w)(d:Nat)(p:PV)(x:Value)(hd:d<nt)(hp:VR M N (· <s.nx) p x):Fits M N {s with f:=(d,p)::s.f} nt (a.put (some d) x) w:=
 ⟨hf.1,hf.2.1.put d p x (by rw[hf.2.2.2];exact hd) hp,hf.2.2.1,by simp[Act.put,hf.2.2.2]⟩
def setBool(s:AS)(c:Operand)(t:Bool):AS:=
 match c with
 | .tmp d=>match s with
  |⟨f,h,n⟩=>⟨(d, .kb t)::f,h,n⟩
 |_=>s
theorem Fits.setBool{M:Mem}{N:Nm}{a:Act}{w:World}(hf:Fits M N s nt a w){c:Operand}{t:Bool}(hc:ev s.f c= .iv (.v (.bool t))):Fits M N (setBool s c t) nt a w:=by
 cases c with
 |tmp d=>
  refine⟨hf.1,fun j=>?_,hf.2.2⟩;simp only[Al.setBool,AF.au];split
  ·rename_i hj;subst hj;have:=hf.bool (c:= .tmp j) hc;simp only[Act.eval]at this;rw[this];exact .kb _
  ·exact hf.2.1 j
 |_=>exact hf
theorem xS{c:Operand}{x y:Code}{t:Bool}(hc:ev s.f c= .kb t)(h:GO P nt (.code (bif t then x else y)::k) Q s):GO P nt (.code (.cond c x y)::k) Q s:=by
 intro M N a w hf;have hb:a.eval c= .bool t:=by
  have:=bf hf.2.1 c;rw[hc]at this;generalize a.eval c=v at this;cases this;rfl
 refine wp_cond hb ?_;cases t
 ·exact h M N a w hf
 ·exact h M N a w hf
theorem OS{c:Operand}{x y:Code}{t:Bool}(hc:ev s.f c= .iv (.v (.bool t)))(h1:t=true->GO P nt (.code x::k) Q (setBool s c true))(h2:t=false->GO P nt (.code y::k) Q (setBool s c false)):
  GO P nt (.code (.cond c x y)::k) Q s:=by
 intro M N a w hf;have d0:=hf.setBool hc;refine wp_cond_split (hf.bool hc) (fun ht=>?_) (fun ht=>?_)
 ·subst ht;exact AW.then (h1 Z) d0 fun e a2 w2 M2 N2 s2 a0 c0 b0=>⟨M2,N2,s2,by cases c<;>exact a0,c0,b0⟩
 ·subst ht;exact AW.then (h2 Z) d0 fun e a2 w2 M2 N2 s2 a0 c0 b0=>⟨M2,N2,s2,by cases c<;>exact a0,c0,b0⟩
theorem tM{Q Q':Exit->Act->World->Prop}(hq: ∀e a w,Q e a w->Q' e a w)(h:LetsOut Q):LetsOut Q':=let ⟨a,w,x⟩:=h;⟨a,w,hq _ _ _ x⟩
theorem CT{o:Oper}{a:Act}{w:World}{K K':Act->World->Prop}{Q Q':Exit->Act->World->Prop}(h: ∀a w,K a w->K' a w)(hq: ∀e a w,Q e a w->Q' e a w)(hh:o.wp P a w K Q):o.wp P a w K' Q':=by
 unfold Oper.wp at*
 generalize(execOp a.eval o).run P w=r at*
 cases r with
 |ok n w'=>
  cases n<;>simp only[Oper.upon]at hh ⊢ <;>
   first
    |exact h _ _ hh
    |exact Calls.mono hh (fun e a0 he=>by cases e<;>first|exact h _ _ he|exact tM hq he|exact hq _ _ _ he)
    |exact Rows.mono hh (fun _ _ he=>h _ _ he)
 |halt x w'=>cases x<;>simp only[Oper.upon]at hh ⊢ <;>exact hq _ _ _ hh
theorem je{a0:Array Oper}{Q Q':Exit->Act->World->Prop}(hq: ∀e a w,Q e a w->Q' e a w): ∀(l:List Oper) (a:Act) (w:World),wpList P a0 Q l a w->wpList P a0 Q' l a w
 | [],_,_,h=>hq _ _ _ h
 |o::r,a,w,h=>by
  unfold wpList at*
  split
  ·rename_i hw;rw[am hw]at h;exact h.imp (CT (je hq r) hq) (fun⟨h1,h2⟩=>⟨h1,tM hq h2⟩)
  ·rename_i hw;rw[be hw]at h;exact je hq r _ _ h
theorem AL.later{all rest:List Oper}(h:AL P nt all rest Q s){M M0:Mem}{N N0:Nm}{s0:AS}{a:Act}{w w0:World}(x:Ext M0 N0 (· <s0.nx) s0.h w0 M N (· <s.nx) s.h w)(hf:Fits M N s nt a w):
  wpList P all.toArray (pb nt M0 N0 s0 w0 Q) rest a w:=
 je (fun _ _ _=>pb.later x) rest a w (h M N a w hf)
def OT(P:Program)(nt:Nat)(o:Oper)(s:AS)(R:AS->Prop):Prop:=
 ∀M N a w,Fits M N s nt a w-> ∀(K:Act->World->Prop) (Q:Exit->Act->World->Prop),
  (∀M' N' s' a' w',Ext M N (· <s.nx) s.h w M' N' (· <s'.nx) s'.h w'->Fits M' N' s' nt a' w'->R s'->K a' w')->o.wp P a w K Q
theorem jg{o:Oper}(h:o.guard=none)(y:Nat->Option Bool):Region.wanted o y=true:=by simp[Region.wanted,h]
theorem ep{all rest:List Oper}{o:Oper}{R:AS->Prop}(hg:o.guard=none)(ho:OT P nt o s R)(h: ∀s',R s'->GO P nt (.ops all rest::k) Q s'):GO P nt (.ops all (o::rest)::k) Q s:=by
 intro M N a w hf;unfold wpList;rw[am (jg hg _)];refine .inl (ho M N a w hf _ _ fun M' N' s' a' w' hx a0 hr=>?_);exact AL.later (h s' hr) hx a0
def guardOf(all:List Oper)(f:AF)(j:Nat):Option (Nat×PV):=
 match all[j]? with
 |some o=>match o.dst with
  |some d=>some (d,f.get d)
  |none=>none
 |none=>none
theorem Fits.yielded{M:Mem}{N:Nm}{a:Act}{w:World}(hf:Fits M N s nt a w){all:List Oper}{j d:Nat}{t:Bool}(hg:guardOf all s.f j=some (d, .iv (.v (.bool t))))(hd:d<nt):Go.yielded all.toArray a.tmps j=some t:=by
 unfold guardOf at hg;cases ho:all[j]? with
 |none=>simp[ho]at hg
 |some o=>
  cases hod:o.dst with
  |none=>simp[ho,hod]at hg
  |some d'=>
   simp only[ho,hod,WV,W9]at hg;obtain⟨rfl,hv⟩:=hg;have h1:=hf.2.1 d';rw[hv]at h1;have a0:d'<a.tmps.size:=by rw[hf.2.2.2];exact hd
   have h2:a.tmps[d']? =some (a.tmps.getD d' undef):=by simp[WT,a0]
   have h3:a.tmps.getD d' undef= .bool t:=by
    generalize a.tmps.getD d' undef=v at h1;cases h1 with
    |iv _ _ h=>cases h with
     |v=>rfl
   have h4:all.toArray[j]? =some o:=by simpa using ho
   simp[Go.yielded,h4,hod,h2,h3]
def iq(o:Oper)(s:AS):AS:=
 match o.dst with
 |some e=>match s with
  |⟨f,h,n⟩=>⟨(e, .iv (.v (.tuple #[])))::f,h,n⟩
 |none=>s
theorem Fits.skip{M:Mem}{N:Nm}{a:Act}{w:World}(hf:Fits M N s nt a w)(o:Oper):Fits M N (iq o s) nt (a.put o.dst undef) w:=by
 unfold iq;cases o.dst with
 |none=>exact hf
 |some e=>
  refine⟨hf.1,fun i=>?_,hf.2.2.1,by simp[Act.put,hf.2.2.2]⟩;simp only[AF.au];by_cases hi:i=e
  ·rw[am hi];subst hi;have:(a.put (some i) undef).tmps.getD i undef=undef:=by
    simp only[Act.put,WT,XG,if_true];split<;>rfl
   rw[this];exact .iv _ _ (.v _)
  ·rw[be hi];have:=hf.2.1 i;simp only[Act.put,WT,XG]at this ⊢;rw[be (fun e=>hi e.symm)];exact this
theorem jj(o:Oper)(s:AS):(iq o s).h=s.h∧(iq o s).nx=s.nx:=by unfold iq;cases o.dst<;>exact⟨rfl,rfl⟩
theorem lf(c:Operand)(t:Bool)(s:AS):(setBool s c t).h=s.h∧(setBool s c t).nx=s.nx:=by cases c<;>exact⟨rfl,rfl⟩
theorem AL.same{all rest:List Oper}{s':AS}(h:AL P nt all rest Q s')(e:s'.h=s.h∧s'.nx=s.nx){M:Mem}{N:Nm}{a:Act}{w:World}(hf:Fits M N s' nt a w):
  wpList P all.toArray (pb nt M N s w Q) rest a w:=by
 have:=h M N a w hf;refine je (fun e' a' w' ⟨M2,N2,s2,h1,h2,h3⟩=>⟨M2,N2,s2,?_,h2,h3⟩) rest a w this;rw[e.1,e.2]at h1;exact h1
theorem Fits.wV{M:Mem}{N:Nm}{a:Act}{w:World}(hf:Fits M N s nt a w){all:List Oper}{j d:Nat}{t:Bool}(hg:guardOf all s.f j=some (d, .kb t))(hd:d<nt):Go.yielded all.toArray a.tmps j=some t:=by
 unfold guardOf at hg;cases ho:all[j]? with
 |none=>simp[ho]at hg
 |some o=>
  cases hod:o.dst with
  |none=>simp[ho,hod]at hg
  |some d'=>
   simp only[ho,hod,WV,W9]at hg;obtain⟨rfl,hv⟩:=hg;have h1:=hf.2.1 d';rw[hv]at h1;have a0:d'<a.tmps.size:=by rw[hf.2.2.2];exact hd
   have h2:a.tmps[d']? =some (a.tmps.getD d' undef):=by simp[WT,a0]
   have h3:a.tmps.getD d' undef= .bool t:=by
    generalize a.tmps.getD d' undef=v at h1;cases h1;rfl
   have h4:all.toArray[j]? =some o:=by simpa using ho
   simp[Go.yielded,h4,hod,h2,h3]
theorem Fits.wU{M:Mem}{N:Nm}{a:Act}{w:World}(hf:Fits M N s nt a w){all:List Oper}{j d:Nat}{vs:Array Value}(hg:guardOf all s.f j=some (d, .iv (.v (.tuple vs)))):Go.yielded all.toArray a.tmps j=none:=by
 unfold guardOf at hg;cases ho:all[j]? with
 |none=>simp[ho]at hg
 |some o=>
  cases hod:o.dst with
  |none=>simp[ho,hod]at hg
  |some d'=>
   simp only[ho,hod,WV,W9]at hg;obtain⟨rfl,hv⟩:=hg;have h1:=hf.2.1 d';rw[hv]at h1;have h3:a.tmps.getD d' undef= .tuple vs:=by
    generalize a.tmps.getD d' undef=v at h1;cases h1 with
    |iv _ _ h=>cases h with
     |v=>rfl
   have h4:all.toArray[j]? =some o:=by simpa using ho
   rw[WT]at h3;cases h5:a.tmps[d']? with
   |none=>simp[Go.yielded,h4,hod,h5]
   |some v=>
    rw[h5]at h3;simp only[Yl]at h3;subst h3;simp[Go.yielded,h4,hod,h5]
theorem Dt{all rest:List Oper}{o:Oper}{j d:Nat}{a0:Bool}{vs:Array Value}(hg:o.guard=some (j,a0))(hy:guardOf all s.f j=some (d, .iv (.v (.tuple vs))))(h:GO P nt (.ops all rest::k) Q (iq o s)):GO P nt (.ops all (o::rest)::k) Q s:=by
 intro M N a w hf;have b0:=hf.wU hy;unfold wpList;have hw:Region.wanted o (Go.yielded all.toArray a.tmps)=false:=by simp[Region.wanted,hg,b0]
 rw[hw,be (by simp)];exact AL.same (s:=s) h (jj _ _) (hf.skip o)
theorem Du{all rest:List Oper}{o:Oper}{j d:Nat}{a0 t:Bool}(hg:o.guard=some (j,a0))(hy:guardOf all s.f j=some (d, .kb t))(hd:d<nt)
  (h:GO P nt (.ops all (bif t==a0 then{o with guard:=none}::rest else rest)::k) Q (bif t==a0 then s else iq o s)):GO P nt (.ops all (o::rest)::k) Q s:=by
 intro M N a w hf;have b0:=hf.wV hy hd;unfold wpList;by_cases ht:t=a0
 ·have hw:Region.wanted o (Go.yielded all.toArray a.tmps)=true:=by simp[Region.wanted,hg,b0,ht]
  have hb:(t==a0)=true:=by simp[ht]
  rw[am hw];rw[hb]at h;have:=h M N a w hf;simp only[cond_true]at this;unfold wpList at this;rw[am (jg Z _)]at this;exact this
 ·have hw:Region.wanted o (Go.yielded all.toArray a.tmps)=false:=by simp[Region.wanted,hg,b0,ht]
  have hb:(t==a0)=false:=by simp[ht]
  rw[hw,be (by simp)];rw[hb]at h;exact AL.same (s:=s) h (jj _ _) (hf.skip o)
theorem KV{all rest:List Oper}{o:Oper}{j d:Nat}{a0 t:Bool}(hg:o.guard=some (j,a0))(hy:guardOf all s.f j=some (d, .iv (.v (.bool t))))(hd:d<nt)
  (h1:t=a0->GO P nt (.ops all ({o with guard:=none}::rest)::k) Q (setBool s (.tmp d) a0)) (h2:t=!a0->GO P nt (.ops all rest::k) Q (iq o (setBool s (.tmp d) (!a0)))):
  GO P nt (.ops all (o::rest)::k) Q s:=by
 intro M N a w hf;have c0:=hf.yielded hy hd;have e0:ev s.f (.tmp d)= .iv (.v (.bool t)):=by
  unfold guardOf at hy;cases ho:all[j]? with
  |none=>simp[ho]at hy
  |some o'=>
   cases hod:o'.dst with
   |none=>simp[ho,hod]at hy
   |some d'=>
    simp only[ho,hod,WV,W9]at hy;obtain⟨rfl,hv⟩:=hy;exact hv
 have b0:=hf.setBool e0;unfold wpList;by_cases ht:t=a0
 ·have hw:Region.wanted o (Go.yielded all.toArray a.tmps)=true:=by simp[Region.wanted,hg,c0,ht]
  rw[am hw];rw[ht]at b0;have:=AL.same (s:=s) (h1 ht) (lf _ _ _) b0;unfold wpList at this;rw[am (jg Z _)]at this;exact this
 ·have hw:Region.wanted o (Go.yielded all.toArray a.tmps)=false:=by simp[Region.wanted,hg,c0,ht]
  have d0:t=!a0:=by cases t<;>cases a0<;>simp_all
  rw[hw,be (by simp)];rw[d0]at b0;exact AL.same (s:=s) (h2 d0) ⟨(jj _ _).1.trans (lf _ _ _).1,(jj _ _).2.trans (lf _ _ _).2⟩ (b0.skip o)
end
section
variable {P:Program} {nt:Nat} {Q:AQ} {k:List KI} {s:AS}
theorem Rel.drew{M:Mem}{N:Nm}{U:Nat->Prop}{h:AH}{w:World}(hr:Rel M N U h w):Rel M N U h {w with drawn:=w.drawn+1}:=
 ⟨hr.dF,hr.used,hr.eK,fun i o hi=>(hr.obj i o hi).mono (.refl _) (.refl _ _) (fun _ h=>h) (hr.used i o hi) Z,hr.inj⟩
theorem Fits.drew{M:Mem}{N:Nm}{a:Act}{w:World}(hf:Fits M N s nt a w):Fits M N s nt a {w with drawn:=w.drawn+1}:=⟨hf.1.drew,hf.2⟩
theorem Ext.drew{M:Mem}{N:Nm}{U:Nat->Prop}{h:AH}{w:World}:Ext M N U h w M N U h {w with drawn:=w.drawn+1}:=
 ⟨rfl,rfl,rfl,W0 _,fun _ _ _=>rfl, .refl _,fun b c h1 h2=>by simp[h1]at h2, .refl _ _,fun _ h=>h,fun i o hi a0=> .inr ⟨i,o,hi,a0,rfl⟩⟩
theorem SL.same{all rest:List Oper}{s':AS}(h:SL P nt all rest Q s')(e:s'.h=s.h∧s'.nx=s.nx){M:Mem}{N:Nm}{a:Act}{w:World}(hf:Fits M N s' nt a w):
  wpStill P all.toArray w (fun a'=> ∃s1,s1.h=s.h∧s1.nx=s.nx∧Fits M N s1 nt a' w∧Q .normal s1) rest a:=by
 have:=h M N a w hf;rw[e.1,e.2]at this;exact this
end
section
variable {P:Program} {M:Mem} {N:Nm} {w:World} {n:Nat} {h:AH}
def Nm.with(N:Nm)(n b e:Nat):Nm:={aI:=fun i=>if i=n then b else N.aI i,ext:=fun i=>if i=n then e else N.ext i}
theorem Nm.gl(N:Nm)(n b e:Nat):N.agree (N.with n b e) (· <n):=
 ⟨fun i hi=>by simp[Nm.with,ZY hi],fun i hi=>by simp[Nm.with,ZY hi]⟩
@[simp] theorem Nm.IX(N:Nm)(n b e:Nat):(N.with n b e).aI n=b:=by simp[Nm.with]
@[simp] theorem Nm.Tf(N:Nm)(n b e:Nat):(N.with n b e).ext n=e:=by simp[Nm.with]
theorem Rel.lt(hr:Rel M N (· <n) h w){i:Nat}{o:AO}(hi:h.get i=some o)(a0:o.real=true):N.aI i<w.heap.size:=(hr.obj i o hi).lt a0
theorem Rel.CX(hr:Rel M N (· <n) h w):M w.heap.size=none:=by
 cases hm:M w.heap.size with
 |none=>rfl
 |some c=>have:=(hr.dF _ _ hm).lt;omega
theorem Rel.alloc(hr:Rel M N (· <n) h w)(d0:Obj)(o:AO)(e:Nat)(ho: ∀N',N'.aI n=w.heap.size->N'.ext n=e->N.agree N' (· <n)->OR M N' (· <n+1) (w.alloc d0) n o):
  ∃N',N'.aI n=w.heap.size∧N'.ext n=e∧N.agree N' (· <n)∧Ext M N (· <n) h w M N' (· <n+1) ((n,some o)::h) (w.alloc d0)∧Rel M N' (· <n+1) ((n,some o)::h) (w.alloc d0):=by
 have ha:=N.gl n w.heap.size e;have a0: ∀i p,AH.get ((n,some o)::h) i=some p->(i=n∧p=o)∨(i<n∧h.get i=some p):=by
  intro i p hi;rw[AH.au]at hi;split at hi
  ·rename_i hin;exact .inl ⟨hin,by simpa using hi.symm⟩
  ·exact .inr ⟨hr.used i p hi,hi⟩
 refine⟨N.with n w.heap.size e,by simp,by simp,ha,?_,?_⟩
 ·refine⟨rfl,rfl,rfl,by simp,fun b hb _=>BQ w d0 b hb, .refl _,fun b c h1 h2=>by simp[h1]at h2,ha,fun i hi=>by omega,fun i p hi b0=>?_⟩;rcases a0 i p hi with⟨rfl,rfl⟩|⟨h1,h2⟩
  ·exact .inl (by simp)
  ·exact .inr ⟨i,p,h2,b0,(ha.aI i h1).symm⟩
 ·refine⟨fun b c hb=>?_,fun i p hi=>?_,fun i p hi b0=>?_,fun i p hi=>?_,fun i j p q hi hj hp hq c0=>?_⟩
  ·exact(hr.dF b c hb).mono (BQ w d0 b (hr.dF b c hb).lt)
  ·rcases a0 i p hi with⟨rfl,rfl⟩|⟨h1,h2⟩<;>omega
  ·rcases a0 i p hi with⟨rfl,rfl⟩|⟨h1,h2⟩
   ·simpa using hr.CX
   ·rw[ha.aI i h1];exact hr.eK i p h2 b0
  ·rcases a0 i p hi with⟨rfl,rfl⟩|⟨h1,h2⟩
   ·exact ho _ (by simp) (by simp) ha
   ·cases b0:p.real with
    |true=>exact(hr.obj i p h2).mono (.refl _) ha (fun i hi=>by omega) h1 (BQ w d0 _ (hr.lt h2 b0))
    |false=>
     cases p with
     |row sz es=>cases es with
      |nil=>exact .inl Z
      |cons=>cases b0
     |bG l T=>cases l with
      |nil=>exact .inl Z
      |cons=>cases b0
     |_=>cases b0
  ·rcases a0 i p hi with⟨rfl,rfl⟩|⟨h1,h2⟩<;>rcases a0 j q hj with⟨rfl,rfl⟩|⟨h3,h4⟩
   ·rfl
   ·rw[ha.aI j h3]at c0;simp at c0;have:=hr.lt h4 hq;omega
   ·rw[ha.aI i h1]at c0;simp at c0;have:=hr.lt h2 hp;omega
   ·rw[ha.aI i h1,ha.aI j h3]at c0;exact hr.inj i j p q h2 h4 hp hq c0
theorem Rel.Me(hr:Rel M N (· <n) h w)(sz:Nat):Ext M N (· <n) h w M N (· <n+1) ((n,some (.row sz []))::h) w∧Rel M N (· <n+1) ((n,some (.row sz []))::h) w:=by
 have a0: ∀i p,AH.get ((n,some (.row sz []))::h) i=some p->(i=n∧p= .row sz [])∨(i<n∧h.get i=some p):=by
  intro i p hi;rw[AH.au]at hi;split at hi
  ·rename_i hin;exact .inl ⟨hin,by simpa using hi.symm⟩
  ·exact .inr ⟨hr.used i p hi,hi⟩
 refine⟨⟨rfl,rfl,rfl,W0 _,fun _ _ _=>rfl, .refl _,fun b c h1 h2=>by simp[h1]at h2, .refl _ _,fun i hi=>by omega,fun i p hi b0=>?_⟩,⟨hr.dF,fun i p hi=>?_,fun i p hi b0=>?_,fun i p hi=>?_,fun i j p q hi hj hp hq c0=>?_⟩⟩
 ·rcases a0 i p hi with⟨rfl,rfl⟩|⟨h1,h2⟩
  ·cases b0
  ·exact .inr ⟨i,p,h2,b0,rfl⟩
 ·rcases a0 i p hi with⟨rfl,rfl⟩|⟨h1,h2⟩<;>omega
 ·rcases a0 i p hi with⟨rfl,rfl⟩|⟨h1,h2⟩
  ·cases b0
  ·exact hr.eK i p h2 b0
 ·rcases a0 i p hi with⟨rfl,rfl⟩|⟨h1,h2⟩
  ·exact .inl Z
  ·exact(hr.obj i p h2).mono (.refl _) (.refl _ _) (fun i hi=>by omega) h1 Z
 ·rcases a0 i p hi with⟨rfl,rfl⟩|⟨h1,h2⟩<;>rcases a0 j q hj with⟨rfl,rfl⟩|⟨h3,h4⟩
  ·rfl
  ·cases hp
  ·cases hq
  ·exact hr.inj i j p q h2 h4 hp hq c0
theorem Rel.write(hr:Rel M N (· <n) h w){i:Nat}{o0:AO}(hi:h.get i=some o0)(h0:o0.real=true)(w':World)(o:AO)(i0:w'.os=w.os)(c0:w'.tape=w.tape)(f0:w'.output=w.output)(j0:w'.heap.size=w.heap.size)
  (hk: ∀b,b≠N.aI i->w'.heap[b]? =w.heap[b]?) (ho:OR M N (· <n) w' i o):
  Ext M N (· <n) h w M N (· <n) ((i,some o)::h) w'∧Rel M N (· <n) ((i,some o)::h) w':=by
 have a0: ∀j p,AH.get ((i,some o)::h) j=some p->(j=i∧p=o)∨(j≠i∧h.get j=some p):=by
  intro j p hj;rw[AH.au]at hj;split at hj
  ·rename_i e0;exact .inl ⟨e0,by simpa using hj.symm⟩
  ·rename_i e0;exact .inr ⟨e0,hj⟩
 refine⟨⟨i0,c0,f0,by omega,fun b hb hn=>hk b (fun e=>hn i o0 hi h0 e.symm), .refl _,fun b c h1 h2=>by simp[h1]at h2, .refl _ _,fun _ h=>h,fun j p hj b0=>?_⟩,?_⟩
 ·rcases a0 j p hj with⟨rfl,rfl⟩|⟨h1,h2⟩
  ·exact .inr ⟨j,o0,hi,h0,rfl⟩
  ·exact .inr ⟨j,p,h2,b0,rfl⟩
 ·refine⟨fun b c hb=>?_,fun j p hj=>?_,fun j p hj b0=>?_,fun j p hj=>?_,fun j k p q hj g0 hp hq d0=>?_⟩
  ·have hne:b≠N.aI i:=fun e=>by
    have:=hr.eK i o0 hi h0;rw[<-e,hb]at this;simp at this
   exact(hr.dF b c hb).mono (hk b hne)
  ·rcases a0 j p hj with⟨rfl,rfl⟩|⟨h1,h2⟩
   ·exact hr.used j o0 hi
   ·exact hr.used j p h2
  ·rcases a0 j p hj with⟨rfl,rfl⟩|⟨h1,h2⟩
   ·exact hr.eK j o0 hi h0
   ·exact hr.eK j p h2 b0
  ·rcases a0 j p hj with⟨rfl,rfl⟩|⟨h1,h2⟩
   ·exact ho
   ·cases b0:p.real with
    |true=>exact(hr.obj j p h2).mono (.refl _) (.refl _ _) (fun _ h=>h) (hr.used j p h2) (hk _ (fun e=>h1 (hr.inj j i p o0 h2 hi b0 h0 e)))
    |false=>
     cases p with
     |row sz es=>cases es with
      |nil=>exact .inl Z
      |cons=>cases b0
     |bG l T=>cases l with
      |nil=>exact .inl Z
      |cons=>cases b0
     |_=>cases b0
  ·rcases a0 j p hj with⟨rfl,rfl⟩|⟨h1,h2⟩<;>rcases a0 k q g0 with⟨rfl,rfl⟩|⟨h3,h4⟩
   ·rfl
   ·exact hr.inj _ _ _ _ hi h4 h0 hq d0
   ·exact hr.inj _ _ _ _ h2 hi hp h0 d0
   ·exact hr.inj _ _ _ _ h2 h4 hp hq d0
end
def Ex(ty:Ty)(s:AS)(t:TypeId)(p x:PV):Option AS:=
 match ty t with
 |some e=>match x.cells with
  |some xs=>match Xn xs.length e.size,jb xs with
   |true,true=>match p with
    | .ptr i off=>match s.h.get i with
     |some (.cells cs T0)=>match YQ (off+xs.length) cs.length with
      |true=>match s with
       |⟨f,h,n⟩=>force (setCells cs off xs) fun a0=>some ⟨f,(i,some (.cells a0 T0))::h,n⟩
      |false=>none
     |_=>none
    |_=>none
   |_,_=>none
  |none=>none
 |none=>none
def newObj(s:AS)(o:AO):AS:=match s with|⟨f,h,n⟩=>⟨f,(n,some o)::h,n+1⟩
def nw(s:AS)(g:Nat->PV)(o:AO):Option (PV×AS):=match s with|⟨f,h,n⟩=>some (g n,⟨f,(n,some o)::h,n+1⟩)
theorem xu(s:AS)(g:Nat->PV)(o:AO):nw s g o=some (g s.nx,newObj s o):=by cases s;rfl
def A5:Nat->List PV->List PV
 |0,_=> []
 |n+1,l=>l++A5 n l
theorem mO: ∀(n:Nat) (l:List PV),(A5 n l).length=n*l.length
 |0,l=>by simp[A5]
 |n+1,l=>by simp[A5,mO n l,Y7,Nat.add_comm]
theorem Cx: ∀(n:Nat) (l:List PV) (j:Nat) (p:PV),(A5 n l)[j]? =some p->l[j % l.length]? =some p
 |0,l,j,p,h=>by simp[A5]at h
 |n+1,l,j,p,h=>by
  simp only[A5]at h;rcases X3 j l.length with hj|hj
  ·rw[Xf hj]at h;rw[Nat.mod_eq_of_lt hj];exact h
  ·rw[Xj hj]at h;have:=Cx n l _ p h;rwa[Nat.mod_eq_sub_mod hj]
def oR(sz:Nat):Nat->List PV->List (List PV)
 |0,_=> []
 |n+1,cs=>cs.take sz::oR sz n (cs.drop sz)
def BJ{α:Type _}(sz:Nat):Nat->List PV->(List (List PV)->α)->α
 |0,_,k=>k []
 |n+1,cs,k=>force (cs.take sz) fun c=>force (cs.drop sz) fun d=>BJ sz n d fun r=>k (c::r)
theorem Ai{α:Type _}(sz:Nat): ∀(n:Nat) (cs:List PV) (k:List (List PV)->α),BJ sz n cs k=k (oR sz n cs)
 |0,_,_=>rfl
 |n+1,cs,k=>by simp only[BJ,force_eq,Ai sz n,oR]
theorem rS(sz:Nat): ∀(n:Nat) (cs:List PV),(oR sz n cs).length=n
 |0,_=>rfl
 |n+1,cs=>by simp[oR,rS sz n]
theorem oQ(sz:Nat): ∀(n:Nat) (cs:List PV) (k:Nat) (e:List PV),cs.length=n*sz->(oR sz n cs)[k]? =some e->e.length=sz∧ ∀j,j<sz->e[j]? =cs[k*sz+j]?
 |0,cs,k,e,_,h=>by simp[oR]at h
 |n+1,cs,k,e,hl,h=>by
  simp only[oR]at h;rw[Y7]at hl;cases k with
  |zero=>
   simp at h;subst h;refine⟨by simp;omega,fun j hj=>by simp[hj]⟩
  |succ k=>
   obtain⟨h1,h2⟩:=oQ sz n (cs.drop sz) k e (by simp;omega) (by simpa using h);refine⟨h1,fun j hj=>?_⟩;rw[h2 j hj,Yc,Y7];congr 1;omega
def QH(ty:Ty)(e:cI):Bool:=
 match e.k with
 | .dE ((0,u)::_)=>match ty u with
  |some ⟨.dE ((0,q)::_),_,_,_,_⟩=>match ty q with
   |some ⟨.bb (.pointer v),_,_,_,_⟩=>Xn u v
   |_=>false
  |_=>false
 |_=>false
def TY(ty:Ty)(t:TypeId):Bool:=
 match ty t with
 |some e=>QH ty e
 |none=>false
def IP(ty:Ty)(s:AS):Op->Option (PV×AS)
 | .alloc t=>match ty t with
  |some e=>match QH ty e with
   |true=>force (cV e.zero) fun cs=>nw s (fun n=> .ptr n 0) (.cells cs (some t))
   |false=>force (cV e.zero) fun cs=>nw s (fun n=> .ptr n 0) (.cells cs)
  |none=>none
 | .box t x=>match(ev s.f x).cells with
  |some cs=>match jb cs with
   |true=>match TY ty t with
    |true=>force cs fun a0=>nw s (fun n=> .ptr n 0) (.cells a0 (some t))
    |false=>force cs fun a0=>nw s (fun n=> .ptr n 0) (.cells a0)
   |false=>none
  |none=>none
 | .store t a x=>match Ex ty s t (ev s.f a) (ev s.f x) with
  |some s'=>some (.any,s')
  |none=>none
 | .makeMap _ none=>nw s (fun n=> .mp n) .fY
 | .makeMap t (some r)=>match ev s.f r,ty t with
  | .iv (.v (.int _ _)),some ⟨.bb (.map _ _),_,_,_,_⟩=>nw s (fun n=> .mp n) .fY
  |_,_=>none
 | .range t x=>match ev s.f x,ty t with
  | .iv (.fw kc e _ _ m),some ⟨.bb (.map _ _),_,_,_,_⟩=>nw s (fun n=> .ptr n 0) (.bS kc e m [] none)
  |_,_=>none
 | .buildSlice t len parts=>match ty t with
  |some e=>match e.k with
   | .bb (.slice u)=>match ty u with
    |some eu=>match Xn eu.zero.cells.size eu.size,Xi 0 (len*eu.size),YQ (len*eu.size) 16777216 with
     |true,true,true=>match rQ (fun i=>some (i*eu.size,eu.size)) (A5 len (cV eu.zero)) (parts.toList.map fun x=>(x.1,ev s.f x.2)) with
      |some cs=>BJ eu.size len cs fun es=>nw s (fun n=> .sl n 0 len eu.size) (.row eu.size es)
      |none=>none
     |_,_,_=>none
    |none=>none
   |_=>none
  |none=>none
 |_=>none
section
variable {P:Program} {ty:Ty} {nt:Nat} {s:AS}
theorem eV{M:Mem}{N:Nm}{a:Act}{w:World}(hf:Fits M N s nt a w){a0:Obj}{o:AO}{N':Nm}(hx:Ext M N (· <s.nx) s.h w M N' (· <s.nx+1) ((s.nx,some o)::s.h) (w.alloc a0))
  (hr:Rel M N' (· <s.nx+1) ((s.nx,some o)::s.h) (w.alloc a0)):Fits M N' (newObj s o) nt a (w.alloc a0):=
 ⟨hr,hf.2.1.ext hx,hf.2.2⟩
theorem OT.value{o:Oper}{s1 s':AS}{p:PV}(hp:putDst nt o p s1=some s')
  (h: ∀M N a w,Fits M N s nt a w-> ∃x w' M' N',(execOp a.eval o).run P w= .ok (.value x) w'∧Ext M N (· <s.nx) s.h w M' N' (· <s1.nx) s1.h w'∧Fits M' N' s1 nt a w'∧VR M' N' (· <s1.nx) p x):OT P nt o s (fun t=>t=s'):=by
 intro M N a w hf K Z hk;obtain⟨x,w',M',N',hx,he,a0,hv⟩:=h M N a w hf;unfold Oper.wp;rw[hx];simp only[Oper.upon];cases hd:o.dst with
 |none=>
  have:=gv hp hd;subst this;exact hk M' N' s' _ w' he a0 rfl
 |some d=>
  obtain⟨h1,rfl⟩:=gu hp hd;exact hk M' N' {s1 with f:=(d,p)::s1.f} _ w' he (a0.put d p x h1 hv) rfl
theorem OT.skip{o:Oper}{s1 s':AS}(hp:putDst nt o .any s1=some s')
  (h: ∀M N a w,Fits M N s nt a w-> ∃w' M' N',(execOp a.eval o).run P w= .ok .skip w'∧Ext M N (· <s.nx) s.h w M' N' (· <s1.nx) s1.h w'∧Fits M' N' s1 nt a w'):OT P nt o s (fun t=>t=s'):=by
 intro M N a w hf K Z hk;obtain⟨w',M',N',hx,he,a0⟩:=h M N a w hf;unfold Oper.wp;rw[hx];simp only[Oper.upon];cases hd:o.dst with
 |none=>
  have:=gv hp hd;subst this;exact hk M' N' s' _ w' he a0 rfl
 |some d=>
  obtain⟨h1,rfl⟩:=gu hp hd;exact hk M' N' {s1 with f:=(d, .any)::s1.f} _ w' he (a0.put d .any undef h1 (.any _)) rfl
theorem Hs(p0:cz P ty){t:TypeId}{p x:PV}{s1:AS}(h:Ex ty s t p x=some s1){M:Mem}{N:Nm}{a:Act}{w:World}(hf:Fits M N s nt a w){u y:Value}(hu:VR M N (· <s.nx) p u)(hy:VR M N (· <s.nx) x y):
  ∃w',(Instr.storeAt t u y).run P w= .ok () w'∧Ext M N (· <s.nx) s.h w M N (· <s1.nx) s1.h w'∧Fits M N s1 nt a w':=by
 unfold Ex at h;split at h
 ·rename_i e he;split at h
  ·rename_i xs j0;split at h
   ·rename_i h1 h2;split at h
    ·rename_i i off;split at h
     ·rename_i cs T0 c0;split at h
      ·rename_i q0;obtain⟨sf,sh,sn⟩:=s;simp only[force_eq,WV]at h;subst h;simp only at c0;cases hu with
       |ptr _ _ hU=>
        obtain⟨hl,hv⟩:=qs hy j0;have m0:y.cells.size=e.size:=by rw[<-hl];exact Xh h1
        obtain⟨c,T,g1,g2,g3,g4,g5⟩:=hf.1.obj i _ c0;have o0:off+xs.length<=c.size:=by rw[<-g3];exact WR q0
        have d0: ∀v∈y.cells.toList,v.oneCell'=true:=by
         intro v k0;obtain⟨j,hj⟩:=XP k0;have g0:j<y.cells.toList.length:=(WX.1 hj).1;have i0:xs[j]? =some (xs[j]'(by simp at g0;omega)):=WY _;have:=(hv j _ i0).one (oi h2 j _ i0);rw[WT]at this;have n0:y.cells[j]? =some v:=by simpa using hj
         rw[n0]at this;exact this
        have b0:=run_storeCells_at P (N.aI i) off T y.cells.toList 0 c w g1 (by simp;omega) d0;refine⟨w.setRow (N.aI i) (c.toList.take (off+0)++y.cells.toList++c.toList.drop (off+0+y.cells.toList.length)).toArray,?_,?_⟩
        ·have a0:=ct (w:=w) (p0 t e he);simp only[Instr.storeAt,Instr.sureAddr,pure_bind,storeVar,Sem.run_bind,a0,Result.andThen_ok,m0,ne_eq,not_true_eq_false,if_false,b0]
        ·have e0:=setRow_heap w (N.aI i) c (c.toList.take (off+0)++y.cells.toList++c.toList.drop (off+0+y.cells.toList.length)).toArray T (0,0) g1;have f0: ∀b,b≠N.aI i->(w.setRow (N.aI i) (c.toList.take (off+0)++y.cells.toList++c.toList.drop (off+0+y.cells.toList.length)).toArray).heap[b]? =w.heap[b]? :=by
          intro b hb;simp only[World.setRow,XR];rw[be (fun e=>hb e.symm)]
         have:=hf.1.write c0 Z (w.setRow (N.aI i) (c.toList.take (off+0)++y.cells.toList++c.toList.drop (off+0+y.cells.toList.length)).toArray) (.cells (setCells cs off xs) T0) Z Z Z (by simp) f0
          ⟨_,T,e0,by simp;omega,by rw[fM];simp;omega,fun j q hq=>?_,g5⟩
         ·exact⟨this.1,this.2,hf.2.1,hf.2.2⟩
         ·rcases ld cs off xs j q hq with⟨k1,k2⟩|⟨k1,k2⟩
          ·have:=hv _ _ k2;have g0:j-off<xs.length:=(WX.1 k2).1;rw[WT]at this ⊢;have e1:(c.toList.take (off+0)++y.cells.toList++c.toList.drop (off+0+y.cells.toList.length)).toArray[j]? =y.cells[j-off]? :=by
            simp only[Yf];rw[Xf (by simp;omega),Xj (by simp;omega)];simp only[XH,Array.length_toList,X4];congr 1;omega
           rw[e1];exact this
          ·have:=g4 _ _ k2;rw[WT]at this ⊢;have e1:(c.toList.take (off+0)++y.cells.toList++c.toList.drop (off+0+y.cells.toList.length)).toArray[j]? =c[j]? :=by
            simp only[Yf];rcases k1 with k1|k1
            ·rw[Xa,Xf (by simp;omega),XY,am (by omega),X4]
            ·rw[Xj (by simp;omega),Yc,X4];congr 1;simp;omega
           rw[e1];exact this
      ·cases h
     ·cases h
    ·cases h
   ·cases h
  ·cases h
 ·cases h
theorem EW(a0:cz P ty){o:Oper}{p:PV}{s1 s':AS}(h:IP ty s o.op=some (p,s1))(hp:putDst nt o p s1=some s'):OT P nt o s (fun t=>t=s'):=by
 cases ho:o.op with
 |alloc t=>
  rw[ho]at h;simp only[IP,xu]at h;split at h
  ·rename_i e he;obtain⟨T0,j0,h⟩: ∃T0,B6 T0 t∧some (PV.ptr s.nx 0,newObj s (.cells (cV e.zero) T0))=some (p,s1):=by
    split at h
    ·exact⟨some t,fun x hx=>by cases hx;rfl,by rw[<-h,force_eq]⟩
    ·exact⟨none, .none _,by rw[<-h,force_eq]⟩
   simp only[WV,W9]at h;obtain⟨rfl,rfl⟩:=h;refine OT.value hp fun M N a w hf=>?_
   obtain⟨N',h1,h2,h3,h4,h5⟩:=hf.1.alloc (.cells e.zero.cells t) (.cells (cV e.zero) T0) e.zero.cells.size (fun N' g1 g2 g3=>
    ⟨e.zero.cells,t,by rw[g1];exact heap_alloc_new w _,g2.symm,(fS (M:=M) (N:=N') (U:=(· <s.nx+1)) e.zero).1,(fS e.zero).2,j0⟩)
   refine⟨.pointer (some ⟨w.heap.size,0,none⟩),_,M,N',?_,h4,eV hf h4 h5,?_⟩
   ·simp only[execOp,ho];have hz:=dZ (w:=w) (a0 t e he);simp[Instr.alloc,hz,newVar,newRow]
   ·have:=VR.ptr (M:=M) (N:=N') (U:=(· <s.nx+1)) s.nx 0 (by omega);rw[h1]at this;exact this
  ·cases h
 |box t x=>
  rw[ho]at h;simp only[IP,xu]at h;split at h
  ·rename_i cs f0;split at h
   ·rename_i v0;obtain⟨T0,j0,h⟩: ∃T0,B6 T0 t∧some (PV.ptr s.nx 0,newObj s (.cells cs T0))=some (p,s1):=by
     split at h
     ·exact⟨some t,fun x hx=>by cases hx;rfl,by rw[<-h,force_eq]⟩
     ·exact⟨none, .none _,by rw[<-h,force_eq]⟩
    simp only[WV,W9]at h;obtain⟨rfl,rfl⟩:=h;refine OT.value hp fun M N a w hf=>?_;obtain⟨hl,hv⟩:=qs (bf hf.2.1 x) f0
    obtain⟨N',h1,h2,h3,h4,h5⟩:=hf.1.alloc (.cells (a.eval x).cells t) (.cells cs T0) (a.eval x).cells.size (fun N' g1 g2 g3=>
     ⟨(a.eval x).cells,t,by rw[g1];exact heap_alloc_new w _,g2.symm,hl,fun j q hq=>(hv j q hq).mono (.refl _) g3 (fun i hi=>by omega),j0⟩)
    refine⟨.pointer (some ⟨w.heap.size,0,none⟩),_,M,N',?_,h4,eV hf h4 h5,?_⟩
    ·simp only[execOp,ho];simp[Instr.box,newVar,newRow]
    ·have:=VR.ptr (M:=M) (N:=N') (U:=(· <s.nx+1)) s.nx 0 (by omega);rw[h1]at this;exact this
   ·cases h
  ·cases h
 |store t a x=>
  rw[ho]at h;simp only[IP,xu]at h;split at h
  ·rename_i s2 hs;simp only[WV,W9]at h;obtain⟨rfl,rfl⟩:=h;refine OT.skip hp fun M N b w hf=>?_;obtain⟨w',h1,h2,h3⟩:=Hs (P:=P) a0 hs hf (bf hf.2.1 a) (bf hf.2.1 x);refine⟨w',M,N,?_,h2,h3⟩;simp only[execOp,ho];simp[h1]
  ·cases h
 |makeMap t r=>
  rw[ho]at h;cases r with
  |some r=>
   simp only[IP,xu]at h;split at h
   ·rename_i q n _ _ _ _ _ _ hr he;have hu:=(a0 _ _ he).2.1.1;simp only[WV,W9]at h;obtain⟨rfl,rfl⟩:=h;refine OT.value hp fun M N a w hf=>?_
    obtain⟨N',h1,h2,h3,h4,h5⟩:=hf.1.alloc (.map #[] 0) .fY 0 (fun N' g1 g2 g3=>
     (by rw[g1];exact heap_alloc_new w _:(w.alloc (.map #[] 0)).heap[N'.aI s.nx]? =_))
    have i0:=bf hf.2.1 r;rw[hr]at i0;have w0:a.eval r= .int q n:=by
     generalize a.eval r=y at i0;cases i0 with
     |iv _ _ h=>cases h;rfl
    refine⟨.map (some w.heap.size),_,M,N',?_,h4,eV hf h4 h5,?_⟩
    ·simp only[execOp,ho];simp[Instr.makeMap,w0,run_underlying hu,asInt,asIntOf]
    ·have:=VR.mp (M:=M) (N:=N') (U:=(· <s.nx+1)) s.nx (by omega);rw[h1]at this;exact this
   ·cases h
  |none=>
   simp only[IP,xu,WV,W9]at h;obtain⟨rfl,rfl⟩:=h;refine OT.value hp fun M N a w hf=>?_
   obtain⟨N',h1,h2,h3,h4,h5⟩:=hf.1.alloc (.map #[] 0) .fY 0 (fun N' g1 g2 g3=>
    (by rw[g1];exact heap_alloc_new w _:(w.alloc (.map #[] 0)).heap[N'.aI s.nx]? =_))
   refine⟨.map (some w.heap.size),_,M,N',?_,h4,eV hf h4 h5,?_⟩
   ·simp only[execOp,ho];simp[Instr.makeMap]
   ·have:=VR.mp (M:=M) (N:=N') (U:=(· <s.nx+1)) s.nx (by omega);rw[h1]at this;exact this
 |range t x=>
  rw[ho]at h;simp only[IP,xu]at h;split at h
  ·rename_i V kc e z zv m kt et _ _ _ _ x0 he;have hu:=(a0 _ _ he).2.1.1;simp only[WV,W9]at h;obtain⟨rfl,rfl⟩:=h;refine OT.value hp fun M N a w hf=>?_;have hx:=bf hf.2.1 x;rw[x0]at hx;generalize hv:a.eval x=y at hx
   cases hx with
   |iv _ _ hi=>cases hi with
    |fw _ _ _ _ _ b ents clock hb hs hk hv' hz hi' hc=>
     obtain⟨N',h1,h2,h3,h4,h5⟩:=hf.1.alloc (.mapIter (some b) clock #[] clock) (.bS kc e m [] none) 0 (fun N' g1 g2 g3=>
      .inr ⟨b,ents,clock, #[],by rw[g1];exact heap_alloc_new w _,hb,⟨hs,hk,hv',hi',hc⟩,rfl,by simp,XT,by simp⟩)
     have c0:w.heap[b]? =some (.map ents clock):=hf.1.dF _ _ hb;refine⟨.pointer (some ⟨w.heap.size,0,none⟩),_,M,N',?_,h4,eV hf h4 h5,?_⟩
     ·simp only[execOp,ho,hv];simp[Instr.range,run_underlying hu,getObj,Sem.run,c0,Result.andThen]
     ·have:=VR.ptr (M:=M) (N:=N') (U:=(· <s.nx+1)) s.nx 0 (by omega);rw[h1]at this;exact this
  ·cases h
 |buildSlice t len parts=>
  rw[ho]at h;simp only[IP,xu]at h;split at h
  ·rename_i e he;split at h
   ·rename_i u hk;split at h
    ·rename_i eu p0;split at h
     ·rename_i b1 a1 e1;split at h
      ·rename_i cs f0;rw[Ai]at h;simp only[WV,W9]at h;obtain⟨rfl,rfl⟩:=h;have m0:eu.zero.cells.size=eu.size:=Xh b1;have o0:0<len*eu.size:=WR a1;have f1:len*eu.size<=16777216:=WR e1;have k0:0<eu.size:=Nat.pos_of_ne_zero fun e=>by simp[e]at o0
       have r0:0<len:=Nat.pos_of_ne_zero fun e=>by simp[e]at o0
       have i1:len<=len*eu.size:=Nat.le_mul_of_pos_right _ k0;have b0:=(a0 t e he).2.1;rw[hk]at b0;refine OT.value hp fun M N a w hf=>?_;have d0:(cV eu.zero).length=eu.size:=by rw[(fS (M:=M) (N:=N) (U:=(· <s.nx)) eu.zero).1,m0]
       obtain⟨e0,h3,h4⟩:=ud (M:=M) (N:=N) (U:=(· <s.nx)) (vals:=(parts.map fun x=>(x.1,a.eval x.2)).toList) (ys:=(aaa (len*eu.size)).map (eu.zero.cells[· % eu.zero.cells.size]!)) f0 (by simp) (fun j x y hx hy=>by
        rw[W1,W6]at hx;obtain⟨z,hz,rfl⟩:=hx;have d1:parts[j]? =some z:=by simpa using hz
        have:some (z.1,a.eval z.2)=some y:=by rw[<-hy];simp[d1]
        simp only[WV]at this;subst this
        exact⟨rfl,bf hf.2.1 z.2⟩) (by
        refine⟨by rw[mO,d0];simp,fun j p hj=>?_⟩;have h5:=Cx _ _ _ _ hj;have s0:j<len*eu.size:=by
         have:=(WX.1 hj).1;rwa[mO,d0]at this
        rw[d0]at h5;have h6:=(fS (M:=M) (N:=N) (U:=(· <s.nx)) eu.zero).2 _ _ h5;have h7:((aaa (len*eu.size)).map (eu.zero.cells[· % eu.zero.cells.size]!)).getD j undef=eu.zero.cells.getD (j % eu.size) undef:=by
         have hm:j % eu.size<eu.zero.cells.size:=by rw[m0];exact Nat.mod_lt _ k0
         have hx:(aaa (len*eu.size))[j]? =some j:=by simp[s0]
         rw[WT,Zk,hx];simp only[XW,Yl,m0];rw[WT,getElem!_pos eu.zero.cells (j % eu.size) hm,XS hm];rfl
        rw[h7];exact h6)
       have g0:cs.length=len*eu.size:=by
        have:(A5 len (cV eu.zero)).length=cs.length:=by
         have:=ue f0;exact this.symm
        rw[<-this,mO,d0]
       have n0:e0.size=len*eu.size:=by rw[<-h4.1,g0]
       obtain⟨N',h1,h2,h8,h9,z0⟩:=hf.1.alloc (.cells e0 u) (.row eu.size (oR eu.size len cs)) e0.size (fun N' g1 g2 g3=>
        .inr ⟨k0,e0,u,by rw[g1];exact heap_alloc_new w _,g2.symm,by rw[rS,n0];exact W0 _,fun k e hk=>(oQ _ _ _ _ _ g0 hk).1,fun k e j p hk hj=>by
         have y0:j<eu.size:=by rw[<-(oQ _ _ _ _ _ g0 hk).1];exact(WX.1 hj).1
         have:=(oQ _ _ _ _ _ g0 hk).2 j y0;rw[hj]at this
         exact(h4.2 _ _ this.symm).mono (.refl _) g3 (fun i hi=>by omega)⟩)
       refine⟨.slice (some ⟨w.heap.size,0,none⟩) len len,_,M,N',?_,h9,eV hf h9 z0,?_⟩
       ·simp only[execOp,ho];have hz:=dZ (w:=w) (a0 u eu p0);have t0:=ct (w:=w) (a0 u eu p0);have hne: ¬len*eu.size=0:=by omega
        have q0: ¬len*eu.size>2 ^ 24:=by omega
        simp only[Instr.buildSlice,Sem.run_bind,run_underlying b0.1,Result.andThen_ok,t0,be q0,be hne,hz,Sem.run_pure];rw[h3];simp[newRow]
       ·have:=VR.sl (M:=M) (N:=N') (U:=(· <s.nx+1)) s.nx 0 len eu.size len (by omega) r0 (W0 _) (by simp only[maxLen];omega) (by rw[h2,n0];simp);rw[h1,Za]at this;exact this
      ·cases h
     ·cases h
    ·cases h
   ·cases h
  ·cases h
 |_=>rw[ho]at h;simp[IP]at h
end
mutual
def PV.c7(σ:Nat->Nat):PV->PV
 | .iv x=> .iv x
 | .agg cs=> .agg (dS σ cs)
 | .bT cs=> .bT (dS σ cs)
 | .ptr i off=> .ptr (σ i) off
 | .dC i sz k off=> .dC (σ i) sz k off
 | .fv z i=> .fv z (σ i)
 | .sl i off len sz=> .sl (σ i) off len sz
 | .mp i=> .mp (σ i)
 | .dr fn first caps=> .dr fn (dS σ first) (dS σ caps)
 | .kb b=> .kb b
 | .any=> .any
def dS(σ:Nat->Nat):List PV->List PV
 | []=> []
 |p::r=>PV.c7 σ p::dS σ r
end
theorem cB(σ:Nat->Nat): ∀l:List PV,dS σ l=l.map (PV.c7 σ)
 | []=>rfl
 |p::r=>by simp[dS,cB σ r]
def AO.c7(σ:Nat->Nat):AO->AO
 | .cells cs T=> .cells (dS σ cs) T
 | .row sz es=> .row sz (es.map (dS σ))
 | .bG l T=> .bG l T
 | .fY=> .fY
 | .map kc ev z zv dv m=> .map kc ev z zv dv m
 | .bS kc ev m l cu=> .bS kc ev m l cu
 | .eJ s p=> .eJ s p
theorem AO.cM(σ:Nat->Nat)(o:AO):(o.c7 σ).real=o.real:=by
 cases o with
 |row sz es=>cases es<;>rfl
 |bG l T=>cases l<;>rfl
 |_=>rfl
def sv(σ:Nat->Nat):AH->AH
 | []=> []
 |(i,none)::r=>(σ i,none)::sv σ r
 |(i,some o)::r=>(σ i,some (o.c7 σ))::sv σ r
def Nm.comp(N:Nm)(σ:Nat->Nat):Nm:={aI:=fun i=>N.aI (σ i),ext:=fun i=>N.ext (σ i)}
section
variable {M:Mem} {N:Nm} {U:Nat->Prop} {σ:Nat->Nat}
theorem VR.c7{p:PV}{x:Value}(h:VR M (N.comp σ) (fun i=>U (σ i)) p x):VR M N U (p.c7 σ) x:=by
 induction h with
 |iv x y h=>exact .iv x y h
 |agg cs ys hl hr ih=>
  refine .agg _ _ (by simpa[cB]using hl) (fun j p hp=>?_);rw[cB,W1,W6]at hp;obtain⟨q,hq,rfl⟩:=hp;exact ih j q hq
 |bT cs ys hl hr ih=>
  refine .bT _ _ (by simpa[cB]using hl) (fun j p hp=>?_);rw[cB,W1,W6]at hp;obtain⟨q,hq,rfl⟩:=hp;exact ih j q hq
 |ptr i off h=>exact .ptr _ _ h
 |dC i sz k off h=>exact .dC _ _ _ _ h
 |fv z i h=>exact .fv _ _ h
 |sl i off len sz cap h h0 hl hc he=>exact .sl _ _ _ _ _ h h0 hl hc he
 |ph i sz h=>exact .ph _ _ h
 |sle i sz cap h hc he=>exact .sle _ _ _ h hc he
 |mp i h=>exact .mp _ h
 |dr fn first caps f' c' h1 h2 hr1 hr2 ih1 ih2=>
  refine .dr _ _ _ _ _ (by simpa[cB]using h1) (by simpa[cB]using h2) (fun j p hp=>?_) (fun j p hp=>?_)
  ·rw[cB,W1,W6]at hp;obtain⟨q,hq,rfl⟩:=hp;exact ih1 j q hq
  ·rw[cB,W1,W6]at hp;obtain⟨q,hq,rfl⟩:=hp;exact ih2 j q hq
 |kb b=>exact .kb b
 |any x=>exact .any x
theorem VR.w6: ∀{q:PV} {x:Value},VR M N U q x-> ∀{p:PV},q=p.c7 σ->VR M (N.comp σ) (fun i=>U (σ i)) p x:=by
 intro q x h
 induction h with
 |iv x y h=>intro p hp;cases p<;>simp[PV.c7]at hp;subst hp;exact .iv _ _ h
 |agg cs ys hl hr ih=>
  intro p hp;cases p<;>simp[PV.c7]at hp;subst hp;refine .agg _ _ (by simpa[cB]using hl) (fun j p hj=>ih j (p.c7 σ) (by rw[cB,W1,hj];rfl) Z)
 |bT cs ys hl hr ih=>
  intro p hp;cases p<;>simp[PV.c7]at hp;subst hp;refine .bT _ _ (by simpa[cB]using hl) (fun j p hj=>ih j (p.c7 σ) (by rw[cB,W1,hj];rfl) Z)
 |ptr i off h=>intro p hp;cases p<;>simp[PV.c7]at hp;obtain⟨rfl,rfl⟩:=hp;exact VR.ptr (N:=N.comp σ) (U:=fun i=>U (σ i)) _ _ h
 |dC i sz k off h=>intro p hp;cases p<;>simp[PV.c7]at hp;obtain⟨rfl,rfl,rfl,rfl⟩:=hp;exact VR.dC (N:=N.comp σ) (U:=fun i=>U (σ i)) _ _ _ _ h
 |fv z i h=>intro p hp;cases p<;>simp[PV.c7]at hp;obtain⟨rfl,rfl⟩:=hp;exact VR.fv (N:=N.comp σ) (U:=fun i=>U (σ i)) _ _ h
 |sl i off len sz cap h h0 hl hc he=>intro p hp;cases p<;>simp[PV.c7]at hp;obtain⟨rfl,rfl,rfl,rfl⟩:=hp;exact VR.sl (N:=N.comp σ) (U:=fun i=>U (σ i)) _ _ _ _ _ h h0 hl hc he
 |ph i sz h=>intro p hp;cases p<;>simp[PV.c7]at hp;obtain⟨rfl,rfl,rfl,rfl⟩:=hp;exact VR.ph (N:=N.comp σ) (U:=fun i=>U (σ i)) _ _ h
 |sle i sz cap h hc he=>intro p hp;cases p<;>simp[PV.c7]at hp;obtain⟨rfl,rfl,rfl,rfl⟩:=hp;exact VR.sle (N:=N.comp σ) (U:=fun i=>U (σ i)) _ _ _ h hc he
 |mp i h=>intro p hp;cases p<;>simp[PV.c7]at hp;subst hp;exact VR.mp (N:=N.comp σ) (U:=fun i=>U (σ i)) _ h
 |dr fn first caps f' c' h1 h2 hr1 hr2 ih1 ih2=>
  intro p hp;cases p<;>simp[PV.c7]at hp;obtain⟨rfl,rfl,rfl⟩:=hp;refine .dr _ _ _ _ _ (by simpa[cB]using h1) (by simpa[cB]using h2) (fun j p hj=>ih1 j (p.c7 σ) (by rw[cB,W1,hj];rfl) Z) (fun j p hj=>ih2 j (p.c7 σ) (by rw[cB,W1,hj];rfl) Z)
 |kb b=>intro p hp;cases p<;>simp[PV.c7]at hp;subst hp;exact .kb _
 |any x=>intro p hp;cases p<;>simp[PV.c7]at hp;exact .any _
theorem OR.c7{w:World}{i:Nat}{o:AO}(h:OR M (N.comp σ) (fun i=>U (σ i)) w i o):OR M N U w (σ i) (o.c7 σ):=by
 cases o with
 |cells cs T0=>
  obtain⟨c,T,h1,h2,h3,h4,h5⟩:=h;refine⟨c,T,h1,h2,by simpa[cB]using h3,fun j p hp=>?_,h5⟩;rw[cB,W1,W6]at hp;obtain⟨q,hq,rfl⟩:=hp;exact(h4 j q hq).c7
 |row sz es=>
  rcases h with rfl|⟨h0,c,T,h1,h2,h3,h4,h5⟩
  ·exact .inl Z
  refine .inr ⟨h0,c,T,h1,h2,by simpa using h3,fun k e he=>?_,fun k e j p he hp=>?_⟩
  ·rw[W1,W6]at he;obtain⟨e0,a0,rfl⟩:=he;rw[cB,Xr];exact h4 k e0 a0
  ·rw[W1,W6]at he;obtain⟨e0,a0,rfl⟩:=he;rw[cB,W1,W6]at hp;obtain⟨q,hq,rfl⟩:=hp;exact(h5 k e0 j q a0 hq).c7
 |bG l T=>exact h
 |fY=>exact h
 |map kc ev z zv dv m=>exact h
 |bS kc ev m l cu=>exact h
 |eJ s p=>exact h
theorem OR.w6{w:World}{i:Nat}{o:AO}(h:OR M N U w (σ i) (o.c7 σ)):OR M (N.comp σ) (fun i=>U (σ i)) w i o:=by
 cases o with
 |cells cs T0=>
  obtain⟨c,T,h1,h2,h3,h4,h5⟩:=h;exact⟨c,T,h1,h2,by simpa[cB]using h3,fun j p hp=>(h4 j (p.c7 σ) (by rw[cB,W1,hp];rfl)).w6 Z,h5⟩
 |row sz es=>
  rcases h with h|⟨h0,c,T,h1,h2,h3,h4,h5⟩
  ·exact .inl (by simpa using h)
  refine .inr ⟨h0,c,T,h1,h2,by simpa using h3,fun k e he=>?_,fun k e j p he hp=>?_⟩
  ·have:=h4 k (dS σ e) (by rw[W1,he];rfl);simpa[cB]using this
  ·exact(h5 k (dS σ e) j (p.c7 σ) (by rw[W1,he];rfl) (by rw[cB,W1,hp];rfl)).w6 Z
 |bG l T=>exact h
 |fY=>exact h
 |map kc ev z zv dv m=>exact h
 |bS kc ev m l cu=>exact h
 |eJ s p=>exact h
end
def sig(L:List Nat)(n:Nat)(i:Nat):Nat:=bif Xi i L.length then L.getD i 0 else n+(i-L.length)
theorem kL{L:List Nat}{n i:Nat}(h:i<L.length):sig L n i=L[i]:=by
 have:Xi i L.length=true:=XB h;simp[sig,this,h]
theorem sd{L:List Nat}{n i:Nat}(h:L.length<=i):sig L n i=n+(i-L.length):=by
 have:Xi i L.length=false:=by
  cases hb:Xi i L.length with
  |false=>rfl
  |true=>have:=WR hb;omega
 simp[sig,this]
theorem xo{σ:Nat->Nat}: ∀(h:AH) (j:Nat) (o:AO),(sv σ h).get j=some o->(∀i k,i∈h.map Xl->σ i=σ k->i=k)-> ∃i p,j=σ i∧h.get i=some p∧o=p.c7 σ
 | [],j,o,hj,_=>by simp[sv,AH.get]at hj
 |(i,none)::r,j,o,hj,hi=>by
  simp only[sv]at hj;rw[AH.au]at hj;split at hj
  ·cases hj
  ·rename_i hne;obtain⟨k,p,h1,h2,h3⟩:=xo r j o hj (fun a b ha=>hi a b (W8 _ ha));refine⟨k,p,h1,?_,h3⟩;rw[AH.au,be (fun e=>hne (by rw[h1,e]))];exact h2
 |(i,some q)::r,j,o,hj,hi=>by
  simp only[sv]at hj;rw[AH.au]at hj;split at hj
  ·rename_i he;exact⟨i,q,he,by rw[AH.au,am Z],by simpa using hj.symm⟩
  ·rename_i hne;obtain⟨k,p,h1,h2,h3⟩:=xo r j o hj (fun a b ha=>hi a b (W8 _ ha));refine⟨k,p,h1,?_,h3⟩;rw[AH.au,be (fun e=>hne (by rw[h1,e]))];exact h2
def fk:Nat->List AO->AH
 |_,[]=> []
 |n,o::r=>(n,some o)::fk (n+1) r
theorem uZ: ∀(os:List AO) (n i:Nat),(fk n os).get i=if n<=i then os[i-n]? else none
 | [],n,i=>by simp[fk,AH.get]
 |o::r,n,i=>by
  simp only[fk];rw[AH.au,uZ r (n+1) i];by_cases h:i=n
  ·subst h;simp
  ·by_cases h2:n<=i
   ·rw[be h,am (by omega),am h2,show i-n=(i-(n+1))+1 by omega];simp
   ·rw[be h,be (by omega),be h2]
def ot(P:Program)(k:FuncId):Prop:= ∀(args:Array Value) (w:World),(callFunc k args).run P w= .ok (.enter k args) w
theorem bI {P:Program} {k:FuncId} {fn:Func} {c:Code} (hf:P.funcs[k]? =some fn) (hb:fn.body=some c) (hn:(fn.name== "runtime.NumGoroutine")=false):ot P k:=by
 intro args w;have a0: ¬fn.name= "runtime.NumGoroutine" :=by simpa using hn
 simp[callFunc,program,Sem.run,hf,hb,a0]
def Fn(P:Program)(k:FuncId)(args:List PV)(os:List AO)(R:PV->AH->Nat->Prop):Prop:=
 ot P k∧ ∀M N w (vs:List Value),Rel M N (· <os.length) (fk 0 os) w->args.length=vs.length->(∀(j:Nat) (p:PV),args[j]? =some p->VR M N (· <os.length) p (vs.getD j undef))->
  Calls P k vs.toArray w fun e w'=> ∃x M' N' r h' n',e= .returned x∧R r h' n'∧Ext M N (· <os.length) (fk 0 os) w M' N' (· <n') h' w'∧Rel M' N' (· <n') h' w'∧VR M' N' (· <n') r x
def DI:List Nat->AH
 | []=> []
 |j::r=>(j,none)::DI r
def AH.keys:AH->List Nat
 | []=> []
 |(i,_)::r=>i::AH.keys r
theorem AH.get_append: ∀(a b:AH) (j:Nat),AH.get (a++b) j=if j∈a.keys then a.get j else b.get j
 | [],b,j=>by simp[AH.keys]
 |(i,o)::r,b,j=>by
  rw[Ym,AH.au,AH.au,AH.get_append r b j];by_cases h:j=i
  ·simp[h,AH.keys]
  ·simp[h,AH.keys]
theorem Ah: ∀L:List Nat,(DI L).keys=L
 | []=>rfl
 |j::r=>by simp[DI,AH.keys,Ah r]
theorem DH: ∀(L:List Nat) (j:Nat),(DI L).get j=none
 | [],_=>rfl
 |i::r,j=>by rw[DI,AH.au,DH r j];split<;>rfl
theorem FW{L:List Nat}{n:Nat}(hnd:L.Nodup)(hL: ∀j∈L,j<n): ∀i k,sig L n i=sig L n k->i=k:=by
 intro i k h;rcases X3 i L.length with hi|hi<;>rcases X3 k L.length with hk|hk
 ·rw[kL hi,kL hk]at h;have hp:=Zu.1 hnd;rcases Nat.lt_trichotomy i k with hlt|he|hgt
  ·exact absurd h (hp i k hi hk hlt)
  ·exact he
  ·exact absurd h.symm (hp k i hk hi hgt)
 ·rw[kL hi,sd hk]at h;have:=hL _ (XD hi);omega
 ·rw[sd hi,kL hk]at h;have:=hL _ (XD hk);omega
 ·rw[sd hi,sd hk]at h;omega
section
variable {P:Program} {nt:Nat} {s:AS}
def aM(s:AS)(L:List Nat)(h':AH)(n':Nat):AS:={f:=s.f,h:=sv (sig L s.nx) h'++(DI L++s.h),nx:=s.nx+(n'-L.length)}
theorem Fn.calls{k:FuncId}{args:List PV}{os:List AO}{R:PV->AH->Nat->Prop}(hc:Fn P k args os R){L:List Nat}(hnd:L.Nodup)(hL: ∀j∈L,j<s.nx)
  (n0:L.map s.h.get=os.map fun o=>some (o.c7 (sig L s.nx))) {M:Mem} {N:Nm} {w:World} (hr:Rel M N (· <s.nx) s.h w) {vs:List Value} (hl:args.length=vs.length)
  (hv: ∀(j:Nat) (p:PV),args[j]? =some p->VR M N (· <s.nx) (p.c7 (sig L s.nx)) (vs.getD j undef)):
  Calls P k vs.toArray w fun e w'=> ∃x M' N' r h' n',e= .returned x∧R r h' n'∧Ext M N (· <s.nx) s.h w M' N' (· <(aM s L h' n').nx) (aM s L h' n').h w'∧
   Rel M' N' (· <(aM s L h' n').nx) (aM s L h' n').h w'∧VR M' N' (· <(aM s L h' n').nx) (r.c7 (sig L s.nx)) x:=by
 have g0:L.length=os.length:=by simpa using congrArg Zn n0
 have hU:(fun i=>sig L s.nx i<s.nx)=(· <os.length):=by
  funext i
  apply propext;rcases X3 i L.length with hi|hi
  ·rw[kL hi];exact⟨fun _=>by omega,fun _=>hL _ (XD hi)⟩
  ·rw[sd hi];omega
 have i0: ∀i (hi:i<L.length),s.h.get L[i]=(os[i]?).map (AO.c7 (sig L s.nx)):=by
  intro i hi;have:=congrArg (fun l=>l[i]?) n0;simp only[W1,WY hi,XW]at this;have ho:os[i]? =some (os[i]'(by omega)):=WY (by omega);rw[ho]at this ⊢;simpa using this
 have hin: ∀i o,(fk 0 os).get i=some o->i<L.length∧s.h.get (sig L s.nx i)=some (o.c7 (sig L s.nx)):=by
  intro i o hi;rw[uZ,am (W3 _),ZZ]at hi;have hlt:i<L.length:=by rw[g0];exact(WX.1 hi).1
  refine⟨hlt,?_⟩;rw[kL hlt,i0 i hlt,hi];rfl
 have m0:Rel M (N.comp (sig L s.nx)) (· <os.length) (fk 0 os) w:=by
  refine⟨hr.dF,fun i o hi=>by rw[<-g0];exact(hin i o hi).1,fun i o hi a0=>hr.eK _ _ (hin i o hi).2 ((AO.cM _ o).trans a0),fun i o hi=>?_,fun i j o p hi hj ho hp c0=>?_⟩
  ·have:=OR.w6 (hr.obj _ _ (hin i o hi).2);rw[hU]at this;exact this
  ·exact FW hnd hL i j (hr.inj _ _ _ _ (hin i o hi).2 (hin j p hj).2 ((AO.cM _ o).trans ho) ((AO.cM _ p).trans hp) c0)
 refine(hc.2 M (N.comp (sig L s.nx)) w vs m0 hl (fun j p hp=>by have:=(hv j p hp).w6 Z;rw[hU]at this;exact this)).mono ?_;rintro e w' ⟨x,M',N',r,h',n',rfl,hR,hx,hr',hvr⟩;have p0:os.length<=n':=YY fun hlt=>by have:=hx.ule n' hlt;omega
 let N2:Nm:={aI:=fun j=>if j<s.nx then N.aI j else N'.aI (L.length+(j-s.nx)),ext:=fun j=>if j<s.nx then N.ext j else N'.ext (L.length+(j-s.nx))}
 have e0:N.agree N2 (· <s.nx):=⟨fun i hi=>by simp[N2,hi],fun i hi=>by simp[N2,hi]⟩
 have f0: ∀i,N2.aI (sig L s.nx i)=N'.aI i∧N2.ext (sig L s.nx i)=N'.ext i:=by
  intro i;rcases X3 i L.length with hi|hi
  ·have h1:sig L s.nx i<s.nx:=by rw[kL hi];exact hL _ (XD hi)
   have h2:=hx.nm.aI i (by omega);have h3:=hx.nm.ext i (by omega);simp only[Nm.comp]at h2 h3;simp[N2,h1,h2,h3]
  ·rw[sd hi];have h1: ¬s.nx+(i-L.length)<s.nx:=by omega
   have h2:L.length+(s.nx+(i-L.length)-s.nx)=i:=by omega
   constructor<;>simp only[N2,be h1,h2]
 have d0:N'.agree (N2.comp (sig L s.nx)) (· <n'):=⟨fun i _=>(f0 i).1,fun i _=>(f0 i).2⟩
 have j0: ∀i,i<n'->sig L s.nx i<s.nx+(n'-L.length):=by
  intro i hi;rcases X3 i L.length with h1|h1
  ·rw[kL h1];have:=hL _ (XD h1);omega
  ·rw[sd h1];omega
 have b0: ∀j o,(aM s L h' n').h.get j=some o->(∃i p,j=sig L s.nx i∧h'.get i=some p∧o=p.c7 (sig L s.nx))∨(j∉L∧s.h.get j=some o):=by
  intro j o hj;simp only[aM]at hj;rw[AH.get_append]at hj;split at hj
  ·exact .inl (xo h' j o hj (fun i k _ h=>FW hnd hL i k h))
  ·rw[AH.get_append]at hj;split at hj
   ·rw[DH]at hj;cases hj
   ·rename_i hd;rw[Ah]at hd;exact .inr ⟨hd,hj⟩
 have k0: ∀j o,j∉L->s.h.get j=some o->o.real=true->w'.heap[N.aI j]? =w.heap[N.aI j]? :=by
  intro j o hj ho a0;refine hx.jq _ (hr.lt ho a0) (fun i p hi hp he=>?_);obtain⟨h1,h2⟩:=hin i p hi;have:=hr.inj _ _ _ _ h2 ho ((AO.cM _ p).trans hp) a0 he;rw[kL h1]at this;exact hj (this▸XD h1)
 refine⟨x,M',N2,r,h',n',rfl,hR,?_,?_,?_⟩
 ·refine⟨hx.os,hx.tape,hx.output,hx.size,fun b hb o0=>hx.jq b hb (fun i o hi ho he=>o0 _ _ (hin i o hi).2 ((AO.cM _ o).trans ho) he),hx.rF,fun b c h1 h2=>?_,e0,fun i hi=>by simp only[aM];omega,fun j o hj a0=>?_⟩
  ·rcases hx.jM b c h1 h2 with h3|⟨i,o,h3,ho,h4⟩
   ·exact .inl h3
   ·exact .inr ⟨_,_,(hin i o h3).2,(AO.cM _ o).trans ho,h4⟩
  ·rcases b0 j o hj with⟨i,p,rfl,h1,rfl⟩|⟨h1,h2⟩
   ·rw[AO.cM]at a0;rw[(f0 i).1];rcases hx.iW i p h1 a0 with h3|⟨k,q,h3,hq,h4⟩
    ·exact .inl h3
    ·exact .inr ⟨_,_,(hin k q h3).2,(AO.cM _ q).trans hq,h4⟩
   ·exact .inr ⟨j,o,h2,a0,(e0.aI j (hr.used j o h2)).symm⟩
 ·refine⟨hr'.dF,fun j o hj=>?_,fun j o hj a0=>?_,fun j o hj=>?_,fun i j o p hi hj ho hp c0=>?_⟩
  ·rcases b0 j o hj with⟨i,p,rfl,h1,rfl⟩|⟨h1,h2⟩
   ·exact j0 i (hr'.used i p h1)
   ·have:=hr.used j o h2;simp only[aM];omega
  ·rcases b0 j o hj with⟨i,p,rfl,h1,rfl⟩|⟨h1,h2⟩
   ·rw[AO.cM]at a0;rw[(f0 i).1];exact hr'.eK i p h1 a0
   ·rw[e0.aI j (hr.used j o h2)];cases hm:M' (N.aI j) with
    |none=>rfl
    |some c=>
     rcases hx.jM _ c (hr.eK j o h2 a0) hm with h3|⟨i,q,h3,hq,h4⟩
     ·have:=hr.lt h2 a0;omega
     ·obtain⟨h5,h6⟩:=hin i q h3;have:=hr.inj _ _ _ _ h6 h2 ((AO.cM _ q).trans hq) a0 h4;rw[kL h5]at this;exact absurd (this▸XD h5) h1
  ·rcases b0 j o hj with⟨i,p,rfl,h1,rfl⟩|⟨h1,h2⟩
   ·refine OR.c7 ?_;exact(hr'.obj i p h1).mono (.refl _) d0 (fun i hi=>j0 i hi) (hr'.used i p h1) Z
   ·cases a0:o.real with
    |true=>exact(hr.obj j o h2).mono hx.rF e0 (fun i hi=>by simp only[aM];omega) (hr.used j o h2) (k0 j o h1 h2 a0)
    |false=>
     cases o with
     |row sz es=>cases es with
      |nil=>exact .inl Z
      |cons=>cases a0
     |bG l T=>cases l with
      |nil=>exact .inl Z
      |cons=>cases a0
     |_=>cases a0
  ·rcases b0 i o hi with⟨i',o',rfl,h1,rfl⟩|⟨h1,h2⟩<;>rcases b0 j p hj with⟨j',p',rfl,h3,rfl⟩|⟨h3,h4⟩
   ·rw[AO.cM]at ho hp;rw[(f0 i').1,(f0 j').1]at c0;rw[hr'.inj i' j' o' p' h1 h3 ho hp c0]
   ·rw[AO.cM]at ho;rw[(f0 i').1,e0.aI j (hr.used j p h4)]at c0;rcases hx.iW i' o' h1 ho with h5|⟨k,q,h5,hq,h6⟩
    ·have:=hr.lt h4 hp;omega
    ·obtain⟨h7,h8⟩:=hin k q h5;have:=hr.inj _ _ _ _ h8 h4 ((AO.cM _ q).trans hq) hp (h6.trans c0);rw[kL h7]at this;exact absurd (this▸XD h7) h3
   ·rw[AO.cM]at hp;rw[e0.aI i (hr.used i o h2),(f0 j').1]at c0;rcases hx.iW j' p' h3 hp with h5|⟨k,q,h5,hq,h6⟩
    ·have:=hr.lt h2 ho;omega
    ·obtain⟨h7,h8⟩:=hin k q h5;have:=hr.inj _ _ _ _ h8 h2 ((AO.cM _ q).trans hq) ho (h6.trans c0.symm);rw[kL h7]at this;exact absurd (this▸XD h7) h1
   ·rw[e0.aI i (hr.used i o h2),e0.aI j (hr.used j p h4)]at c0;exact hr.inj _ _ _ _ h2 h4 ho hp c0
 ·exact VR.c7 (hvr.mono (.refl _) d0 (fun i hi=>j0 i hi))
def PV.plain:PV->PV
 | .kb b=> .iv (.v (.bool b))
 |p=>p
theorem VR.plain{M:Mem}{N:Nm}{U:Nat->Prop}{p:PV}{x:Value}(h:VR M N U p x):VR M N U p.plain x:=by
 cases h with
 |kb=>exact .iv _ _ (.v _)
 |iv _ _ h1=>exact .iv _ _ h1
 |agg _ _ h1 h2=>exact .agg _ _ h1 h2
 |bT _ _ h1 h2=>exact .bT _ _ h1 h2
 |ptr _ _ h1=>exact .ptr _ _ h1
 |dC _ _ _ _ h1=>exact .dC _ _ _ _ h1
 |fv _ _ h1=>exact .fv _ _ h1
 |sl _ _ _ _ _ h1 h2 h3 h4 h5=>exact .sl _ _ _ _ _ h1 h2 h3 h4 h5
 |ph _ _ h1=>exact .ph _ _ h1
 |sle _ _ _ h1 h2 h3=>exact .sle _ _ _ h1 h2 h3
 |mp _ h1=>exact .mp _ h1
 |dr _ _ _ _ _ h1 h2 h3 h4=>exact .dr _ _ _ _ _ h1 h2 h3 h4
 |any=>exact .any _
def bK(f:AF)(c:Call):Option (FuncId×List PV):=
 match c.callee with
 | .value g=>match ev f g with
  | .dr (.func k) first caps=>some (k,first++(c.args.toList.map (fun x=>(ev f x).plain)++caps))
  |_=>none
 |_=>none
theorem DG{M:Mem}{N:Nm}{a:Act}{w:World}(hf:Fits M N s nt a w){o:Oper}{c:Call}(ho:o.op= .call c){k:FuncId}{asv:List PV}(ha:bK s.f c=some (k,asv))(hc:ot P k):
  ∃vs:List Value,(execOp a.eval o).run P w= .ok (.enter k vs.toArray) w∧asv.length=vs.length∧ ∀(j:Nat) (p:PV),asv[j]? =some p->VR M N (· <s.nx) p (vs.getD j undef):=by
 unfold bK at ha;obtain⟨b0,a0,c0⟩:=c;cases b0 with
 |value g=>
  simp only at ha;have hg:=bf hf.2.1 g;split at ha
  ·rename_i k' first caps hev;simp only[WV,W9]at ha;obtain⟨rfl,rfl⟩:=ha;rw[hev]at hg;generalize hv:a.eval g=v at hg;cases hg with
   |dr _ _ _ f' c' h1 h2 hr1 hr2=>
    have hm:(a0.toList.map (fun x=>(ev s.f x).plain)).length=(a0.map a.eval).size∧ ∀j p,(a0.toList.map (fun x=>(ev s.f x).plain))[j]? =some p->VR M N (· <s.nx) p ((a0.map a.eval).getD j undef):=by
     refine⟨by simp,fun j p hp=>?_⟩;rw[W1,W6]at hp;obtain⟨x,hx,rfl⟩:=hp;have e0:a0[j]? =some x:=by simpa using hx
     rw[WT,Zk,e0];exact(bf hf.2.1 x).plain
    have d0:(execOp a.eval o).run P w= .ok (.enter k' (f'++a0.map a.eval++c')) w:=by
     simp only[execOp,ho,resolve,hv,Deferred.ofValue,pure_bind,invoke];exact hc _ w
    have f0: ∀(j:Nat) (p:PV),(first++(a0.toList.map (fun x=>(ev s.f x).plain)++caps))[j]? =some p->VR M N (· <s.nx) p ((f'++a0.map a.eval++c').toList.getD j undef):=by
     intro j p hp;have g0:(a0.toList.map (fun x=>(ev s.f x).plain)).length=(a0.map a.eval).size:=hm.1;rw[WU,Zx,Zx,Xa];rcases X3 j first.length with hj|hj
     ·rw[Xf hj]at hp;rw[Xf (by simpa[<-h1]using hj)];have:=hr1 j p hp;rw[WT]at this;simpa using this
     ·rw[Xj hj]at hp;rw[Xj (by simpa[<-h1]using hj)];rcases X3 (j-first.length) (a0.toList.map (fun x=>(ev s.f x).plain)).length with hj2|hj2
      ·rw[Xf hj2]at hp;rw[Xf (by simp[<-h1]at hj2 ⊢;omega)];have:=hm.2 _ p hp;rw[WT]at this;simpa[<-h1]using this
      ·rw[Xj hj2]at hp;rw[Xj (by simp[<-h1]at hj2 ⊢;omega)];have:=hr2 _ p hp;rw[WT]at this;simpa[<-h1]using this
    refine⟨(f'++a0.map a.eval++c').toList,by rw[Yr];exact d0,?_,f0⟩;simp[<-h1,<-h2]
  ·cases ha
 |_=>simp at ha
theorem lv{o:Oper}{c:Call}(ho:o.op= .call c){k:FuncId}{asv:List PV}(ha:bK s.f c=some (k,asv)){args:List PV}{os:List AO}{R:PV->AH->Nat->Prop}(hc:Fn P k args os R)
  {L:List Nat} (hnd:L.Nodup) (hL: ∀j∈L,j<s.nx) (m0:L.map s.h.get=os.map fun o=>some (o.c7 (sig L s.nx))) (c0:asv=dS (sig L s.nx) args) {S:AS->Prop}
  (hS: ∀r h' n',R r h' n'-> ∃s',putDst nt o (r.c7 (sig L s.nx)) (aM s L h' n')=some s'∧S s'):OT P nt o s S:=by
 intro M N a w hf K Z hk;unfold bK at ha;obtain⟨d0,a0,g0⟩:=c;cases d0 with
 |value g=>
  simp only at ha;have hg:=bf hf.2.1 g;split at ha
  ·rename_i k' first caps hev;simp only[WV,W9]at ha;obtain⟨rfl,rfl⟩:=ha;rw[hev]at hg;generalize hv:a.eval g=v at hg;cases hg with
   |dr _ _ _ f' c' h1 h2 hr1 hr2=>
    have hm:(a0.toList.map (fun x=>(ev s.f x).plain)).length=(a0.map a.eval).size∧ ∀j p,(a0.toList.map (fun x=>(ev s.f x).plain))[j]? =some p->VR M N (· <s.nx) p ((a0.map a.eval).getD j undef):=by
     refine⟨by simp,fun j p hp=>?_⟩;rw[W1,W6]at hp;obtain⟨x,hx,rfl⟩:=hp;have k0:a0[j]? =some x:=by simpa using hx
     rw[WT,Zk,k0];exact(bf hf.2.1 x).plain
    have f0:(execOp a.eval o).run P w= .ok (.enter k' (f'++a0.map a.eval++c')) w:=by
     simp only[execOp,ho,resolve,hv,Deferred.ofValue,pure_bind,invoke];exact hc.1 _ w
    unfold Oper.wp;rw[f0];simp only[Oper.upon];have n0: ∀(j:Nat) (p:PV),(first++(a0.toList.map (fun x=>(ev s.f x).plain)++caps))[j]? =some p->VR M N (· <s.nx) p ((f'++a0.map a.eval++c').toList.getD j undef):=by
     intro j p hp;have o0:(a0.toList.map (fun x=>(ev s.f x).plain)).length=(a0.map a.eval).size:=hm.1;rw[WU,Zx,Zx,Xa];rcases X3 j first.length with hj|hj
     ·rw[Xf hj]at hp;rw[Xf (by simpa[<-h1]using hj)];have:=hr1 j p hp;rw[WT]at this;simpa using this
     ·rw[Xj hj]at hp;rw[Xj (by simpa[<-h1]using hj)];rcases X3 (j-first.length) (a0.toList.map (fun x=>(ev s.f x).plain)).length with hj2|hj2
      ·rw[Xf hj2]at hp;rw[Xf (by simp[<-h1]at hj2 ⊢;omega)];have:=hm.2 _ p hp;rw[WT]at this;simpa[<-h1]using this
      ·rw[Xj hj2]at hp;rw[Xj (by simp[<-h1]at hj2 ⊢;omega)];have:=hr2 _ p hp;rw[WT]at this;simpa[<-h1]using this
    have e0:args.length=(f'++a0.map a.eval++c').toList.length:=by
     have:=congrArg Zn c0;simp[cB]at this;simp[<-h1,<-h2];omega
    have b0:=hc.calls hnd hL m0 hf.1 e0 (fun j p hp=>by
     refine n0 j (p.c7 (sig L s.nx)) ?_
     rw[c0,cB,W1,hp];rfl)
    rw[Yr]at b0;refine b0.mono ?_;rintro e w' ⟨x,M',N',r,h',n',rfl,hR,hx,hr,hvr⟩;obtain⟨s',hp,i0⟩:=hS r h' n' hR;have j0:Fits M' N' (aM s L h' n') nt a w':=⟨hr,hf.2.1.ext hx,hf.2.2⟩
    show K (a.put o.dst x) w';cases hd:o.dst with
    |none=>
     have:=gv hp hd;subst this;exact hk M' N' _ _ w' hx j0 i0
    |some d=>
     obtain⟨h1,rfl⟩:=gu hp hd;exact hk M' N' {aM s L h' n' with f:=(d,r.c7 (sig L s.nx))::(aM s L h' n').f} _ w' hx (j0.put d _ x h1 hvr) i0
  ·cases ha
 |_=>simp at ha
def qx:Nat->List PV->AF
 |_,[]=> []
 |n,p::r=>(n,p)::qx (n+1) r
theorem yt: ∀(l:List PV) (n i:Nat),(qx n l).get i=if n<=i then l.getD (i-n) .any else .any
 | [],n,i=>by simp[qx,AF.get]
 |p::r,n,i=>by
  simp only[qx];rw[AF.au,yt r (n+1) i];by_cases h:i=n
  ·subst h;simp
  ·by_cases h2:n<=i
   ·rw[be h,am (by omega),am h2,show i-n=(i-(n+1))+1 by omega];simp
   ·rw[be h,be (by omega),be h2]
def A4(ty:Ty)(s:AS):ResultVar->Option PV
 | .tmp t=>match s.f.get t with
  | .kb b=>some (.iv (.v (.bool b)))
  |p=>some p
 | .cell a t=>match ty t with
  |some e=>match behind s.h (s.f.get a) with
   |some cs=>jX e cs
   |none=>none
  |none=>none
def uK(ty:Ty)(s:AS):List ResultVar->Option (List PV)
 | []=>some []
 |v::r=>match A4 ty s v with
  |some p=>match uK ty s r with
   |some l=>some (p::l)
   |none=>none
  |none=>none
def lS(ty:Ty)(s:AS)(l:List ResultVar):Option PV:=
 match uK ty s l with
 |some [p]=>some p
 |some l=>some (.bT l)
 |none=>none
def su(tmps:Array Value):ResultVar->Sem Value
 | .tmp t=>pure (tmps.getD t undef)
 | .cell a t=>do loadVar t (<-asAddr (tmps.getD a undef))
theorem HJ{ty:Ty}(b0:cz P ty){M:Mem}{N:Nm}{a:Act}{w:World}(hf:Fits M N s nt a w){v:ResultVar}{p:PV}(h:A4 ty s v=some p):
  ∃x,(su a.tmps v).run P w= .ok x w∧VR M N (· <s.nx) p x:=by
 cases v with
 |tmp t=>
  simp only[A4]at h;have:=hf.2.1 t;split at h
  ·rename_i b hb;simp only[WV]at h;subst h;rw[hb]at this;refine⟨_,rfl,?_⟩;show VR M N _ _ (a.tmps.getD t undef);generalize a.tmps.getD t undef=v at this;cases this;exact .iv _ _ (.v _)
  ·simp only[WV]at h;subst h;exact⟨_,rfl,this⟩
 |cell b t=>
  simp only[A4]at h;split at h
  ·rename_i e he;split at h
   ·rename_i cs c0;obtain⟨b',off,hx,a0⟩:=Ap hf.1 (hf.2.1 b) c0;obtain⟨y,hy,hv⟩:=vm (P:=P) (b0 t e he) a0 h;refine⟨y,?_,hv⟩;simp only[su,hx,asAddr,pure_bind];exact hy
   ·cases h
  ·cases h
theorem za{ty:Ty}(b0:cz P ty){M:Mem}{N:Nm}{a:Act}{w:World}(hf:Fits M N s nt a w): ∀{l:List ResultVar} {ps:List PV},uK ty s l=some ps->
  ∃xs:List Value,(l.mapM (su a.tmps)).run P w= .ok xs w∧ps.length=xs.length∧ ∀(j:Nat) (p:PV),ps[j]? =some p->VR M N (· <s.nx) p (xs.getD j undef)
 | [],ps,h=>by
  simp only[uK,WV]at h;subst h;exact⟨[],rfl,rfl,by simp⟩
 |v::r,ps,h=>by
  simp only[uK]at h;split at h
  ·rename_i p hp;split at h
   ·rename_i l hl;simp only[WV]at h;subst h;obtain⟨x,hx,hv⟩:=HJ b0 hf hp;obtain⟨xs,c0,a0,d0⟩:=za b0 hf hl;refine⟨x::xs,?_,by simp[a0],fun j q hq=>?_⟩
    ·rw[List.mapM_cons,Sem.run_bind,hx,Result.andThen_ok,Sem.run_bind,c0];rfl
    ·cases j with
     |zero=>simp at hq;subst hq;exact hv
     |succ j=>simpa using d0 j q (by simpa using hq)
   ·cases h
  ·cases h
theorem Gb{ty:Ty}(c0:cz P ty){M:Mem}{N:Nm}{a:Act}{w:World}(hf:Fits M N s nt a w){fn:Func}{l:List ResultVar}(hl:fn.results.toList=l){p:PV}(h:lS ty s l=some p):
  ∃x,(results fn a.tmps).run P w= .ok x w∧VR M N (· <s.nx) p x:=by
 unfold lS at h;have key: ∀ps,uK ty s l=some ps-> ∃xs:List Value,(fn.results.mapM (su a.tmps)).run P w= .ok xs.toArray w∧ps.length=xs.length∧ ∀(j:Nat) (p:PV),ps[j]? =some p->VR M N (· <s.nx) p (xs.getD j undef):=by
  intro ps b0;obtain⟨xs,h1,h2,h3⟩:=za c0 hf b0;refine⟨xs,?_,h2,h3⟩;have e:fn.results.mapM (su a.tmps)=(List.toArray<$>(fn.results.toList.mapM (su a.tmps))):=by
   rw[ZN]
  rw[e,hl,Sem.run_map,h1];rfl
 have a0:results fn a.tmps=(do let vs<-fn.results.mapM (su a.tmps);pure (if h:vs.size=1 then vs[0] else .tuple vs)):=by
  unfold results;rfl
 split at h
 ·rename_i q hq;simp only[WV]at h;subst h;obtain⟨xs,h1,h2,h3⟩:=key _ hq
  match xs,h2 with
  | [x],_=>
   refine⟨x,?_,by simpa using h3 0 q Z⟩;rw[a0,Sem.run_bind,h1];rfl
 ·rename_i ps hne b0;simp only[WV]at h;subst h;obtain⟨xs,h1,h2,h3⟩:=key _ b0;refine⟨.tuple xs.toArray,?_, .bT _ _ (by simpa using h2) (fun j p hp=>?_)⟩
  ·rw[a0,Sem.run_bind,h1,Result.andThen_ok];have: ¬xs.toArray.size=1:=by
    intro e
    match ps,hne,h2 with
    | [q],hne,_=>exact hne q Z
    | [],_,h2=>simp at h2 e;omega
    |_::_::_,_,h2=>simp at h2 e;omega
   rw[dif_neg this];rfl
  ·have:=h3 j p hp;rw[WT];rw[WU]at this;simpa using this
 ·cases h
theorem Fl {ty:Ty} (g0:cz P ty) {k:FuncId} {fn:Func} {c:Code} (hf:P.funcs[k]? =some fn) (hb:fn.body=some c) (hn:(fn.name== "runtime.NumGoroutine")=false) {nt:Nat} (j0:fn.ntmps=nt)
  {l:List ResultVar} (hl:fn.results.toList=l) {args:List PV} (k0:args.length<=nt) {os:List AO} {R:PV->AH->Nat->Prop}
  (h:GO P nt [.code c] (fun e s=>(e= .normal∨e= .ret)∧ ∃r,lS ty s l=some r∧R r s.h s.nx) ⟨qx 0 args,fk 0 os,os.length⟩):Fn P k args os R:=by
 refine⟨bI hf hb hn,fun M N w vs hr b0 hv=>?_⟩;refine calls_of_wp hf hb ?_;have c0:Fits M N ⟨qx 0 args,fk 0 os,os.length⟩ nt {tmps:=vs.toArray++YL (fn.ntmps-vs.toArray.size) undef,defers:=[]} w:=by
  refine⟨hr,fun i=>?_,rfl,by simp;omega⟩;rw[yt,am (W3 _),ZZ,WU];cases hi:args[i]? with
  |none=>exact .any _
  |some p=>
   have hlt:i<vs.length:=by rw[<-b0];exact(WX.1 hi).1
   have:=hv i p hi;have e:(vs.toArray++YL (fn.ntmps-vs.toArray.size) undef).getD i undef=vs.getD i undef:=by
    rw[WT,X8 (by simpa using hlt),WU];simp
   simp only[Yl];rw[e];exact this
 refine AW.then h c0 fun e a' w' M' N' s' hx a0 hq=>?_;simp only[kp]at hq;obtain⟨he,r,i0,e0⟩:=hq;obtain⟨x,f0,d0⟩:=Gb g0 a0 hl i0
 have:a'.defers=[]∧ ∃v,(results fn a'.tmps).run P w'= .ok v w'∧(∃x M' N' r h' n',Ending.returned v= .returned x∧R r h' n'∧Ext M N (· <os.length) (fk 0 os) w M' N' (· <n') h' w'∧Rel M' N' (· <n') h' w'∧VR M' N' (· <n') r x):=
  ⟨a0.2.2.1,x,f0,x,M',N',r,s'.h,s'.nx,rfl,e0,hx,a0.1,d0⟩
 rcases he with rfl|rfl<;>exact this
end
theorem H5{a0:Array Oper}{o:Oper}(hs: ∀cs b,o.op≠ .select cs b){a b:Act}(h: ∀d∈o.looksAt a0,a.tmps[d]? =b.tmps[d]?):
  execOp a.eval o=execOp b.eval o∧Region.wanted o (Go.yielded a0 a.tmps)=Region.wanted o (Go.yielded a0 b.tmps):=by
 constructor
 ·refine execOp_congr o hs fun x hx=>?_
  cases x with
  |tmp t=>
   have:=h t (Xv _ (List.mem_filterMap.2 ⟨.tmp t,by simpa using hx,rfl⟩));simp only[Act.eval,WT,this]
  |_=>rfl
 ·unfold Region.wanted;cases hg:o.guard with
  |none=>rfl
  |some gw=>
   obtain⟨g,b0⟩:=gw;have hy:Go.yielded a0 a.tmps g=Go.yielded a0 b.tmps g:=by
    unfold Go.yielded;cases ht:(a0[g]?).bind (·.dst) with
    |none=>rfl
    |some t=>
     have:=h t (by simp[Oper.looksAt,hg,ht]);simp[this]
   simp only[hy]
theorem mR{all:List Oper}{o x:Oper}(h:looks all o x=false){d:Nat}(hd:x.dst=some d):d∉o.looksAt all.toArray:=by
 simp only[looks,hd]at h;simpa using h
theorem gm{o:Oper}{i:Nat}(h:waits o i=true): ∃e∈o.after,Region.binds .any e=true∧e.on=i:=by
 unfold waits at h;obtain⟨e,he,hb⟩:=XM.1 h;simp only[Xg]at hb;exact⟨e,by simpa using he,hb.1,Xh hb.2⟩
theorem kC: ∀(l:List Oper) (n i:Nat) (o:Oper),gL n l=true->l[i]? =some o-> ∀e∈o.after,Region.binds .any e=true->e.on<n+i
 | [],n,i,o,_,h=>by simp at h
 |c::l,n,i,o,hd,h=>by
  simp only[gL,Xg,Xm]at hd;cases i with
  |zero=>
   simp at h;subst h;intro e he hb;have:=hd.1 e (by simpa using he);simp only[hb,Zy,Ya]at this;exact WR this
  |succ i=>
   have:=kC l (n+1) i o hd.2 (by simpa using h);intro e he hb;have:=this e he hb;omega
theorem count_set: ∀(l:List Bool) (i:Nat),l[i]? =some false->(l.set i true).count false+1=l.count false
 | [],i,h=>by simp at h
 |c::l,0,h=>by simp at h;subst h;simp
 |c::l,i+1,h=>by
  have:=count_set l i (by simpa using h);simp only[List.set_cons_succ,List.count_cons];omega
theorem dp{listed:Array Bool}{i:Nat}(h:listed.getD i true=false):(listed.setIfInBounds i true).toList.count false+1=listed.toList.count false:=by
 have hi:listed.toList[i]? =some false:=by
  rw[WT]at h;cases hc:listed[i]? with
  |none=>simp[hc]at h
  |some c=>simp[hc]at h;subst h;simpa using hc
 have:=count_set _ _ hi;rw[Array.toList_setIfInBounds];exact this
theorem n9{listed:Array Bool}{i:Nat}(h:listed.getD i true=false):0<listed.toList.count false:=by have:=dp h;omega
theorem fL{listed:Array Bool}{i k:Nat}(hi:i<listed.size):(listed.setIfInBounds i true).getD k true=if k=i then true else listed.getD k true:=by
 by_cases hk:k=i
 ·subst hk;simp[WT,hi]
 ·rw[be hk,WT,XG,be (fun e=>hk e.symm),WT]
theorem fi{listed:Array Bool}{i:Nat}(h:listed.getD i true=false):i<listed.size:=by
 rcases X3 i listed.size with h'|h'
 ·exact h'
 ·simp[WT,ZB h']at h
theorem mA{listed:Array Bool}{i:Nat}(h:listed.getD i true=false):listed.getD i false=false:=by
 have:=fi h;rw[WT] at*
 simpa[this]using h
theorem lT{all:List Oper}{listed:Array Bool}(b0:listed.size=all.length)(hd:gL 0 all=true)(hr:Region.ready .any all.toArray listed=[]): ∀i,listed.getD i true=true:=by
 intro i
 induction i using Nat.strongRecOn with
 |_ i ih=>
  cases hc:listed.getD i true with
  |true=>rfl
  |false=>
   have hi:=fi hc;have ho:all[i]? =some (all[i]'(by omega)):=WY (by omega);have:i∈Region.ready .any all.toArray listed:=by
    refine mem_ready.2 ⟨hc,_,(by rw[Yf];exact ho),fun e he hb=>?_⟩;have hlt:=kC all 0 i _ hd ho e he hb;have:=ih e.on (by omega);have a0:e.on<listed.size:=by omega
    rw[WT]at this ⊢;simpa[a0]using this
   rw[hr]at this;cases this
section
variable {P:Program} {nt:Nat} {all:List Oper} {todo pend:List (Nat×Oper)} {M:Mem} {N:Nm} {s:AS} {listed:Array Bool} {a:Act} {w:World} {Q:AQ}
theorem rU.alloc{B:Bs}{o:Oper}{aI:Nat}(h:rU P M N s B a w o aI):aU o=true:=by
 obtain⟨t,v,d,h1,_⟩:=h;simp[aU,h1]
theorem jK.b3(a0:jK P nt all){i j:Nat}{o q:Oper}(hi:all[i]? =some o)(hj:all[j]? =some q)(ha:aU o=true)(hw:waits q i=false)(hne:j≠i):looks all q o=false:=by
 rcases((a0 i o hi ha).2.2.2.2 j q hj hne).1 with h|h
 ·rw[hw]at h;cases h
 ·exact h
theorem oq.same{b:Act}(hb: ∀d,(∀x∈pend,listed.getD x.1 true=false->x.2.dst≠some d)->(∀x∈todo,listed.getD x.1 true=true->x.2.dst≠some d)->a.tmps[d]? =b.tmps[d]?)
  (hns:Region.noSelect all.toArray=true) {i:Nat} {o:Oper} (ho:all[i]? =some o) (hr:i∈Region.ready .any all.toArray listed) (hp: ∀x∈pend,waits o x.1=true∨looks all o x.2=false)
  (hq: ∀x∈todo,listed.getD x.1 true=true->looks all o x.2=false):
  execOp a.eval o=execOp b.eval o∧Region.wanted o (Go.yielded all.toArray a.tmps)=Region.wanted o (Go.yielded all.toArray b.tmps):=by
 refine H5 (Region.noSelect_spec hns i o · · (by simpa using ho)) fun d hd=>hb d (fun x hx hl he=>?_) (fun x hx hl he=>mR (hq x hx hl) he hd);rcases hp x hx with h|h
 ·obtain⟨e,he,c0,b0⟩:=gm h;obtain⟨_,o',d0,a0⟩:=mem_ready.1 hr;have:o'=o:=by have:=d0.symm.trans (by simpa using ho:all.toArray[i]? =some o);exact XX this
  subst this;have h1:=a0 e he c0;rw[b0,mA hl]at h1;cases h1
 ·exact mR h he hd
theorem gr(a:Act)(a0:Option Tmp)(v:Value)(d:Nat):(a.put a0 v).tmps[d]? =if a0=some d∧d<a.tmps.size then some v else a.tmps[d]? :=by
 cases a0 with
 |none=>simp[Act.put]
 |some e=>
  simp only[Act.put,WV];rw[XG];by_cases h:e=d
  ·subst h;by_cases h2:e<a.tmps.size
   ·simp[h2]
   ·simp[h2]
  ·simp[h]
theorem kq(a:Act)(a0:Option Tmp)(v:Value):(a.put a0 v).tmps.size=a.tmps.size:=by cases a0<;>simp[Act.put]
theorem lh(a:Act)(a0:Option Tmp)(v:Value):(a.put a0 v).defers=a.defers:=by cases a0<;>rfl
theorem ze(a:Act)(a0:Option Tmp)(v:Value):(a.put a0 v).put a0 v=a.put a0 v:=by cases a0<;>simp[Act.put]
theorem rU.put{B:Bs}{o:Oper}{aI:Nat}(h:rU P M N s B a w o aI){a0:Option Tmp}{v:Value}(hd: ∀d,o.dst=some d->a0≠some d):rU P M N s B (a.put a0 v) w o aI:=by
 obtain⟨t,u,d,h1,h2,h3,h4,h5⟩:=h;refine⟨t,u,d,h1,h2,h3,?_,h5⟩;rw[gr,be (fun hc=>hd d h3 hc.1)];exact h4
theorem oq.take{B:Bs}(hi:oq P nt all todo pend B M N s listed a w)(hns:Region.noSelect all.toArray=true)(n0:jK P nt all){x:Nat×Oper}(hx:x∈pend)(hr:x.1∈Region.ready .any all.toArray listed):
  ∃v,YieldsAt P all.toArray w x.2 v a∧oq P nt all todo pend B M N s (listed.setIfInBounds x.1 true) (a.put x.2.dst v) w:=by
 obtain⟨b,hb,g0,s0,hag,hy⟩:=hi.ap;obtain⟨bl,m0,t0⟩:=hi.er;have hl:=(mem_ready.1 hr).1;obtain⟨v,hv,j0⟩:=hy x hx hl;have d0: ∀y∈todo,listed.getD y.1 true=true->looks all x.2 y.2=false∧ ∀d,y.2.dst=some d->x.2.dst≠some d:=fun y a0 b0=>by
  have i0:=(m0 y a0 b0).alloc;exact⟨n0.b3 (hi.tl y a0) (hi.pl x hx) i0 (hi.pa x hx y a0 i0) (fun e=>hi.dj x hx y a0 e.symm),((n0 _ _ (hi.tl y a0) i0).2.2.2.2 _ _ (hi.pl x hx) (fun e=>hi.dj x hx y a0 e.symm)).2⟩
 have c0:=oq.same hag hns (hi.pl x hx) hr (fun y hy=>hi.pp y hy x hx) (fun y a0 b0=>(d0 y a0 b0).1);have hlt:=fi hl;have p0: ∀k,(listed.setIfInBounds x.1 true).getD k true=false->k≠x.1∧listed.getD k true=false:=by
  intro k hk;rw[fL hlt]at hk;split at hk
  ·cases hk
  ·rename_i h;exact⟨h,hk⟩
 have e0: ∀y∈todo,(listed.setIfInBounds x.1 true).getD y.1 true=listed.getD y.1 true:=fun y hy=>by rw[fL hlt,be (hi.dj x hx y hy)]
 refine⟨v,hv.of_same c0.1 c0.2,⟨by simp[hi.size],hi.tl,hi.pl,hi.dj,fun i o ho hu=>hi.IT i o ho (p0 i hu).2,hi.pw,hi.pp,hi.pa,⟨bl,fun y a0 b0=>?_,fun y a0 z k0 h1 h2=>?_⟩,b,hb,by rw[kq,g0],by rw[lh,s0],fun d hd q0=>?_,fun y r0 hu=>?_⟩⟩
 ·rw[e0 y a0]at b0;exact(m0 y a0 b0).put (d0 y a0 b0).2
 ·rw[e0 y a0]at h1;rw[e0 z k0]at h2;exact t0 y a0 z k0 h1 h2
 ·rw[gr];split
  ·rename_i h;rw[<-j0,gr,am ⟨h.1,by rw[<-g0];exact h.2⟩]
  ·rename_i h;by_cases f0:x.2.dst=some d
   ·have h2: ¬d<a.tmps.size:=fun h3=>h ⟨f0,h3⟩
    rw[ZB (YY h2),ZB (by rw[<-g0];exact YY h2)]
   ·refine hag d (fun y hy hu he=>?_) (fun y a0 b0=>q0 y a0 (by rw[e0 y a0];exact b0));by_cases o0:y.1=x.1
    ·have h3:=hi.pl y hy;rw[o0,hi.pl x hx]at h3;rw[XX h3]at f0;exact f0 he
    ·exact hd y hy (by rw[fL hlt,be o0];exact hu) he
 ·exact hy y r0 (p0 _ hu).2
theorem Rel.more{M:Mem}{N:Nm}{n:Nat}{h:AH}{w w':World}(hr:Rel M N (· <n) h w)(hk: ∀b,b<w.heap.size->w'.heap[b]? =w.heap[b]?):Rel M N (· <n) h w':=by
 refine⟨fun b c hb=>?_,hr.used,hr.eK,fun i o hi=>?_,hr.inj⟩
 ·exact(hr.dF b c hb).mono (hk b (hr.dF b c hb).lt)
 ·cases hre:o.real with
  |true=>exact(hr.obj i o hi).mono (.refl _) (.refl _ _) (fun _ h=>h) (hr.used i o hi) (hk _ (hr.lt hi hre))
  |false=>
   cases o with
   |row sz es=>cases es with
    |nil=>exact .inl Z
    |cons=>cases hre
   |bG l T=>cases l with
    |nil=>exact .inl Z
    |cons=>cases hre
   |_=>cases hre
theorem xx{a0:Array Oper}(h: ∀i,listed.getD i true=true):Region.ready .any a0 listed=[]:=by
 cases hr:Region.ready .any a0 listed with
 |nil=>rfl
 |cons i r=>
  have:i∈Region.ready .any a0 listed:=by rw[hr];simp
  have:=(mem_ready.1 this).1;rw[h i]at this;cases this
theorem oq.done{B:Bs}(hi:oq P nt all [] pend B M N s listed a w)(a0: ∀i,listed.getD i true=true):Fits M N s nt a w:=by
 obtain⟨b,hb,c0,b0,hag,_⟩:=hi.ap;have ht:a.tmps=b.tmps:=Array.ext_getElem? fun d=>hag d (fun x _ hu=>by rw[a0]at hu;cases hu) (fun _ hx=>(nomatch hx));have:a=b:=by cases a;cases b;simp only at ht b0;subst ht;subst b0;rfl
 rw[this];exact hb
theorem SM(h:Q .normal s):DL P nt all [] pend Q s:=by
 intro hns hd f0 B M N listed a w a0 hB
 induction a0 generalizing listed a with
 |zero=>
  intro hi hc;have b0: ∀i,listed.getD i true=true:=fun i=>by
   cases hx:listed.getD i true with
   |true=>rfl
   |false=>have:=n9 hx;omega
  exact⟨xx b0,M,N,s,hB,hi.done b0,h⟩
 |succ a0 ih=>
  intro hi hc;refine⟨fun hr=>⟨M,N,s,hB,hi.done (lT hi.size hd hr),h⟩,fun i c0=>?_⟩;obtain⟨hu,o,ho,_⟩:=mem_ready.1 c0;have e0:all[i]? =some o:=by simpa using ho
  rcases hi.IT i o e0 hu with hm|hm
  ·cases hm
  ·obtain⟨v,hv,d0⟩:=hi.take hns f0 hm c0;refine wpOp_of_stOp (K:=fun a'=>a'=a.put o.dst v) (fun a' ha=>?_) (hv.stOp ho Z);subst ha;exact ih _ _ d0 (by have:=dp hu;omega)
def yS(all:List Oper)(pend:List (Nat×Oper))(o:Oper):Bool:=
 !looks all o o&&pend.all fun y=>!looks all y.2 o&&(waits o y.1||!looks all o y.2)&&(match o.dst,y.2.dst with|some d,some e=>!Xn d e|_,_=>true)
theorem oq.read{B:Bs}(hi:oq P nt all todo pend B M N s listed a w)(hns:Region.noSelect all.toArray=true){i:Nat}{o:Oper}{s':AS}(hin:(i,o)∈todo)(i0:aU o=false)(t0: ∀x∈todo,waits o x.1=false)(a0:yS all pend o=true)(he:s'.h=s.h∧s'.nx=s.nx)
  (hy: ∀M N b w,Fits M N s nt b w-> ∃v,YieldsAt P all.toArray w o v b∧Fits M N s' nt (b.put o.dst v) w):oq P nt all (todo.filter fun x=>!Xn x.1 i) ((i,o)::pend) B M N s' listed a w:=by
 have h2: ∀x∈todo.filter fun x=>!Xn x.1 i,x∈todo∧x.1≠i:=fun x hx=>by
  obtain⟨h7,h8⟩:=Xs.1 hx;exact⟨h7,fun e=>by simp[e]at h8⟩
 have h1: ∀x∈todo,x=(i,o)∨x∈todo.filter fun x=>!Xn x.1 i:=fun x hx=>by
  by_cases c0:x.1=i
  ·have h3:=hi.tl x hx;rw[c0,hi.tl _ hin]at h3;exact .inl (by obtain⟨x1,x2⟩:=x;simp only at c0 h3;rw[c0,XX h3])
  ·exact .inr (Xs.2 ⟨hx,by cases hb:Xn x.1 i with|false=>rfl|true=>exact absurd (Xh hb) c0⟩)
 simp only[yS,Xg,Xm,XF]at a0;obtain⟨b,hb,q0,n0,hag,p0⟩:=hi.ap;obtain⟨bl,g0,v0⟩:=hi.er;have f0:listed.getD i true=false:=by
  cases hl:listed.getD i true with
  |false=>rfl
  |true=>have:=(g0 _ hin hl).alloc;simp only at this;rw[i0]at this;cases this
 obtain⟨v,hv,hf⟩:=hy M N b w hb;refine⟨hi.size,fun x hx=>hi.tl x (h2 x hx).1,fun x hx=>?_,fun x hx y hy=>?_,fun k q hk hu=>?_,?_,fun x hx y hy=>?_,fun y hyp x hx w0=>?_,⟨bl,fun x hx hl=>?_,fun x hx y hy=>v0 x (h2 x hx).1 y (h2 y hy).1⟩,b.put o.dst v,hf,by rw[kq,q0],by rw[lh,n0],fun d d0 o0=>?_,fun x hx hu=>?_⟩
 ·rcases Xb.1 hx with rfl|hx
  ·exact hi.tl _ hin
  ·exact hi.pl x hx
 ·rcases Xb.1 hx with rfl|hx
  ·exact(h2 y hy).2
  ·exact hi.dj x hx y (h2 y hy).1
 ·rcases hi.IT k q hk hu with hm|hm
  ·rcases h1 _ hm with e|hm
   ·exact .inr (by rw[e];simp)
   ·exact .inl hm
  ·exact .inr (W8 _ hm)
 ·refine Yo.2 ⟨fun y hy=>⟨(a0.2 y hy).1.1,fun d e0 s0=>?_⟩,hi.pw⟩;have:=(a0.2 y hy).2;simp only at e0;rw[e0,s0]at this;simp at this
 ·rcases Xb.1 hx with rfl|hx<;>rcases Xb.1 hy with rfl|hy
  ·exact .inr a0.1
  ·exact .inr (a0.2 y hy).1.1
  ·have:=(a0.2 x hx).1.2;simpa using this
  ·exact hi.pp x hx y hy
 ·rcases Xb.1 hyp with rfl|hyp
  ·exact t0 x (h2 x hx).1
  ·exact hi.pa y hyp x (h2 x hx).1 w0
 ·have h3:=g0 x (h2 x hx).1 hl;unfold rU at*
  rw[he.1];exact h3
 ·rw[gr,be (fun hc=>d0 (i,o) (by simp) f0 hc.1)];refine hag d (fun x hx=>d0 x (W8 _ hx)) (fun x hx hl=>?_);rcases h1 x hx with e|hx
  ·rw[e]at hl;simp only at hl;rw[f0]at hl;cases hl
  ·exact o0 x hx hl
 ·have b0: ∀x:Oper,looks all x o=false-> ∀d,o.dst=some d->d∉x.looksAt all.toArray:=fun x hx d hd=>mR hx hd
  rcases Xb.1 hx with rfl|hx
  ·exact⟨v,hv.of_same (execOp_put o (fun cs b=>Region.noSelect_spec hns i o cs b (by simpa using hi.tl _ hin)) b o.dst v (b0 o a0.1)) (wanted_put o b o.dst v (b0 o a0.1)),ze _ _ _⟩
  ·obtain⟨u,k0,m0⟩:=p0 x hx hu;have hl:=(a0.2 x hx).1.1;refine⟨u,k0.of_same (execOp_put x.2 (fun cs b=>Region.noSelect_spec hns x.1 x.2 cs b (by simpa using hi.pl x hx)) b o.dst v (b0 x.2 hl)) (wanted_put x.2 b o.dst v (b0 x.2 hl)),?_⟩;rw[Act.put_comm b v u (fun d r0 j0=>?_),m0];have:=(a0.2 x hx).2;rw[r0,j0]at this;simp at this
theorem G2{i:Nat}{o:Oper}{s':AS}(hin:(i,o)∈todo)(c0:aU o=false)(d0: ∀x∈todo,waits o x.1=false)(a0:yS all pend o=true)(he:s'.h=s.h∧s'.nx=s.nx)
  (hy: ∀M N b w,Fits M N s nt b w-> ∃v,YieldsAt P all.toArray w o v b∧Fits M N s' nt (b.put o.dst v) w) (h:DL P nt all (todo.filter fun x=>!Xn x.1 i) ((i,o)::pend) Q s'):DL P nt all todo pend Q s:=by
 intro hns hd e0 B M N listed a w b0 hB hi hc;exact h hns hd e0 B M N listed a w b0 (by unfold Bs.ext at*;rw[he.1,he.2];exact hB) (hi.read hns hin c0 d0 a0 he hy) hc
theorem ra(hns:Region.noSelect all.toArray=true): ∀{pend:List (Nat×Oper)},(∀x∈pend,all[x.1]? =some x.2)->(pend.Pairwise fun x y=>looks all y.2 x.2=false∧ ∀d,x.2.dst=some d->y.2.dst≠some d)->
  (∀x∈pend,looks all x.2 x.2=false)->(∀x∈pend,im P nt all s x.2)-> ∀{b:Act},Fits M N s nt b w->
  ∃c:Act,Fits M N s nt c w∧c.tmps.size=b.tmps.size∧c.defers=b.defers∧(∀d,(∀x∈pend,listed.getD x.1 true=false->x.2.dst≠some d)->c.tmps[d]? =b.tmps[d]?)∧
   (∀x∈pend,listed.getD x.1 true=false-> ∃v,YieldsAt P all.toArray w x.2 v c∧c.put x.2.dst v=c)
 | [],_,_,_,_,b,hb=>⟨b,hb,rfl,rfl,fun _ _=>rfl,fun x hx=>by cases hx⟩
 |(i,o)::pend,hpl,hpw,hse,hag,b,hb=>by
  rw[Yo]at hpw;obtain⟨c,hc,f0,c0,d0,e0⟩:=ra hns (pend:=pend) (fun x hx=>hpl x (W8 _ hx)) hpw.2 (fun x hx=>hse x (W8 _ hx)) (fun x hx=>hag x (W8 _ hx)) hb;cases hu:listed.getD i true with
  |true=>
   refine⟨c,hc,f0,c0,fun d hd=>d0 d fun x hx=>hd x (W8 _ hx),fun x hx b0=>?_⟩;rcases Xb.1 hx with rfl|hx
   ·rw[hu]at b0;cases b0
   ·exact e0 x hx b0
  |false=>
   obtain⟨v,hv,hf⟩:=hag (i,o) (by simp) M N c w hc;have a0: ∀x:Oper,looks all x o=false-> ∀d,o.dst=some d->d∉x.looksAt all.toArray:=fun x hx d hd=>mR hx hd;refine⟨c.put o.dst v,hf,by rw[kq,f0],by rw[lh,c0],fun d hd=>?_,fun x hx b0=>?_⟩
   ·rw[gr,be (fun h=>hd (i,o) (by simp) hu h.1)];exact d0 d fun x hx=>hd x (W8 _ hx)
   ·rcases Xb.1 hx with rfl|hx
    ·have hl:=hse (i,o) (by simp);exact⟨v,hv.of_same (execOp_put o (fun cs b=>Region.noSelect_spec hns i o cs b (by simpa using hpl (i,o) (by simp))) c o.dst v (a0 o hl)) (wanted_put o c o.dst v (a0 o hl)),ze _ _ _⟩
    ·obtain⟨u,j0,k0⟩:=e0 x hx b0;have hl:=(hpw.1 x hx).1;refine⟨u,j0.of_same (execOp_put x.2 (fun cs b=>Region.noSelect_spec hns x.1 x.2 cs b (by simpa using hpl x (W8 _ hx))) c o.dst v (a0 x.2 hl)) (wanted_put x.2 c o.dst v (a0 x.2 hl)),?_⟩;rw[Act.put_comm c v u (fun d g0 i0=>(hpw.1 x hx).2 d g0 i0),k0]
theorem FG{o:Oper}{a b:Act}{w:World}{K K':Act->World->Prop}{Q:Exit->Act->World->Prop}(he:execOp a.eval o=execOp b.eval o)(a0: ∀d w',¬K' ({b with defers:=d::b.defers}.put o.dst undef) w')
  (hk: ∀v w',K' (b.put o.dst v) w'->K (a.put o.dst v) w') (h:o.wp P b w K' fun _ _ _=>False):o.wp P a w K Q:=by
 unfold Oper.wp at*
 rw[he];generalize(execOp b.eval o).run P w=r at*
 cases r with
 |ok n w'=>
  cases n<;>simp only[Oper.upon]at h ⊢
  case value v=>exact hk _ _ h
  case skip=>exact hk _ _ h
  case defer d=>exact absurd h (a0 d w')
  case enter f args=>
   refine Calls.mono h fun e b0 he=>?_
   cases e with
   |returned v=>exact hk _ _ he
   |panicked c=>exact he.elim
   |outgrown=>obtain⟨_,_,h⟩:=he;exact h.elim
  case row row args=>exact Rows.mono h fun v b0 he=>hk _ _ he
 |halt x w'=>cases x<;>simp only[Oper.upon]at h ⊢
def iD(all:List Oper)(pend:List (Nat×Oper))(o:Oper):Bool:=pend.all fun x=>waits o x.1||!looks all o x.2
theorem oq.early{B:Bs}(hi:oq P nt all todo pend B M N s listed a w)(hns:Region.noSelect all.toArray=true)(hd:gL 0 all=true)(t0:jK P nt all)(hB:B.ext M N s w)(i0: ∀x∈pend,im P nt all s x.2){j:Nat}{o:Oper}(hm:(j,o)∈todo)(ha:aU o=true)
  (hu:listed.getD j true=false): ∃v w',(execOp a.eval o).run P w= .ok (.value v) w'∧B.ext M N s w'∧oq P nt all todo pend B M N s (listed.setIfInBounds j true) (a.put o.dst v) w':=by
 obtain⟨b,hb,m0,x0,hag,hy⟩:=hi.ap;obtain⟨bl,n0,f1⟩:=hi.er;obtain⟨h1,⟨d,e0,s0⟩,⟨t,z,ht,hz⟩,_,j0⟩:=t0 j o (hi.tl _ hm) ha;have hlt:=fi hu;have hk: ∀b,b<w.heap.size->(w.alloc (.cells z.cells t)).heap[b]? =w.heap[b]? :=fun b hb=>BQ w _ b hb
 have d0:Ext M N (· <s.nx) s.h w M N (· <s.nx) s.h (w.alloc (.cells z.cells t)):=
  ⟨rfl,rfl,rfl,by simp,fun b hb _=>hk b hb, .refl _,fun b c h1 h2=>by simp[h1]at h2, .refl _ _,fun _ h=>h,fun i o hi k0=> .inr ⟨i,o,hi,k0,rfl⟩⟩
 have e1: ∀x∈pend,looks all x.2 x.2=false:=fun x hx=>by
  rcases hi.pp x hx x hx with h7|h7
  ·obtain⟨e,he,hb,g1⟩:=gm h7;have:=kC all 0 x.1 x.2 hd (hi.pl x hx) e he hb;omega
  ·exact h7
 obtain⟨c,v0,z0,d1,q0,y0⟩:=ra (listed:=listed.setIfInBounds j true) hns hi.pl hi.pw e1 i0 (M:=M) (N:=N) (w:=w.alloc (.cells z.cells t)) (b:=b) ⟨hb.1.more hk,hb.2⟩;refine⟨.pointer (some ⟨w.heap.size,0,none⟩),w.alloc (.cells z.cells t),?_,hB.trans d0,by simp[hi.size],hi.tl,hi.pl,hi.dj,fun i q hq g0=>?_,hi.pw,hi.pp,hi.pa,⟨fun k=>if k=j then w.heap.size else bl k,fun x hx hl=>?_,fun x hx y hy c0 f0 hne=>?_⟩,c,v0,by rw[kq,z0,m0],by rw[lh,d1,x0],fun d' o0 p0=>?_,y0⟩
 ·simp only[execOp,ht];simp[Instr.alloc,hz,newVar,newRow]
 ·rw[fL hlt]at g0;split at g0
  ·cases g0
  ·exact hi.IT i q hq g0
 ·simp only;by_cases a0:x.1=j
  ·have a1:x.2=o:=by
    have:=hi.tl x hx;rw[a0,hi.tl _ hm]at this;exact(XX this).symm
   rw[am a0,a1];refine⟨t,z,d,ht,hz,e0,?_,heap_alloc_new w _,hb.1.CX,fun i o w0 k0 he=>?_,hB.size⟩
   ·rw[gr,am ⟨e0,by rw[m0,hb.2.2.2];exact s0⟩]
   ·have:=hb.1.lt w0 k0;omega
  ·rw[be a0];rw[fL hlt,be a0]at hl;obtain⟨t',v',d',k1,k2,k3,k4,k5,k6⟩:=n0 x hx hl;refine⟨t',v',d',k1,k2,k3,?_,?_,k6⟩
   ·rw[gr,be (fun hc=>(j0 x.1 x.2 (hi.tl x hx) a0).2 d e0 (by rw[k3,<-hc.1,e0]))];exact k4
   ·rw[hk _ (Yd.1 k5).1];exact k5
 ·simp only;rw[fL hlt]at c0 f0;have HT: ∀z∈todo,z.1≠j->(if z.1=j then true else listed.getD z.1 true)=true->bl z.1<w.heap.size:=fun z hz r0 hl=>by
   rw[be r0]at hl;obtain⟨_,_,_,_,_,_,_,k5,_⟩:=n0 z hz hl;exact(Yd.1 k5).1
  by_cases a0:x.1=j<;>by_cases b0:y.1=j
  ·exact absurd (a0.trans b0.symm) hne
  ·rw[am a0,be b0];have:=HT y hy b0 f0;omega
  ·rw[be a0,am b0];have:=HT x hx a0 c0;omega
  ·rw[be a0,be b0];rw[be a0]at c0;rw[be b0]at f0;exact f1 x hx y hy c0 f0 hne
 ·rw[gr,be (fun hc=>p0 (j,o) hm (by rw[fL hlt,am Z]) hc.1),q0 d' o0];refine hag d' (fun x hx b1=>o0 x hx ?_) (fun x hx c0=>p0 x hx ?_)
  ·have hne:x.1≠j:=fun e=>hi.dj x hx _ hm e.symm
   rw[fL hlt,be hne];exact b1
  ·rw[fL hlt];split
   ·rfl
   ·exact c0
theorem rU.step{B:Bs}{M':Mem}{N':Nm}{s':AS}{w':World}{o:Oper}{aI:Nat}(h:rU P M N s B a w o aI)(hx:Ext M N (· <s.nx) s.h w M' N' (· <s'.nx) s'.h w'):rU P M' N' s' B a w' o aI:=by
 obtain⟨t,v,d,h1,h2,h3,h4,h5,h6,h7,h8⟩:=h;have hlt:=(Yd.1 h5).1;refine⟨t,v,d,h1,h2,h3,h4,by rw[hx.jq aI hlt h7];exact h5,?_,fun i o c0 d0 he=>?_,h8⟩
 ·cases hm:M' aI with
  |none=>rfl
  |some c=>
   rcases hx.jM aI c h6 hm with h9|⟨i,o,h9,a0,b0⟩
   ·omega
   ·exact absurd b0 (h7 i o h9 a0)
 ·rcases hx.iW i o c0 d0 with h9|⟨j,p,h9,a0,b0⟩
  ·omega
  ·exact h7 j p h9 a0 (b0.trans he)
def n8(todo:List (Nat×Oper))(E:List Nat):Bool:=todo.all fun x=>E.contains x.1||(aU x.2||todo.any fun y=>!aU y.2&&waits x.2 y.1)
theorem oq.eff{B:Bs}(hi:oq P nt all todo pend B M N s listed a w)(hns:Region.noSelect all.toArray=true)(hd:gL 0 all=true)(t0:jK P nt all){j:Nat}{o:Oper}(hm:(j,o)∈todo)(h0: ∀x∈todo,aU x.2=true->waits o x.1=false)
  (h1:iD all pend o=true) (hj:j∈Region.ready .any all.toArray listed) (hu:listed.getD j true=false): ∃b,Fits M N s nt b w∧execOp a.eval o=execOp b.eval o∧Region.wanted o (Go.yielded all.toArray a.tmps)=Region.wanted o (Go.yielded all.toArray b.tmps)∧
   ∀v M' N' s' w',Ext M N (· <s.nx) s.h w M' N' (· <s'.nx) s'.h w'->Fits M' N' s' nt (b.put o.dst v) w'->(∀x∈bg pend o,im P nt all s' x.2)->
    oq P nt all (todo.filter fun x=>!Xn x.1 j) (bg pend o) B M' N' s' (listed.setIfInBounds j true) (a.put o.dst v) w':=by
 obtain⟨bl,s0,g1⟩:=hi.er;obtain⟨_,o2,v0,j0⟩:=mem_ready.1 hj;have m0:=hi.tl _ hm;have a1:o2=o:=by
  have:all[j]? =some o2:=by simpa using v0
  exact XX (this.symm.trans m0)
 rw[a1]at v0 j0;have hlt:=fi hu;obtain⟨b,hb,q0,e1,hag,l1⟩:=hi.ap;have hpb: ∀x∈pend,waits o x.1=true∨looks all o x.2=false:=fun x hx=>by
  have:=Xm.1 h1 x hx;simpa using this
 have i0: ∀x∈todo,listed.getD x.1 true=true->looks all o x.2=false∧ ∀d,x.2.dst=some d->o.dst≠some d:=fun x hx d0=>by
  have n0:=(s0 x hx d0).alloc;have hne:j≠x.1:=fun e=>by rw[<-e,hu]at d0;cases d0
  exact⟨t0.b3 (hi.tl x hx) m0 n0 (h0 x hx n0) hne,((t0 _ _ (hi.tl x hx) n0).2.2.2.2 _ _ m0 hne).2⟩
 have e0:=oq.same hag hns m0 hj hpb (fun x hx d0=>(i0 x hx d0).1);have f0: ∀x∈pend,listed.getD x.1 true=false->x∈bg pend o:=fun x hx k0=>by
  refine Xs.2 ⟨hx,?_⟩;cases hw:waits o x.1 with
  |false=>rfl
  |true=>
   obtain⟨e,he,hb,p0⟩:=gm hw;have:=j0 e he hb;rw[p0,mA k0]at this;cases this
 have j1: ∀k,(listed.setIfInBounds j true).getD k true=false->k≠j∧listed.getD k true=false:=by
  intro k hk;rw[fL hlt]at hk;split at hk
  ·cases hk
  ·rename_i h;exact⟨h,hk⟩
 have c0: ∀x∈bg pend o,x∈pend:=fun x hx=>(Xs.1 hx).1
 have a0: ∀x∈todo.filter (fun x=>!Xn x.1 j),x∈todo∧x.1≠j:=fun x hx=>by
  obtain⟨h7,h8⟩:=Xs.1 hx;exact⟨h7,fun e=>by simp[e]at h8⟩
 refine⟨b,hb,e0.1,e0.2,fun v M' N' s' w' hx hf h5=>?_⟩;have b1: ∀x∈bg pend o,looks all x.2 x.2=false:=fun x hx=>by
  rcases hi.pp x (c0 x hx) x (c0 x hx) with h7|h7
  ·obtain⟨e,he,hb,p0⟩:=gm h7;have:=kC all 0 x.1 x.2 hd (hi.pl x (c0 x hx)) e he hb;omega
  ·exact h7
 obtain⟨c,z0,i1,y0,w0,f1⟩:=ra (listed:=listed.setIfInBounds j true) hns (fun x hx=>hi.pl x (c0 x hx)) (hi.pw.sublist List.filter_sublist) b1 h5 hf;have b0: ∀x∈todo.filter (fun x=>!Xn x.1 j),(listed.setIfInBounds j true).getD x.1 true=listed.getD x.1 true:=fun x hx=>by rw[fL hlt,be (a0 x hx).2]
 refine⟨by simp[hi.size],fun x hx=>hi.tl x (a0 x hx).1,fun x hx=>hi.pl x (c0 x hx),fun x hx y hy=>hi.dj x (c0 x hx) y (a0 y hy).1,fun k q hk d1=>?_,hi.pw.sublist List.filter_sublist,
      fun x hx y hy=>hi.pp x (c0 x hx) y (c0 y hy),fun y hy x hx=>hi.pa y (c0 y hy) x (a0 x hx).1,⟨bl,fun x g0 d0=>?_,fun x g0 y r0 h1 h2=>?_⟩,c,z0,by rw[i1,kq,kq,q0],by rw[y0,lh,lh,e1],fun d o0 x0=>?_,f1⟩
 ·obtain⟨h7,h8⟩:=j1 k d1;rcases hi.IT k q hk h8 with h9|h9
  ·exact .inl (Xs.2 ⟨h9,by cases hb:Xn k j with|false=>rfl|true=>exact absurd (Xh hb) h7⟩)
  ·exact .inr (f0 _ h9 h8)
 ·rw[b0 x g0]at d0;exact((s0 x (a0 x g0).1 d0).step hx).put (i0 x (a0 x g0).1 d0).2
 ·rw[b0 x g0]at h1;rw[b0 y r0]at h2;exact g1 x (a0 x g0).1 y (a0 y r0).1 h1 h2
 ·rw[w0 d o0,gr,gr,q0];split
  ·rfl
  ·refine hag d (fun x hx k0=>o0 x (f0 x hx k0) ?_) (fun x g0 d0=>?_)
   ·have hne:x.1≠j:=fun e=>hi.dj x hx _ hm e.symm
    rw[fL hlt,be hne];exact k0
   ·have hne:x.1≠j:=fun e=>by rw[e,hu]at d0;cases d0
    have hin:x∈todo.filter (fun x=>!Xn x.1 j):=Xs.2 ⟨g0,by cases hb:Xn x.1 j with|false=>rfl|true=>exact absurd (Xh hb) hne⟩;exact x0 x hin (by rw[b0 x hin];exact d0)
theorem SN{E:List Nat}(hE:n8 todo E=true)(hne: ∃x∈todo,aU x.2=false)(f0: ∀x∈todo,aU x.2=true-> ∀x∈pend,im P nt all s x.2)
  (h: ∀j o,j∈E->(j,o)∈todo->(∀o',(j,o')∈todo->o'=o)->aU o=false∧(∀x∈todo,aU x.2=true->waits o x.1=false)∧iD all pend o=true∧(∀M N b w,Fits M N s nt b w->Region.wanted o (Go.yielded all.toArray b.tmps)=true)∧ ∃R,OT P nt o s R∧
   ∀s',R s'->(∀x∈bg pend o,im P nt all s' x.2)∧DL P nt all (todo.filter fun x=>!Xn x.1 j) (bg pend o) Q s'):DL P nt all todo pend Q s:=by
 intro hns hd e0 B M N listed a w a0 hB
 induction a0 generalizing listed a w with
 |zero=>
  intro hi hc;obtain⟨x,hx,c0⟩:=hne;have o0:listed.getD x.1 true=false:=by
   obtain⟨bl,k0,_⟩:=hi.er;cases hl:listed.getD x.1 true with
   |false=>rfl
   |true=>have:=(k0 x hx hl).alloc;rw[c0]at this;cases this
  have:=n9 o0;omega
 |succ a0 ih=>
  intro hi hc;obtain⟨bl,k0,t0⟩:=hi.er;have b0: ∀x∈todo,aU x.2=false->listed.getD x.1 true=false:=fun x hx c0=>by
   cases hl:listed.getD x.1 true with
   |false=>rfl
   |true=>have:=(k0 x hx hl).alloc;rw[c0]at this;cases this
  refine⟨fun hr=>?_,fun j hj=>?_⟩
  ·obtain⟨x,hx,c0⟩:=hne;have:=lT hi.size hd hr x.1;rw[b0 x hx c0]at this;cases this
  obtain⟨hu,o,ho,n0⟩:=mem_ready.1 hj;have j0:all[j]? =some o:=by simpa using ho
  have hlt:=fi hu;rcases hi.IT j o j0 hu with hm|hm
  ·cases hja:aU o with
   |true=>
    obtain⟨v,w',i0,r0,g0⟩:=hi.early hns hd e0 hB (f0 _ hm hja) hm hja hu;unfold wpOp;simp only[ho];rw[am (jg (e0 j o j0 hja).1 _)];refine .inl ?_;unfold Oper.wp;rw[i0];simp only[Oper.upon];exact ih _ _ _ r0 g0 (by have:=dp hu;omega)
   |false=>
   have p0:j∈E:=by
    have:=Xm.1 hE _ hm;simp only[XJ,XM,Xg,XF]at this;rcases this with h1|h1|⟨y,hy,h0,h1⟩
    ·simpa using h1
    ·rw[hja]at h1;cases h1
    ·obtain⟨e,he,hb,q0⟩:=gm h1;have:=n0 e he hb;rw[q0,mA (b0 y hy h0)]at this;cases this
   obtain⟨_,h0,h1,h2,R,h3,h4⟩:=h j o p0 hm (fun o' s0=>by
    have:=hi.tl _ s0;simp only at this;rw[j0]at this
    exact(XX this).symm)
   obtain⟨b,hb,d0,m0,hnew⟩:=hi.eff hns hd e0 hm h0 h1 hj hu;unfold wpOp;simp only[ho];rw[am (by rw[m0];exact h2 M N b w hb)];refine .inl (FG (K':=fun a' w'=> ∃M' N' s',Ext M N (· <s.nx) s.h w M' N' (· <s'.nx) s'.h w'∧Fits M' N' s' nt a' w'∧R s') d0 ?_ ?_ (h3 M N b w hb _ _ fun M' N' s' a' w' hx hf hr=>⟨M',N',s',hx,hf,hr⟩))
   ·rintro d w' ⟨M',N',s',_,hf,_⟩;have:=hf.2.2.1;rw[lh]at this;cases this
   ·rintro v w' ⟨M',N',s',hx,hf,hr⟩;obtain⟨h5,h6⟩:=h4 s' hr;exact h6 hns hd e0 B M' N' _ _ w' a0 (hB.trans hx) (hnew v M' N' s' w' hx hf h5) (by have:=dp hu;omega)
  ·obtain⟨v,hv,g0⟩:=hi.take hns e0 hm hj;refine wpOp_of_stOp (K:=fun a'=>a'=a.put o.dst v) (fun a' ha=>?_) (hv.stOp ho Z);subst ha;exact ih _ _ _ hB g0 (by have:=dp hu;omega)
theorem Rel.He{M:Mem}{N:Nm}{n:Nat}{h:AH}{w:World}(hr:Rel M N (· <n) h w){aI e:Nat}{o:AO}(hM:M aI=none)(hne: ∀i p,h.get i=some p->p.real=true->N.aI i≠aI)(ho:OR M (N.with n aI e) (· <n+1) w n o):
  Rel M (N.with n aI e) (· <n+1) ((n,some o)::h) w:=by
 have ha:=N.gl n aI e;have a0: ∀i p,AH.get ((n,some o)::h) i=some p->(i=n∧p=o)∨(i<n∧h.get i=some p):=by
  intro i p hi;rw[AH.au]at hi;split at hi
  ·rename_i hin;exact .inl ⟨hin,by simpa using hi.symm⟩
  ·exact .inr ⟨hr.used i p hi,hi⟩
 refine⟨hr.dF,fun i p hi=>?_,fun i p hi c0=>?_,fun i p hi=>?_,fun i j p q hi hj hp hq b0=>?_⟩
 ·rcases a0 i p hi with⟨rfl,rfl⟩|⟨h1,h2⟩<;>omega
 ·rcases a0 i p hi with⟨rfl,rfl⟩|⟨h1,h2⟩
  ·simpa using hM
  ·rw[ha.aI i h1];exact hr.eK i p h2 c0
 ·rcases a0 i p hi with⟨rfl,rfl⟩|⟨h1,h2⟩
  ·exact ho
  ·exact(hr.obj i p h2).mono (.refl _) ha (fun i hi=>by omega) h1 Z
 ·rcases a0 i p hi with⟨rfl,rfl⟩|⟨h1,h2⟩<;>rcases a0 j q hj with⟨rfl,rfl⟩|⟨h3,h4⟩
  ·rfl
  ·rw[ha.aI j h3]at b0;simp at b0;exact absurd b0.symm (hne _ _ h4 hq)
  ·rw[ha.aI i h1]at b0;simp at b0;exact absurd b0 (hne _ _ h2 hp)
  ·rw[ha.aI i h1,ha.aI j h3]at b0;exact hr.inj i j p q h2 h4 hp hq b0
def BP(todo:List (Nat×Oper))(i:Nat):Bool:=todo.all fun x=>Xn x.1 i||(aU x.2||(waits x.2 i||todo.any fun y=>!aU y.2&&waits x.2 y.1))
def mC(s:AS)(d:Nat)(cs:List PV):AS:=match s with|⟨f,h,n⟩=>⟨(d, .ptr n 0)::f,(n,some (.cells cs))::h,n+1⟩
theorem Lh{i:Nat}{o:Oper}{t:TypeId}{z:Value}{d:Nat}(hin:(i,o)∈todo)(ht:o.op= .alloc t)(hz: ∀w,(zeroValue t).run P w= .ok z w)(w0:o.dst=some d)(hE:BP todo i=true)
  (p0: ∀x∈pend,im P nt all s x.2) (c0: ∀x∈pend,im P nt all (mC s d (cV z)) x.2)
  (h:DL P nt all (todo.filter fun x=>!Xn x.1 i) pend Q (mC s d (cV z))):DL P nt all todo pend Q s:=by
 intro hns hd d0 B M N listed a w b0 hB;have f1:aU o=true:=by simp[aU,ht]
 have He: ∀{b0:Nat} {listed:Array Bool} {a:Act} {w:World},B.ext M N s w->oq P nt all todo pend B M N s listed a w->listed.getD i true=true->listed.toList.count false<=b0->wpAny P .any all.toArray (Rh nt B Q) b0 listed a w:=by
  intro b0 listed a w hB hi hl hc;obtain⟨b,hb,n1,q1,hag,a2⟩:=hi.ap;obtain⟨bl,j0,z0⟩:=hi.er;obtain⟨t',z',d',k1,k2,k3,k4,k5,k6,k7,k8⟩:=j0 _ hin hl;simp only at k1 k3;have e1:t'=t:=by rw[ht]at k1;exact(Op.alloc.inj k1).symm
  subst e1;have e2:z'=z:=by have:=(k2 w).symm.trans (hz w);simpa using this
  subst e2;have e3:d'=d:=by rw[w0]at k3;exact(XX k3).symm
  subst e3;have d1:d'<nt:=by
   obtain⟨_,⟨d2,g1,g2⟩,_⟩:=d0 i o (hi.tl _ hin) f1;rw[w0]at g1;rw[XX g1];exact g2
  have ha:=N.gl s.nx (bl i) z'.cells.size;have x0:=hb.1.He (aI:=bl i) (e:=z'.cells.size) (o:= .cells (cV z')) k6 k7
   ⟨z'.cells,t',by simpa using k5,by simp,(fS (M:=M) (N:=N.with s.nx (bl i) z'.cells.size) (U:=(· <s.nx+1)) z').1,(fS z').2, .none _⟩
  have y1:FR M (N.with s.nx (bl i) z'.cells.size) (· <s.nx+1) s.f b.tmps:=hb.2.1.mono (.refl _) ha (fun i hi=>by omega);have v0:VR M (N.with s.nx (bl i) z'.cells.size) (· <s.nx+1) (.ptr s.nx 0) (.pointer (some ⟨bl i,0,none⟩)):=by
   have:=VR.ptr (M:=M) (N:=N.with s.nx (bl i) z'.cells.size) (U:=(· <s.nx+1)) s.nx 0 (by omega);simpa using this
  have s0:Fits M (N.with s.nx (bl i) z'.cells.size) (mC s d' (cV z')) nt (b.put (some d') (.pointer (some ⟨bl i,0,none⟩))) w:=by
   obtain⟨sf,sh,sn⟩:=s;exact⟨x0,y1.put d' _ _ (by rw[hb.2.2.2];exact d1) v0,hb.2.2.1,by rw[kq];exact hb.2.2.2⟩
  have e0: ∀j p,(mC s d' (cV z')).h.get j=some p->j=s.nx∨(j<s.nx∧s.h.get j=some p):=by
   intro j p hj;obtain⟨sf,sh,sn⟩:=s;simp only[mC]at hj;rw[AH.au]at hj;split at hj
   ·rename_i e;exact .inl e
   ·exact .inr ⟨hb.1.used j p hj,hj⟩
  have s1:(mC s d' (cV z')).nx=s.nx+1:=by obtain⟨sf,sh,sn⟩:=s;rfl
  have y0:B.ext M (N.with s.nx (bl i) z'.cells.size) (mC s d' (cV z')) w:=by
   unfold Bs.ext at*
   refine⟨hB.os,hB.tape,hB.output,hB.size,hB.jq,hB.rF,hB.jM,⟨fun j hj=>(ha.aI j (hB.ule j hj)).trans (hB.nm.aI j hj),fun j hj=>(ha.ext j (hB.ule j hj)).trans (hB.nm.ext j hj)⟩,fun j hj=>by have:=hB.ule j hj;rw[s1];omega,fun j p hj a1=>?_⟩;rcases e0 j p hj with rfl|⟨h1,h2⟩
   ·exact .inl (by simpa using k8)
   ·rw[ha.aI j h1];exact hB.iW j p h2 a1
  have z1: ∀x∈pend,looks all x.2 x.2=false:=fun x hx=>by
   rcases hi.pp x hx x hx with h7|h7
   ·obtain⟨e,he,hb,b1⟩:=gm h7;have:=kC all 0 x.1 x.2 hd (hi.pl x hx) e he hb;omega
   ·exact h7
  have a0: ∀x∈todo.filter (fun x=>!Xn x.1 i),x∈todo∧x.1≠i:=fun x hx=>by
   obtain⟨h7,h8⟩:=Xs.1 hx;exact⟨h7,fun e=>by simp[e]at h8⟩
  obtain⟨c,p1,u1,x1,l1,r1⟩:=ra (listed:=listed) hns hi.pl hi.pw z1 c0 s0;refine h hns hd d0 B M _ listed a w b0 y0 ⟨hi.size,fun x hx=>hi.tl x (a0 x hx).1,hi.pl,fun x hx y hy=>hi.dj x hx y (a0 y hy).1,fun k q hk q0=>?_,hi.pw,hi.pp,fun y hy x hx=>hi.pa y hy x (a0 x hx).1,⟨bl,fun x i0 k0=>?_,fun x i0 y o1=>z0 x (a0 x i0).1 y (a0 y o1).1⟩,c,p1,by rw[u1,kq,n1],by rw[x1,lh,q1],fun e j1 v1=>?_,r1⟩ hc
  ·rcases hi.IT k q hk q0 with h9|h9
   ·refine .inl (Xs.2 ⟨h9,?_⟩);cases hbq:Xn k i with
    |false=>rfl
    |true=>rw[Xh hbq,hl]at q0;cases q0
   ·exact .inr h9
  ·obtain⟨t2,z2,d2,m1,m2,m3,m4,m5,m6,m7,m8⟩:=j0 x (a0 x i0).1 k0;refine⟨t2,z2,d2,m1,m2,m3,m4,m5,m6,fun j p hj a1=>?_,m8⟩;rcases e0 j p hj with rfl|⟨h1,h2⟩
   ·rw[Nm.IX];exact fun e=>z0 x (a0 x i0).1 _ hin k0 hl (a0 x i0).2 e.symm
   ·rw[ha.aI j h1];exact m7 j p h2 a1
  ·rw[l1 e j1,gr];by_cases o0:d'=e
   ·subst o0;rw[am ⟨rfl,by rw[hb.2.2.2];exact d1⟩];exact k4
   ·rw[be (fun hc=>o0 (XX hc.1))];refine hag e j1 (fun x hx k0 he=>?_);by_cases i1:x.1=i
    ·have h3:=hi.tl x hx;rw[i1,hi.tl _ hin]at h3;rw[<-XX h3,w0]at he;exact o0 (XX he)
    ·exact v1 x (Xs.2 ⟨hx,by cases hb:Xn x.1 i with|false=>rfl|true=>exact absurd (Xh hb) i1⟩) k0 he
 clear h c0
 induction b0 generalizing listed a w with
 |zero=>
  intro hi hc;cases hl:listed.getD i true with
  |true=>exact He hB hi hl hc
  |false=>have:=n9 hl;omega
 |succ b0 ih=>
  intro hi hc;cases hl:listed.getD i true with
  |true=>exact He hB hi hl hc
  |false=>
   obtain⟨bl,j0,z0⟩:=hi.er;have n0: ∀x∈todo,aU x.2=false->listed.getD x.1 true=false:=fun x hx t1=>by
    cases hl:listed.getD x.1 true with
    |false=>rfl
    |true=>have:=(j0 x hx hl).alloc;rw[t1]at this;cases this
   refine⟨fun hr=>?_,fun j hj=>?_⟩
   ·have:=lT hi.size hd hr i;rw[hl]at this;cases this
   obtain⟨hu,q,hq,r0⟩:=mem_ready.1 hj;have g0:all[j]? =some q:=by simpa using hq
   rcases hi.IT j q g0 hu with hm|hm
   ·cases hja:aU q with
    |true=>
     obtain⟨v,w',t0,y0,m0⟩:=hi.early hns hd d0 hB p0 hm hja hu;unfold wpOp;simp only[hq];rw[am (jg (d0 j q g0 hja).1 _)];refine .inl ?_;unfold Oper.wp;rw[t0];simp only[Oper.upon];exact ih _ _ _ y0 m0 (by have:=dp hu;omega)
    |false=>
     exfalso;have f0: ∀k,listed.getD k true=false->waits q k=true->False:=fun k hk hw=>by
      obtain⟨e,he,hb,b1⟩:=gm hw;have:=r0 e he hb;rw[b1,mA hk]at this;cases this
     have:=Xm.1 hE _ hm;simp only[XJ,XM,Xg,XF]at this;rcases this with h1|h1|h1|⟨y,hy,h0,h1⟩
     ·have w1:=Xh h1;subst w1;rw[hi.tl _ hin]at g0;simp only[WV]at g0;rw[<-g0,f1]at hja;cases hja
     ·rw[hja]at h1;cases h1
     ·exact f0 i hl h1
     ·exact f0 y.1 (n0 y hy h0) h1
   ·obtain⟨v,hv,m0⟩:=hi.take hns d0 hm hj;refine wpOp_of_stOp (K:=fun a'=>a'=a.put q.dst v) (fun a' ha=>?_) (hv.stOp hq Z);subst ha;exact ih _ _ _ hB m0 (by have:=dp hu;omega)
def gB:Nat->List Oper->List (Nat×Oper)
 |_,[]=> []
 |n,o::r=>(n,o)::gB (n+1) r
theorem jw: ∀(l:List Oper) (n i:Nat) (o:Oper),(i,o)∈gB n l↔n<=i∧l[i-n]? =some o
 | [],n,i,o=>by simp[gB]
 |c::l,n,i,o=>by
  simp only[gB,Xb,W9];rw[jw l (n+1) i o];by_cases h:i=n
  ·subst h;simp only[true_and,W0,ZX,ZA,WV];exact⟨fun h=>h.elim Eq.symm (fun h=>by omega),fun h=> .inl h.symm⟩
  ·by_cases h2:n<=i
   ·rw[show i-n=(i-(n+1))+1 by omega,Y3];constructor
    ·rintro(⟨h3,_⟩|⟨_,h3⟩)
     ·exact absurd h3 h
     ·exact⟨h2,h3⟩
    ·rintro⟨_,h3⟩;exact .inr ⟨by omega,h3⟩
   ·constructor
    ·rintro(⟨h3,_⟩|⟨h3,_⟩)
     ·exact absurd h3 h
     ·omega
    ·rintro⟨h3,_⟩;exact absurd h3 h2
def uT:List Oper->Bool
 | []=>true
 |o::r=>match o.op with
  | .select ..=>false
  |_=>uT r
theorem zs{a0:Array Oper}(h:uT a0.toList=true):Region.noSelect a0=true:=by
 have key: ∀l:List Oper,uT l=true-> ∀o∈l,(match o.op with| .select ..=>false|_=>true)=true:=by
  intro l
  induction l with
  |nil=>intro _ o ho;cases ho
  |cons c l ih=>
   intro hl o ho;unfold uT at hl;split at hl
   ·cases hl
   ·rename_i hne;rcases Xb.1 ho with rfl|ho
    ·split
     ·rename_i h;exact absurd h (hne _ _)
     ·rfl
    ·exact ih hl o ho
 unfold Region.noSelect;rw[Array.all_eq_true_iff_forall_mem];exact fun o ho=>key _ h o (by simpa using ho)
variable {k:List KI}
theorem KX{id:Nat}{a0:Array Oper}(hm:P.follows .mixedOrders=true)(hns:Region.noSelect a0=true)(hd:gL 0 a0.toList=true)(d0:jK P nt a0.toList)(h:GO P nt (.cJ a0.toList (gB 0 a0.toList) []::k) Q s):GO P nt (.code (.region id a0 true)::k) Q s:=by
 intro M N a w hf;refine wp_region_any hm ?_;have e0:=hf.drew;have hin: ∀x∈gB 0 a0.toList,a0.toList[x.1]? =some x.2:=fun x hx=>by
  obtain⟨_,h2⟩:=(jw _ 0 x.1 x.2).1 hx;simpa using h2
 have c0: ∀i,i<a0.size->(YL a0.size false).getD i true=false:=fun i hi=>by simp[WT,hi]
 have b0: ∀x∈gB 0 a0.toList,(YL a0.size false).getD x.1 true=true->False:=fun x hx hl=>by
  have:x.1<a0.size:=by simpa using(WX.1 (hin x hx)).1
  rw[c0 _ this]at hl;cases hl
 have:=h (by rw[Yr];exact hns) hd d0 ⟨M,N,s.nx,s.h,w⟩ M N (YL a0.size false) a {w with drawn:=w.drawn+1} a0.size Ext.drew
  ⟨by simp,hin,fun _ hx=>(nomatch hx),fun _ hx=>(nomatch hx),fun i o ho _=> .inl ((jw _ 0 i o).2 ⟨W3 _,by simpa using ho⟩),YG,fun _ hx=>(nomatch hx),fun _ hx=>(nomatch hx),
   ⟨fun _=>0,fun x hx hl=>(b0 x hx hl).elim,fun x hx _ _ hl=>(b0 x hx hl).elim⟩,⟨a,e0,rfl,rfl,fun _ _ _=>rfl,fun _ hx=>(nomatch hx)⟩⟩ (by simp)
 rw[Yr]at this;exact this
theorem Dx(h:GO P nt k Q s):GO P nt (.cJ all [] pend::k) Q s:=SM h
def eqB:Bool->Bool->Bool
 |true,b=>b
 |false,true=>false
 |false,false=>true
theorem SG(a b:Bool):eqB a b=(a==b):=by cases a<;>cases b<;>rfl
def cC(nt:Nat)(all:List Oper)(f:AF)(o:Oper):Option Bool:=
 match o.guard with
 |none=>some true
 |some (g,want)=>match guardOf all f g with
  |some (d, .kb t)=>bif Xi d nt then some (eqB t want) else none
  |some (_, .iv (.v (.tuple _)))=>some false
  |_=>none
theorem ei{o:Oper}{c:Bool}(h:cC nt all s.f o=some c){b:Act}(hf:Fits M N s nt b w):Region.wanted o (Go.yielded all.toArray b.tmps)=c:=by
 unfold cC at h;split at h
 ·rename_i hg;simp only[WV]at h;rw[jg hg,h]
 ·rename_i g a0 hg;split at h
  ·rename_i d t hy;cases hb:Xi d nt with
   |false=>simp[hb]at h
   |true=>
    simp only[hb,cond_true,WV,SG]at h;have:=hf.wV hy (WR hb);simp[Region.wanted,hg,this,<-h]
  ·rename_i d vs hy;simp only[WV]at h;have:=hf.wU hy;simp[Region.wanted,hg,this,<-h]
  ·cases h
theorem Dw{i:Nat}{o:Oper}{s':AS}(hin:(i,o)∈todo)(b0:aU o=false)(c0: ∀x∈todo,waits o x.1=false)(hg:cC nt all s.f o=some true)(a0:yS all pend o=true)(he:s'.h=s.h∧s'.nx=s.nx)
  (ho: ∀M N a w,Fits M N s nt a w-> ∃x,(execOp a.eval o).run P w= .ok (.value x) w∧Fits M N s' nt (a.put o.dst x) w) (h:GO P nt (.cJ all (todo.filter fun x=>!Xn x.1 i) ((i,o)::pend)::k) Q s'):GO P nt (.cJ all todo pend::k) Q s:=
 G2 hin b0 c0 a0 he (fun M N b w hf=>let ⟨x,h1,h2⟩:=ho M N b w hf;⟨x, .inl ⟨ei hg hf, .inl h1⟩,h2⟩) h
theorem KW{i:Nat}{o:Oper}(hin:(i,o)∈todo)(b0:aU o=false)(c0: ∀x∈todo,waits o x.1=false)(hg:cC nt all s.f o=some false)(a0:yS all pend o=true)
  (h:GO P nt (.cJ all (todo.filter fun x=>!Xn x.1 i) ((i,o)::pend)::k) Q (iq o s)):GO P nt (.cJ all todo pend::k) Q s:=
 G2 hin b0 c0 a0 (jj o s) (fun _ _ _ _ hf=>⟨undef, .inr ⟨ei hg hf,rfl⟩,hf.skip o⟩) h
theorem u5{d:Nat}{t:Bool}(hy:s.f.get d= .iv (.v (.bool t)))(h1:t=true->GO P nt (.cJ all todo pend::k) Q (setBool s (.tmp d) true))(h2:t=false->GO P nt (.cJ all todo pend::k) Q (setBool s (.tmp d) false)):
  GO P nt (.cJ all todo pend::k) Q s:=by
 have key:GO P nt (.cJ all todo pend::k) Q (setBool s (.tmp d) t):=by
  cases t
  ·exact h2 Z
  ·exact h1 Z
 intro hns hd c0 B M N listed a w b0 hB hi hc;obtain⟨b,hb,a0⟩:=hi.ap;exact key hns hd c0 B M N listed a w b0 hB ⟨hi.size,hi.tl,hi.pl,hi.dj,hi.IT,hi.pw,hi.pp,hi.pa,hi.er,b,hb.setBool (c:= .tmp d) hy,a0⟩ hc
theorem wJ{E:List Nat}(hE:n8 todo E=true)(hne: ∃x∈todo,aU x.2=false)(a0: ∀x∈todo,aU x.2=true-> ∀x∈pend,im P nt all s x.2)
  (h: ∀j o,j∈E->(j,o)∈todo->(∀o',(j,o')∈todo->o'=o)->aU o=false∧(∀x∈todo,aU x.2=true->waits o x.1=false)∧iD all pend o=true∧cC nt all s.f o=some true∧ ∃R,OT P nt o s R∧
   ∀s',R s'->(∀x∈bg pend o,im P nt all s' x.2)∧GO P nt (.cJ all (todo.filter fun x=>!Xn x.1 j) (bg pend o)::k) Q s'):GO P nt (.cJ all todo pend::k) Q s:=
 SN hE hne a0 fun j o h1 h2 h3=>let ⟨a,b,c,d,e⟩:=h j o h1 h2 h3;⟨a,b,c, @fun _ _ _ _=>ei d,e⟩
theorem Il{i:Nat}{o:Oper}{t:TypeId}{z:Value}{d:Nat}(hin:(i,o)∈todo)(ht:o.op= .alloc t)(hz: ∀w,(zeroValue t).run P w= .ok z w)(c0:o.dst=some d)(hE:BP todo i=true)
  (b0: ∀x∈pend,im P nt all s x.2) (a0: ∀x∈pend,im P nt all (mC s d (cV z)) x.2)
  (h:GO P nt (.cJ all (todo.filter fun x=>!Xn x.1 i) pend::k) Q (mC s d (cV z))):GO P nt (.cJ all todo pend::k) Q s:=Lh hin ht hz c0 hE b0 a0 h
end
section
variable {P:Program} {nt:Nat} {Q:AQ} {k:List KI} {s:AS}
theorem Ky{ty:Ty}(i0:cz P ty){o:Oper}{c:Call}(ho:o.op= .call c){g:FuncId}{asv:List PV}(ha:bK s.f c=some (g,asv)){fn:Func}{cb:Code}(e0:P.funcs[g]? =some fn)(hb:fn.body=some cb)
  (hn:(fn.name== "runtime.NumGoroutine")=false) {ng:Nat} (m0:fn.ntmps=ng) {l:List ResultVar} (hl:fn.results.toList=l) (n0:asv.length<=ng) {R:AS->Prop}
  (h:AW P ng cb (fun e t=>(e= .normal∨e= .ret)∧ ∃r s',lS ty t l=some r∧putDst nt o r ⟨s.f,t.h,t.nx⟩=some s'∧R s') ⟨qx 0 asv,s.h,s.nx⟩):OT P nt o s R:=by
 intro M N a w hf K Z hk;obtain⟨vs,c0,b0,hv⟩:=DG hf ho ha (bI e0 hb hn);unfold Oper.wp;rw[c0];simp only[Oper.upon];refine calls_of_wp e0 hb ?_;have d0:Fits M N ⟨qx 0 asv,s.h,s.nx⟩ ng {tmps:=vs.toArray++YL (fn.ntmps-vs.toArray.size) undef,defers:=[]} w:=by
  refine⟨hf.1,fun i=>?_,rfl,by simp;omega⟩;rw[yt,am (W3 _),ZZ,WU];cases hi:asv[i]? with
  |none=>exact .any _
  |some p=>
   have hlt:i<vs.length:=by rw[<-b0];exact(WX.1 hi).1
   have:=hv i p hi;have e:(vs.toArray++YL (fn.ntmps-vs.toArray.size) undef).getD i undef=vs.getD i undef:=by
    rw[WT,X8 (by simpa using hlt),WU];simp
   simp only[Yl];rw[e];exact this
 refine AW.then h d0 fun e a' w' M' N' t hx a0 hq=>?_;obtain⟨he,r,s',j0,hp,hR⟩:=hq;obtain⟨x,k0,g0⟩:=Gb i0 a0 hl j0;have f0:Fits M' N' ⟨s.f,t.h,t.nx⟩ nt a w':=⟨a0.1,hf.2.1.ext hx,hf.2.2⟩
 have hK:K (a.put o.dst x) w':=by
  cases hd:o.dst with
  |none=>
   have:=gv hp hd;subst this;exact hk M' N' {f:=s.f,h:=t.h,nx:=t.nx} _ w' hx f0 hR
  |some d=>
   obtain⟨h1,rfl⟩:=gu hp hd;exact hk M' N' {f:=(d,r)::s.f,h:=t.h,nx:=t.nx} _ w' hx (f0.put d _ x h1 g0) hR
 have:a'.defers=[]∧ ∃v,(results fn a'.tmps).run P w'= .ok v w'∧K (a.put o.dst v) w':=⟨a0.2.2.1,x,k0,hK⟩
 rcases he with rfl|rfl<;>exact this
theorem Sv{ty:Ty}(c0:cz P ty){all rest:List Oper}{o:Oper}{c:Call}(hg:o.guard=none)(ho:o.op= .call c){g:FuncId}{asv:List PV}(ha:bK s.f c=some (g,asv)){fn:Func}{cb:Code}(d0:P.funcs[g]? =some fn)(hb:fn.body=some cb)
  (hn:(fn.name== "runtime.NumGoroutine")=false) {ng:Nat} (a0:fn.ntmps=ng) {l:List ResultVar} (hl:fn.results.toList=l) (e0:asv.length<=ng)
  (h:GO P ng (.code cb:: .OX nt s.f (lS ty · l) o all rest::k) Q ⟨qx 0 asv,s.h,s.nx⟩):GO P nt (.ops all (o::rest)::k) Q s:=by
 refine ep (R:=fun t=>GO P nt (.ops all rest::k) Q t) hg (Ky c0 ho ha d0 hb hn a0 hl e0 ?_) (fun t ht=>ht);intro M N a w hf;refine AW.then h hf fun e a' w' M' N' t hx b0 hq=>⟨M',N',t,hx,b0,?_⟩
 simp only[kp]at hq;obtain⟨he,r,s',h1,h2,h3⟩:=hq;exact⟨he,r,s',h1,h2,h3⟩
theorem OQ{ty:Ty}(f0:cz P ty){all:List Oper}{todo pend:List (Nat×Oper)}{j:Nat}{o:Oper}{c:Call}(hrd:(j,o)∈todo)(hE:n8 todo [j]=true)(e0: ∀x∈todo,waits o x.1=false)(a0: ∀x∈todo,aU x.2=true-> ∀x∈pend,im P nt all s x.2)(hpb:iD all pend o=true)(hg:cC nt all s.f o=some true)(ho:o.op= .call c){g:FuncId}{asv:List PV}
  (ha:bK s.f c=some (g,asv)) {fn:Func} {cb:Code} (g0:P.funcs[g]? =some fn) (hb:fn.body=some cb)
  (hn:(fn.name== "runtime.NumGoroutine")=false) {ng:Nat} (c0:fn.ntmps=ng) {l:List ResultVar} (hl:fn.results.toList=l) (i0:asv.length<=ng)
  (h:GO P ng (.code cb:: .OY nt s.f (lS ty · l) j o all todo pend::k) Q ⟨qx 0 asv,s.h,s.nx⟩):GO P nt (.cJ all todo pend::k) Q s:=by
 have b0:aU o=false:=by simp[aU,ho]
 refine wJ hE ⟨_,hrd,b0⟩ a0 fun j' o' hj _ hu=>?_;simp only[W5]at hj;subst hj;have:=hu o hrd;subst this;refine⟨b0,fun x hx _=>e0 x hx,hpb,hg,_,Ky f0 ho ha g0 hb hn c0 hl i0 (R:=fun s'=>(∀x∈bg pend o,im P nt all s' x.2)∧GO P nt (.cJ all (todo.filter fun x=>!Xn x.1 j') (bg pend o)::k) Q s') ?_,fun s' hs=>hs⟩;intro M N a w hf;refine AW.then h hf fun e a' w' M' N' t hx d0 hq=>⟨M',N',t,hx,d0,?_⟩
 simp only[kp]at hq;obtain⟨he,r,s',h1,h2,h3,h4⟩:=hq;exact⟨he,r,s',h1,h2,h3,h4⟩
theorem UA.more{b:Code}{Q:AQ}: ∀{n:Nat} {s:AS},UA P nt b Q n s->n≠0
 |0,_,h=>h.elim
 |_+1,_,_=>by simp
theorem KR{b:Code}{n:Nat}(h:GO P nt (.code b:: .Hj b n::k) Q s):GO P nt (.code (.loop b)::k) Q s:=by
 have h0:UA P nt b (kp P nt k Q) (n+1) s:=by
  intro M N a w hf;refine AW.then h hf fun e a' w' M' N' t hx b0 hq=>⟨M',N',t,hx,b0,?_⟩
  cases e<;>exact hq
 intro M0 N0 a0 w0 f0
 let J:Act->World->Nat->Prop:=fun a w m=> ∃t M N,Ext M0 N0 (· <s.nx) s.h w0 M N (· <t.nx) t.h w∧Fits M N t nt a w∧UA P nt b (kp P nt k Q) m t
 have g0:J a0 w0 (n+1):=⟨s,M0,N0, .refl _ _ _ _ _,f0,h0⟩
 have dB: ∀{p:Nat->Prop},(∃n,p n)-> ∃n,p n∧ ∀m,p m->n<=m:=by
  intro p ⟨n,hn⟩
  induction n using Nat.strongRecOn with
  |_ n ih=>
   by_cases hm: ∃m,m<n∧p m
   ·obtain⟨m,h1,h2⟩:=hm;exact ih m h1 h2
   ·exact⟨n,hn,fun m h2=>YY fun h1=>hm ⟨m,h1,h2⟩⟩
 refine wp_loop (fun a w=> ∃n,J a w n) (fun a w=>by classical exact if h: ∃n,J a w n then Zp (dB h) else 0) ⟨_,g0⟩ fun a w c0=>?_;obtain⟨⟨t,M,N,hx,hf,hu⟩,e0⟩:=YW (dB c0);obtain⟨m,hm⟩: ∃m,Zp (dB c0)=m+1:=⟨Zp (dB c0)-1,by have:=hu.more;omega⟩
 rw[hm]at hu;refine AW.then hu hf fun e a' w' M' N' s' d0 b0 hr=>?_
 cases e with
 |normal=>
  have hJ:J a' w' m:=⟨s',M',N',hx.trans d0,b0,hr⟩
  refine⟨⟨_,hJ⟩,?_⟩;simp only[dif_pos c0,dif_pos (⟨_,hJ⟩: ∃n,J a' w' n)];have:=(YW (dB (⟨_,hJ⟩: ∃n,J a' w' n))).2 _ hJ;omega
 |_=>exact⟨M',N',s',hx.trans d0,b0,hr⟩
theorem go_round{b:Code}{n:Nat}(h:GO P nt (.code b:: .Hj b n::k) Q s):GO P nt (.Hj b (n+1)::k) Q s:=by
 intro M N a w hf;refine AW.then h hf fun e a' w' M' N' t hx a0 hq=>⟨M',N',t,hx,a0,?_⟩
 cases e<;>exact hq
end
section
variable {M:Mem} {N:Nm} {w:World} {n:Nat} {h:AH}
theorem bz{i:Nat}{h:AH}: ∀j o,AH.get ((i,none)::h) j=some o->j≠i∧h.get j=some o:=by
 intro j o hj;rw[AH.au]at hj;split at hj
 ·cases hj
 ·rename_i hne;exact⟨hne,hj⟩
theorem Rel.move(hr:Rel M N (· <n) h w){i:Nat}{o0:AO}(hi:h.get i=some o0)(h0:o0.real=true)(w':World)(o:AO)(i0:w'.os=w.os)(d0:w'.tape=w.tape)(e0:w'.output=w.output)(j0:w'.heap.size=w.heap.size)
  (hk: ∀b,b≠N.aI i->w'.heap[b]? =w.heap[b]?) (ho:OR M (N.with n (N.aI i) (N.ext i)) (· <n+1) w' n o):
  Ext M N (· <n) h w M (N.with n (N.aI i) (N.ext i)) (· <n+1) ((n,some o)::(i,none)::h) w'∧Rel M (N.with n (N.aI i) (N.ext i)) (· <n+1) ((n,some o)::(i,none)::h) w':=by
 have ha:=N.gl n (N.aI i) (N.ext i);have a0: ∀j p,AH.get ((n,some o)::(i,none)::h) j=some p->(j=n∧p=o)∨(j<n∧j≠i∧h.get j=some p):=by
  intro j p hj;rw[AH.au]at hj;split at hj
  ·rename_i g0;exact .inl ⟨g0,by simpa using hj.symm⟩
  ·obtain⟨h1,h2⟩:=bz j p hj;exact .inr ⟨hr.used j p h2,h1,h2⟩
 have hin:=hr.used i o0 hi;refine⟨⟨i0,d0,e0,by omega,fun b hb hn=>hk b (fun e=>hn i o0 hi h0 e.symm), .refl _,fun b c h1 h2=>by simp[h1]at h2,ha,fun i hi=>by omega,fun j p hj c0=>?_⟩,?_⟩
 ·rcases a0 j p hj with⟨rfl,rfl⟩|⟨h1,h2,h3⟩
  ·exact .inr ⟨i,o0,hi,h0,by simp⟩
  ·exact .inr ⟨j,p,h3,c0,(ha.aI j h1).symm⟩
 ·refine⟨fun b c hb=>?_,fun j p hj=>?_,fun j p hj c0=>?_,fun j p hj=>?_,fun j k p q hj f0 hp hq b0=>?_⟩
  ·have hne:b≠N.aI i:=fun e=>by
    have:=hr.eK i o0 hi h0;rw[<-e,hb]at this;simp at this
   exact(hr.dF b c hb).mono (hk b hne)
  ·rcases a0 j p hj with⟨rfl,rfl⟩|⟨h1,h2,h3⟩<;>omega
  ·rcases a0 j p hj with⟨rfl,rfl⟩|⟨h1,h2,h3⟩
   ·simpa using hr.eK i o0 hi h0
   ·rw[ha.aI j h1];exact hr.eK j p h3 c0
  ·rcases a0 j p hj with⟨rfl,rfl⟩|⟨h1,h2,h3⟩
   ·exact ho
   ·cases c0:p.real with
    |true=>exact(hr.obj j p h3).mono (.refl _) ha (fun i hi=>by omega) h1 (hk _ (fun e=>h2 (hr.inj j i p o0 h3 hi c0 h0 e)))
    |false=>
     cases p with
     |row sz es=>cases es with
      |nil=>exact .inl Z
      |cons=>cases c0
     |bG l T=>cases l with
      |nil=>exact .inl Z
      |cons=>cases c0
     |_=>cases c0
  ·rcases a0 j p hj with⟨rfl,rfl⟩|⟨h1,h2,h3⟩<;>rcases a0 k q f0 with⟨rfl,rfl⟩|⟨h4,h5,h6⟩
   ·rfl
   ·rw[ha.aI k h4]at b0;simp at b0;exact absurd (hr.inj _ _ _ _ hi h6 h0 hq b0).symm h5
   ·rw[ha.aI j h1]at b0;simp at b0;exact absurd (hr.inj _ _ _ _ h3 hi hp h0 b0) h2
   ·rw[ha.aI j h1,ha.aI k h4]at b0;exact hr.inj _ _ _ _ h3 h6 hp hq b0
theorem Rel.del{U:Nat->Prop}(hr:Rel M N U h w)(i:Nat):Rel M N U ((i,none)::h) w:=
 ⟨hr.dF,fun j o hj=>hr.used j o (bz j o hj).2,fun j o hj a0=>hr.eK j o (bz j o hj).2 a0,fun j o hj=>hr.obj j o (bz j o hj).2,
  fun j k o p hj hk=>hr.inj j k o p (bz j o hj).2 (bz k p hk).2⟩
theorem Ext.del{M':Mem}{N':Nm}{U U':Nat->Prop}{h':AH}{w':World}(hx:Ext M N U h w M' N' U' h' w')(i:Nat):Ext M N U h w M' N' U' ((i,none)::h') w':=
 ⟨hx.os,hx.tape,hx.output,hx.size,hx.jq,hx.rF,hx.jM,hx.nm,hx.ule,fun j o hj a0=>hx.iW j o (bz j o hj).2 a0⟩
theorem Rel.swap{U:Nat->Prop}{i j:Nat}(a0:i≠j){o p:Option AO}(hr:Rel M N U ((i,o)::(j,p)::h) w):Rel M N U ((j,p)::(i,o)::h) w:=by
 have e: ∀k,AH.get ((j,p)::(i,o)::h) k=AH.get ((i,o)::(j,p)::h) k:=by
  intro k;simp only[AH.au];by_cases h1:k=i
  ·subst h1;rw[be a0,am Z,am Z]
  ·simp[h1]
 exact⟨hr.dF,fun k o hk=>hr.used k o (by rw[<-e];exact hk),fun k o hk=>hr.eK k o (by rw[<-e];exact hk),fun k o hk=>hr.obj k o (by rw[<-e];exact hk),
  fun k l o p hk hl=>hr.inj k l o p (by rw[<-e];exact hk) (by rw[<-e];exact hl)⟩
end
inductive Src (h:AH) (sz:Nat):PV->List (List PV)->Prop
 |dq (n:Nat) (el:Nat->List IV):Src h sz (.iv (.dq sz n el)) ((Xc n).map fun k=>(el k).map .iv)
 |row (j off n:Nat) (fs:List (List PV)) (hj:h.get j=some (.row sz fs)) (hle:off+n<=fs.length):Src h sz (.sl j off n sz) ((fs.drop off).take n)
 |nil:Src h sz (.iv (.v (.slice none 0 0))) []
theorem p5{sz:Nat}: ∀{es:List (List PV)},(∀(k:Nat) (e:List PV),es[k]? =some e->e.length=sz)-> ∀j p,es.flatten[j]? =some p-> ∃k e i,es[k]? =some e∧e[i]? =some p∧j=k*sz+i
 | [],_,j,p,h=>by simp at h
 |e::r,hl,j,p,h=>by
  rw[ZP]at h;have he:=hl 0 e Z;rcases X3 j e.length with hj|hj
  ·rw[Xf hj]at h;exact⟨0,e,j,rfl,h,by simp⟩
  ·rw[Xj hj]at h;obtain⟨k,e',i,h1,h2,h3⟩:=p5 (fun k e h=>hl (k+1) e (by simpa using h)) _ p h;exact⟨k+1,e',i,by simpa using h1,h2,by rw[Yj];omega⟩
theorem p4{sz:Nat}: ∀{es:List (List PV)},(∀(k:Nat) (e:List PV),es[k]? =some e->e.length=sz)->es.flatten.length=es.length*sz
 | [],_=>by simp
 |e::r,hl=>by
  rw[ZP,WW,p4 (fun k e h=>hl (k+1) e (by simpa using h)),hl 0 e Z,Xx,Yj];omega
theorem ub{sz:Nat}: ∀{es:List (List PV)},(∀(k:Nat) (e:List PV),es[k]? =some e->e.length=sz)-> ∀k e i p,es[k]? =some e->e[i]? =some p->es.flatten[k*sz+i]? =some p
 | [],_,k,e,i,p,h,_=>by simp at h
 |e0::r,hl,k,e,i,p,h,hi=>by
  rw[ZP];have he:=hl 0 e0 Z;cases k with
  |zero=>
   simp at h;subst h;rw[Za,Xk,Xf (WX.1 hi).1];exact hi
  |succ k=>
   rw[Xj (by rw[he,Yj];omega)];rw[show(k+1)*sz+i-e0.length=k*sz+i by rw[he,Yj];omega];exact ub (fun k e h=>hl (k+1) e (by simpa using h)) k e i p (by simpa using h) hi
section
variable {P:Program} {ty:Ty} {M:Mem} {N:Nm} {w:World} {nt:Nat} {s:AS} {a:Act}
theorem Src.ok{sz:Nat}{p:PV}{news:List (List PV)}(hs:Src s.h sz p news)(hf:Fits M N s nt a w){y:Value}(hy:VR M N (· <s.nx) p y):
  (∀(k:Nat) (e:List PV),news[k]? =some e->e.length=sz)∧ ∃ao c,y= .slice ao news.length c∧(news≠ []-> ∃b off,ao=some ⟨b,off,none⟩∧
   ∀j p,news.flatten[j]? =some p-> ∃u,w.cell? ⟨b,off+j,none⟩=some u∧VR M N (· <s.nx) p u):=by
 cases hs with
 |dq n el=>
  cases hy with
  |iv _ _ hi=>
   cases hi with
   |kQ _ _ ao c=>exact⟨by simp,ao,c,by simp,by simp⟩
   |dq _ _ _ b off c hn hc hl hm hr=>
    have b0: ∀(k:Nat) (e:List PV),((Xc n).map fun k=>(el k).map PV.iv)[k]? =some e->e.length=sz:=by
     intro k e he;rw[W1,W6]at he;obtain⟨k',c0,rfl⟩:=he;obtain⟨h1,h2⟩:=WX.1 c0;simp at h2 h1;subst h2;simpa using hl k h1
    refine⟨b0,_,c,by simp,fun _=>⟨b,off,rfl,fun j p hp=>?_⟩⟩;obtain⟨k,e,i,h1,h2,rfl⟩:=p5 b0 j p hp;rw[W1,W6]at h1;obtain⟨k',c0,rfl⟩:=h1;obtain⟨h3,h4⟩:=WX.1 c0;simp at h4 h3;subst h4;rw[W1,W6]at h2;obtain⟨q,hq,rfl⟩:=h2;have hi:i<sz:=by rw[<-hl k h3];exact(WX.1 hq).1
    have h5:=hm k i h3 hi;cases hv:M.cell b (off+k*sz+i) with
    |none=>simp[hv]at h5
    |some u=>
     refine⟨u,by rw[<-Yu];exact hf.1.QO hv, .iv _ _ ?_⟩;have:=hr k i q h3 hq;rw[hv]at this;exact this
 |row j off n fs hj hle=>
  have d0:=hf.1.obj j _ hj;have a0:(∀(k:Nat) (e:List PV),fs[k]? =some e->e.length=sz)-> ∀(k:Nat) (e:List PV),((fs.drop off).take n)[k]? =some e->e.length=sz:=by
   intro h k e he;rw[XY]at he;split at he
   ·rw[Yc]at he;exact h _ e he
   ·cases he
  cases hy with
  |ph _ _ hU=>exact⟨by simp,none,0,by simp,by simp⟩
  |sle _ _ cap hU hc he=>exact⟨by simp,some ⟨N.aI j,0,none⟩,cap,by simp,by simp⟩
  |sl _ _ _ _ cap hU h0 hl hc he=>
   rcases d0 with rfl|⟨hsz,c,T,g1,g2,g3,g4,g5⟩
   ·simp at hle;omega
   refine⟨a0 g4,_,cap,by simp;rw[Nat.min_eq_left (by omega)],fun _=>⟨N.aI j,off*sz,rfl,fun i p hp=>?_⟩⟩;obtain⟨k,e,i',h1,h2,rfl⟩:=p5 (a0 g4) i p hp;rw[XY]at h1;split at h1
   ·rename_i hk;rw[Yc]at h1;have f0:i'<sz:=by rw[<-g4 _ e h1];exact(WX.1 h2).1
    have e0:off+k<fs.length:=(WX.1 h1).1;have hlt:(off+k)*sz+i'<c.size:=by
     have:(off+k+1)*sz<=fs.length*sz:=Xw _ e0;rw[Yj]at this;omega
    refine⟨c.getD ((off+k)*sz+i') undef,?_,g5 _ e _ p h1 h2⟩;rw[show off*sz+(k*sz+i')=(off+k)*sz+i' by rw[Yj];omega];simp[World.cell?,g1,WT,hlt]
   ·cases h1
 |nil=>
  cases hy with
  |iv _ _ hi=>cases hi with
   |v=>exact⟨by simp,none,0,rfl,by simp⟩
theorem AE{l:List PV}{b off:Nat}(h: ∀j p,l[j]? =some p-> ∃u,w.cell? ⟨b,off+j,none⟩=some u∧VR M N (· <s.nx) p u):
  ∃vs:List Value,vs.length=l.length∧(∀(j:Nat) (u:Value),vs[j]? =some u->w.cell? ((⟨b,off,none⟩:Addr).add j)=some u)∧ ∀(j:Nat) (p:PV),l[j]? =some p->VR M N (· <s.nx) p (vs.getD j undef):=by
 refine⟨(Xc l.length).map fun j=>(w.cell? ⟨b,off+j,none⟩).getD undef,by simp,fun j u hu=>?_,fun j p hp=>?_⟩
 ·rw[W1,W6]at hu;obtain⟨j',a0,rfl⟩:=hu;obtain⟨h1,h2⟩:=WX.1 a0;simp at h1 h2;subst h2;obtain⟨u,hu,_⟩:=h j _ (WY h1);rw[gU,hu];rfl
 ·have hlt:j<l.length:=(WX.1 hp).1;obtain⟨u,hu,hv⟩:=h j p hp;rw[WU];simp[hlt,hu,hv]
theorem nL(t ty e:TypeId)(i:TypeInfo)(ht:P.underlying t=some (.slice e))(hi:P.info? e=some i)(T:TypeId)
  (g a0 b0:Nat) (c0:Array Value) (hg:w.heap[g]? =some (.cells c0 T (0,0)))
  (a:Addr) (m c:Nat) (news:List Value) (hl:news.length=m*i.size) (d0: ∀(j:Nat) (u:Value),news[j]? =some u->w.cell? (a.add j)=some u) (h1: ∀u∈news,u.oneCell'=true)
  (e0:a0+m<=b0) (f0:a0*i.size+news.length<=c0.size):
  (Builtin.append_ #[t,t] ty #[.slice (some ⟨g,0,none⟩) a0 b0, .slice (some a) m c]).run P w=
   .ok (.slice (some ⟨g,0,none⟩) (a0+m) b0) (w.setRow g (c0.toList.take (a0*i.size)++news++c0.toList.drop (a0*i.size+news.length)).toArray):=by
 have hf:=run_firstCells_some (P:=P) w i.size m a m c news hl d0;have g0:=run_storeCells_at P g (a0*i.size) T news 0 c0 w hg (by simpa using f0) h1;simp only[Y8]at g0;simp[Builtin.append_,run_underlying ht,sizeOf,typeInfo,hi,Builtin.lenOf,e0,hf,Addr.add_lit,g0]
theorem oZ(t ty e:TypeId)(i:TypeInfo)(ht:P.underlying t=some (.slice e))(hi:P.info? e=some i)(so:Option Addr)(a0 b0:Nat)(c0:a0<=b0)(ao:Option Addr)(c:Nat)(hs:so=none∨ ∃b o,so=some ⟨b,o,none⟩):
  (Builtin.append_ #[t,t] ty #[.slice so a0 b0, .slice ao 0 c]).run P w= .ok (.slice so a0 b0) w:=by
 have hf:(Builtin.firstCells i.size 0 (.slice ao 0 c)).run P w= .ok #[] w:=by
  cases ao with
  |none=>simp[Builtin.firstCells]
  |some a=>simp[Builtin.firstCells,loadCells,loadCellsFrom]
 rcases hs with rfl|⟨b,o,rfl⟩
 ·simp[Builtin.append_,run_underlying ht,sizeOf,typeInfo,hi,Builtin.lenOf,c0,hf]
 ·simp[Builtin.append_,run_underlying ht,sizeOf,typeInfo,hi,Builtin.lenOf,c0,hf,storeCells]
def uk(s:AS)(i sz:Nat)(es news:List (List PV)):AS:=match s with|⟨f,h,n⟩=>⟨f,(n,some (.row sz (es++news)))::(i,none)::h,n+1⟩
theorem LQ(s:AS)(i sz:Nat)(es news:List (List PV)):(uk s i sz es news).h=(s.nx,some (.row sz (es++news)))::(i,none)::s.h:=by cases s;rfl
theorem S0(s:AS)(i sz:Nat)(es news:List (List PV)):(uk s i sz es news).f=s.f:=by cases s;rfl
theorem mY(s:AS)(i sz:Nat)(es news:List (List PV)):(uk s i sz es news).nx=s.nx+1:=by cases s;rfl
theorem qy{i sz:Nat}{es news:List (List PV)}{M':Mem}{N':Nm}{w':World}(hf:Fits M N s nt a w)(hx:Ext M N (· <s.nx) s.h w M' N' (· <s.nx+1) ((s.nx,some (.row sz (es++news)))::(i,none)::s.h) w')
  (hr:Rel M' N' (· <s.nx+1) ((s.nx,some (.row sz (es++news)))::(i,none)::s.h) w'):
  Ext M N (· <s.nx) s.h w M' N' (· <(uk s i sz es news).nx) (uk s i sz es news).h w'∧Fits M' N' (uk s i sz es news) nt a w':=by
 rw[LQ,mY];refine⟨hx,?_,?_,hf.2.2⟩
 ·rw[LQ,mY];exact hr
 ·rw[S0,mY];exact hf.2.1.ext hx
theorem Ext.swap{U U':Nat->Prop}{h h':AH}{M':Mem}{N':Nm}{w':World}{i j:Nat}(a0:i≠j){o p:Option AO}(hx:Ext M N U h w M' N' U' ((i,o)::(j,p)::h') w'):Ext M N U h w M' N' U' ((j,p)::(i,o)::h') w':=by
 have e: ∀k,AH.get ((j,p)::(i,o)::h') k=AH.get ((i,o)::(j,p)::h') k:=by
  intro k;simp only[AH.au];by_cases h1:k=i
  ·subst h1;rw[be a0,am Z,am Z]
  ·simp[h1]
 exact⟨hx.os,hx.tape,hx.output,hx.size,hx.jq,hx.rF,hx.jM,hx.nm,hx.ule,fun k o hk=>hx.iW k o (by rw[<-e];exact hk)⟩
theorem SZ(w1:cz P ty){o:Oper}{x y:Operand}{t u:TypeId}(ho:o.op= .call ⟨.builtin .append, #[x,y], #[t,t]⟩){e eu:cI}(ht:ty t=some e)(hk:e.k= .bb (.slice u))(hu:ty u=some eu)
  {i a0 sz:Nat} {es news:List (List PV)} {py:PV} (hx:ev s.f x= .sl i 0 a0 sz) (hi:s.h.get i=some (.row sz es)) (d0:es.length=a0) (k2:eu.size=sz) (hz:eu.zero.cells.size=sz) (m2:0<sz)
  (l2:ev s.f y=py) (hy:Src s.h sz py news) (l1: ∀e∈news,jb e=true) (hb:(a0+news.length)*eu.bytes<=140737488355328) (s2:a0+news.length<=140737488355328)
  {s':AS} (hp:putDst nt o (.sl s.nx 0 (a0+news.length) sz) (uk s i sz es news)=some s'):OT P nt o s (fun t=>t=s'):=by
 refine OT.value hp fun M N a w hf=>?_;subst k2;obtain⟨⟨ii,b1,f1,f2,x1⟩,_⟩:=w1 u _ hu
 have z0:P.underlying t=some (.slice u):=by
  have:=(w1 t _ ht).2.1;rw[hk]at this;exact this.1
 have i1:=bf hf.2.1 x;rw[hx]at i1;have a2:=bf hf.2.1 y;rw[l2]at a2;obtain⟨o0,ao,c,i2,j0⟩:=hy.ok hf a2;have b0: ∀v w',(Builtin.append_ #[t,t] o.type #[a.eval x,a.eval y]).run P w= .ok v w'->(execOp a.eval o).run P w= .ok (.value v) w':=by
  intro v w' h;simp only[execOp,ho,resolve];simp[invoke,builtin,h]
 rw[i2]at b0;have hin:i<s.nx:=hf.1.used i _ hi;have hne:s.nx≠i:=by omega
 have p2:=hf.1.obj i _ hi;have g0:(a0+news.length)*ii.bytes<=140737488355328:=by rw[f2];exact hb
 have q0: ∀(f0 vs:List Value) (cap:Nat),f0.length=es.length*eu.size->vs.length=news.length*eu.size->(∀(k:Nat) (e:List PV) (j:Nat) (p:PV),es[k]? =some e->e[j]? =some p->VR M N (· <s.nx) p (f0.getD (k*eu.size+j) undef))->
   (∀(k:Nat) (e:List PV),es[k]? =some e->e.length=eu.size)->(∀(j:Nat) (p:PV),news.flatten[j]? =some p->VR M N (· <s.nx) p (vs.getD j undef))->a0+news.length<=cap->cap<=maxLen->0<a0+news.length->
   ∀z:Array Value,z=f0.toArray++vs.toArray++Builtin.zeroCells eu.zero.cells (cap-(a0+news.length))->
   ∃M' N',Ext M N (· <s.nx) s.h w M' N' (· <(uk s i eu.size es news).nx) (uk s i eu.size es news).h (w.drew.alloc (.cells z u))∧Fits M' N' (uk s i eu.size es news) nt a (w.drew.alloc (.cells z u))∧
    VR M' N' (· <(uk s i eu.size es news).nx) (.sl s.nx 0 (a0+news.length) eu.size) (.slice (some ⟨w.heap.size,0,none⟩) (a0+news.length) cap):=by
  intro f0 vs cap p1 n0 j2 v1 n2 s0 c2 r1 z n1;have k0:z.size=cap*eu.size:=by
   rw[n1,ZC,ZC,size_zeroCells,hz];simp only[List.size_toArray,p1,n0,d0];rw[<-Yj,<-Yj,Nat.add_sub_cancel' s0]
  obtain⟨N',h1,h2,h3,h4,h5⟩:=hf.1.drew.alloc (.cells z u) (.row eu.size (es++news)) z.size (fun N' g1 g2 g3=>by
   refine .inr ⟨m2,z,u,by rw[g1];exact heap_alloc_new _ _,g2.symm,?_,fun k e he=>?_,fun k e j p he hj=>?_⟩
   ·rw[k0,WW,d0];exact Xw _ s0
   ·rcases X3 k es.length with hk|hk
    ·rw[Xf hk]at he;exact v1 k e he
    ·rw[Xj hk]at he;exact o0 _ e he
   ·rcases X3 k es.length with hk|hk
    ·rw[Xf hk]at he;have t1:j<eu.size:=by rw[<-v1 k e he];exact(WX.1 hj).1
     have hlt:k*eu.size+j<f0.length:=by
      rw[p1];have:(k+1)*eu.size<=es.length*eu.size:=Xw _ hk;rw[Yj]at this;omega
     have:=j2 k e j p he hj;have e1:z.getD (k*eu.size+j) undef=f0.getD (k*eu.size+j) undef:=by
      rw[n1,WT,Array.append_assoc,X8 (by simpa using hlt),WU];simp
     rw[e1];exact this.mono (.refl _) g3 (fun i hi=>by omega)
    ·rw[Xj hk]at he;have t1:j<eu.size:=by rw[<-o0 _ e he];exact(WX.1 hj).1
     have o1:k-es.length<news.length:=(WX.1 he).1;have u1:=ub o0 _ e j p he hj;have hlt:(k-es.length)*eu.size+j<vs.length:=by
      rw[n0];have:(k-es.length+1)*eu.size<=news.length*eu.size:=Xw _ o1;rw[Yj]at this;omega
     have m0:k*eu.size+j=f0.length+((k-es.length)*eu.size+j):=by
      rw[p1,Nat.sub_mul];have:es.length*eu.size<=k*eu.size:=Xw _ hk;omega
     have:=n2 _ p u1;have e1:z.getD (k*eu.size+j) undef=vs.getD ((k-es.length)*eu.size+j) undef:=by
      rw[n1,WT,m0,X8 (by simp;omega),Array.getElem?_append_right (by simp),WU];simp
     rw[e1];exact this.mono (.refl _) g3 (fun i hi=>by omega))
  have d2:=(h5.del i).swap (Ne.symm hne);have b2:=(((Ext.drew (M:=M) (N:=N) (U:=(· <s.nx)) (h:=s.h) (w:=w)).trans h4).del i).swap (Ne.symm hne);obtain⟨g1,g2⟩:=qy hf b2 d2;refine⟨M,N',g1,g2,?_⟩;rw[mY];have:=VR.sl (M:=M) (N:=N') (U:=(· <s.nx+1)) s.nx 0 (a0+news.length) eu.size cap (by omega) r1 s0 c2 (by rw[h2,k0];simp);rw[h1,Za]at this;exact this
 have v0: ∀vs:List Value,vs.length=news.flatten.length->vs.length=news.length*ii.size:=fun vs h=>by rw[h,p4 o0,f1]
 generalize a.eval x=vx at i1 b0;cases i1 with
 |ph _ _ hU=>
  have he:es=[]:=by simpa using d0
  subst he;by_cases hm:news=[]
  ·subst hm;have c0:=oZ (P:=P) (w:=w) t o.type u ii z0 b1 none 0 0 (W0 _) ao c (.inl Z);obtain⟨h1,h2⟩:=hf.1.Me eu.size;obtain⟨g1,g2⟩:=qy (es:=[]) (news:=[]) (i:=i) hf ((h1.del i).swap (Ne.symm hne)) ((h2.del i).swap (Ne.symm hne));exact⟨_,w,M,N,b0 _ _ c0,g1,g2, .ph _ _ (by rw[mY];omega)⟩
  ·obtain⟨b,off,s1,e0⟩:=j0 hm;subst s1;obtain⟨vs,n0,d1,a1⟩:=AE (s:=s) e0;have y1:0<news.length:=List.length_pos_iff.2 hm;have c0:=run_append_nil (P:=P) w t o.type u ii eu.zero z0 b1 x1 ⟨b,off,none⟩ news.length c vs (v0 vs n0) d1 y1 (by omega) (by simp only[YB,Xk]at g0;omega);obtain⟨M',N',g1,g2,g3⟩:=q0 [] vs (grownCap w news.length 0 u) (by simp) (by rw[n0,p4 o0]) (by simp) (by simp) a1 (by simpa using grownCap_ge w news.length 0 u) (grownCap_le_maxLen w _ _ _ (by simp only[maxLen];omega)) (by omega) _ Z;simp only[Xk,Y5] at*
   exact⟨_,_,M',N',b0 _ _ c0,by simpa using g1,by simpa using g2,by simpa using g3⟩
 |sl _ _ _ _ cap hU h0 hl hc hext=>
  rcases p2 with rfl|⟨hsz0,cur,T,q1,q2,q3,q4,q5⟩
  ·simp at d0;omega
  have r0:(AO.row eu.size es).real=true:=by cases es with
   |nil=>simp at d0;omega
   |cons=>rfl
  rw[Za]at b0;have t0:cur.size=cap*eu.size:=by rw[q2,<-hext,Xk]
  by_cases hm:news=[]
  ·subst hm;have c0:=oZ (P:=P) (w:=w) t o.type u ii z0 b1 (some ⟨N.aI i,0,none⟩) a0 cap hl ao c (.inr ⟨_,_,rfl⟩)
   obtain⟨h1,h2⟩:=hf.1.move hi r0 w (.row eu.size (es++ [])) Z Z Z Z (fun _ _=>rfl) (by
    rw[XE]
    exact .inr ⟨hsz0,cur,T,by simpa using q1,by simpa using q2,q3,q4,fun k e j p he hj=>(q5 k e j p he hj).mono (.refl _) (N.gl _ _ _) (fun i hi=>by omega)⟩)
   obtain⟨g1,g2⟩:=qy (es:=es) (news:=[]) (i:=i) hf h1 h2;refine⟨_,w,M,_,b0 _ _ c0,g1,g2,?_⟩;have:=VR.sl (M:=M) (N:=N.with s.nx (N.aI i) (N.ext i)) (U:=(· <s.nx+1)) s.nx 0 a0 eu.size cap (by omega) h0 hl hc (by simpa using hext);rw[mY];simpa using this
  ·obtain⟨b,off,s1,e0⟩:=j0 hm;subst s1;obtain⟨vs,n0,d1,a1⟩:=AE (s:=s) e0;have y1:0<news.length:=List.length_pos_iff.2 hm;have w0:vs.length=news.length*eu.size:=by rw[n0,p4 o0]
   have x0: ∀(j:Nat) (v:Value),(cur.toList.take (a0*eu.size))[j]? =some v->w.cell? ((⟨N.aI i,0,none⟩:Addr).add j)=some v:=by
    intro j v hv;rw[XY]at hv;split at hv
    ·rw[gU,Xk];simp only[World.cell?,q1];simpa using hv
    ·cases hv
   have t2:a0*eu.size<=cur.size:=by rw[t0];exact Xw _ hl
   have p0: ∀(k:Nat) (e:List PV) (j:Nat) (p:PV),es[k]? =some e->e[j]? =some p->k*eu.size+j<a0*eu.size:=by
    intro k e j p he hj;have hk:k<a0:=by rw[<-d0];exact(WX.1 he).1
    have t1:j<eu.size:=by rw[<-q4 k e he];exact(WX.1 hj).1
    have:(k+1)*eu.size<=a0*eu.size:=Xw _ hk;rw[Yj]at this;omega
   by_cases i0:a0+news.length<=cap
   ·have j1:a0*eu.size+vs.length<=cur.size:=by rw[w0,<-Yj,t0];exact Xw _ i0
    have y0: ∀v∈vs,v.oneCell'=true:=by
     intro v hv;obtain⟨j,hj⟩:=XP hv;have e2:j<news.flatten.length:=by rw[<-n0];exact(WX.1 hj).1
     have hp:=WY e2;obtain⟨k,e,i',h1,h2,_⟩:=p5 o0 j _ hp;have:=(a1 j _ hp).one (oi (l1 e (Xo h1)) i' _ h2);rw[WU,hj]at this;exact this
    have c0:=nL (P:=P) (w:=w) t o.type u ii z0 b1 T (N.aI i) a0 cap cur q1 ⟨b,off,none⟩ news.length c vs (v0 vs n0) d1 y0 i0 (by rw[f1];exact j1);rw[f1]at c0;generalize hL:(cur.toList.take (a0*eu.size)++vs++cur.toList.drop (a0*eu.size+vs.length)).toArray=L at c0;have z1:L.size=cur.size:=by rw[<-hL];simp;omega
    have m1:=setRow_heap w (N.aI i) cur L T (0,0) q1;have r2: ∀j,j<a0*eu.size->L.getD j undef=cur.getD j undef:=by
     intro j hj;rw[<-hL,WT,WT];simp only[Yf];rw[Xa,Xf (by simp;omega),XY,am hj,X4]
    have o2: ∀j,j<vs.length->L.getD (a0*eu.size+j) undef=vs.getD j undef:=by
     intro j hj;rw[<-hL,WT,WU];simp only[Yf];rw[Xf (by simp;omega),Xj (by simp;omega)];congr 2;simp;omega
    obtain⟨h1,h2⟩:=hf.1.move hi r0 (w.setRow (N.aI i) L) (.row eu.size (es++news)) Z Z Z (by simp) (fun b hb=>by
      simp only[World.setRow,XR]
      rw[be (fun e=>hb e.symm)]) (by
     refine .inr ⟨hsz0,L,T,by simpa using m1,by rw[z1];simpa using q2,?_,fun k e he=>?_,fun k e j p he hj=>?_⟩
     ·rw[z1,t0,WW,d0];exact Xw _ i0
     ·rcases X3 k es.length with hk|hk
      ·rw[Xf hk]at he;exact q4 k e he
      ·rw[Xj hk]at he;exact o0 _ e he
     ·rcases X3 k es.length with hk|hk
      ·rw[Xf hk]at he;rw[r2 _ (p0 k e j p he hj)];exact(q5 k e j p he hj).mono (.refl _) (N.gl _ _ _) (fun i hi=>by omega)
      ·rw[Xj hk]at he;have t1:j<eu.size:=by rw[<-o0 _ e he];exact(WX.1 hj).1
       have o1:k-es.length<news.length:=(WX.1 he).1;have u1:=ub o0 _ e j p he hj;have hlt:(k-es.length)*eu.size+j<vs.length:=by
        rw[w0];have:(k-es.length+1)*eu.size<=news.length*eu.size:=Xw _ o1;rw[Yj]at this;omega
       have m0:k*eu.size+j=a0*eu.size+((k-es.length)*eu.size+j):=by
        rw[<-d0,Nat.sub_mul];have:es.length*eu.size<=k*eu.size:=Xw _ hk;omega
       rw[m0,o2 _ hlt]
       exact(a1 _ p u1).mono (.refl _) (N.gl _ _ _) (fun i hi=>by omega))
    obtain⟨g1,g2⟩:=qy (es:=es) (news:=news) (i:=i) hf h1 h2;refine⟨_,_,M,_,b0 _ _ c0,g1,g2,?_⟩;have:=VR.sl (M:=M) (N:=N.with s.nx (N.aI i) (N.ext i)) (U:=(· <s.nx+1)) s.nx 0 (a0+news.length) eu.size cap (by omega) (by omega) i0 hc (by simpa using hext);rw[mY];simpa using this
   ·have c0:=run_append_grow (P:=P) w t o.type u ii eu.zero z0 b1 x1 ⟨N.aI i,0,none⟩ a0 cap (cur.toList.take (a0*eu.size)) (by rw[f1];simp;omega) x0 ⟨b,off,none⟩ news.length c vs (v0 vs n0) d1 (by omega) (by omega)
     (growslice_fits (by omega) g0)
    obtain⟨M',N',g1,g2,g3⟩:=q0 (cur.toList.take (a0*eu.size)) vs (grownCap w (a0+news.length) cap u) (by rw[d0];simp;omega) w0 (fun k e j p he hj=>by
      have:=q5 k e j p he hj;have hlt:=p0 k e j p he hj;rw[WU,XY,am hlt,X4]
      rw[WT]at this;exact this) q4 a1 (grownCap_ge w _ _ _) (grownCap_le_maxLen w _ _ _ (by simp only[maxLen];omega)) (by omega) _ Z
    exact⟨_,_,M',N',b0 _ _ c0,g1,g2,g3⟩
def RZ(h:AH)(sz:Nat):PV->Option (List (List PV))
 | .iv (.dq sz' n el)=>match Xn sz' sz with
  |true=>some ((Xc n).map fun k=>(el k).map .iv)
  |false=>none
 | .iv (.v (.slice none 0 0))=>some []
 | .sl j off n sz'=>match Xn sz' sz,h.get j with
  |true,some (.row sz2 fs)=>match Xn sz2 sz,YQ (off+n) fs.length with
   |true,true=>some ((fs.drop off).take n)
   |_,_=>none
  |_,_=>none
 |_=>none
theorem Nv{h:AH}{sz:Nat}{p:PV}{news:List (List PV)}(hs:RZ h sz p=some news):Src h sz p news:=by
 unfold RZ at hs;split at hs
 ·split at hs
  ·rename_i hb;simp only[WV]at hs;have:=Xh hb;subst this;subst hs;exact .dq _ _
  ·cases hs
 ·simp only[WV]at hs;subst hs;exact .nil
 ·split at hs
  ·rename_i b0 hj;split at hs
   ·rename_i a0 c0;simp only[WV]at hs;have h1:=Xh b0;have h2:=Xh a0;subst h1;subst h2;subst hs;exact .row _ _ _ _ hj (WR c0)
   ·cases hs
  ·cases hs
 ·cases hs
def allOnes:List (List PV)->Bool
 | []=>true
 |e::r=>match jb e with
  |true=>allOnes r
  |false=>false
theorem mD: ∀{l:List (List PV)},allOnes l=true-> ∀e∈l,jb e=true
 | [],_,e,h=>by cases h
 |c::l,h,e,he=>by
  simp only[allOnes]at h;split at h
  ·rename_i hc;rcases Xb.1 he with rfl|he
   ·exact hc
   ·exact mD h e he
  ·cases h
def wY(s:AS)(t sz:Nat):AS:=match s with|⟨f,h,n⟩=>⟨(t, .sl n 0 0 sz)::f,(n,some (.row sz []))::h,n+1⟩
theorem Md{o:Oper}{R:AS->Prop}{t sz:Nat}(ht:s.f.get t= .iv (.v (.slice none 0 0)))(h:OT P nt o (wY s t sz) R):OT P nt o s R:=by
 intro M N a w hf K Z hk;obtain⟨sf,sh,sn⟩:=s;obtain⟨h1,h2⟩:=hf.1.Me sz;have b0:Fits M N (wY ⟨sf,sh,sn⟩ t sz) nt a w:=by
  refine⟨h2,fun k=>?_,hf.2.2⟩;simp only[wY];rw[AF.au];split
  ·rename_i a0;subst a0;have:=hf.2.1 k;simp only at ht this;rw[ht]at this;generalize a.tmps.getD k undef=v at this;cases this with
   |iv _ _ h=>cases h with
    |v=>exact .ph _ _ (YC _)
  ·exact(hf.2.1 k).mono (.refl _) (.refl _ _) (fun i hi=>YS hi)
 exact h M N a w b0 K Z fun M' N' s' a' w' hx c0 hr=>hk M' N' s' a' w' (h1.trans hx) c0 hr
def ET(s:AS)(op:Op):Option (Nat×TypeId):=
 match op with
 | .call ⟨.builtin .append,args,tys⟩=>match args.toList,tys.toList with
  | [.tmp t0,_],[t,_]=>match s.f.get t0 with
   | .iv (.v (.slice none 0 0))=>some (t0,t)
   |_=>none
  |_,_=>none
 |_=>none
theorem HX{op:Op}{t0:Nat}{t:TypeId}(h:ET s op=some (t0,t)):s.f.get t0= .iv (.v (.slice none 0 0)):=by
 unfold ET at h;split at h
 ·split at h
  ·split at h
   ·rename_i hg;simp only[WV,W9]at h;rw[<-h.1];exact hg
   ·cases h
  ·cases h
 ·cases h
end
end Go.Al
namespace Go.Al
open Go.MapKept
section
variable {kc:KC} {V:Type} {M:Mem} {e:V->IV} {m:List (kc.K×V)} {ents:Array MapEntry} {clock:Nat}
theorem lA.K0(h:lA M kc e m ents clock){j:Nat}(hj:j<ents.size):ents.getD j default=ents[j]:=by simp[WT,hj]
theorem lA.set(h:lA M kc e m ents clock){i:Nat}{k:kc.K}{v:V}{y:Value}(hv:IR M (e v) y):lA M kc e (m.set i (k,v)) (ents.modify i fun x=>{x with key:=kc.ek k,val:=y}) clock:=by
 have hb: ∀(j:Nat) (f:MapEntry),(ents.modify i fun x=>{x with key:=kc.ek k,val:=y})[j]? =some f-> ∃g,ents[j]? =some g∧g.born=f.born:=by
  intro j f hf;rw[XR]at hf;split at hf
  ·obtain⟨g,hg,rfl⟩:=W6.1 hf;exact⟨g,hg,rfl⟩
  ·exact⟨f,hf,rfl⟩
 have hp: ∀(j:Nat) (x:kc.K×V),(m.set i (k,v))[j]? =some x->(j=i∧x=(k,v)∧i<m.length)∨(j≠i∧m[j]? =some x):=by
  intro j x hx;rw[XK]at hx;split at hx
  ·rename_i a0;split at hx
   ·simp only[WV]at hx;exact .inl ⟨a0.symm,hx.symm,by assumption⟩
   ·cases hx
  ·rename_i a0;exact .inr ⟨fun e=>a0 e.symm,hx⟩
 refine⟨by simp[h.size],fun j x hx=>?_,fun j x hx=>?_,fun j l f g hf hg b0=>?_,fun j f hf=>?_⟩
 ·rcases hp j x hx with⟨rfl,rfl,hlt⟩|⟨h1,h2⟩
  ·have:j<ents.size:=by rw[h.size];exact hlt
   rw[WT,XR,am Z,XS this];rfl
  ·have:=h.key j x h2;rw[WT,XR,be (fun e=>h1 e.symm),<-WT];exact this
 ·rcases hp j x hx with⟨rfl,rfl,hlt⟩|⟨h1,h2⟩
  ·have:j<ents.size:=by rw[h.size];exact hlt
   rw[WT,XR,am Z,XS this];exact hv
  ·have:=h.val j x h2;rw[WT,XR,be (fun e=>h1 e.symm),<-WT];exact this
 ·obtain⟨f',h1,h2⟩:=hb j f hf;obtain⟨g',h3,h4⟩:=hb l g hg;exact h.inj j l f' g' h1 h3 (by rw[h2,h4,b0])
 ·obtain⟨f',h1,h2⟩:=hb j f hf;rw[<-h2];exact h.lt j f' h1
theorem lA.push(h:lA M kc e m ents clock){k:kc.K}{v:V}{y:Value}(hv:IR M (e v) y):lA M kc e (m++ [(k,v)]) (ents.push {key:=kc.ek k,val:=y,born:=clock}) (clock+1):=by
 have hp: ∀(j:Nat) (x:kc.K×V),(m++ [(k,v)])[j]? =some x->(j=ents.size∧x=(k,v))∨(j<ents.size∧m[j]? =some x):=by
  intro j x hx;rw[h.size];rcases X3 j m.length with hj|hj
  ·rw[Xf hj]at hx;exact .inr ⟨hj,hx⟩
  ·rw[Xj hj]at hx;have h0:j-m.length=0:=by
    rcases Nat.eq_zero_or_pos (j-m.length) with h1|h1
    ·exact h1
    ·rw[Zc (by simp;omega)]at hx;cases hx
   rw[h0]at hx;exact .inl ⟨by omega,by simpa using hx.symm⟩
 have hb: ∀(j:Nat) (f:MapEntry),(ents.push {key:=kc.ek k,val:=y,born:=clock})[j]? =some f->(j=ents.size∧f.born=clock)∨(j<ents.size∧ents[j]? =some f∧f.born<clock):=by
  intro j f hf;rw[Zh]at hf;split at hf
  ·rename_i hj;simp only[WV]at hf;subst hf;exact .inl ⟨hj,rfl⟩
  ·exact .inr ⟨(Yd.1 hf).1,hf,h.lt j f hf⟩
 refine⟨by simp[h.size],fun j x hx=>?_,fun j x hx=>?_,fun j l f g hf hg a0=>?_,fun j f hf=>?_⟩
 ·rcases hp j x hx with⟨rfl,rfl⟩|⟨h1,h2⟩
  ·simp[WT]
  ·have:=h.key j x h2;rw[WT,Zh,be (by omega),<-WT];exact this
 ·rcases hp j x hx with⟨rfl,rfl⟩|⟨h1,h2⟩
  ·simpa[WT]using hv
  ·have:=h.val j x h2;rw[WT,Zh,be (by omega),<-WT];exact this
 ·rcases hb j f hf with⟨h1,h2⟩|⟨h1,h2,h3⟩<;>rcases hb l g hg with⟨h4,h5⟩|⟨h4,h5,h6⟩
  ·omega
  ·omega
  ·omega
  ·exact h.inj j l f g h2 h5 a0
 ·rcases hb j f hf with⟨h1,h2⟩|⟨h1,h2,h3⟩<;>omega
theorem lA.erase(h:lA M kc e m ents clock){i:Nat}(hi:i<m.length):lA M kc e (m.eraseIdx i) (ents.eraseIdxIfInBounds i) clock:=by
 have c0:i<ents.size:=by rw[h.size];exact hi
 have hg: ∀j,(ents.eraseIdxIfInBounds i)[j]? =if j<i then ents[j]? else ents[j+1]? :=by
  intro j;simp only[ZR,c0,dif_pos];rw[Array.getElem?_eraseIdx]
 have hm: ∀j,(m.eraseIdx i)[j]? =if j<i then m[j]? else m[j+1]? :=fun j=>List.getElem?_eraseIdx;refine⟨?_,fun j x hx=>?_,fun j x hx=>?_,fun j l f g hf a0 b0=>?_,fun j f hf=>?_⟩
 ·simp only[ZR,c0,dif_pos,Array.size_eraseIdx,List.length_eraseIdx,hi,if_true,h.size]
 ·rw[hm]at hx;rw[WT,hg];split at hx
  ·rename_i hj;rw[am hj,<-WT];exact h.key j x hx
  ·rename_i hj;rw[be hj,<-WT];exact h.key _ x hx
 ·rw[hm]at hx;rw[WT,hg];split at hx
  ·rename_i hj;rw[am hj,<-WT];exact h.val j x hx
  ·rename_i hj;rw[be hj,<-WT];exact h.val _ x hx
 ·rw[hg]at hf a0;split at hf<;>split at a0
  ·exact h.inj _ _ f g hf a0 b0
  ·have:=h.inj _ _ f g hf a0 b0;omega
  ·have:=h.inj _ _ f g hf a0 b0;omega
  ·have:=h.inj _ _ f g hf a0 b0;omega
 ·rw[hg]at hf;split at hf<;>exact h.lt _ f hf
theorem AZ(kc:KC)(k:kc.K):Instr.sameBits 10000 (kc.ek k) (kc.ek k)=true:=by
 have hs: ∀(n:Nat) (a:ByteArray),Instr.sameBits n (.string a) (.string a)=true:=by
  intro n a;cases n<;>(simp only[Instr.sameBits];rw[beq_toListBytes,AV];simp)
 have hn: ∀(n:Nat) (q:IntKind) (a:Int),Instr.sameBits n (.int q a) (.int q a)=true:=by
  intro n q a;cases n<;>simp[Instr.sameBits]
 cases kc with
 |str=>exact hs _ _
 |int q=>exact hn _ _ _
 |si q=>
  simp only[KC.ek];show((#[Value.string k.1, .int q k.2].size== #[Value.string k.1, .int q k.2].size)&&(Instr.sameBits 9999 (.string k.1) (.string k.1)&&(Instr.sameBits 9999 (.int q k.2) (.int q k.2)&&true)))=true;rw[hs,hn];rfl
end
def Rn(ty:Ty)(s:AS):Op->Option (Prop×AS)
 | .mapUpdate t m k x=>match ev s.f m with
  | .mp i=>match s.h.get i with
   |some (.map kc e z zv dv mm)=>match ty t with
    |some ⟨.bb (.map kt _),_,_,_,_⟩=>match gi ty kt with
     |some kc'=>match decide (kc'=kc),kc.dk (ev s.f k) with
      |true,some kk=>match s with
       |⟨f,h,n⟩=>xV (ev f x) fun p=>some (aH p (.iv (e (dv p))),⟨f,(i,some (.map kc e z zv dv (b6 kc mm kk (dv p))))::h,n⟩)
      |_,_=>none
     |none=>none
    |_=>none
   |_=>none
  |_=>none
 | .call ⟨.builtin .delete,args,tys⟩=>match args.toList,tys.toList with
  | [m,k],[t,_]=>match ev s.f m with
   | .mp i=>match s.h.get i with
    |some (.map kc e z zv dv mm)=>match ty t with
     |some ⟨.bb (.map kt _),_,_,_,_⟩=>match gi ty kt with
      |some kc'=>match decide (kc'=kc),kc.dk (ev s.f k) with
       |true,some kk=>match s with
        |⟨f,h,n⟩=>some (True,⟨f,(i,some (.map kc e z zv dv (pg kc mm kk)))::h,n⟩)
       |_,_=>none
      |none=>none
     |_=>none
    |_=>none
   |_=>none
  |_,_=>none
 |_=>none
section
variable {P:Program} {ty:Ty} {nt:Nat} {s:AS} {M:Mem} {N:Nm} {w:World}
def xg(w:World)(b:Nat)(o:Obj):World:={w with heap:=w.heap.setIfInBounds b o}
theorem vt{nx:Nat}{h:AH}(hr:Rel M N (· <nx) h w){i:Nat}{kc:KC}{V:Type}{e:V->IV}{z:V}{zv:Value}{dv:PV->V}{mm m':List (kc.K×V)}(hi:h.get i=some (.map kc e z zv dv mm)){b0:Array MapEntry}{a0:Nat}
  (hm:lA M kc e m' b0 a0):Ext M N (· <nx) h w M N (· <nx) ((i,some (.map kc e z zv dv m'))::h) (xg w (N.aI i) (.map b0 a0))∧Rel M N (· <nx) ((i,some (.map kc e z zv dv m'))::h) (xg w (N.aI i) (.map b0 a0)):=by
 have ho:=hr.obj i _ hi;have hlt:=OR.lt ho Z;obtain⟨ents,clock,h1,h2,h3⟩:=ho;refine hr.write hi Z _ _ Z Z Z (by simp[xg]) (fun b hb=>?_) ⟨b0,a0,?_,hm,h3⟩
 ·show(w.heap.setIfInBounds _ _)[b]? =_;rw[XG,be (fun e=>hb e.symm)]
 ·show(w.heap.setIfInBounds _ _)[_]? =_;rw[XG,am Z,am hlt]
theorem mN{r:Nat}{es:Array MapEntry}{clock:Nat}(o:Obj)(hb:w.heap[r]? =some (.map es clock)):(setObj r o).run P w= .ok () (xg w r o):=by
 simp[setObj,Sem.run,hb,xg]
theorem Mi(f0:cz P ty){o:Oper}{C:Prop}{s1 s':AS}(h:Rn ty s o.op=some (C,s1))(hC:C)(hp:putDst nt o .any s1=some s'):OT P nt o s (fun t=>t=s'):=by
 unfold Rn at h;split at h
 ·rename_i t m k x ho;split at h
  ·rename_i i j0;split at h
   ·rename_i V kc e z zv dv mm hi;split at h
    ·rename_i kt et _ _ _ _ he;have hu:=(f0 _ _ he).2.1.1;split at h
     ·rename_i c0 i0;split at h
      ·rename_i kk hd o0;have hd:=of_decide_eq_true hd;subst hd;obtain⟨f,hh,n⟩:=s;simp only[eF,WV,W9]at h;obtain⟨rfl,rfl⟩:=h;refine OT.skip hp fun M N a w hf=>?_;have r0:=Li o0 (bf hf.2.1 k);have e0:=bf hf.2.1 m;simp only at j0;rw[j0]at e0
       have s0:IR M (e (dv (ev f x))) (a.eval x):=by
        have:=hC M N (· <n) _ (bf hf.2.1 x);generalize a.eval x=y at this;cases this with
        |iv _ _ h=>exact h
       obtain⟨ents,clock,h1,h2,h3⟩:=hf.1.obj i _ hi;have k0:=pV (P:=P) (w:=w) f0 i0 kk false 9998;have d0:=sX (P:=P) (w:=w) f0 i0 kk h2.keys;have hg:(getObj (N.aI i)).run P w= .ok (.map ents clock) w:=by simp[getObj,Sem.run,h1]
       have m0: ∀b0 a0,lA M c0 e (b6 c0 mm kk (dv (ev f x))) b0 a0->(Instr.mapUpdate t (.map (some (N.aI i))) (c0.ek kk) (a.eval x)).run P w= .ok () (xg w (N.aI i) (.map b0 a0))->
         ∃w' M' N',(execOp a.eval o).run P w= .ok .skip w'∧Ext M N (· <n) hh w M' N' (· <n) ((i,some (.map c0 e z zv dv (b6 c0 mm kk (dv (ev f x)))))::hh) w'∧
          Fits M' N' ⟨f,(i,some (.map c0 e z zv dv (b6 c0 mm kk (dv (ev f x)))))::hh,n⟩ nt a w':=by
        intro b0 a0 g1 g2;obtain⟨g3,g4⟩:=vt hf.1 hi g1;refine⟨_,M,N,?_,g3,g4,hf.2.1,hf.2.2⟩;have q0:a.eval m= .map (some (N.aI i)):=by
         generalize a.eval m=y at e0;cases e0;rfl
        simp only[execOp,ho,q0,r0];simp[g2]
       cases hfi:kT c0 mm kk with
       |none=>
        obtain⟨_,_,g3,_⟩:=lG hfi;rw[hfi]at d0;refine m0 _ _ (by rw[g3];exact h2.push s0) ?_;simp[Instr.mapUpdate,run_underlying hu,hg,k0,d0,mN (P:=P) _ h1]
       |some j=>
        obtain⟨v,g0,_,_,g3,_⟩:=lF hfi;rw[hfi]at d0;refine m0 _ _ (by rw[g3];exact h2.set s0) ?_;have hj:j<ents.size:=by rw[h2.size];exact(WX.1 g0).1
        have t0:=h2.key j _ g0;rw[h2.K0 hj]at t0;have w0:(Instr.keyThatStays (c0.ek kk) (c0.ek kk)).run P w= .ok (c0.ek kk) w:=by simp[Instr.keyThatStays,AZ]
        simp[Instr.mapUpdate,run_underlying hu,hg,k0,d0,hj,t0,w0,mN (P:=P) _ h1]
      ·cases h
     ·cases h
    ·cases h
   ·cases h
  ·cases h
 ·rename_i args v0 ho;split at h
  ·rename_i m k t t' n0 p0;have ha:args= #[m,k]:=by rw[<-Yr (xs:=args),n0]
   have ht:v0= #[t,t']:=by rw[<-Yr (xs:=v0),p0]
   subst ha ht;split at h
   ·rename_i i j0;split at h
    ·rename_i V kc e z zv dv mm hi;split at h
     ·rename_i kt et _ _ _ _ he;have hu:=(f0 _ _ he).2.1.1;split at h
      ·rename_i c0 i0;split at h
       ·rename_i kk hd o0;have hd:=of_decide_eq_true hd;subst hd;obtain⟨f,hh,n⟩:=s;simp only[WV,W9]at h;obtain⟨rfl,rfl⟩:=h;refine OT.value hp fun M N a w hf=>?_;have r0:=Li o0 (bf hf.2.1 k);have e0:=bf hf.2.1 m;simp only at j0;rw[j0]at e0;obtain⟨ents,clock,h1,h2,h3⟩:=hf.1.obj i _ hi;have k0:=pV (P:=P) (w:=w) f0 i0 kk ents.isEmpty 9998;have d0:=sX (P:=P) (w:=w) f0 i0 kk h2.keys;have hg:(getObj (N.aI i)).run P w= .ok (.map ents clock) w:=by simp[getObj,Sem.run,h1]
        have m0: ∀b0 a0,lA M c0 e (pg c0 mm kk) b0 a0->(Builtin.delete_ #[t,t'] o.type #[.map (some (N.aI i)),c0.ek kk]).run P w= .ok (.tuple #[]) (xg w (N.aI i) (.map b0 a0))->
          ∃x w' M' N',(execOp a.eval o).run P w= .ok (.value x) w'∧Ext M N (· <n) hh w M' N' (· <n) ((i,some (.map c0 e z zv dv (pg c0 mm kk)))::hh) w'∧
           Fits M' N' ⟨f,(i,some (.map c0 e z zv dv (pg c0 mm kk)))::hh,n⟩ nt a w'∧VR M' N' (· <n) .any x:=by
         intro b0 a0 g1 g2;obtain⟨g3,g4⟩:=vt hf.1 hi g1;refine⟨.tuple #[],_,M,N,?_,g3,⟨g4,hf.2.1,hf.2.2⟩, .any _⟩;have q0:a.eval m= .map (some (N.aI i)):=by
          generalize a.eval m=y at e0;cases e0;rfl
         simp only[execOp,ho,resolve];simp[invoke,builtin,q0,r0,g2]
        cases hfi:kT c0 mm kk with
        |none=>
         obtain⟨_,_,_,g3⟩:=lG hfi;rw[hfi]at d0;refine m0 _ _ (by rw[g3];exact h2) ?_;simp[Builtin.delete_,run_underlying hu,hg,k0,d0,mN (P:=P) _ h1]
        |some j=>
         obtain⟨v,g0,_,_,_,g3⟩:=lF hfi;rw[hfi]at d0;refine m0 _ _ (by rw[g3];exact h2.erase (WX.1 g0).1) ?_;simp[Builtin.delete_,run_underlying hu,hg,k0,d0,mN (P:=P) _ h1]
       ·cases h
      ·cases h
     ·cases h
    ·cases h
   ·cases h
  ·cases h
 ·cases h
end
section
variable {P:Program} {ty:Ty} {nt:Nat} {s:AS} {Q:AQ} {k:List KI}
def Vi(nt:Nat)(o:Oper)(s:AS)(i:Nat)(kc:KC){V:Type}(e:V->IV)(m:List (kc.K×V))(vs:List Nat)(t:AS):Prop:=
 ((∀j,j<m.length->j∈vs)∧putDst nt o (.bT [.kb false]) s=some t)∨
 ∃j x,m[j]? =some x∧j∉vs∧putDst nt o (.bT [.kb true,kc.pk x.1,(e x.2).pv]) ⟨s.f,(i,some (.bS kc e m (j::vs) (some x)))::s.h,s.nx⟩=some t
theorem Oo{o:Oper}{it:Operand}(ho:o.op= .next it false){i:Nat}(b1:ev s.f it= .ptr i 0){kc:KC}{V:Type}{e:V->IV}{m:List (kc.K×V)}{vs:List Nat}{y0:Option (kc.K×V)}
  (hi:s.h.get i=some (.bS kc e m vs y0)) {d:Nat} (hd:o.dst=some d) (hlt:d<nt):OT P nt o s (Vi nt o s i kc e m vs):=by
 intro M N a w hf K Z hk;have hx:=bf hf.2.1 it;rw[b1]at hx;have t0:=hf.1.obj i _ hi;have o0:N.aI i<w.heap.size:=OR.lt t0 rfl;have k0:a.eval it= .pointer (some ⟨N.aI i,0,none⟩):=by
  generalize a.eval it=y at hx;cases hx;rfl
 have e0: ∀p s1,∃t,putDst nt o p s1=some t∧t={s1 with f:=(d,p)::s1.f}:=by
  intro p s1;have hb:Xi d nt=true:=XB hlt;obtain⟨f,h,n⟩:=s1;exact⟨_,by simp only[putDst,hd,hb,cond_true,eF],rfl⟩
 rcases t0 with⟨rfl,rfl,rfl,h0⟩|⟨b,ents,clock,a0,h1,h2,h3,h4,h5,h6,h7⟩
 ·have c0:(execOp a.eval o).run P w= .ok (.value (.tuple #[.bool false])) w:=by
   simp only[execOp,ho,k0];refine bO ?_;simp only[Instr.next,getObj,Sem.run_bind,Sem.run,h0,Result.andThen];rfl
  unfold Oper.wp;rw[c0];simp only[Oper.upon];obtain⟨t,ht,d0⟩:=e0 (.bT [.kb false]) s
  refine hk M N t _ w (by rw[d0];exact .refl _ _ _ _ _) (by
   rw[d0,hd]
   exact hf.put d _ _ hlt (.bT _ _ rfl fun j p hp=>by
    match j with
    |0=>simp at hp;subst hp;exact .kb _
    |j+1=>simp at hp)) (.inl ⟨fun j hj=>absurd hj (Y6 _),ht⟩)
 have hb:w.heap[b]? =some (.map ents clock):=hf.1.dF _ _ h2;have f1: ∀j,j<ents.size->ents.getD j default=ents[j]! :=fun j hj=>by simp[WT,hj,getElem!_pos]
 have m0: ∀x∈ents.toList,x.born<clock:=by
  intro x hx;obtain⟨j,hj⟩:=XP hx;exact h3.lt j x (by simpa using hj)
 unfold Oper.wp;rcases run_next_at (P:=P) w o.type (N.aI i) b clock clock a0 ents clock h1 hb m0 (W0 _) with⟨g1,g2⟩|⟨x,w0,w1,z0,g2⟩
 ·have c0:(execOp a.eval o).run P w= .ok (.value (.tuple #[.bool false])) w:=by
   simp only[execOp,ho,k0];exact bO g2
  rw[c0];simp only[Oper.upon];obtain⟨t,ht,d0⟩:=e0 (.bT [.kb false]) s
  refine hk M N t _ w (by rw[d0];exact .refl _ _ _ _ _) (by
   rw[d0,hd]
   exact hf.put d _ _ hlt (.bT _ _ rfl fun j p hp=>by
    match j with
    |0=>simp at hp;subst hp;exact .kb _
    |j+1=>simp at hp)) (.inl ⟨fun j hj=>?_,ht⟩)
  have d1:j<ents.size:=by rw[h3.size];exact hj
  have n0:(ents[j]).born∈a0:=by
   refine Decidable.byContradiction fun hn=>?_
   have:ents[j]∈leftOf ents a0:=by
    simp only[leftOf,aak];exact⟨by simp,by simpa using hn⟩
   rw[Array.eq_empty_of_size_eq_zero g1]at this;simp at this
  have:(ents[j]).born∈a0.toList:=by simpa using n0
  rw[h4,Xt]at this;obtain⟨q,hq,v0⟩:=this;have q0:q∈vs:=by simpa using hq
  have s0:q<ents.size:=by rw[h3.size];exact h5 q q0
  rw[h3.K0 s0]at v0;have:=h3.inj q j ents[q] ents[j] (by simp[s0]) (by simp[d1]) v0;rw[<-this];exact q0
 ·have c0:(execOp a.eval o).run P w= .ok (.value (.tuple #[.bool true,x.key,x.val])) (xg w1 (N.aI i) (.mapIter (some b) clock (a0.push x.born) clock)):=by
   simp only[execOp,ho,k0];rw[Sem.run_bind,g2];rfl
  rw[c0];simp only[Oper.upon];simp only[leftOf,Array.mem_toList_iff,aak]at w0;obtain⟨x0,a1⟩:=w0;obtain⟨j,hj,j0⟩:=Array.getElem_of_mem x0;have r0:j<m.length:=by rw[<-h3.size];exact hj
  have i0:m[j]? =some m[j]:=WY r0;have p0:j∉vs:=by
   intro hv;have:(ents[j]).born∈a0.toList:=by
    rw[h4,Xt];exact⟨j,by simpa using hv,by rw[h3.K0 hj]⟩
   rw[j0]at this;have:x.born∈a0:=by simpa using this
   simp[this]at a1
  obtain⟨t,ht,d0⟩:=e0 (.bT [.kb true,kc.pk m[j].1,(e m[j].2).pv]) ⟨s.f,(i,some (.bS kc e m (j::vs) (some m[j])))::s.h,s.nx⟩;have b0:w1.heap=w.heap∧w1.os=w.os∧w1.tape=w.tape∧w1.output=w.output:=by
   rcases z0 with rfl|rfl<;>exact⟨rfl,rfl,rfl,rfl⟩
  have e1:OR M N (· <s.nx) (xg w1 (N.aI i) (.mapIter (some b) clock (a0.push x.born) clock)) i (.bS kc e m (j::vs) (some m[j])):=by
   refine .inr ⟨b,ents,clock,a0.push x.born,?_,h2,h3,?_,?_,?_,?_⟩
   ·show(w1.heap.setIfInBounds _ _)[_]? =_;rw[XG,am rfl,b0.1,am o0]
   ·simp only[Array.toList_push,h4,List.reverse_cons,WZ,Xe,XN];rw[h3.K0 hj,j0]
   ·intro q hq;rcases Xb.1 hq with rfl|hq
    ·exact r0
    ·exact h5 q hq
   ·exact X5.2 ⟨p0,h6⟩
   ·intro y hy;simp only[WV]at hy;subst hy;exact⟨j,vs,rfl,i0⟩
  obtain⟨q1,q2⟩:=hf.1.write hi rfl (xg w1 (N.aI i) (.mapIter (some b) clock (a0.push x.born) clock)) _ b0.2.1 b0.2.2.1 b0.2.2.2 (by simp[xg,b0.1]) (fun c hc=>by
   show(w1.heap.setIfInBounds _ _)[c]? =_
   rw[XG,be (fun e=>hc e.symm),b0.1]) e1
  have f0:=h3.key j _ i0;have g0:=h3.val j _ i0;rw[h3.K0 hj,j0]at f0 g0
  refine hk M N t _ _ (by rw[d0];exact q1) (by
   rw[d0,hd];refine Fits.put (s:=⟨s.f,(i,some (.bS kc e m (j::vs) (some m[j])))::s.h,s.nx⟩) ⟨q2,hf.2⟩ d _ _ hlt (.bT _ _ rfl fun q p hp=>?_)
   match q with
   |0=>simp at hp;subst hp;exact .kb _
   |1=>simp at hp;subst hp;simp only[WT];simp;rw[f0];exact Gg kc _
   |2=>simp at hp;subst hp;exact Ge g0
   |q+3=>simp at hp) (.inr ⟨j,m[j],i0,p0,ht⟩)
theorem eN{all rest:List Oper}{o:Oper}{it:Operand}{i:Nat}{kc:KC}{V:Type}{e:V->IV}{m:List (kc.K×V)}{vs:List Nat}{a0:Option (kc.K×V)}{d:Nat}
  (ho:o.op= .next it false) (hg:o.guard=none) (b0:ev s.f it= .ptr i 0) (hi:s.h.get i=some (.bS kc e m vs a0)) (hd:o.dst=some d) (hlt:d<nt)
  (h1:(∀j,j<m.length->j∈vs)->GO P nt (.ops all rest::k) Q ⟨(d, .bT [.kb false])::s.f,s.h,s.nx⟩)
  (h2: ∀j x,m[j]? =some x->j∉vs->GO P nt (.ops all rest::k) Q ⟨(d, .bT [.kb true,kc.pk x.1,(e x.2).pv])::s.f,(i,some (.bS kc e m (j::vs) (some x)))::s.h,s.nx⟩):
  GO P nt (.ops all (o::rest)::k) Q s:=by
 refine ep hg (Oo ho b0 hi hd hlt) fun t ht=>?_;have hb:Xi d nt=true:=XB hlt;rcases ht with⟨g1,g2⟩|⟨j,x,g1,g2,g3⟩
 ·obtain⟨f,h,n⟩:=s;simp only[putDst,hd,hb,cond_true,eF,WV]at g2;subst g2;exact h1 g1
 ·simp only[putDst,hd,hb,cond_true,eF,WV]at g3;subst g3;exact h2 j x g1 g2
mutual
def PV.gJ(i:Nat)(x:IV):PV->PV
 | .iv x=> .iv x
 | .agg cs=> .agg (xU i x cs)
 | .bT cs=> .bT (xU i x cs)
 | .sl j off len sz'=> .sl j off len sz'
 | .ptr j o=> .ptr j o
 | .dC j a b c=> .dC j a b c
 | .fv z j=> .fv z j
 | .mp j=>bif Xn j i then .iv x else .mp j
 | .dr fn a b=> .dr fn a b
 | .kb b=> .kb b
 | .any=> .any
def xU(i:Nat)(x:IV):List PV->List PV
 | []=> []
 |p::r=>PV.gJ i x p::xU i x r
end
theorem jD(i:Nat)(x:IV): ∀l:List PV,xU i x l=l.map (PV.gJ i x)
 | []=>rfl
 |p::r=>by simp[xU,jD i x r]
theorem OW{M:Mem}{N:Nm}{n:Nat}{h:AH}{w:World}(hr:Rel M N (· <n) h w){i:Nat}{kc:KC}{V:Type}{e:V->IV}{z:V}{zv:Value}{dv:PV->V}{m:List (kc.K×V)}(hi:h.get i=some (.map kc e z zv dv m)):
  ∃M',Ext M N (· <n) h w M' N (· <n) ((i,none)::h) w∧Rel M' N (· <n) ((i,none)::h) w∧M.le M'∧
   ∀p x,VR M N (· <n) p x->VR M' N (· <n) (p.gJ i (.fw kc e z zv m)) x:=by
 have d0:=hr.eK i _ hi Z;obtain⟨ents,clock,h1,h2,h3⟩:=hr.obj i _ hi
 let M':Mem:=M.set (N.aI i) (.map ents clock) d0
 have hM:M.le M':=fun b d hb=>by
  simp only[M',Mem.set];by_cases a0:b=N.aI i
  ·rw[a0,d0]at hb;cases hb
  ·rw[be a0];exact hb
 have hnew: ∀b d,M b=none->M' b=some d->b=N.aI i:=fun b d h1 h2=>by
  simp only[M',Mem.set]at h2;by_cases a0:b=N.aI i
  ·exact a0
  ·rw[be a0,h1]at h2;cases h2
 refine⟨M',?_,?_,hM,fun p x hx=>?_⟩
 ·exact⟨rfl,rfl,rfl,W0 _,fun _ _ _=>rfl,hM,fun b d h1 h2=> .inr ⟨i,_,hi,rfl,(hnew b d h1 h2).symm⟩, .refl _ _,fun _ h=>h,fun j o hj e0=> .inr ⟨j,o,(bz j o hj).2,e0,rfl⟩⟩
 ·refine⟨fun b d hb=>?_,fun j o hj=>hr.used j o (bz j o hj).2,fun j o hj b0=>?_,fun j o hj=>?_,fun j k o p hj hk=>hr.inj j k o p (bz j o hj).2 (bz k p hk).2⟩
  ·simp only[M',Mem.set]at hb;by_cases a0:b=N.aI i
   ·rw[am a0]at hb;cases hb;rw[a0];exact h1
   ·rw[be a0]at hb;exact hr.dF b d hb
  ·obtain⟨g1,g2⟩:=bz j o hj;simp only[M',Mem.set];rw[be fun e=>g1 (hr.inj j i o _ g2 hi b0 Z e)];exact hr.eK j o g2 b0
  ·obtain⟨g1,g2⟩:=bz j o hj;exact(hr.obj j o g2).mono hM (.refl _ _) (fun _ h=>h) (hr.used j o g2) Z
 ·induction hx with
  |iv x y h=>exact .iv _ _ (h.mono hM)
  |agg cs ys hl _ ih=>
   refine .agg _ _ (by simpa[jD]using hl) fun j q hq=>?_;rw[jD,W1,W6]at hq;obtain⟨q0,c0,rfl⟩:=hq
   exact ih j q0 c0
  |bT cs ys hl _ ih=>
   refine .bT _ _ (by simpa[jD]using hl) fun j q hq=>?_;rw[jD,W1,W6]at hq;obtain⟨q0,c0,rfl⟩:=hq
   exact ih j q0 c0
  |ptr i off h=>exact .ptr _ _ h
  |dC i sz k off h=>exact .dC _ _ _ _ h
  |fv z i h=>exact .fv _ _ h
  |sl j off len sz' cap h h0 hl hc he=>exact .sl _ _ _ _ _ h h0 hl hc he
  |ph j sz' h=>exact .ph _ _ h
  |sle j sz' cap h hc he=>exact .sle _ _ _ h hc he
  |mp j h=>
   simp only[PV.gJ];cases hb:Xn j i with
   |true=>
    have hj:=Xh hb;subst hj;exact .iv _ _ (.fw _ _ _ _ _ _ ents clock (by simp[M',Mem.set]) h2.size h2.key (fun j x hx=>(h2.val j x hx).mono hM) (h3.mono hM) h2.inj h2.lt)
   |false=>exact .mp _ h
  |dr fn first caps f' c' h1 h2 hr1 hr2 _ _=>exact .dr _ _ _ _ _ h1 h2 (fun j p hj=>(hr1 j p hj).mono hM (.refl _ _) (fun _ h=>h)) (fun j p hj=>(hr2 j p hj).mono hM (.refl _ _) (fun _ h=>h))
  |kb b=>exact .kb _
  |any x=>exact .any _
def AO.gJ(i:Nat)(x:IV):AO->AO
 | .cells cs T=> .cells (xU i x cs) T
 | .row sz es=> .row sz (es.map (xU i x))
 | .bG l T=> .bG l T
 | .fY=> .fY
 | .map kc e z zv dv m=> .map kc e z zv dv m
 | .bS kc e m vs c=> .bS kc e m vs c
 | .eJ s p=> .eJ s p
def AH.gJ(i:Nat)(x:IV):AH->AH
 | []=> []
 |(k,none)::r=>(k,none)::AH.gJ i x r
 |(k,some o)::r=>(k,some (o.gJ i x))::AH.gJ i x r
theorem AH.mu(i:Nat)(x:IV): ∀(h:AH) (j:Nat),(AH.gJ i x h).get j=(h.get j).map (AO.gJ i x)
 | [],_=>rfl
 |(k,none)::r,j=>by
  simp only[AH.gJ,AH.au,AH.mu i x r j];split<;>rfl
 |(k,some o)::r,j=>by
  simp only[AH.gJ,AH.au,AH.mu i x r j];split<;>rfl
theorem AO.u9(i:Nat)(x:IV)(o:AO):(o.gJ i x).real=o.real:=by
 cases o with
 |row sz es=>cases es<;>rfl
 |bG l T=>cases l<;>rfl
 |_=>rfl
theorem tZ{M:Mem}{N:Nm}{n:Nat}{h:AH}{w:World}(hr:Rel M N (· <n) h w){i:Nat}{kc:KC}{V:Type}{e:V->IV}{z:V}{zv:Value}{dv:PV->V}{m:List (kc.K×V)}(hi:h.get i=some (.map kc e z zv dv m)):
  ∃M',Ext M N (· <n) h w M' N (· <n) ((i,none)::h.gJ i (.fw kc e z zv m)) w∧Rel M' N (· <n) ((i,none)::h.gJ i (.fw kc e z zv m)) w∧M.le M'∧
   ∀p x,VR M N (· <n) p x->VR M' N (· <n) (p.gJ i (.fw kc e z zv m)) x:=by
 obtain⟨M',h1,h2,h3,h4⟩:=OW hr hi;have hg: ∀j o,AH.get ((i,none)::h.gJ i (.fw kc e z zv m)) j=some o-> ∃p,AH.get ((i,none)::h) j=some p∧h.get j=some p∧o=p.gJ i (.fw kc e z zv m):=by
  intro j o hj;obtain⟨g1,g2⟩:=bz j o hj;rw[AH.mu,W6]at g2;obtain⟨p,g3,g4⟩:=g2;exact⟨p,by rw[AH.au,be g1];exact g3,g3,g4.symm⟩
 refine⟨M',⟨h1.os,h1.tape,h1.output,h1.size,h1.jq,h1.rF,h1.jM,h1.nm,h1.ule,fun j o hj a0=>?_⟩,⟨h2.dF,fun j o hj=>?_,fun j o hj a0=>?_,fun j o hj=>?_,fun j k o p hj hk ho hp=>?_⟩,h3,h4⟩
 ·obtain⟨p,g1,_,rfl⟩:=hg j o hj;rw[AO.u9]at a0;exact h1.iW j p g1 a0
 ·obtain⟨p,g1,_,rfl⟩:=hg j o hj;exact h2.used j p g1
 ·obtain⟨p,g1,_,rfl⟩:=hg j o hj;rw[AO.u9]at a0;exact h2.eK j p g1 a0
 ·obtain⟨p,g1,g2,rfl⟩:=hg j o hj;have c0:=hr.obj j p g2;cases p with
  |cells cs T0=>
   obtain⟨c,T,q1,q2,q3,q4,q5⟩:=c0;refine⟨c,T,q1,q2,by simpa[jD]using q3,fun k q hq=>?_,q5⟩;rw[jD,W1,W6]at hq;obtain⟨q0,d0,rfl⟩:=hq;exact h4 _ _ (q4 k q0 d0)
  |row sz es=>
   rcases c0 with rfl|⟨q0,c,T,q1,q2,q3,q4,q5⟩
   ·exact .inl Z
   refine .inr ⟨q0,c,T,q1,q2,by simpa using q3,fun k e he=>?_,fun k e j q he hq=>?_⟩
   ·rw[W1,W6]at he;obtain⟨e0,b0,rfl⟩:=he;rw[jD,Xr];exact q4 k e0 b0
   ·rw[W1,W6]at he;obtain⟨e0,b0,rfl⟩:=he;rw[jD,W1,W6]at hq;obtain⟨q',f0,rfl⟩:=hq;exact h4 _ _ (q5 k e0 j q' b0 f0)
  |bG=>exact h2.obj j _ g1
  |fY=>exact h2.obj j _ g1
  |map=>exact h2.obj j _ g1
  |bS=>exact h2.obj j _ g1
  |eJ=>exact h2.obj j _ g1
 ·obtain⟨o',g1,_,rfl⟩:=hg j o hj;obtain⟨p',g2,_,rfl⟩:=hg k p hk;rw[AO.u9]at ho hp;exact h2.inj j k o' p' g1 g2 ho hp
def AF.gJ(i:Nat)(x:IV):AF->AF
 | []=> []
 |(d,p)::r=>(d,p.gJ i x)::AF.gJ i x r
theorem AF.mu(i:Nat)(x:IV): ∀(f:AF) (d:Nat),(AF.gJ i x f).get d=(f.get d).gJ i x
 | [],_=>rfl
 |(k,p)::r,d=>by
  simp only[AF.gJ,AF.au,AF.mu i x r d];split<;>rfl
theorem OO{c:Code}(i:Nat){kc:KC}{V:Type}{e:V->IV}{z:V}{zv:Value}{dv:PV->V}{m:List (kc.K×V)}(hi:s.h.get i=some (.map kc e z zv dv m))
  (h:GO P nt (.code c::k) Q ⟨s.f.gJ i (.fw kc e z zv m),(i,none)::s.h.gJ i (.fw kc e z zv m),s.nx⟩):GO P nt (.code c::k) Q s:=by
 intro M N a w hf;obtain⟨M',h1,h2,h3,h4⟩:=tZ hf.1 hi
 have c0:Fits M' N ⟨s.f.gJ i (.fw kc e z zv m),(i,none)::s.h.gJ i (.fw kc e z zv m),s.nx⟩ nt a w:=⟨h2,fun d=>by
  rw[AF.mu];exact h4 _ _ (hf.2.1 d),hf.2.2⟩
 exact AW.then h c0 fun e a2 w2 M2 N2 s2 a0 d0 b0=>⟨M2,N2,s2,h1.trans a0,d0,b0⟩
end
def R8(ty:Ty)(s:AS):Op->Option (PV×AS)
 | .range t x=>match ev s.f x with
  | .mp i=>match s.h.get i with
   |some (.map kc e z zv _ m)=>match ty t with
    |some ⟨.bb (.map _ _),_,_,_,_⟩=>match s with
     |⟨f,h,n⟩=>some (.ptr n 0,⟨f.gJ i (.fw kc e z zv m),(n,some (.bS kc e m [] none))::(i,none)::h.gJ i (.fw kc e z zv m),n+1⟩)
    |_=>none
   |_=>none
  |_=>none
 |_=>none
theorem NT{P:Program}{ty:Ty}{nt:Nat}{s:AS}(e0:cz P ty){o:Oper}{p:PV}{s1 s':AS}(h:R8 ty s o.op=some (p,s1))(hp:putDst nt o p s1=some s'):OT P nt o s (fun t=>t=s'):=by
 unfold R8 at h;split at h
 ·rename_i t x ho;split at h
  ·rename_i i d0;split at h
   ·rename_i V kc e z zv dv m hi;split at h
    ·rename_i kt et _ _ _ _ he;have hu:=(e0 _ _ he).2.1.1;obtain⟨f,hh,n⟩:=s;simp only[WV,W9]at h;obtain⟨rfl,rfl⟩:=h;refine OT.value hp fun M N a w hf=>?_;have hx:=bf hf.2.1 x;simp only at d0 hi;rw[d0]at hx;obtain⟨ents,clock,g1,g2,g3⟩:=hf.1.obj i _ hi;obtain⟨M',h1,h2,h3,h4⟩:=tZ hf.1 hi;have b0:VR M' N (· <n) ((PV.mp i).gJ i (.fw kc e z zv m)) (.map (some (N.aI i))):=h4 _ _ (.mp i (hf.1.used i _ hi));have hb:Xn i i=true:=by simp
     simp only[PV.gJ,hb,cond_true]at b0;cases b0 with
     |iv _ _ b0=>cases b0 with
      |fw _ _ _ _ _ b ents' clock' hb' hs hk hv' hz hi' hc=>
       obtain⟨N',q1,q2,q3,q4,q5⟩:=h2.alloc (.mapIter (some (N.aI i)) clock' #[] clock') (.bS kc e m [] none) 0 (fun N' r1 r2 r3=>
        .inr ⟨N.aI i,ents',clock', #[],by rw[r1];exact heap_alloc_new w _,hb',⟨hs,hk,hv',hi',hc⟩,rfl,by simp,XT,by simp⟩)
       have a0:w.heap[N.aI i]? =some (.map ents' clock'):=h2.dF _ _ hb';have c0:a.eval x= .map (some (N.aI i)):=by
        generalize a.eval x=y at hx;cases hx;rfl
       refine⟨.pointer (some ⟨w.heap.size,0,none⟩),_,M',N',?_,h1.trans q4,⟨q5,fun d=>?_,hf.2.2⟩,?_⟩
       ·simp only[execOp,ho,c0];simp[Instr.range,run_underlying hu,getObj,Sem.run,a0,Result.andThen]
       ·rw[AF.mu];exact(h4 _ _ (hf.2.1 d)).mono (.refl _) q3 (fun i hi=>YS hi)
       ·have:=VR.ptr (M:=M') (N:=N') (U:=(· <n+1)) n 0 (by omega);rw[q1]at this;exact this
    ·cases h
   ·cases h
  ·cases h
 ·cases h
def RY(h:AH)(sz:Nat):PV->Option (List (List PV)×Nat×Prop)
 | .iv (.dq sz' n el)=>match Xn sz' sz with
  |true=>some ((Xc n).map fun k=>(el k).map .iv,n,True)
  |false=>none
 | .iv (.v (.slice none 0 0))=>some ([],0,True)
 | .sl j off n sz'=>match Xn sz' sz,h.get j with
  |true,some (.row sz2 fs)=>match Xn sz2 sz with
   |true=>some ((fs.drop off).take n,n,off+n<=fs.length)
   |_=>none
  |_,_=>none
 |_=>none
theorem Nu{h:AH}{sz n:Nat}{p:PV}{news:List (List PV)}{C:Prop}(hs:RY h sz p=some (news,n,C))(hC:C):Src h sz p news∧news.length=n:=by
 unfold RY at hs;split at hs
 ·split at hs
  ·rename_i hb;simp only[WV,W9]at hs;have:=Xh hb;obtain⟨rfl,rfl,rfl⟩:=hs;subst this;exact⟨.dq _ _,by simp⟩
  ·cases hs
 ·simp only[WV,W9]at hs;obtain⟨rfl,rfl,rfl⟩:=hs;exact⟨.nil,rfl⟩
 ·split at hs
  ·rename_i b0 hj;split at hs
   ·rename_i a0;simp only[WV,W9]at hs;have h1:=Xh b0;have h2:=Xh a0;subst h1;subst h2;obtain⟨rfl,rfl,rfl⟩:=hs;exact⟨.row _ _ _ _ hj hC,by simp;omega⟩
   ·cases hs
  ·cases hs
 ·cases hs
def Pg(ty:Ty)(s:AS)(op:Op):Option (Prop×PV×AS):=
 match op with
 | .call ⟨.builtin .append,args,tys⟩=>match args.toList,tys.toList with
  | [x,y],[t,t']=>match Xn t' t,ty t with
   |true,some ⟨.bb (.slice u),_,_,_,_⟩=>match ty u with
    |some ⟨_,esz,eby,ez,_⟩=>match Xn ez.cells.size esz,Xi 0 esz,ev s.f x with
     |true,true, .sl i 0 len sz=>match Xn esz sz,s.h.get i with
      |true,some (.row sz' es)=>match Xn sz' sz,RY s.h sz (ev s.f y) with
       |true,some (news,n,C)=>match s with
        |⟨f,h,nx⟩=>some (es.length=len∧C∧allOnes news=true∧(len+n)*eby<=140737488355328∧len+n<=140737488355328, .sl nx 0 (len+n) sz,⟨f,(nx,some (.row sz (es++news)))::(i,none)::h,nx+1⟩)
       |_,_=>none
      |_,_=>none
     |_,_,_=>none
    |none=>none
   |_,_=>none
  |_,_=>none
 |_=>none
section
variable {P:Program} {ty:Ty} {nt:Nat} {s:AS}
theorem Hc(g0:cz P ty){o:Oper}{p:PV}{C:Prop}{s1 s':AS}(h:Pg ty s o.op=some (C,p,s1))(hC:C)(hp:putDst nt o p s1=some s'):OT P nt o s (fun t=>t=s'):=by
 unfold Pg at h;split at h
 ·rename_i args b0 ho;split at h
  ·rename_i x y t t' ha ht;split at h
   ·rename_i u _ _ _ _ d0 he;split at h
    ·rename_i ek p0 c0 ez n0 hu;split at h
     ·rename_i i a0 sz k0 i0 hx;split at h
      ·rename_i o0 es m0 hi;split at h
       ·rename_i news n C' j0 hs;have h:some (es.length=a0∧C'∧allOnes news=true∧(a0+n)*c0<=140737488355328∧a0+n<=140737488355328,PV.sl s.nx 0 (a0+n) sz,uk s i sz es news)=some (C,p,s1):=by
         rw[<-h];cases s;rfl
        simp only[WV,W9]at h;obtain⟨rfl,rfl,rfl⟩:=h;have e0:=Xh d0;have e4:=Xh j0;have e3:=Xh m0;subst e0;subst e4;have f0:o.op= .call ⟨.builtin .append, #[x,y], #[t',t']⟩:=by
         rw[ho];have h1:args= #[x,y]:=by rw[<-Yr (xs:=args),ha]
         have h2:b0= #[t',t']:=by rw[<-Yr (xs:=b0),ht]
         rw[h1,h2]
        obtain⟨g1,g2,g3,g4,g5⟩:=hC;obtain⟨g6,g7⟩:=Nu hs g2;subst g7;exact SZ g0 f0 he Z hu hx hi g1 e3 (by rw[Xh k0,e3]) (by rw[<-e3];exact WR i0) Z g6 (mD g3) g4 g5 hp
       ·cases h
      ·cases h
     ·cases h
    ·cases h
   ·cases h
  ·cases h
 ·cases h
def LP(ty:Ty)(s:AS)(op:Op):Option (Prop×PV×AS):=
 match Pg ty s op with
 |some r=>some r
 |none=>match ET s op with
  |some (t0,t)=>match ty t with
   |some ⟨.bb (.slice u),_,_,_,_⟩=>match ty u with
    |some ⟨_,esz,_,_,_⟩=>Pg ty (wY s t0 esz) op
    |none=>none
   |_=>none
  |none=>none
theorem LO(a0:cz P ty){o:Oper}{p:PV}{C:Prop}{s1 s':AS}(h:LP ty s o.op=some (C,p,s1))(hC:C)(hp:putDst nt o p s1=some s'):OT P nt o s (fun t=>t=s'):=by
 unfold LP at h;split at h
 ·rename_i r hr;simp only[WV]at h;subst h;exact Hc a0 hr hC hp
 ·split at h
  ·rename_i t0 t hn;split at h
   ·split at h
    ·exact Md (HX hn) (Hc a0 h hC hp)
    ·cases h
   ·cases h
  ·cases h
def Te(ty:Ty)(s:AS)(op:Op):Option (Prop×PV×AS):=
 match Rn ty s op with
 |some (C,s1)=>some (C, .any,s1)
 |none=>match R8 ty s op with
  |some (p,s1)=>some (True,p,s1)
  |none=>LP ty s op
theorem Em(a0:cz P ty){o:Oper}{p:PV}{C:Prop}{s1 s':AS}(h:Te ty s o.op=some (C,p,s1))(hC:C)(hp:putDst nt o p s1=some s'):OT P nt o s (fun t=>t=s'):=by
 unfold Te at h;split at h
 ·rename_i C' s2 hu;simp only[WV,W9]at h;obtain⟨rfl,rfl,rfl⟩:=h;exact Mi a0 hu hC hp
 ·split at h
  ·rename_i p' s2 hr;simp only[WV,W9]at h;obtain⟨rfl,rfl,rfl⟩:=h;exact NT a0 hr hp
  ·exact LO a0 h hC hp
end
end Go.Al
