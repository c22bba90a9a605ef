/-
  What the proofs of the claims need: part 1 of 7.
-/
import GoSem.Core.World
import Derived.Calls
import Derived.Laws.AppendOwn
import Derived.Below
import Derived.Laws.Cells
import Derived.Laws.Entries
import Derived.Laws.StructEq
import Derived.ChangeKeysEq
import Derived.WideLaws
import Derived.Tactics
import Derived.IntWalk
import Derived.WideShapes
import Derived.Lib.Strings
import Derived.MapKept
import Derived.Maps.RangeRun
import Derived.Still
import Derived.Scope
import Derived.Laws.CopyRow
import Derived.Laws.Append
open Array renaming eraseIdxIfInBounds→ab4,getD_eq_getD_getElem?→Y7,getElem?_append_left→aac,getElem?_eq_getElem→Z4,getElem?_eq_none→abT,getElem?_eq_some_iff→aaq,getElem?_map→abw,getElem?_modify→Z2,getElem?_push→abr,getElem?_setIfInBounds→ZT,getElem?_toList→aah,mapM_eq_mapM_toList→abZ,mem_filter→acw,range→ab0,replicate→aaX,size_append→abp,toArray_toList→aaF,toList_append→abO,toList_inj→acv
open Bool renaming and_eq_true→Zw,eq_false_iff→aaS,eq_iff_iff→ZW,false_eq_true→aaG,false_or→aan,not_eq_true'→aae,not_true→abA,or_eq_true→aas
open Classical renaming choose→abE,choose_spec→aa8
open Int renaming toNat_of_nonneg→acn
open List.Pairwise renaming nil→aaT
open List renaming all_eq_true→ZA,any_eq_true→ZZ,append_assoc→Zj,append_nil→ZL,cons_append→aaJ,filter_sublist→abP,flatten_cons→ab1,foldl_cons→ZD,getD_eq_getElem?_getD→Y6,getElem?_append_left→Zp,getElem?_append_right→Zv,getElem?_cons_succ→abd,getElem?_cons_zero→abS,getElem?_drop→aap,getElem?_eq_getElem→Za,getElem?_eq_none→abl,getElem?_eq_some_iff→Zb,getElem?_map→Zg,getElem?_of_mem→Z7,getElem?_set→ZV,getElem?_take→Z6,getElem?_toArray→aar,getElem_mem→ZQ,length→abB,length_append→Y8,length_cons→ZI,length_map→ZE,length_nil→aai,length_take→ZP,map_append→Ze,map_cons→Zr,map_nil→Z0,mem_append_left→ZJ,mem_cons→Zq,mem_cons_of_mem→Zn,mem_cons_self→Zo,mem_filter→ZM,mem_map→ZK,mem_of_getElem?→ZC,mem_singleton→Zk,nil_append→aaN,nodup_cons→aat,nodup_nil→aab,pairwise_cons→aay,pairwise_iff_getElem→abI,range→Zy
open Nat renaming add_assoc→aaI,add_mul→aal,add_zero→abg,beq→Zz,ble→aa2,ble_eq_true_of_le→ZO,blt→Zs,eq_of_beq_eq_true→Zt,le_of_ble_eq_true→Y5,le_of_not_lt→aba,le_refl→Zc,le_trans→Z1,lt_of_lt_of_le→aa9,lt_or_ge→aag,lt_succ_of_lt→aaL,lt_succ_self→aax,mul_le_mul_right→ZF,ne_of_lt→acb,not_lt_zero→aaj,strongRecOn→abR,sub_self→aca,sub_zero→acd,succ_mul→aa3,zero_add→Zu,zero_le→Zf,zero_mul→abb
open Option renaming getD_some→aaw,map_eq_none_iff→abh,map_eq_some_iff→Zi,map_map→ack,map_none→abQ,map_some→Z8
open Option.some renaming inj→Z5,injEq→Y9
open Prod renaming fst→ZB
open Prod.mk renaming injEq→Zl
set_option maxRecDepth 100000
open Bool renaming false→lc,true→kw
open Decidable renaming decide→li
open Inhabited renaming default→em
open Option renaming none→jp,some→io
namespace Go
theorem Z.{u}{α:Sort u}{a:α}:a=a:=rfl
theorem ac:True:=trivial
theorem am.{u}{c:Prop}{h:Decidable c}(hc:c){α:Sort u}{t e:α}:(@ite α c h t e)=t:=if_pos hc
theorem be.{u}{c:Prop}{h:Decidable c}(hc:¬c){α:Sort u}{t e:α}:(@ite α c h t e)=e:=if_neg hc
end Go
namespace Go.Al
section
def td:List Int:=[1,10,100,1000,10000,100000,1000000,10000000,100000000,1000000000,10000000000,100000000000,1000000000000,10000000000000,100000000000000,1000000000000000,10000000000000000,100000000000000000,1000000000000000000,10000000000000000000]
def Ux:Nat->Option (Array Value)
 |0=>io (td.map fun z=>Value.int .u64 z).toArray
 |_=>jp
inductive KC where
 |str
 |int (k:IntKind)
 |si (k:IntKind)
 deriving DecidableEq
@[reducible] def KC.K:KC->Type
 | .str=>ByteArray
 | .int _=>Int
 | .si _=>ByteArray×Int
instance KC.deq:(c:KC)->DecidableEq c.K
 | .str=>inferInstanceAs (DecidableEq ByteArray)
 | .int _=>inferInstanceAs (DecidableEq Int)
 | .si _=>inferInstanceAs (DecidableEq (ByteArray×Int))
def KC.ek:(c:KC)->c.K->Value
 | .str,s=> .string s
 | .int k,n=> .int k n
 | .si k,x=> .agg #[.string x.1,.int k x.2]
inductive IV:Type 1 where
 |v (x:Value)
 |de (sz n:Nat) (el:Nat->List IV)
 |mK (cs:List IV)
 |agg (cs:List IV)
 |eI {V:Type} (kc:KC) (ev:V->IV) (z:V) (zv:Value) (m:List (kc.K×V))
inductive PV:Type 1 where
 |iv (x:IV)
 |agg (cs:List PV)
 |bQ (cs:List PV)
 |ptr (i off:Nat)
 |dH (i sz k off:Nat)
 |fE (z:Bool) (i:Nat)
 |sl (i off len sz:Nat)
 |mp (i:Nat)
 |du (fn:Fn) (first caps:List PV)
 |kb (b:Bool)
 |any
inductive AO:Type 1 where
 |cells (cs:List PV) (T:Option TypeId:=jp)
 |row (sz:Nat) (es:List (List PV))
 |bS (l:List UInt8) (T:TypeId)
 |gP
 |map {V:Type} (kc:KC) (ev:V->IV) (z:V) (zv:Value) (dv:PV->V) (m:List (kc.K×V))
 |cF {V:Type} (kc:KC) (ev:V->IV) (m:List (kc.K×V)) (vs:List Nat) (cur:Option (kc.K×V))
 |eS (s:ByteArray) (pos:Nat)
inductive MB where
 |cells (c:Array Value)
 |map (ents:Array MapEntry) (clock:Nat)
structure Mem where
 fn:Nat->Option MB
 Qq: ∀b c,Ux b=io c->fn b=io (.cells c)
instance:CoeFun Mem (fun _=>Nat->Option MB):=⟨Mem.fn⟩
def Mem.base:Mem:=⟨fun b=>(Ux b).map .cells,fun b c h=>by rw[h];rfl⟩
def Da(a:Option TypeId)(T:TypeId):Prop:= ∀t,a=io t->T=t
theorem Da.none(T:TypeId):Da jp T:=fun _ h=>nomatch h
def Mem.cell(M:Mem)(b o:Nat):Option Value:=match M b with|some (.cells c)=>c[o]? |_=>jp
def Mem.set(M:Mem)(b:Nat)(c:MB)(h:M b=jp):Mem:=
 ⟨fun x=>if x=b then io c else M x,fun x d j=>by
  rw[be fun e=>by have:=M.Qq x d j;rw[e]at this;exact absurd (this.symm.trans h) (by simp)]
  exact M.Qq x d j⟩
def MB.I8(w:World)(b:Nat):MB->Prop
 | .cells c=> ∃T d,w.heap[b]? =io (.cells c T d)
 | .map es cl=>w.heap[b]? =io (.map es cl)
theorem MB.I8.lt{w:World}{b:Nat}{m:MB}(h:m.I8 w b):b<w.heap.size:=by
 cases m with
 |cells c=>obtain⟨T,j,d⟩:=h;exact(aaq.1 d).1
 |map es cl=>exact(aaq.1 h).1
theorem MB.I8.mono{w d:World}{b:Nat}{m:MB}(h:m.I8 w b)(e:d.heap[b]? =w.heap[b]?):m.I8 d b:=by
 cases m with
 |cells c=>obtain⟨T,j,u⟩:=h;exact⟨T,j,e.trans u⟩
 |map es cl=>exact e.trans h
structure Nm where
 aL:Nat->Nat
 ext:Nat->Nat
inductive IR (M:Mem):IV->Value->Prop
 |v (x:Value):IR M (.v x) x
 |j8 (sz:Nat) (el:Nat->List IV) (a:Option Addr) (cap:Nat):IR M (.de sz 0 el) (.slice a 0 cap)
 | de (sz n:Nat) (el:Nat->List IV) (b off cap:Nat) (hn:n<=cap) (hc:cap<=maxLen) (hl: ∀k,k<n->(el k).length=sz)
   (hm: ∀k j,k<n->j<sz->(M.cell b (off+k*sz+j)).isSome=kw)
   (hr: ∀k j p,k<n->(el k)[j]? =io p->IR M p ((M.cell b (off+k*sz+j)).getD undef)):
   IR M (.de sz n el) (.slice (io ⟨b,off,jp⟩) n cap)
 | mK (cs:List IV) (b off:Nat) (hm: ∀j,j<cs.length->(M.cell b (off+j)).isSome=kw)
   (hr: ∀j p,cs[j]? =io p->IR M p ((M.cell b (off+j)).getD undef)):IR M (.mK cs) (.pointer (io ⟨b,off,jp⟩))
 |agg (cs:List IV) (ys:Array Value) (hl:cs.length=ys.size) (hr: ∀j p,cs[j]? =io p->IR M p (ys.getD j undef)):IR M (.agg cs) (.agg ys)
 | eI {V:Type} (kc:KC) (ev:V->IV) (z:V) (zv:Value) (m:List (kc.K×V)) (b:Nat) (ents:Array MapEntry) (clock:Nat) (hb:M b=io (.map ents clock)) (hs:ents.size=m.length)
   (hk: ∀(j:Nat) (x:kc.K×V),m[j]? =io x->(ents.getD j em).key=kc.ek x.1) (hv: ∀(j:Nat) (x:kc.K×V),m[j]? =io x->IR M (ev x.2) (ents.getD j em).val) (hz:IR M (ev z) zv)
   (hi: ∀(j k:Nat) (e f:MapEntry),ents[j]? =io e->ents[k]? =io f->e.born=f.born->j=k) (hc: ∀(j:Nat) (e:MapEntry),ents[j]? =io e->e.born<clock):IR M (.eI kc ev z zv m) (.map (io b))
inductive VR (M:Mem) (N:Nm) (U:Nat->Prop):PV->Value->Prop
 |iv (x:IV) (y:Value) (h:IR M x y):VR M N U (.iv x) y
 |agg (cs:List PV) (ys:Array Value) (hl:cs.length=ys.size) (hr: ∀j p,cs[j]? =io p->VR M N U p (ys.getD j undef)):VR M N U (.agg cs) (.agg ys)
 |bQ (cs:List PV) (ys:Array Value) (hl:cs.length=ys.size) (hr: ∀j p,cs[j]? =io p->VR M N U p (ys.getD j undef)):VR M N U (.bQ cs) (.tuple ys)
 |ptr (i off:Nat) (h:U i):VR M N U (.ptr i off) (.pointer (io ⟨N.aL i,off,jp⟩))
 |dH (i sz k off:Nat) (h:U i):VR M N U (.dH i sz k off) (.pointer (io ⟨N.aL i,k*sz+off,jp⟩))
 |fE (z:Bool) (i:Nat) (h:U i):VR M N U (.fE z i) (.pointer (bif z then jp else io ⟨N.aL i,0,jp⟩))
 |sl (i off len sz cap:Nat) (h:U i) (h0:0<len) (hl:len<=cap) (hc:cap<=maxLen) (he:(off+cap)*sz=N.ext i):VR M N U (.sl i off len sz) (.slice (io ⟨N.aL i,off*sz,jp⟩) len cap)
 |pW (i sz:Nat) (h:U i):VR M N U (.sl i 0 0 sz) (.slice jp 0 0)
 |sle (i sz cap:Nat) (h:U i) (hc:cap<=maxLen) (he:cap*sz=N.ext i):VR M N U (.sl i 1 0 sz) (.slice (io ⟨N.aL i,0,jp⟩) 0 cap)
 |mp (i:Nat) (h:U i):VR M N U (.mp i) (.map (io (N.aL i)))
 | du (fn:Fn) (first caps:List PV) (f' c':Array Value) (h1:first.length=f'.size) (h2:caps.length=c'.size)
   (hr1: ∀j p,first[j]? =io p->VR M N U p (f'.getD j undef)) (hr2: ∀j p,caps[j]? =io p->VR M N U p (c'.getD j undef)):VR M N U (.du fn first caps) (.func fn f' c')
 |kb (b:Bool):VR M N U (.kb b) (.bool b)
 |any (x:Value):VR M N U .any x
def Mem.le(M d:Mem):Prop:= ∀b c,M b=io c->d b=io c
theorem Mem.le.refl(M:Mem):M.le M:=fun _ _ h=>h
theorem Mem.le.trans{A B C:Mem}(h:A.le B)(k:B.le C):A.le C:=fun b c e=>k b c (h b c e)
theorem Mem.le.cell{M d:Mem}(h:M.le d){b o:Nat}{v:Value}(hc:M.cell b o=io v):d.cell b o=io v:=by
 unfold Mem.cell at*
 cases hb:M b with
 |none=>simp[hb]at hc
 |some c=>rw[hb]at hc;rw[h b c hb];exact hc
theorem Mem.le.isSome{M d:Mem}(h:M.le d){b o:Nat}(hc:(M.cell b o).isSome=kw):(d.cell b o).isSome=kw∧(d.cell b o).getD undef=(M.cell b o).getD undef:=by
 cases hv:M.cell b o with
 |none=>simp[hv]at hc
 |some v=>rw[h.cell hv];simp
theorem IR.mono{M A:Mem}(hM:M.le A){p:IV}{x:Value}(h:IR M p x):IR A p x:=by
 induction h with
 |v x=>exact .v x
 |j8 sz el a cap=>exact .j8 sz el a cap
 |de sz n el b off cap hn hc hl hm hr ih=>
  refine .de sz n el b off cap hn hc hl (fun k j u d=>(hM.isSome (hm k j u d)).1) (fun k j p u y=>?_);have d:j<sz:=by rw[<-hl k u];exact(Zb.1 y).1
  rw[(hM.isSome (hm k j u d)).2];exact ih k j p u y
 |mK cs b off hm hr ih=>
  refine .mK cs b off (fun j d=>(hM.isSome (hm j d)).1) (fun j p y=>?_);have d:j<cs.length:=(Zb.1 y).1;rw[(hM.isSome (hm j d)).2];exact ih j p y
 |agg cs ys hl hr ih=>exact .agg cs ys hl ih
 |eI kc ev z zv m b ents clock hb hs u hv hz hi hc ihv ihz=>exact .eI kc ev z zv m b ents clock (hM _ _ hb) hs u ihv ihz hi hc
structure l0 {V:Type} (M:Mem) (kc:KC) (ev:V->IV) (m:List (kc.K×V)) (ents:Array MapEntry) (clock:Nat):Prop where
 size:ents.size=m.length
 key: ∀(j:Nat) (x:kc.K×V),m[j]? =io x->(ents.getD j em).key=kc.ek x.1
 val: ∀(j:Nat) (x:kc.K×V),m[j]? =io x->IR M (ev x.2) (ents.getD j em).val
 inj: ∀(j k:Nat) (e f:MapEntry),ents[j]? =io e->ents[k]? =io f->e.born=f.born->j=k
 lt: ∀(j:Nat) (e:MapEntry),ents[j]? =io e->e.born<clock
theorem l0.mono{V:Type}{M b:Mem}(hM:M.le b){kc:KC}{ev:V->IV}{m:List (kc.K×V)}{ents:Array MapEntry}{clock:Nat}(h:l0 M kc ev m ents clock):l0 b kc ev m ents clock:=
 ⟨h.size,h.key,fun j x d=>(h.val j x d).mono hM,h.inj,h.lt⟩
structure Nm.agree (N N':Nm) (U:Nat->Prop):Prop where
 aL: ∀i,U i->N'.aL i=N.aL i
 ext: ∀i,U i->N'.ext i=N.ext i
theorem Nm.agree.refl(N:Nm)(U:Nat->Prop):N.agree N U:=⟨fun _ _=>rfl,fun _ _=>rfl⟩
theorem VR.mono{M u:Mem}{N A:Nm}{U B:Nat->Prop}(hM:M.le u)(d:N.agree A U)(j: ∀i,U i->B i){p:PV}{x:Value}(h:VR M N U p x):VR u A B p x:=by
 induction h with
 |iv x y h=>exact .iv x y (h.mono hM)
 |agg cs ys hl hr ih=>exact .agg cs ys hl ih
 |bQ cs ys hl hr ih=>exact .bQ cs ys hl ih
 |ptr i off h=>rw[<-d.aL i h];exact .ptr i off (j i h)
 |dH i sz k off h=>rw[<-d.aL i h];exact .dH i sz k off (j i h)
 |fE z i h=>rw[<-d.aL i h];exact .fE z i (j i h)
 |sl i off len sz cap h h0 hl hc he=>rw[<-d.aL i h];exact .sl i off len sz cap (j i h) h0 hl hc (by rw[d.ext i h];exact he)
 |pW i sz h=>exact .pW i sz (j i h)
 |sle i sz cap h hc he=>rw[<-d.aL i h];exact .sle i sz cap (j i h) hc (by rw[d.ext i h];exact he)
 |mp i h=>rw[<-d.aL i h];exact .mp i (j i h)
 |du fn first caps f' c' h1 h2 hr1 hr2 ih1 ih2=>exact .du fn first caps f' c' h1 h2 ih1 ih2
 |kb b=>exact .kb b
 |any x=>exact .any x
abbrev AH:=List (Nat×Option AO)
def AH.get:AH->Nat->Option AO
 | [],_=>jp
 |(i,o)::r,k=>bif Zz k i then o else AH.get r k
abbrev AF:=List (Nat×PV)
def AF.get:AF->Nat->PV
 | [],_=> .any
 |(i,p)::r,k=>bif Zz k i then p else AF.get r k
theorem AF.ax(i:Nat)(p:PV)(r:AF)(k:Nat):AF.get ((i,p)::r) k=if k=i then p else AF.get r k:=by
 by_cases h:k=i
 .subst h;simp[AF.get]
 .have:Zz k i=lc:=aaS.2 (fun e=>h (Zt e));simp[AF.get,this,h]
theorem AH.ax(i:Nat)(o:Option AO)(r:AH)(k:Nat):AH.get ((i,o)::r) k=if k=i then o else AH.get r k:=by
 by_cases h:k=i
 .subst h;simp[AH.get]
 .have:Zz k i=lc:=aaS.2 (fun e=>h (Zt e));simp[AH.get,this,h]
def OR(M:Mem)(N:Nm)(U:Nat->Prop)(w:World)(i:Nat):AO->Prop
 | .cells cs T0=> ∃c T,w.heap[N.aL i]? =io (.cells c T (0,0))∧c.size=N.ext i∧cs.length=c.size∧(∀j p,cs[j]? =io p->VR M N U p (c.getD j undef))∧Da T0 T
 | .row sz es=>es=[]∨0<sz∧ ∃c T,w.heap[N.aL i]? =io (.cells c T (0,0))∧c.size=N.ext i∧es.length*sz<=c.size∧(∀(k:Nat) (e:List PV),es[k]? =io e->e.length=sz)∧
   ∀(k:Nat) (e:List PV) (j:Nat) (p:PV),es[k]? =io e->e[j]? =io p->VR M N U p (c.getD (k*sz+j) undef)
 | .bS l T=>l=[]∨ ∃c,w.heap[N.aL i]? =io (.cells c T (0,0))∧c.size=N.ext i∧l.length<=c.size∧ ∀(j:Nat) (x:UInt8),l[j]? =io x->c.getD j undef= .int .u8 (x.toNat:Int)
 | .gP=>w.heap[N.aL i]? =io (.map #[] 0)
 | .map kc ev z zv _ m=> ∃(ents:Array MapEntry) (clock:Nat),w.heap[N.aL i]? =io (.map ents clock)∧l0 M kc ev m ents clock∧IR M (ev z) zv
 | .cF kc ev m vs cur=>(m=[]∧vs=[]∧cur=jp∧w.heap[N.aL i]? =io (.mapIter jp 0 #[] 0))∨ ∃(b:Nat) (ents:Array MapEntry) (clock:Nat) (d:Array Nat),w.heap[N.aL i]? =io (.mapIter (io b) clock d clock)∧M b=io (.map ents clock)∧l0 M kc ev m ents clock∧
   d.toList=vs.reverse.map (fun j=>(ents.getD j em).born)∧(∀j∈vs,j<m.length)∧vs.Nodup∧ ∀x,cur=io x-> ∃j r,vs=j::r∧m[j]? =io x
 | .eS s pos=>w.heap[N.aL i]? =io (.stringIter s pos)
def AO.real:AO->Bool
 | .row _ []=>lc
 | .bS [] _=>lc
 |_=>kw
structure Rel (M:Mem) (N:Nm) (U:Nat->Prop) (h:AH) (w:World):Prop where
 eW: ∀b c,M b=io c->c.I8 w b
 used: ∀i o,h.get i=io o->U i
 fo: ∀i o,h.get i=io o->o.real=kw->M (N.aL i)=jp
 obj: ∀i o,h.get i=io o->OR M N U w i o
 inj: ∀i j o p,h.get i=io o->h.get j=io p->o.real=kw->p.real=kw->N.aL i=N.aL j->i=j
theorem OR.lt{M:Mem}{N:Nm}{U:Nat->Prop}{w:World}{i:Nat}{o:AO}(h:OR M N U w i o)(j:o.real=kw):N.aL i<w.heap.size:=by
 have key: ∀x,w.heap[N.aL i]? =io x->N.aL i<w.heap.size:=fun x y=>(aaq.1 y).1
 cases o with
 |cells cs T0=>obtain⟨c,T,d,_⟩:=h;exact key _ d
 |row sz es=>
  rcases h with rfl|⟨_,c,T,d,_⟩
  .cases j
  .exact key _ d
 |bS l T=>
  rcases h with rfl|⟨c,d,_⟩
  .cases j
  .exact key _ d
 |gP=>exact key _ h
 |map kc ev z zv dv m=>obtain⟨e,u,d,_⟩:=h;exact key _ d
 |cF kc ev m l cu=>rcases h with⟨_,_,_,d⟩|⟨b,e,u,A,d,_⟩<;>exact key _ d
 |eS s p=>exact key _ h
theorem OR.mono{M J:Mem}{N B:Nm}{U S:Nat->Prop}{w D:World}{i:Nat}{o:AO}(hM:M.le J)(d:N.agree B U)(Y: ∀i,U i->S i)(hi:U i)(hb:D.heap[N.aL i]? =w.heap[N.aL i]?)
  (h:OR M N U w i o):OR J B S D i o:=by
 cases o with
 |cells cs T0=>
  obtain⟨c,T,u,x,y,A,G⟩:=h;exact⟨c,T,by rw[d.aL i hi,hb,u],by rw[d.ext i hi,x],y,fun j p I=>(A j p I).mono hM d Y,G⟩
 |row sz es=>
  rcases h with h|⟨h0,c,T,u,x,y,A,G⟩
  .exact .inl h
  exact .inr ⟨h0,c,T,by rw[d.aL i hi,hb,u],by rw[d.ext i hi,x],y,A,fun k e j p he I=>(G k e j p he I).mono hM d Y⟩
 |bS l T=>
  rcases h with h|⟨c,u,x,y,A⟩
  .exact .inl h
  exact .inr ⟨c,by rw[d.aL i hi,hb,u],by rw[d.ext i hi,x],y,A⟩
 |gP=>show D.heap[B.aL i]? =_;rw[d.aL i hi,hb];exact h
 |map kc ev z zv dv m=>
  obtain⟨e,F,u,x,y⟩:=h;exact⟨e,F,by rw[d.aL i hi,hb,u],x.mono hM,y.mono hM⟩
 |cF kc ev m l cu=>
  rcases h with⟨u,x,y,A⟩|⟨b,e,F,se,u,x,y,A⟩
  .exact .inl ⟨u,x,y,by rw[d.aL i hi,hb,A]⟩
  .exact .inr ⟨b,e,F,se,by rw[d.aL i hi,hb,u],hM _ _ x,y.mono hM,A⟩
 |eS s p=>show D.heap[B.aL i]? =_;rw[d.aL i hi,hb];exact h
structure Ext (M:Mem) (N:Nm) (U:Nat->Prop) (h:AH) (w:World) (M':Mem) (N':Nm) (U':Nat->Prop) (h':AH) (w':World):Prop where
 os:w'.os=w.os
 tape:w'.tape=w.tape
 output:w'.output=w.output
 size:w.heap.size<=w'.heap.size
 iT: ∀b,b<w.heap.size->(∀i o,h.get i=io o->o.real=kw->N.aL i≠b)->w'.heap[b]? =w.heap[b]?
 sb:M.le M'
 kr: ∀b c,M b=jp->M' b=io c->w.heap.size<=b∨ ∃i o,h.get i=io o∧o.real=kw∧N.aL i=b
 nm:N.agree N' U
 ule: ∀i,U i->U' i
 jt: ∀i o,h'.get i=io o->o.real=kw->w.heap.size<=N'.aL i∨ ∃j p,h.get j=io p∧p.real=kw∧N.aL j=N'.aL i
theorem Ext.refl(M:Mem)(N:Nm)(U:Nat->Prop)(h:AH)(w:World):Ext M N U h w M N U h w:=
 ⟨rfl,rfl,rfl,Zc _,fun _ _ _=>rfl,.refl _,fun b c d j=>by simp[d]at j,.refl _ _,fun _ h=>h,fun i o u x=> .inr ⟨i,o,u,x,rfl⟩⟩
theorem Ext.trans{M F G:Mem}{N I J:Nm}{U S Y:Nat->Prop}{h h1 h2:AH}{w w1 w2:World}
  (a:Ext M N U h w F I S h1 w1) (b:Ext F I S h1 w1 G J Y h2 w2):Ext M N U h w G J Y h2 w2 where
 os:=b.os.trans a.os
 tape:=b.tape.trans a.tape
 output:=b.output.trans a.output
 size:=Z1 a.size b.size
 iT:=fun k hk hn=>by
  rw[b.iT k (aa9 hk a.size) (fun i o d u he=>?_),a.iT k hk hn];rcases a.jt i o d u with x|⟨j,p,x,D,y⟩
  .omega
  .exact hn j p x D (y.trans he)
 sb:=a.sb.trans b.sb
 kr:=fun k c x y=>by
  cases A:F k with
  |some c'=>exact a.kr k c' x A
  |none=>
   rcases b.kr k c A y with B|⟨i,o,B,u,h7⟩
   .exact .inl (Z1 a.size B)
   .rcases a.jt i o B u with h8|⟨j,p,h8,D,h9⟩
    .exact .inl (by omega)
    .exact .inr ⟨j,p,h8,D,h9.trans h7⟩
 nm:=⟨fun i d=>(b.nm.aL i (a.ule i d)).trans (a.nm.aL i d),fun i d=>(b.nm.ext i (a.ule i d)).trans (a.nm.ext i d)⟩
 ule:=fun i d=>b.ule i (a.ule i d)
 jt:=fun i o d u=>by
  rcases b.jt i o d u with x|⟨j,p,x,D,y⟩
  .exact .inl (Z1 a.size x)
  .rcases a.jt j p x D with A|⟨k,q,A,hq,B⟩
   .exact .inl (by omega)
   .exact .inr ⟨k,q,A,hq,B.trans y⟩
def aK(p q:PV):Prop:= ∀(M:Mem) (N:Nm) (U:Nat->Prop) (x:Value),VR M N U p x->VR M N U q x
def n6(p q:IV):Prop:= ∀(M:Mem) (x:Value),IR M p x->IR M q x
theorem aK.refl(p:PV):aK p p:=fun _ _ _ _ h=>h
theorem CM(w:World)(o:Obj)(i:Nat)(h:i<w.heap.size):(w.alloc o).heap[i]? =w.heap[i]? :=by
 show(w.heap.push o)[i]? =_;rw[abr,be (by omega)]
def FR(M:Mem)(N:Nm)(U:Nat->Prop)(f:AF)(t:Array Value):Prop:= ∀k,VR M N U (f.get k) (t.getD k undef)
theorem FR.mono{M b:Mem}{N d:Nm}{U j:Nat->Prop}{f:AF}{t:Array Value}(hM:M.le b)(u:N.agree d U)(x: ∀i,U i->j i)(h:FR M N U f t):FR b d j f t:=fun k=>(h k).mono hM u x
theorem FR.ext{M b:Mem}{N d:Nm}{U j:Nat->Prop}{h u:AH}{w x:World}{f:AF}{t:Array Value}(e:Ext M N U h w b d j u x)(hf:FR M N U f t):FR b d j f t:=hf.mono e.sb e.nm e.ule
theorem FR.put{M:Mem}{N:Nm}{U:Nat->Prop}{f:AF}{t:Array Value}(h:FR M N U f t)(d:Nat)(p:PV)(x:Value)(hd:d<t.size)(hp:VR M N U p x):FR M N U ((d,p)::f) (t.setIfInBounds d x):=by
 intro k;rw[AF.ax];by_cases b:k=d
 .subst b;simp[Y7,hd,hp]
 .rw[be b];have:=h k;simp only[Y7,ZT]at this ⊢;rw[be (fun e=>b e.symm)];exact this
inductive TK where
  |bc (d:TypeDesc)
  |dy (fs:List (Nat×TypeId))
  |arr (n:Nat) (e:TypeId)
structure cE where
  k:TK
  size:Nat
  bytes:Nat
  zero:Value
  eq:Bool
abbrev Ty:=Nat->Option cE
def Aq:TypeDesc->Bool
  | .struct _=>lc
  | .array _ _=>lc
  |_=>kw
def Ng(P:Program)(t:TypeId):TK->Prop
  | .bc d=>P.underlying t=io d∧Aq d=kw
  | .dy fs=> ∃F,P.underlying t=io (.struct F)∧F.toList.map (fun f=>(f.offset,f.type))=fs
  | .arr n e=>P.underlying t=io (.array n e)
def Xo(P:Program)(t:TypeId):Prop:=P.stoodInHeld t=lc∧P.eqGuardType P.depth t=lc∧ ∀f∈(P.fieldsOf t).toList,f.name≠ "_"
def ay(P:Program)(t:TypeId)(e:cE):Prop:=
  (∃i,P.info? t=io i∧i.size=e.size∧i.bytes=e.bytes∧i.zero=io e.zero)∧Ng P t e.k∧(e.eq=kw->Xo P t)
def cD(P:Program)(ty:Ty):Prop:= ∀t e,ty t=io e->ay P t e
section
variable {P:Program} {w:World}
theorem bL{t:TypeId}{e:cE}(h:ay P t e):(sizeOf t).run P w= .ok e.size w:=by
  obtain⟨⟨i,b,d,_⟩,_⟩:=h;simp[sizeOf,run_typeInfo w b,d]
theorem en{t:TypeId}{e:cE}(h:ay P t e):(zeroValue t).run P w= .ok e.zero w:=by
  obtain⟨⟨i,b,j,hb,d⟩,_⟩:=h;simp[zeroValue,run_typeInfo w b,d]
def TK.agg:TK->Bool
  | .bc _=>lc
  |_=>kw
theorem oR{t:TypeId}{e:cE}(h:ay P t e):(isAgg t).run P w= .ok e.k.agg w:=by
  obtain⟨_,b,_⟩:=h;cases hek:e.k with
  | bc d=>
    rw[hek]at b;obtain⟨j,u⟩:=b;simp only[isAgg,Sem.run_bind,run_underlying j,Result.andThen_ok];cases d<;>simp_all [Aq,TK.agg]
  | dy fs=>
    rw[hek]at b;obtain⟨F,j,_⟩:=b;simp[isAgg,run_underlying j,TK.agg]
  | arr n el=>
    rw[hek]at b;simp only[Ng]at b;simp[isAgg,run_underlying b,TK.agg]
end
structure AS where
  f:AF
  h:AH
  nx:Nat
def Fits(M:Mem)(N:Nm)(s:AS)(nt:Nat)(a:Act)(w:World):Prop:=
  Rel M N (· <s.nx) s.h w∧FR M N (· <s.nx) s.f a.tmps∧a.defers=[]∧a.tmps.size=nt
def ofV:Value->PV
  | .agg cs=> .agg (cs.toList.map fun v=> .iv (.v v))
  | .bool b=> .kb b
  |v=> .iv (.v v)
def ev(f:AF):Operand->PV
  | .tmp t=>f.get t
  | .const v=>ofV v
  | .global _=> .any
  | .func g=> .du (.func g) [] []
theorem Um{M:Mem}{N:Nm}{U:Nat->Prop}(v:Value):VR M N U (ofV v) v:=by
  cases v<;>first
    |exact .iv _ _ (.v _)
    |exact .kb _
    | (refine .agg _ _ (by simp) (fun j p d=>?_)
       rw[Zg,Zi]at d;obtain⟨x,y,rfl⟩:=d;rename_i u;have b:u[j]? =io x:=by simpa using y
       rw[Y7,b]
       exact .iv _ _ (.v _))
theorem a7{M:Mem}{N:Nm}{U:Nat->Prop}{f:AF}{a:Act}(h:FR M N U f a.tmps)(x:Operand):VR M N U (ev f x) (a.eval x):=by
  cases x with
  |tmp t=>exact h t
  |const v=>exact Um v
  |global g=>exact .any _
  |func g=>exact .du _ _ _ _ _ Z Z (by simp) (by simp)
def oe(cs:List PV)(off n:Nat):Option (List PV):=let l:=(cs.drop off).take n;bif Zz l.length n then io l else jp
def yC{α:Type _}(p:PV)(k:PV->α):α:=
  match p with
  | .iv x=>k (.iv x)
  | .agg cs=>k (.agg cs)
  | .bQ cs=>k (.bQ cs)
  | .ptr i o=>k (.ptr i o)
  | .dH i sz a o=>k (.dH i sz a o)
  | .fE z i=>k (.fE z i)
  | .sl i o n sz=>k (.sl i o n sz)
  | .mp i=>k (.mp i)
  | .du fn a b=>k (.du fn a b)
  | .kb b=>k (.kb b)
  | .any=>k .any
theorem eM{α:Type _}(p:PV)(k:PV->α):yC p k=k p:=by cases p<;>rfl
def force{α:Type _}:List PV->(List PV->α)->α
  | [],k=>k []
  |x::r,k=>yC x fun d=>force r fun b=>k (d::b)
theorem force_eq{α:Type _}: ∀(l:List PV) (k:List PV->α),force l k=k l
  | [],_=>rfl
  |x::r,k=>by simp only[force,eM];rw[force_eq r]
def PV.one:PV->Bool
  | .iv (.v (.agg _))=>lc
  | .iv (.v (.tuple _))=>lc
  | .iv (.agg _)=>lc
  | .iv _=>kw
  | .agg _=>lc
  | .bQ _=>lc
  | .any=>lc
  |_=>kw
def PV.cells:PV->Option (List PV)
  | .agg cs=>io cs
  | p=>match p.one with
    |true=>io [p]
    |false=>jp
def jA:List PV->Bool
  | []=>kw
  | p::r=>match p.one with
    |true=>jA r
    |false=>lc
def setCells:List PV->Nat->List PV->List PV
  | [],_,_=> []
  |c::cs,0,[]=>c::cs
  |_::cs,0,x::xs=>x::setCells cs 0 xs
  |c::cs,n+1,xs=>c::setCells cs n xs
theorem gm: ∀(cs:List PV) (n:Nat) (xs:List PV),(setCells cs n xs).length=cs.length
  | [],_,_=>rfl
  |c::cs,0,[]=>rfl
  |_::cs,0,x::xs=>by simp[setCells,gm cs 0 xs]
  |c::cs,n+1,xs=>by simp[setCells,gm cs n xs]
theorem lM: ∀(cs:List PV) (n:Nat) (xs:List PV) (j:Nat) (p:PV),(setCells cs n xs)[j]? =io p->(n<=j∧xs[j-n]? =io p)∨((j<n∨n+xs.length<=j)∧cs[j]? =io p)
  | [],_,_,j,p,h=>by simp[setCells]at h
  |c::cs,0,[],j,p,h=> .inr ⟨.inr (by simp),h⟩
  | c::cs,0,x::xs,j,p,h=>by
    simp only[setCells]at h;cases j with
    |zero=>exact .inl ⟨Zc _,by simpa using h⟩
    | succ j=>
      rcases lM cs 0 xs j p (by simpa using h) with⟨_,b⟩|⟨b,d⟩
      · exact .inl ⟨Zf _,by simpa using b⟩
      · exact .inr ⟨by simp at b ⊢;omega,by simpa using d⟩
  | c::cs,n+1,xs,j,p,h=>by
    simp only[setCells]at h;cases j with
    |zero=>exact .inr ⟨.inl (by omega),by simpa using h⟩
    | succ j=>
      rcases lM cs n xs j p (by simpa using h) with⟨b,d⟩|⟨b,d⟩
      · exact .inl ⟨by omega,by rw[show j+1-(n+1)=j-n by omega];exact d⟩
      · exact .inr ⟨by omega,by simpa using d⟩
def c6(v:Value):List PV:=v.cells.toList.map fun x=> .iv (.v x)
def sw(b:Nat->Option (Nat×Nat)):List PV->List (Nat×PV)->Option (List PV)
  |cs,[]=>io cs
  | cs,(i,p)::r=>match b i with
    | some (off,size)=>match p.cells with
      | some l=>match Zz l.length size,aa2 (off+l.length) cs.length with
        |true,kw=>force (setCells cs off l) fun d=>sw b d r
        |_,_=>jp
      |none=>jp
    |none=>jp
def mM:List PV->Option PV
  | []=>jp
  |p::_=>io p
def behind(h:AH):PV->Option (List PV)
  | .ptr i off=>match h.get i with
    |some (.cells cs _)=>io (cs.drop off)
    |_=>jp
  | .dH i sz k off=>match h.get i with
    | some (.row sz' es)=>match Zz sz' sz,es[k]? with
      |true,io e=>io (e.drop off)
      |_,_=>jp
    |_=>jp
  | .iv (.mK cs)=>io (cs.map .iv)
  |_=>jp
def jr(e:cE)(cs:List PV):Option PV:=
  match e.k.agg with
  | true=>match oe cs 0 e.size with
    |some l=>force l fun b=>io (.agg b)
    |none=>jp
  |false=>mM cs
def xj(e:cE)(k:Nat):Option (Nat×TypeId):=
  match e.k with
  | .dy fs=>fs[k]?
  |_=>jp
def uh(ty:Ty):List (Nat×TypeId)->Option (List (Nat×Nat))
  | []=>io []
  | (off,u)::r=>match ty u with
    | some e=>match uh ty r with
      |some l=>io ((off,e.size)::l)
      |none=>jp
    |none=>jp
def tc(n:Nat):PV->Option PV
  | .ptr i off=>io (.ptr i (off+n))
  | .dH i sz k off=>io (.dH i sz k (off+n))
  | .iv (.mK cs)=>io (.iv (.mK (cs.drop n)))
  |_=>jp
abbrev PV.bool(b:Bool):PV:= .iv (.v (.bool b))
abbrev PV.int(n:Int):PV:= .iv (.v (.int .i64 n))
abbrev PV.str(s:ByteArray):PV:= .iv (.v (.string s))
def jk(n:Int):Prop:= -9223372036854775808<=n∧n<=9223372036854775807
def Hs(op:BinOp)(k:IntKind)(a b:Int):Option (PV×Prop):=
  match op,k with
  | .add,.i64=>io (.int (a+b),jk (a+b))
  | .sub,.i64=>io (.int (a-b),jk (a-b))
  | .mul,.i64=>io (.int (a*b),jk (a*b))
  | .rem,.i64=>io (.int (Int.tmod a b),¬b=0)
  | .quo,.i64=>io (.int (Int.tdiv a b),¬b=0∧jk (Int.tdiv a b))
  | .add,k=>io (.iv (.v (.int k (k.wrap (a+b)))),True)
  | .sub,k=>io (.iv (.v (.int k (k.wrap (a-b)))),True)
  | .mul,k=>io (.iv (.v (.int k (k.wrap (a*b)))),True)
  | .quo,k=>io (.iv (.v (.int k (k.wrap (Int.tdiv a b)))),¬b=0)
  | .rem,k=>io (.iv (.v (.int k (Int.tmod a b))),¬b=0)
  | .eql,_=>io (.bool (li (a=b)),True)
  | .neq,_=>io (.bool (!li (a=b)),True)
  | .lss,_=>io (.bool (li (a<b)),True)
  | .leq,_=>io (.bool (li (a<=b)),True)
  | .gtr,_=>io (.bool (li (a>b)),True)
  | .geq,_=>io (.bool (li (a>=b)),True)
  | .and,k=>io (.iv (.v (.int k (k.wrap ((BitVec.ofInt k.bits a&&&BitVec.ofInt k.bits b).toNat:Int)))),True)
  | .or,k=>io (.iv (.v (.int k (k.wrap ((BitVec.ofInt k.bits a|||BitVec.ofInt k.bits b).toNat:Int)))),True)
  | .xor,k=>io (.iv (.v (.int k (k.wrap ((BitVec.ofInt k.bits a ^^^ BitVec.ofInt k.bits b).toNat:Int)))),True)
  |_,_=>jp
def GQ(op:BinOp)(k:IntKind)(a b:Int):Option (PV×Prop):=
  match op with
  | .shr=>match li (0<=b) with
    |true=>io (.iv (.v (.int k (a.fdiv (2 ^ min b.toNat k.bits)))),True)
    |false=>jp
  | .shl=>match li (0<=b) with
    |true=>io (.iv (.v (.int k (k.wrap (a*2 ^ min b.toNat k.bits)))),True)
    |false=>jp
  |_=>jp
def GI(op:BinOp)(a b:ByteArray):Option (PV×Prop):=
  match op with
  | .eql=>io (.bool (li (a=b)),True)
  | .neq=>io (.bool (!li (a=b)),True)
  | .add=>io (.str (a++b),a.size+b.size<=9223372036854775807)
  | .lss=>io (.bool (Op.bytesLess a.toList b.toList),True)
  | .gtr=>io (.bool (!(Op.bytesLess a.toList b.toList||decide (a=b))),True)
  | .leq=>io (.bool (Op.bytesLess a.toList b.toList||decide (a=b)),True)
  | .geq=>io (.bool (!(Op.bytesLess a.toList b.toList)),True)
  |_=>jp
def qW(ty:Ty)(t:TypeId)(op:BinOp)(a b:Bool):Option (PV×Prop):=
  match ty t with
  | some ⟨.bc .bool,_,_,_,_⟩=>match op with
    | .eql=>io (.bool (a==b),True)
    | .neq=>io (.bool (!(a==b)),True)
    |_=>jp
  |_=>jp
def CI(ty:Ty)(t:TypeId)(op:BinOp)(x y:PV):Option (PV×Prop):=
  match x,y with
  | .iv (.v (.int j a)),.iv (.v (.int k b))=>if j=k then Hs op j a b else GQ op j a b
  | .iv (.v (.string a)),.iv (.v (.string b))=>GI op a b
  | .iv (.v (.bool a)),y=>match y with
    | .iv (.v (.bool b))=>qW ty t op a b
    | .kb b=>qW ty t op a b
    |_=>jp
  | .kb a,y=>match y with
    | .iv (.v (.bool b))=>qW ty t op a b
    | .kb b=>qW ty t op a b
    |_=>jp
  |_,_=>jp
def zu:PV->Option (PV×Prop)
  | .iv (.de _ n _)=>io (.int n,True)
  | .iv (.v (.slice jp 0 0))=>io (.int 0,True)
  | .iv (.v (.string s))=>io (.int s.size,True)
  | .sl _ _ len _=>io (.int len,True)
  |_=>jp
def mL(x:PV)(i:Int):Option (PV×Prop):=
  match x with
  | .iv (.de _ n el)=>io (.iv (.mK (el i.toNat)),0<=i∧i<n)
  | .sl j off len sz=>io (.dH j sz (off+i.toNat) 0,0<=i∧i<len)
  |_=>jp
def KC.pk:(c:KC)->c.K->PV
  | .str,s=> .iv (.v (.string s))
  | .int k,n=> .iv (.v (.int k n))
  | .si k,x=> .agg [.iv (.v (.string x.1)),.iv (.v (.int k x.2))]
def KC.dk:(c:KC)->PV->Option c.K
  | .str,p=>match p with
    | .iv (.v (.string s))=>io s
    |_=>jp
  | .int k,p=>match p with
    | .iv (.v (.int j n))=>if j=k then io n else jp
    |_=>jp
  | .si k,p=>match p with
    | .agg [.iv (.v (.string s)),.iv (.v (.int j n))]=>if j=k then io (s,n) else jp
    |_=>jp
def gG(ty:Ty)(d:TypeId):Option KC:=
  match ty d with
  |some ⟨.bc .string,_,_,_,_⟩=>io .str
  |some ⟨.bc (.int k),_,_,_,_⟩=>io (.int k)
  | some ⟨.dy [(0,a),(1,b)],_,_,_,kw⟩=>match ty a,ty b with
    |some ⟨.bc .string,1,_,_,_⟩,io ⟨.bc (.int k),1,_,_,_⟩=>io (.si k)
    |_,_=>jp
  |_=>jp
section
variable (kc:KC) {V:Type}
def bU:List (kc.K×V)->kc.K->V->V
  | [],_,z=>z
  |(a,b)::r,k,z=>if a=k then b else bU r k z
def eh:List (kc.K×V)->kc.K->Bool
  | [],_=>lc
  |(a,_)::r,k=>if a=k then kw else eh r k
def cH:List (kc.K×V)->kc.K->V->List (kc.K×V)
  | [],k,v=> [(k,v)]
  |(a,b)::r,k,v=>if a=k then(k,v)::r else(a,b)::cH r k v
def pT:List (kc.K×V)->kc.K->List (kc.K×V)
  | [],_=> []
  |(a,b)::r,k=>if a=k then r else(a,b)::pT r k
end
def GB:Value->Value->Bool
  | .int j a,.int k b=>li (j=k)&&li (a=b)
  | .string a,.string b=>li (a=b)
  | .bool a,.bool b=>a==b
  | .slice jp 0 0,.slice jp 0 0=>kw
  | .map jp,.map jp=>kw
  |_,_=>lc
def z8:List Value->List Value->Bool
  | [],[]=>kw
  |a::r,b::q=>GB a b&&z8 r q
  |_,_=>lc
def S9:Value->Value->Bool
  | .agg a,.agg b=>z8 a.toList b.toList
  |a,b=>GB a b
def IV.pv:IV->PV
  | .agg cs=> .agg (cs.map .iv)
  |x=> .iv x
def yh(ty:Ty)(t:TypeId)(ok:Bool)(kc:KC){V:Type}(e:V->IV)(z:V)(b:Value)(m:List (kc.K×V))(key:PV):Option (PV×Prop):=
  match ty t with
  | some ⟨.bc (.map kt et),_,_,_,_⟩=>match gG ty kt,ty et with
    | some kc',io ee=>match li (kc'=kc),S9 ee.zero b,kc.dk key with
      | true,kw,io k=>match ok with
        |true=>io (.bQ [(e (bU kc m k z)).pv,.iv (.v (.bool (eh kc m k)))],True)
        |false=>io ((e (bU kc m k z)).pv,True)
      |_,_,_=>jp
    |_,_=>jp
  |_=>jp
def Jq(f:TypeId->PV->PV->Option Bool)(ty:Ty):List (Nat×TypeId)->List PV->List PV->Option Bool
  | [],_,_=>io kw
  | (off,u)::r,cs,ds=>match ty u with
    | some eu=>match jr eu (cs.drop off),jr eu (ds.drop off) with
      | some a,io b=>match f u a b,Jq f ty r cs ds with
        |some x,io y=>io (x&&y)
        |_,_=>jp
      |_,_=>jp
    |none=>jp
def Jr(ty:Ty):Nat->TypeId->PV->PV->Option Bool
  |0,_,_,_=>jp
  | d+1,t,p,q=>match ty t with
    | some ⟨.bc (.int _),_,_,_,_⟩=>match p,q with
      | .iv (.v (.int j a)),.iv (.v (.int k b))=>if j=k then io (li (a=b)) else jp
      |_,_=>jp
    | some ⟨.bc .string,_,_,_,_⟩=>match p,q with
      | .iv (.v (.string a)),.iv (.v (.string b))=>io (li (a=b))
      |_,_=>jp
    | some ⟨.bc .bool,_,_,_,_⟩=>match p,q with
      | .iv (.v (.bool a)),.iv (.v (.bool b))=>io (a==b)
      |_,_=>jp
    | some ⟨.dy fs,_,_,_,kw⟩=>match p,q with
      | .agg cs,.agg ds=>Jq (Jr ty d) ty fs cs ds
      |_,_=>jp
    |_=>jp
def H9(ty:Ty)(t:TypeId)(op:BinOp)(p q:PV):Option (PV×Prop):=
  match op with
  | .eql=>match Jr ty 10 t p q with
    |some b=>io (.bool b,True)
    |none=>jp
  | .neq=>match Jr ty 10 t p q with
    |some b=>io (.bool (!b),True)
    |none=>jp
  |_=>jp
def lx(ty:Ty)(s:AS):Op->Option (PV×Prop)
  | .move x=>io (ev s.f x,True)
  | .assign x=>io (ev s.f x,True)
  | .pick c a b=>match ev s.f c with
    | .kb kw=>io (ev s.f a,True)
    | .kb lc=>io (ev s.f b,True)
    |_=>jp
  | .load t x=>match ty t with
    | some e=>match behind s.h (ev s.f x) with
      | some cs=>match jr e cs with
        |some p=>io (p,True)
        |none=>jp
      |none=>jp
    |none=>jp
  | .nilCheck x=>match ev s.f x with
    | .ptr i o=>io (.ptr i o,True)
    | .dH i sz k o=>io (.dH i sz k o,True)
    | .iv (.mK cs)=>io (.iv (.mK cs),True)
    | .du (.func g) a b=>io (.du (.func g) a b,True)
    |_=>jp
  | .binOp op t x y _=>match ev s.f x,ev s.f y with
    | .agg cs,.agg ds=>H9 ty t op (.agg cs) (.agg ds)
    |p,q=>CI ty t op p q
  | .lookup t x i ok=>match ev s.f x with
    | .iv (.eI kc e z zv m)=>yh ty t ok kc e z zv m (ev s.f i)
    | .mp j=>match s.h.get j with
      |some (.map kc e z zv _ m)=>yh ty t ok kc e z zv m (ev s.f i)
      |_=>jp
    |_=>jp
  | .entry it=>match ev s.f it with
    | .ptr i 0=>match s.h.get i with
      |some (.cF kc e _ _ (io x))=>io (.bQ [kc.pk x.1,(e x.2).pv],True)
      |_=>jp
    |_=>jp
  | .unOp .not _ x=>match ev s.f x with
    | .kb kw=>io (.kb lc,True)
    | .kb lc=>io (.kb kw,True)
    | .iv (.v (.bool b))=>io (.bool (!b),True)
    |_=>jp
  | .fieldAddr t x k=>match ty t with
    | some e=>match xj e k with
      | some (off,u)=>match ty u with
        | some eu=>match eu.size with
          |0=>jp
          | _+1=>match tc off (ev s.f x) with
            |some p=>io (p,True)
            |none=>jp
        |none=>jp
      |none=>jp
    |none=>jp
  | .field t x k=>match ty t with
    | some e=>match xj e k with
      | some (off,u)=>match ty u with
        | some eu=>match ev s.f x with
          | .agg cs=>match jr eu (cs.drop off) with
            |some p=>io (p,True)
            |none=>jp
          |_=>jp
        |none=>jp
      |none=>jp
    |none=>jp
  | .indexAddr t x i=>match ty t with
    | some ⟨.bc (.slice u),_,_,_,_⟩=>match ty u with
      | some eu=>match ev s.f i with
        | .iv (.v (.int _ n))=>match ev s.f x with
          | .iv (.de sz m el)=>bif Zz sz eu.size then mL (.iv (.de sz m el)) n else jp
          | .sl j off len sz=>bif Zz sz eu.size then mL (.sl j off len sz) n else jp
          |_=>jp
        |_=>jp
      |none=>jp
    | some ⟨.arr len u,_,_,_,_⟩=>match ty u with
      | some eu=>match ev s.f i with
        | .iv (.v (.int _ n))=>match ev s.f x with
          | .ptr j off=>io (.ptr j (off+n.toNat*eu.size),0<=n∧n<len)
          |_=>jp
        |_=>jp
      |none=>jp
    |_=>jp
  | .index t x i=>match ty t with
    | some ⟨.bc .string,_,_,_,_⟩=>match ev s.f i with
      | .iv (.v (.int _ n))=>match ev s.f x with
        | .iv (.v (.string b))=>io (.iv (.v (.int .u8 ((b.data.toList.getD n.toNat 0).toNat:Int))),0<=n∧n<b.size)
        |_=>jp
      |_=>jp
    |_=>jp
  | .slice t x (io lo) (io hi) jp=>match ty t with
    | some ⟨.bc (.slice u),_,_,_,_⟩=>match ty u with
      | some eu=>match ev s.f lo with
        | .iv (.v (.int _ a))=>match ev s.f hi with
          | .iv (.v (.int _ b))=>match ev s.f x with
            | .iv (.de sz m el)=>bif Zz sz eu.size then io (.iv (.de sz (b.toNat-a.toNat) (fun k=>el (a.toNat+k))),0<=a∧a<=b∧b<=m) else jp
            |_=>jp
          |_=>jp
        |_=>jp
      |none=>jp
    | some ⟨.bc .string,_,_,_,_⟩=>match ev s.f lo with
      | .iv (.v (.int _ a))=>match ev s.f hi with
        | .iv (.v (.int _ b))=>match ev s.f x with
          | .iv (.v (.string y))=>io (.iv (.v (.string (y.extract a.toNat b.toNat))),0<=a∧a<=b∧b<=y.size)
          |_=>jp
        |_=>jp
      |_=>jp
    |_=>jp
  | .build t parts=>match ty t with
    | some e=>match e.k with
      | .dy fs=>match uh ty fs with
        | some pl=>match sw (pl[·]?) (c6 e.zero) (parts.toList.map fun x=>(x.1,ev s.f x.2)) with
          |some cs=>force cs fun d=>io (.agg d,True)
          |none=>jp
        |none=>jp
      | .arr _ u=>match ty u with
        | some eu=>match sw (fun i=>io (i*eu.size,eu.size)) (c6 e.zero) (parts.toList.map fun x=>(x.1,ev s.f x.2)) with
          |some cs=>force cs fun d=>io (.agg d,True)
          |none=>jp
        |none=>jp
      |_=>jp
    |none=>jp
  | .extract x k=>match ev s.f x with
    | .bQ cs=>match cs[k]? with
      |some p=>io (p,True)
      |none=>jp
    |_=>jp
  | .makeFunc fn first caps=>force (first.toList.map (ev s.f)) fun a=>force (caps.toList.map (ev s.f)) fun b=>io (.du fn a b,True)
  | .call ⟨.builtin .len,args,argTypes⟩=>match args.toList,argTypes.toList with
    | [x],[t]=>match ty t with
      | some ⟨.bc (.slice _),_,_,_,_⟩=>match ev s.f x with
        | .iv (.de sz n el)=>zu (.iv (.de sz n el))
        | .sl i off len sz=>zu (.sl i off len sz)
        | .iv (.v (.slice jp 0 0))=>zu (.iv (.v (.slice jp 0 0)))
        |_=>jp
      | some ⟨.bc .string,_,_,_,_⟩=>match ev s.f x with
        | .iv (.v (.string b))=>zu (.iv (.v (.string b)))
        |_=>jp
      | some ⟨.bc (.map _ _),_,_,_,_⟩=>match ev s.f x with
        | .iv (.eI _ _ _ _ m)=>io (.int m.length,True)
        | .mp j=>match s.h.get j with
          |some (.map _ _ _ _ _ m)=>io (.int m.length,True)
          |_=>jp
        |_=>jp
      |_=>jp
    |_,_=>jp
  | .call ⟨.builtin .max,args,_⟩=>match args.toList with
    | [x,y]=>match ev s.f x,ev s.f y with
      | .iv (.v (.int k a)),.iv (.v (.int _ b))=>io (.iv (.v (.int k (max a b))),True)
      |_,_=>jp
    |_=>jp
  | .call ⟨.builtin .min,args,_⟩=>match args.toList with
    | [x,y]=>match ev s.f x,ev s.f y with
      | .iv (.v (.int k a)),.iv (.v (.int _ b))=>io (.iv (.v (.int k (min a b))),True)
      |_,_=>jp
    |_=>jp
  |_=>jp
inductive TT where
  |leaf
  |node (l:TT) (k:Nat) (e:cE) (r:TT)
def TT.find:TT->Nat->Option cE
  | .leaf,_=>jp
  | .node l k e r,t=>bif Zz t k then io e else bif Zs t k then l.find t else r.find t
def TT.XA(p:Nat->cE->Prop):TT->Prop
  | .leaf=>True
  | .node l k e r=>p k e∧l.XA p∧r.XA p
theorem TT.yE{p:Nat->cE->Prop}: ∀{x:TT},x.XA p-> ∀t e,x.find t=io e->p t e
  | .leaf,_,t,e,h=>by simp[TT.find]at h
  | .node l k e0 r,ha,t,e,h=>by
    simp only[TT.find]at h;cases hb:Zz t k with
    | true=>
      simp only[hb,cond_true,Y9]at h;subst h;rw[Zt hb];exact ha.1
    | false=>
      simp only[hb,cond_false]at h;cases hl:Zs t k with
      |true=>simp only[hl,cond_true]at h;exact TT.yE ha.2.1 t e h
      |false=>simp only[hl,cond_false]at h;exact TT.yE ha.2.2 t e h
theorem aq{P:Program}{t:TypeId}{e:cE}(h:(P.info? t).map (fun i=>(i.size,i.bytes,i.zero))=io (e.size,e.bytes,io e.zero)): ∃i,P.info? t=io i∧i.size=e.size∧i.bytes=e.bytes∧i.zero=io e.zero:=by
  rw[Zi]at h;obtain⟨i,d,b⟩:=h;simp only[Zl]at b;exact⟨i,d,b.1,b.2.1,b.2.2⟩
theorem VR.one{M:Mem}{N:Nm}{U:Nat->Prop}{p:PV}{x:Value}(h:VR M N U p x)(ho:p.one=kw):x.oneCell'=kw:=by
  cases h with
  | iv y x hi=>
    cases hi with
    |v x=>cases x<;>first|rfl|(simp[PV.one]at ho)
    |agg=>simp[PV.one]at ho
    |_=>rfl
  |agg=>simp[PV.one]at ho
  |bQ=>simp[PV.one]at ho
  |any=>simp[PV.one]at ho
  |_=>rfl
section
variable {M:Mem} {N:Nm}
theorem VR.nI{U:Nat->Prop}{cs:List PV}{x:Value}(h:VR M N U (.agg cs) x): ∃b:Array Value,x= .agg b∧cs.length=b.size∧ ∀j p,cs[j]? =io p->VR M N U p (b.getD j undef):=by
  cases h with
  |agg _ b hl hr=>exact⟨b,rfl,hl,hr⟩
theorem qT{U:Nat->Prop}{p:PV}{x:Value}{cs:List PV}(h:VR M N U p x)(hc:p.cells=io cs):cs.length=x.cells.size∧ ∀j q,cs[j]? =io q->VR M N U q (x.cells.getD j undef):=by
  have one:p.one=kw->cs=[p]->cs.length=x.cells.size∧ ∀j q,cs[j]? =io q->VR M N U q (x.cells.getD j undef):=by
    intro d b;subst b;have y:=h.one d;have D:x.cells= #[x]:=by cases x<;>first|rfl|(simp[Value.oneCell']at y)
    rw[D];refine⟨rfl,fun j q u=>?_⟩;cases j with
    |zero=>simp at u;subst u;exact h
    |succ j=>simp at u
  cases p with
  | agg l=>
    simp only[PV.cells,Y9]at hc;subst hc;obtain⟨F,rfl,A,B⟩:=h.nI;exact⟨A,B⟩
  | _=>
    simp only[PV.cells]at hc;split at hc
    · rename_i d
      simp only[Y9]at hc;exact one d hc.symm
    · cases hc
theorem oK: ∀{cs:List PV},jA cs=kw-> ∀(j:Nat) (p:PV),cs[j]? =io p->p.one=kw
  | [],_,j,p,h=>by simp at h
  | c::cs,h,j,p,hj=>by
    simp only[jA]at h;split at h
    · rename_i b
      cases j with
      |zero=>simp at hj;subst hj;exact b
      |succ j=>exact oK h j p (by simpa using hj)
    · cases h
theorem gq{U:Nat->Prop}(v:Value):(c6 v).length=v.cells.size∧ ∀j p,(c6 v)[j]? =io p->VR M N U p (v.cells.getD j undef):=by
  refine⟨by simp[c6],fun j p b=>?_⟩;simp only[c6]at b;rw[Zg,Zi]at b;obtain⟨x,u,rfl⟩:=b;have d:v.cells[j]? =io x:=by simpa using u
  rw[Y7,d];exact .iv _ _ (.v _)
theorem A4: ∀(l:List Value) (k off:Nat) (cs:Array Value),off+k+l.length<=cs.size->
    ((l.zipIdx k).foldl (fun cs x=>cs.setIfInBounds (off+x.2) x.1) cs).size=cs.size∧
    ∀j,((l.zipIdx k).foldl (fun cs x=>cs.setIfInBounds (off+x.2) x.1) cs)[j]? =if off+k<=j∧j<off+k+l.length then l[j-(off+k)]? else cs[j]?
  | [],k,off,cs,_=>⟨rfl,fun j=>by simp;omega⟩
  | v::l,k,off,cs,h=>by
    simp only[List.zipIdx_cons,ZD];simp only[ZI]at h;obtain⟨u,y⟩:=A4 l (k+1) off (cs.setIfInBounds (off+k) v) (by simp;omega);refine⟨by rw[u];simp,fun j=>?_⟩;rw[y j];simp only[ZI];by_cases d:off+(k+1)<=j∧j<off+(k+1)+l.length
    · rw[am d,am (by omega),show j-(off+k)=(j-(off+(k+1)))+1 by omega,abd]
    · rw[be d]
      by_cases b:j=off+k
      · subst b
        have hb:off+k<cs.size:=by omega
        rw[am (by omega),aca];simp[hb]
      · rw[be (by omega),ZT,be (fun e=>b e.symm)]
def YX(M:Mem)(N:Nm)(U:Nat->Prop)(cs:List PV)(ys:Array Value):Prop:=cs.length=ys.size∧ ∀j p,cs[j]? =io p->VR M N U p (ys.getD j undef)
theorem uE{j:Nat->Option (Nat×Nat)}: ∀{d:List (Nat×PV)} {cs b:List PV},sw j cs d=io b->b.length=cs.length
  | [],cs,b,h=>by simp only[sw,Y9]at h;rw[h]
  | (i,p)::r,cs,b,h=>by
    simp only[sw]at h;split at h
    · split at h
      · split at h
        · rw[force_eq]at h
          rw[uE h,gm]
        · cases h
      · cases h
    · cases h
theorem uD{U:Nat->Prop}{d:Nat->Option (Nat×Nat)}: ∀{b:List (Nat×PV)} {vals:List (Nat×Value)} {cs u:List PV} {ys:Array Value},
    sw d cs b=io u->b.length=vals.length->(∀(j:Nat) (x:Nat×PV) (y:Nat×Value),b[j]? =io x->vals[j]? =io y->x.1=y.1∧VR M N U x.2 y.2)->YX M N U cs ys->
    ∃A,Instr.fill d ys vals=io A∧YX M N U u A
  | [],[],cs,u,ys,h,_,_,hv=>by
    simp only[sw,Y9]at h;subst h;exact⟨ys,rfl,hv⟩
  | (i,p)::r,(i',v)::vr,cs,u,ys,h,hl,hp,hv=>by
    obtain⟨h1,h2⟩:=hp 0 _ _ Z Z;simp only at h1 h2;subst h1;simp only[sw]at h;split at h
    · rename_i a0 size Y
      split at h
      · rename_i l S
        split at h
        · rename_i I J
          rw[force_eq]at h;obtain⟨g1,g2⟩:=qT h2 S;have b0:v.cells.size=size:=by rw[<-g1];exact Zt I
          have F:a0+v.cells.size<=ys.size:=by rw[<-g1,<-hv.1];exact Y5 J
          obtain⟨k1,k2⟩:=A4 v.cells.toList 0 a0 ys (by simpa using F);have B:v.cells.zipIdx.foldl (fun cs x=>cs.setIfInBounds (a0+x.2) x.1) ys=(v.cells.toList.zipIdx 0).foldl (fun cs x=>cs.setIfInBounds (a0+x.2) x.1) ys:=by
            rw[<-Array.foldl_toList,Array.toList_zipIdx]
          have c0:YX M N U (setCells cs a0 l) (v.cells.zipIdx.foldl (fun cs x=>cs.setIfInBounds (a0+x.2) x.1) ys):=by
            rw[B];refine⟨by rw[gm,k1];exact hv.1,fun j q hq=>?_⟩;rw[Y7,k2 j];rcases lM cs a0 l j q hq with⟨G,D⟩|⟨G,D⟩
            · have d0:j-a0<l.length:=(Zb.1 D).1
              rw[am (by simp;omega)];have:=g2 _ q D;rw[Y7]at this;simpa using this
            · rw[be (by simp;omega)]
              have:=hv.2 j q D;rw[Y7]at this;exact this
          obtain⟨A,G,D⟩:=uD h (by simpa using hl) (fun j x y hx hy=>hp (j+1) x y (by simpa using hx) (by simpa using hy)) c0;refine⟨A,?_,D⟩;simp only[Instr.fill,Y];rw[be (by simp[b0];omega)];exact G
        · cases h
      · cases h
    · cases h
end
section
variable {P:Program} {M:Mem} {N:Nm} {U:Nat->Prop} {h:AH} {w:World}
theorem Rel.SG(hr:Rel M N U h w){b o:Nat}{v:Value}(hc:M.cell b o=io v):w.cell? ⟨b,o,jp⟩=io v:=by
  unfold Mem.cell at hc;cases hb:M b with
  |none=>simp[hb]at hc
  | some c=>
    cases c with
    |map es cl=>simp[hb]at hc
    | cells c=>
      obtain⟨T,j,d⟩:=hr.eW b _ hb;rw[hb]at hc;simp only[World.cell?,d];simpa using hc
theorem IR.F4{cs:List IV}{x:Value}(hr:Rel M N U h w)(hp:IR M (.mK cs) x):
    ∃b a0,x= .pointer (io ⟨b,a0,jp⟩)∧ ∀j q,cs[j]? =io q-> ∃y,w.cell? ⟨b,a0+j,jp⟩=io y∧IR M q y:=by
  cases hp with
  | mK _ b a0 hm hq=>
    refine⟨b,a0,rfl,fun j q A=>?_⟩;have d:j<cs.length:=(Zb.1 A).1;have B:=hm j d;cases hv:M.cell b (a0+j) with
    |none=>simp[hv]at B
    | some y=>
      have u:=hq j q A;rw[hv]at u;exact⟨y,hr.SG hv,u⟩
theorem Bh{p:PV}{x:Value}{cs:List PV}(hr:Rel M N U h w)(hp:VR M N U p x)(hb:behind h p=io cs):
    ∃b a0,x= .pointer (io ⟨b,a0,jp⟩)∧ ∀j q,cs[j]? =io q-> ∃y,w.cell? ⟨b,a0+j,jp⟩=io y∧VR M N U q y:=by
  cases p with
  | ptr i a0=>
    cases hp with
    | ptr _ _ hU=>
      simp only[behind]at hb;cases ho:h.get i with
      |none=>simp[ho]at hb
      | some o=>
        cases o with
        | cells cs0 T0=>
          simp only[ho,Y9]at hb;subst hb;obtain⟨c,T,B,h2,S,D,Y⟩:=hr.obj i _ ho;refine⟨N.aL i,a0,rfl,fun j q d=>?_⟩;rw[aap]at d;have u:a0+j<c.size:=by rw[<-S];exact(Zb.1 d).1
          refine⟨c.getD (a0+j) undef,?_,D _ _ d⟩;simp[World.cell?,B,Y7,u]
        |_=>simp[ho]at hb
  | dH i sz k a0=>
    cases hp with
    | dH _ _ _ _ hU=>
      simp only[behind]at hb;cases ho:h.get i with
      |none=>simp[ho]at hb
      | some o=>
        cases o with
        | row sz' es=>
          simp only[ho]at hb;split at hb
          · rename_i e F A
            simp only[Y9]at hb;have:=Zt F;subst this;subst hb;rcases hr.obj i _ ho with J|⟨J,c,T,B,h2,S,D,Y⟩
            · subst J;simp at A
            refine⟨N.aL i,k*sz'+a0,rfl,fun j q d=>?_⟩;rw[aap]at d;have b0:a0+j<sz':=by rw[<-D k e A];exact(Zb.1 d).1
            have hk:k<es.length:=(Zb.1 A).1;have I:(k+1)*sz'<=es.length*sz':=ZF _ hk;rw[aa3]at I;have u:k*sz'+a0+j<c.size:=by omega
            refine⟨c.getD (k*sz'+a0+j) undef,?_,?_⟩
            · simp[World.cell?,B,Y7,u]
            · rw[aaI];exact Y k e _ q A d
          · cases hb
        |_=>simp[ho]at hb
  | iv x=>
    cases x with
    | mK cs0=>
      cases hp with
      | iv _ _ hi=>
        simp only[behind,Y9]at hb;subst hb;obtain⟨b,a0,rfl,hc⟩:=hi.F4 hr;refine⟨b,a0,rfl,fun j q d=>?_⟩;rw[Zg,Zi]at d;obtain⟨q0,G,rfl⟩:=d;obtain⟨y,hy,hq⟩:=hc j q0 G;exact⟨y,hy,.iv _ _ hq⟩
    |_=>simp[behind]at hb
  |_=>simp[behind]at hb
theorem pY{cs l:List PV}{off n:Nat}(hh:oe cs off n=io l):l.length=n∧ ∀j q,l[j]? =io q->cs[off+j]? =io q∧j<n:=by
  unfold oe at hh;cases hb:Zz ((cs.drop off).take n).length n with
  |false=>simp only[hb,cond_false]at hh;cases hh
  | true=>
    simp only[hb,cond_true,Y9]at hh;subst hh;have u:=Zt hb;refine⟨u,fun j q d=>?_⟩;have b:j<n:=by rw[<-u];exact(Zb.1 d).1
    rw[Z6,am b,aap]at d;exact⟨d,b⟩
theorem su{cs:List PV}{p:PV}(hh:mM cs=io p):cs[0]? =io p:=by
  cases cs with
  |nil=>simp[mM]at hh
  |cons a r=>simpa[mM]using hh
theorem iF(b off j:Nat):(⟨b,off,jp⟩:Addr).add j=⟨b,off+j,jp⟩:=by
  unfold Addr.add;split
  · subst_vars;rfl
  · rfl
theorem vU{t:TypeId}{e:cE}(he:ay P t e){cs:List PV}{b off:Nat}(hc: ∀j q,cs[j]? =io q-> ∃y,w.cell? ⟨b,off+j,jp⟩=io y∧VR M N U q y)
    {p:PV} (hp:jr e cs=io p): ∃y,(loadVar t ⟨b,off,jp⟩).run P w= .ok y w∧VR M N U p y:=by
  unfold jr at hp;cases hk:e.k.agg with
  | true=>
    simp only[hk]at hp;cases ht:oe cs 0 e.size with
    |none=>simp[ht]at hp
    | some l=>
      simp only[ht,force_eq,Y9]at hp;subst hp;obtain⟨J,B⟩:=pY ht;have d: ∀j,j<e.size->w.cell? ((⟨b,off,jp⟩:Addr).add j)=io (((w.cell? ⟨b,off+j,jp⟩)).getD undef):=by
        intro j I;have x:l[j]? =io (l[j]'(by omega)):=Za (by omega);obtain⟨y,u,_⟩:=hc j _ (by simpa using(B j _ x).1);rw[iF,u];rfl
      refine⟨.agg (((Zy e.size).map fun j=>(w.cell? ⟨b,off+j,jp⟩).getD undef).toArray),?_,?_⟩
      · have:=run_loadCells (P:=P) w ⟨b,off,jp⟩ e.size (fun j=>(w.cell? ⟨b,off+j,jp⟩).getD undef) d
        simp[loadVar,oR he,hk,bL he,this]
      · refine .agg _ _ (by simp[J]) (fun j q S=>?_)
        obtain⟨D,F⟩:=B j q S;obtain⟨y,u,A⟩:=hc j q (by simpa using D);have G:(((Zy e.size).map fun j=>(w.cell? ⟨b,off+j,jp⟩).getD undef).toArray).getD j undef=y:=by
          simp[Y7,F,u]
        rw[G];exact A
  | false=>
    simp only[hk]at hp;obtain⟨y,u,A⟩:=hc 0 p (su hp);refine⟨y,?_,A⟩;simp only[loadVar,Sem.run_bind,oR he,Result.andThen_ok,hk,aaG,if_false];simp only[abg]at u;simp[u]
theorem jK{t:TypeId}{e:cE}(he:ay P t e){cs:List PV}{ys:Array Value}{off:Nat}(J:cs.length=ys.size)(hc: ∀j q,cs[j]? =io q->VR M N U q (ys.getD j undef))
    {p:PV} (hp:jr e (cs.drop off)=io p): ∃y,(part t ys off).run P w= .ok y w∧VR M N U p y:=by
  unfold jr at hp;cases hk:e.k.agg with
  | true=>
    simp only[hk]at hp;cases ht:oe (cs.drop off) 0 e.size with
    |none=>simp[ht]at hp
    | some l=>
      simp only[ht,force_eq,Y9]at hp;subst hp;obtain⟨A,D⟩:=pY ht;refine⟨.agg (ys.extract off (off+e.size)),by simp[part,oR he,hk,bL he],.agg _ _ ?_ (fun j q F=>?_)⟩
      · rw[A,Array.size_extract]
        by_cases d:e.size=0
        · omega
        · have b:l[e.size-1]? =io (l[e.size-1]'(by omega)):=Za (by omega)
          have:=(D _ _ b).1;rw[aap]at this;have:=(Zb.1 this).1;omega
      · obtain⟨u,I⟩:=D j q F
        rw[aap]at u;have x:=hc _ _ u;have B:off+(0+j)<cs.length:=(Zb.1 u).1;have:(ys.extract off (off+e.size)).getD j undef=ys.getD (off+(0+j)) undef:=by
          simp only[Y7,Array.getElem?_extract,Zu];rw[am (by omega)]
        rw[this];exact x
  | false=>
    simp only[hk]at hp;have d:=su hp;rw[aap]at d;have x:=hc _ _ d;have B:off+0<cs.length:=(Zb.1 d).1;refine⟨ys.getD (off+0) undef,?_,x⟩;have G:ys[off]? =io (ys.getD off undef):=by
      simp[Y7,show off<ys.size by omega]
    simp only[part,Sem.run_bind,oR he,Result.andThen_ok,hk,aaG,if_false,G];rfl
theorem BE(a b:ByteArray):(a.toList==b.toList)=li (a=b):=by
  rw[Lib.toList_data,Lib.toList_data,ZW];simp only[beq_iff_eq,decide_eq_true_eq];exact⟨fun h=>WideShapes.bytes_inj h,fun h=>by rw[h]⟩
theorem LA{t:TypeId}{op:BinOp}{k:IntKind}{a b:Int}{p:PV}{C:Prop}(h:Hs op k a b=io (p,C))(hC:C): ∃x,(binOp op t (.int k a) (.int k b)).run P w= .ok x w∧VR M N U p x:=by
  have j: ∀n:Int,jk n->IntKind.i64.wrap n=n:=fun n u=>IntWalk.i64_in n u;unfold Hs at h;split at h
  all_goals first
    |cases h;done
    | (simp only[Y9,Zl]at h
       obtain⟨rfl,rfl⟩:=h;refine⟨_,?_,.iv _ _ (.v _)⟩
       first
       |(simp[binOp,Op.intCmp];done)
       |rfl
       |(simp[binOp,Op.intCmp];rfl)
       |(have d:=j _ hC;simp[binOp,Op.intArith,d];done)
       |(simp[binOp,Op.intDiv,hC];done)
       |(have d:=j _ hC.2;simp[binOp,Op.intDiv,hC.1,d];done))
theorem Ks{t:TypeId}{op:BinOp}{k j:IntKind}{a b:Int}{p:PV}{C:Prop}(h:GQ op k a b=io (p,C)): ∃x,(binOp op t (.int k a) (.int j b)).run P w= .ok x w∧VR M N U p x:=by
  unfold GQ at h;split at h
  case h_3=>cases h
  all_goals
    split at h
    · rename_i hb
      simp only[Y9,Zl]at h;obtain⟨rfl,rfl⟩:=h;have d: ¬b<0:=by have:=of_decide_eq_true hb;omega
      refine⟨_,?_,.iv _ _ (.v _)⟩;simp only[binOp,Op.shift,be d];rfl
    · cases h
theorem Kd{t:TypeId}{op:BinOp}{a b:ByteArray}{p:PV}{C:Prop}(h:GI op a b=io (p,C))(hC:C): ∃x,(binOp op t (.string a) (.string b)).run P w= .ok x w∧VR M N U p x:=by
  unfold GI at h;split at h
  all_goals first
    |cases h;done
    | (simp only[Y9,Zl]at h
       obtain⟨rfl,rfl⟩:=h;refine⟨_,?_,.iv _ _ (.v _)⟩
       first
       |(simp[binOp,Op.stringOp,<-BE];done)
       | (have d: ¬(((a.size+b.size:Nat):Int)>IntKind.i64.max):=by(have:IntKind.i64.max=9223372036854775807:=by decide);rw[this];omega
          simp only[binOp,Op.stringOp,be d];rfl))
theorem kN{op:BinOp}{t:TypeId}{x y:Operand}{a b:Value}(h1:a≠ .nilIface)(h2: ∀d,a≠ .agg d):(eqGuard op t x y a b).run P w= .ok () w:=by
  unfold eqGuard;cases op<;>cases a<;>first|rfl|exact absurd Z h1|exact absurd Z (h2 _)
theorem Cx{t:TypeId}(hu:P.underlying t=io .bool)(d:Nat)(a b:Bool):(Op.equalIn (d+1) t (.bool a) (.bool b)).run P w= .ok (a==b) w:=by
  simp[Op.equalIn,run_underlying hu]
theorem yH{t:TypeId}(hu:P.underlying t=io .bool)(a b:Bool):(Op.equal t (.bool a) (.bool b)).run P w= .ok (a==b) w:=
  Cx hu 9999 a b
theorem yT{t:TypeId}(hu:P.underlying t=io .bool)(a b:Bool):(binOp .eql t (.bool a) (.bool b)).run P w= .ok (.bool (a==b)) w:=by
  show(Op.equal t (.bool a) (.bool b)>>=fun r=>(pure (.bool r):Sem Value)).run P w=_;rw[Sem.run_bind,yH hu];rfl
theorem yS{t:TypeId}(hu:P.underlying t=io .bool)(a b:Bool):(binOp .neq t (.bool a) (.bool b)).run P w= .ok (.bool (!(a==b))) w:=by
  show(Op.equal t (.bool a) (.bool b)>>=fun r=>(pure (.bool (!r)):Sem Value)).run P w=_;rw[Sem.run_bind,yH hu];rfl
theorem rL{ty:Ty}(d:cD P ty){t:TypeId}{op:BinOp}{a b:Bool}{r:PV}{C:Prop}{u v:Operand}(h:qW ty t op a b=io (r,C)):
    ∃z,(do eqGuard op t u v (.bool a) (.bool b);binOp op t (.bool a) (.bool b):Sem Value).run P w= .ok z w∧VR M N U r z:=by
  unfold qW at h;split at h
  · rename_i j
    have hu:P.underlying t=io .bool:=(d t _ j).2.1.1;split at h
    all_goals first
      |cases h;done
      | (simp only[Y9,Zl]at h
         obtain⟨rfl,rfl⟩:=h;refine⟨_,?_,.iv _ _ (.v _)⟩;rw[Sem.run_bind,kN (by simp) (by simp)]
         first|exact yT hu _ _|exact yS hu _ _)
  · cases h
theorem JD{ty:Ty}(j:cD P ty){t:TypeId}{op:BinOp}{p q:PV}{r:PV}{C:Prop}{u v:Operand}{x y:Value}(h:CI ty t op p q=io (r,C))(hC:C)(b:VR M N U p x)(d:VR M N U q y):
    ∃z,(do eqGuard op t u v x y;binOp op t x y:Sem Value).run P w= .ok z w∧VR M N U r z:=by
  unfold CI at h;split at h
  · cases b with
    | iv _ _ b=>cases b with
      | v=>
        cases d with
        | iv _ _ d=>cases d with
          | v=>
            split at h
            · rename_i D
              subst D;obtain⟨z,B,A⟩:=LA (P:=P) (M:=M) (N:=N) (U:=U) (w:=w) (t:=t) h hC;exact⟨z,by rw[Sem.run_bind,kN (by simp) (by simp)];exact B,A⟩
            · obtain⟨z,B,A⟩:=Ks (P:=P) (M:=M) (N:=N) (U:=U) (w:=w) (t:=t) h
              exact⟨z,by rw[Sem.run_bind,kN (by simp) (by simp)];exact B,A⟩
  · cases b with
    | iv _ _ b=>cases b with
      | v=>
        cases d with
        | iv _ _ d=>cases d with
          | v=>
            obtain⟨z,B,A⟩:=Kd (P:=P) (M:=M) (N:=N) (U:=U) (w:=w) (t:=t) h hC;exact⟨z,by rw[Sem.run_bind,kN (by simp) (by simp)];exact B,A⟩
  · split at h
    · cases b with
      | iv _ _ b=>cases b with
        | v=>
          cases d with
          | iv _ _ d=>cases d with
            |v=>exact rL j h
    · cases b with
      | iv _ _ b=>cases b with
        | v=>
          cases d with
          |kb=>exact rL j h
    · cases h
  · split at h
    · cases b with
      | kb=>
        cases d with
        | iv _ _ d=>cases d with
          |v=>exact rL j h
    · cases b with
      | kb=>
        cases d with
        |kb=>exact rL j h
    · cases h
  · cases h
theorem Li{f:AF}{a:Act}(hf:FR M N U f a.tmps)(xs:Array Operand):(xs.toList.map (ev f)).length=(xs.map a.eval).size∧ ∀j p,(xs.toList.map (ev f))[j]? =io p->VR M N U p ((xs.map a.eval).getD j undef):=by
  refine⟨by simp,fun j p d=>?_⟩;rw[Zg,Zi]at d;obtain⟨x,u,rfl⟩:=d;have b:xs[j]? =io x:=by simpa using u
  rw[Y7,abw,b];exact a7 hf x
theorem uF{t:TypeId}{e:cE}(he:ay P t e){k off:Nat}{u:TypeId}(hf:xj e k=io (off,u)): ∃(F:Array Field) (fd:Field),P.underlying t=io (.struct F)∧F[k]? =io fd∧fd.offset=off∧fd.type=u:=by
  unfold xj at hf;cases hk:e.k with
  | dy fs=>
    simp only[hk]at hf;obtain⟨_,d,_⟩:=he;rw[hk]at d;obtain⟨F,j,x⟩:=d;rw[<-x,Zg,Zi]at hf;obtain⟨fd,y,b⟩:=hf;simp only[Zl]at b;exact⟨F,fd,j,by simpa using y,b.1,b.2⟩
  |_=>simp[hk]at hf
theorem IK{n:Nat}{p q:PV}{x:Value}(A:VR M N U p x)(h:tc n p=io q): ∃b o,x= .pointer (io ⟨b,o,jp⟩)∧VR M N U q (.pointer (io ⟨b,o+n,jp⟩)):=by
  cases A with
  |ptr i off hU=>simp only[tc,Y9]at h;subst h;exact⟨_,_,rfl,.ptr _ _ hU⟩
  |dH i sz k off hU=>simp only[tc,Y9]at h;subst h;exact⟨_,_,rfl,by rw[aaI];exact .dH _ _ _ _ hU⟩
  | iv y _ hi=>
    cases hi with
    | mK cs b off hm hr=>
      simp only[tc,Y9]at h;subst h;refine⟨b,off,rfl,.iv _ _ (.mK _ _ _ (fun j u=>?_) (fun j p d=>?_))⟩
      · rw[List.length_drop]at u
        rw[aaI];exact hm (n+j) (by omega)
      · rw[aap]at d
        rw[aaI];exact hr (n+j) p d
    |_=>simp[tc]at h
  |_=>simp[tc]at h
theorem sq{t u:TypeId}{d:cE}(hu:P.underlying t=io (.slice u))(A:ay P u d){p q:PV}{k:IntKind}{n:Int}{C:Prop}{x:Value}(F:VR M N U p x)
    (B:(∃m el,p= .iv (.de d.size m el))∨ ∃i a0 len,p= .sl i a0 len d.size) (h:mL p n=io (q,C)) (hC:C): ∃y,(Instr.indexAt t x (.int k n)).run P w= .ok y w∧VR M N U q y:=by
  rcases B with⟨m,el,rfl⟩|⟨i,a0,len,rfl⟩
  · simp only[mL,Y9,Zl]at h
    obtain⟨rfl,rfl⟩:=h;cases F with
    | iv _ _ hi=>
      cases hi with
      |j8 sz el a cap=>omega
      | de sz m el b a0 cap hn hc hl hm hr=>
        refine⟨.pointer (io ⟨b,a0+n.toNat*d.size,jp⟩),?_,.iv _ _ (.mK _ _ _ (fun j D=>?_) (fun j p G=>hr n.toNat j p (by omega) G))⟩
        · simp only[Instr.indexAt,asIntOf]
          simp[run_underlying hu,hC.1,hC.2,bL A,iF]
        · rw[hl n.toNat (by omega)]at D
          exact hm n.toNat j (by omega) D
  · simp only[mL,Y9,Zl]at h
    obtain⟨rfl,rfl⟩:=h;cases F with
    |pW=>omega
    |sle=>omega
    | sl _ _ _ _ cap hU h0 hl hc he=>
      refine⟨.pointer (io ⟨N.aL i,(a0+n.toNat)*d.size+0,jp⟩),?_,.dH _ _ _ _ hU⟩;simp only[Instr.indexAt,asIntOf];simp[run_underlying hu,hC.1,hC.2,bL A,iF,aal]
theorem Iv{t u:TypeId}{d:cE}(hu:P.underlying t=io (.slice u))(A:ay P u d){m:Nat}{el:Nat->List IV}{ka kb:IntKind}{na nb:Int}{q:PV}{C:Prop}{x:Value}(S:VR M N U (.iv (.de d.size m el)) x)
    (h:io (PV.iv (.de d.size (nb.toNat-na.toNat) (fun k=>el (na.toNat+k))),0<=na∧na<=nb∧nb<=m)=io (q,C)) (hC:C): ∃y,(Instr.sliceAt t x (io (.int ka na)) (io (.int kb nb)) jp).run P w= .ok y w∧VR M N U q y:=by
  simp only[Y9,Zl]at h;obtain⟨rfl,rfl⟩:=h;obtain⟨G,h1,h2⟩:=hC;have hb:(nb.toNat:Int)=nb:=acn (by omega);cases S with
  | iv _ _ hi=>
    cases hi with
    | j8 sz el a cap=>
      have D:na=0:=by omega
      have F:nb=0:=by omega
      subst D;subst F;refine⟨.slice (if cap=0 then a else a.map (·.add (0*d.size))) 0 cap,?_,.iv _ _ (.j8 _ _ _ _)⟩;simp[Instr.sliceAt,Instr.slice,Instr.sliceBounds,Instr.sliceBound,asIntOf,run_underlying hu,bL A]
    | de sz m el b off cap hn hc hl hm hr=>
      refine⟨.slice (if cap=na.toNat then io ⟨b,off,jp⟩ else(io (⟨b,off,jp⟩:Addr)).map (·.add (na.toNat*d.size))) (nb.toNat-na.toNat) (cap-na.toNat),?_,?_⟩
      · have g1:nb<=(cap:Int):=by omega
        have g2:na<=(nb.toNat:Int):=by omega
        simp[Instr.sliceAt,Instr.slice,Instr.sliceBounds,Instr.sliceBound,asIntOf,run_underlying hu,bL A,G,g1,(by omega:0<=nb)];intro hh;omega
      · by_cases Y:nb.toNat-na.toNat=0
        · rw[Y];exact .iv _ _ (.j8 _ _ _ _)
        · rw[be (by omega),Z8,iF]
          refine .iv _ _ (IR.de (sz:=d.size) (n:=nb.toNat-na.toNat) (el:=fun k=>el (na.toNat+k)) (b:=b) (off:=off+na.toNat*d.size) (cap:=cap-na.toNat) (by omega) (by omega) (fun k B=>hl _ (by omega)) (fun k j B I=>?_) (fun k j p B J=>?_))
          · have:=hm (na.toNat+k) j (by omega) I
            rwa[aal,<-aaI]at this
          · have:=hr (na.toNat+k) j p (by omega) J
            rwa[aal,<-aaI]at this
theorem Df{t:TypeId}(hu:P.underlying t=io .string){b:ByteArray}{ka kb:IntKind}{na nb:Int}(hC:0<=na∧na<=nb∧nb<=b.size):
    (Instr.sliceAt t (.string b) (io (.int ka na)) (io (.int kb nb)) jp).run P w= .ok (.string (b.extract na.toNat nb.toNat)) w:=by
  obtain⟨d,u,j⟩:=hC;have hb:(nb.toNat:Int)=nb:=acn (by omega);have g2:na<=(nb.toNat:Int):=by omega
  simp[Instr.sliceAt,Instr.slice,Instr.sliceBounds,Instr.sliceBound,asIntOf,run_underlying hu,d,j,(by omega:0<=nb)];intro hh;omega
end
end
end Go.Al
namespace Go.Al
open Go.MapKept
section
section
variable {P:Program} {ty:Ty} {M:Mem} {N:Nm} {U:Nat->Prop} {w:World}
theorem qK{t:TypeId}{F:Array Field}(h:P.underlying t=io (.struct F)):P.fieldsOf t=F:=by
  simp[Program.fieldsOf,h]
theorem cR {t:TypeId} {F:Array Field} (h:P.underlying t=io (.struct F)) (h1:P.stoodInHeld t=lc) (h2:P.eqGuardType P.depth t=lc) (h3:(F.toList.all fun f=>f.name != "_")=kw):Xo P t:=
  ⟨h1,h2,fun f b=>by
    rw[qK h]at b;have:=ZA.1 h3 f b
    simpa using this⟩
theorem HO(d:cD P ty){f:TypeId->PV->PV->Option Bool}{D:Nat}(hf: ∀u p q b,f u p q=io b-> ∀x y,VR M N U p x->VR M N U q y->(Op.equalIn D u x y).run P w= .ok b w)
    {cs ds:List PV} {xs ys:Array Value} (hx:VR M N U (.agg cs) (.agg xs)) (hy:VR M N U (.agg ds) (.agg ys)):
    ∀(F:List Field) (b:Bool),(∀g∈F,g.name≠ "_")->Jq f ty (F.map fun g=>(g.offset,g.type)) cs ds=io b->(Op.eqFields D xs ys F).run P w= .ok b w
  | [],b,_,h=>by simp only[Z0,Jq,Y9]at h;subst h;simp[Op.eqFields]
  | g::F,b,hn,h=>by
    simp only[Zr,Jq]at h;split at h
    · rename_i eu j
      split at h
      · rename_i p q hp hq
        split at h
        · rename_i b1 b2 h1 h2
          simp only[Y9]at h;subst h;obtain⟨_,A,B,G⟩:=hx.nI;cases A;obtain⟨_,S,Y,a0⟩:=hy.nI;cases S;obtain⟨x,I,J⟩:=jK (P:=P) (w:=w) (d _ _ j) B G hp;obtain⟨y,b0,c0⟩:=jK (P:=P) (w:=w) (d _ _ j) Y a0 hq;have h3:=hf _ _ _ _ h1 x y J c0;have h4:=HO d hf hx hy F b2 (fun g hg=>hn g (Zn _ hg)) h2;simp only[Op.eqFields,am (hn g Zo),Sem.run_bind,I,b0,h3,Result.andThen_ok];cases b1 with
          |false=>simp
          |true=>simpa using h4
        · cases h
      · cases h
    · cases h
theorem Ge(j:cD P ty): ∀(d:Nat) (t:TypeId) (p q:PV) (b:Bool),Jr ty d t p q=io b-> ∀x y,VR M N U p x->VR M N U q y-> ∀m,(Op.equalIn (d+m) t x y).run P w= .ok b w
  |0,_,_,_,_,h,_,_,_,_,_=>by simp[Jr]at h
  | d+1,t,p,q,b,h,x,y,A,B,m=>by
    rw[show d+1+m=(d+m)+1 by omega];simp only[Jr]at h;split at h
    · rename_i k _ _ _ _ D
      have hu:=(j t _ D).2.1.1;split at h
      · split at h
        · simp only[Y9]at h
          subst h;cases A with
          | iv _ _ A => cases A
                        cases B with
                        | iv _ _ B => cases B
                                      rename_i e;subst e;rw[run_equalIn_int _ _ _ _ _ _ _ hu];congr 1
        · cases h
      · cases h
    · rename_i _ _ _ _ D
      have hu:=(j t _ D).2.1.1;split at h
      · simp only[Y9]at h
        subst h;cases A with
        | iv _ _ A => cases A
                      cases B with
                      | iv _ _ B => cases B
                                    rw[run_equalIn_string _ _ _ _ _ hu,BE]
      · cases h
    · rename_i _ _ _ _ D
      have hu:=(j t _ D).2.1.1;split at h
      · simp only[Y9]at h
        subst h;cases A with
        | iv _ _ A => cases A
                      cases B with
                      |iv _ _ B=>cases B;rw[run_equalIn_bool' _ _ _ _ _ hu]
      · cases h
    · rename_i fs _ _ _ D
      obtain⟨_,⟨F,hu,S⟩,Y⟩:=j t _ D;obtain⟨J,a0,I⟩:=Y Z;split at h
      · obtain⟨xs,rfl,_,_⟩:=A.nI
        obtain⟨ys,rfl,_,_⟩:=B.nI;have G:=qK hu;rw[run_equalIn_struct _ _ _ _ _ (by rw[G];exact hu) J,G];rw[G]at I;refine HO j (f:=Jr ty d) (fun u p q b hb x y A B=>Ge j d u p q b hb x y A B m) A B _ _ I ?_;rw[S];exact h
      · cases h
    · cases h
theorem Na(B:cD P ty){t:TypeId}{op:BinOp}{cs D:List PV}{r:PV}{C:Prop}{u v:Operand}{x y:Value}(h:H9 ty t op (.agg cs) (.agg D)=io (r,C))(G:VR M N U (.agg cs) x)(I:VR M N U (.agg D) y):
    C∧ ∃z,(do eqGuard op t u v x y;binOp op t x y:Sem Value).run P w= .ok z w∧VR M N U r z:=by
  have key: ∀b,Jr ty 10 t (.agg cs) (.agg D)=io b-> ∃d j,x= .agg d∧y= .agg j∧P.eqGuardType P.depth t=lc∧(Op.equalIn 10000 t (.agg d) (.agg j)).run P w= .ok b w:=by
    intro b hb;have A:=Ge (P:=P) (w:=w) B 10 t _ _ b hb x y G I 9990;obtain⟨d,rfl,_,_⟩:=G.nI;obtain⟨j,rfl,_,_⟩:=I.nI;refine⟨d,j,rfl,rfl,?_,A⟩;simp only[Jr]at hb;split at hb
    · cases hb
    · cases hb
    · cases hb
    · rename_i J
      exact((B t _ J).2.2 Z).2.1
    · cases hb
  unfold H9 at h;split at h
  · split at h
    · rename_i b hb
      simp only[Y9,Zl]at h;obtain⟨rfl,rfl⟩:=h;obtain⟨d,j,rfl,rfl,A,F⟩:=key b hb;refine⟨ac,.bool b,?_,.iv _ _ (.v _)⟩;rw[Sem.run_bind,run_eqGuard_agg _ _ _ _ _ _ _ A,Result.andThen_ok,run_eql_struct,F];rfl
    · cases h
  · split at h
    · rename_i b hb
      simp only[Y9,Zl]at h;obtain⟨rfl,rfl⟩:=h;obtain⟨d,j,rfl,rfl,A,F⟩:=key b hb;refine⟨ac,.bool (!b),?_,.iv _ _ (.v _)⟩;rw[Sem.run_bind,run_eqGuard_agg _ _ _ _ _ _ _ A,Result.andThen_ok,run_neq_struct,F];rfl
    · cases h
  · cases h
theorem Hb(kc:KC)(k:kc.K):VR M N U (kc.pk k) (kc.ek k):=by
  cases kc with
  |str=>exact .iv _ _ (.v _)
  |int k=>exact .iv _ _ (.v _)
  | si j=>
    refine .agg _ _ (by rfl) fun i p b=>?_
    match i with
    |0=>simp at b;subst b;exact .iv _ _ (.v _)
    |1=>simp at b;subst b;exact .iv _ _ (.v _)
    |i+2=>simp at b
theorem Mo{kc:KC}{p:PV}{k:kc.K}{x:Value}(h:kc.dk p=io k)(d:VR M N U p x):x=kc.ek k:=by
  cases kc with
  | str=>
    simp only[KC.dk]at h;split at h
    · simp only[Y9]at h
      subst h;cases d with
      |iv _ _ d=>cases d;rfl
    · cases h
  | int j=>
    simp only[KC.dk]at h;split at h
    · split at h
      · rename_i e
        subst e;simp only[Y9]at h;subst h;cases d with
        |iv _ _ d=>cases d;rfl
      · cases h
    · cases h
  | si j=>
    simp only[KC.dk]at h;split at h
    · split at h
      · rename_i e
        subst e;simp only[Y9]at h;subst h;obtain⟨u,rfl,A,y⟩:=d.nI;have g0:=y 0 _ Z;have g1:=y 1 _ Z;obtain⟨u⟩:=u
        match u,A with
        | [a,b],_=>
          simp at g0 g1;cases g0 with
          | iv _ _ g0=>
            cases g1 with
            |iv _ _ g1=>cases g0;cases g1;rfl
      · cases h
    · cases h
theorem wb{d:TypeId}(b:cD P ty)(h:gG ty d=io .str):P.underlying d=io .string:=by
  unfold gG at h;split at h
  · rename_i j;exact(b _ _ j).2.1.1
  · cases h
  · split at h<;>cases h
  · cases h
theorem wc{d:TypeId}{k:IntKind}(b:cD P ty)(h:gG ty d=io (.int k)):P.underlying d=io (.int k):=by
  unfold gG at h;split at h
  · cases h
  · rename_i j;simp only[Y9,KC.int.injEq]at h;subst h;exact(b _ _ j).2.1.1
  · split at h<;>cases h
  · cases h
theorem EI{kc:KC}{j:TypeId}(u:cD P ty)(h:gG ty j=io kc)(a b:kc.K):(Op.equal j (kc.ek a) (kc.ek b)).run P w= .ok (li (a=b)) w:=by
  have key: ∀(r:Bool),Jr ty 10 j (kc.pk a) (kc.pk b)=io r->(Op.equal j (kc.ek a) (kc.ek b)).run P w= .ok r w:=fun r y=>
    Ge (M:=Mem.base) (N:=⟨fun _=>0,fun _=>0⟩) (U:=fun _=>True) u 10 j _ _ r y _ _ (Hb kc a) (Hb kc b) 9990
  unfold gG at h;split at h
  · rename_i d
    simp only[Y9]at h;subst h;refine key _ ?_;simp[Jr,d,KC.pk]
  · rename_i d
    simp only[Y9]at h;subst h;refine key _ ?_;simp[Jr,d,KC.pk]
  · rename_i d
    split at h
    · rename_i x hb
      simp only[Y9]at h;subst h;refine key _ ?_;obtain⟨A,a2⟩:=a;obtain⟨B,D⟩:=b;simp[Jr,Jq,d,x,hb,KC.pk,jr,TK.agg,mM]
    · cases h
  · cases h
def lB(kc:KC){V:Type}:List (kc.K×V)->kc.K->Option Nat
  | [],_=>jp
  |(a,_)::r,k=>if a=k then io 0 else(lB kc r k).map (· +1)
section
variable {kc:KC} {V:Type}
theorem mc: ∀{m:List (kc.K×V)} {k:kc.K} {i:Nat},lB kc m k=io i-> ∃v,m[i]? =io (k,v)∧(∀z,bU kc m k z=v)∧eh kc m k=kw∧(∀d,cH kc m k d=m.set i (k,d))∧pT kc m k=m.eraseIdx i
  | [],_,_,h=>by simp[lB]at h
  | (a,b)::r,k,i,h=>by
    simp only[lB]at h;split at h
    · rename_i e
      simp only[Y9]at h;subst h;subst e;exact⟨b,rfl,fun z=>by simp[bU],by simp[eh],fun d=>by simp[cH],by simp[pT]⟩
    · rename_i e
      obtain⟨j,D,rfl⟩:=Zi.1 h;obtain⟨v,u,x,y,A,B⟩:=mc D;exact⟨v,by simpa using u,fun z=>by simp[bU,e,x],by simp[eh,e,y],fun d=>by simp[cH,e,A],by simp[pT,e,B]⟩
theorem me: ∀{m:List (kc.K×V)} {k:kc.K},lB kc m k=jp->(∀z,bU kc m k z=z)∧eh kc m k=lc∧(∀d,cH kc m k d=m++ [(k,d)])∧pT kc m k=m
  | [],_,_=>⟨fun z=>rfl,rfl,fun v=>rfl,rfl⟩
  | (a,b)::r,k,h=>by
    simp only[lB]at h;split at h
    · cases h
    · rename_i e
      obtain⟨j,u,x,y⟩:=me (abh.1 h);exact⟨fun z=>by simp[bU,e,j],by simp[eh,e,u],fun d=>by simp[cH,e,x],by simp[pT,e,y]⟩
def zj(kc:KC){V:Type}:List MapEntry->List (kc.K×V)->Prop
  | [],[]=>True
  |e::r,x::m=>e.key=kc.ek x.1∧zj kc r m
  |_,_=>False
theorem Eg: ∀{es:List MapEntry} {m:List (kc.K×V)},es.length=m.length->(∀(j:Nat) (x:kc.K×V),m[j]? =io x->(es.getD j em).key=kc.ek x.1)->zj kc es m
  | [],[],_,_=>trivial
  |e::r,x::m,hl,h=>⟨by simpa using h 0 x Z,Eg (by simpa using hl) fun j x b=>by simpa using h (j+1) x (by simpa using b)⟩
  | [],_::_,hl,_=>by simp at hl
  |_::_,[],hl,_=>by simp at hl
theorem wi: ∀{es:List MapEntry} {m:List ((KC.str).K×V)} {k:ByteArray} (i:Nat),zj .str es m->Instr.findNow .string (.string k) es i=io ((lB .str m k).map fun j=>(i+j,(es.getD j em).val))
  | [],[],_,_,_=>rfl
  | e::r,(a,b)::m,k,i,h=>by
    obtain⟨u,x⟩:=h;simp only[KC.ek]at u;simp only[Instr.findNow,u,Instr.sameNow,lB];rw[beq_toListBytes,BE];by_cases d:a=k
    · subst d;simp
    · have hb:li (k=a)=lc:=by simpa using fun e=>d e.symm
      rw[hb,be d,wi (i+1) x];simp only[ack,Y9];congr 1
      funext j
      simp;omega
  | [],_::_,_,_,h=>h.elim
  |_::_,[],_,_,h=>h.elim
theorem wj{q:IntKind}: ∀{es:List MapEntry} {m:List ((KC.int q).K×V)} {k:Int} (i:Nat),zj (.int q) es m->Instr.findNow (.int q) (.int q k) es i=io ((lB (.int q) m k).map fun j=>(i+j,(es.getD j em).val))
  | [],[],_,_,_=>rfl
  | e::r,(a,b)::m,k,i,h=>by
    obtain⟨u,x⟩:=h;simp only[KC.ek]at u;simp only[Instr.findNow,u,Instr.sameNow,lB,if_true];by_cases d:a=k
    · subst d;simp
    · have: ¬k=a:=fun e=>d e.symm
      have hb:(k==a)=lc:=by simpa using this
      rw[hb,be d,wj (i+1) x];simp only[ack,Y9];congr 1
      funext j
      simp;omega
  | [],_::_,_,_,h=>h.elim
  |_::_,[],_,_,h=>h.elim
theorem sv{y:TypeId}(u:cD P ty)(x:gG ty y=io kc): ∀{es:List MapEntry} {m:List (kc.K×V)} {k:kc.K} (i:Nat),zj kc es m->
    (Instr.findAsking y (kc.ek k) es i).run P w= .ok ((lB kc m k).map fun j=>(i+j,(es.getD j em).val)) w
  | [],[],_,_,_=>by simp[Instr.findAsking,lB]
  | e::r,(a,b)::m,k,i,h=>by
    obtain⟨A,B⟩:=h;simp only[Instr.findAsking,A,Sem.run_bind,EI (P:=P) (w:=w) u x,Result.andThen_ok,lB];by_cases d:a=k
    · subst d;simp
    · have: ¬k=a:=fun e=>d e.symm
      rw[be d];simp only[this,decide_false,aaG,if_false,sv u x (i+1) B,ack];congr 2
      funext j
      simp;omega
  | [],_::_,_,_,h=>h.elim
  |_::_,[],_,_,h=>h.elim
theorem tA{A:TypeId}(b:cD P ty)(x:gG ty A=io kc){es:List MapEntry}{m:List (kc.K×V)}(k:kc.K)(h:zj kc es m):
    (Instr.findKey A (kc.ek k) es).run P w= .ok ((lB kc m k).map fun j=>(j,(es.getD j em).val)) w:=by
  have hu: ∃d,P.underlying A=io d:=by
    unfold gG at x;split at x
    · rename_i y;exact⟨_,(b _ _ y).2.1.1⟩
    · rename_i y;exact⟨_,(b _ _ y).2.1.1⟩
    · rename_i y;obtain⟨F,B,_⟩:=(b _ _ y).2.1;exact⟨_,B⟩
    · cases x
  obtain⟨d,hd⟩:=hu;unfold Instr.findKey;rw[Sem.run_bind,run_underlying hd,Result.andThen_ok];have u:=sv (P:=P) (w:=w) b x (k:=k) 0 h;simp only[Zu]at u;cases kc with
  | str=>
    have:=wb b x;rw[hd]at this;cases this;simp only[KC.ek,wi 0 h,Zu];rfl
  | int q=>
    have:=wc b x;rw[hd]at this;cases this;simp only[KC.ek,wj 0 h,Zu];rfl
  | si q=>
    cases es with
    | nil=>
      cases m with
      |nil=>simp[Instr.findNow,lB]
      |cons=>exact h.elim
    | cons e r=>
      have D:Instr.findNow d (KC.ek (.si q) k) (e::r) 0=jp:=by
        simp only[Instr.findNow,KC.ek];have:Instr.sameNow d (.agg #[.string k.1,.int q k.2]) e.key=jp:=by cases d<;>rfl
        rw[this]
      rw[D];exact u
theorem l0.keys{V:Type}{e:V->IV}{m:List (kc.K×V)}{ents:Array MapEntry}{clock:Nat}(h:l0 M kc e m ents clock):zj kc ents.toList m:=
  Eg (by simpa using h.size) fun j x b=>by
    have:=h.key j x b;rwa[Y7,<-aah,<-Y6]at this
theorem l0.XC{V:Type}{e:V->IV}{m:List (kc.K×V)}{ents:Array MapEntry}{clock:Nat}(h:l0 M kc e m ents clock){j:Nat}{x:kc.K×V}(hj:m[j]? =io x):IR M (e x.2) (ents.toList.getD j em).val:=by
  have:=h.val j x hj;rwa[Y7,<-aah,<-Y6]at this
theorem G8{i:IV}{x:Value}(h:IR M i x):VR M N U i.pv x:=by
  cases h with
  | agg cs ys hl hr=>
    refine .agg _ _ (by simpa using hl) fun j p b=>?_;rw[Zg,Zi]at b;obtain⟨q,d,rfl⟩:=b
    exact .iv _ _ (hr j q d)
  |v x=>exact .iv _ _ (.v x)
  |j8=>exact .iv _ _ (.j8 _ _ _ _)
  |de _ _ _ _ _ _ h1 h2 h3 h4 h5=>exact .iv _ _ (.de _ _ _ _ _ _ h1 h2 h3 h4 h5)
  |mK _ _ _ h1 h2=>exact .iv _ _ (.mK _ _ _ h1 h2)
  |eI _ _ _ _ _ _ _ _ h1 h2 h3 h4 h5 h6 h7=>exact .iv _ _ (.eI _ _ _ _ _ _ _ _ h1 h2 h3 h4 h5 h6 h7)
theorem qw{kt:TypeId}(d:cD P ty)(u:gG ty kt=io kc)(k:kc.K)(b:Bool)(n:Nat):(Instr.checkKey b (n+2) kt (kc.ek k)).run P w= .ok () w:=by
  cases kc with
  |str=>exact run_checkKey (wb d u) (by simp[KC.ek,IsKey]) _ _
  |int q=>exact run_checkKey (wc d u) (by simp[KC.ek,IsKey]) _ _
  | si q=>
    unfold gG at u;split at u
    · cases u
    · cases u
    · rename_i a c _ _ _ he
      split at u
      · rename_i _ _ _ _ B _ _ _ ha hc
        simp only[Y9,KC.si.injEq]at u;have I:B=q:=u;subst I;obtain⟨F,h1,A⟩:=(d _ _ he).2.1;have G:=((d _ _ he).2.2 Z).2.2;rw[qK h1]at G;have Y:=(d _ _ ha).2.1.1;have a0:=(d _ _ hc).2.1.1;have J:(part a #[.string k.1,.int B k.2] 0).run P w= .ok (.string k.1) w:=by
          have:=jK (P:=P) (w:=w) (M:=Mem.base) (N:=⟨fun _=>0,fun _=>0⟩) (U:=fun _=>True) (off:=0) (cs:=[.iv (.v (.string k.1)),.iv (.v (.int B k.2))]) (ys:= #[.string k.1,.int B k.2]) (d _ _ ha) Z
            (fun j p x=>by match j with
              |0=>simp at x;subst x;exact .iv _ _ (.v _)
              |1=>simp at x;subst x;exact .iv _ _ (.v _)
              |j+2=>simp at x) (p:= .iv (.v (.string k.1))) (by simp[jr,TK.agg,mM])
          obtain⟨y,hy,D⟩:=this;cases D with
          |iv _ _ D=>cases D;exact hy
        have S:(part c #[.string k.1,.int B k.2] 1).run P w= .ok (.int B k.2) w:=by
          have:=jK (P:=P) (w:=w) (M:=Mem.base) (N:=⟨fun _=>0,fun _=>0⟩) (U:=fun _=>True) (off:=1) (cs:=[.iv (.v (.string k.1)),.iv (.v (.int B k.2))]) (ys:= #[.string k.1,.int B k.2]) (d _ _ hc) Z
            (fun j p x=>by match j with
              |0=>simp at x;subst x;exact .iv _ _ (.v _)
              |1=>simp at x;subst x;exact .iv _ _ (.v _)
              |j+2=>simp at x) (p:= .iv (.v (.int B k.2))) (by simp[jr,TK.agg,mM])
          obtain⟨y,hy,D⟩:=this;cases D with
          |iv _ _ D=>cases D;exact hy
        obtain⟨F⟩:=F
        match F,A,G with
        | [],A,_=>simp at A
        | [_],A,_=>simp at A
        |_::_::_::_,A,_=>simp at A
        | [f,g],A,G=>
          simp at A;obtain⟨⟨h3,h4⟩,h5,h6⟩:=A;have hf:=G f (by simp);have hg:=G g (by simp);have ca:=run_checkKey (w:=w) Y (k:= .string k.1) (by simp[IsKey]) b n;have cc:=run_checkKey (w:=w) a0 (k:= .int B k.2) (by simp[IsKey]) b n;unfold Instr.checkKey;simp[KC.ek,run_underlying h1,hf,hg,h3,h4,h5,h6,J,S,ca,cc]
      · cases u
    · cases u
theorem CX{a b:Value}(h:GB a b=kw):a=b:=by
  unfold GB at h;split at h<;>simp_all
theorem CW: ∀{a b:List Value},z8 a b=kw->a=b
  | [],[],_=>rfl
  | x::r,y::q,h=>by
    simp only[z8,Zw]at h;rw[CX h.1,CW h.2]
  | [],_::_,h=>by simp[z8]at h
  |_::_,[],h=>by simp[z8]at h
theorem Nz{a b:Value}(h:S9 a b=kw):a=b:=by
  unfold S9 at h;split at h
  · have:=CW h
    congr 1;exact acv.1 this
  · exact CX h
theorem D8(d:cD P ty){t:TypeId}{ok:Bool}{V:Type}{e:V->IV}{z:V}{zv:Value}{m:List (kc.K×V)}{key p:PV}{C:Prop}(h:yh ty t ok kc e z zv m key=io (p,C)){r:Nat}{ents:Array MapEntry}{clock:Nat}
    (hb:w.heap[r]? =io (.map ents clock)) (hm:l0 M kc e m ents clock) (hz:IR M (e z) zv) {k:Value} (hk:VR M N U key k):
    C∧ ∃x,(Instr.lookup t (.map (io r)) k ok).run P w= .ok x w∧VR M N U p x:=by
  unfold yh at h;split at h
  · rename_i kt et _ _ _ _ he
    have hu:=(d _ _ he).2.1.1;split at h
    · rename_i u ee A I
      split at h
      · rename_i k0 hd S G
        have hd:=of_decide_eq_true hd;subst hd;have J:=Mo G hk;subst J;have S:=Nz S;have b:=tA (P:=P) (w:=w) d A k0 hm.keys;have y:=qw (P:=P) (w:=w) d A k0 ents.isEmpty 9998;have Y:=en (P:=P) (w:=w) (d _ _ I);have hg:(getObj r).run P w= .ok (.map ents clock) w:=by simp[getObj,Sem.run,hb]
        have D: ∃v F,(Instr.lookup t (.map (io r)) (u.ek k0) ok).run P w= .ok (if ok then .tuple #[v,.bool F] else v) w∧F=eh u m k0∧IR M (e (bU u m k0 z)) v:=by
          cases hfi:lB u m k0 with
          | none=>
            obtain⟨g1,g2,_⟩:=me hfi;rw[hfi]at b;refine⟨ee.zero,lc,?_,by rw[g2],by rw[g1,S];exact hz⟩;simp[Instr.lookup,run_underlying hu,hg,y,b,Y]
          | some i=>
            obtain⟨v,g0,g1,g2,_⟩:=mc hfi;rw[hfi]at b;refine⟨(ents.toList.getD i em).val,kw,?_,by rw[g2],by rw[g1];exact hm.XC g0⟩;simp[Instr.lookup,run_underlying hu,hg,y,b]
        obtain⟨v,F,h1,h2,h3⟩:=D;split at h
        · simp only[Y9,Zl]at h
          obtain⟨rfl,rfl⟩:=h;refine⟨ac,_,h1,.bQ _ _ Z fun j q B=>?_⟩
          match j with
          |0=>simp at B;subst B;exact G8 h3
          |1=>simp at B;subst B;subst h2;exact .iv _ _ (.v _)
          |j+2=>simp at B
        · simp only[Y9,Zl]at h
          obtain⟨rfl,rfl⟩:=h;exact⟨ac,_,h1,G8 h3⟩
      · cases h
    · cases h
  · cases h
end
end
section
variable {P:Program} {ty:Ty} {M:Mem} {N:Nm} {w:World} {nt:Nat} {s:AS} {a:Act}
theorem bH{x:Value}{m:Sem Value}(h:m.run P w= .ok x w):(do pure (.value (<-m)):Sem Next).run P w= .ok (.value x) w:=by
  rw[Sem.run_bind,h];rfl
theorem xS(D:cD P ty)(hf:Fits M N s nt a w){o:Oper}{p:PV}{C:Prop}(h:lx ty s o.op=io (p,C))(hC:C):
    ∃x,(execOp a.eval o).run P w= .ok (.value x) w∧VR M N (· <s.nx) p x:=by
  obtain⟨c0,A,_,_⟩:=hf;cases ho:o.op with
  | move x=>
    rw[ho]at h;simp only[lx,Y9,Zl]at h;obtain⟨rfl,rfl⟩:=h;exact⟨_,by simp only[execOp,ho];rfl,a7 A x⟩
  | assign x=>
    rw[ho]at h;simp only[lx,Y9,Zl]at h;obtain⟨rfl,rfl⟩:=h;exact⟨_,by simp only[execOp,ho];rfl,a7 A x⟩
  | pick c x y=>
    rw[ho]at h;simp only[lx]at h;have hc:=a7 A c;split at h
    · rename_i G
      rw[G]at hc;simp only[Y9,Zl]at h;obtain⟨rfl,rfl⟩:=h;generalize J:a.eval c=v at hc;cases hc with
      |kb=>exact⟨_,by simp only[execOp,ho,J];simp[asBool],a7 A x⟩
    · rename_i G
      rw[G]at hc;simp only[Y9,Zl]at h;obtain⟨rfl,rfl⟩:=h;generalize J:a.eval c=v at hc;cases hc with
      |kb=>exact⟨_,by simp only[execOp,ho,J];simp[asBool],a7 A y⟩
    · cases h
  | load t x=>
    rw[ho]at h;simp only[lx]at h;split at h
    · rename_i e G
      split at h
      · rename_i cs hb
        split at h
        · rename_i q hq
          simp only[Y9,Zl]at h;obtain⟨rfl,rfl⟩:=h;obtain⟨b,n0,d,q0⟩:=Bh c0 (a7 A x) hb;obtain⟨y,hy,J⟩:=vU (P:=P) (D t e G) q0 hq;exact⟨y,by simp only[execOp,ho];exact bH (by rw[d];simpa[Instr.loadAt,Instr.sureAddr]using hy),J⟩
        · cases h
      · cases h
    · cases h
  | nilCheck x=>
    rw[ho]at h;simp only[lx]at h;have d:=a7 A x;split at h
    all_goals first
      |cases h;done
      | (rename_i G
         simp only[Y9,Zl]at h;obtain⟨rfl,rfl⟩:=h;rw[G]at d;refine⟨_,?_,d⟩;generalize J:a.eval x=v at d
         first
         |(cases d;simp only[execOp,ho,J];rfl)
         | (cases d with
            |iv _ _ d=>cases d;simp only[execOp,ho,J];rfl))
  | binOp op t x y t'=>
    rw[ho]at h;simp only[lx]at h;split at h
    · rename_i cs ds f0 u1
      have Y:=a7 A x;have h2:=a7 A y;rw[f0]at Y;rw[u1]at h2;obtain⟨_,z,hz,J⟩:=Na (P:=P) (w:=w) D (u:=x) (v:=y) h Y h2;exact⟨z,by simp only[execOp,ho];exact bH hz,J⟩
    · obtain⟨z,hz,J⟩:=JD (P:=P) (w:=w) D (u:=x) (v:=y) h hC (a7 A x) (a7 A y)
      exact⟨z,by simp only[execOp,ho];exact bH hz,J⟩
  | unOp op t x=>
    rw[ho]at h;cases op with
    | not=>
      simp only[lx]at h;have d:=a7 A x;split at h
      · rename_i G
        simp only[Y9,Zl]at h;obtain⟨rfl,rfl⟩:=h;rw[G]at d;generalize J:a.eval x=v at d;cases d with
        |kb=>exact⟨_,by simp only[execOp,ho,J];exact bH Z,.kb _⟩
      · rename_i G
        simp only[Y9,Zl]at h;obtain⟨rfl,rfl⟩:=h;rw[G]at d;generalize J:a.eval x=v at d;cases d with
        |kb=>exact⟨_,by simp only[execOp,ho,J];exact bH Z,.kb _⟩
      · rename_i G
        simp only[Y9,Zl]at h;obtain⟨rfl,rfl⟩:=h;rw[G]at d;cases d with
        | iv _ _ d=>generalize J:a.eval x=v at d;cases d with
          |v=>exact⟨_,by simp only[execOp,ho,J];exact bH Z,.iv _ _ (.v _)⟩
      · cases h
    |_=>simp[lx]at h
  | fieldAddr t x k=>
    rw[ho]at h;simp only[lx]at h;split at h
    · rename_i e G
      split at h
      · rename_i n0 u a1
        split at h
        · rename_i eu d0
          split at h
          · cases h
          · rename_i n hn
            split at h
            · rename_i q hq
              simp only[Y9,Zl]at h;obtain⟨rfl,rfl⟩:=h;obtain⟨F,fd,Y,h2,rfl,rfl⟩:=uF (D t e G) a1;obtain⟨b,o',d,J⟩:=IK (a7 A x) hq;refine⟨_,?_,J⟩;simp only[execOp,ho,d];refine bH ?_;have hs:=bL (w:=w) (D _ _ d0);simp[Instr.fieldAt,run_underlying Y,h2,Instr.sureAddr,fieldPlace,hs,hn,iF]
            · cases h
        · cases h
      · cases h
    · cases h
  | field t x k=>
    rw[ho]at h;simp only[lx]at h;split at h
    · rename_i e G
      split at h
      · rename_i n0 u a1
        split at h
        · rename_i eu d0
          split at h
          · rename_i cs f0
            split at h
            · rename_i q hq
              simp only[Y9,Zl]at h;obtain⟨rfl,rfl⟩:=h;obtain⟨F,fd,Y,h2,rfl,rfl⟩:=uF (D t e G) a1;have d:=a7 A x;rw[f0]at d;generalize J:a.eval x=v at d;cases d with
              | agg _ ys hl hr=>
                obtain⟨y,hy,a2⟩:=jK (P:=P) (w:=w) (D _ _ d0) hl hr hq;refine⟨y,?_,a2⟩;simp only[execOp,ho,J];refine bH ?_;simp[Instr.field,run_underlying Y,h2,asAgg,hy]
            · cases h
          · cases h
        · cases h
      · cases h
    · cases h
  | indexAddr t x i=>
    rw[ho]at h;simp only[lx]at h;split at h
    · rename_i u sz j0 z _ G
      have hu:P.underlying t=io (.slice u):=(D t _ G).2.1.1;split at h
      · rename_i eu d0
        split at h
        · rename_i k n hn
          have B:=a7 A i;rw[hn]at B;have i0:a.eval i= .int k n:=by
            generalize a.eval i=v at B;cases B with
            | iv _ _ B=>cases B with
              |v=>rfl
          split at h
          · rename_i o0 m el d
            cases hb:Zz o0 eu.size with
            |false=>simp only[hb,cond_false]at h;cases h
            | true=>
              simp only[hb,cond_true]at h;have hs:=Zt hb;subst hs;have I:=a7 A x;rw[d]at I;obtain⟨y,hy,J⟩:=sq (P:=P) (k:=k) hu (D _ _ d0) I (.inl ⟨m,el,rfl⟩) h hC;exact⟨y,by simp only[execOp,ho,i0];exact bH hy,J⟩
          · rename_i j n0 len o0 d
            cases hb:Zz o0 eu.size with
            |false=>simp only[hb,cond_false]at h;cases h
            | true=>
              simp only[hb,cond_true]at h;have hs:=Zt hb;subst hs;have I:=a7 A x;rw[d]at I;obtain⟨y,hy,J⟩:=sq (P:=P) (k:=k) hu (D _ _ d0) I (.inr ⟨j,n0,len,rfl⟩) h hC;exact⟨y,by simp only[execOp,ho,i0];exact bH hy,J⟩
          · cases h
        · cases h
      · cases h
    · rename_i len u sz j0 z _ G
      have hu:P.underlying t=io (.array len u):=(D t _ G).2.1;split at h
      · rename_i eu d0
        split at h
        · rename_i k n hn
          have B:=a7 A i;rw[hn]at B;have i0:a.eval i= .int k n:=by
            generalize a.eval i=v at B;cases B with
            | iv _ _ B=>cases B with
              |v=>rfl
          split at h
          · rename_i j n0 d
            simp only[Y9,Zl]at h;obtain⟨rfl,rfl⟩:=h;have I:=a7 A x;rw[d]at I;generalize J:a.eval x=v at I;cases I with
            | ptr _ _ hU=>
              refine⟨.pointer (io ⟨N.aL j,n0+n.toNat*eu.size,jp⟩),?_,.ptr _ _ hU⟩;simp only[execOp,ho,i0,J];refine bH ?_;simp only[Instr.indexAt,asIntOf];simp[run_underlying hu,hC.1,hC.2,bL (D _ _ d0),iF,Instr.sureAddr]
          · cases h
        · cases h
      · cases h
    · cases h
  | slice t x lo B mx=>
    rw[ho]at h;have g0: ∀(o:Operand) (k:IntKind) (n:Int),ev s.f o= .iv (.v (.int k n))->a.eval o= .int k n:=fun o k n G=>by
      have B:=a7 A o;rw[G]at B;generalize a.eval o=v at B;cases B with
      | iv _ _ B=>cases B with
        |v=>rfl
    cases lo with
    |none=>simp only[lx]at h;cases h
    |some lo=>
    cases B with
    |none=>simp only[lx]at h;cases h
    |some B=>
    cases mx with
    |some mx=>simp only[lx]at h;cases h
    |none=>
    simp only[lx]at h;split at h
    · rename_i u sz j0 z _ G
      have hu:P.underlying t=io (.slice u):=(D t _ G).2.1.1;split at h
      · rename_i eu d0
        split at h
        · rename_i ka na i1
          split at h
          · rename_i kb nb j1
            split at h
            · rename_i o0 m el d
              cases hb:Zz o0 eu.size with
              |false=>simp only[hb,cond_false]at h;cases h
              | true=>
                simp only[hb,cond_true]at h;have hs:=Zt hb;subst hs;have I:=a7 A x;rw[d]at I;have b1:=g0 lo _ _ i1;have d1:=g0 B _ _ j1;obtain⟨y,hy,J⟩:=Iv (P:=P) (w:=w) (M:=M) (N:=N) (U:=(· <s.nx)) (ka:=ka) (kb:=kb) (na:=na) (nb:=nb) hu (D _ _ d0) I h hC;exact⟨y,by simp only[execOp,ho,b1,d1,Z8,abQ];exact bH hy,J⟩
            · cases h
          · cases h
        · cases h
      · cases h
    · rename_i sz j0 z _ G
      have hu:P.underlying t=io .string:=(D t _ G).2.1.1;split at h
      · rename_i ka na i1
        split at h
        · rename_i kb nb j1
          split at h
          · rename_i b d
            simp only[Y9,Zl]at h;obtain⟨rfl,rfl⟩:=h;have I:=a7 A x;rw[d]at I;have n1:a.eval x= .string b:=by
              generalize a.eval x=v at I;cases I with
              | iv _ _ B=>cases B with
                |v=>rfl
            have b1:=g0 lo _ _ i1;have d1:=g0 B _ _ j1;refine⟨.string (b.extract na.toNat nb.toNat),?_,.iv _ _ (.v _)⟩;simp only[execOp,ho,b1,d1,n1,Z8,abQ];exact bH (Df hu hC)
          · cases h
        · cases h
      · cases h
    · cases h
  | index t x i=>
    rw[ho]at h;simp only[lx]at h;split at h
    · rename_i sz j0 z _ G
      have hu:P.underlying t=io .string:=(D t _ G).2.1.1;split at h
      · rename_i k n hn
        split at h
        · rename_i b d
          simp only[Y9,Zl]at h;obtain⟨rfl,rfl⟩:=h;have B:=a7 A i;rw[hn]at B;have i0:a.eval i= .int k n:=by
            generalize a.eval i=v at B;cases B with
            | iv _ _ B=>cases B with
              |v=>rfl
          have I:=a7 A x;rw[d]at I;have n1:a.eval x= .string b:=by
            generalize a.eval x=v at I;cases I with
            | iv _ _ B=>cases B with
              |v=>rfl
          refine⟨_,?_,.iv _ _ (.v _)⟩;simp only[execOp,ho,i0,n1];refine bH ?_;have y0:n.toNat<b.size:=by omega
          have hg:b[n.toNat]? =io (b.data.toList.getD n.toNat 0):=by
            rw[getElem?_pos b n.toNat y0];have h0:n.toNat<b.data.size:=y0;have Y:b.data.toList.getD n.toNat 0=b.data[n.toNat]:=by
              rw[Y6,aah,Z4 h0];rfl
            rw[Y];rfl
          simp only[Instr.index,asIntOf];simp[run_underlying hu,hC.1,hg]
        · cases h
      · cases h
    · cases h
  | build t parts=>
    rw[ho]at h;simp only[lx]at h;split at h
    · rename_i e G
      split at h
      · rename_i fs hk
        split at h
        · rename_i pl z1
          split at h
          · rename_i cs f0
            rw[force_eq]at h;simp only[Y9,Zl]at h;obtain⟨rfl,rfl⟩:=h;have e0:=D t e G;have k0:=e0.2.1;rw[hk]at k0;obtain⟨F,Y,h2⟩:=k0;have hz:=en (w:=w) e0
            obtain⟨q1,h3,h4⟩:=uD (M:=M) (N:=N) (U:=(· <s.nx)) (vals:=(parts.map fun x=>(x.1,a.eval x.2)).toList) f0 (by simp) (fun j x y d hy=>by
              rw[Zg,Zi]at d;obtain⟨z,hz,rfl⟩:=d;have o1:parts[j]? =io z:=by simpa using hz
              have:io (z.1,a.eval z.2)=io y:=by rw[<-hy];simp[o1]
              simp only[Y9]at this;subst this
              exact⟨rfl,a7 A z.2⟩) (gq e.zero)
            refine⟨.agg q1,?_,.agg _ _ h4.1 h4.2⟩;simp only[execOp,ho];refine bH ?_;have f1: ∀(fl:List Field) (pl:List (Nat×Nat)),uh ty (fl.map fun f=>(f.offset,f.type))=io pl->(fl.mapM (fun f=>do pure (f.offset,<-sizeOf f.type):Field->Sem (Nat×Nat))).run P w= .ok pl w:=by
              intro fl
              induction fl with
              |nil=>intro pl hp;simp only[Z0,uh,Y9]at hp;subst hp;rfl
              | cons f fl ih=>
                intro pl hp;simp only[Zr,uh]at hp;split at hp
                · rename_i e' v1
                  split at hp
                  · rename_i l hl
                    simp only[Y9]at hp;subst hp;rw[List.mapM_cons,Sem.run_bind,Sem.run_bind,bL (D _ _ v1),Result.andThen_ok,Sem.run_pure,Result.andThen_ok,Sem.run_bind,ih l hl];rfl
                  · cases hp
                · cases hp
            have hm:=f1 F.toList pl (by rw[h2];exact z1);have x1:(F.mapM (fun f=>do pure (f.offset,<-sizeOf f.type):Field->Sem (Nat×Nat))).run P w= .ok pl.toArray w:=by
              rw[abZ,Sem.run_map,hm];rfl
            have m0:(fun(i:Nat)=>pl.toArray[i]?)=(fun(i:Nat)=>pl[i]?):=by funext i;simp
            simp only[Instr.build,Sem.run_bind,hz,Result.andThen_ok,run_underlying Y,x1];rw[m0,h3];rfl
          · cases h
        · cases h
      · rename_i n u hk
        split at h
        · rename_i eu d0
          split at h
          · rename_i cs f0
            rw[force_eq]at h;simp only[Y9,Zl]at h;obtain⟨rfl,rfl⟩:=h;have e0:=D t e G;have k0:=e0.2.1;rw[hk]at k0;have hz:=en (w:=w) e0
            obtain⟨q1,h3,h4⟩:=uD (M:=M) (N:=N) (U:=(· <s.nx)) (vals:=(parts.map fun x=>(x.1,a.eval x.2)).toList) f0 (by simp) (fun j x y d hy=>by
              rw[Zg,Zi]at d;obtain⟨z,hz,rfl⟩:=d;have o1:parts[j]? =io z:=by simpa using hz
              have:io (z.1,a.eval z.2)=io y:=by rw[<-hy];simp[o1]
              simp only[Y9]at this;subst this
              exact⟨rfl,a7 A z.2⟩) (gq e.zero)
            refine⟨.agg q1,?_,.agg _ _ h4.1 h4.2⟩;simp only[execOp,ho];refine bH ?_;simp only[Instr.build,Sem.run_bind,hz,Result.andThen_ok,run_underlying k0,bL (D _ _ d0)];rw[h3];rfl
          · cases h
        · cases h
      · cases h
    · cases h
  | extract x k=>
    rw[ho]at h;simp only[lx]at h;split at h
    · rename_i cs f0
      split at h
      · rename_i q hq
        simp only[Y9,Zl]at h;obtain⟨rfl,rfl⟩:=h;have d:=a7 A x;rw[f0]at d;generalize J:a.eval x=v at d;cases d with
        | bQ _ ys hl hr=>
          have y0:k<ys.size:=by rw[<-hl];exact(Zb.1 hq).1
          refine⟨ys.getD k undef,?_,hr _ _ hq⟩;simp only[execOp,ho,J];refine bH ?_;simp[Instr.extract,Y7,y0]
      · cases h
    · cases h
  | makeFunc fn first caps=>
    rw[ho]at h;simp only[lx,force_eq,Y9,Zl]at h;obtain⟨rfl,rfl⟩:=h;have Y:=Li A first;have h2:=Li A caps;exact⟨_,by simp only[execOp,ho];exact bH Z,.du _ _ _ _ _ Y.1 h2.1 Y.2 h2.2⟩
  | call c=>
    obtain⟨callee,args,a0⟩:=c;rw[ho]at h;cases callee with
    | builtin b=>
      cases b with
      | len=>
        simp only[lx]at h;split at h
        · rename_i x t s1 c2
          have b0:args= #[x]:=by cases args;simp_all
          have m1:a0= #[t]:=by cases a0;simp_all
          subst b0 m1;have d:=a7 A x;have p0: ∀v,(Builtin.len_ #[t] o.type #[a.eval x]).run P w= .ok v w->(execOp a.eval o).run P w= .ok (.value v) w:=by
            intro v J;simp only[execOp,ho,resolve];simp[invoke,builtin,J]
          split at h
          · rename_i u sz j0 z _ G
            have hu:P.underlying t=io (.slice u):=(D t _ G).2.1.1;split at h
            · rename_i o0 n el S
              rw[S]at d;simp only[zu,Y9,Zl]at h;obtain⟨rfl,rfl⟩:=h;refine⟨.int .i64 n,p0 _ ?_,.iv _ _ (.v _)⟩;generalize a.eval x=v at d;cases d with
              |iv _ _ B=>cases B<;>simp[Builtin.len_,run_underlying hu,goInt]
            · rename_i i n0 len o0 S
              rw[S]at d;simp only[zu,Y9,Zl]at h;obtain⟨rfl,rfl⟩:=h;refine⟨.int .i64 len,p0 _ ?_,.iv _ _ (.v _)⟩;generalize a.eval x=v at d;cases d<;>(simp[Builtin.len_,run_underlying hu,goInt];done)
            · rename_i S
              rw[S]at d;simp only[zu,Y9,Zl]at h;obtain⟨rfl,rfl⟩:=h;refine⟨.int .i64 0,p0 _ ?_,.iv _ _ (.v _)⟩;generalize a.eval x=v at d;cases d with
              |iv _ _ B=>cases B;simp[Builtin.len_,run_underlying hu,goInt]
            · cases h
          · rename_i sz j0 z _ G
            have hu:P.underlying t=io .string:=(D t _ G).2.1.1;split at h
            · rename_i b S
              rw[S]at d;simp only[zu,Y9,Zl]at h;obtain⟨rfl,rfl⟩:=h;refine⟨.int .i64 b.size,p0 _ ?_,.iv _ _ (.v _)⟩;generalize a.eval x=v at d;cases d with
              |iv _ _ B=>cases B;simp[Builtin.len_,run_underlying hu,goInt]
            · cases h
          · rename_i kt et sz j0 z _ G
            have hu:P.underlying t=io (.map kt et):=(D t _ G).2.1.1;have r0: ∀{r:Nat} {ents:Array MapEntry} {clock n:Nat},w.heap[r]? =io (.map ents clock)->ents.size=n->(Builtin.len_ #[t] o.type #[.map (io r)]).run P w= .ok (.int .i64 n) w:=by
              intro r ents clock n Y h2;simp[Builtin.len_,run_underlying hu,goInt,getObj,Sem.run,Y,h2,Result.andThen]
            split at h
            · rename_i V w0 x0 z' r1 m' S
              rw[S]at d;simp only[Y9,Zl]at h;obtain⟨rfl,rfl⟩:=h;refine⟨.int .i64 m'.length,p0 _ ?_,.iv _ _ (.v _)⟩;generalize a.eval x=v at d;cases d with
              | iv _ _ B=>cases B with
                |eI _ _ _ _ _ b ents clock hb hs=>exact r0 (c0.eW _ _ hb) hs
            · rename_i j S
              rw[S]at d;split at h
              · rename_i V w0 x0 z' r1 t1 m' hg
                simp only[Y9,Zl]at h;obtain⟨rfl,rfl⟩:=h;refine⟨.int .i64 m'.length,p0 _ ?_,.iv _ _ (.v _)⟩;obtain⟨ents,clock,Y,h2,h3⟩:=c0.obj _ _ hg;generalize a.eval x=v at d;cases d with
                |mp=>exact r0 Y h2.size
              · cases h
            · cases h
          · cases h
        · cases h
      | max=>
        simp only[lx]at h;split at h
        · rename_i x y s1
          have b0:args= #[x,y]:=by cases args;simp_all
          subst b0;split at h
          · rename_i k n j m hn hm
            simp only[Y9,Zl]at h;obtain⟨rfl,rfl⟩:=h;have Y:=a7 A x;have h2:=a7 A y;rw[hn]at Y;rw[hm]at h2;have e1:a.eval x= .int k n:=by
              generalize a.eval x=v at Y;cases Y with
              | iv _ _ B=>cases B with
                |v=>rfl
            have e2:a.eval y= .int j m:=by
              generalize a.eval y=v at h2;cases h2 with
              | iv _ _ B=>cases B with
                |v=>rfl
            have e3:(if m>n then m else n)=max n m:=by split<;>omega
            refine⟨.int k (max n m),?_,.iv _ _ (.v _)⟩;simp only[execOp,ho,resolve];simp[invoke,builtin,Builtin.max_,Builtin.max2,e1,e2,<-e3]
          · cases h
        · cases h
      | min=>
        simp only[lx]at h;split at h
        · rename_i x y s1
          have b0:args= #[x,y]:=by cases args;simp_all
          subst b0;split at h
          · rename_i k n j m hn hm
            simp only[Y9,Zl]at h;obtain⟨rfl,rfl⟩:=h;have Y:=a7 A x;have h2:=a7 A y;rw[hn]at Y;rw[hm]at h2;have e1:a.eval x= .int k n:=by
              generalize a.eval x=v at Y;cases Y with
              | iv _ _ B=>cases B with
                |v=>rfl
            have e2:a.eval y= .int j m:=by
              generalize a.eval y=v at h2;cases h2 with
              | iv _ _ B=>cases B with
                |v=>rfl
            have e3:(if m<n then m else n)=min n m:=by split<;>omega
            refine⟨.int k (min n m),?_,.iv _ _ (.v _)⟩;simp only[execOp,ho,resolve];simp[invoke,builtin,Builtin.min_,Builtin.min2,e1,e2,<-e3]
          · cases h
        · cases h
      |_=>simp[lx]at h
    |_=>simp[lx]at h
  | lookup t x i ok=>
    rw[ho]at h;simp only[lx]at h;have d:=a7 A x;have B:=a7 A i;split at h
    · rename_i V w0 x0 z' r1 m' S
      rw[S]at d;generalize J:a.eval x=v at d;cases d with
      | iv _ _ hxi=>cases hxi with
        | eI _ _ _ _ _ b ents clock hb hs k0 hv' hz i0 hc=>
          obtain⟨_,y,Y,h2⟩:=D8 (P:=P) D h (c0.eW _ _ hb) ⟨hs,k0,hv',i0,hc⟩ hz B;exact⟨y,by simp only[execOp,ho,J];exact bH Y,h2⟩
    · rename_i j S
      rw[S]at d;split at h
      · rename_i V w0 x0 z' r1 t1 m' hg
        obtain⟨ents,clock,Y,h2,h3⟩:=c0.obj _ _ hg;generalize J:a.eval x=v at d;cases d with
        | mp=>
          obtain⟨_,y,g1,g2⟩:=D8 (P:=P) D h Y h2 h3 B;exact⟨y,by simp only[execOp,ho,J];exact bH g1,g2⟩
      · cases h
    · cases h
  | entry it=>
    rw[ho]at h;simp only[lx]at h;have d:=a7 A it;split at h
    · rename_i i S
      rw[S]at d;split at h
      · rename_i V w0 x0 m' vs x' hg
        simp only[Y9,Zl]at h;obtain⟨rfl,rfl⟩:=h;obtain⟨b,ents,clock,p1,Y,h2,h3,h4,h5,h6,h7⟩:=(c0.obj _ _ hg).resolve_left fun hh=>nomatch hh.2.2.1;obtain⟨j,r,rfl,h8⟩:=h7 x' Z;generalize J:a.eval it=v at d
        cases d with
        | ptr=>
          have hj:j<ents.size:=by rw[h3.size];exact(Zb.1 h8).1
          have w1:ents.getD j em=ents[j]:=by simp[Y7,hj]
          have t0:p1=(r.reverse.map fun j=>(ents.getD j em).born).toArray.push (ents[j]).born:=by
            apply acv.1;rw[h4];simp[hj]
          rw[t0]at Y;have y1:(ents.toList.map (·.born)).Nodup:=by
            rw[List.nodup_iff_pairwise_ne,abI];intro p q hp hq b2 G;simp at hp hq G;have:=h3.inj p q ents[p] ents[q] (by simp[hp]) (by simp[hq]) G;omega
          have l1:=run_entry_at (P:=P) w (N.aL i) b clock _ ents clock ents[j] Y (c0.eW _ _ h2) (by simp) y1;refine⟨_,by simp only[execOp,ho,J];exact bH l1,.bQ _ _ Z fun q p hp=>?_⟩;have s0:=h3.key j _ h8;have v0:=h3.val j _ h8;rw[w1]at s0 v0
          match q with
          |0=>simp at hp;subst hp;simp only[Y7];simp;rw[s0];exact Hb w0 _
          |1=>simp at hp;subst hp;exact G8 v0
          |q+2=>simp at hp
      · cases h
    · cases h
  |_=>rw[ho]at h;simp[lx]at h
end
abbrev AQ:=Exit->AS->Prop
def pN(nt:Nat)(M:Mem)(N:Nm)(s:AS)(w:World)(Q:AQ):Exit->Act->World->Prop:=fun e u j=>
 ∃b d s',Ext M N (· <s.nx) s.h w b d (· <s'.nx) s'.h j∧Fits b d s' nt u j∧Q e s'
theorem pN.later{nt:Nat}{M b:Mem}{N d:Nm}{s s':AS}{w j:World}{Q:AQ}{e:Exit}{a:Act}{u:World}
  (x:Ext M N (· <s.nx) s.h w b d (· <s'.nx) s'.h j) (h:pN nt b d s' j Q e a u):pN nt M N s w Q e a u:=by
 obtain⟨y,A,G,B,D,F⟩:=h;exact⟨y,A,G,x.trans B,D,F⟩
theorem pN.now{nt:Nat}{M:Mem}{N:Nm}{s:AS}{w:World}{Q:AQ}{e:Exit}{a:Act}(hf:Fits M N s nt a w)(h:Q e s):pN nt M N s w Q e a w:=
 ⟨M,N,s,.refl _ _ _ _ _,hf,h⟩
def AW(P:Program)(nt:Nat)(c:Code)(Q:AQ)(s:AS):Prop:= ∀M N a w,Fits M N s nt a w->c.wp P (pN nt M N s w Q) a w
def AL(P:Program)(nt:Nat)(all rest:List Oper)(Q:AQ)(s:AS):Prop:= ∀M N a w,Fits M N s nt a w->wpList P all.toArray (pN nt M N s w Q) rest a w
def SL(P:Program)(nt:Nat)(all rest:List Oper)(Q:AQ)(s:AS):Prop:= ∀M N a w,Fits M N s nt a w->
 wpStill P all.toArray w (fun b=> ∃s',s'.h=s.h∧s'.nx=s.nx∧Fits M N s' nt b w∧Q .normal s') rest a
def waits(o:Oper)(i:Nat):Bool:=o.after.toList.any fun e=>Region.binds .any e&&Zz e.on i
def looks(all:List Oper)(o x:Oper):Bool:=match x.dst with
 |some d=>(o.looksAt all.toArray).contains d
 |none=>lc
def iw:Nat->List Oper->Bool
 |_,[]=>kw
 |n,o::r=>(o.after.toList.all fun e=>!Region.binds .any e||Zs e.on n)&&iw (n+1) r
structure Bs where
 M:Mem
 N:Nm
 n:Nat
 h:AH
 w:World
def Bs.ext(B:Bs)(M:Mem)(N:Nm)(s:AS)(w:World):Prop:=Ext B.M B.N (· <B.n) B.h B.w M N (· <s.nx) s.h w
def S5(nt:Nat)(B:Bs)(Q:AQ):Exit->Act->World->Prop:=fun e u j=> ∃b d s',B.ext b d s' j∧Fits b d s' nt u j∧Q e s'
def aS(o:Oper):Bool:=match o.op with
 | .alloc _=>kw
 |_=>lc
def sD(P:Program)(M:Mem)(N:Nm)(s:AS)(B:Bs)(a:Act)(w:World)(o:Oper)(aL:Nat):Prop:=
 ∃t v d,o.op= .alloc t∧(∀w,(zeroValue t).run P w= .ok v w)∧o.dst=io d∧a.tmps[d]? =io (.pointer (io ⟨aL,0,jp⟩))∧w.heap[aL]? =io (.cells v.cells t (0,0))∧M aL=jp∧
  (∀i o,s.h.get i=io o->o.real=kw->N.aL i≠aL)∧B.w.heap.size<=aL
structure oM (P:Program) (nt:Nat) (all:List Oper) (todo pend:List (Nat×Oper)) (B:Bs) (M:Mem) (N:Nm) (s:AS) (listed:Array Bool) (a:Act) (w:World):Prop where
 size:listed.size=all.length
 tl: ∀x∈todo,all[x.1]? =io x.2
 pl: ∀x∈pend,all[x.1]? =io x.2
 dj: ∀x∈pend,∀y∈todo,y.1≠x.1
 JP: ∀i o,all[i]? =io o->listed.getD i kw=lc->(i,o)∈todo∨(i,o)∈pend
 pw:pend.Pairwise fun x y=>looks all y.2 x.2=lc∧ ∀d,x.2.dst=io d->y.2.dst≠io d
 pp: ∀x∈pend,∀y∈pend,waits y.2 x.1=kw∨looks all y.2 x.2=lc
 pa: ∀y∈pend,∀x∈todo,aS x.2=kw->waits y.2 x.1=lc
 er: ∃bl:Nat->Nat,(∀x∈todo,listed.getD x.1 kw=kw->sD P M N s B a w x.2 (bl x.1))∧ ∀x∈todo,∀y∈todo,listed.getD x.1 kw=kw->listed.getD y.1 kw=kw->x.1≠y.1->bl x.1≠bl y.1
 ap: ∃b:Act,Fits M N s nt b w∧a.tmps.size=b.tmps.size∧a.defers=b.defers∧
  (∀d,(∀x∈pend,listed.getD x.1 kw=lc->x.2.dst≠io d)->(∀x∈todo,listed.getD x.1 kw=kw->x.2.dst≠io d)->a.tmps[d]? =b.tmps[d]?)∧
  (∀x∈pend,listed.getD x.1 kw=lc-> ∃v,YieldsAt P all.toArray w x.2 v b∧b.put x.2.dst v=b)
def ko(P:Program)(nt:Nat)(all:List Oper):Prop:= ∀i o,all[i]? =io o->aS o=kw->
 o.guard=jp∧(∃d,o.dst=io d∧d<nt)∧(∃t v,o.op= .alloc t∧ ∀w,(zeroValue t).run P w= .ok v w)∧(∀k,waits o k=lc)∧
 ∀k q,all[k]? =io q->k≠i->(waits q i=kw∨looks all q o=lc)∧ ∀d,o.dst=io d->q.dst≠io d
def DL(P:Program)(nt:Nat)(all:List Oper)(todo pend:List (Nat×Oper))(Q:AQ)(s:AS):Prop:=
 Region.noSelect all.toArray=kw->iw 0 all=kw->ko P nt all-> ∀B M N listed a w b,B.ext M N s w->oM P nt all todo pend B M N s listed a w->listed.toList.count lc<=b->wpAny P .any all.toArray (S5 nt B Q) b listed a w
def putDst(nt:Nat)(o:Oper)(p:PV)(s:AS):Option AS:=
 match o.dst with
 |none=>io s
 |some d=>bif Zs d nt then(match s with|⟨f,h,n⟩=>yC p fun b=>io ⟨(d,b)::f,h,n⟩) else jp
theorem fM{nt:Nat}{o:Oper}{p:PV}{s s':AS}(h:putDst nt o p s=io s')(hd:o.dst=jp):s'=s:=by
 simp only[putDst,hd,Y9]at h;exact h.symm
theorem fL{nt:Nat}{o:Oper}{p:PV}{s s':AS}(h:putDst nt o p s=io s'){d:Nat}(hd:o.dst=io d):d<nt∧s'={s with f:=(d,p)::s.f}:=by
 simp only[putDst,hd]at h;cases hb:Zs d nt with
 |false=>simp[hb]at h
 |true=>
  obtain⟨f,hh,n⟩:=s;simp only[hb,cond_true,eM,Y9]at h;exact⟨Y5 hb,h.symm⟩
def ji(P:Program)(nt:Nat)(all:List Oper)(s:AS)(o:Oper):Prop:=
 ∀M N b w,Fits M N s nt b w-> ∃v,YieldsAt P all.toArray w o v b∧Fits M N s nt (b.put o.dst v) w
def bp(pend:List (Nat×Oper))(o:Oper):List (Nat×Oper):=pend.filter fun x=>!waits o x.1
def UA(P:Program)(nt:Nat)(b:Code)(Q:AQ):Nat->AS->Prop
 |0,_=>False
 |n+1,s=>AW P nt b (fun e s'=>match e with| .normal=>UA P nt b Q n s'|e=>Q e s') s
inductive KI where
 |code (c:Code)
 |aL (id:Nat)
 |ops (all rest:List Oper)
 |lp (R:AS->Prop)
 |wJ (all rest:List Oper)
 |cX (all:List Oper) (todo pend:List (Nat×Oper))
 |Ih (b:Code) (n:Nat)
 |JK
 |Qs (nt:Nat) (f:AF) (res:AS->Option PV) (o:Oper) (all rest:List Oper)
 |Qt (nt:Nat) (f:AF) (res:AS->Option PV) (j:Nat) (o:Oper) (all:List Oper) (todo pend:List (Nat×Oper))
def kp(P:Program):Nat->List KI->AQ->AQ
 |_,[],Q=>Q
 |nt,.code c::k,Q=>fun e s=>match e with| .normal=>AW P nt c (kp P nt k Q) s|e=>kp P nt k Q e s
 |nt,.ops all rest::k,Q=>fun e s=>match e with| .normal=>AL P nt all rest (kp P nt k Q) s|e=>kp P nt k Q e s
 |nt,.wJ all rest::k,Q=>fun e s=>match e with| .normal=>SL P nt all rest (kp P nt k Q) s|e=>kp P nt k Q e s
 |nt,.cX all todo pend::k,Q=>fun e s=>match e with| .normal=>DL P nt all todo pend (kp P nt k Q) s|e=>kp P nt k Q e s
 |nt,.lp R::k,Q=>fun e s=>match e with| .normal=>R s|e=>kp P nt k Q e s
 |nt,.aL id::k,Q=>fun e s=>match e with| .exit j=>if j=id then kp P nt k Q .normal s else kp P nt k Q (.exit j) s|e=>kp P nt k Q e s
 |nt,.Ih b n::k,Q=>fun e s=>match e with| .normal=>UA P nt b (kp P nt k Q) n s|e=>kp P nt k Q e s
 |nt,.JK::k,Q=>fun e s=>match e with| .goto _=>False|e=>kp P nt k Q e s
 |_,.Qs nt f res o all rest::k,Q=>fun e s=>(e= .normal∨e= .ret)∧ ∃r s',res s=io r∧putDst nt o r ⟨f,s.h,s.nx⟩=io s'∧AL P nt all rest (kp P nt k Q) s'
 | _,.Qt nt f res j o all todo pend::k,Q=>fun e s=>(e= .normal∨e= .ret)∧ ∃r s',res s=io r∧putDst nt o r ⟨f,s.h,s.nx⟩=io s'∧
   (∀x∈bp pend o,ji P nt all s' x.2)∧DL P nt all (todo.filter fun x=>!Zz x.1 j) (bp pend o) (kp P nt k Q) s'
def GO(P:Program)(nt:Nat)(k:List KI)(Q:AQ)(s:AS):Prop:=kp P nt k Q .normal s
section
variable {P:Program} {nt:Nat} {Q:AQ} {k:List KI} {s:AS}
theorem AW.then{c:Code}{R:AQ}(h:AW P nt c R s){M:Mem}{N:Nm}{a:Act}{w:World}(hf:Fits M N s nt a w){Z:Exit->Act->World->Prop}
  (x: ∀e u b d j s',Ext M N (· <s.nx) s.h w d j (· <s'.nx) s'.h b->Fits d j s' nt u b->R e s'->Z e u b):c.wp P Z a w:=
 wp_mono (h M N a w hf) fun e u b ⟨d,j,s',h1,h2,h3⟩=>x e u b d j s' h1 h2 h3
theorem go_skip(h:GO P nt k Q s):GO P nt (.code .skip::k) Q s:=fun _ _ _ _ b=>wp_skip (.now b h)
theorem LZ{l:Nat}(h:GO P nt k Q s):GO P nt (.code (.label l)::k) Q s:=fun _ _ _ _ b=>wp_label (.now b h)
theorem go_ret(h:kp P nt k Q .ret s):GO P nt (.code .ret::k) Q s:=fun _ _ _ _ b=>wp_ret (.now b h)
theorem Qk{id:Nat}(h:kp P nt k Q (.exit id) s):GO P nt (.code (.exit id)::k) Q s:=fun _ _ _ _ b=>wp_exit (.now b h)
theorem LX{c:Code}(h:GO P nt (.code c:: .JK::k) Q s):GO P nt (.code (.scope c)::k) Q s:=by
 intro M N a w x;refine wp_scope_straight (AW.then h x fun e A B j u s' y b d=>?_);cases e with
 |goto l=>exact d
 |_=>exact⟨j,u,s',y,b,d⟩
theorem UE{id:Nat}(h:GO P nt k Q s):GO P nt (.aL id::k) Q s:=h
theorem Uz{x y:Code}(h:GO P nt (.code x:: .code y::k) Q s):GO P nt (.code (.seq x y)::k) Q s:=by
 intro M N a w J;refine wp_seq (AW.then h J fun e Y w' D G s' B b A=>?_);cases e with
 |normal=>exact AW.then A b fun e a2 w2 F I S u d j=>⟨F,I,S,B.trans u,d,j⟩
 |_=>exact⟨D,G,s',B,b,A⟩
theorem L7{id:Nat}{x:Code}(h:GO P nt (.code x:: .aL id::k) Q s):GO P nt (.code (.block id x)::k) Q s:=by
 intro M N a w D;refine wp_block (AW.then h D fun e F G u y s' B b d=>?_);cases e with
 |exit j=>
  simp only[kp]at d;simp only[Exit.inBlock];split
  .rename_i A;rw[am A]at d;exact⟨u,y,s',B,b,d⟩
  .rename_i A;rw[be A]at d;exact⟨u,y,s',B,b,d⟩
 |_=>exact⟨u,y,s',B,b,d⟩
theorem go_region{id:Nat}{ops:Array Oper}(h:GO P nt (.ops ops.toList ops.toList::k) Q s):GO P nt (.code (.region id ops lc)::k) Q s:=by
 intro M N a w b;refine wp_region_list ?_;have:=h M N a w b;simpa using this
theorem F8{all:List Oper}(h:GO P nt k Q s):GO P nt (.ops all []::k) Q s:=fun _ _ _ _ b=>wpList_nil (pN.now b h)
theorem Fits.bool{M:Mem}{N:Nm}{a:Act}{w:World}(hf:Fits M N s nt a w){c:Operand}{t:Bool}(hc:ev s.f c= .iv (.v (.bool t))):a.eval c= .bool t:=by
 have h:=a7 hf.2.1 c;rw[hc]at h;generalize a.eval c=v at h;cases h with
 |iv _ _ h=>cases h with
  |v=>rfl
theorem Fits.put{M:Mem}{N:Nm}{a:Act}{w:World}(hf:Fits M N s nt a w)(d:Nat)(p:PV)(x:Value)(hd:d<nt)(hp:VR M N (· <s.nx) p x):Fits M N {s with f:=(d,p)::s.f} nt (a.put (io d) x) w:=
 ⟨hf.1,hf.2.1.put d p x (by rw[hf.2.2.2];exact hd) hp,hf.2.2.1,by simp[Act.put,hf.2.2.2]⟩
def setBool(s:AS)(c:Operand)(t:Bool):AS:=
 match c with
 | .tmp d=>match s with
  |⟨f,h,n⟩=>⟨(d,.kb t)::f,h,n⟩
 |_=>s
theorem Fits.setBool{M:Mem}{N:Nm}{a:Act}{w:World}(hf:Fits M N s nt a w){c:Operand}{t:Bool}(hc:ev s.f c= .iv (.v (.bool t))):Fits M N (setBool s c t) nt a w:=by
 cases c with
 |tmp d=>
  refine⟨hf.1,fun j=>?_,hf.2.2⟩;simp only[Al.setBool,AF.ax];split
  .rename_i b;subst b;have:=hf.bool (c:= .tmp j) hc;simp only[Act.eval]at this;rw[this];exact .kb _
  .exact hf.2.1 j
 |_=>exact hf
theorem yz{c:Operand}{x y:Code}{t:Bool}(hc:ev s.f c= .kb t)(h:GO P nt (.code (bif t then x else y)::k) Q s):GO P nt (.code (.cond c x y)::k) Q s:=by
 intro M N a w b;have hb:a.eval c= .bool t:=by
  have:=a7 b.2.1 c;rw[hc]at this;generalize a.eval c=v at this;cases this;rfl
 refine wp_cond hb ?_;cases t
 .exact h M N a w b
 .exact h M N a w b
theorem Qm{c:Operand}{x y:Code}{t:Bool}(hc:ev s.f c= .iv (.v (.bool t)))(h1:t=kw->GO P nt (.code x::k) Q (setBool s c kw))(h2:t=lc->GO P nt (.code y::k) Q (setBool s c lc)):
  GO P nt (.code (.cond c x y)::k) Q s:=by
 intro M N a w G;have u:=G.setBool hc;refine wp_cond_split (G.bool hc) (fun D=>?_) (fun D=>?_)
 .subst D;exact AW.then (h1 Z) u fun e a2 I A B F j b d=>⟨A,B,F,by cases c<;>exact j,b,d⟩
 .subst D;exact AW.then (h2 Z) u fun e a2 I A B F j b d=>⟨A,B,F,by cases c<;>exact j,b,d⟩
theorem ur{Q b:Exit->Act->World->Prop}(d: ∀e a w,Q e a w->b e a w)(h:LetsOut Q):LetsOut b:=let ⟨a,w,x⟩:=h;⟨a,w,d _ _ _ x⟩
theorem DT{o:Oper}{a:Act}{w:World}{K K':Act->World->Prop}{Q j:Exit->Act->World->Prop}(h: ∀a w,K a w->K' a w)(d: ∀e a w,Q e a w->j e a w)(hh:o.wp P a w K Q):o.wp P a w K' j:=by
 unfold Oper.wp at*
 generalize(execOp a.eval o).run P w=r at*
 cases r with
 |ok n w'=>
  cases n<;>simp only[Oper.upon]at hh ⊢ <;>
   first
    |exact h _ _ hh
    |exact Calls.mono hh (fun e u b=>by cases e<;>first|exact h _ _ b|exact ur d b|exact d _ _ _ b)
    |exact Rows.mono hh (fun _ _ b=>h _ _ b)
 |halt x w'=>cases x<;>simp only[Oper.upon]at hh ⊢ <;>exact d _ _ _ hh
theorem gT{ops:Array Oper}{Q j:Exit->Act->World->Prop}(b: ∀e a w,Q e a w->j e a w): ∀(l:List Oper) (a:Act) (w:World),wpList P ops Q l a w->wpList P ops j l a w
 | [],_,_,h=>b _ _ _ h
 |o::r,a,w,h=>by
  unfold wpList at*
  split
  .rename_i d;rw[am d]at h;exact h.imp (DT (gT b r) b) (fun⟨h1,h2⟩=>⟨h1,ur b h2⟩)
  .rename_i d;rw[be d]at h;exact gT b r _ _ h
theorem AL.later{all rest:List Oper}(h:AL P nt all rest Q s){M b:Mem}{N d:Nm}{s0:AS}{a:Act}{w j:World}(x:Ext b d (· <s0.nx) s0.h j M N (· <s.nx) s.h w)(hf:Fits M N s nt a w):
  wpList P all.toArray (pN nt b d s0 j Q) rest a w:=
 gT (fun _ _ _=>pN.later x) rest a w (h M N a w hf)
def OT(P:Program)(nt:Nat)(o:Oper)(s:AS)(R:AS->Prop):Prop:=
 ∀M N a w,Fits M N s nt a w-> ∀(K:Act->World->Prop) (Q:Exit->Act->World->Prop),
  (∀d j s' u b,Ext M N (· <s.nx) s.h w d j (· <s'.nx) s'.h b->Fits d j s' nt u b->R s'->K u b)->o.wp P a w K Q
theorem jE{o:Oper}(h:o.guard=jp)(y:Nat->Option Bool):Region.wanted o y=kw:=by simp[Region.wanted,h]
theorem dK{all rest:List Oper}{o:Oper}{R:AS->Prop}(hg:o.guard=jp)(ho:OT P nt o s R)(h: ∀s',R s'->GO P nt (.ops all rest::k) Q s'):GO P nt (.ops all (o::rest)::k) Q s:=by
 intro M N a w d;unfold wpList;rw[am (jE hg _)];refine .inl (ho M N a w d _ _ fun x y s' A B u b j=>?_);exact AL.later (h s' j) u b
def guardOf(all:List Oper)(f:AF)(j:Nat):Option (Nat×PV):=
 match all[j]? with
 |some o=>match o.dst with
  |some d=>io (d,f.get d)
  |none=>jp
 |none=>jp
theorem Fits.yielded{M:Mem}{N:Nm}{a:Act}{w:World}(hf:Fits M N s nt a w){all:List Oper}{j d:Nat}{t:Bool}(hg:guardOf all s.f j=io (d,.iv (.v (.bool t))))(hd:d<nt):Go.yielded all.toArray a.tmps j=io t:=by
 unfold guardOf at hg;cases ho:all[j]? with
 |none=>simp[ho]at hg
 |some o=>
  cases hod:o.dst with
  |none=>simp[ho,hod]at hg
  |some d'=>
   simp only[ho,hod,Y9,Zl]at hg;obtain⟨rfl,B⟩:=hg;have b:=hf.2.1 d';rw[B]at b;have u:d'<a.tmps.size:=by rw[hf.2.2.2];exact hd
   have x:a.tmps[d']? =io (a.tmps.getD d' undef):=by simp[Y7,u]
   have y:a.tmps.getD d' undef= .bool t:=by
    generalize a.tmps.getD d' undef=v at b;cases b with
    |iv _ _ h=>cases h with
     |v=>rfl
   have A:all.toArray[j]? =io o:=by simpa using ho
   simp[Go.yielded,A,hod,x,y]
def iP(o:Oper)(s:AS):AS:=
 match o.dst with
 |some e=>match s with
  |⟨f,h,n⟩=>⟨(e,.iv (.v (.tuple #[])))::f,h,n⟩
 |none=>s
theorem Fits.skip{M:Mem}{N:Nm}{a:Act}{w:World}(hf:Fits M N s nt a w)(o:Oper):Fits M N (iP o s) nt (a.put o.dst undef) w:=by
 unfold iP;cases o.dst with
 |none=>exact hf
 |some e=>
  refine⟨hf.1,fun i=>?_,hf.2.2.1,by simp[Act.put,hf.2.2.2]⟩;simp only[AF.ax];by_cases b:i=e
  .rw[am b];subst b;have:(a.put (io i) undef).tmps.getD i undef=undef:=by
    simp only[Act.put,Y7,ZT,if_true];split<;>rfl
   rw[this];exact .iv _ _ (.v _)
  .rw[be b];have:=hf.2.1 i;simp only[Act.put,Y7,ZT]at this ⊢;rw[be (fun e=>b e.symm)];exact this
theorem jI(o:Oper)(s:AS):(iP o s).h=s.h∧(iP o s).nx=s.nx:=by unfold iP;cases o.dst<;>exact⟨rfl,rfl⟩
theorem lN(c:Operand)(t:Bool)(s:AS):(setBool s c t).h=s.h∧(setBool s c t).nx=s.nx:=by cases c<;>exact⟨rfl,rfl⟩
theorem AL.same{all rest:List Oper}{s':AS}(h:AL P nt all rest Q s')(e:s'.h=s.h∧s'.nx=s.nx){M:Mem}{N:Nm}{a:Act}{w:World}(hf:Fits M N s' nt a w):
  wpList P all.toArray (pN nt M N s w Q) rest a w:=by
 have:=h M N a w hf;refine gT (fun d b j ⟨M2,N2,s2,h1,h2,h3⟩=>⟨M2,N2,s2,?_,h2,h3⟩) rest a w this;rw[e.1,e.2]at h1;exact h1
theorem Fits.xr{M:Mem}{N:Nm}{a:Act}{w:World}(hf:Fits M N s nt a w){all:List Oper}{j d:Nat}{t:Bool}(hg:guardOf all s.f j=io (d,.kb t))(hd:d<nt):Go.yielded all.toArray a.tmps j=io t:=by
 unfold guardOf at hg;cases ho:all[j]? with
 |none=>simp[ho]at hg
 |some o=>
  cases hod:o.dst with
  |none=>simp[ho,hod]at hg
  |some d'=>
   simp only[ho,hod,Y9,Zl]at hg;obtain⟨rfl,B⟩:=hg;have b:=hf.2.1 d';rw[B]at b;have u:d'<a.tmps.size:=by rw[hf.2.2.2];exact hd
   have x:a.tmps[d']? =io (a.tmps.getD d' undef):=by simp[Y7,u]
   have y:a.tmps.getD d' undef= .bool t:=by
    generalize a.tmps.getD d' undef=v at b;cases b;rfl
   have A:all.toArray[j]? =io o:=by simpa using ho
   simp[Go.yielded,A,hod,x,y]
theorem Fits.xq{M:Mem}{N:Nm}{a:Act}{w:World}(hf:Fits M N s nt a w){all:List Oper}{j d:Nat}{vs:Array Value}(hg:guardOf all s.f j=io (d,.iv (.v (.tuple vs)))):Go.yielded all.toArray a.tmps j=jp:=by
 unfold guardOf at hg;cases ho:all[j]? with
 |none=>simp[ho]at hg
 |some o=>
  cases hod:o.dst with
  |none=>simp[ho,hod]at hg
  |some d'=>
   simp only[ho,hod,Y9,Zl]at hg;obtain⟨rfl,y⟩:=hg;have u:=hf.2.1 d';rw[y]at u;have b:a.tmps.getD d' undef= .tuple vs:=by
    generalize a.tmps.getD d' undef=v at u;cases u with
    |iv _ _ h=>cases h with
     |v=>rfl
   have x:all.toArray[j]? =io o:=by simpa using ho
   rw[Y7]at b;cases h5:a.tmps[d']? with
   |none=>simp[Go.yielded,x,hod,h5]
   |some v=>
    rw[h5]at b;simp only[aaw]at b;subst b;simp[Go.yielded,x,hod,h5]
theorem Ev{all rest:List Oper}{o:Oper}{j d:Nat}{want:Bool}{vs:Array Value}(hg:o.guard=io (j,want))(y:guardOf all s.f j=io (d,.iv (.v (.tuple vs))))(h:GO P nt (.ops all rest::k) Q (iP o s)):GO P nt (.ops all (o::rest)::k) Q s:=by
 intro M N a w u;have b:=u.xq y;unfold wpList;have x:Region.wanted o (Go.yielded all.toArray a.tmps)=lc:=by simp[Region.wanted,hg,b]
 rw[x,be (by simp)];exact AL.same (s:=s) h (jI _ _) (u.skip o)
theorem Ew{all rest:List Oper}{o:Oper}{j d:Nat}{want t:Bool}(hg:o.guard=io (j,want))(A:guardOf all s.f j=io (d,.kb t))(hd:d<nt)
  (h:GO P nt (.ops all (bif t==want then{o with guard:=jp}::rest else rest)::k) Q (bif t==want then s else iP o s)):GO P nt (.ops all (o::rest)::k) Q s:=by
 intro M N a w x;have b:=x.xr A hd;unfold wpList;by_cases u:t=want
 .have y:Region.wanted o (Go.yielded all.toArray a.tmps)=kw:=by simp[Region.wanted,hg,b,u]
  have hb:(t==want)=kw:=by simp[u]
  rw[am y];rw[hb]at h;have:=h M N a w x;simp only[cond_true]at this;unfold wpList at this;rw[am (jE Z _)]at this;exact this
 .have y:Region.wanted o (Go.yielded all.toArray a.tmps)=lc:=by simp[Region.wanted,hg,b,u]
  have hb:(t==want)=lc:=by simp[u]
  rw[y,be (by simp)];rw[hb]at h;exact AL.same (s:=s) h (jI _ _) (x.skip o)
theorem L3{all rest:List Oper}{o:Oper}{j d:Nat}{want t:Bool}(hg:o.guard=io (j,want))(u:guardOf all s.f j=io (d,.iv (.v (.bool t))))(hd:d<nt)
  (h1:t=want->GO P nt (.ops all ({o with guard:=jp}::rest)::k) Q (setBool s (.tmp d) want)) (h2:t=!want->GO P nt (.ops all rest::k) Q (iP o (setBool s (.tmp d) (!want)))):
  GO P nt (.ops all (o::rest)::k) Q s:=by
 intro M N a w F;have y:=F.yielded u hd;have B:ev s.f (.tmp d)= .iv (.v (.bool t)):=by
  unfold guardOf at u;cases ho:all[j]? with
  |none=>simp[ho]at u
  |some o'=>
   cases hod:o'.dst with
   |none=>simp[ho,hod]at u
   |some d'=>
    simp only[ho,hod,Y9,Zl]at u;obtain⟨rfl,G⟩:=u;exact G
 have b:=F.setBool B;unfold wpList;by_cases A:t=want
 .have D:Region.wanted o (Go.yielded all.toArray a.tmps)=kw:=by simp[Region.wanted,hg,y,A]
  rw[am D];rw[A]at b;have:=AL.same (s:=s) (h1 A) (lN _ _ _) b;unfold wpList at this;rw[am (jE Z _)]at this;exact this
 .have D:Region.wanted o (Go.yielded all.toArray a.tmps)=lc:=by simp[Region.wanted,hg,y,A]
  have x:t=!want:=by cases t<;>cases want<;>simp_all
  rw[D,be (by simp)];rw[x]at b;exact AL.same (s:=s) (h2 x) ⟨(jI _ _).1.trans (lN _ _ _).1,(jI _ _).2.trans (lN _ _ _).2⟩ (b.skip o)
end
section
variable {P:Program} {nt:Nat} {Q:AQ} {k:List KI} {s:AS}
theorem Rel.drew{M:Mem}{N:Nm}{U:Nat->Prop}{h:AH}{w:World}(hr:Rel M N U h w):Rel M N U h {w with drawn:=w.drawn+1}:=
 ⟨hr.eW,hr.used,hr.fo,fun i o b=>(hr.obj i o b).mono (.refl _) (.refl _ _) (fun _ h=>h) (hr.used i o b) Z,hr.inj⟩
theorem Fits.drew{M:Mem}{N:Nm}{a:Act}{w:World}(hf:Fits M N s nt a w):Fits M N s nt a {w with drawn:=w.drawn+1}:=⟨hf.1.drew,hf.2⟩
theorem Ext.drew{M:Mem}{N:Nm}{U:Nat->Prop}{h:AH}{w:World}:Ext M N U h w M N U h {w with drawn:=w.drawn+1}:=
 ⟨rfl,rfl,rfl,Zc _,fun _ _ _=>rfl,.refl _,fun b c j u=>by simp[j]at u,.refl _ _,fun _ h=>h,fun i o x d=> .inr ⟨i,o,x,d,rfl⟩⟩
end
section
variable {P:Program} {M:Mem} {N:Nm} {w:World} {n:Nat} {h:AH}
def Nm.with(N:Nm)(n b e:Nat):Nm:={aL:=fun i=>if i=n then b else N.aL i,ext:=fun i=>if i=n then e else N.ext i}
theorem Nm.gU(N:Nm)(n b e:Nat):N.agree (N.with n b e) (· <n):=
 ⟨fun i d=>by simp[Nm.with,acb d],fun i d=>by simp[Nm.with,acb d]⟩
@[simp] theorem Nm.JT(N:Nm)(n b e:Nat):(N.with n b e).aL n=b:=by simp[Nm.with]
@[simp] theorem Nm.Vo(N:Nm)(n b e:Nat):(N.with n b e).ext n=e:=by simp[Nm.with]
theorem Rel.lt(hr:Rel M N (· <n) h w){i:Nat}{o:AO}(hi:h.get i=io o)(b:o.real=kw):N.aL i<w.heap.size:=(hr.obj i o hi).lt b
theorem Rel.DY(hr:Rel M N (· <n) h w):M w.heap.size=jp:=by
 cases hm:M w.heap.size with
 |none=>rfl
 |some c=>have:=(hr.eW _ _ hm).lt;omega
theorem Rel.alloc(hr:Rel M N (· <n) h w)(obj:Obj)(o:AO)(e:Nat)(ho: ∀D,D.aL n=w.heap.size->D.ext n=e->N.agree D (· <n)->OR M D (· <n+1) (w.alloc obj) n o):
  ∃D,D.aL n=w.heap.size∧D.ext n=e∧N.agree D (· <n)∧Ext M N (· <n) h w M D (· <n+1) ((n,io o)::h) (w.alloc obj)∧Rel M D (· <n+1) ((n,io o)::h) (w.alloc obj):=by
 have F:=N.gU n w.heap.size e;have d: ∀i p,AH.get ((n,io o)::h) i=io p->(i=n∧p=o)∨(i<n∧h.get i=io p):=by
  intro i p u;rw[AH.ax]at u;split at u
  .rename_i G;exact .inl ⟨G,by simpa using u.symm⟩
  .exact .inr ⟨hr.used i p u,u⟩
 refine⟨N.with n w.heap.size e,by simp,by simp,F,?_,?_⟩
 .refine⟨rfl,rfl,rfl,by simp,fun b hb _=>CM w obj b hb,.refl _,fun b c B A=>by simp[B]at A,F,fun i u=>by omega,fun i p u x=>?_⟩;rcases d i p u with⟨rfl,rfl⟩|⟨B,A⟩
  .exact .inl (by simp)
  .exact .inr ⟨i,p,A,x,(F.aL i B).symm⟩
 .refine⟨fun b c hb=>?_,fun i p u=>?_,fun i p u x=>?_,fun i p u=>?_,fun i j p q u hj S Y y=>?_⟩
  .exact(hr.eW b c hb).mono (CM w obj b (hr.eW b c hb).lt)
  .rcases d i p u with⟨rfl,rfl⟩|⟨B,A⟩<;>omega
  .rcases d i p u with⟨rfl,rfl⟩|⟨B,A⟩
   .simpa using hr.DY
   .rw[F.aL i B];exact hr.fo i p A x
  .rcases d i p u with⟨rfl,rfl⟩|⟨B,A⟩
   .exact ho _ (by simp) (by simp) F
   .cases x:p.real with
    |true=>exact(hr.obj i p A).mono (.refl _) F (fun i u=>by omega) B (CM w obj _ (hr.lt A x))
    |false=>
     cases p with
     |row sz es=>cases es with
      |nil=>exact .inl Z
      |cons=>cases x
     |bS l T=>cases l with
      |nil=>exact .inl Z
      |cons=>cases x
     |_=>cases x
  .rcases d i p u with⟨rfl,rfl⟩|⟨B,A⟩<;>rcases d j q hj with⟨rfl,rfl⟩|⟨I,J⟩
   .rfl
   .rw[F.aL j I]at y;simp at y;have:=hr.lt J Y;omega
   .rw[F.aL i B]at y;simp at y;have:=hr.lt A S;omega
   .rw[F.aL i B,F.aL j I]at y;exact hr.inj i j p q A J S Y y
theorem Rel.Nw(hr:Rel M N (· <n) h w)(sz:Nat):Ext M N (· <n) h w M N (· <n+1) ((n,io (.row sz []))::h) w∧Rel M N (· <n+1) ((n,io (.row sz []))::h) w:=by
 have d: ∀i p,AH.get ((n,io (.row sz []))::h) i=io p->(i=n∧p= .row sz [])∨(i<n∧h.get i=io p):=by
  intro i p u;rw[AH.ax]at u;split at u
  .rename_i D;exact .inl ⟨D,by simpa using u.symm⟩
  .exact .inr ⟨hr.used i p u,u⟩
 refine⟨⟨rfl,rfl,rfl,Zc _,fun _ _ _=>rfl,.refl _,fun b c A y=>by simp[A]at y,.refl _ _,fun i u=>by omega,fun i p u x=>?_⟩,⟨hr.eW,fun i p u=>?_,fun i p u x=>?_,fun i p u=>?_,fun i j p q u J F G B=>?_⟩⟩
 .rcases d i p u with⟨rfl,rfl⟩|⟨A,y⟩
  .cases x
  .exact .inr ⟨i,p,y,x,rfl⟩
 .rcases d i p u with⟨rfl,rfl⟩|⟨A,y⟩<;>omega
 .rcases d i p u with⟨rfl,rfl⟩|⟨A,y⟩
  .cases x
  .exact hr.fo i p y x
 .rcases d i p u with⟨rfl,rfl⟩|⟨A,y⟩
  .exact .inl Z
  .exact(hr.obj i p y).mono (.refl _) (.refl _ _) (fun i u=>by omega) A Z
 .rcases d i p u with⟨rfl,rfl⟩|⟨A,y⟩<;>rcases d j q J with⟨rfl,rfl⟩|⟨S,I⟩
  .rfl
  .cases F
  .cases G
  .exact hr.inj i j p q y I F G B
theorem Rel.write(hr:Rel M N (· <n) h w){i:Nat}{o0:AO}(hi:h.get i=io o0)(h0:o0.real=kw)(A:World)(o:AO)(a0:A.os=w.os)(G:A.tape=w.tape)(I:A.output=w.output)(b0:A.heap.size=w.heap.size)
  (J: ∀b,b≠N.aL i->A.heap[b]? =w.heap[b]?) (ho:OR M N (· <n) A i o):
  Ext M N (· <n) h w M N (· <n) ((i,io o)::h) A∧Rel M N (· <n) ((i,io o)::h) A:=by
 have d: ∀j p,AH.get ((i,io o)::h) j=io p->(j=i∧p=o)∨(j≠i∧h.get j=io p):=by
  intro j p y;rw[AH.ax]at y;split at y
  .rename_i D;exact .inl ⟨D,by simpa using y.symm⟩
  .rename_i D;exact .inr ⟨D,y⟩
 refine⟨⟨a0,G,I,by omega,fun b hb hn=>J b (fun e=>hn i o0 hi h0 e.symm),.refl _,fun b c B x=>by simp[B]at x,.refl _ _,fun _ h=>h,fun j p y u=>?_⟩,?_⟩
 .rcases d j p y with⟨rfl,rfl⟩|⟨B,x⟩
  .exact .inr ⟨j,o0,hi,h0,rfl⟩
  .exact .inr ⟨j,p,x,u,rfl⟩
 .refine⟨fun b c hb=>?_,fun j p y=>?_,fun j p y u=>?_,fun j p y=>?_,fun j k p q y S hp hq F=>?_⟩
  .have Y:b≠N.aL i:=fun e=>by
    have:=hr.fo i o0 hi h0;rw[<-e,hb]at this;simp at this
   exact(hr.eW b c hb).mono (J b Y)
  .rcases d j p y with⟨rfl,rfl⟩|⟨B,x⟩
   .exact hr.used j o0 hi
   .exact hr.used j p x
  .rcases d j p y with⟨rfl,rfl⟩|⟨B,x⟩
   .exact hr.fo j o0 hi h0
   .exact hr.fo j p x u
  .rcases d j p y with⟨rfl,rfl⟩|⟨B,x⟩
   .exact ho
   .cases u:p.real with
    |true=>exact(hr.obj j p x).mono (.refl _) (.refl _ _) (fun _ h=>h) (hr.used j p x) (J _ (fun e=>B (hr.inj j i p o0 x hi u h0 e)))
    |false=>
     cases p with
     |row sz es=>cases es with
      |nil=>exact .inl Z
      |cons=>cases u
     |bS l T=>cases l with
      |nil=>exact .inl Z
      |cons=>cases u
     |_=>cases u
  .rcases d j p y with⟨rfl,rfl⟩|⟨B,x⟩<;>rcases d k q S with⟨rfl,rfl⟩|⟨h3,h4⟩
   .rfl
   .exact hr.inj _ _ _ _ hi h4 h0 hq F
   .exact hr.inj _ _ _ _ x hi hp h0 F
   .exact hr.inj _ _ _ _ x h4 hp hq F
end
def Ft(ty:Ty)(s:AS)(t:TypeId)(p x:PV):Option AS:=
 match ty t with
 |some e=>match x.cells with
  |some xs=>match Zz xs.length e.size,jA xs with
   |true,kw=>match p with
    | .ptr i off=>match s.h.get i with
     |some (.cells cs T0)=>match aa2 (off+xs.length) cs.length with
      |true=>match s with
       |⟨f,h,n⟩=>force (setCells cs off xs) fun b=>io ⟨f,(i,io (.cells b T0))::h,n⟩
      |false=>jp
     |_=>jp
    |_=>jp
   |_,_=>jp
  |none=>jp
 |none=>jp
def newObj(s:AS)(o:AO):AS:=match s with|⟨f,h,n⟩=>⟨f,(n,io o)::h,n+1⟩
def nw(s:AS)(g:Nat->PV)(o:AO):Option (PV×AS):=match s with|⟨f,h,n⟩=>io (g n,⟨f,(n,io o)::h,n+1⟩)
theorem xY(s:AS)(g:Nat->PV)(o:AO):nw s g o=io (g s.nx,newObj s o):=by cases s;rfl
def BP:Nat->List PV->List PV
 |0,_=> []
 |n+1,l=>l++BP n l
theorem nr: ∀(n:Nat) (l:List PV),(BP n l).length=n*l.length
 |0,l=>by simp[BP]
 |n+1,l=>by simp[BP,nr n l,aa3,Nat.add_comm]
theorem DB: ∀(n:Nat) (l:List PV) (j:Nat) (p:PV),(BP n l)[j]? =io p->l[j % l.length]? =io p
 |0,l,j,p,h=>by simp[BP]at h
 |n+1,l,j,p,h=>by
  simp only[BP]at h;rcases aag j l.length with hj|hj
  .rw[Zp hj]at h;rw[Nat.mod_eq_of_lt hj];exact h
  .rw[Zv hj]at h;have:=DB n l _ p h;rwa[Nat.mod_eq_sub_mod hj]
def pr(sz:Nat):Nat->List PV->List (List PV)
 |0,_=> []
 |n+1,cs=>cs.take sz::pr sz n (cs.drop sz)
def CD{α:Type _}(sz:Nat):Nat->List PV->(List (List PV)->α)->α
 |0,_,k=>k []
 |n+1,cs,k=>force (cs.take sz) fun c=>force (cs.drop sz) fun d=>CD sz n d fun r=>k (c::r)
theorem Bc{α:Type _}(sz:Nat): ∀(n:Nat) (cs:List PV) (k:List (List PV)->α),CD sz n cs k=k (pr sz n cs)
 |0,_,_=>rfl
 |n+1,cs,k=>by simp only[CD,force_eq,Bc sz n,pr]
theorem sy(sz:Nat): ∀(n:Nat) (cs:List PV),(pr sz n cs).length=n
 |0,_=>rfl
 |n+1,cs=>by simp[pr,sy sz n]
theorem pq(sz:Nat): ∀(n:Nat) (cs:List PV) (k:Nat) (e:List PV),cs.length=n*sz->(pr sz n cs)[k]? =io e->e.length=sz∧ ∀j,j<sz->e[j]? =cs[k*sz+j]?
 |0,cs,k,e,_,h=>by simp[pr]at h
 |n+1,cs,k,e,hl,h=>by
  simp only[pr]at h;rw[aa3]at hl;cases k with
  |zero=>
   simp at h;subst h;refine⟨by simp;omega,fun j b=>by simp[b]⟩
  |succ k=>
   obtain⟨d,u⟩:=pq sz n (cs.drop sz) k e (by simp;omega) (by simpa using h);refine⟨d,fun j b=>?_⟩;rw[u j b,aap,aa3];congr 1;omega
def Sv(ty:Ty)(e:cE):Bool:=
 match e.k with
 | .dy ((0,u)::_)=>match ty u with
  |some ⟨.dy ((0,q)::_),_,_,_,_⟩=>match ty q with
   |some ⟨.bc (.pointer v),_,_,_,_⟩=>Zz u v
   |_=>lc
  |_=>lc
 |_=>lc
def V2(ty:Ty)(t:TypeId):Bool:=
 match ty t with
 |some e=>Sv ty e
 |none=>lc
def JN(ty:Ty)(s:AS):Op->Option (PV×AS)
 | .alloc t=>match ty t with
  |some e=>match Sv ty e with
   |true=>force (c6 e.zero) fun b=>nw s (fun n=> .ptr n 0) (.cells b (io t))
   |false=>force (c6 e.zero) fun b=>nw s (fun n=> .ptr n 0) (.cells b)
  |none=>jp
 | .box t x=>match(ev s.f x).cells with
  |some b=>match jA b with
   |true=>match V2 ty t with
    |true=>force b fun d=>nw s (fun n=> .ptr n 0) (.cells d (io t))
    |false=>force b fun d=>nw s (fun n=> .ptr n 0) (.cells d)
   |false=>jp
  |none=>jp
 | .store t a x=>match Ft ty s t (ev s.f a) (ev s.f x) with
  |some s'=>io (.any,s')
  |none=>jp
 | .makeMap _ jp=>nw s (fun n=> .mp n) .gP
 | .makeMap t (io r)=>match ev s.f r,ty t with
  | .iv (.v (.int _ _)),io ⟨.bc (.map _ _),_,_,_,_⟩=>nw s (fun n=> .mp n) .gP
  |_,_=>jp
 | .range t x=>match ev s.f x,ty t with
  | .iv (.eI kc e _ _ m),io ⟨.bc (.map _ _),_,_,_,_⟩=>nw s (fun n=> .ptr n 0) (.cF kc e m [] jp)
  |_,_=>jp
 | .buildSlice t len parts=>match ty t with
  |some e=>match e.k with
   | .bc (.slice u)=>match ty u with
    |some eu=>match Zz eu.zero.cells.size eu.size,Zs 0 (len*eu.size),aa2 (len*eu.size) 16777216 with
     |true,kw,kw=>match sw (fun i=>io (i*eu.size,eu.size)) (BP len (c6 eu.zero)) (parts.toList.map fun x=>(x.1,ev s.f x.2)) with
      |some b=>CD eu.size len b fun es=>nw s (fun n=> .sl n 0 len eu.size) (.row eu.size es)
      |none=>jp
     |_,_,_=>jp
    |none=>jp
   |_=>jp
  |none=>jp
 |_=>jp
section
variable {P:Program} {ty:Ty} {nt:Nat} {s:AS}
theorem fh{M:Mem}{N:Nm}{a:Act}{w:World}(hf:Fits M N s nt a w){obj:Obj}{o:AO}{b:Nm}(d:Ext M N (· <s.nx) s.h w M b (· <s.nx+1) ((s.nx,io o)::s.h) (w.alloc obj))
  (hr:Rel M b (· <s.nx+1) ((s.nx,io o)::s.h) (w.alloc obj)):Fits M b (newObj s o) nt a (w.alloc obj):=
 ⟨hr,hf.2.1.ext d,hf.2.2⟩
theorem OT.value{o:Oper}{s1 s':AS}{p:PV}(hp:putDst nt o p s1=io s')
  (h: ∀M N a w,Fits M N s nt a w-> ∃x u b j,(execOp a.eval o).run P w= .ok (.value x) u∧Ext M N (· <s.nx) s.h w b j (· <s1.nx) s1.h u∧Fits b j s1 nt a u∧VR b j (· <s1.nx) p x):OT P nt o s (fun t=>t=s'):=by
 intro M N a w F K Z B;obtain⟨x,u,b,j,I,A,y,G⟩:=h M N a w F;unfold Oper.wp;rw[I];simp only[Oper.upon];cases hd:o.dst with
 |none=>
  have:=fM hp hd;subst this;exact B b j s' _ u A y rfl
 |some d=>
  obtain⟨D,rfl⟩:=fL hp hd;exact B b j {s1 with f:=(d,p)::s1.f} _ u A (y.put d p x D G) rfl
theorem OT.skip{o:Oper}{s1 s':AS}(hp:putDst nt o .any s1=io s')
  (h: ∀M N a w,Fits M N s nt a w-> ∃b j u,(execOp a.eval o).run P w= .ok .skip b∧Ext M N (· <s.nx) s.h w j u (· <s1.nx) s1.h b∧Fits j u s1 nt a b):OT P nt o s (fun t=>t=s'):=by
 intro M N a w D K Z A;obtain⟨b,j,u,F,y,x⟩:=h M N a w D;unfold Oper.wp;rw[F];simp only[Oper.upon];cases hd:o.dst with
 |none=>
  have:=fM hp hd;subst this;exact A j u s' _ b y x rfl
 |some d=>
  obtain⟨B,rfl⟩:=fL hp hd;exact A j u {s1 with f:=(d,.any)::s1.f} _ b y (x.put d .any undef B (.any _)) rfl
theorem Ir(f0:cD P ty){t:TypeId}{p x:PV}{s1:AS}(h:Ft ty s t p x=io s1){M:Mem}{N:Nm}{a:Act}{w:World}(hf:Fits M N s nt a w){u y:Value}(hu:VR M N (· <s.nx) p u)(hy:VR M N (· <s.nx) x y):
  ∃w',(Instr.storeAt t u y).run P w= .ok () w'∧Ext M N (· <s.nx) s.h w M N (· <s1.nx) s1.h w'∧Fits M N s1 nt a w':=by
 unfold Ft at h;split at h
 .rename_i e he;split at h
  .rename_i B i0;split at h
   .rename_i h1 h2;split at h
    .rename_i i a0;split at h
     .rename_i cs T0 d;split at h
      .rename_i c0;obtain⟨sf,sh,sn⟩:=s;simp only[force_eq,Y9]at h;subst h;simp only at d;cases hu with
       |ptr _ _ hU=>
        obtain⟨hl,hv⟩:=qT hy i0;have e0:y.cells.size=e.size:=by rw[<-hl];exact Zt h1
        obtain⟨c,T,g1,g2,g3,g4,g5⟩:=hf.1.obj i _ d;have d0:a0+B.length<=c.size:=by rw[<-g3];exact Y5 c0
        have I: ∀v∈y.cells.toList,v.oneCell'=kw:=by
         intro v g0;obtain⟨j,hj⟩:=Z7 g0;have D:j<y.cells.toList.length:=(Zb.1 hj).1;have F:B[j]? =io (B[j]'(by simp at D;omega)):=Za _;have:=(hv j _ F).one (oK h2 j _ F);rw[Y7]at this;have b0:y.cells[j]? =io v:=by simpa using hj
         rw[b0]at this;exact this
        have S:=run_storeCells_at P (N.aL i) a0 T y.cells.toList 0 c w g1 (by simp;omega) I;refine⟨w.setRow (N.aL i) (c.toList.take (a0+0)++y.cells.toList++c.toList.drop (a0+0+y.cells.toList.length)).toArray,?_,?_⟩
        .have A:=bL (w:=w) (f0 t e he);simp only[Instr.storeAt,Instr.sureAddr,pure_bind,storeVar,Sem.run_bind,A,Result.andThen_ok,e0,ne_eq,not_true_eq_false,if_false,S]
        .have J:=setRow_heap w (N.aL i) c (c.toList.take (a0+0)++y.cells.toList++c.toList.drop (a0+0+y.cells.toList.length)).toArray T (0,0) g1;have G: ∀b,b≠N.aL i->(w.setRow (N.aL i) (c.toList.take (a0+0)++y.cells.toList++c.toList.drop (a0+0+y.cells.toList.length)).toArray).heap[b]? =w.heap[b]? :=by
          intro b hb;simp only[World.setRow,Z2];rw[be (fun e=>hb e.symm)]
         have:=hf.1.write d Z (w.setRow (N.aL i) (c.toList.take (a0+0)++y.cells.toList++c.toList.drop (a0+0+y.cells.toList.length)).toArray) (.cells (setCells cs a0 B) T0) Z Z Z (by simp) G
          ⟨_,T,J,by simp;omega,by rw[gm];simp;omega,fun j q hq=>?_,g5⟩
         .exact⟨this.1,this.2,hf.2.1,hf.2.2⟩
         .rcases lM cs a0 B j q hq with⟨k1,Y⟩|⟨k1,Y⟩
          .have:=hv _ _ Y;have D:j-a0<B.length:=(Zb.1 Y).1;rw[Y7]at this ⊢;have e1:(c.toList.take (a0+0)++y.cells.toList++c.toList.drop (a0+0+y.cells.toList.length)).toArray[j]? =y.cells[j-a0]? :=by
            simp only[aar];rw[Zp (by simp;omega),Zv (by simp;omega)];simp only[ZP,Array.length_toList,aah];congr 1;omega
           rw[e1];exact this
          .have:=g4 _ _ Y;rw[Y7]at this ⊢;have e1:(c.toList.take (a0+0)++y.cells.toList++c.toList.drop (a0+0+y.cells.toList.length)).toArray[j]? =c[j]? :=by
            simp only[aar];rcases k1 with k1|k1
            .rw[Zj,Zp (by simp;omega),Z6,am (by omega),aah]
            .rw[Zv (by simp;omega),aap,aah];congr 1;simp;omega
           rw[e1];exact this
      .cases h
     .cases h
    .cases h
   .cases h
  .cases h
 .cases h
theorem FQ(F:cD P ty){o:Oper}{p:PV}{s1 s':AS}(h:JN ty s o.op=io (p,s1))(hp:putDst nt o p s1=io s'):OT P nt o s (fun t=>t=s'):=by
 cases ho:o.op with
 |alloc t=>
  rw[ho]at h;simp only[JN,xY]at h;split at h
  .rename_i e he;obtain⟨S,f0,h⟩: ∃S,Da S t∧io (PV.ptr s.nx 0,newObj s (.cells (c6 e.zero) S))=io (p,s1):=by
    split at h
    .exact⟨io t,fun x J=>by cases J;rfl,by rw[<-h,force_eq]⟩
    .exact⟨jp,.none _,by rw[<-h,force_eq]⟩
   simp only[Y9,Zl]at h;obtain⟨rfl,rfl⟩:=h;refine OT.value hp fun M N a w B=>?_
   obtain⟨A,G,h2,h3,D,I⟩:=B.1.alloc (.cells e.zero.cells t) (.cells (c6 e.zero) S) e.zero.cells.size (fun A g1 g2 g3=>
    ⟨e.zero.cells,t,by rw[g1];exact heap_alloc_new w _,g2.symm,(gq (M:=M) (N:=A) (U:=(· <s.nx+1)) e.zero).1,(gq e.zero).2,f0⟩)
   refine⟨.pointer (io ⟨w.heap.size,0,jp⟩),_,M,A,?_,D,fh B D I,?_⟩
   .simp only[execOp,ho];have hz:=en (w:=w) (F t e he);simp[Instr.alloc,hz,newVar,newRow]
   .have:=VR.ptr (M:=M) (N:=A) (U:=(· <s.nx+1)) s.nx 0 (by omega);rw[G]at this;exact this
  .cases h
 |box t x=>
  rw[ho]at h;simp only[JN,xY]at h;split at h
  .rename_i cs c0;split at h
   .rename_i a1;obtain⟨S,f0,h⟩: ∃S,Da S t∧io (PV.ptr s.nx 0,newObj s (.cells cs S))=io (p,s1):=by
     split at h
     .exact⟨io t,fun x J=>by cases J;rfl,by rw[<-h,force_eq]⟩
     .exact⟨jp,.none _,by rw[<-h,force_eq]⟩
    simp only[Y9,Zl]at h;obtain⟨rfl,rfl⟩:=h;refine OT.value hp fun M N a w B=>?_;obtain⟨hl,hv⟩:=qT (a7 B.2.1 x) c0
    obtain⟨A,G,h2,h3,D,I⟩:=B.1.alloc (.cells (a.eval x).cells t) (.cells cs S) (a.eval x).cells.size (fun A g1 g2 g3=>
     ⟨(a.eval x).cells,t,by rw[g1];exact heap_alloc_new w _,g2.symm,hl,fun j q hq=>(hv j q hq).mono (.refl _) g3 (fun i hi=>by omega),f0⟩)
    refine⟨.pointer (io ⟨w.heap.size,0,jp⟩),_,M,A,?_,D,fh B D I,?_⟩
    .simp only[execOp,ho];simp[Instr.box,newVar,newRow]
    .have:=VR.ptr (M:=M) (N:=A) (U:=(· <s.nx+1)) s.nx 0 (by omega);rw[G]at this;exact this
   .cases h
  .cases h
 |store t a x=>
  rw[ho]at h;simp only[JN,xY]at h;split at h
  .rename_i s2 hs;simp only[Y9,Zl]at h;obtain⟨rfl,rfl⟩:=h;refine OT.skip hp fun M N b w B=>?_;obtain⟨w',G,h2,h3⟩:=Ir (P:=P) F hs B (a7 B.2.1 a) (a7 B.2.1 x);refine⟨w',M,N,?_,h2,h3⟩;simp only[execOp,ho];simp[G]
  .cases h
 |makeMap t r=>
  rw[ho]at h;cases r with
  |some r=>
   simp only[JN,xY]at h;split at h
   .rename_i q n _ _ _ _ _ _ hr he;have hu:=(F _ _ he).2.1.1;simp only[Y9,Zl]at h;obtain⟨rfl,rfl⟩:=h;refine OT.value hp fun M N a w B=>?_
    obtain⟨A,G,h2,h3,D,I⟩:=B.1.alloc (.map #[] 0) .gP 0 (fun A g1 g2 g3=>
     (by rw[g1];exact heap_alloc_new w _:(w.alloc (.map #[] 0)).heap[A.aL s.nx]? =_))
    have g0:=a7 B.2.1 r;rw[hr]at g0;have b1:a.eval r= .int q n:=by
     generalize a.eval r=y at g0;cases g0 with
     |iv _ _ h=>cases h;rfl
    refine⟨.map (io w.heap.size),_,M,A,?_,D,fh B D I,?_⟩
    .simp only[execOp,ho];simp[Instr.makeMap,b1,run_underlying hu,asInt,asIntOf]
    .have:=VR.mp (M:=M) (N:=A) (U:=(· <s.nx+1)) s.nx (by omega);rw[G]at this;exact this
   .cases h
  |none=>
   simp only[JN,xY,Y9,Zl]at h;obtain⟨rfl,rfl⟩:=h;refine OT.value hp fun M N a w B=>?_
   obtain⟨A,G,h2,h3,D,I⟩:=B.1.alloc (.map #[] 0) .gP 0 (fun A g1 g2 g3=>
    (by rw[g1];exact heap_alloc_new w _:(w.alloc (.map #[] 0)).heap[A.aL s.nx]? =_))
   refine⟨.map (io w.heap.size),_,M,A,?_,D,fh B D I,?_⟩
   .simp only[execOp,ho];simp[Instr.makeMap]
   .have:=VR.mp (M:=M) (N:=A) (U:=(· <s.nx+1)) s.nx (by omega);rw[G]at this;exact this
 |range t x=>
  rw[ho]at h;simp only[JN,xY]at h;split at h
  .rename_i V kc e z zv m kt et _ _ _ _ s0 he;have hu:=(F _ _ he).2.1.1;simp only[Y9,Zl]at h;obtain⟨rfl,rfl⟩:=h;refine OT.value hp fun M N a w B=>?_;have J:=a7 B.2.1 x;rw[s0]at J;generalize hv:a.eval x=y at J
   cases J with
   |iv _ _ hi=>cases hi with
    |eI _ _ _ _ _ b ents clock hb hs hk hv' hz hi' hc=>
     obtain⟨A,G,h2,h3,D,I⟩:=B.1.alloc (.mapIter (io b) clock #[] clock) (.cF kc e m [] jp) 0 (fun A g1 g2 g3=>
      .inr ⟨b,ents,clock, #[],by rw[g1];exact heap_alloc_new w _,hb,⟨hs,hk,hv',hi',hc⟩,rfl,by simp,aab,by simp⟩)
     have a0:w.heap[b]? =io (.map ents clock):=B.1.eW _ _ hb;refine⟨.pointer (io ⟨w.heap.size,0,jp⟩),_,M,A,?_,D,fh B D I,?_⟩
     .simp only[execOp,ho,hv];simp[Instr.range,run_underlying hu,getObj,Sem.run,a0,Result.andThen]
     .have:=VR.ptr (M:=M) (N:=A) (U:=(· <s.nx+1)) s.nx 0 (by omega);rw[G]at this;exact this
  .cases h
 |buildSlice t len parts=>
  rw[ho]at h;simp only[JN,xY]at h;split at h
  .rename_i e he;split at h
   .rename_i u hk;split at h
    .rename_i d k0;split at h
     .rename_i p0 q0 r0;split at h
      .rename_i cs c0;rw[Bc]at h;simp only[Y9,Zl]at h;obtain⟨rfl,rfl⟩:=h;have j0:d.zero.cells.size=d.size:=Zt p0;have n0:0<len*d.size:=Y5 q0;have i1:len*d.size<=16777216:=Y5 r0;have i0:0<d.size:=Nat.pos_of_ne_zero fun e=>by simp[e]at n0
       have w0:0<len:=Nat.pos_of_ne_zero fun e=>by simp[e]at n0
       have f1:len<=len*d.size:=Nat.le_mul_of_pos_right _ i0;have b0:=(F t e he).2.1;rw[hk]at b0;refine OT.value hp fun M N a w B=>?_;have d0:(c6 d.zero).length=d.size:=by rw[(gq (M:=M) (N:=N) (U:=(· <s.nx)) d.zero).1,j0]
       obtain⟨e0,h3,D⟩:=uD (M:=M) (N:=N) (U:=(· <s.nx)) (vals:=(parts.map fun x=>(x.1,a.eval x.2)).toList) (ys:=(ab0 (len*d.size)).map (d.zero.cells[· % d.zero.cells.size]!)) c0 (by simp) (fun j x y J hy=>by
        rw[Zg,Zi]at J;obtain⟨z,hz,rfl⟩:=J;have e1:parts[j]? =io z:=by simpa using hz
        have:io (z.1,a.eval z.2)=io y:=by rw[<-hy];simp[e1]
        simp only[Y9]at this;subst this
        exact⟨rfl,a7 B.2.1 z.2⟩) (by
        refine⟨by rw[nr,d0];simp,fun j p hj=>?_⟩;have I:=DB _ _ _ _ hj;have t0:j<len*d.size:=by
         have:=(Zb.1 hj).1;rwa[nr,d0]at this
        rw[d0]at I;have h6:=(gq (M:=M) (N:=N) (U:=(· <s.nx)) d.zero).2 _ _ I;have h7:((ab0 (len*d.size)).map (d.zero.cells[· % d.zero.cells.size]!)).getD j undef=d.zero.cells.getD (j % d.size) undef:=by
         have hm:j % d.size<d.zero.cells.size:=by rw[j0];exact Nat.mod_lt _ i0
         have J:(ab0 (len*d.size))[j]? =io j:=by simp[t0]
         rw[Y7,abw,J];simp only[Z8,aaw,j0];rw[Y7,getElem!_pos d.zero.cells (j % d.size) hm,Z4 hm];rfl
        rw[h7];exact h6)
       have Y:cs.length=len*d.size:=by
        have:(BP len (c6 d.zero)).length=cs.length:=by
         have:=uE c0;exact this.symm
        rw[<-this,nr,d0]
       have m0:e0.size=len*d.size:=by rw[<-D.1,Y]
       obtain⟨A,G,h2,h8,h9,o0⟩:=B.1.alloc (.cells e0 u) (.row d.size (pr d.size len cs)) e0.size (fun A g1 g2 g3=>
        .inr ⟨i0,e0,u,by rw[g1];exact heap_alloc_new w _,g2.symm,by rw[sy,m0];exact Zc _,fun k e hk=>(pq _ _ _ _ _ Y hk).1,fun k e j p hk hj=>by
         have v0:j<d.size:=by rw[<-(pq _ _ _ _ _ Y hk).1];exact(Zb.1 hj).1
         have:=(pq _ _ _ _ _ Y hk).2 j v0;rw[hj]at this
         exact(D.2 _ _ this.symm).mono (.refl _) g3 (fun i hi=>by omega)⟩)
       refine⟨.slice (io ⟨w.heap.size,0,jp⟩) len len,_,M,A,?_,h9,fh B h9 o0,?_⟩
       .simp only[execOp,ho];have hz:=en (w:=w) (F u d k0);have d1:=bL (w:=w) (F u d k0);have x0: ¬len*d.size=0:=by omega
        have y0: ¬len*d.size>2 ^ 24:=by omega
        simp only[Instr.buildSlice,Sem.run_bind,run_underlying b0.1,Result.andThen_ok,d1,be y0,be x0,hz,Sem.run_pure];rw[h3];simp[newRow]
       .have:=VR.sl (M:=M) (N:=A) (U:=(· <s.nx+1)) s.nx 0 len d.size len (by omega) w0 (Zc _) (by simp only[maxLen];omega) (by rw[h2,m0];simp);rw[G,abb]at this;exact this
      .cases h
     .cases h
    .cases h
   .cases h
  .cases h
 |_=>rw[ho]at h;simp[JN]at h
end
mutual
def PV.dc(σ:Nat->Nat):PV->PV
 | .iv x=> .iv x
 | .agg cs=> .agg (ep σ cs)
 | .bQ cs=> .bQ (ep σ cs)
 | .ptr i off=> .ptr (σ i) off
 | .dH i sz k off=> .dH (σ i) sz k off
 | .fE z i=> .fE z (σ i)
 | .sl i off len sz=> .sl (σ i) off len sz
 | .mp i=> .mp (σ i)
 | .du fn first caps=> .du fn (ep σ first) (ep σ caps)
 | .kb b=> .kb b
 | .any=> .any
def ep(σ:Nat->Nat):List PV->List PV
 | []=> []
 |p::r=>PV.dc σ p::ep σ r
end
theorem cG(σ:Nat->Nat): ∀l:List PV,ep σ l=l.map (PV.dc σ)
 | []=>rfl
 |p::r=>by simp[ep,cG σ r]
def AO.dc(σ:Nat->Nat):AO->AO
 | .cells cs T=> .cells (ep σ cs) T
 | .row sz es=> .row sz (es.map (ep σ))
 | .bS l T=> .bS l T
 | .gP=> .gP
 | .map kc ev z zv dv m=> .map kc ev z zv dv m
 | .cF kc ev m l cu=> .cF kc ev m l cu
 | .eS s p=> .eS s p
theorem AO.cW(σ:Nat->Nat)(o:AO):(o.dc σ).real=o.real:=by
 cases o with
 |row sz es=>cases es<;>rfl
 |bS l T=>cases l<;>rfl
 |_=>rfl
def s8(σ:Nat->Nat):AH->AH
 | []=> []
 |(i,jp)::r=>(σ i,jp)::s8 σ r
 |(i,io o)::r=>(σ i,io (o.dc σ))::s8 σ r
def Nm.comp(N:Nm)(σ:Nat->Nat):Nm:={aL:=fun i=>N.aL (σ i),ext:=fun i=>N.ext (σ i)}
section
variable {M:Mem} {N:Nm} {U:Nat->Prop} {σ:Nat->Nat}
theorem VR.dc{p:PV}{x:Value}(h:VR M (N.comp σ) (fun i=>U (σ i)) p x):VR M N U (p.dc σ) x:=by
 induction h with
 |iv x y h=>exact .iv x y h
 |agg cs ys hl hr ih=>
  refine .agg _ _ (by simpa[cG]using hl) (fun j p d=>?_);rw[cG,Zg,Zi]at d;obtain⟨q,u,rfl⟩:=d;exact ih j q u
 |bQ cs ys hl hr ih=>
  refine .bQ _ _ (by simpa[cG]using hl) (fun j p d=>?_);rw[cG,Zg,Zi]at d;obtain⟨q,u,rfl⟩:=d;exact ih j q u
 |ptr i off h=>exact .ptr _ _ h
 |dH i sz k off h=>exact .dH _ _ _ _ h
 |fE z i h=>exact .fE _ _ h
 |sl i off len sz cap h h0 hl hc he=>exact .sl _ _ _ _ _ h h0 hl hc he
 |pW i sz h=>exact .pW _ _ h
 |sle i sz cap h hc he=>exact .sle _ _ _ h hc he
 |mp i h=>exact .mp _ h
 |du fn first caps f' c' h1 h2 hr1 hr2 ih1 ih2=>
  refine .du _ _ _ _ _ (by simpa[cG]using h1) (by simpa[cG]using h2) (fun j p d=>?_) (fun j p d=>?_)
  .rw[cG,Zg,Zi]at d;obtain⟨q,u,rfl⟩:=d;exact ih1 j q u
  .rw[cG,Zg,Zi]at d;obtain⟨q,u,rfl⟩:=d;exact ih2 j q u
 |kb b=>exact .kb b
 |any x=>exact .any x
theorem VR.xx: ∀{q:PV} {x:Value},VR M N U q x-> ∀{p:PV},q=p.dc σ->VR M (N.comp σ) (fun i=>U (σ i)) p x:=by
 intro q x h
 induction h with
 |iv x y h=>intro p d;cases p<;>simp[PV.dc]at d;subst d;exact .iv _ _ h
 |agg cs ys hl hr ih=>
  intro p d;cases p<;>simp[PV.dc]at d;subst d;refine .agg _ _ (by simpa[cG]using hl) (fun j p u=>ih j (p.dc σ) (by rw[cG,Zg,u];rfl) Z)
 |bQ cs ys hl hr ih=>
  intro p d;cases p<;>simp[PV.dc]at d;subst d;refine .bQ _ _ (by simpa[cG]using hl) (fun j p u=>ih j (p.dc σ) (by rw[cG,Zg,u];rfl) Z)
 |ptr i off h=>intro p d;cases p<;>simp[PV.dc]at d;obtain⟨rfl,rfl⟩:=d;exact VR.ptr (N:=N.comp σ) (U:=fun i=>U (σ i)) _ _ h
 |dH i sz k off h=>intro p d;cases p<;>simp[PV.dc]at d;obtain⟨rfl,rfl,rfl,rfl⟩:=d;exact VR.dH (N:=N.comp σ) (U:=fun i=>U (σ i)) _ _ _ _ h
 |fE z i h=>intro p d;cases p<;>simp[PV.dc]at d;obtain⟨rfl,rfl⟩:=d;exact VR.fE (N:=N.comp σ) (U:=fun i=>U (σ i)) _ _ h
 |sl i off len sz cap h h0 hl hc he=>intro p d;cases p<;>simp[PV.dc]at d;obtain⟨rfl,rfl,rfl,rfl⟩:=d;exact VR.sl (N:=N.comp σ) (U:=fun i=>U (σ i)) _ _ _ _ _ h h0 hl hc he
 |pW i sz h=>intro p d;cases p<;>simp[PV.dc]at d;obtain⟨rfl,rfl,rfl,rfl⟩:=d;exact VR.pW (N:=N.comp σ) (U:=fun i=>U (σ i)) _ _ h
 |sle i sz cap h hc he=>intro p d;cases p<;>simp[PV.dc]at d;obtain⟨rfl,rfl,rfl,rfl⟩:=d;exact VR.sle (N:=N.comp σ) (U:=fun i=>U (σ i)) _ _ _ h hc he
 |mp i h=>intro p d;cases p<;>simp[PV.dc]at d;subst d;exact VR.mp (N:=N.comp σ) (U:=fun i=>U (σ i)) _ h
 |du fn first caps f' c' h1 h2 hr1 hr2 ih1 ih2=>
  intro p d;cases p<;>simp[PV.dc]at d;obtain⟨rfl,rfl,rfl⟩:=d;refine .du _ _ _ _ _ (by simpa[cG]using h1) (by simpa[cG]using h2) (fun j p u=>ih1 j (p.dc σ) (by rw[cG,Zg,u];rfl) Z) (fun j p u=>ih2 j (p.dc σ) (by rw[cG,Zg,u];rfl) Z)
 |kb b=>intro p d;cases p<;>simp[PV.dc]at d;subst d;exact .kb _
 |any x=>intro p d;cases p<;>simp[PV.dc]at d;exact .any _
theorem OR.dc{w:World}{i:Nat}{o:AO}(h:OR M (N.comp σ) (fun i=>U (σ i)) w i o):OR M N U w (σ i) (o.dc σ):=by
 cases o with
 |cells cs T0=>
  obtain⟨c,T,y,A,B,D,F⟩:=h;refine⟨c,T,y,A,by simpa[cG]using B,fun j p u=>?_,F⟩;rw[cG,Zg,Zi]at u;obtain⟨q,G,rfl⟩:=u;exact(D j q G).dc
 |row sz es=>
  rcases h with rfl|⟨h0,c,T,y,A,B,D,F⟩
  .exact .inl Z
  refine .inr ⟨h0,c,T,y,A,by simpa using B,fun k e d=>?_,fun k e j p d u=>?_⟩
  .rw[Zg,Zi]at d;obtain⟨x,b,rfl⟩:=d;rw[cG,ZE];exact D k x b
  .rw[Zg,Zi]at d;obtain⟨x,b,rfl⟩:=d;rw[cG,Zg,Zi]at u;obtain⟨q,G,rfl⟩:=u;exact(F k x j q b G).dc
 |bS l T=>exact h
 |gP=>exact h
 |map kc ev z zv dv m=>exact h
 |cF kc ev m l cu=>exact h
 |eS s p=>exact h
theorem OR.xx{w:World}{i:Nat}{o:AO}(h:OR M N U w (σ i) (o.dc σ)):OR M (N.comp σ) (fun i=>U (σ i)) w i o:=by
 cases o with
 |cells cs T0=>
  obtain⟨c,T,b,d,u,x,y⟩:=h;exact⟨c,T,b,d,by simpa[cG]using u,fun j p B=>(x j (p.dc σ) (by rw[cG,Zg,B];rfl)).xx Z,y⟩
 |row sz es=>
  rcases h with h|⟨D,c,T,b,d,u,x,y⟩
  .exact .inl (by simpa using h)
  refine .inr ⟨D,c,T,b,d,by simpa using u,fun k e A=>?_,fun k e j p A B=>?_⟩
  .have:=x k (ep σ e) (by rw[Zg,A];rfl);simpa[cG]using this
  .exact(y k (ep σ e) j (p.dc σ) (by rw[Zg,A];rfl) (by rw[cG,Zg,B];rfl)).xx Z
 |bS l T=>exact h
 |gP=>exact h
 |map kc ev z zv dv m=>exact h
 |cF kc ev m l cu=>exact h
 |eS s p=>exact h
end
def sig(L:List Nat)(n:Nat)(i:Nat):Nat:=bif Zs i L.length then L.getD i 0 else n+(i-L.length)
theorem lu{L:List Nat}{n i:Nat}(h:i<L.length):sig L n i=L[i]:=by
 have:Zs i L.length=kw:=ZO h;simp[sig,this,h]
theorem sV{L:List Nat}{n i:Nat}(h:L.length<=i):sig L n i=n+(i-L.length):=by
 have:Zs i L.length=lc:=by
  cases hb:Zs i L.length with
  |false=>rfl
  |true=>have:=Y5 hb;omega
 simp[sig,this]
theorem xU{σ:Nat->Nat}: ∀(h:AH) (j:Nat) (o:AO),(s8 σ h).get j=io o->(∀i k,i∈h.map ZB->σ i=σ k->i=k)-> ∃i p,j=σ i∧h.get i=io p∧o=p.dc σ
 | [],j,o,hj,_=>by simp[s8,AH.get]at hj
 |(i,jp)::r,j,o,hj,hi=>by
  simp only[s8]at hj;rw[AH.ax]at hj;split at hj
  .cases hj
  .rename_i d;obtain⟨k,p,u,x,y⟩:=xU r j o hj (fun a b A=>hi a b (Zn _ A));refine⟨k,p,u,?_,y⟩;rw[AH.ax,be (fun e=>d (by rw[u,e]))];exact x
 |(i,io q)::r,j,o,hj,hi=>by
  simp only[s8]at hj;rw[AH.ax]at hj;split at hj
  .rename_i B;exact⟨i,q,B,by rw[AH.ax,am Z],by simpa using hj.symm⟩
  .rename_i d;obtain⟨k,p,u,x,y⟩:=xU r j o hj (fun a b A=>hi a b (Zn _ A));refine⟨k,p,u,?_,y⟩;rw[AH.ax,be (fun e=>d (by rw[u,e]))];exact x
def fA:Nat->List AO->AH
 |_,[]=> []
 |n,o::r=>(n,io o)::fA (n+1) r
theorem vE: ∀(os:List AO) (n i:Nat),(fA n os).get i=if n<=i then os[i-n]? else jp
 | [],n,i=>by simp[fA,AH.get]
 |o::r,n,i=>by
  simp only[fA];rw[AH.ax,vE r (n+1) i];by_cases h:i=n
  .subst h;simp
  .by_cases b:n<=i
   .rw[be h,am (by omega),am b,show i-n=(i-(n+1))+1 by omega];simp
   .rw[be h,be (by omega),be b]
def oN(P:Program)(k:FuncId):Prop:= ∀(args:Array Value) (w:World),(callFunc k args).run P w= .ok (.enter k args) w
theorem bF {P:Program} {k:FuncId} {fn:Func} {c:Code} (hf:P.funcs[k]? =io fn) (hb:fn.body=io c) (hn:(fn.name== "runtime.NumGoroutine")=lc):oN P k:=by
 intro args w;have b: ¬fn.name= "runtime.NumGoroutine" :=by simpa using hn
 simp[callFunc,program,Sem.run,hf,hb,b]
def Fn(P:Program)(k:FuncId)(args:List PV)(os:List AO)(R:PV->AH->Nat->Prop):Prop:=
 oN P k∧ ∀M N w (vs:List Value),Rel M N (· <os.length) (fA 0 os) w->args.length=vs.length->(∀(j:Nat) (p:PV),args[j]? =io p->VR M N (· <os.length) p (vs.getD j undef))->
  Calls P k vs.toArray w fun e A=> ∃x d u r y b,e= .returned x∧R r y b∧Ext M N (· <os.length) (fA 0 os) w d u (· <b) y A∧Rel d u (· <b) y A∧VR d u (· <b) r x
def EL:List Nat->AH
 | []=> []
 |j::r=>(j,jp)::EL r
def AH.keys:AH->List Nat
 | []=> []
 |(i,_)::r=>i::AH.keys r
theorem AH.get_append: ∀(a b:AH) (j:Nat),AH.get (a++b) j=if j∈a.keys then a.get j else b.get j
 | [],b,j=>by simp[AH.keys]
 |(i,o)::r,b,j=>by
  rw[aaJ,AH.ax,AH.ax,AH.get_append r b j];by_cases h:j=i
  .simp[h,AH.keys]
  .simp[h,AH.keys]
theorem Ba: ∀L:List Nat,(EL L).keys=L
 | []=>rfl
 |j::r=>by simp[EL,AH.keys,Ba r]
theorem EK: ∀(L:List Nat) (j:Nat),(EL L).get j=jp
 | [],_=>rfl
 |i::r,j=>by rw[EL,AH.ax,EK r j];split<;>rfl
theorem GN{L:List Nat}{n:Nat}(hnd:L.Nodup)(d: ∀j∈L,j<n): ∀i k,sig L n i=sig L n k->i=k:=by
 intro i k h;rcases aag i L.length with hi|hi<;>rcases aag k L.length with hk|hk
 .rw[lu hi,lu hk]at h;have u:=abI.1 hnd;rcases Nat.lt_trichotomy i k with b|he|hgt
  .exact absurd h (u i k hi hk b)
  .exact he
  .exact absurd h.symm (u k i hk hi hgt)
 .rw[lu hi,sV hk]at h;have:=d _ (ZQ hi);omega
 .rw[sV hi,lu hk]at h;have:=d _ (ZQ hk);omega
 .rw[sV hi,sV hk]at h;omega
section
variable {P:Program} {nt:Nat} {s:AS}
def aO(s:AS)(L:List Nat)(b:AH)(d:Nat):AS:={f:=s.f,h:=s8 (sig L s.nx) b++(EL L++s.h),nx:=s.nx+(d-L.length)}
theorem Fn.calls{k:FuncId}{args:List PV}{os:List AO}{R:PV->AH->Nat->Prop}(hc:Fn P k args os R){L:List Nat}(hnd:L.Nodup)(hL: ∀j∈L,j<s.nx)
  (i0:L.map s.h.get=os.map fun o=>io (o.dc (sig L s.nx))) {M:Mem} {N:Nm} {w:World} (hr:Rel M N (· <s.nx) s.h w) {vs:List Value} (hl:args.length=vs.length)
  (hv: ∀(j:Nat) (p:PV),args[j]? =io p->VR M N (· <s.nx) (p.dc (sig L s.nx)) (vs.getD j undef)):
  Calls P k vs.toArray w fun e w'=> ∃x M' N' r h' S,e= .returned x∧R r h' S∧Ext M N (· <s.nx) s.h w M' N' (· <(aO s L h' S).nx) (aO s L h' S).h w'∧
   Rel M' N' (· <(aO s L h' S).nx) (aO s L h' S).h w'∧VR M' N' (· <(aO s L h' S).nx) (r.dc (sig L s.nx)) x:=by
 have b0:L.length=os.length:=by simpa using congrArg abB i0
 have hU:(fun i=>sig L s.nx i<s.nx)=(· <os.length):=by
  funext i
  apply propext;rcases aag i L.length with hi|hi
  .rw[lu hi];exact⟨fun _=>by omega,fun _=>hL _ (ZQ hi)⟩
  .rw[sV hi];omega
 have e0: ∀i (hi:i<L.length),s.h.get L[i]=(os[i]?).map (AO.dc (sig L s.nx)):=by
  intro i hi;have:=congrArg (fun l=>l[i]?) i0;simp only[Zg,Za hi,Z8]at this;have G:os[i]? =io (os[i]'(by omega)):=Za (by omega);rw[G]at this ⊢;simpa using this
 have y: ∀i o,(fA 0 os).get i=io o->i<L.length∧s.h.get (sig L s.nx i)=io (o.dc (sig L s.nx)):=by
  intro i o hi;rw[vE,am (Zf _),acd]at hi;have c0:i<L.length:=by rw[b0];exact(Zb.1 hi).1
  refine⟨c0,?_⟩;rw[lu c0,e0 i c0,hi];rfl
 have g0:Rel M (N.comp (sig L s.nx)) (· <os.length) (fA 0 os) w:=by
  refine⟨hr.eW,fun i o hi=>by rw[<-b0];exact(y i o hi).1,fun i o hi d=>hr.fo _ _ (y i o hi).2 ((AO.cW _ o).trans d),fun i o hi=>?_,fun i j o p hi A G Y B=>?_⟩
  .have:=OR.xx (hr.obj _ _ (y i o hi).2);rw[hU]at this;exact this
  .exact GN hnd hL i j (hr.inj _ _ _ _ (y i o hi).2 (y j p A).2 ((AO.cW _ o).trans G) ((AO.cW _ p).trans Y) B)
 refine(hc.2 M (N.comp (sig L s.nx)) w vs g0 hl (fun j p Y=>by have:=(hv j p Y).xx Z;rw[hU]at this;exact this)).mono ?_;rintro e w' ⟨x,M',N',r,h',S,rfl,hR,hx,hr',hvr⟩;have k0:os.length<=S:=aba fun c0=>by have:=hx.ule S c0;omega
 let N2:Nm:={aL:=fun j=>if j<s.nx then N.aL j else N'.aL (L.length+(j-s.nx)),ext:=fun j=>if j<s.nx then N.ext j else N'.ext (L.length+(j-s.nx))}
 have I:N.agree N2 (· <s.nx):=⟨fun i hi=>by simp[N2,hi],fun i hi=>by simp[N2,hi]⟩
 have J: ∀i,N2.aL (sig L s.nx i)=N'.aL i∧N2.ext (sig L s.nx i)=N'.ext i:=by
  intro i;rcases aag i L.length with hi|hi
  .have h1:sig L s.nx i<s.nx:=by rw[lu hi];exact hL _ (ZQ hi)
   have u:=hx.nm.aL i (by omega);have F:=hx.nm.ext i (by omega);simp only[Nm.comp]at u F;simp[N2,h1,u,F]
  .rw[sV hi];have h1: ¬s.nx+(i-L.length)<s.nx:=by omega
   have u:L.length+(s.nx+(i-L.length)-s.nx)=i:=by omega
   constructor<;>simp only[N2,be h1,u]
 have a0:N'.agree (N2.comp (sig L s.nx)) (· <S):=⟨fun i _=>(J i).1,fun i _=>(J i).2⟩
 have d0: ∀i,i<S->sig L s.nx i<s.nx+(S-L.length):=by
  intro i hi;rcases aag i L.length with h1|h1
  .rw[lu h1];have:=hL _ (ZQ h1);omega
  .rw[sV h1];omega
 have D: ∀j o,(aO s L h' S).h.get j=io o->(∃i p,j=sig L s.nx i∧h'.get i=io p∧o=p.dc (sig L s.nx))∨(j∉L∧s.h.get j=io o):=by
  intro j o A;simp only[aO]at A;rw[AH.get_append]at A;split at A
  .exact .inl (xU h' j o A (fun i k _ h=>GN hnd hL i k h))
  .rw[AH.get_append]at A;split at A
   .rw[EK]at A;cases A
   .rename_i hd;rw[Ba]at hd;exact .inr ⟨hd,A⟩
 have f0: ∀j o,j∉L->s.h.get j=io o->o.real=kw->w'.heap[N.aL j]? =w.heap[N.aL j]? :=by
  intro j o A G d;refine hx.iT _ (hr.lt G d) (fun i p hi Y he=>?_);obtain⟨h1,u⟩:=y i p hi;have:=hr.inj _ _ _ _ u G ((AO.cW _ p).trans Y) d he;rw[lu h1]at this;exact A (this▸ZQ h1)
 refine⟨x,M',N2,r,h',S,rfl,hR,?_,?_,?_⟩
 .refine⟨hx.os,hx.tape,hx.output,hx.size,fun b hb j0=>hx.iT b hb (fun i o hi G he=>j0 _ _ (y i o hi).2 ((AO.cW _ o).trans G) he),hx.sb,fun b c h1 u=>?_,I,fun i hi=>by simp only[aO];omega,fun j o A d=>?_⟩
  .rcases hx.kr b c h1 u with F|⟨i,o,F,G,h4⟩
   .exact .inl F
   .exact .inr ⟨_,_,(y i o F).2,(AO.cW _ o).trans G,h4⟩
  .rcases D j o A with⟨i,p,rfl,h1,rfl⟩|⟨h1,u⟩
   .rw[AO.cW]at d;rw[(J i).1];rcases hx.jt i p h1 d with F|⟨k,q,F,hq,h4⟩
    .exact .inl F
    .exact .inr ⟨_,_,(y k q F).2,(AO.cW _ q).trans hq,h4⟩
   .exact .inr ⟨j,o,u,d,(I.aL j (hr.used j o u)).symm⟩
 .refine⟨hr'.eW,fun j o A=>?_,fun j o A d=>?_,fun j o A=>?_,fun i j o p hi A G Y B=>?_⟩
  .rcases D j o A with⟨i,p,rfl,h1,rfl⟩|⟨h1,u⟩
   .exact d0 i (hr'.used i p h1)
   .have:=hr.used j o u;simp only[aO];omega
  .rcases D j o A with⟨i,p,rfl,h1,rfl⟩|⟨h1,u⟩
   .rw[AO.cW]at d;rw[(J i).1];exact hr'.fo i p h1 d
   .rw[I.aL j (hr.used j o u)];cases hm:M' (N.aL j) with
    |none=>rfl
    |some c=>
     rcases hx.kr _ c (hr.fo j o u d) hm with F|⟨i,q,F,hq,h4⟩
     .have:=hr.lt u d;omega
     .obtain⟨h5,h6⟩:=y i q F;have:=hr.inj _ _ _ _ h6 u ((AO.cW _ q).trans hq) d h4;rw[lu h5]at this;exact absurd (this▸ZQ h5) h1
  .rcases D j o A with⟨i,p,rfl,h1,rfl⟩|⟨h1,u⟩
   .refine OR.dc ?_;exact(hr'.obj i p h1).mono (.refl _) a0 (fun i hi=>d0 i hi) (hr'.used i p h1) Z
   .cases d:o.real with
    |true=>exact(hr.obj j o u).mono hx.sb I (fun i hi=>by simp only[aO];omega) (hr.used j o u) (f0 j o h1 u d)
    |false=>
     cases o with
     |row sz es=>cases es with
      |nil=>exact .inl Z
      |cons=>cases d
     |bS l T=>cases l with
      |nil=>exact .inl Z
      |cons=>cases d
     |_=>cases d
  .rcases D i o hi with⟨i',o',rfl,h1,rfl⟩|⟨h1,u⟩<;>rcases D j p A with⟨j',p',rfl,F,rfl⟩|⟨F,h4⟩
   .rw[AO.cW]at G Y;rw[(J i').1,(J j').1]at B;rw[hr'.inj i' j' o' p' h1 F G Y B]
   .rw[AO.cW]at G;rw[(J i').1,I.aL j (hr.used j p h4)]at B;rcases hx.jt i' o' h1 G with h5|⟨k,q,h5,hq,h6⟩
    .have:=hr.lt h4 Y;omega
    .obtain⟨h7,h8⟩:=y k q h5;have:=hr.inj _ _ _ _ h8 h4 ((AO.cW _ q).trans hq) Y (h6.trans B);rw[lu h7]at this;exact absurd (this▸ZQ h7) F
   .rw[AO.cW]at Y;rw[I.aL i (hr.used i o u),(J j').1]at B;rcases hx.jt j' p' F Y with h5|⟨k,q,h5,hq,h6⟩
    .have:=hr.lt u G;omega
    .obtain⟨h7,h8⟩:=y k q h5;have:=hr.inj _ _ _ _ h8 u ((AO.cW _ q).trans hq) G (h6.trans B.symm);rw[lu h7]at this;exact absurd (this▸ZQ h7) h1
   .rw[I.aL i (hr.used i o u),I.aL j (hr.used j p h4)]at B;exact hr.inj _ _ _ _ u h4 G Y B
 .exact VR.dc (hvr.mono (.refl _) a0 (fun i hi=>d0 i hi))
def PV.plain:PV->PV
 | .kb b=> .iv (.v (.bool b))
 |p=>p
theorem VR.plain{M:Mem}{N:Nm}{U:Nat->Prop}{p:PV}{x:Value}(h:VR M N U p x):VR M N U p.plain x:=by
 cases h with
 |kb=>exact .iv _ _ (.v _)
 |iv _ _ h1=>exact .iv _ _ h1
 |agg _ _ h1 h2=>exact .agg _ _ h1 h2
 |bQ _ _ h1 h2=>exact .bQ _ _ h1 h2
 |ptr _ _ h1=>exact .ptr _ _ h1
 |dH _ _ _ _ h1=>exact .dH _ _ _ _ h1
 |fE _ _ h1=>exact .fE _ _ h1
 |sl _ _ _ _ _ h1 h2 h3 h4 h5=>exact .sl _ _ _ _ _ h1 h2 h3 h4 h5
 |pW _ _ h1=>exact .pW _ _ h1
 |sle _ _ _ h1 h2 h3=>exact .sle _ _ _ h1 h2 h3
 |mp _ h1=>exact .mp _ h1
 |du _ _ _ _ _ h1 h2 h3 h4=>exact .du _ _ _ _ _ h1 h2 h3 h4
 |any=>exact .any _
def bY(f:AF)(c:Call):Option (FuncId×List PV):=
 match c.callee with
 | .value g=>match ev f g with
  | .du (.func k) first caps=>io (k,first++(c.args.toList.map (fun x=>(ev f x).plain)++caps))
  |_=>jp
 |_=>jp
theorem EJ{M:Mem}{N:Nm}{a:Act}{w:World}(hf:Fits M N s nt a w){o:Oper}{c:Call}(ho:o.op= .call c){k:FuncId}{asv:List PV}(ha:bY s.f c=io (k,asv))(hc:oN P k):
  ∃F:List Value,(execOp a.eval o).run P w= .ok (.enter k F.toArray) w∧asv.length=F.length∧ ∀(j:Nat) (p:PV),asv[j]? =io p->VR M N (· <s.nx) p (F.getD j undef):=by
 unfold bY at ha;obtain⟨callee,b,y⟩:=c;cases callee with
 |value g=>
  simp only at ha;have A:=a7 hf.2.1 g;split at ha
  .rename_i Y first caps hev;simp only[Y9,Zl]at ha;obtain⟨rfl,rfl⟩:=ha;rw[hev]at A;generalize J:a.eval g=v at A;cases A with
   |du _ _ _ f' c' h1 h2 hr1 hr2=>
    have G:(b.toList.map (fun x=>(ev s.f x).plain)).length=(b.map a.eval).size∧ ∀j p,(b.toList.map (fun x=>(ev s.f x).plain))[j]? =io p->VR M N (· <s.nx) p ((b.map a.eval).getD j undef):=by
     refine⟨by simp,fun j p d=>?_⟩;rw[Zg,Zi]at d;obtain⟨x,S,rfl⟩:=d;have D:b[j]? =io x:=by simpa using S
     rw[Y7,abw,D];exact(a7 hf.2.1 x).plain
    have u:(execOp a.eval o).run P w= .ok (.enter Y (f'++b.map a.eval++c')) w:=by
     simp only[execOp,ho,resolve,J,Deferred.ofValue,pure_bind,invoke];exact hc _ w
    have B: ∀(j:Nat) (p:PV),(first++(b.toList.map (fun x=>(ev s.f x).plain)++caps))[j]? =io p->VR M N (· <s.nx) p ((f'++b.map a.eval++c').toList.getD j undef):=by
     intro j p d;have I:(b.toList.map (fun x=>(ev s.f x).plain)).length=(b.map a.eval).size:=G.1;rw[Y6,abO,abO,Zj];rcases aag j first.length with hj|hj
     .rw[Zp hj]at d;rw[Zp (by simpa[<-h1]using hj)];have:=hr1 j p d;rw[Y7]at this;simpa using this
     .rw[Zv hj]at d;rw[Zv (by simpa[<-h1]using hj)];rcases aag (j-first.length) (b.toList.map (fun x=>(ev s.f x).plain)).length with hj2|hj2
      .rw[Zp hj2]at d;rw[Zp (by simp[<-h1]at hj2 ⊢;omega)];have:=G.2 _ p d;rw[Y7]at this;simpa[<-h1]using this
      .rw[Zv hj2]at d;rw[Zv (by simp[<-h1]at hj2 ⊢;omega)];have:=hr2 _ p d;rw[Y7]at this;simpa[<-h1]using this
    refine⟨(f'++b.map a.eval++c').toList,by rw[aaF];exact u,?_,B⟩;simp[<-h1,<-h2]
  .cases ha
 |_=>simp at ha
theorem nE{o:Oper}{c:Call}(ho:o.op= .call c){k:FuncId}{asv:List PV}(ha:bY s.f c=io (k,asv)){args:List PV}{os:List AO}{R:PV->AH->Nat->Prop}(hc:Fn P k args os R)
  {L:List Nat} (hnd:L.Nodup) (hL: ∀j∈L,j<s.nx) (c0:L.map s.h.get=os.map fun o=>io (o.dc (sig L s.nx))) (y:asv=ep (sig L s.nx) args) {S:AS->Prop}
  (hS: ∀r D F,R r D F-> ∃s',putDst nt o (r.dc (sig L s.nx)) (aO s L D F)=io s'∧S s'):OT P nt o s S:=by
 intro M N a w G K Z hk;unfold bY at ha;obtain⟨callee,b,a0⟩:=c;cases callee with
 |value g=>
  simp only at ha;have hg:=a7 G.2.1 g;split at ha
  .rename_i k' first caps hev;simp only[Y9,Zl]at ha;obtain⟨rfl,rfl⟩:=ha;rw[hev]at hg;generalize hv:a.eval g=v at hg;cases hg with
   |du _ _ _ f' c' B h2 hr1 hr2=>
    have hm:(b.toList.map (fun x=>(ev s.f x).plain)).length=(b.map a.eval).size∧ ∀j p,(b.toList.map (fun x=>(ev s.f x).plain))[j]? =io p->VR M N (· <s.nx) p ((b.map a.eval).getD j undef):=by
     refine⟨by simp,fun j p u=>?_⟩;rw[Zg,Zi]at u;obtain⟨x,hx,rfl⟩:=u;have e0:b[j]? =io x:=by simpa using hx
     rw[Y7,abw,e0];exact(a7 G.2.1 x).plain
    have Y:(execOp a.eval o).run P w= .ok (.enter k' (f'++b.map a.eval++c')) w:=by
     simp only[execOp,ho,resolve,hv,Deferred.ofValue,pure_bind,invoke];exact hc.1 _ w
    unfold Oper.wp;rw[Y];simp only[Oper.upon];have d0: ∀(j:Nat) (p:PV),(first++(b.toList.map (fun x=>(ev s.f x).plain)++caps))[j]? =io p->VR M N (· <s.nx) p ((f'++b.map a.eval++c').toList.getD j undef):=by
     intro j p u;have f0:(b.toList.map (fun x=>(ev s.f x).plain)).length=(b.map a.eval).size:=hm.1;rw[Y6,abO,abO,Zj];rcases aag j first.length with hj|hj
     .rw[Zp hj]at u;rw[Zp (by simpa[<-B]using hj)];have:=hr1 j p u;rw[Y7]at this;simpa using this
     .rw[Zv hj]at u;rw[Zv (by simpa[<-B]using hj)];rcases aag (j-first.length) (b.toList.map (fun x=>(ev s.f x).plain)).length with hj2|hj2
      .rw[Zp hj2]at u;rw[Zp (by simp[<-B]at hj2 ⊢;omega)];have:=hm.2 _ p u;rw[Y7]at this;simpa[<-B]using this
      .rw[Zv hj2]at u;rw[Zv (by simp[<-B]at hj2 ⊢;omega)];have:=hr2 _ p u;rw[Y7]at this;simpa[<-B]using this
    have J:args.length=(f'++b.map a.eval++c').toList.length:=by
     have:=congrArg abB y;simp[cG]at this;simp[<-B,<-h2];omega
    have A:=hc.calls hnd hL c0 G.1 J (fun j p u=>by
     refine d0 j (p.dc (sig L s.nx)) ?_
     rw[y,cG,Zg,u];rfl)
    rw[aaF]at A;refine A.mono ?_;rintro e w' ⟨x,M',N',r,D,F,rfl,hR,hx,hr,hvr⟩;obtain⟨s',u,b0⟩:=hS r D F hR;have I:Fits M' N' (aO s L D F) nt a w':=⟨hr,G.2.1.ext hx,G.2.2⟩
    show K (a.put o.dst x) w';cases hd:o.dst with
    |none=>
     have:=fM u hd;subst this;exact hk M' N' _ _ w' hx I b0
    |some d=>
     obtain⟨B,rfl⟩:=fL u hd;exact hk M' N' {aO s L D F with f:=(d,r.dc (sig L s.nx))::(aO s L D F).f} _ w' hx (I.put d _ x B hvr) b0
  .cases ha
 |_=>simp at ha
def q6:Nat->List PV->AF
 |_,[]=> []
 |n,p::r=>(n,p)::q6 (n+1) r
theorem y6: ∀(l:List PV) (n i:Nat),(q6 n l).get i=if n<=i then l.getD (i-n) .any else .any
 | [],n,i=>by simp[q6,AF.get]
 |p::r,n,i=>by
  simp only[q6];rw[AF.ax,y6 r (n+1) i];by_cases h:i=n
  .subst h;simp
  .by_cases b:n<=i
   .rw[be h,am (by omega),am b,show i-n=(i-(n+1))+1 by omega];simp
   .rw[be h,be (by omega),be b]
def BO(ty:Ty)(s:AS):ResultVar->Option PV
 | .tmp t=>match s.f.get t with
  | .kb b=>io (.iv (.v (.bool b)))
  |p=>io p
 | .cell a t=>match ty t with
  |some e=>match behind s.h (s.f.get a) with
   |some cs=>jr e cs
   |none=>jp
  |none=>jp
def ve(ty:Ty)(s:AS):List ResultVar->Option (List PV)
 | []=>io []
 |v::r=>match BO ty s v with
  |some p=>match ve ty s r with
   |some l=>io (p::l)
   |none=>jp
  |none=>jp
def ly(ty:Ty)(s:AS)(l:List ResultVar):Option PV:=
 match ve ty s l with
 |some [p]=>io p
 |some l=>io (.bQ l)
 |none=>jp
def sZ(tmps:Array Value):ResultVar->Sem Value
 | .tmp t=>pure (tmps.getD t undef)
 | .cell a t=>do loadVar t (<-asAddr (tmps.getD a undef))
theorem II{ty:Ty}(u:cD P ty){M:Mem}{N:Nm}{a:Act}{w:World}(hf:Fits M N s nt a w){v:ResultVar}{p:PV}(h:BO ty s v=io p):
  ∃x,(sZ a.tmps v).run P w= .ok x w∧VR M N (· <s.nx) p x:=by
 cases v with
 |tmp t=>
  simp only[BO]at h;have:=hf.2.1 t;split at h
  .rename_i b hb;simp only[Y9]at h;subst h;rw[hb]at this;refine⟨_,rfl,?_⟩;show VR M N _ _ (a.tmps.getD t undef);generalize a.tmps.getD t undef=v at this;cases this;exact .iv _ _ (.v _)
  .simp only[Y9]at h;subst h;exact⟨_,rfl,this⟩
 |cell b t=>
  simp only[BO]at h;split at h
  .rename_i e A;split at h
   .rename_i I j;obtain⟨G,a0,D,d⟩:=Bh hf.1 (hf.2.1 b) j;obtain⟨y,F,B⟩:=vU (P:=P) (u t e A) d h;refine⟨y,?_,B⟩;simp only[sZ,D,asAddr,pure_bind];exact F
   .cases h
  .cases h
theorem Ak{ty:Ty}(d:cD P ty){M:Mem}{N:Nm}{a:Act}{w:World}(hf:Fits M N s nt a w): ∀{l:List ResultVar} {u:List PV},ve ty s l=io u->
  ∃y:List Value,(l.mapM (sZ a.tmps)).run P w= .ok y w∧u.length=y.length∧ ∀(j:Nat) (p:PV),u[j]? =io p->VR M N (· <s.nx) p (y.getD j undef)
 | [],u,h=>by
  simp only[ve,Y9]at h;subst h;exact⟨[],rfl,rfl,by simp⟩
 |v::r,u,h=>by
  simp only[ve]at h;split at h
  .rename_i p G;split at h
   .rename_i l F;simp only[Y9]at h;subst h;obtain⟨x,J,I⟩:=II d hf G;obtain⟨y,D,b,B⟩:=Ak d hf F;refine⟨x::y,?_,by simp[b],fun j q A=>?_⟩
    .rw[List.mapM_cons,Sem.run_bind,J,Result.andThen_ok,Sem.run_bind,D];rfl
    .cases j with
     |zero=>simp at A;subst A;exact I
     |succ j=>simpa using B j q (by simpa using A)
   .cases h
  .cases h
theorem G4{ty:Ty}(G:cD P ty){M:Mem}{N:Nm}{a:Act}{w:World}(hf:Fits M N s nt a w){fn:Func}{l:List ResultVar}(I:fn.results.toList=l){p:PV}(h:ly ty s l=io p):
  ∃x,(results fn a.tmps).run P w= .ok x w∧VR M N (· <s.nx) p x:=by
 unfold ly at h;have key: ∀B,ve ty s l=io B-> ∃d:List Value,(fn.results.mapM (sZ a.tmps)).run P w= .ok d.toArray w∧B.length=d.length∧ ∀(j:Nat) (p:PV),B[j]? =io p->VR M N (· <s.nx) p (d.getD j undef):=by
  intro B A;obtain⟨d,D,b,F⟩:=Ak G hf A;refine⟨d,?_,b,F⟩;have e:fn.results.mapM (sZ a.tmps)=(List.toArray<$>(fn.results.toList.mapM (sZ a.tmps))):=by
   rw[abZ]
  rw[e,I,Sem.run_map,D];rfl
 have u:results fn a.tmps=(do let vs<-fn.results.mapM (sZ a.tmps);pure (if h:vs.size=1 then vs[0] else .tuple vs)):=by
  unfold results;rfl
 split at h
 .rename_i q S;simp only[Y9]at h;subst h;obtain⟨d,D,b,F⟩:=key _ S
  match d,b with
  | [x],_=>
   refine⟨x,?_,by simpa using F 0 q Z⟩;rw[u,Sem.run_bind,D];rfl
 .rename_i B y A;simp only[Y9]at h;subst h;obtain⟨d,D,b,F⟩:=key _ A;refine⟨.tuple d.toArray,?_,.bQ _ _ (by simpa using b) (fun j p J=>?_)⟩
  .rw[u,Sem.run_bind,D,Result.andThen_ok];have: ¬d.toArray.size=1:=by
    intro e
    match B,y,b with
    | [q],y,_=>exact y q Z
    | [],_,b=>simp at b e;omega
    |_::_::_,_,b=>simp at b e;omega
   rw[dif_neg this];rfl
  .have:=F j p J;rw[Y7];rw[Y6]at this;simpa using this
 .cases h
theorem Gb {ty:Ty} (S:cD P ty) {k:FuncId} {fn:Func} {c:Code} (hf:P.funcs[k]? =io fn) (hb:fn.body=io c) (hn:(fn.name== "runtime.NumGoroutine")=lc) {nt:Nat} (c0:fn.ntmps=nt)
  {l:List ResultVar} (hl:fn.results.toList=l) {args:List PV} (b0:args.length<=nt) {os:List AO} {R:PV->AH->Nat->Prop}
  (h:GO P nt [.code c] (fun e s=>(e= .normal∨e= .ret)∧ ∃r,ly ty s l=io r∧R r s.h s.nx) ⟨q6 0 args,fA 0 os,os.length⟩):Fn P k args os R:=by
 refine⟨bF hf hb hn,fun M N w d hr A hv=>?_⟩;refine calls_of_wp hf hb ?_;have y:Fits M N ⟨q6 0 args,fA 0 os,os.length⟩ nt {tmps:=d.toArray++aaX (fn.ntmps-d.toArray.size) undef,defers:=[]} w:=by
  refine⟨hr,fun i=>?_,rfl,by simp;omega⟩;rw[y6,am (Zf _),acd,Y6];cases hi:args[i]? with
  |none=>exact .any _
  |some p=>
   have G:i<d.length:=by rw[<-A];exact(Zb.1 hi).1
   have:=hv i p hi;have e:(d.toArray++aaX (fn.ntmps-d.toArray.size) undef).getD i undef=d.getD i undef:=by
    rw[Y7,aac (by simpa using G),Y6];simp
   simp only[aaw];rw[e];exact this
 refine AW.then h y fun e a' D j u s' hx b hq=>?_;simp only[kp]at hq;obtain⟨he,r,I,J⟩:=hq;obtain⟨x,Y,a0⟩:=G4 S b hl I
 have:a'.defers=[]∧ ∃v,(results fn a'.tmps).run P D= .ok v D∧(∃x j u r F B,Ending.returned v= .returned x∧R r F B∧Ext M N (· <os.length) (fA 0 os) w j u (· <B) F D∧Rel j u (· <B) F D∧VR j u (· <B) r x):=
  ⟨b.2.2.1,x,Y,x,j,u,r,s'.h,s'.nx,rfl,J,hx,b.1,a0⟩
 rcases he with rfl|rfl<;>exact this
end
theorem I5{ops:Array Oper}{o:Oper}(hs: ∀j b,o.op≠ .select j b){a b:Act}(h: ∀d∈o.looksAt ops,a.tmps[d]? =b.tmps[d]?):
  execOp a.eval o=execOp b.eval o∧Region.wanted o (Go.yielded ops a.tmps)=Region.wanted o (Go.yielded ops b.tmps):=by
 constructor
 .refine execOp_congr o hs fun x u=>?_
  cases x with
  |tmp t=>
   have:=h t (ZJ _ (List.mem_filterMap.2 ⟨.tmp t,by simpa using u,rfl⟩));simp only[Act.eval,Y7,this]
  |_=>rfl
 .unfold Region.wanted;cases hg:o.guard with
  |none=>rfl
  |some gw=>
   obtain⟨g,want⟩:=gw;have y:Go.yielded ops a.tmps g=Go.yielded ops b.tmps g:=by
    unfold Go.yielded;cases ht:(ops[g]?).bind (·.dst) with
    |none=>rfl
    |some t=>
     have:=h t (by simp[Oper.looksAt,hg,ht]);simp[this]
   simp only[y]
theorem nA{all:List Oper}{o x:Oper}(h:looks all o x=lc){d:Nat}(hd:x.dst=io d):d∉o.looksAt all.toArray:=by
 simp only[looks,hd]at h;simpa using h
theorem gW{o:Oper}{i:Nat}(h:waits o i=kw): ∃e∈o.after,Region.binds .any e=kw∧e.on=i:=by
 unfold waits at h;obtain⟨e,b,hb⟩:=ZZ.1 h;simp only[Zw]at hb;exact⟨e,by simpa using b,hb.1,Zt hb.2⟩
theorem k9: ∀(l:List Oper) (n i:Nat) (o:Oper),iw n l=kw->l[i]? =io o-> ∀e∈o.after,Region.binds .any e=kw->e.on<n+i
 | [],n,i,o,_,h=>by simp at h
 |c::l,n,i,o,hd,h=>by
  simp only[iw,Zw,ZA]at hd;cases i with
  |zero=>
   simp at h;subst h;intro e b hb;have:=hd.1 e (by simpa using b);simp only[hb,abA,aan]at this;exact Y5 this
  |succ i=>
   have:=k9 l (n+1) i o hd.2 (by simpa using h);intro e b hb;have:=this e b hb;omega
theorem count_set: ∀(l:List Bool) (i:Nat),l[i]? =io lc->(l.set i kw).count lc+1=l.count lc
 | [],i,h=>by simp at h
 |c::l,0,h=>by simp at h;subst h;simp
 |c::l,i+1,h=>by
  have:=count_set l i (by simpa using h);simp only[List.set_cons_succ,List.count_cons];omega
theorem dt{listed:Array Bool}{i:Nat}(h:listed.getD i kw=lc):(listed.setIfInBounds i kw).toList.count lc+1=listed.toList.count lc:=by
 have b:listed.toList[i]? =io lc:=by
  rw[Y7]at h;cases hc:listed[i]? with
  |none=>simp[hc]at h
  |some c=>simp[hc]at h;subst h;simpa using hc
 have:=count_set _ _ b;rw[Array.toList_setIfInBounds];exact this
theorem oG{listed:Array Bool}{i:Nat}(h:listed.getD i kw=lc):0<listed.toList.count lc:=by have:=dt h;omega
theorem gl{listed:Array Bool}{i k:Nat}(hi:i<listed.size):(listed.setIfInBounds i kw).getD k kw=if k=i then kw else listed.getD k kw:=by
 by_cases b:k=i
 .subst b;simp[Y7,hi]
 .rw[be b,Y7,ZT,be (fun e=>b e.symm),Y7]
theorem fz{listed:Array Bool}{i:Nat}(h:listed.getD i kw=lc):i<listed.size:=by
 rcases aag i listed.size with h'|h'
 .exact h'
 .simp[Y7,abT h']at h
theorem mV{listed:Array Bool}{i:Nat}(h:listed.getD i kw=lc):listed.getD i lc=lc:=by
 have:=fz h;rw[Y7] at*
 simpa[this]using h
theorem my{all:List Oper}{listed:Array Bool}(x:listed.size=all.length)(hd:iw 0 all=kw)(hr:Region.ready .any all.toArray listed=[]): ∀i,listed.getD i kw=kw:=by
 intro i
 induction i using abR with
 |_ i ih=>
  cases hc:listed.getD i kw with
  |true=>rfl
  |false=>
   have y:=fz hc;have d:all[i]? =io (all[i]'(by omega)):=Za (by omega);have:i∈Region.ready .any all.toArray listed:=by
    refine mem_ready.2 ⟨hc,_,(by rw[aar];exact d),fun e j hb=>?_⟩;have u:=k9 all 0 i _ hd d e j hb;have:=ih e.on (by omega);have b:e.on<listed.size:=by omega
    rw[Y7]at this ⊢;simpa[b]using this
   rw[hr]at this;cases this
section
variable {P:Program} {nt:Nat} {all:List Oper} {todo pend:List (Nat×Oper)} {M:Mem} {N:Nm} {s:AS} {listed:Array Bool} {a:Act} {w:World} {Q:AQ}
theorem sD.alloc{B:Bs}{o:Oper}{aL:Nat}(h:sD P M N s B a w o aL):aS o=kw:=by
 obtain⟨t,v,d,b,_⟩:=h;simp[aS,b]
theorem ko.rV(b:ko P nt all){i j:Nat}{o q:Oper}(hi:all[i]? =io o)(hj:all[j]? =io q)(ha:aS o=kw)(hw:waits q i=lc)(hne:j≠i):looks all q o=lc:=by
 rcases((b i o hi ha).2.2.2.2 j q hj hne).1 with h|h
 .rw[hw]at h;cases h
 .exact h
theorem oM.same{b:Act}(hb: ∀d,(∀x∈pend,listed.getD x.1 kw=lc->x.2.dst≠io d)->(∀x∈todo,listed.getD x.1 kw=kw->x.2.dst≠io d)->a.tmps[d]? =b.tmps[d]?)
  (hns:Region.noSelect all.toArray=kw) {i:Nat} {o:Oper} (ho:all[i]? =io o) (hr:i∈Region.ready .any all.toArray listed) (hp: ∀x∈pend,waits o x.1=kw∨looks all o x.2=lc)
  (I: ∀x∈todo,listed.getD x.1 kw=kw->looks all o x.2=lc):
  execOp a.eval o=execOp b.eval o∧Region.wanted o (Go.yielded all.toArray a.tmps)=Region.wanted o (Go.yielded all.toArray b.tmps):=by
 refine I5 (Region.noSelect_spec hns i o · · (by simpa using ho)) fun d hd=>hb d (fun x F A u=>?_) (fun x F A u=>nA (I x F A) u hd);rcases hp x F with h|h
 .obtain⟨e,u,y,D⟩:=gW h;obtain⟨_,J,B,j⟩:=mem_ready.1 hr;have:J=o:=by have:=B.symm.trans (by simpa using ho:all.toArray[i]? =io o);exact Z5 this
  subst this;have G:=j e u y;rw[D,mV A]at G;cases G
 .exact nA h u hd
theorem hZ(a:Act)(a0:Option Tmp)(v:Value)(d:Nat):(a.put a0 v).tmps[d]? =if a0=io d∧d<a.tmps.size then io v else a.tmps[d]? :=by
 cases a0 with
 |none=>simp[Act.put]
 |some e=>
  simp only[Act.put,Y9];rw[ZT];by_cases h:e=d
  .subst h;by_cases b:e<a.tmps.size
   .simp[b]
   .simp[b]
  .simp[h]
theorem kQ(a:Act)(a0:Option Tmp)(v:Value):(a.put a0 v).tmps.size=a.tmps.size:=by cases a0<;>simp[Act.put]
theorem lQ(a:Act)(a0:Option Tmp)(v:Value):(a.put a0 v).defers=a.defers:=by cases a0<;>rfl
theorem An(a:Act)(a0:Option Tmp)(v:Value):(a.put a0 v).put a0 v=a.put a0 v:=by cases a0<;>simp[Act.put]
theorem sD.put{B:Bs}{o:Oper}{aL:Nat}(h:sD P M N s B a w o aL){a0:Option Tmp}{v:Value}(hd: ∀d,o.dst=io d->a0≠io d):sD P M N s B (a.put a0 v) w o aL:=by
 obtain⟨t,u,d,j,x,b,y,A⟩:=h;refine⟨t,u,d,j,x,b,?_,A⟩;rw[hZ,be (fun D=>hd d b D.1)];exact y
theorem oM.take{B:Bs}(hi:oM P nt all todo pend B M N s listed a w)(hns:Region.noSelect all.toArray=kw)(d0:ko P nt all){x:Nat×Oper}(D:x∈pend)(hr:x.1∈Region.ready .any all.toArray listed):
  ∃v,YieldsAt P all.toArray w x.2 v a∧oM P nt all todo pend B M N s (listed.setIfInBounds x.1 kw) (a.put x.2.dst v) w:=by
 obtain⟨b,hb,b0,k0,c0,G⟩:=hi.ap;obtain⟨bl,e0,m0⟩:=hi.er;have hl:=(mem_ready.1 hr).1;obtain⟨v,hv,a0⟩:=G x D hl;have I: ∀y∈todo,listed.getD y.1 kw=kw->looks all x.2 y.2=lc∧ ∀d,y.2.dst=io d->x.2.dst≠io d:=fun y j u=>by
  have J:=(e0 y j u).alloc;exact⟨d0.rV (hi.tl y j) (hi.pl x D) J (hi.pa x D y j J) (fun e=>hi.dj x D y j e.symm),((d0 _ _ (hi.tl y j) J).2.2.2.2 _ _ (hi.pl x D) (fun e=>hi.dj x D y j e.symm)).2⟩
 have A:=oM.same c0 hns (hi.pl x D) hr (fun y G=>hi.pp y G x D) (fun y j u=>(I y j u).1);have Y:=fz hl;have f0: ∀k,(listed.setIfInBounds x.1 kw).getD k kw=lc->k≠x.1∧listed.getD k kw=lc:=by
  intro k hk;rw[gl Y]at hk;split at hk
  .cases hk
  .rename_i h;exact⟨h,hk⟩
 have F: ∀y∈todo,(listed.setIfInBounds x.1 kw).getD y.1 kw=listed.getD y.1 kw:=fun y G=>by rw[gl Y,be (hi.dj x D y G)]
 refine⟨v,hv.of_same A.1 A.2,⟨by simp[hi.size],hi.tl,hi.pl,hi.dj,fun i o ho hu=>hi.JP i o ho (f0 i hu).2,hi.pw,hi.pp,hi.pa,⟨bl,fun y j u=>?_,fun y j z i0 h1 h2=>?_⟩,b,hb,by rw[kQ,b0],by rw[lQ,k0],fun d hd j0=>?_,fun y n0 hu=>?_⟩⟩
 .rw[F y j]at u;exact(e0 y j u).put (I y j u).2
 .rw[F y j]at h1;rw[F z i0]at h2;exact m0 y j z i0 h1 h2
 .rw[hZ];split
  .rename_i h;rw[<-a0,hZ,am ⟨h.1,by rw[<-b0];exact h.2⟩]
  .rename_i h;by_cases S:x.2.dst=io d
   .have h2: ¬d<a.tmps.size:=fun h3=>h ⟨S,h3⟩
    rw[abT (aba h2),abT (by rw[<-b0];exact aba h2)]
   .refine c0 d (fun y G hu he=>?_) (fun y j u=>j0 y j (by rw[F y j];exact u));by_cases g0:y.1=x.1
    .have h3:=hi.pl y G;rw[g0,hi.pl x D]at h3;rw[Z5 h3]at S;exact S he
    .exact hd y G (by rw[gl Y,be g0];exact hu) he
 .exact G y n0 (f0 _ hu).2
theorem Rel.more{M:Mem}{N:Nm}{n:Nat}{h:AH}{w u:World}(hr:Rel M N (· <n) h w)(j: ∀b,b<w.heap.size->u.heap[b]? =w.heap[b]?):Rel M N (· <n) h u:=by
 refine⟨fun b c hb=>?_,hr.used,hr.fo,fun i o d=>?_,hr.inj⟩
 .exact(hr.eW b c hb).mono (j b (hr.eW b c hb).lt)
 .cases hre:o.real with
  |true=>exact(hr.obj i o d).mono (.refl _) (.refl _ _) (fun _ h=>h) (hr.used i o d) (j _ (hr.lt d hre))
  |false=>
   cases o with
   |row sz es=>cases es with
    |nil=>exact .inl Z
    |cons=>cases hre
   |bS l T=>cases l with
    |nil=>exact .inl Z
    |cons=>cases hre
   |_=>cases hre
theorem x8{ops:Array Oper}(h: ∀i,listed.getD i kw=kw):Region.ready .any ops listed=[]:=by
 cases hr:Region.ready .any ops listed with
 |nil=>rfl
 |cons i r=>
  have:i∈Region.ready .any ops listed:=by rw[hr];simp
  have:=(mem_ready.1 this).1;rw[h i]at this;cases this
theorem oM.done{B:Bs}(hi:oM P nt all [] pend B M N s listed a w)(j: ∀i,listed.getD i kw=kw):Fits M N s nt a w:=by
 obtain⟨b,hb,D,u,y,_⟩:=hi.ap;have A:a.tmps=b.tmps:=Array.ext_getElem? fun d=>y d (fun x _ hu=>by rw[j]at hu;cases hu) (fun _ F=>(nomatch F));have:a=b:=by cases a;cases b;simp only at A u;subst A;subst u;rfl
 rw[this];exact hb
theorem UO(h:Q .normal s):DL P nt all [] pend Q s:=by
 intro A hd x B M N listed a w b hB
 induction b generalizing listed a with
 |zero=>
  intro j J;have d: ∀i,listed.getD i kw=kw:=fun i=>by
   cases hx:listed.getD i kw with
   |true=>rfl
   |false=>have:=oG hx;omega
  exact⟨x8 d,M,N,s,hB,j.done d,h⟩
 |succ b ih=>
  intro j J;refine⟨fun S=>⟨M,N,s,hB,j.done (my j.size hd S),h⟩,fun i u=>?_⟩;obtain⟨hu,o,G,_⟩:=mem_ready.1 u;have D:all[i]? =io o:=by simpa using G
  rcases j.JP i o D hu with hm|hm
  .cases hm
  .obtain⟨v,Y,y⟩:=j.take A x hm u;refine wpOp_of_stOp (K:=fun F=>F=a.put o.dst v) (fun F I=>?_) (Y.stOp G Z);subst I;exact ih _ _ y (by have:=dt hu;omega)
def ze(all:List Oper)(pend:List (Nat×Oper))(o:Oper):Bool:=
 !looks all o o&&pend.all fun y=>!looks all y.2 o&&(waits o y.1||!looks all o y.2)&&(match o.dst,y.2.dst with|some d,io e=>!Zz d e|_,_=>kw)
theorem oM.read{B:Bs}(hi:oM P nt all todo pend B M N s listed a w)(hns:Region.noSelect all.toArray=kw){i:Nat}{o:Oper}{s':AS}(hin:(i,o)∈todo)(k0:aS o=lc)(p0: ∀x∈todo,waits o x.1=lc)(j:ze all pend o=kw)(he:s'.h=s.h∧s'.nx=s.nx)
  (hy: ∀M N b w,Fits M N s nt b w-> ∃v,YieldsAt P all.toArray w o v b∧Fits M N s' nt (b.put o.dst v) w):oM P nt all (todo.filter fun x=>!Zz x.1 i) ((i,o)::pend) B M N s' listed a w:=by
 have G: ∀x∈todo.filter fun x=>!Zz x.1 i,x∈todo∧x.1≠i:=fun x hx=>by
  obtain⟨h7,h8⟩:=ZM.1 hx;exact⟨h7,fun e=>by simp[e]at h8⟩
 have h1: ∀x∈todo,x=(i,o)∨x∈todo.filter fun x=>!Zz x.1 i:=fun x hx=>by
  by_cases F:x.1=i
  .have I:=hi.tl x hx;rw[F,hi.tl _ hin]at I;exact .inl (by obtain⟨x1,x2⟩:=x;simp only at F I;rw[F,Z5 I])
  .exact .inr (ZM.2 ⟨hx,by cases hb:Zz x.1 i with|false=>rfl|true=>exact absurd (Zt hb) F⟩)
 simp only[ze,Zw,ZA,aae]at j;obtain⟨b,hb,m0,g0,b0,q0⟩:=hi.ap;obtain⟨bl,Y,j0⟩:=hi.er;have a0:listed.getD i kw=lc:=by
  cases D:listed.getD i kw with
  |false=>rfl
  |true=>have:=(Y _ hin D).alloc;simp only at this;rw[k0]at this;cases this
 obtain⟨v,hv,hf⟩:=hy M N b w hb;refine⟨hi.size,fun x hx=>hi.tl x (G x hx).1,fun x hx=>?_,fun x hx y hy=>?_,fun k q hk hu=>?_,?_,fun x hx y hy=>?_,fun y hyp x hx c0=>?_,⟨bl,fun x hx D=>?_,fun x hx y hy=>j0 x (G x hx).1 y (G y hy).1⟩,b.put o.dst v,hf,by rw[kQ,m0],by rw[lQ,g0],fun d J f0=>?_,fun x hx hu=>?_⟩
 .rcases Zq.1 hx with rfl|hx
  .exact hi.tl _ hin
  .exact hi.pl x hx
 .rcases Zq.1 hx with rfl|hx
  .exact(G y hy).2
  .exact hi.dj x hx y (G y hy).1
 .rcases hi.JP k q hk hu with hm|hm
  .rcases h1 _ hm with e|hm
   .exact .inr (by rw[e];simp)
   .exact .inl hm
  .exact .inr (Zn _ hm)
 .refine aay.2 ⟨fun y hy=>⟨(j.2 y hy).1.1,fun d S i0=>?_⟩,hi.pw⟩;have:=(j.2 y hy).2;simp only at S;rw[S,i0]at this;simp at this
 .rcases Zq.1 hx with rfl|hx<;>rcases Zq.1 hy with rfl|hy
  .exact .inr j.1
  .exact .inr (j.2 y hy).1.1
  .have:=(j.2 x hx).1.2;simpa using this
  .exact hi.pp x hx y hy
 .rcases Zq.1 hyp with rfl|hyp
  .exact p0 x (G x hx).1
  .exact hi.pa y hyp x (G x hx).1 c0
 .have I:=Y x (G x hx).1 D;unfold sD at*
  rw[he.1];exact I
 .rw[hZ,be (fun hc=>J (i,o) (by simp) a0 hc.1)];refine b0 d (fun x hx=>J x (Zn _ hx)) (fun x hx D=>?_);rcases h1 x hx with e|hx
  .rw[e]at D;simp only at D;rw[a0]at D;cases D
  .exact f0 x hx D
 .have A: ∀x:Oper,looks all x o=lc-> ∀d,o.dst=io d->d∉x.looksAt all.toArray:=fun x hx d hd=>nA hx hd
  rcases Zq.1 hx with rfl|hx
  .exact⟨v,hv.of_same (execOp_put o (fun cs b=>Region.noSelect_spec hns i o cs b (by simpa using hi.tl _ hin)) b o.dst v (A o j.1)) (wanted_put o b o.dst v (A o j.1)),An _ _ _⟩
  .obtain⟨u,n0,o0⟩:=q0 x hx hu;have D:=(j.2 x hx).1.1;refine⟨u,n0.of_same (execOp_put x.2 (fun cs b=>Region.noSelect_spec hns x.1 x.2 cs b (by simpa using hi.pl x hx)) b o.dst v (A x.2 D)) (wanted_put x.2 b o.dst v (A x.2 D)),?_⟩;rw[Act.put_comm b v u (fun d d0 e0=>?_),o0];have:=(j.2 x hx).2;rw[d0,e0]at this;simp at this
theorem HR{i:Nat}{o:Oper}{s':AS}(hin:(i,o)∈todo)(A:aS o=lc)(D: ∀x∈todo,waits o x.1=lc)(j:ze all pend o=kw)(he:s'.h=s.h∧s'.nx=s.nx)
  (I: ∀M N b w,Fits M N s nt b w-> ∃v,YieldsAt P all.toArray w o v b∧Fits M N s' nt (b.put o.dst v) w) (h:DL P nt all (todo.filter fun x=>!Zz x.1 i) ((i,o)::pend) Q s'):DL P nt all todo pend Q s:=by
 intro u hd y B M N listed a w d hB G F;exact h u hd y B M N listed a w d (by unfold Bs.ext at*;rw[he.1,he.2];exact hB) (G.read u hin A D j he I) F
theorem rP(hns:Region.noSelect all.toArray=kw): ∀{pend:List (Nat×Oper)},(∀x∈pend,all[x.1]? =io x.2)->(pend.Pairwise fun x y=>looks all y.2 x.2=lc∧ ∀d,x.2.dst=io d->y.2.dst≠io d)->
  (∀x∈pend,looks all x.2 x.2=lc)->(∀x∈pend,ji P nt all s x.2)-> ∀{b:Act},Fits M N s nt b w->
  ∃c:Act,Fits M N s nt c w∧c.tmps.size=b.tmps.size∧c.defers=b.defers∧(∀d,(∀x∈pend,listed.getD x.1 kw=lc->x.2.dst≠io d)->c.tmps[d]? =b.tmps[d]?)∧
   (∀x∈pend,listed.getD x.1 kw=lc-> ∃v,YieldsAt P all.toArray w x.2 v c∧c.put x.2.dst v=c)
 | [],_,_,_,_,b,hb=>⟨b,hb,rfl,rfl,fun _ _=>rfl,fun x hx=>by cases hx⟩
 |(i,o)::pend,hpl,hpw,hse,hag,b,hb=>by
  rw[aay]at hpw;obtain⟨c,hc,I,F,B,D⟩:=rP hns (pend:=pend) (fun x hx=>hpl x (Zn _ hx)) hpw.2 (fun x hx=>hse x (Zn _ hx)) (fun x hx=>hag x (Zn _ hx)) hb;cases hu:listed.getD i kw with
  |true=>
   refine⟨c,hc,I,F,fun d hd=>B d fun x hx=>hd x (Zn _ hx),fun x hx A=>?_⟩;rcases Zq.1 hx with rfl|hx
   .rw[hu]at A;cases A
   .exact D x hx A
  |false=>
   obtain⟨v,hv,hf⟩:=hag (i,o) (by simp) M N c w hc;have j: ∀x:Oper,looks all x o=lc-> ∀d,o.dst=io d->d∉x.looksAt all.toArray:=fun x hx d hd=>nA hx hd;refine⟨c.put o.dst v,hf,by rw[kQ,I],by rw[lQ,F],fun d hd=>?_,fun x hx A=>?_⟩
   .rw[hZ,be (fun h=>hd (i,o) (by simp) hu h.1)];exact B d fun x hx=>hd x (Zn _ hx)
   .rcases Zq.1 hx with rfl|hx
    .have G:=hse (i,o) (by simp);exact⟨v,hv.of_same (execOp_put o (fun J b=>Region.noSelect_spec hns i o J b (by simpa using hpl (i,o) (by simp))) c o.dst v (j o G)) (wanted_put o c o.dst v (j o G)),An _ _ _⟩
    .obtain⟨u,a0,b0⟩:=D x hx A;have G:=(hpw.1 x hx).1;refine⟨u,a0.of_same (execOp_put x.2 (fun J b=>Region.noSelect_spec hns x.1 x.2 J b (by simpa using hpl x (Zn _ hx))) c o.dst v (j x.2 G)) (wanted_put x.2 c o.dst v (j x.2 G)),?_⟩;rw[Act.put_comm c v u (fun d S Y=>(hpw.1 x hx).2 d S Y),b0]
theorem Gv{o:Oper}{a b:Act}{w:World}{K K':Act->World->Prop}{Q:Exit->Act->World->Prop}(he:execOp a.eval o=execOp b.eval o)(u: ∀d j,¬K' ({b with defers:=d::b.defers}.put o.dst undef) j)
  (y: ∀v j,K' (b.put o.dst v) j->K (a.put o.dst v) j) (h:o.wp P b w K' fun _ _ _=>False):o.wp P a w K Q:=by
 unfold Oper.wp at*
 rw[he];generalize(execOp b.eval o).run P w=r at*
 cases r with
 |ok n j=>
  cases n<;>simp only[Oper.upon]at h ⊢
  case value v=>exact y _ _ h
  case skip=>exact y _ _ h
  case defer d=>exact absurd h (u d j)
  case enter f args=>
   refine Calls.mono h fun e A he=>?_
   cases e with
   |returned v=>exact y _ _ he
   |panicked c=>exact he.elim
   |outgrown=>obtain⟨_,_,h⟩:=he;exact h.elim
  case row row args=>exact Rows.mono h fun v A he=>y _ _ he
 |halt x j=>cases x<;>simp only[Oper.upon]at h ⊢
def jM(all:List Oper)(pend:List (Nat×Oper))(o:Oper):Bool:=pend.all fun x=>waits o x.1||!looks all o x.2
theorem oM.early{B:Bs}(hi:oM P nt all todo pend B M N s listed a w)(hns:Region.noSelect all.toArray=kw)(hd:iw 0 all=kw)(k0:ko P nt all)(hB:B.ext M N s w)(b0: ∀x∈pend,ji P nt all s x.2){j:Nat}{o:Oper}(hm:(j,o)∈todo)(ha:aS o=kw)
  (hu:listed.getD j kw=lc): ∃v w',(execOp a.eval o).run P w= .ok (.value v) w'∧B.ext M N s w'∧oM P nt all todo pend B M N s (listed.setIfInBounds j kw) (a.put o.dst v) w':=by
 obtain⟨b,hb,i0,r0,j0,hy⟩:=hi.ap;obtain⟨bl,g0,t0⟩:=hi.er;obtain⟨h1,⟨d,I,s0⟩,⟨t,z,ht,hz⟩,_,c0⟩:=k0 j o (hi.tl _ hm) ha;have D:=fz hu;have hk: ∀b,b<w.heap.size->(w.alloc (.cells z.cells t)).heap[b]? =w.heap[b]? :=fun b hb=>CM w _ b hb
 have a0:Ext M N (· <s.nx) s.h w M N (· <s.nx) s.h (w.alloc (.cells z.cells t)):=
  ⟨rfl,rfl,rfl,by simp,fun b hb _=>hk b hb,.refl _,fun b c h1 h2=>by simp[h1]at h2,.refl _ _,fun _ h=>h,fun i o hi d0=> .inr ⟨i,o,hi,d0,rfl⟩⟩
 have w0: ∀x∈pend,looks all x.2 x.2=lc:=fun x A=>by
  rcases hi.pp x A x A with h7|h7
  .obtain⟨e,he,hb,b1⟩:=gW h7;have:=k9 all 0 x.1 x.2 hd (hi.pl x A) e he hb;omega
  .exact h7
 obtain⟨c,o0,p0,n0,m0,q0⟩:=rP (listed:=listed.setIfInBounds j kw) hns hi.pl hi.pw w0 b0 (M:=M) (N:=N) (w:=w.alloc (.cells z.cells t)) (b:=b) ⟨hb.1.more hk,hb.2⟩;refine⟨.pointer (io ⟨w.heap.size,0,jp⟩),w.alloc (.cells z.cells t),?_,hB.trans a0,by simp[hi.size],hi.tl,hi.pl,hi.dj,fun i q hq Y=>?_,hi.pw,hi.pp,hi.pa,⟨fun k=>if k=j then w.heap.size else bl k,fun x A hl=>?_,fun x A y hy F J S=>?_⟩,c,o0,by rw[kQ,p0,i0],by rw[lQ,n0,r0],fun d' e0 f0=>?_,q0⟩
 .simp only[execOp,ht];simp[Instr.alloc,hz,newVar,newRow]
 .rw[gl D]at Y;split at Y
  .cases Y
  .exact hi.JP i q hq Y
 .simp only;by_cases u:x.1=j
  .have y0:x.2=o:=by
    have:=hi.tl x A;rw[u,hi.tl _ hm]at this;exact(Z5 this).symm
   rw[am u,y0];refine⟨t,z,d,ht,hz,I,?_,heap_alloc_new w _,hb.1.DY,fun i o v0 d0 he=>?_,hB.size⟩
   .rw[hZ,am ⟨I,by rw[i0,hb.2.2.2];exact s0⟩]
   .have:=hb.1.lt v0 d0;omega
  .rw[be u];rw[gl D,be u]at hl;obtain⟨t',v',d',k1,k2,k3,k4,k5,k6⟩:=g0 x A hl;refine⟨t',v',d',k1,k2,k3,?_,?_,k6⟩
   .rw[hZ,be (fun hc=>(c0 x.1 x.2 (hi.tl x A) u).2 d I (by rw[k3,<-hc.1,I]))];exact k4
   .rw[hk _ (aaq.1 k5).1];exact k5
 .simp only;rw[gl D]at F J;have Wj: ∀z∈todo,z.1≠j->(if z.1=j then kw else listed.getD z.1 kw)=kw->bl z.1<w.heap.size:=fun z hz a1 hl=>by
   rw[be a1]at hl;obtain⟨_,_,_,_,_,_,_,k5,_⟩:=g0 z hz hl;exact(aaq.1 k5).1
  by_cases u:x.1=j<;>by_cases G:y.1=j
  .exact absurd (u.trans G.symm) S
  .rw[am u,be G];have:=Wj y hy G J;omega
  .rw[be u,am G];have:=Wj x A u F;omega
  .rw[be u,be G];rw[be u]at F;rw[be G]at J;exact t0 x A y hy F J S
 .rw[hZ,be (fun hc=>f0 (j,o) hm (by rw[gl D,am Z]) hc.1),m0 d' e0];refine j0 d' (fun x A x0=>e0 x A ?_) (fun x A F=>f0 x A ?_)
  .have S:x.1≠j:=fun e=>hi.dj x A _ hm e.symm
   rw[gl D,be S];exact x0
  .rw[gl D];split
   .rfl
   .exact F
theorem sD.step{B:Bs}{y:Mem}{J:Nm}{s':AS}{Y:World}{o:Oper}{aL:Nat}(h:sD P M N s B a w o aL)(I:Ext M N (· <s.nx) s.h w y J (· <s'.nx) s'.h Y):sD P y J s' B a Y o aL:=by
 obtain⟨t,v,d,h1,h2,h3,h4,S,h6,A,h8⟩:=h;have F:=(aaq.1 S).1;refine⟨t,v,d,h1,h2,h3,h4,by rw[I.iT aL F A];exact S,?_,fun i o D G he=>?_,h8⟩
 .cases hm:y aL with
  |none=>rfl
  |some c=>
   rcases I.kr aL c h6 hm with x|⟨i,o,x,b,u⟩
   .omega
   .exact absurd u (A i o x b)
 .rcases I.jt i o D G with x|⟨j,p,x,b,u⟩
  .omega
  .exact A j p x b (u.trans he)
def pj(todo:List (Nat×Oper))(E:List Nat):Bool:=todo.all fun x=>E.contains x.1||(aS x.2||todo.any fun y=>!aS y.2&&waits x.2 y.1)
theorem oM.eff{B:Bs}(hi:oM P nt all todo pend B M N s listed a w)(hns:Region.noSelect all.toArray=kw)(hd:iw 0 all=kw)(i0:ko P nt all){j:Nat}{o:Oper}(hm:(j,o)∈todo)(h0: ∀x∈todo,aS x.2=kw->waits o x.1=lc)
  (h1:jM all pend o=kw) (hj:j∈Region.ready .any all.toArray listed) (hu:listed.getD j kw=lc): ∃b,Fits M N s nt b w∧execOp a.eval o=execOp b.eval o∧Region.wanted o (Go.yielded all.toArray a.tmps)=Region.wanted o (Go.yielded all.toArray b.tmps)∧
   ∀v M' N' s' w',Ext M N (· <s.nx) s.h w M' N' (· <s'.nx) s'.h w'->Fits M' N' s' nt (b.put o.dst v) w'->(∀x∈bp pend o,ji P nt all s' x.2)->
    oM P nt all (todo.filter fun x=>!Zz x.1 j) (bp pend o) B M' N' s' (listed.setIfInBounds j kw) (a.put o.dst v) w':=by
 obtain⟨bl,k0,a1⟩:=hi.er;obtain⟨_,o2,n0,a0⟩:=mem_ready.1 hj;have c0:=hi.tl _ hm;have d1:o2=o:=by
  have:all[j]? =io o2:=by simpa using n0
  exact Z5 (this.symm.trans c0)
 rw[d1]at n0 a0;have e0:=fz hu;obtain⟨b,hb,p0,y0,g0,i1⟩:=hi.ap;have e1: ∀x∈pend,waits o x.1=kw∨looks all o x.2=lc:=fun x u=>by
  have:=ZA.1 h1 x u;simpa using this
 have b0: ∀x∈todo,listed.getD x.1 kw=kw->looks all o x.2=lc∧ ∀d,x.2.dst=io d->o.dst≠io d:=fun x u F=>by
  have f0:=(k0 x u F).alloc;have J:j≠x.1:=fun e=>by rw[<-e,hu]at F;cases F
  exact⟨i0.rV (hi.tl x u) c0 f0 (h0 x u f0) J,((i0 _ _ (hi.tl x u) f0).2.2.2.2 _ _ c0 J).2⟩
 have Y:=oM.same g0 hns c0 hj e1 (fun x u F=>(b0 x u F).1);have S: ∀x∈pend,listed.getD x.1 kw=lc->x∈bp pend o:=fun x u d0=>by
  refine ZM.2 ⟨u,?_⟩;cases hw:waits o x.1 with
  |false=>rfl
  |true=>
   obtain⟨e,he,hb,o0⟩:=gW hw;have:=a0 e he hb;rw[o0,mV d0]at this;cases this
 have g1: ∀k,(listed.setIfInBounds j kw).getD k kw=lc->k≠j∧listed.getD k kw=lc:=by
  intro k hk;rw[gl e0]at hk;split at hk
  .cases hk
  .rename_i h;exact⟨h,hk⟩
 have D: ∀x∈bp pend o,x∈pend:=fun x u=>(ZM.1 u).1
 have A: ∀x∈todo.filter (fun x=>!Zz x.1 j),x∈todo∧x.1≠j:=fun x u=>by
  obtain⟨h7,h8⟩:=ZM.1 u;exact⟨h7,fun e=>by simp[e]at h8⟩
 refine⟨b,hb,Y.1,Y.2,fun v M' N' s' w' u hf h5=>?_⟩;have f1: ∀x∈bp pend o,looks all x.2 x.2=lc:=fun x u=>by
  rcases hi.pp x (D x u) x (D x u) with h7|h7
  .obtain⟨e,he,hb,o0⟩:=gW h7;have:=k9 all 0 x.1 x.2 hd (hi.pl x (D x u)) e he hb;omega
  .exact h7
 obtain⟨c,t0,v0,s0,r0,w0⟩:=rP (listed:=listed.setIfInBounds j kw) hns (fun x u=>hi.pl x (D x u)) (hi.pw.sublist abP) f1 h5 hf;have G: ∀x∈todo.filter (fun x=>!Zz x.1 j),(listed.setIfInBounds j kw).getD x.1 kw=listed.getD x.1 kw:=fun x u=>by rw[gl e0,be (A x u).2]
 refine⟨by simp[hi.size],fun x u=>hi.tl x (A x u).1,fun x u=>hi.pl x (D x u),fun x u y hy=>hi.dj x (D x u) y (A y hy).1,fun k q hk b1=>?_,hi.pw.sublist abP,
      fun x u y hy=>hi.pp x (D x u) y (D y hy),fun y hy x u=>hi.pa y (D y hy) x (A x u).1,⟨bl,fun x I F=>?_,fun x I y q0 h1 h2=>?_⟩,c,t0,by rw[v0,kQ,kQ,p0],by rw[s0,lQ,lQ,y0],fun d j0 x0=>?_,w0⟩
 .obtain⟨h7,h8⟩:=g1 k b1;rcases hi.JP k q hk h8 with h9|h9
  .exact .inl (ZM.2 ⟨h9,by cases hb:Zz k j with|false=>rfl|true=>exact absurd (Zt hb) h7⟩)
  .exact .inr (S _ h9 h8)
 .rw[G x I]at F;exact((k0 x (A x I).1 F).step u).put (b0 x (A x I).1 F).2
 .rw[G x I]at h1;rw[G y q0]at h2;exact a1 x (A x I).1 y (A y q0).1 h1 h2
 .rw[r0 d j0,hZ,hZ,p0];split
  .rfl
  .refine g0 d (fun x u d0=>j0 x (S x u d0) ?_) (fun x I F=>?_)
   .have J:x.1≠j:=fun e=>hi.dj x u _ hm e.symm
    rw[gl e0,be J];exact d0
   .have J:x.1≠j:=fun e=>by rw[e,hu]at F;cases F
    have m0:x∈todo.filter (fun x=>!Zz x.1 j):=ZM.2 ⟨I,by cases hb:Zz x.1 j with|false=>rfl|true=>exact absurd (Zt hb) J⟩;exact x0 x m0 (by rw[G x m0];exact F)
theorem UP{E:List Nat}(hE:pj todo E=kw)(hne: ∃x∈todo,aS x.2=lc)(b0: ∀x∈todo,aS x.2=kw-> ∀x∈pend,ji P nt all s x.2)
  (h: ∀j o,j∈E->(j,o)∈todo->(∀o',(j,o')∈todo->o'=o)->aS o=lc∧(∀x∈todo,aS x.2=kw->waits o x.1=lc)∧jM all pend o=kw∧(∀M N b w,Fits M N s nt b w->Region.wanted o (Go.yielded all.toArray b.tmps)=kw)∧ ∃R,OT P nt o s R∧
   ∀s',R s'->(∀x∈bp pend o,ji P nt all s' x.2)∧DL P nt all (todo.filter fun x=>!Zz x.1 j) (bp pend o) Q s'):DL P nt all todo pend Q s:=by
 intro I hd A B M N listed a w u hB
 induction u generalizing listed a w with
 |zero=>
  intro G hc;obtain⟨x,F,D⟩:=hne;have o0:listed.getD x.1 kw=lc:=by
   obtain⟨bl,d0,_⟩:=G.er;cases hl:listed.getD x.1 kw with
   |false=>rfl
   |true=>have:=(d0 x F hl).alloc;rw[D]at this;cases this
  have:=oG o0;omega
 |succ u ih=>
  intro G hc;obtain⟨bl,d0,p0⟩:=G.er;have Y: ∀x∈todo,aS x.2=lc->listed.getD x.1 kw=lc:=fun x F D=>by
   cases hl:listed.getD x.1 kw with
   |false=>rfl
   |true=>have:=(d0 x F hl).alloc;rw[D]at this;cases this
  refine⟨fun hr=>?_,fun j hj=>?_⟩
  .obtain⟨x,F,D⟩:=hne;have:=my G.size hd hr x.1;rw[Y x F D]at this;cases this
  obtain⟨hu,o,ho,c0⟩:=mem_ready.1 hj;have f0:all[j]? =io o:=by simpa using ho
  have q0:=fz hu;rcases G.JP j o f0 hu with hm|hm
  .cases hja:aS o with
   |true=>
    obtain⟨v,w',g0,j0,e0⟩:=G.early I hd A hB (b0 _ hm hja) hm hja hu;unfold wpOp;simp only[ho];rw[am (jE (A j o f0 hja).1 _)];refine .inl ?_;unfold Oper.wp;rw[g0];simp only[Oper.upon];exact ih _ _ _ j0 e0 (by have:=dt hu;omega)
   |false=>
   have k0:j∈E:=by
    have:=ZA.1 hE _ hm;simp only[aas,ZZ,Zw,aae]at this;rcases this with h1|h1|⟨y,hy,h0,h1⟩
    .simpa using h1
    .rw[hja]at h1;cases h1
    .obtain⟨e,he,hb,n0⟩:=gW h1;have:=c0 e he hb;rw[n0,mV (Y y hy h0)]at this;cases this
   obtain⟨_,h0,h1,h2,R,h3,h4⟩:=h j o k0 hm (fun o' m0=>by
    have:=G.tl _ m0;simp only at this;rw[f0]at this
    exact(Z5 this).symm)
   obtain⟨b,hb,a0,i0,hnew⟩:=G.eff I hd A hm h0 h1 hj hu;unfold wpOp;simp only[ho];rw[am (by rw[i0];exact h2 M N b w hb)];refine .inl (Gv (K':=fun a' w'=> ∃J S s',Ext M N (· <s.nx) s.h w J S (· <s'.nx) s'.h w'∧Fits J S s' nt a' w'∧R s') a0 ?_ ?_ (h3 M N b w hb _ _ fun J S s' a' w' F hf hr=>⟨J,S,s',F,hf,hr⟩))
   .rintro d w' ⟨J,S,s',_,hf,_⟩;have:=hf.2.2.1;rw[lQ]at this;cases this
   .rintro v w' ⟨J,S,s',F,hf,hr⟩;obtain⟨h5,h6⟩:=h4 s' hr;exact h6 I hd A B J S _ _ w' u (hB.trans F) (hnew v J S s' w' F hf h5) (by have:=dt hu;omega)
  .obtain⟨v,hv,e0⟩:=G.take I A hm hj;refine wpOp_of_stOp (K:=fun a'=>a'=a.put o.dst v) (fun a' ha=>?_) (hv.stOp ho Z);subst ha;exact ih _ _ _ hB e0 (by have:=dt hu;omega)
theorem Rel.Ia{M:Mem}{N:Nm}{n:Nat}{h:AH}{w:World}(hr:Rel M N (· <n) h w){aL e:Nat}{o:AO}(hM:M aL=jp)(hne: ∀i p,h.get i=io p->p.real=kw->N.aL i≠aL)(ho:OR M (N.with n aL e) (· <n+1) w n o):
  Rel M (N.with n aL e) (· <n+1) ((n,io o)::h) w:=by
 have A:=N.gU n aL e;have b: ∀i p,AH.get ((n,io o)::h) i=io p->(i=n∧p=o)∨(i<n∧h.get i=io p):=by
  intro i p u;rw[AH.ax]at u;split at u
  .rename_i B;exact .inl ⟨B,by simpa using u.symm⟩
  .exact .inr ⟨hr.used i p u,u⟩
 refine⟨hr.eW,fun i p u=>?_,fun i p u D=>?_,fun i p u=>?_,fun i j p q u S I J d=>?_⟩
 .rcases b i p u with⟨rfl,rfl⟩|⟨x,y⟩<;>omega
 .rcases b i p u with⟨rfl,rfl⟩|⟨x,y⟩
  .simpa using hM
  .rw[A.aL i x];exact hr.fo i p y D
 .rcases b i p u with⟨rfl,rfl⟩|⟨x,y⟩
  .exact ho
  .exact(hr.obj i p y).mono (.refl _) A (fun i u=>by omega) x Z
 .rcases b i p u with⟨rfl,rfl⟩|⟨x,y⟩<;>rcases b j q S with⟨rfl,rfl⟩|⟨F,G⟩
  .rfl
  .rw[A.aL j F]at d;simp at d;exact absurd d.symm (hne _ _ G J)
  .rw[A.aL i x]at d;simp at d;exact absurd d (hne _ _ y I)
  .rw[A.aL i x,A.aL j F]at d;exact hr.inj i j p q y G I J d
def CL(todo:List (Nat×Oper))(i:Nat):Bool:=todo.all fun x=>Zz x.1 i||(aS x.2||(waits x.2 i||todo.any fun y=>!aS y.2&&waits x.2 y.1))
def mX(s:AS)(d:Nat)(cs:List PV):AS:=match s with|⟨f,h,n⟩=>⟨(d,.ptr n 0)::f,(n,io (.cells cs))::h,n+1⟩
theorem Mn{i:Nat}{o:Oper}{t:TypeId}{z:Value}{d:Nat}(hin:(i,o)∈todo)(ht:o.op= .alloc t)(hz: ∀w,(zeroValue t).run P w= .ok z w)(n0:o.dst=io d)(hE:CL todo i=kw)
  (k0: ∀x∈pend,ji P nt all s x.2) (Y: ∀x∈pend,ji P nt all (mX s d (c6 z)) x.2)
  (h:DL P nt all (todo.filter fun x=>!Zz x.1 i) pend Q (mX s d (c6 z))):DL P nt all todo pend Q s:=by
 intro g0 hd a0 B M N listed a w D hB;have d1:aS o=kw:=by simp[aS,ht]
 have Ia: ∀{D:Nat} {listed:Array Bool} {a:Act} {w:World},B.ext M N s w->oM P nt all todo pend B M N s listed a w->listed.getD i kw=kw->listed.toList.count lc<=D->wpAny P .any all.toArray (S5 nt B Q) D listed a w:=by
  intro D listed a w hB A S hc;obtain⟨b,hb,x1,s1,j1,a2⟩:=A.ap;obtain⟨J,f0,o0⟩:=A.er;obtain⟨t',G,d',k1,k2,k3,k4,k5,k6,k7,k8⟩:=f0 _ hin S;simp only at k1 k3;have e1:t'=t:=by rw[ht]at k1;exact(Op.alloc.inj k1).symm
  subst e1;have e2:G=z:=by have:=(k2 w).symm.trans (hz w);simpa using this
  subst e2;have e3:d'=d:=by rw[n0]at k3;exact(Z5 k3).symm
  subst e3;have b1:d'<nt:=by
   obtain⟨_,⟨d2,g1,g2⟩,_⟩:=a0 i o (A.tl _ hin) d1;rw[n0]at g1;rw[Z5 g1];exact g2
  have ha:=N.gU s.nx (J i) G.cells.size;have w0:=hb.1.Ia (aL:=J i) (e:=G.cells.size) (o:= .cells (c6 G)) k6 k7
   ⟨G.cells,t',by simpa using k5,by simp,(gq (M:=M) (N:=N.with s.nx (J i) G.cells.size) (U:=(· <s.nx+1)) G).1,(gq G).2,.none _⟩
  have t1:FR M (N.with s.nx (J i) G.cells.size) (· <s.nx+1) s.f b.tmps:=hb.2.1.mono (.refl _) ha (fun i A=>by omega);have t0:VR M (N.with s.nx (J i) G.cells.size) (· <s.nx+1) (.ptr s.nx 0) (.pointer (io ⟨J i,0,jp⟩)):=by
   have:=VR.ptr (M:=M) (N:=N.with s.nx (J i) G.cells.size) (U:=(· <s.nx+1)) s.nx 0 (by omega);simpa using this
  have q0:Fits M (N.with s.nx (J i) G.cells.size) (mX s d' (c6 G)) nt (b.put (io d') (.pointer (io ⟨J i,0,jp⟩))) w:=by
   obtain⟨sf,sh,sn⟩:=s;exact⟨w0,t1.put d' _ _ (by rw[hb.2.2.2];exact b1) t0,hb.2.2.1,by rw[kQ];exact hb.2.2.2⟩
  have b0: ∀j p,(mX s d' (c6 G)).h.get j=io p->j=s.nx∨(j<s.nx∧s.h.get j=io p):=by
   intro j p F;obtain⟨sf,sh,sn⟩:=s;simp only[mX]at F;rw[AH.ax]at F;split at F
   .rename_i e;exact .inl e
   .exact .inr ⟨hb.1.used j p F,F⟩
  have v1:(mX s d' (c6 G)).nx=s.nx+1:=by obtain⟨sf,sh,sn⟩:=s;rfl
  have j0:B.ext M (N.with s.nx (J i) G.cells.size) (mX s d' (c6 G)) w:=by
   unfold Bs.ext at*
   refine⟨hB.os,hB.tape,hB.output,hB.size,hB.iT,hB.sb,hB.kr,⟨fun j F=>(ha.aL j (hB.ule j F)).trans (hB.nm.aL j F),fun j F=>(ha.ext j (hB.ule j F)).trans (hB.nm.ext j F)⟩,fun j F=>by have:=hB.ule j F;rw[v1];omega,fun j p F v0=>?_⟩;rcases b0 j p F with rfl|⟨h1,h2⟩
   .exact .inl (by simpa using k8)
   .rw[ha.aL j h1];exact hB.jt j p h2 v0
  have w1: ∀x∈pend,looks all x.2 x.2=lc:=fun x I=>by
   rcases A.pp x I x I with h7|h7
   .obtain⟨e,he,hb,f1⟩:=gW h7;have:=k9 all 0 x.1 x.2 hd (A.pl x I) e he hb;omega
   .exact h7
  have u: ∀x∈todo.filter (fun x=>!Zz x.1 i),x∈todo∧x.1≠i:=fun x I=>by
   obtain⟨h7,h8⟩:=ZM.1 I;exact⟨h7,fun e=>by simp[e]at h8⟩
  obtain⟨c,o1,p1,n1,l1,q1⟩:=rP (listed:=listed) g0 A.pl A.pw w1 Y q0;refine h g0 hd a0 B M _ listed a w D j0 ⟨A.size,fun x I=>A.tl x (u x I).1,A.pl,fun x I y hy=>A.dj x I y (u y hy).1,fun k q hk s0=>?_,A.pw,A.pp,fun y hy x I=>A.pa y hy x (u x I).1,⟨J,fun x d0 i0=>?_,fun x d0 y z1=>o0 x (u x d0).1 y (u y z1).1⟩,c,o1,by rw[p1,kQ,x1],by rw[n1,lQ,s1],fun e a1 r1=>?_,q1⟩ hc
  .rcases A.JP k q hk s0 with h9|h9
   .refine .inl (ZM.2 ⟨h9,?_⟩);cases hbq:Zz k i with
    |false=>rfl
    |true=>rw[Zt hbq,S]at s0;cases s0
   .exact .inr h9
  .obtain⟨t2,z2,d2,m1,m2,m3,m4,m5,m6,m7,m8⟩:=f0 x (u x d0).1 i0;refine⟨t2,z2,d2,m1,m2,m3,m4,m5,m6,fun j p F v0=>?_,m8⟩;rcases b0 j p F with rfl|⟨h1,h2⟩
   .rw[Nm.JT];exact fun e=>o0 x (u x d0).1 _ hin i0 S (u x d0).2 e.symm
   .rw[ha.aL j h1];exact m7 j p h2 v0
  .rw[l1 e a1,hZ];by_cases p0:d'=e
   .subst p0;rw[am ⟨rfl,by rw[hb.2.2.2];exact b1⟩];exact k4
   .rw[be (fun hc=>p0 (Z5 hc.1))];refine j1 e a1 (fun x I i0 he=>?_);by_cases i1:x.1=i
    .have h3:=A.tl x I;rw[i1,A.tl _ hin]at h3;rw[<-Z5 h3,n0]at he;exact p0 (Z5 he)
    .exact r1 x (ZM.2 ⟨I,by cases hb:Zz x.1 i with|false=>rfl|true=>exact absurd (Zt hb) i1⟩) i0 he
 clear h Y
 induction D generalizing listed a w with
 |zero=>
  intro A hc;cases S:listed.getD i kw with
  |true=>exact Ia hB A S hc
  |false=>have:=oG S;omega
 |succ D ih=>
  intro A hc;cases S:listed.getD i kw with
  |true=>exact Ia hB A S hc
  |false=>
   obtain⟨J,f0,o0⟩:=A.er;have y0: ∀x∈todo,aS x.2=lc->listed.getD x.1 kw=lc:=fun x I y1=>by
    cases S:listed.getD x.1 kw with
    |false=>rfl
    |true=>have:=(f0 x I S).alloc;rw[y1]at this;cases this
   refine⟨fun hr=>?_,fun j F=>?_⟩
   .have:=my A.size hd hr i;rw[S]at this;cases this
   obtain⟨hu,q,hq,m0⟩:=mem_ready.1 F;have c0:all[j]? =io q:=by simpa using hq
   rcases A.JP j q c0 hu with hm|hm
   .cases hja:aS q with
    |true=>
     obtain⟨v,w',x0,j0,r0⟩:=A.early g0 hd a0 hB k0 hm hja hu;unfold wpOp;simp only[hq];rw[am (jE (a0 j q c0 hja).1 _)];refine .inl ?_;unfold Oper.wp;rw[x0];simp only[Oper.upon];exact ih _ _ _ j0 r0 (by have:=dt hu;omega)
    |false=>
     exfalso;have e0: ∀k,listed.getD k kw=lc->waits q k=kw->False:=fun k hk hw=>by
      obtain⟨e,he,hb,f1⟩:=gW hw;have:=m0 e he hb;rw[f1,mV hk]at this;cases this
     have:=ZA.1 hE _ hm;simp only[aas,ZZ,Zw,aae]at this;rcases this with h1|h1|h1|⟨y,hy,h0,h1⟩
     .have u1:=Zt h1;subst u1;rw[A.tl _ hin]at c0;simp only[Y9]at c0;rw[<-c0,d1]at hja;cases hja
     .rw[hja]at h1;cases h1
     .exact e0 i S h1
     .exact e0 y.1 (y0 y hy h0) h1
   .obtain⟨v,hv,r0⟩:=A.take g0 a0 hm F;refine wpOp_of_stOp (K:=fun a'=>a'=a.put q.dst v) (fun a' ha=>?_) (hv.stOp hq Z);subst ha;exact ih _ _ _ hB r0 (by have:=dt hu;omega)
def ig:Nat->List Oper->List (Nat×Oper)
 |_,[]=> []
 |n,o::r=>(n,o)::ig (n+1) r
theorem j6: ∀(l:List Oper) (n i:Nat) (o:Oper),(i,o)∈ig n l↔n<=i∧l[i-n]? =io o
 | [],n,i,o=>by simp[ig]
 |c::l,n,i,o=>by
  simp only[ig,Zq,Zl];rw[j6 l (n+1) i o];by_cases h:i=n
  .subst h;simp only[true_and,Zc,aca,abS,Y9];exact⟨fun h=>h.elim Eq.symm (fun h=>by omega),fun h=> .inl h.symm⟩
  .by_cases b:n<=i
   .rw[show i-n=(i-(n+1))+1 by omega,abd];constructor
    .rintro(⟨h3,_⟩|⟨_,h3⟩)
     .exact absurd h3 h
     .exact⟨b,h3⟩
    .rintro⟨_,h3⟩;exact .inr ⟨by omega,h3⟩
   .constructor
    .rintro(⟨h3,_⟩|⟨h3,_⟩)
     .exact absurd h3 h
     .omega
    .rintro⟨h3,_⟩;exact absurd h3 b
def vt:List Oper->Bool
 | []=>kw
 |o::r=>match o.op with
  | .select ..=>lc
  |_=>vt r
theorem Az{ops:Array Oper}(h:vt ops.toList=kw):Region.noSelect ops=kw:=by
 have key: ∀l:List Oper,vt l=kw-> ∀o∈l,(match o.op with| .select ..=>lc|_=>kw)=kw:=by
  intro l
  induction l with
  |nil=>intro _ o ho;cases ho
  |cons c l ih=>
   intro b o ho;unfold vt at b;split at b
   .cases b
   .rename_i d;rcases Zq.1 ho with rfl|ho
    .split
     .rename_i h;exact absurd h (d _ _)
     .rfl
    .exact ih b o ho
 unfold Region.noSelect;rw[Array.all_eq_true_iff_forall_mem];exact fun o ho=>key _ h o (by simpa using ho)
variable {k:List KI}
theorem L6{id:Nat}{ops:Array Oper}(hm:P.follows .mixedOrders=kw)(hns:Region.noSelect ops=kw)(hd:iw 0 ops.toList=kw)(y:ko P nt ops.toList)(h:GO P nt (.cX ops.toList (ig 0 ops.toList) []::k) Q s):GO P nt (.code (.region id ops kw)::k) Q s:=by
 intro M N a w F;refine wp_region_any hm ?_;have A:=F.drew;have j: ∀x∈ig 0 ops.toList,ops.toList[x.1]? =io x.2:=fun x b=>by
  obtain⟨_,D⟩:=(j6 _ 0 x.1 x.2).1 b;simpa using D
 have B: ∀i,i<ops.size->(aaX ops.size lc).getD i kw=lc:=fun i G=>by simp[Y7,G]
 have u: ∀x∈ig 0 ops.toList,(aaX ops.size lc).getD x.1 kw=kw->False:=fun x b d=>by
  have:x.1<ops.size:=by simpa using(Zb.1 (j x b)).1
  rw[B _ this]at d;cases d
 have:=h (by rw[aaF];exact hns) hd y ⟨M,N,s.nx,s.h,w⟩ M N (aaX ops.size lc) a {w with drawn:=w.drawn+1} ops.size Ext.drew
  ⟨by simp,j,fun _ b=>(nomatch b),fun _ b=>(nomatch b),fun i o I _=> .inl ((j6 _ 0 i o).2 ⟨Zf _,by simpa using I⟩),aaT,fun _ b=>(nomatch b),fun _ b=>(nomatch b),
   ⟨fun _=>0,fun x b d=>(u x b d).elim,fun x b _ _ d=>(u x b d).elim⟩,⟨a,A,rfl,rfl,fun _ _ _=>rfl,fun _ b=>(nomatch b)⟩⟩ (by simp)
 rw[aaF]at this;exact this
theorem Ex(h:GO P nt k Q s):GO P nt (.cX all [] pend::k) Q s:=UO h
def eqB:Bool->Bool->Bool
 |true,b=>b
 |false,kw=>lc
 |false,lc=>kw
theorem UH(a b:Bool):eqB a b=(a==b):=by cases a<;>cases b<;>rfl
def cJ(nt:Nat)(all:List Oper)(f:AF)(o:Oper):Option Bool:=
 match o.guard with
 |none=>io kw
 |some (g,want)=>match guardOf all f g with
  |some (d,.kb t)=>bif Zs d nt then io (eqB t want) else jp
  |some (_,.iv (.v (.tuple _)))=>io lc
  |_=>jp
theorem eB{o:Oper}{c:Bool}(h:cJ nt all s.f o=io c){b:Act}(hf:Fits M N s nt b w):Region.wanted o (Go.yielded all.toArray b.tmps)=c:=by
 unfold cJ at h;split at h
 .rename_i j;simp only[Y9]at h;rw[jE j,h]
 .rename_i g want j;split at h
  .rename_i d t u;cases hb:Zs d nt with
   |false=>simp[hb]at h
   |true=>
    simp only[hb,cond_true,Y9,UH]at h;have:=hf.xr u (Y5 hb);simp[Region.wanted,j,this,<-h]
  .rename_i d x u;simp only[Y9]at h;have:=hf.xq u;simp[Region.wanted,j,this,<-h]
  .cases h
theorem yx{i:Nat}{o:Oper}{s':AS}(hin:(i,o)∈todo)(j:aS o=lc)(u: ∀x∈todo,waits o x.1=lc)(hg:cJ nt all s.f o=io kw)(d:ze all pend o=kw)(he:s'.h=s.h∧s'.nx=s.nx)
  (ho: ∀M N a w,Fits M N s nt a w-> ∃x,(execOp a.eval o).run P w= .ok (.value x) w∧Fits M N s' nt (a.put o.dst x) w) (h:GO P nt (.cX all (todo.filter fun x=>!Zz x.1 i) ((i,o)::pend)::k) Q s'):GO P nt (.cX all todo pend::k) Q s:=
 HR hin j u d he (fun M N b w y=>let ⟨x,h1,h2⟩:=ho M N b w y;⟨x,.inl ⟨eB hg y,.inl h1⟩,h2⟩) h
theorem L5{i:Nat}{o:Oper}(hin:(i,o)∈todo)(d:aS o=lc)(j: ∀x∈todo,waits o x.1=lc)(hg:cJ nt all s.f o=io lc)(b:ze all pend o=kw)
  (h:GO P nt (.cX all (todo.filter fun x=>!Zz x.1 i) ((i,o)::pend)::k) Q (iP o s)):GO P nt (.cX all todo pend::k) Q s:=
 HR hin d j b (jI o s) (fun _ _ _ _ u=>⟨undef,.inr ⟨eB hg u,rfl⟩,u.skip o⟩) h
theorem vH{d:Nat}{t:Bool}(F:s.f.get d= .iv (.v (.bool t)))(h1:t=kw->GO P nt (.cX all todo pend::k) Q (setBool s (.tmp d) kw))(h2:t=lc->GO P nt (.cX all todo pend::k) Q (setBool s (.tmp d) lc)):
  GO P nt (.cX all todo pend::k) Q s:=by
 have key:GO P nt (.cX all todo pend::k) Q (setBool s (.tmp d) t):=by
  cases t
  .exact h2 Z
  .exact h1 Z
 intro A hd y B M N listed a w x hB j D;obtain⟨b,hb,u⟩:=j.ap;exact key A hd y B M N listed a w x hB ⟨j.size,j.tl,j.pl,j.dj,j.JP,j.pw,j.pp,j.pa,j.er,b,hb.setBool (c:= .tmp d) F,u⟩ D
theorem Cq{E:List Nat}(hE:pj todo E=kw)(hne: ∃x∈todo,aS x.2=lc)(u: ∀x∈todo,aS x.2=kw-> ∀x∈pend,ji P nt all s x.2)
  (h: ∀j o,j∈E->(j,o)∈todo->(∀y,(j,y)∈todo->y=o)->aS o=lc∧(∀x∈todo,aS x.2=kw->waits o x.1=lc)∧jM all pend o=kw∧cJ nt all s.f o=io kw∧ ∃R,OT P nt o s R∧
   ∀s',R s'->(∀x∈bp pend o,ji P nt all s' x.2)∧GO P nt (.cX all (todo.filter fun x=>!Zz x.1 j) (bp pend o)::k) Q s'):GO P nt (.cX all todo pend::k) Q s:=
 UP hE hne u fun j o A B D=>let ⟨a,b,c,d,e⟩:=h j o A B D;⟨a,b,c, @fun _ _ _ _=>eB d,e⟩
theorem Ji{i:Nat}{o:Oper}{t:TypeId}{z:Value}{d:Nat}(hin:(i,o)∈todo)(y:o.op= .alloc t)(A: ∀w,(zeroValue t).run P w= .ok z w)(u:o.dst=io d)(hE:CL todo i=kw)
  (j: ∀x∈pend,ji P nt all s x.2) (b: ∀x∈pend,ji P nt all (mX s d (c6 z)) x.2)
  (h:GO P nt (.cX all (todo.filter fun x=>!Zz x.1 i) pend::k) Q (mX s d (c6 z))):GO P nt (.cX all todo pend::k) Q s:=Mn hin y A u hE j b h
end
section
variable {P:Program} {nt:Nat} {Q:AQ} {k:List KI} {s:AS}
theorem LC{ty:Ty}(b0:cD P ty){o:Oper}{c:Call}(ho:o.op= .call c){g:FuncId}{asv:List PV}(ha:bY s.f c=io (g,asv)){fn:Func}{cb:Code}(B:P.funcs[g]? =io fn)(hb:fn.body=io cb)
  (hn:(fn.name== "runtime.NumGoroutine")=lc) {I:Nat} (f0:fn.ntmps=I) {l:List ResultVar} (hl:fn.results.toList=l) (e0:asv.length<=I) {R:AS->Prop}
  (h:AW P I cb (fun e t=>(e= .normal∨e= .ret)∧ ∃r s',ly ty t l=io r∧putDst nt o r ⟨s.f,t.h,t.nx⟩=io s'∧R s') ⟨q6 0 asv,s.h,s.nx⟩):OT P nt o s R:=by
 intro M N a w G K Z hk;obtain⟨u,F,D,hv⟩:=EJ G ho ha (bF B hb hn);unfold Oper.wp;rw[F];simp only[Oper.upon];refine calls_of_wp B hb ?_;have A:Fits M N ⟨q6 0 asv,s.h,s.nx⟩ I {tmps:=u.toArray++aaX (fn.ntmps-u.toArray.size) undef,defers:=[]} w:=by
  refine⟨G.1,fun i=>?_,rfl,by simp;omega⟩;rw[y6,am (Zf _),acd,Y6];cases hi:asv[i]? with
  |none=>exact .any _
  |some p=>
   have Y:i<u.length:=by rw[<-D];exact(Zb.1 hi).1
   have:=hv i p hi;have e:(u.toArray++aaX (fn.ntmps-u.toArray.size) undef).getD i undef=u.getD i undef:=by
    rw[Y7,aac (by simpa using Y),Y6];simp
   simp only[aaw];rw[e];exact this
 refine AW.then h A fun e a' j J S t hx b hq=>?_;obtain⟨he,r,s',a0,hp,hR⟩:=hq;obtain⟨x,c0,d0⟩:=G4 b0 b hl a0;have y:Fits J S ⟨s.f,t.h,t.nx⟩ nt a j:=⟨b.1,G.2.1.ext hx,G.2.2⟩
 have hK:K (a.put o.dst x) j:=by
  cases hd:o.dst with
  |none=>
   have:=fM hp hd;subst this;exact hk J S {f:=s.f,h:=t.h,nx:=t.nx} _ j hx y hR
  |some d=>
   obtain⟨h1,rfl⟩:=fL hp hd;exact hk J S {f:=(d,r)::s.f,h:=t.h,nx:=t.nx} _ j hx (y.put d _ x h1 d0) hR
 have:a'.defers=[]∧ ∃v,(results fn a'.tmps).run P j= .ok v j∧K (a.put o.dst v) j:=⟨b.2.2.1,x,c0,hK⟩
 rcases he with rfl|rfl<;>exact this
theorem UB{ty:Ty}(x:cD P ty){all rest:List Oper}{o:Oper}{c:Call}(hg:o.guard=jp)(ho:o.op= .call c){g:FuncId}{asv:List PV}(ha:bY s.f c=io (g,asv)){fn:Func}{A:Code}(d:P.funcs[g]? =io fn)(hb:fn.body=io A)
  (hn:(fn.name== "runtime.NumGoroutine")=lc) {y:Nat} (u:fn.ntmps=y) {l:List ResultVar} (hl:fn.results.toList=l) (j:asv.length<=y)
  (h:GO P y (.code A:: .Qs nt s.f (ly ty · l) o all rest::k) Q ⟨q6 0 asv,s.h,s.nx⟩):GO P nt (.ops all (o::rest)::k) Q s:=by
 refine dK (R:=fun t=>GO P nt (.ops all rest::k) Q t) hg (LC x ho ha d hb hn u hl j ?_) (fun t ht=>ht);intro M N a w Y;refine AW.then h Y fun e a' w' D F t hx b B=>⟨D,F,t,hx,b,?_⟩
 simp only[kp]at B;obtain⟨S,r,s',G,I,J⟩:=B;exact⟨S,r,s',G,I,J⟩
theorem Ql{ty:Ty}(D:cD P ty){all:List Oper}{todo pend:List (Nat×Oper)}{j:Nat}{o:Oper}{c:Call}(hrd:(j,o)∈todo)(hE:pj todo [j]=kw)(F: ∀x∈todo,waits o x.1=lc)(b: ∀x∈todo,aS x.2=kw-> ∀x∈pend,ji P nt all s x.2)(hpb:jM all pend o=kw)(hg:cJ nt all s.f o=io kw)(ho:o.op= .call c){g:FuncId}{asv:List PV}
  (ha:bY s.f c=io (g,asv)) {fn:Func} {J:Code} (y:P.funcs[g]? =io fn) (hb:fn.body=io J)
  (hn:(fn.name== "runtime.NumGoroutine")=lc) {I:Nat} (B:fn.ntmps=I) {l:List ResultVar} (hl:fn.results.toList=l) (A:asv.length<=I)
  (h:GO P I (.code J:: .Qt nt s.f (ly ty · l) j o all todo pend::k) Q ⟨q6 0 asv,s.h,s.nx⟩):GO P nt (.cX all todo pend::k) Q s:=by
 have d:aS o=lc:=by simp[aS,ho]
 refine Cq hE ⟨_,hrd,d⟩ b fun j' o' S _ hu=>?_;simp only[Zk]at S;subst S;have:=hu o hrd;subst this;refine⟨d,fun x G _=>F x G,hpb,hg,_,LC D ho ha y hb hn B hl A (R:=fun s'=>(∀x∈bp pend o,ji P nt all s' x.2)∧GO P nt (.cX all (todo.filter fun x=>!Zz x.1 j') (bp pend o)::k) Q s') ?_,fun s' hs=>hs⟩;intro M N a w hf;refine AW.then h hf fun e a' w' M' N' t G u Y=>⟨M',N',t,G,u,?_⟩
 simp only[kp]at Y;obtain⟨he,r,s',h1,h2,h3,h4⟩:=Y;exact⟨he,r,s',h1,h2,h3,h4⟩
theorem UA.more{b:Code}{Q:AQ}: ∀{n:Nat} {s:AS},UA P nt b Q n s->n≠0
 |0,_,h=>h.elim
 |_+1,_,_=>by simp
theorem LW{b:Code}{n:Nat}(h:GO P nt (.code b:: .Ih b n::k) Q s):GO P nt (.code (.loop b)::k) Q s:=by
 have h0:UA P nt b (kp P nt k Q) (n+1) s:=by
  intro M N a w Y;refine AW.then h Y fun e y F u x t D d hq=>⟨u,x,t,D,d,?_⟩
  cases e<;>exact hq
 intro M0 N0 a0 w0 c0
 let J:Act->World->Nat->Prop:=fun a w m=> ∃t M N,Ext M0 N0 (· <s.nx) s.h w0 M N (· <t.nx) t.h w∧Fits M N t nt a w∧UA P nt b (kp P nt k Q) m t
 have S:J a0 w0 (n+1):=⟨s,M0,N0,.refl _ _ _ _ _,c0,h0⟩
 have dG: ∀{p:Nat->Prop},(∃n,p n)-> ∃n,p n∧ ∀m,p m->n<=m:=by
  intro p ⟨n,hn⟩
  induction n using abR with
  |_ n ih=>
   by_cases B: ∃m,m<n∧p m
   .obtain⟨m,G,I⟩:=B;exact ih m G I
   .exact⟨n,hn,fun m I=>aba fun G=>B ⟨m,G,I⟩⟩
 refine wp_loop (fun a w=> ∃n,J a w n) (fun a w=>by classical exact if h: ∃n,J a w n then abE (dG h) else 0) ⟨_,S⟩ fun a w b0=>?_;obtain⟨⟨t,M,N,D,Y,hu⟩,d0⟩:=aa8 (dG b0);obtain⟨m,B⟩: ∃m,abE (dG b0)=m+1:=⟨abE (dG b0)-1,by have:=hu.more;omega⟩
 rw[B]at hu;refine AW.then hu Y fun e y F u x s' j d hr=>?_
 cases e with
 |normal=>
  have A:J y F m:=⟨s',u,x,D.trans j,d,hr⟩
  refine⟨⟨_,A⟩,?_⟩;simp only[dif_pos b0,dif_pos (⟨_,A⟩: ∃n,J y F n)];have:=(aa8 (dG (⟨_,A⟩: ∃n,J y F n))).2 _ A;omega
 |_=>exact⟨u,x,s',D.trans j,d,hr⟩
theorem go_round{b:Code}{n:Nat}(h:GO P nt (.code b:: .Ih b n::k) Q s):GO P nt (.Ih b (n+1)::k) Q s:=by
 intro M N a w x;refine AW.then h x fun e B D j u t A d y=>⟨j,u,t,A,d,?_⟩
 cases e<;>exact y
end
section
variable {M:Mem} {N:Nm} {w:World} {n:Nat} {h:AH}
theorem bD{i:Nat}{h:AH}: ∀j o,AH.get ((i,jp)::h) j=io o->j≠i∧h.get j=io o:=by
 intro j o b;rw[AH.ax]at b;split at b
 .cases b
 .rename_i d;exact⟨d,b⟩
theorem Rel.move(hr:Rel M N (· <n) h w){i:Nat}{o0:AO}(hi:h.get i=io o0)(h0:o0.real=kw)(G:World)(o:AO)(c0:G.os=w.os)(I:G.tape=w.tape)(J:G.output=w.output)(e0:G.heap.size=w.heap.size)
  (Y: ∀b,b≠N.aL i->G.heap[b]? =w.heap[b]?) (ho:OR M (N.with n (N.aL i) (N.ext i)) (· <n+1) G n o):
  Ext M N (· <n) h w M (N.with n (N.aL i) (N.ext i)) (· <n+1) ((n,io o)::(i,jp)::h) G∧Rel M (N.with n (N.aL i) (N.ext i)) (· <n+1) ((n,io o)::(i,jp)::h) G:=by
 have F:=N.gU n (N.aL i) (N.ext i);have d: ∀j p,AH.get ((n,io o)::(i,jp)::h) j=io p->(j=n∧p=o)∨(j<n∧j≠i∧h.get j=io p):=by
  intro j p y;rw[AH.ax]at y;split at y
  .rename_i S;exact .inl ⟨S,by simpa using y.symm⟩
  .obtain⟨A,B⟩:=bD j p y;exact .inr ⟨hr.used j p B,A,B⟩
 have d0:=hr.used i o0 hi;refine⟨⟨c0,I,J,by omega,fun b hb hn=>Y b (fun e=>hn i o0 hi h0 e.symm),.refl _,fun b c A B=>by simp[A]at B,F,fun i hi=>by omega,fun j p y x=>?_⟩,?_⟩
 .rcases d j p y with⟨rfl,rfl⟩|⟨A,B,D⟩
  .exact .inr ⟨i,o0,hi,h0,by simp⟩
  .exact .inr ⟨j,p,D,x,(F.aL j A).symm⟩
 .refine⟨fun b c hb=>?_,fun j p y=>?_,fun j p y x=>?_,fun j p y=>?_,fun j k p q y a0 hp hq u=>?_⟩
  .have b0:b≠N.aL i:=fun e=>by
    have:=hr.fo i o0 hi h0;rw[<-e,hb]at this;simp at this
   exact(hr.eW b c hb).mono (Y b b0)
  .rcases d j p y with⟨rfl,rfl⟩|⟨A,B,D⟩<;>omega
  .rcases d j p y with⟨rfl,rfl⟩|⟨A,B,D⟩
   .simpa using hr.fo i o0 hi h0
   .rw[F.aL j A];exact hr.fo j p D x
  .rcases d j p y with⟨rfl,rfl⟩|⟨A,B,D⟩
   .exact ho
   .cases x:p.real with
    |true=>exact(hr.obj j p D).mono (.refl _) F (fun i hi=>by omega) A (Y _ (fun e=>B (hr.inj j i p o0 D hi x h0 e)))
    |false=>
     cases p with
     |row sz es=>cases es with
      |nil=>exact .inl Z
      |cons=>cases x
     |bS l T=>cases l with
      |nil=>exact .inl Z
      |cons=>cases x
     |_=>cases x
  .rcases d j p y with⟨rfl,rfl⟩|⟨A,B,D⟩<;>rcases d k q a0 with⟨rfl,rfl⟩|⟨h4,h5,h6⟩
   .rfl
   .rw[F.aL k h4]at u;simp at u;exact absurd (hr.inj _ _ _ _ hi h6 h0 hq u).symm h5
   .rw[F.aL j A]at u;simp at u;exact absurd (hr.inj _ _ _ _ D hi hp h0 u) B
   .rw[F.aL j A,F.aL k h4]at u;exact hr.inj _ _ _ _ D h6 hp hq u
theorem Rel.del{U:Nat->Prop}(hr:Rel M N U h w)(i:Nat):Rel M N U ((i,jp)::h) w:=
 ⟨hr.eW,fun j o b=>hr.used j o (bD j o b).2,fun j o b d=>hr.fo j o (bD j o b).2 d,fun j o b=>hr.obj j o (bD j o b).2,
  fun j k o p b u=>hr.inj j k o p (bD j o b).2 (bD k p u).2⟩
theorem Ext.del{u:Mem}{x:Nm}{U y:Nat->Prop}{A:AH}{B:World}(b:Ext M N U h w u x y A B)(i:Nat):Ext M N U h w u x y ((i,jp)::A) B:=
 ⟨b.os,b.tape,b.output,b.size,b.iT,b.sb,b.kr,b.nm,b.ule,fun j o D d=>b.jt j o (bD j o D).2 d⟩
theorem Rel.swap{U:Nat->Prop}{i j:Nat}(d:i≠j){o p:Option AO}(hr:Rel M N U ((i,o)::(j,p)::h) w):Rel M N U ((j,p)::(i,o)::h) w:=by
 have e: ∀k,AH.get ((j,p)::(i,o)::h) k=AH.get ((i,o)::(j,p)::h) k:=by
  intro k;simp only[AH.ax];by_cases u:k=i
  .subst u;rw[be d,am Z,am Z]
  .simp[u]
 exact⟨hr.eW,fun k o b=>hr.used k o (by rw[<-e];exact b),fun k o b=>hr.fo k o (by rw[<-e];exact b),fun k o b=>hr.obj k o (by rw[<-e];exact b),
  fun k l o p b x=>hr.inj k l o p (by rw[<-e];exact b) (by rw[<-e];exact x)⟩
end
inductive Src (h:AH) (sz:Nat):PV->List (List PV)->Prop
 |de (n:Nat) (el:Nat->List IV):Src h sz (.iv (.de sz n el)) ((Zy n).map fun k=>(el k).map .iv)
 |row (j off n:Nat) (fs:List (List PV)) (hj:h.get j=io (.row sz fs)) (hle:off+n<=fs.length):Src h sz (.sl j off n sz) ((fs.drop off).take n)
 |nil:Src h sz (.iv (.v (.slice jp 0 0))) []
theorem qH{sz:Nat}: ∀{es:List (List PV)},(∀(k:Nat) (e:List PV),es[k]? =io e->e.length=sz)-> ∀j p,es.flatten[j]? =io p-> ∃k e i,es[k]? =io e∧e[i]? =io p∧j=k*sz+i
 | [],_,j,p,h=>by simp at h
 |e::r,hl,j,p,h=>by
  rw[ab1]at h;have y:=hl 0 e Z;rcases aag j e.length with hj|hj
  .rw[Zp hj]at h;exact⟨0,e,j,rfl,h,by simp⟩
  .rw[Zv hj]at h;obtain⟨k,b,i,d,u,x⟩:=qH (fun k e h=>hl (k+1) e (by simpa using h)) _ p h;exact⟨k+1,b,i,by simpa using d,u,by rw[aal];omega⟩
theorem mR{sz:Nat}: ∀{es:List (List PV)},(∀(k:Nat) (e:List PV),es[k]? =io e->e.length=sz)->es.flatten.length=es.length*sz
 | [],_=>by simp
 |e::r,hl=>by
  rw[ab1,Y8,mR (fun k e h=>hl (k+1) e (by simpa using h)),hl 0 e Z,ZI,aal];omega
theorem qG{sz:Nat}: ∀{es:List (List PV)},(∀(k:Nat) (e:List PV),es[k]? =io e->e.length=sz)-> ∀k e i p,es[k]? =io e->e[i]? =io p->es.flatten[k*sz+i]? =io p
 | [],_,k,e,i,p,h,_=>by simp at h
 |e0::r,hl,k,e,i,p,h,hi=>by
  rw[ab1];have b:=hl 0 e0 Z;cases k with
  |zero=>
   simp at h;subst h;rw[abb,Zu,Zp (Zb.1 hi).1];exact hi
  |succ k=>
   rw[Zv (by rw[b,aal];omega)];rw[show(k+1)*sz+i-e0.length=k*sz+i by rw[b,aal];omega];exact qG (fun k e h=>hl (k+1) e (by simpa using h)) k e i p (by simpa using h) hi
section
variable {P:Program} {ty:Ty} {M:Mem} {N:Nm} {w:World} {nt:Nat} {s:AS} {a:Act}
theorem Src.ok{sz:Nat}{p:PV}{news:List (List PV)}(hs:Src s.h sz p news)(hf:Fits M N s nt a w){y:Value}(hy:VR M N (· <s.nx) p y):
  (∀(k:Nat) (e:List PV),news[k]? =io e->e.length=sz)∧ ∃I c,y= .slice I news.length c∧(news≠ []-> ∃b a0,I=io ⟨b,a0,jp⟩∧
   ∀j p,news.flatten[j]? =io p-> ∃u,w.cell? ⟨b,a0+j,jp⟩=io u∧VR M N (· <s.nx) p u):=by
 cases hs with
 |de n el=>
  cases hy with
  |iv _ _ F=>
   cases F with
   |j8 _ _ I c=>exact⟨by simp,I,c,by simp,by simp⟩
   |de _ _ _ b a0 c hn hc hl hm hr=>
    have B: ∀(k:Nat) (e:List PV),((Zy n).map fun k=>(el k).map PV.iv)[k]? =io e->e.length=sz:=by
     intro k e x;rw[Zg,Zi]at x;obtain⟨k',D,rfl⟩:=x;obtain⟨d,A⟩:=Zb.1 D;simp at A d;subst A;simpa using hl k d
    refine⟨B,_,c,by simp,fun _=>⟨b,a0,rfl,fun j p hp=>?_⟩⟩;obtain⟨k,e,i,d,A,rfl⟩:=qH B j p hp;rw[Zg,Zi]at d;obtain⟨k',D,rfl⟩:=d;obtain⟨J,h4⟩:=Zb.1 D;simp at h4 J;subst h4;rw[Zg,Zi]at A;obtain⟨q,hq,rfl⟩:=A;have F:i<sz:=by rw[<-hl k J];exact(Zb.1 hq).1
    have h5:=hm k i J F;cases hv:M.cell b (a0+k*sz+i) with
    |none=>simp[hv]at h5
    |some u=>
     refine⟨u,by rw[<-aaI];exact hf.1.SG hv,.iv _ _ ?_⟩;have:=hr k i q J hq;rw[hv]at this;exact this
 |row j a0 n fs hj hle=>
  have S:=hf.1.obj j _ hj;have base:(∀(k:Nat) (e:List PV),fs[k]? =io e->e.length=sz)-> ∀(k:Nat) (e:List PV),((fs.drop a0).take n)[k]? =io e->e.length=sz:=by
   intro h k e x;rw[Z6]at x;split at x
   .rw[aap]at x;exact h _ e x
   .cases x
  cases hy with
  |pW _ _ hU=>exact⟨by simp,jp,0,by simp,by simp⟩
  |sle _ _ cap hU hc x=>exact⟨by simp,io ⟨N.aL j,0,jp⟩,cap,by simp,by simp⟩
  |sl _ _ _ _ cap hU h0 hl hc x=>
   rcases S with rfl|⟨hsz,c,T,g1,g2,g3,g4,g5⟩
   .simp at hle;omega
   refine⟨base g4,_,cap,by simp;rw[Nat.min_eq_left (by omega)],fun _=>⟨N.aL j,a0*sz,rfl,fun i p hp=>?_⟩⟩;obtain⟨k,e,G,d,A,rfl⟩:=qH (base g4) i p hp;rw[Z6]at d;split at d
   .rename_i hk;rw[aap]at d;have c0:G<sz:=by rw[<-g4 _ e d];exact(Zb.1 A).1
    have Y:a0+k<fs.length:=(Zb.1 d).1;have b0:(a0+k)*sz+G<c.size:=by
     have:(a0+k+1)*sz<=fs.length*sz:=ZF _ Y;rw[aal]at this;omega
    refine⟨c.getD ((a0+k)*sz+G) undef,?_,g5 _ e _ p d A⟩;rw[show a0*sz+(k*sz+G)=(a0+k)*sz+G by rw[aal];omega];simp[World.cell?,g1,Y7,b0]
   .cases d
 |nil=>
  cases hy with
  |iv _ _ F=>cases F with
   |v=>exact⟨by simp,jp,0,rfl,by simp⟩
theorem wX{l:List PV}{b off:Nat}(h: ∀j p,l[j]? =io p-> ∃u,w.cell? ⟨b,off+j,jp⟩=io u∧VR M N (· <s.nx) p u):
  ∃y:List Value,y.length=l.length∧(∀(j:Nat) (u:Value),y[j]? =io u->w.cell? ((⟨b,off,jp⟩:Addr).add j)=io u)∧ ∀(j:Nat) (p:PV),l[j]? =io p->VR M N (· <s.nx) p (y.getD j undef):=by
 refine⟨(Zy l.length).map fun j=>(w.cell? ⟨b,off+j,jp⟩).getD undef,by simp,fun j u hu=>?_,fun j p D=>?_⟩
 .rw[Zg,Zi]at hu;obtain⟨G,d,rfl⟩:=hu;obtain⟨A,B⟩:=Zb.1 d;simp at A B;subst B;obtain⟨u,hu,_⟩:=h j _ (Za A);rw[iF,hu];rfl
 .have x:j<l.length:=(Zb.1 D).1;obtain⟨u,hu,F⟩:=h j p D;rw[Y6];simp[x,hu,F]
theorem ot(t ty e:TypeId)(i:TypeInfo)(I:P.underlying t=io (.slice e))(hi:P.info? e=io i)(T:TypeId)
  (g b x:Nat) (d:Array Value) (hg:w.heap[g]? =io (.cells d T (0,0)))
  (a:Addr) (m c:Nat) (news:List Value) (G:news.length=m*i.size) (y: ∀(j:Nat) (u:Value),news[j]? =io u->w.cell? (a.add j)=io u) (h1: ∀u∈news,u.oneCell'=kw)
  (A:b+m<=x) (B:b*i.size+news.length<=d.size):
  (Builtin.append_ #[t,t] ty #[.slice (io ⟨g,0,jp⟩) b x,.slice (io a) m c]).run P w=
   .ok (.slice (io ⟨g,0,jp⟩) (b+m) x) (w.setRow g (d.toList.take (b*i.size)++news++d.toList.drop (b*i.size+news.length)).toArray):=by
 have F:=run_firstCells_some (P:=P) w i.size m a m c news G y;have D:=run_storeCells_at P g (b*i.size) T news 0 d w hg (by simpa using B) h1;simp only[abg]at D;simp[Builtin.append_,run_underlying I,sizeOf,typeInfo,hi,Builtin.lenOf,A,F,Addr.add_lit,D]
theorem lv(t ty e:TypeId)(i:TypeInfo)(B:P.underlying t=io (.slice e))(hi:P.info? e=io i)(x:Option Addr)(j d:Nat)(u:j<=d)(y:Option Addr)(c:Nat)(hs:x=jp∨ ∃b o,x=io ⟨b,o,jp⟩):
  (Builtin.append_ #[t,t] ty #[.slice x j d,.slice y 0 c]).run P w= .ok (.slice x j d) w:=by
 have A:(Builtin.firstCells i.size 0 (.slice y 0 c)).run P w= .ok #[] w:=by
  cases y with
  |none=>simp[Builtin.firstCells]
  |some a=>simp[Builtin.firstCells,loadCells,loadCellsFrom]
 rcases hs with rfl|⟨b,o,rfl⟩
 .simp[Builtin.append_,run_underlying B,sizeOf,typeInfo,hi,Builtin.lenOf,u,A]
 .simp[Builtin.append_,run_underlying B,sizeOf,typeInfo,hi,Builtin.lenOf,u,A,storeCells]
def uO(s:AS)(i sz:Nat)(es news:List (List PV)):AS:=match s with|⟨f,h,n⟩=>⟨f,(n,io (.row sz (es++news)))::(i,jp)::h,n+1⟩
theorem M5(s:AS)(i sz:Nat)(es news:List (List PV)):(uO s i sz es news).h=(s.nx,io (.row sz (es++news)))::(i,jp)::s.h:=by cases s;rfl
theorem U7(s:AS)(i sz:Nat)(es news:List (List PV)):(uO s i sz es news).f=s.f:=by cases s;rfl
theorem nH(s:AS)(i sz:Nat)(es news:List (List PV)):(uO s i sz es news).nx=s.nx+1:=by cases s;rfl
theorem q8{i sz:Nat}{es news:List (List PV)}{b:Mem}{d:Nm}{j:World}(hf:Fits M N s nt a w)(u:Ext M N (· <s.nx) s.h w b d (· <s.nx+1) ((s.nx,io (.row sz (es++news)))::(i,jp)::s.h) j)
  (hr:Rel b d (· <s.nx+1) ((s.nx,io (.row sz (es++news)))::(i,jp)::s.h) j):
  Ext M N (· <s.nx) s.h w b d (· <(uO s i sz es news).nx) (uO s i sz es news).h j∧Fits b d (uO s i sz es news) nt a j:=by
 rw[M5,nH];refine⟨u,?_,?_,hf.2.2⟩
 .rw[M5,nH];exact hr
 .rw[U7,nH];exact hf.2.1.ext u
theorem Ext.swap{U A:Nat->Prop}{h d:AH}{x:Mem}{y:Nm}{D:World}{i j:Nat}(u:i≠j){o p:Option AO}(b:Ext M N U h w x y A ((i,o)::(j,p)::d) D):Ext M N U h w x y A ((j,p)::(i,o)::d) D:=by
 have e: ∀k,AH.get ((j,p)::(i,o)::d) k=AH.get ((i,o)::(j,p)::d) k:=by
  intro k;simp only[AH.ax];by_cases B:k=i
  .subst B;rw[be u,am Z,am Z]
  .simp[B]
 exact⟨b.os,b.tape,b.output,b.size,b.iT,b.sb,b.kr,b.nm,b.ule,fun k o F=>b.jt k o (by rw[<-e];exact F)⟩
theorem U6(x1:cD P ty){o:Oper}{x y:Operand}{t u:TypeId}(ho:o.op= .call ⟨.builtin .append, #[x,y], #[t,t]⟩){e d:cE}(ht:ty t=io e)(hk:e.k= .bc (.slice u))(hu:ty u=io d)
  {i len sz:Nat} {es news:List (List PV)} {py:PV} (hx:ev s.f x= .sl i 0 len sz) (hi:s.h.get i=io (.row sz es)) (F:es.length=len) (k2:d.size=sz) (hz:d.zero.cells.size=sz) (j2:0<sz)
  (f2:ev s.f y=py) (hy:Src s.h sz py news) (n1: ∀e∈news,jA e=kw) (hb:(len+news.length)*d.bytes<=140737488355328) (p2:len+news.length<=140737488355328)
  {s':AS} (hp:putDst nt o (.sl s.nx 0 (len+news.length) sz) (uO s i sz es news)=io s'):OT P nt o s (fun t=>t=s'):=by
 refine OT.value hp fun M N a w hf=>?_;subst k2;obtain⟨⟨ii,r0,x0,c2,v1⟩,_⟩:=x1 u _ hu
 have t0:P.underlying t=io (.slice u):=by
  have:=(x1 t _ ht).2.1;rw[hk]at this;exact this.1
 have r1:=a7 hf.2.1 x;rw[hx]at r1;have y1:=a7 hf.2.1 y;rw[f2]at y1;obtain⟨S,ao,c,o2,e0⟩:=hy.ok hf y1;have B: ∀v w',(Builtin.append_ #[t,t] o.type #[a.eval x,a.eval y]).run P w= .ok v w'->(execOp a.eval o).run P w= .ok (.value v) w':=by
  intro v w' h;simp only[execOp,ho,resolve];simp[invoke,builtin,h]
 rw[o2]at B;have r2:i<s.nx:=hf.1.used i _ hi;have y0:s.nx≠i:=by omega
 have e2:=hf.1.obj i _ hi;have c0:(len+news.length)*ii.bytes<=140737488355328:=by rw[c2];exact hb
 have i0: ∀(I G:List Value) (a0:Nat),I.length=es.length*d.size->G.length=news.length*d.size->(∀(k:Nat) (e:List PV) (j:Nat) (p:PV),es[k]? =io e->e[j]? =io p->VR M N (· <s.nx) p (I.getD (k*d.size+j) undef))->
   (∀(k:Nat) (e:List PV),es[k]? =io e->e.length=d.size)->(∀(j:Nat) (p:PV),news.flatten[j]? =io p->VR M N (· <s.nx) p (G.getD j undef))->len+news.length<=a0->a0<=maxLen->0<len+news.length->
   ∀z:Array Value,z=I.toArray++G.toArray++Builtin.zeroCells d.zero.cells (a0-(len+news.length))->
   ∃M' N',Ext M N (· <s.nx) s.h w M' N' (· <(uO s i d.size es news).nx) (uO s i d.size es news).h (w.drew.alloc (.cells z u))∧Fits M' N' (uO s i d.size es news) nt a (w.drew.alloc (.cells z u))∧
    VR M' N' (· <(uO s i d.size es news).nx) (.sl s.nx 0 (len+news.length) d.size) (.slice (io ⟨w.heap.size,0,jp⟩) (len+news.length) a0):=by
  intro I G a0 m1 Y m2 u1 l2 m0 b2 o1 z s1;have g0:z.size=a0*d.size:=by
   rw[s1,abp,abp,size_zeroCells,hz];simp only[List.size_toArray,m1,Y,F];rw[<-aal,<-aal,Nat.add_sub_cancel' m0]
  obtain⟨N',h1,h2,h3,h4,h5⟩:=hf.1.drew.alloc (.cells z u) (.row d.size (es++news)) z.size (fun N' g1 g2 g3=>by
   refine .inr ⟨j2,z,u,by rw[g1];exact heap_alloc_new _ _,g2.symm,?_,fun k e A=>?_,fun k e j p A J=>?_⟩
   .rw[g0,Y8,F];exact ZF _ m0
   .rcases aag k es.length with hk|hk
    .rw[Zp hk]at A;exact u1 k e A
    .rw[Zv hk]at A;exact S _ e A
   .rcases aag k es.length with hk|hk
    .rw[Zp hk]at A;have j1:j<d.size:=by rw[<-u1 k e A];exact(Zb.1 J).1
     have q0:k*d.size+j<I.length:=by
      rw[m1];have:(k+1)*d.size<=es.length*d.size:=ZF _ hk;rw[aal]at this;omega
     have:=m2 k e j p A J;have e1:z.getD (k*d.size+j) undef=I.getD (k*d.size+j) undef:=by
      rw[s1,Y7,Array.append_assoc,aac (by simpa using q0),Y6];simp
     rw[e1];exact this.mono (.refl _) g3 (fun i hi=>by omega)
    .rw[Zv hk]at A;have j1:j<d.size:=by rw[<-S _ e A];exact(Zb.1 J).1
     have l1:k-es.length<news.length:=(Zb.1 A).1;have i1:=qG S _ e j p A J;have q0:(k-es.length)*d.size+j<G.length:=by
      rw[Y];have:(k-es.length+1)*d.size<=news.length*d.size:=ZF _ l1;rw[aal]at this;omega
     have f0:k*d.size+j=I.length+((k-es.length)*d.size+j):=by
      rw[m1,Nat.sub_mul];have:es.length*d.size<=k*d.size:=ZF _ hk;omega
     have:=l2 _ p i1;have e1:z.getD (k*d.size+j) undef=G.getD ((k-es.length)*d.size+j) undef:=by
      rw[s1,Y7,f0,aac (by simp;omega),Array.getElem?_append_right (by simp),Y6];simp
     rw[e1];exact this.mono (.refl _) g3 (fun i hi=>by omega))
  have i2:=(h5.del i).swap (Ne.symm y0);have n2:=(((Ext.drew (M:=M) (N:=N) (U:=(· <s.nx)) (h:=s.h) (w:=w)).trans h4).del i).swap (Ne.symm y0);obtain⟨g1,g2⟩:=q8 hf n2 i2;refine⟨M,N',g1,g2,?_⟩;rw[nH];have:=VR.sl (M:=M) (N:=N') (U:=(· <s.nx+1)) s.nx 0 (len+news.length) d.size a0 (by omega) o1 m0 b2 (by rw[h2,g0];simp);rw[h1,abb]at this;exact this
 have o0: ∀G:List Value,G.length=news.flatten.length->G.length=news.length*ii.size:=fun G h=>by rw[h,mR S,x0]
 generalize a.eval x=vx at r1 B;cases r1 with
 |pW _ _ hU=>
  have A:es=[]:=by simpa using F
  subst A;by_cases hm:news=[]
  .subst hm;have D:=lv (P:=P) (w:=w) t o.type u ii t0 r0 jp 0 0 (Zc _) ao c (.inl Z);obtain⟨h1,h2⟩:=hf.1.Nw d.size;obtain⟨g1,g2⟩:=q8 (es:=[]) (news:=[]) (i:=i) hf ((h1.del i).swap (Ne.symm y0)) ((h2.del i).swap (Ne.symm y0));exact⟨_,w,M,N,B _ _ D,g1,g2,.pW _ _ (by rw[nH];omega)⟩
  .obtain⟨b,b1,d1,b0⟩:=e0 hm;subst d1;obtain⟨G,Y,a1,w0⟩:=wX (s:=s) b0;have w1:0<news.length:=List.length_pos_iff.2 hm;have D:=run_append_nil (P:=P) w t o.type u ii d.zero t0 r0 v1 ⟨b,b1,jp⟩ news.length c G (o0 G Y) a1 w1 (by omega) (by simp only[aai,Zu]at c0;omega);obtain⟨M',N',g1,g2,g3⟩:=i0 [] G (grownCap w news.length 0 u) (by simp) (by rw[Y,mR S]) (by simp) (by simp) w0 (by simpa using grownCap_ge w news.length 0 u) (grownCap_le_maxLen w _ _ _ (by simp only[maxLen];omega)) (by omega) _ Z;simp only[Zu,aaN] at*
   exact⟨_,_,M',N',B _ _ D,by simpa using g1,by simpa using g2,by simpa using g3⟩
 |sl _ _ _ _ a0 hU h0 hl hc hext=>
  rcases e2 with rfl|⟨hsz0,cur,T,q1,q2,q3,q4,q5⟩
  .simp at F;omega
  have k0:(AO.row d.size es).real=kw:=by cases es with
   |nil=>simp at F;omega
   |cons=>rfl
  rw[abb]at B;have n0:cur.size=a0*d.size:=by rw[q2,<-hext,Zu]
  by_cases hm:news=[]
  .subst hm;have D:=lv (P:=P) (w:=w) t o.type u ii t0 r0 (io ⟨N.aL i,0,jp⟩) len a0 hl ao c (.inr ⟨_,_,rfl⟩)
   obtain⟨h1,h2⟩:=hf.1.move hi k0 w (.row d.size (es++ [])) Z Z Z Z (fun _ _=>rfl) (by
    rw[ZL]
    exact .inr ⟨hsz0,cur,T,by simpa using q1,by simpa using q2,q3,q4,fun k e j p A J=>(q5 k e j p A J).mono (.refl _) (N.gU _ _ _) (fun i hi=>by omega)⟩)
   obtain⟨g1,g2⟩:=q8 (es:=es) (news:=[]) (i:=i) hf h1 h2;refine⟨_,w,M,_,B _ _ D,g1,g2,?_⟩;have:=VR.sl (M:=M) (N:=N.with s.nx (N.aL i) (N.ext i)) (U:=(· <s.nx+1)) s.nx 0 len d.size a0 (by omega) h0 hl hc (by simpa using hext);rw[nH];simpa using this
  .obtain⟨b,b1,d1,b0⟩:=e0 hm;subst d1;obtain⟨G,Y,a1,w0⟩:=wX (s:=s) b0;have w1:0<news.length:=List.length_pos_iff.2 hm;have p0:G.length=news.length*d.size:=by rw[Y,mR S]
   have s0: ∀(j:Nat) (v:Value),(cur.toList.take (len*d.size))[j]? =io v->w.cell? ((⟨N.aL i,0,jp⟩:Addr).add j)=io v:=by
    intro j v hv;rw[Z6]at hv;split at hv
    .rw[iF,Zu];simp only[World.cell?,q1];simpa using hv
    .cases hv
   have s2:len*d.size<=cur.size:=by rw[n0];exact ZF _ hl
   have j0: ∀(k:Nat) (e:List PV) (j:Nat) (p:PV),es[k]? =io e->e[j]? =io p->k*d.size+j<len*d.size:=by
    intro k e j p A J;have hk:k<len:=by rw[<-F];exact(Zb.1 A).1
    have j1:j<d.size:=by rw[<-q4 k e A];exact(Zb.1 J).1
    have:(k+1)*d.size<=len*d.size:=ZF _ hk;rw[aal]at this;omega
   by_cases d0:len+news.length<=a0
   .have f1:len*d.size+G.length<=cur.size:=by rw[p0,<-aal,n0];exact ZF _ d0
    have v0: ∀v∈G,v.oneCell'=kw:=by
     intro v hv;obtain⟨j,J⟩:=Z7 hv;have d2:j<news.flatten.length:=by rw[<-Y];exact(Zb.1 J).1
     have hp:=Za d2;obtain⟨k,e,i',h1,h2,_⟩:=qH S j _ hp;have:=(w0 j _ hp).one (oK (n1 e (ZC h1)) i' _ h2);rw[Y6,J]at this;exact this
    have D:=ot (P:=P) (w:=w) t o.type u ii t0 r0 T (N.aL i) len a0 cur q1 ⟨b,b1,jp⟩ news.length c G (o0 G Y) a1 v0 d0 (by rw[x0];exact f1);rw[x0]at D;generalize hL:(cur.toList.take (len*d.size)++G++cur.toList.drop (len*d.size+G.length)).toArray=L at D;have t1:L.size=cur.size:=by rw[<-hL];simp;omega
    have p1:=setRow_heap w (N.aL i) cur L T (0,0) q1;have a2: ∀j,j<len*d.size->L.getD j undef=cur.getD j undef:=by
     intro j J;rw[<-hL,Y7,Y7];simp only[aar];rw[Zj,Zp (by simp;omega),Z6,am J,aah]
    have z1: ∀j,j<G.length->L.getD (len*d.size+j) undef=G.getD j undef:=by
     intro j J;rw[<-hL,Y7,Y6];simp only[aar];rw[Zp (by simp;omega),Zv (by simp;omega)];congr 2;simp;omega
    obtain⟨h1,h2⟩:=hf.1.move hi k0 (w.setRow (N.aL i) L) (.row d.size (es++news)) Z Z Z (by simp) (fun b hb=>by
      simp only[World.setRow,Z2]
      rw[be (fun e=>hb e.symm)]) (by
     refine .inr ⟨hsz0,L,T,by simpa using p1,by rw[t1];simpa using q2,?_,fun k e A=>?_,fun k e j p A J=>?_⟩
     .rw[t1,n0,Y8,F];exact ZF _ d0
     .rcases aag k es.length with hk|hk
      .rw[Zp hk]at A;exact q4 k e A
      .rw[Zv hk]at A;exact S _ e A
     .rcases aag k es.length with hk|hk
      .rw[Zp hk]at A;rw[a2 _ (j0 k e j p A J)];exact(q5 k e j p A J).mono (.refl _) (N.gU _ _ _) (fun i hi=>by omega)
      .rw[Zv hk]at A;have j1:j<d.size:=by rw[<-S _ e A];exact(Zb.1 J).1
       have l1:k-es.length<news.length:=(Zb.1 A).1;have i1:=qG S _ e j p A J;have q0:(k-es.length)*d.size+j<G.length:=by
        rw[p0];have:(k-es.length+1)*d.size<=news.length*d.size:=ZF _ l1;rw[aal]at this;omega
       have f0:k*d.size+j=len*d.size+((k-es.length)*d.size+j):=by
        rw[<-F,Nat.sub_mul];have:es.length*d.size<=k*d.size:=ZF _ hk;omega
       rw[f0,z1 _ q0]
       exact(w0 _ p i1).mono (.refl _) (N.gU _ _ _) (fun i hi=>by omega))
    obtain⟨g1,g2⟩:=q8 (es:=es) (news:=news) (i:=i) hf h1 h2;refine⟨_,_,M,_,B _ _ D,g1,g2,?_⟩;have:=VR.sl (M:=M) (N:=N.with s.nx (N.aL i) (N.ext i)) (U:=(· <s.nx+1)) s.nx 0 (len+news.length) d.size a0 (by omega) (by omega) d0 hc (by simpa using hext);rw[nH];simpa using this
   .have D:=run_append_grow (P:=P) w t o.type u ii d.zero t0 r0 v1 ⟨N.aL i,0,jp⟩ len a0 (cur.toList.take (len*d.size)) (by rw[x0];simp;omega) s0 ⟨b,b1,jp⟩ news.length c G (o0 G Y) a1 (by omega) (by omega)
     (growslice_fits (by omega) c0)
    obtain⟨M',N',g1,g2,g3⟩:=i0 (cur.toList.take (len*d.size)) G (grownCap w (len+news.length) a0 u) (by rw[F];simp;omega) p0 (fun k e j p A J=>by
      have:=q5 k e j p A J;have q0:=j0 k e j p A J;rw[Y6,Z6,am q0,aah]
      rw[Y7]at this;exact this) q4 w0 (grownCap_ge w _ _ _) (grownCap_le_maxLen w _ _ _ (by simp only[maxLen];omega)) (by omega) _ Z
    exact⟨_,_,M',N',B _ _ D,g1,g2,g3⟩
def TJ(h:AH)(sz:Nat):PV->Option (List (List PV))
 | .iv (.de sz' n el)=>match Zz sz' sz with
  |true=>io ((Zy n).map fun k=>(el k).map .iv)
  |false=>jp
 | .iv (.v (.slice jp 0 0))=>io []
 | .sl j off n sz'=>match Zz sz' sz,h.get j with
  |true,io (.row sz2 fs)=>match Zz sz2 sz,aa2 (off+n) fs.length with
   |true,kw=>io ((fs.drop off).take n)
   |_,_=>jp
  |_,_=>jp
 |_=>jp
theorem GJ{h:AH}{sz:Nat}{p:PV}{news:List (List PV)}(hs:TJ h sz p=io news):Src h sz p news:=by
 unfold TJ at hs;split at hs
 .split at hs
  .rename_i hb;simp only[Y9]at hs;have:=Zt hb;subst this;subst hs;exact .de _ _
  .cases hs
 .simp only[Y9]at hs;subst hs;exact .nil
 .split at hs
  .rename_i b y;split at hs
   .rename_i d j;simp only[Y9]at hs;have u:=Zt b;have x:=Zt d;subst u;subst x;subst hs;exact .row _ _ _ _ y (Y5 j)
   .cases hs
  .cases hs
 .cases hs
def allOnes:List (List PV)->Bool
 | []=>kw
 |e::r=>match jA e with
  |true=>allOnes r
  |false=>lc
theorem mY: ∀{l:List (List PV)},allOnes l=kw-> ∀e∈l,jA e=kw
 | [],_,e,h=>by cases h
 |c::l,h,e,he=>by
  simp only[allOnes]at h;split at h
  .rename_i b;rcases Zq.1 he with rfl|he
   .exact b
   .exact mY h e he
  .cases h
def xu(s:AS)(t sz:Nat):AS:=match s with|⟨f,h,n⟩=>⟨(t,.sl n 0 0 sz)::f,(n,io (.row sz []))::h,n+1⟩
theorem Nv{o:Oper}{R:AS->Prop}{t sz:Nat}(x:s.f.get t= .iv (.v (.slice jp 0 0)))(h:OT P nt o (xu s t sz) R):OT P nt o s R:=by
 intro M N a w b K Z I;obtain⟨Y,sh,sn⟩:=s;obtain⟨D,F⟩:=b.1.Nw sz;have j:Fits M N (xu ⟨Y,sh,sn⟩ t sz) nt a w:=by
  refine⟨F,fun k=>?_,b.2.2⟩;simp only[xu];rw[AF.ax];split
  .rename_i u;subst u;have:=b.2.1 k;simp only at x this;rw[x]at this;generalize a.tmps.getD k undef=v at this;cases this with
   |iv _ _ h=>cases h with
    |v=>exact .pW _ _ (aax _)
  .exact(b.2.1 k).mono (.refl _) (.refl _ _) (fun i G=>aaL G)
 exact h M N a w j K Z fun y A s' B w' S d J=>I y A s' B w' (D.trans S) d J
def FN(s:AS)(op:Op):Option (Nat×TypeId):=
 match op with
 | .call ⟨.builtin .append,args,tys⟩=>match args.toList,tys.toList with
  | [.tmp t0,_],[t,_]=>match s.f.get t0 with
   | .iv (.v (.slice jp 0 0))=>io (t0,t)
   |_=>jp
  |_,_=>jp
 |_=>jp
theorem IZ{op:Op}{t0:Nat}{t:TypeId}(h:FN s op=io (t0,t)):s.f.get t0= .iv (.v (.slice jp 0 0)):=by
 unfold FN at h;split at h
 .split at h
  .split at h
   .rename_i b;simp only[Y9,Zl]at h;rw[<-h.1];exact b
   .cases h
  .cases h
 .cases h
end
end
section
section
variable {kc:KC} {V:Type} {M:Mem} {e:V->IV} {m:List (kc.K×V)} {ents:Array MapEntry} {clock:Nat}
theorem l0.Ma(h:l0 M kc e m ents clock){j:Nat}(hj:j<ents.size):ents.getD j em=ents[j]:=by simp[Y7,hj]
theorem l0.set(h:l0 M kc e m ents clock){i:Nat}{k:kc.K}{v:V}{y:Value}(hv:IR M (e v) y):l0 M kc e (m.set i (k,v)) (ents.modify i fun x=>{x with key:=kc.ek k,val:=y}) clock:=by
 have hb: ∀(j:Nat) (f:MapEntry),(ents.modify i fun x=>{x with key:=kc.ek k,val:=y})[j]? =io f-> ∃g,ents[j]? =io g∧g.born=f.born:=by
  intro j f d;rw[Z2]at d;split at d
  .obtain⟨g,G,rfl⟩:=Zi.1 d;exact⟨g,G,rfl⟩
  .exact⟨f,d,rfl⟩
 have I: ∀(j:Nat) (x:kc.K×V),(m.set i (k,v))[j]? =io x->(j=i∧x=(k,v)∧i<m.length)∨(j≠i∧m[j]? =io x):=by
  intro j x b;rw[ZV]at b;split at b
  .rename_i B;split at b
   .simp only[Y9]at b;exact .inl ⟨B.symm,b.symm,by assumption⟩
   .cases b
  .rename_i B;exact .inr ⟨fun e=>B e.symm,b⟩
 refine⟨by simp[h.size],fun j x b=>?_,fun j x b=>?_,fun j l f g d G F=>?_,fun j f d=>?_⟩
 .rcases I j x b with⟨rfl,rfl,D⟩|⟨u,A⟩
  .have:j<ents.size:=by rw[h.size];exact D
   rw[Y7,Z2,am Z,Z4 this];rfl
  .have:=h.key j x A;rw[Y7,Z2,be (fun e=>u e.symm),<-Y7];exact this
 .rcases I j x b with⟨rfl,rfl,D⟩|⟨u,A⟩
  .have:j<ents.size:=by rw[h.size];exact D
   rw[Y7,Z2,am Z,Z4 this];exact hv
  .have:=h.val j x A;rw[Y7,Z2,be (fun e=>u e.symm),<-Y7];exact this
 .obtain⟨f',u,A⟩:=hb j f d;obtain⟨J,S,Y⟩:=hb l g G;exact h.inj j l f' J u S (by rw[A,Y,F])
 .obtain⟨f',u,A⟩:=hb j f d;rw[<-A];exact h.lt j f' u
theorem l0.push(h:l0 M kc e m ents clock){k:kc.K}{v:V}{y:Value}(S:IR M (e v) y):l0 M kc e (m++ [(k,v)]) (ents.push {key:=kc.ek k,val:=y,born:=clock}) (clock+1):=by
 have D: ∀(j:Nat) (x:kc.K×V),(m++ [(k,v)])[j]? =io x->(j=ents.size∧x=(k,v))∨(j<ents.size∧m[j]? =io x):=by
  intro j x d;rw[h.size];rcases aag j m.length with hj|hj
  .rw[Zp hj]at d;exact .inr ⟨hj,d⟩
  .rw[Zv hj]at d;have F:j-m.length=0:=by
    rcases Nat.eq_zero_or_pos (j-m.length) with h1|h1
    .exact h1
    .rw[abl (by simp;omega)]at d;cases d
   rw[F]at d;exact .inl ⟨by omega,by simpa using d.symm⟩
 have hb: ∀(j:Nat) (f:MapEntry),(ents.push {key:=kc.ek k,val:=y,born:=clock})[j]? =io f->(j=ents.size∧f.born=clock)∨(j<ents.size∧ents[j]? =io f∧f.born<clock):=by
  intro j f b;rw[abr]at b;split at b
  .rename_i hj;simp only[Y9]at b;subst b;exact .inl ⟨hj,rfl⟩
  .exact .inr ⟨(aaq.1 b).1,b,h.lt j f b⟩
 refine⟨by simp[h.size],fun j x d=>?_,fun j x d=>?_,fun j l f g b J A=>?_,fun j f b=>?_⟩
 .rcases D j x d with⟨rfl,rfl⟩|⟨h1,u⟩
  .simp[Y7]
  .have:=h.key j x u;rw[Y7,abr,be (by omega),<-Y7];exact this
 .rcases D j x d with⟨rfl,rfl⟩|⟨h1,u⟩
  .simpa[Y7]using S
  .have:=h.val j x u;rw[Y7,abr,be (by omega),<-Y7];exact this
 .rcases hb j f b with⟨h1,u⟩|⟨h1,u,G⟩<;>rcases hb l g J with⟨I,B⟩|⟨I,B,Y⟩
  .omega
  .omega
  .omega
  .exact h.inj j l f g u B A
 .rcases hb j f b with⟨h1,u⟩|⟨h1,u,G⟩<;>omega
theorem l0.erase(h:l0 M kc e m ents clock){i:Nat}(hi:i<m.length):l0 M kc e (m.eraseIdx i) (ents.eraseIdxIfInBounds i) clock:=by
 have B:i<ents.size:=by rw[h.size];exact hi
 have D: ∀j,(ents.eraseIdxIfInBounds i)[j]? =if j<i then ents[j]? else ents[j+1]? :=by
  intro j;simp only[ab4,B,dif_pos];rw[Array.getElem?_eraseIdx]
 have F: ∀j,(m.eraseIdx i)[j]? =if j<i then m[j]? else m[j+1]? :=fun j=>List.getElem?_eraseIdx;refine⟨?_,fun j x y=>?_,fun j x y=>?_,fun j l f g d b u=>?_,fun j f d=>?_⟩
 .simp only[ab4,B,dif_pos,Array.size_eraseIdx,List.length_eraseIdx,hi,if_true,h.size]
 .rw[F]at y;rw[Y7,D];split at y
  .rename_i A;rw[am A,<-Y7];exact h.key j x y
  .rename_i A;rw[be A,<-Y7];exact h.key _ x y
 .rw[F]at y;rw[Y7,D];split at y
  .rename_i A;rw[am A,<-Y7];exact h.val j x y
  .rename_i A;rw[be A,<-Y7];exact h.val _ x y
 .rw[D]at d b;split at d<;>split at b
  .exact h.inj _ _ f g d b u
  .have:=h.inj _ _ f g d b u;omega
  .have:=h.inj _ _ f g d b u;omega
  .have:=h.inj _ _ f g d b u;omega
 .rw[D]at d;split at d<;>exact h.lt _ f d
theorem BI(kc:KC)(k:kc.K):Instr.sameBits 10000 (kc.ek k) (kc.ek k)=kw:=by
 have d: ∀(n:Nat) (a:ByteArray),Instr.sameBits n (.string a) (.string a)=kw:=by
  intro n a;cases n<;>(simp only[Instr.sameBits];rw[beq_toListBytes,BE];simp)
 have b: ∀(n:Nat) (q:IntKind) (a:Int),Instr.sameBits n (.int q a) (.int q a)=kw:=by
  intro n q a;cases n<;>simp[Instr.sameBits]
 cases kc with
 |str=>exact d _ _
 |int q=>exact b _ _ _
 |si q=>
  simp only[KC.ek];show((#[Value.string k.1,.int q k.2].size== #[Value.string k.1,.int q k.2].size)&&(Instr.sameBits 9999 (.string k.1) (.string k.1)&&(Instr.sameBits 9999 (.int q k.2) (.int q k.2)&&kw)))=kw;rw[d,b];rfl
end
def Ta(ty:Ty)(s:AS):Op->Option (Prop×AS)
 | .mapUpdate t m k x=>match ev s.f m with
  | .mp i=>match s.h.get i with
   |some (.map kc e z zv dv mm)=>match ty t with
    |some ⟨.bc (.map kt _),_,_,_,_⟩=>match gG ty kt with
     |some kc'=>match li (kc'=kc),kc.dk (ev s.f k) with
      |true,io kk=>match s with
       |⟨f,h,n⟩=>yC (ev f x) fun p=>io (aK p (.iv (e (dv p))),⟨f,(i,io (.map kc e z zv dv (cH kc mm kk (dv p))))::h,n⟩)
      |_,_=>jp
     |none=>jp
    |_=>jp
   |_=>jp
  |_=>jp
 | .call ⟨.builtin .delete,args,tys⟩=>match args.toList,tys.toList with
  | [m,k],[t,_]=>match ev s.f m with
   | .mp i=>match s.h.get i with
    |some (.map kc e z zv dv mm)=>match ty t with
     |some ⟨.bc (.map kt _),_,_,_,_⟩=>match gG ty kt with
      |some kc'=>match li (kc'=kc),kc.dk (ev s.f k) with
       |true,io kk=>match s with
        |⟨f,h,n⟩=>io (True,⟨f,(i,io (.map kc e z zv dv (pT kc mm kk)))::h,n⟩)
       |_,_=>jp
      |none=>jp
     |_=>jp
    |_=>jp
   |_=>jp
  |_,_=>jp
 |_=>jp
section
variable {P:Program} {ty:Ty} {nt:Nat} {s:AS} {M:Mem} {N:Nm} {w:World}
def xI(w:World)(b:Nat)(o:Obj):World:={w with heap:=w.heap.setIfInBounds b o}
theorem v8{nx:Nat}{h:AH}(hr:Rel M N (· <nx) h w){i:Nat}{kc:KC}{V:Type}{e:V->IV}{z:V}{A:Value}{u:PV->V}{F y:List (kc.K×V)}(hi:h.get i=io (.map kc e z A u F)){j:Array MapEntry}{d:Nat}
  (hm:l0 M kc e y j d):Ext M N (· <nx) h w M N (· <nx) ((i,io (.map kc e z A u y))::h) (xI w (N.aL i) (.map j d))∧Rel M N (· <nx) ((i,io (.map kc e z A u y))::h) (xI w (N.aL i) (.map j d)):=by
 have B:=hr.obj i _ hi;have x:=OR.lt B Z;obtain⟨ents,clock,G,I,D⟩:=B;refine hr.write hi Z _ _ Z Z Z (by simp[xI]) (fun b hb=>?_) ⟨j,d,?_,hm,D⟩
 .show(w.heap.setIfInBounds _ _)[b]? =_;rw[ZT,be (fun e=>hb e.symm)]
 .show(w.heap.setIfInBounds _ _)[_]? =_;rw[ZT,am Z,am x]
theorem nq{r:Nat}{es:Array MapEntry}{clock:Nat}(o:Obj)(hb:w.heap[r]? =io (.map es clock)):(setObj r o).run P w= .ok () (xI w r o):=by
 simp[setObj,Sem.run,hb,xI]
theorem NC(G:cD P ty){o:Oper}{C:Prop}{s1 s':AS}(h:Ta ty s o.op=io (C,s1))(hC:C)(hp:putDst nt o .any s1=io s'):OT P nt o s (fun t=>t=s'):=by
 unfold Ta at h;split at h
 .rename_i t m k x ho;split at h
  .rename_i i J;split at h
   .rename_i V kc e z zv dv mm hi;split at h
    .rename_i kt et _ _ _ _ he;have hu:=(G _ _ he).2.1.1;split at h
     .rename_i b S;split at h
      .rename_i B hd c0;have hd:=of_decide_eq_true hd;subst hd;obtain⟨f,hh,n⟩:=s;simp only[eM,Y9,Zl]at h;obtain⟨rfl,rfl⟩:=h;refine OT.skip hp fun M N a w F=>?_;have d0:=Mo c0 (a7 F.2.1 k);have D:=a7 F.2.1 m;simp only at J;rw[J]at D
       have j0:IR M (e (dv (ev f x))) (a.eval x):=by
        have:=hC M N (· <n) _ (a7 F.2.1 x);generalize a.eval x=y at this;cases this with
        |iv _ _ h=>exact h
       obtain⟨ents,clock,h1,Y,h3⟩:=F.1.obj i _ hi;have I:=qw (P:=P) (w:=w) G S B lc 9998;have A:=tA (P:=P) (w:=w) G S B Y.keys;have hg:(getObj (N.aL i)).run P w= .ok (.map ents clock) w:=by simp[getObj,Sem.run,h1]
       have a0: ∀u d,l0 M b e (cH b mm B (dv (ev f x))) u d->(Instr.mapUpdate t (.map (io (N.aL i))) (b.ek B) (a.eval x)).run P w= .ok () (xI w (N.aL i) (.map u d))->
         ∃w' M' N',(execOp a.eval o).run P w= .ok .skip w'∧Ext M N (· <n) hh w M' N' (· <n) ((i,io (.map b e z zv dv (cH b mm B (dv (ev f x)))))::hh) w'∧
          Fits M' N' ⟨f,(i,io (.map b e z zv dv (cH b mm B (dv (ev f x)))))::hh,n⟩ nt a w':=by
        intro u d g1 g2;obtain⟨g3,g4⟩:=v8 F.1 hi g1;refine⟨_,M,N,?_,g3,g4,F.2.1,F.2.2⟩;have e0:a.eval m= .map (io (N.aL i)):=by
         generalize a.eval m=y at D;cases D;rfl
        simp only[execOp,ho,e0,d0];simp[g2]
       cases hfi:lB b mm B with
       |none=>
        obtain⟨_,_,g3,_⟩:=me hfi;rw[hfi]at A;refine a0 _ _ (by rw[g3];exact Y.push j0) ?_;simp[Instr.mapUpdate,run_underlying hu,hg,I,A,nq (P:=P) _ h1]
       |some j=>
        obtain⟨v,g0,_,_,g3,_⟩:=mc hfi;rw[hfi]at A;refine a0 _ _ (by rw[g3];exact Y.set j0) ?_;have hj:j<ents.size:=by rw[Y.size];exact(Zb.1 g0).1
        have i0:=Y.key j _ g0;rw[Y.Ma hj]at i0;have m0:(Instr.keyThatStays (b.ek B) (b.ek B)).run P w= .ok (b.ek B) w:=by simp[Instr.keyThatStays,BI]
        simp[Instr.mapUpdate,run_underlying hu,hg,I,A,hj,i0,m0,nq (P:=P) _ h1]
      .cases h
     .cases h
    .cases h
   .cases h
  .cases h
 .rename_i args k0 ho;split at h
  .rename_i m k t t' b0 f0;have ha:args= #[m,k]:=by rw[<-aaF (xs:=args),b0]
   have ht:k0= #[t,t']:=by rw[<-aaF (xs:=k0),f0]
   subst ha ht;split at h
   .rename_i i J;split at h
    .rename_i V kc e z zv dv mm hi;split at h
     .rename_i kt et _ _ _ _ he;have hu:=(G _ _ he).2.1.1;split at h
      .rename_i b S;split at h
       .rename_i B hd c0;have hd:=of_decide_eq_true hd;subst hd;obtain⟨f,hh,n⟩:=s;simp only[Y9,Zl]at h;obtain⟨rfl,rfl⟩:=h;refine OT.value hp fun M N a w F=>?_;have d0:=Mo c0 (a7 F.2.1 k);have D:=a7 F.2.1 m;simp only at J;rw[J]at D;obtain⟨ents,clock,h1,Y,h3⟩:=F.1.obj i _ hi;have I:=qw (P:=P) (w:=w) G S B ents.isEmpty 9998;have A:=tA (P:=P) (w:=w) G S B Y.keys;have hg:(getObj (N.aL i)).run P w= .ok (.map ents clock) w:=by simp[getObj,Sem.run,h1]
        have a0: ∀u d,l0 M b e (pT b mm B) u d->(Builtin.delete_ #[t,t'] o.type #[.map (io (N.aL i)),b.ek B]).run P w= .ok (.tuple #[]) (xI w (N.aL i) (.map u d))->
          ∃x w' M' N',(execOp a.eval o).run P w= .ok (.value x) w'∧Ext M N (· <n) hh w M' N' (· <n) ((i,io (.map b e z zv dv (pT b mm B)))::hh) w'∧
           Fits M' N' ⟨f,(i,io (.map b e z zv dv (pT b mm B)))::hh,n⟩ nt a w'∧VR M' N' (· <n) .any x:=by
         intro u d g1 g2;obtain⟨g3,g4⟩:=v8 F.1 hi g1;refine⟨.tuple #[],_,M,N,?_,g3,⟨g4,F.2.1,F.2.2⟩,.any _⟩;have e0:a.eval m= .map (io (N.aL i)):=by
          generalize a.eval m=y at D;cases D;rfl
         simp only[execOp,ho,resolve];simp[invoke,builtin,e0,d0,g2]
        cases hfi:lB b mm B with
        |none=>
         obtain⟨_,_,_,g3⟩:=me hfi;rw[hfi]at A;refine a0 _ _ (by rw[g3];exact Y) ?_;simp[Builtin.delete_,run_underlying hu,hg,I,A,nq (P:=P) _ h1]
        |some j=>
         obtain⟨v,g0,_,_,_,g3⟩:=mc hfi;rw[hfi]at A;refine a0 _ _ (by rw[g3];exact Y.erase (Zb.1 g0).1) ?_;simp[Builtin.delete_,run_underlying hu,hg,I,A,nq (P:=P) _ h1]
       .cases h
      .cases h
     .cases h
    .cases h
   .cases h
  .cases h
 .cases h
end
section
variable {P:Program} {ty:Ty} {nt:Nat} {s:AS} {Q:AQ} {k:List KI}
def Xm(nt:Nat)(o:Oper)(s:AS)(i:Nat)(kc:KC){V:Type}(e:V->IV)(m:List (kc.K×V))(vs:List Nat)(t:AS):Prop:=
 ((∀j,j<m.length->j∈vs)∧putDst nt o (.bQ [.kb lc]) s=io t)∨
 ∃j x,m[j]? =io x∧j∉vs∧putDst nt o (.bQ [.kb kw,kc.pk x.1,(e x.2).pv]) ⟨s.f,(i,io (.cF kc e m (j::vs) (io x)))::s.h,s.nx⟩=io t
theorem PZ{o:Oper}{it:Operand}(ho:o.op= .next it lc){i:Nat}(r0:ev s.f it= .ptr i 0){kc:KC}{V:Type}{e:V->IV}{m:List (kc.K×V)}{vs:List Nat}{q0:Option (kc.K×V)}
  (hi:s.h.get i=io (.cF kc e m vs q0)) {d:Nat} (hd:o.dst=io d) (hlt:d<nt):OT P nt o s (Xm nt o s i kc e m vs):=by
 intro M N a w hf K Z hk;have hx:=a7 hf.2.1 it;rw[r0]at hx;have i0:=hf.1.obj i _ hi;have c0:N.aL i<w.heap.size:=OR.lt i0 rfl;have d0:a.eval it= .pointer (io ⟨N.aL i,0,jp⟩):=by
  generalize a.eval it=y at hx;cases hx;rfl
 have J: ∀p s1,∃t,putDst nt o p s1=io t∧t={s1 with f:=(d,p)::s1.f}:=by
  intro p s1;have hb:Zs d nt=kw:=ZO hlt;obtain⟨f,h,n⟩:=s1;exact⟨_,by simp only[putDst,hd,hb,cond_true,eM],rfl⟩
 rcases i0 with⟨rfl,rfl,rfl,h0⟩|⟨b,ents,clock,u,h1,h2,G,h4,h5,h6,h7⟩
 .have B:(execOp a.eval o).run P w= .ok (.value (.tuple #[.bool lc])) w:=by
   simp only[execOp,ho,d0];refine bH ?_;simp only[Instr.next,getObj,Sem.run_bind,Sem.run,h0,Result.andThen];rfl
  unfold Oper.wp;rw[B];simp only[Oper.upon];obtain⟨t,ht,D⟩:=J (.bQ [.kb lc]) s
  refine hk M N t _ w (by rw[D];exact .refl _ _ _ _ _) (by
   rw[D,hd]
   exact hf.put d _ _ hlt (.bQ _ _ rfl fun j p F=>by
    match j with
    |0=>simp at F;subst F;exact .kb _
    |j+1=>simp at F)) (.inl ⟨fun j I=>absurd I (aaj _),ht⟩)
 have hb:w.heap[b]? =io (.map ents clock):=hf.1.eW _ _ h2;have y0: ∀j,j<ents.size->ents.getD j em=ents[j]! :=fun j I=>by simp[Y7,I,getElem!_pos]
 have g0: ∀x∈ents.toList,x.born<clock:=by
  intro x hx;obtain⟨j,I⟩:=Z7 hx;exact G.lt j x (by simpa using I)
 unfold Oper.wp;rcases run_next_at (P:=P) w o.type (N.aL i) b clock clock u ents clock h1 hb g0 (Zc _) with⟨g1,g2⟩|⟨x,p0,Y,v0,g2⟩
 .have B:(execOp a.eval o).run P w= .ok (.value (.tuple #[.bool lc])) w:=by
   simp only[execOp,ho,d0];exact bH g2
  rw[B];simp only[Oper.upon];obtain⟨t,ht,D⟩:=J (.bQ [.kb lc]) s
  refine hk M N t _ w (by rw[D];exact .refl _ _ _ _ _) (by
   rw[D,hd]
   exact hf.put d _ _ hlt (.bQ _ _ rfl fun j p F=>by
    match j with
    |0=>simp at F;subst F;exact .kb _
    |j+1=>simp at F)) (.inl ⟨fun j I=>?_,ht⟩)
  have s0:j<ents.size:=by rw[G.size];exact I
  have f0:(ents[j]).born∈u:=by
   refine Decidable.byContradiction fun hn=>?_
   have:ents[j]∈leftOf ents u:=by
    simp only[leftOf,acw];exact⟨by simp,by simpa using hn⟩
   rw[Array.eq_empty_of_size_eq_zero g1]at this;simp at this
  have:(ents[j]).born∈u.toList:=by simpa using f0
  rw[h4,ZK]at this;obtain⟨q,hq,n0⟩:=this;have o0:q∈vs:=by simpa using hq
  have m0:q<ents.size:=by rw[G.size];exact h5 q o0
  rw[G.Ma m0]at n0;have:=G.inj q j ents[q] ents[j] (by simp[m0]) (by simp[s0]) n0;rw[<-this];exact o0
 .have B:(execOp a.eval o).run P w= .ok (.value (.tuple #[.bool kw,x.key,x.val])) (xI Y (N.aL i) (.mapIter (io b) clock (u.push x.born) clock)):=by
   simp only[execOp,ho,d0];rw[Sem.run_bind,g2];rfl
  rw[B];simp only[Oper.upon];simp only[leftOf,Array.mem_toList_iff,acw]at p0;obtain⟨w0,x0⟩:=p0;obtain⟨j,I,e0⟩:=Array.getElem_of_mem w0;have j0:j<m.length:=by rw[<-G.size];exact I
  have S:m[j]? =io m[j]:=Za j0;have k0:j∉vs:=by
   intro hv;have:(ents[j]).born∈u.toList:=by
    rw[h4,ZK];exact⟨j,by simpa using hv,by rw[G.Ma I]⟩
   rw[e0]at this;have:x.born∈u:=by simpa using this
   simp[this]at x0
  obtain⟨t,ht,D⟩:=J (.bQ [.kb kw,kc.pk m[j].1,(e m[j].2).pv]) ⟨s.f,(i,io (.cF kc e m (j::vs) (io m[j])))::s.h,s.nx⟩;have A:Y.heap=w.heap∧Y.os=w.os∧Y.tape=w.tape∧Y.output=w.output:=by
   rcases v0 with rfl|rfl<;>exact⟨rfl,rfl,rfl,rfl⟩
  have t0:OR M N (· <s.nx) (xI Y (N.aL i) (.mapIter (io b) clock (u.push x.born) clock)) i (.cF kc e m (j::vs) (io m[j])):=by
   refine .inr ⟨b,ents,clock,u.push x.born,?_,h2,G,?_,?_,?_,?_⟩
   .show(Y.heap.setIfInBounds _ _)[_]? =_;rw[ZT,am rfl,A.1,am c0]
   .simp only[Array.toList_push,h4,List.reverse_cons,Ze,Zr,Z0];rw[G.Ma I,e0]
   .intro q hq;rcases Zq.1 hq with rfl|hq
    .exact j0
    .exact h5 q hq
   .exact aat.2 ⟨k0,h6⟩
   .intro y hy;simp only[Y9]at hy;subst hy;exact⟨j,vs,rfl,S⟩
  obtain⟨q1,q2⟩:=hf.1.write hi rfl (xI Y (N.aL i) (.mapIter (io b) clock (u.push x.born) clock)) _ A.2.1 A.2.2.1 A.2.2.2 (by simp[xI,A.1]) (fun c hc=>by
   show(Y.heap.setIfInBounds _ _)[c]? =_
   rw[ZT,be (fun e=>hc e.symm),A.1]) t0
  have a0:=G.key j _ S;have b0:=G.val j _ S;rw[G.Ma I,e0]at a0 b0
  refine hk M N t _ _ (by rw[D];exact q1) (by
   rw[D,hd];refine Fits.put (s:=⟨s.f,(i,io (.cF kc e m (j::vs) (io m[j])))::s.h,s.nx⟩) ⟨q2,hf.2⟩ d _ _ hlt (.bQ _ _ rfl fun q p F=>?_)
   match q with
   |0=>simp at F;subst F;exact .kb _
   |1=>simp at F;subst F;simp only[Y7];simp;rw[a0];exact Hb kc _
   |2=>simp at F;subst F;exact G8 b0
   |q+3=>simp at F) (.inr ⟨j,m[j],S,k0,ht⟩)
theorem fZ{all rest:List Oper}{o:Oper}{y:Operand}{i:Nat}{kc:KC}{V:Type}{e:V->IV}{m:List (kc.K×V)}{vs:List Nat}{b:Option (kc.K×V)}{d:Nat}
  (ho:o.op= .next y lc) (hg:o.guard=jp) (u:ev s.f y= .ptr i 0) (hi:s.h.get i=io (.cF kc e m vs b)) (hd:o.dst=io d) (hlt:d<nt)
  (h1:(∀j,j<m.length->j∈vs)->GO P nt (.ops all rest::k) Q ⟨(d,.bQ [.kb lc])::s.f,s.h,s.nx⟩)
  (h2: ∀j x,m[j]? =io x->j∉vs->GO P nt (.ops all rest::k) Q ⟨(d,.bQ [.kb kw,kc.pk x.1,(e x.2).pv])::s.f,(i,io (.cF kc e m (j::vs) (io x)))::s.h,s.nx⟩):
  GO P nt (.ops all (o::rest)::k) Q s:=by
 refine dK hg (PZ ho u hi hd hlt) fun t A=>?_;have hb:Zs d nt=kw:=ZO hlt;rcases A with⟨g1,g2⟩|⟨j,x,g1,g2,g3⟩
 .obtain⟨f,h,n⟩:=s;simp only[putDst,hd,hb,cond_true,eM,Y9]at g2;subst g2;exact h1 g1
 .simp only[putDst,hd,hb,cond_true,eM,Y9]at g3;subst g3;exact h2 j x g1 g2
mutual
def PV.gd(i:Nat)(x:IV):PV->PV
 | .iv x=> .iv x
 | .agg cs=> .agg (yB i x cs)
 | .bQ cs=> .bQ (yB i x cs)
 | .sl j off len sz'=> .sl j off len sz'
 | .ptr j o=> .ptr j o
 | .dH j a b c=> .dH j a b c
 | .fE z j=> .fE z j
 | .mp j=>bif Zz j i then .iv x else .mp j
 | .du fn a b=> .du fn a b
 | .kb b=> .kb b
 | .any=> .any
def yB(i:Nat)(x:IV):List PV->List PV
 | []=> []
 |p::r=>PV.gd i x p::yB i x r
end
theorem kg(i:Nat)(x:IV): ∀l:List PV,yB i x l=l.map (PV.gd i x)
 | []=>rfl
 |p::r=>by simp[yB,kg i x r]
theorem Qr{M:Mem}{N:Nm}{n:Nat}{h:AH}{w:World}(hr:Rel M N (· <n) h w){i:Nat}{kc:KC}{V:Type}{e:V->IV}{z:V}{zv:Value}{dv:PV->V}{m:List (kc.K×V)}(hi:h.get i=io (.map kc e z zv dv m)):
  ∃B,Ext M N (· <n) h w B N (· <n) ((i,jp)::h) w∧Rel B N (· <n) ((i,jp)::h) w∧M.le B∧
   ∀p x,VR M N (· <n) p x->VR B N (· <n) (p.gd i (.eI kc e z zv m)) x:=by
 have J:=hr.fo i _ hi Z;obtain⟨ents,clock,G,D,h3⟩:=hr.obj i _ hi
 let B:Mem:=M.set (N.aL i) (.map ents clock) J
 have hM:M.le B:=fun b d hb=>by
  simp only[B,Mem.set];by_cases u:b=N.aL i
  .rw[u,J]at hb;cases hb
  .rw[be u];exact hb
 have hnew: ∀b d,M b=jp->B b=io d->b=N.aL i:=fun b d G D=>by
  simp only[B,Mem.set]at D;by_cases u:b=N.aL i
  .exact u
  .rw[be u,G]at D;cases D
 refine⟨B,?_,?_,hM,fun p x hx=>?_⟩
 .exact⟨rfl,rfl,rfl,Zc _,fun _ _ _=>rfl,hM,fun b d G D=> .inr ⟨i,_,hi,rfl,(hnew b d G D).symm⟩,.refl _ _,fun _ h=>h,fun j o A Y=> .inr ⟨j,o,(bD j o A).2,Y,rfl⟩⟩
 .refine⟨fun b d hb=>?_,fun j o A=>hr.used j o (bD j o A).2,fun j o A F=>?_,fun j o A=>?_,fun j k o p A hk=>hr.inj j k o p (bD j o A).2 (bD k p hk).2⟩
  .simp only[B,Mem.set]at hb;by_cases u:b=N.aL i
   .rw[am u]at hb;cases hb;rw[u];exact G
   .rw[be u]at hb;exact hr.eW b d hb
  .obtain⟨g1,g2⟩:=bD j o A;simp only[B,Mem.set];rw[be fun e=>g1 (hr.inj j i o _ g2 hi F Z e)];exact hr.fo j o g2 F
  .obtain⟨g1,g2⟩:=bD j o A;exact(hr.obj j o g2).mono hM (.refl _ _) (fun _ h=>h) (hr.used j o g2) Z
 .induction hx with
  |iv x y h=>exact .iv _ _ (h.mono hM)
  |agg cs ys hl _ ih=>
   refine .agg _ _ (by simpa[kg]using hl) fun j q S=>?_;rw[kg,Zg,Zi]at S;obtain⟨q0,I,rfl⟩:=S
   exact ih j q0 I
  |bQ cs ys hl _ ih=>
   refine .bQ _ _ (by simpa[kg]using hl) fun j q S=>?_;rw[kg,Zg,Zi]at S;obtain⟨q0,I,rfl⟩:=S
   exact ih j q0 I
  |ptr i off h=>exact .ptr _ _ h
  |dH i sz k off h=>exact .dH _ _ _ _ h
  |fE z i h=>exact .fE _ _ h
  |sl j off len sz' cap h h0 hl hc he=>exact .sl _ _ _ _ _ h h0 hl hc he
  |pW j sz' h=>exact .pW _ _ h
  |sle j sz' cap h hc he=>exact .sle _ _ _ h hc he
  |mp j h=>
   simp only[PV.gd];cases hb:Zz j i with
   |true=>
    have A:=Zt hb;subst A;exact .iv _ _ (.eI _ _ _ _ _ _ ents clock (by simp[B,Mem.set]) D.size D.key (fun j x hx=>(D.val j x hx).mono hM) (h3.mono hM) D.inj D.lt)
   |false=>exact .mp _ h
  |du fn first caps f' c' G D hr1 hr2 _ _=>exact .du _ _ _ _ _ G D (fun j p A=>(hr1 j p A).mono hM (.refl _ _) (fun _ h=>h)) (fun j p A=>(hr2 j p A).mono hM (.refl _ _) (fun _ h=>h))
  |kb b=>exact .kb _
  |any x=>exact .any _
def AO.gd(i:Nat)(x:IV):AO->AO
 | .cells cs T=> .cells (yB i x cs) T
 | .row sz es=> .row sz (es.map (yB i x))
 | .bS l T=> .bS l T
 | .gP=> .gP
 | .map kc e z zv dv m=> .map kc e z zv dv m
 | .cF kc e m vs c=> .cF kc e m vs c
 | .eS s p=> .eS s p
def AH.gd(i:Nat)(x:IV):AH->AH
 | []=> []
 |(k,jp)::r=>(k,jp)::AH.gd i x r
 |(k,io o)::r=>(k,io (o.gd i x))::AH.gd i x r
theorem AH.kY(i:Nat)(x:IV): ∀(h:AH) (j:Nat),(AH.gd i x h).get j=(h.get j).map (AO.gd i x)
 | [],_=>rfl
 |(k,jp)::r,j=>by
  simp only[AH.gd,AH.ax,AH.kY i x r j];split<;>rfl
 |(k,io o)::r,j=>by
  simp only[AH.gd,AH.ax,AH.kY i x r j];split<;>rfl
theorem AO.vK(i:Nat)(x:IV)(o:AO):(o.gd i x).real=o.real:=by
 cases o with
 |row sz es=>cases es<;>rfl
 |bS l T=>cases l<;>rfl
 |_=>rfl
theorem qE{M:Mem}{N:Nm}{n:Nat}{h:AH}{w:World}(hr:Rel M N (· <n) h w){i:Nat}{kc:KC}{V:Type}{e:V->IV}{z:V}{F:Value}{dv:PV->V}{m:List (kc.K×V)}(hi:h.get i=io (.map kc e z F dv m)):
  ∃B,Ext M N (· <n) h w B N (· <n) ((i,jp)::h.gd i (.eI kc e z F m)) w∧Rel B N (· <n) ((i,jp)::h.gd i (.eI kc e z F m)) w∧M.le B∧
   ∀p x,VR M N (· <n) p x->VR B N (· <n) (p.gd i (.eI kc e z F m)) x:=by
 obtain⟨B,u,y,h3,Y⟩:=Qr hr hi;have D: ∀j o,AH.get ((i,jp)::h.gd i (.eI kc e z F m)) j=io o-> ∃p,AH.get ((i,jp)::h) j=io p∧h.get j=io p∧o=p.gd i (.eI kc e z F m):=by
  intro j o b;obtain⟨g1,g2⟩:=bD j o b;rw[AH.kY,Zi]at g2;obtain⟨p,g3,g4⟩:=g2;exact⟨p,by rw[AH.ax,be g1];exact g3,g3,g4.symm⟩
 refine⟨B,⟨u.os,u.tape,u.output,u.size,u.iT,u.sb,u.kr,u.nm,u.ule,fun j o b d=>?_⟩,⟨y.eW,fun j o b=>?_,fun j o b d=>?_,fun j o b=>?_,fun j k o p b hk ho hp=>?_⟩,h3,Y⟩
 .obtain⟨p,g1,_,rfl⟩:=D j o b;rw[AO.vK]at d;exact u.jt j p g1 d
 .obtain⟨p,g1,_,rfl⟩:=D j o b;exact y.used j p g1
 .obtain⟨p,g1,_,rfl⟩:=D j o b;rw[AO.vK]at d;exact y.fo j p g1 d
 .obtain⟨p,g1,g2,rfl⟩:=D j o b;have I:=hr.obj j p g2;cases p with
  |cells cs T0=>
   obtain⟨c,T,q1,q2,q3,q4,q5⟩:=I;refine⟨c,T,q1,q2,by simpa[kg]using q3,fun k q J=>?_,q5⟩;rw[kg,Zg,Zi]at J;obtain⟨q0,b0,rfl⟩:=J;exact Y _ _ (q4 k q0 b0)
  |row sz es=>
   rcases I with rfl|⟨q0,c,T,q1,q2,q3,q4,q5⟩
   .exact .inl Z
   refine .inr ⟨q0,c,T,q1,q2,by simpa using q3,fun k e G=>?_,fun k e j q G J=>?_⟩
   .rw[Zg,Zi]at G;obtain⟨S,A,rfl⟩:=G;rw[kg,ZE];exact q4 k S A
   .rw[Zg,Zi]at G;obtain⟨S,A,rfl⟩:=G;rw[kg,Zg,Zi]at J;obtain⟨q',a0,rfl⟩:=J;exact Y _ _ (q5 k S j q' A a0)
  |bS=>exact y.obj j _ g1
  |gP=>exact y.obj j _ g1
  |map=>exact y.obj j _ g1
  |cF=>exact y.obj j _ g1
  |eS=>exact y.obj j _ g1
 .obtain⟨o',g1,_,rfl⟩:=D j o b;obtain⟨p',g2,_,rfl⟩:=D k p hk;rw[AO.vK]at ho hp;exact y.inj j k o' p' g1 g2 ho hp
def AF.gd(i:Nat)(x:IV):AF->AF
 | []=> []
 |(d,p)::r=>(d,p.gd i x)::AF.gd i x r
theorem AF.kY(i:Nat)(x:IV): ∀(f:AF) (d:Nat),(AF.gd i x f).get d=(f.get d).gd i x
 | [],_=>rfl
 |(k,p)::r,d=>by
  simp only[AF.gd,AF.ax,AF.kY i x r d];split<;>rfl
theorem xh{c:Code}(i:Nat){kc:KC}{V:Type}{e:V->IV}{z:V}{b:Value}{G:PV->V}{m:List (kc.K×V)}(hi:s.h.get i=io (.map kc e z b G m))
  (h:GO P nt (.code c::k) Q ⟨s.f.gd i (.eI kc e z b m),(i,jp)::s.h.gd i (.eI kc e z b m),s.nx⟩):GO P nt (.code c::k) Q s:=by
 intro M N a w j;obtain⟨B,I,J,h3,S⟩:=qE j.1 hi
 have u:Fits B N ⟨s.f.gd i (.eI kc e z b m),(i,jp)::s.h.gd i (.eI kc e z b m),s.nx⟩ nt a w:=⟨J,fun d=>by
  rw[AF.kY];exact S _ _ (j.2.1 d),j.2.2⟩
 exact AW.then h u fun e a2 w2 D F Y A x y=>⟨D,F,Y,I.trans A,x,y⟩
end
def T7(ty:Ty)(s:AS):Op->Option (PV×AS)
 | .range t x=>match ev s.f x with
  | .mp i=>match s.h.get i with
   |some (.map kc e z zv _ m)=>match ty t with
    |some ⟨.bc (.map _ _),_,_,_,_⟩=>match s with
     |⟨f,h,n⟩=>io (.ptr n 0,⟨f.gd i (.eI kc e z zv m),(n,io (.cF kc e m [] jp))::(i,jp)::h.gd i (.eI kc e z zv m),n+1⟩)
    |_=>jp
   |_=>jp
  |_=>jp
 |_=>jp
theorem Pt{P:Program}{ty:Ty}{nt:Nat}{s:AS}(J:cD P ty){o:Oper}{p:PV}{s1 s':AS}(h:T7 ty s o.op=io (p,s1))(hp:putDst nt o p s1=io s'):OT P nt o s (fun t=>t=s'):=by
 unfold T7 at h;split at h
 .rename_i t x ho;split at h
  .rename_i i D;split at h
   .rename_i V kc e z zv dv m B;split at h
    .rename_i kt et _ _ _ _ he;have hu:=(J _ _ he).2.1.1;obtain⟨f,hh,n⟩:=s;simp only[Y9,Zl]at h;obtain⟨rfl,rfl⟩:=h;refine OT.value hp fun M N a w A=>?_;have S:=a7 A.2.1 x;simp only at D B;rw[D]at S;obtain⟨ents,clock,g1,g2,g3⟩:=A.1.obj i _ B;obtain⟨G,h1,Y,h3,h4⟩:=qE A.1 B;have j:VR G N (· <n) ((PV.mp i).gd i (.eI kc e z zv m)) (.map (io (N.aL i))):=h4 _ _ (.mp i (A.1.used i _ B));have hb:Zz i i=kw:=by simp
     simp only[PV.gd,hb,cond_true]at j;cases j with
     |iv _ _ j=>cases j with
      |eI _ _ _ _ _ b ents' clock' hb' hs hk hv' hz hi' hc=>
       obtain⟨I,q1,q2,q3,q4,q5⟩:=Y.alloc (.mapIter (io (N.aL i)) clock' #[] clock') (.cF kc e m [] jp) 0 (fun I r1 r2 r3=>
        .inr ⟨N.aL i,ents',clock', #[],by rw[r1];exact heap_alloc_new w _,hb',⟨hs,hk,hv',hi',hc⟩,rfl,by simp,aab,by simp⟩)
       have u:w.heap[N.aL i]? =io (.map ents' clock'):=Y.eW _ _ hb';have F:a.eval x= .map (io (N.aL i)):=by
        generalize a.eval x=y at S;cases S;rfl
       refine⟨.pointer (io ⟨w.heap.size,0,jp⟩),_,G,I,?_,h1.trans q4,⟨q5,fun d=>?_,A.2.2⟩,?_⟩
       .simp only[execOp,ho,F];simp[Instr.range,run_underlying hu,getObj,Sem.run,u,Result.andThen]
       .rw[AF.kY];exact(h4 _ _ (A.2.1 d)).mono (.refl _) q3 (fun i B=>aaL B)
       .have:=VR.ptr (M:=G) (N:=I) (U:=(· <n+1)) n 0 (by omega);rw[q1]at this;exact this
    .cases h
   .cases h
  .cases h
 .cases h
def TI(h:AH)(sz:Nat):PV->Option (List (List PV)×Nat×Prop)
 | .iv (.de sz' n el)=>match Zz sz' sz with
  |true=>io ((Zy n).map fun k=>(el k).map .iv,n,True)
  |false=>jp
 | .iv (.v (.slice jp 0 0))=>io ([],0,True)
 | .sl j off n sz'=>match Zz sz' sz,h.get j with
  |true,io (.row sz2 fs)=>match Zz sz2 sz with
   |true=>io ((fs.drop off).take n,n,off+n<=fs.length)
   |_=>jp
  |_,_=>jp
 |_=>jp
theorem O2{h:AH}{sz n:Nat}{p:PV}{news:List (List PV)}{C:Prop}(hs:TI h sz p=io (news,n,C))(hC:C):Src h sz p news∧news.length=n:=by
 unfold TI at hs;split at hs
 .split at hs
  .rename_i hb;simp only[Y9,Zl]at hs;have:=Zt hb;obtain⟨rfl,rfl,rfl⟩:=hs;subst this;exact⟨.de _ _,by simp⟩
  .cases hs
 .simp only[Y9,Zl]at hs;obtain⟨rfl,rfl,rfl⟩:=hs;exact⟨.nil,rfl⟩
 .split at hs
  .rename_i b x;split at hs
   .rename_i d;simp only[Y9,Zl]at hs;have j:=Zt b;have u:=Zt d;subst j;subst u;obtain⟨rfl,rfl,rfl⟩:=hs;exact⟨.row _ _ _ _ x hC,by simp;omega⟩
   .cases hs
  .cases hs
 .cases hs
def QX(ty:Ty)(s:AS)(op:Op):Option (Prop×PV×AS):=
 match op with
 | .call ⟨.builtin .append,args,tys⟩=>match args.toList,tys.toList with
  | [x,y],[t,t']=>match Zz t' t,ty t with
   |true,io ⟨.bc (.slice u),_,_,_,_⟩=>match ty u with
    |some ⟨_,esz,eby,ez,_⟩=>match Zz ez.cells.size esz,Zs 0 esz,ev s.f x with
     |true,kw,.sl i 0 len sz=>match Zz esz sz,s.h.get i with
      |true,io (.row sz' es)=>match Zz sz' sz,TI s.h sz (ev s.f y) with
       |true,io (news,n,C)=>match s with
        |⟨f,h,nx⟩=>io (es.length=len∧C∧allOnes news=kw∧(len+n)*eby<=140737488355328∧len+n<=140737488355328,.sl nx 0 (len+n) sz,⟨f,(nx,io (.row sz (es++news)))::(i,jp)::h,nx+1⟩)
       |_,_=>jp
      |_,_=>jp
     |_,_,_=>jp
    |none=>jp
   |_,_=>jp
  |_,_=>jp
 |_=>jp
section
variable {P:Program} {ty:Ty} {nt:Nat} {s:AS}
theorem H8(Y:cD P ty){o:Oper}{p:PV}{C:Prop}{s1 s':AS}(h:QX ty s o.op=io (C,p,s1))(hC:C)(hp:putDst nt o p s1=io s'):OT P nt o s (fun t=>t=s'):=by
 unfold QX at h;split at h
 .rename_i args d ho;split at h
  .rename_i x y t j ha ht;split at h
   .rename_i u _ _ _ _ D he;split at h
    .rename_i ek b0 B ez a0 hu;split at h
     .rename_i i len sz F G hx;split at h
      .rename_i c0 es I hi;split at h
       .rename_i b n C' J hs;have h:io (es.length=len∧C'∧allOnes b=kw∧(len+n)*B<=140737488355328∧len+n<=140737488355328,PV.sl s.nx 0 (len+n) sz,uO s i sz es b)=io (C,p,s1):=by
         rw[<-h];cases s;rfl
        simp only[Y9,Zl]at h;obtain⟨rfl,rfl,rfl⟩:=h;have e0:=Zt D;have e4:=Zt J;have A:=Zt I;subst e0;subst e4;have S:o.op= .call ⟨.builtin .append, #[x,y], #[j,j]⟩:=by
         rw[ho];have h1:args= #[x,y]:=by rw[<-aaF (xs:=args),ha]
         have h2:d= #[j,j]:=by rw[<-aaF (xs:=d),ht]
         rw[h1,h2]
        obtain⟨g1,g2,g3,g4,g5⟩:=hC;obtain⟨g6,g7⟩:=O2 hs g2;subst g7;exact U6 Y S he Z hu hx hi g1 A (by rw[Zt F,A]) (by rw[<-A];exact Y5 G) Z g6 (mY g3) g4 g5 hp
       .cases h
      .cases h
     .cases h
    .cases h
   .cases h
  .cases h
 .cases h
def MZ(ty:Ty)(s:AS)(op:Op):Option (Prop×PV×AS):=
 match QX ty s op with
 |some r=>io r
 |none=>match FN s op with
  |some (t0,t)=>match ty t with
   |some ⟨.bc (.slice u),_,_,_,_⟩=>match ty u with
    |some ⟨_,esz,_,_,_⟩=>QX ty (xu s t0 esz) op
    |none=>jp
   |_=>jp
  |none=>jp
theorem MY(b:cD P ty){o:Oper}{p:PV}{C:Prop}{s1 s':AS}(h:MZ ty s o.op=io (C,p,s1))(hC:C)(hp:putDst nt o p s1=io s'):OT P nt o s (fun t=>t=s'):=by
 unfold MZ at h;split at h
 .rename_i r j;simp only[Y9]at h;subst h;exact H8 b j hC hp
 .split at h
  .rename_i t0 t d;split at h
   .split at h
    .exact Nv (IZ d) (H8 b h hC hp)
    .cases h
   .cases h
  .cases h
def Vn(ty:Ty)(s:AS)(op:Op):Option (Prop×PV×AS):=
 match Ta ty s op with
 |some (C,s1)=>io (C,.any,s1)
 |none=>match T7 ty s op with
  |some (p,s1)=>io (True,p,s1)
  |none=>MZ ty s op
theorem Fj(b:cD P ty){o:Oper}{p:PV}{C:Prop}{s1 s':AS}(h:Vn ty s o.op=io (C,p,s1))(hC:C)(hp:putDst nt o p s1=io s'):OT P nt o s (fun t=>t=s'):=by
 unfold Vn at h;split at h
 .rename_i u j hu;simp only[Y9,Zl]at h;obtain⟨rfl,rfl,rfl⟩:=h;exact NC b hu hC hp
 .split at h
  .rename_i x j d;simp only[Y9,Zl]at h;obtain⟨rfl,rfl,rfl⟩:=h;exact Pt b d hp
  .exact MY b h hC hp
end
end
end Go.Al
