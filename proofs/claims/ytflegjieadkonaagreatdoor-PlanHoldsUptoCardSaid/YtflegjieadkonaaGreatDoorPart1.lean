/-
  What the proofs of the claims need: part 1 of 6.
-/
import GoSem.Core.World
import Derived.Calls
import Derived.Laws.AppendOwn
import Derived.Below
import Derived.Laws.Cells
import Derived.Laws.Entries
import Derived.Laws.StructEq
import Derived.ChangeKeysEq
import Derived.WideLaws
import Derived.Tactics
import Derived.IntWalk
import Derived.WideShapes
import Derived.Lib.Strings
import Derived.MapKept
import Derived.Maps.RangeRun
import Derived.Still
import Derived.Scope
import Derived.Laws.CopyRow
import Derived.Laws.Append
open Array renaming eraseIdxIfInBounds→TD,getD_eq_getD_getElem?→Qt,getElem?_append_left→RB,getElem?_eq_getElem→Rs,getElem?_eq_none→Tk,getElem?_eq_some_iff→RO,getElem?_map→S3,getElem?_modify→Ru,getElem?_push→SV,getElem?_setIfInBounds→Rj,getElem?_toList→RI,mapM_eq_mapM_toList→Tv,mem_filter→T7,range→Tz,replicate→Sj,size_append→SR,toArray_toList→R6,toList_append→Td,toList_inj→T6
open Bool renaming and_eq_true→Q5,eq_false_iff→S8,eq_iff_iff→RS,false_eq_true→SK,false_or→R4,not_eq_true'→Rw,not_true→S5,or_eq_true→R9
open Classical renaming choose→Tb,choose_spec→Sr
open Int renaming toNat_of_nonneg→TZ
open List.Pairwise renaming nil→Tl
open List renaming all_eq_true→Q7,any_eq_true→RR,append_assoc→QU,append_nil→Ro,cons_append→Se,filter_sublist→Ts,flatten_cons→TA,foldl_cons→Rc,getD_eq_getElem?_getD→Qx,getElem?_append_left→QQ,getElem?_append_right→QX,getElem?_cons_succ→SZ,getElem?_cons_zero→Th,getElem?_drop→RQ,getElem?_eq_getElem→Qy,getElem?_eq_some_iff→Qw,getElem?_map→QC,getElem?_of_mem→RE,getElem?_set→R5,getElem?_take→Rt,getElem?_toArray→RU,getElem_mem→Rz,length_append→Qv,length_cons→Rf,length_map→Rv,length_nil→R0,length_pos_iff→SD,length_take→RW,map_append→QO,map_cons→Q4,map_nil→RL,mem_append_left→Q8,mem_cons→QY,mem_cons_of_mem→QR,mem_cons_self→Q3,mem_filter→Rn,mem_map→RH,mem_of_getElem?→Rk,mem_singleton→QJ,nil_append→Sa,nodup_cons→RT,nodup_nil→RF,pairwise_cons→R8,pairwise_iff_getElem→Sq,range→Rh
open Nat renaming add_assoc→Sm,add_mul→RJ,add_zero→S2,beq→Q6,ble→SE,ble_eq_true_of_le→Ry,blt→QZ,eq_of_beq_eq_true→QS,le_of_ble_eq_true→Qs,le_of_not_lt→Su,le_refl→QH,le_trans→Rr,lt_of_lt_of_le→Ss,lt_or_ge→RN,lt_succ_of_lt→Sb,lt_succ_self→RX,mul_le_mul_right→Rb,ne_of_lt→TJ,not_lt_zero→R1,sub_zero→TL,succ_mul→SQ,zero_add→Q9,zero_le→QN,zero_mul→Sy
open Option renaming getD_some→R2,map_eq_none_iff→SF,map_eq_some_iff→QF,map_map→TV,map_none→TP,map_some→RZ
open Option.some renaming inj→RC,injEq→Qu
open Prod renaming fst→Ra
open Prod.mk renaming injEq→QI
set_option maxRecDepth 100000
open Bool renaming false→lc,true→kw
open Decidable renaming decide→li
open Inhabited renaming default→co
open Option renaming none→jp,some→io
namespace Go
theorem D.{u}{α:Sort u}{a:α}:a=a:=rfl
theorem ac:True:=trivial
theorem am.{u}{c:Prop}{h:Decidable c}(hc:c){α:Sort u}{t e:α}:(@ite α c h t e)=t:=if_pos hc
theorem be.{u}{c:Prop}{h:Decidable c}(hc:¬c){α:Sort u}{t e:α}:(@ite α c h t e)=e:=if_neg hc
end Go
namespace Go.Al
section
def o6:List Int:=[1,10,100,1000,10000,100000,1000000,10000000,100000000,1000000000,10000000000,100000000000,1000000000000,10000000000000,100000000000000,1000000000000000,10000000000000000,100000000000000000,1000000000000000000,10000000000000000000]
def MR:Nat->Option (Array Value)
 |0=>io (o6.map fun z=>Value.int .u64 z).toArray
 |_=>jp
inductive KC where
 |str
 |int (k:IntKind)
 |si (k:IntKind)
 deriving DecidableEq
@[reducible] def KC.K:KC->Type
 | .str=>ByteArray
 | .int _=>Int
 | .si _=>ByteArray×Int
instance KC.deq:(c:KC)->DecidableEq c.K
 | .str=>inferInstanceAs (DecidableEq ByteArray)
 | .int _=>inferInstanceAs (DecidableEq Int)
 | .si _=>inferInstanceAs (DecidableEq (ByteArray×Int))
def KC.ek:(c:KC)->c.K->Value
 | .str,s=> .string s
 | .int k,n=> .int k n
 | .si k,x=> .agg #[.string x.1,.int k x.2]
inductive IV:Type 1 where
 |v (x:Value)
 |c5 (sz n:Nat) (el:Nat->List IV)
 |j6 (cs:List IV)
 |agg (cs:List IV)
 |du {V:Type} (kc:KC) (ev:V->IV) (z:V) (zv:Value) (m:List (kc.K×V))
inductive PV:Type 1 where
 |iv (x:IV)
 |agg (cs:List PV)
 |bB (cs:List PV)
 |ptr (i off:Nat)
 |dd (i sz k off:Nat)
 |dV (z:Bool) (i:Nat)
 |sl (i off len sz:Nat)
 |mp (i:Nat)
 |cK (fn:Fn) (first caps:List PV)
 |kb (b:Bool)
 |any
inductive AO:Type 1 where
 |cells (cs:List PV) (T:Option TypeId:=jp)
 |row (sz:Nat) (es:List (List PV))
 |bu (l:List UInt8) (T:TypeId)
 |fg
 |map {V:Type} (kc:KC) (ev:V->IV) (z:V) (zv:Value) (dv:PV->V) (m:List (kc.K×V))
 |bQ {V:Type} (kc:KC) (ev:V->IV) (m:List (kc.K×V)) (vs:List Nat) (cur:Option (kc.K×V))
 |dJ (s:ByteArray) (pos:Nat)
inductive MB where
 |cells (c:Array Value)
 |map (ents:Array MapEntry) (clock:Nat)
structure Mem where
 fn:Nat->Option MB
 Ju: ∀b c,MR b=io c->fn b=io (.cells c)
instance:CoeFun Mem (fun _=>Nat->Option MB):=⟨Mem.fn⟩
def Mem.base:Mem:=⟨fun b=>(MR b).map .cells,fun b c h=>by rw[h];rfl⟩
def yr(a:Option TypeId)(T:TypeId):Prop:= ∀t,a=io t->T=t
theorem yr.none(T:TypeId):yr jp T:=fun _ h=>nomatch h
def Mem.cell(M:Mem)(b o:Nat):Option Value:=match M b with|some (.cells c)=>c[o]? |_=>jp
def Mem.set(M:Mem)(b:Nat)(c:MB)(h:M b=jp):Mem:=
 ⟨fun x=>if x=b then io c else M x,fun x d j=>by
  rw[be fun e=>by have:=M.Ju x d j;rw[e]at this;exact absurd (this.symm.trans h) (by simp)]
  exact M.Ju x d j⟩
def MB.DR(w:World)(b:Nat):MB->Prop
 | .cells c=> ∃T d,w.heap[b]? =io (.cells c T d)
 | .map es cl=>w.heap[b]? =io (.map es cl)
theorem MB.DR.lt{w:World}{b:Nat}{m:MB}(h:m.DR w b):b<w.heap.size:=by
 cases m with
 |cells c=>obtain⟨T,j,d⟩:=h;exact(RO.1 d).1
 |map es cl=>exact(RO.1 h).1
theorem MB.DR.mono{w d:World}{b:Nat}{m:MB}(h:m.DR w b)(e:d.heap[b]? =w.heap[b]?):m.DR d b:=by
 cases m with
 |cells c=>obtain⟨T,j,u⟩:=h;exact⟨T,j,e.trans u⟩
 |map es cl=>exact e.trans h
structure Nm where
 aB:Nat->Nat
 ext:Nat->Nat
inductive IR (M:Mem):IV->Value->Prop
 |v (x:Value):IR M (.v x) x
 |iA (sz:Nat) (el:Nat->List IV) (a:Option Addr) (cap:Nat):IR M (.c5 sz 0 el) (.slice a 0 cap)
 | c5 (sz n:Nat) (el:Nat->List IV) (b off cap:Nat) (hn:n<=cap) (hc:cap<=maxLen) (hl: ∀k,k<n->(el k).length=sz)
   (hm: ∀k j,k<n->j<sz->(M.cell b (off+k*sz+j)).isSome=kw)
   (hr: ∀k j p,k<n->(el k)[j]? =io p->IR M p ((M.cell b (off+k*sz+j)).getD undef)):
   IR M (.c5 sz n el) (.slice (io ⟨b,off,jp⟩) n cap)
 | j6 (cs:List IV) (b off:Nat) (hm: ∀j,j<cs.length->(M.cell b (off+j)).isSome=kw)
   (hr: ∀j p,cs[j]? =io p->IR M p ((M.cell b (off+j)).getD undef)):IR M (.j6 cs) (.pointer (io ⟨b,off,jp⟩))
 |agg (cs:List IV) (ys:Array Value) (hl:cs.length=ys.size) (hr: ∀j p,cs[j]? =io p->IR M p (ys.getD j undef)):IR M (.agg cs) (.agg ys)
 | du {V:Type} (kc:KC) (ev:V->IV) (z:V) (zv:Value) (m:List (kc.K×V)) (b:Nat) (ents:Array MapEntry) (clock:Nat) (hb:M b=io (.map ents clock)) (hs:ents.size=m.length)
   (hk: ∀(j:Nat) (x:kc.K×V),m[j]? =io x->(ents.getD j co).key=kc.ek x.1) (hv: ∀(j:Nat) (x:kc.K×V),m[j]? =io x->IR M (ev x.2) (ents.getD j co).val) (hz:IR M (ev z) zv)
   (hi: ∀(j k:Nat) (e f:MapEntry),ents[j]? =io e->ents[k]? =io f->e.born=f.born->j=k) (hc: ∀(j:Nat) (e:MapEntry),ents[j]? =io e->e.born<clock):IR M (.du kc ev z zv m) (.map (io b))
inductive VR (M:Mem) (N:Nm) (U:Nat->Prop):PV->Value->Prop
 |iv (x:IV) (y:Value) (h:IR M x y):VR M N U (.iv x) y
 |agg (cs:List PV) (ys:Array Value) (hl:cs.length=ys.size) (hr: ∀j p,cs[j]? =io p->VR M N U p (ys.getD j undef)):VR M N U (.agg cs) (.agg ys)
 |bB (cs:List PV) (ys:Array Value) (hl:cs.length=ys.size) (hr: ∀j p,cs[j]? =io p->VR M N U p (ys.getD j undef)):VR M N U (.bB cs) (.tuple ys)
 |ptr (i off:Nat) (h:U i):VR M N U (.ptr i off) (.pointer (io ⟨N.aB i,off,jp⟩))
 |dd (i sz k off:Nat) (h:U i):VR M N U (.dd i sz k off) (.pointer (io ⟨N.aB i,k*sz+off,jp⟩))
 |dV (z:Bool) (i:Nat) (h:U i):VR M N U (.dV z i) (.pointer (bif z then jp else io ⟨N.aB i,0,jp⟩))
 |sl (i off len sz cap:Nat) (h:U i) (h0:0<len) (hl:len<=cap) (hc:cap<=maxLen) (he:(off+cap)*sz=N.ext i):VR M N U (.sl i off len sz) (.slice (io ⟨N.aB i,off*sz,jp⟩) len cap)
 |mE (i sz:Nat) (h:U i):VR M N U (.sl i 0 0 sz) (.slice jp 0 0)
 |sle (i sz cap:Nat) (h:U i) (hc:cap<=maxLen) (he:cap*sz=N.ext i):VR M N U (.sl i 1 0 sz) (.slice (io ⟨N.aB i,0,jp⟩) 0 cap)
 |mp (i:Nat) (h:U i):VR M N U (.mp i) (.map (io (N.aB i)))
 | cK (fn:Fn) (first caps:List PV) (f' c':Array Value) (h1:first.length=f'.size) (h2:caps.length=c'.size)
   (hr1: ∀j p,first[j]? =io p->VR M N U p (f'.getD j undef)) (hr2: ∀j p,caps[j]? =io p->VR M N U p (c'.getD j undef)):VR M N U (.cK fn first caps) (.func fn f' c')
 |kb (b:Bool):VR M N U (.kb b) (.bool b)
 |any (x:Value):VR M N U .any x
def Mem.le(M d:Mem):Prop:= ∀b c,M b=io c->d b=io c
theorem Mem.le.refl(M:Mem):M.le M:=fun _ _ h=>h
theorem Mem.le.trans{A B C:Mem}(h:A.le B)(k:B.le C):A.le C:=fun b c e=>k b c (h b c e)
theorem Mem.le.cell{M d:Mem}(h:M.le d){b o:Nat}{v:Value}(hc:M.cell b o=io v):d.cell b o=io v:=by
 unfold Mem.cell at*
 cases hb:M b with
 |none=>simp[hb]at hc
 |some c=>rw[hb]at hc;rw[h b c hb];exact hc
theorem Mem.le.isSome{M d:Mem}(h:M.le d){b o:Nat}(hc:(M.cell b o).isSome=kw):(d.cell b o).isSome=kw∧(d.cell b o).getD undef=(M.cell b o).getD undef:=by
 cases hv:M.cell b o with
 |none=>simp[hv]at hc
 |some v=>rw[h.cell hv];simp
theorem IR.mono{M A:Mem}(hM:M.le A){p:IV}{x:Value}(h:IR M p x):IR A p x:=by
 induction h with
 |v x=>exact .v x
 |iA sz el a cap=>exact .iA sz el a cap
 |c5 sz n el b off cap hn hc hl hm hr ih=>
  refine .c5 sz n el b off cap hn hc hl (fun k j u d=>(hM.isSome (hm k j u d)).1) (fun k j p u y=>?_);have d:j<sz:=by rw[<-hl k u];exact(Qw.1 y).1
  rw[(hM.isSome (hm k j u d)).2];exact ih k j p u y
 |j6 cs b off hm hr ih=>
  refine .j6 cs b off (fun j d=>(hM.isSome (hm j d)).1) (fun j p y=>?_);have d:j<cs.length:=(Qw.1 y).1;rw[(hM.isSome (hm j d)).2];exact ih j p y
 |agg cs ys hl hr ih=>exact .agg cs ys hl ih
 |du kc ev z zv m b ents clock hb hs u hv hz hi hc ihv ihz=>exact .du kc ev z zv m b ents clock (hM _ _ hb) hs u ihv ihz hi hc
structure ji {V:Type} (M:Mem) (kc:KC) (ev:V->IV) (m:List (kc.K×V)) (ents:Array MapEntry) (clock:Nat):Prop where
 size:ents.size=m.length
 key: ∀(j:Nat) (x:kc.K×V),m[j]? =io x->(ents.getD j co).key=kc.ek x.1
 val: ∀(j:Nat) (x:kc.K×V),m[j]? =io x->IR M (ev x.2) (ents.getD j co).val
 inj: ∀(j k:Nat) (e f:MapEntry),ents[j]? =io e->ents[k]? =io f->e.born=f.born->j=k
 lt: ∀(j:Nat) (e:MapEntry),ents[j]? =io e->e.born<clock
theorem ji.mono{V:Type}{M b:Mem}(hM:M.le b){kc:KC}{ev:V->IV}{m:List (kc.K×V)}{ents:Array MapEntry}{clock:Nat}(h:ji M kc ev m ents clock):ji b kc ev m ents clock:=
 ⟨h.size,h.key,fun j x d=>(h.val j x d).mono hM,h.inj,h.lt⟩
structure Nm.agree (N N':Nm) (U:Nat->Prop):Prop where
 aB: ∀i,U i->N'.aB i=N.aB i
 ext: ∀i,U i->N'.ext i=N.ext i
theorem Nm.agree.refl(N:Nm)(U:Nat->Prop):N.agree N U:=⟨fun _ _=>rfl,fun _ _=>rfl⟩
theorem VR.mono{M u:Mem}{N A:Nm}{U B:Nat->Prop}(hM:M.le u)(d:N.agree A U)(j: ∀i,U i->B i){p:PV}{x:Value}(h:VR M N U p x):VR u A B p x:=by
 induction h with
 |iv x y h=>exact .iv x y (h.mono hM)
 |agg cs ys hl hr ih=>exact .agg cs ys hl ih
 |bB cs ys hl hr ih=>exact .bB cs ys hl ih
 |ptr i off h=>rw[<-d.aB i h];exact .ptr i off (j i h)
 |dd i sz k off h=>rw[<-d.aB i h];exact .dd i sz k off (j i h)
 |dV z i h=>rw[<-d.aB i h];exact .dV z i (j i h)
 |sl i off len sz cap h h0 hl hc he=>rw[<-d.aB i h];exact .sl i off len sz cap (j i h) h0 hl hc (by rw[d.ext i h];exact he)
 |mE i sz h=>exact .mE i sz (j i h)
 |sle i sz cap h hc he=>rw[<-d.aB i h];exact .sle i sz cap (j i h) hc (by rw[d.ext i h];exact he)
 |mp i h=>rw[<-d.aB i h];exact .mp i (j i h)
 |cK fn first caps f' c' h1 h2 hr1 hr2 ih1 ih2=>exact .cK fn first caps f' c' h1 h2 ih1 ih2
 |kb b=>exact .kb b
 |any x=>exact .any x
abbrev AH:=List (Nat×Option AO)
def AH.get:AH->Nat->Option AO
 | [],_=>jp
 |(i,o)::r,k=>bif Q6 k i then o else AH.get r k
abbrev AF:=List (Nat×PV)
def AF.get:AF->Nat->PV
 | [],_=> .any
 |(i,p)::r,k=>bif Q6 k i then p else AF.get r k
theorem AF.ay(i:Nat)(p:PV)(r:AF)(k:Nat):AF.get ((i,p)::r) k=if k=i then p else AF.get r k:=by
 by_cases h:k=i
 .subst h;simp[AF.get]
 .have:Q6 k i=lc:=S8.2 (fun e=>h (QS e));simp[AF.get,this,h]
theorem AH.ay(i:Nat)(o:Option AO)(r:AH)(k:Nat):AH.get ((i,o)::r) k=if k=i then o else AH.get r k:=by
 by_cases h:k=i
 .subst h;simp[AH.get]
 .have:Q6 k i=lc:=S8.2 (fun e=>h (QS e));simp[AH.get,this,h]
def OR(M:Mem)(N:Nm)(U:Nat->Prop)(w:World)(i:Nat):AO->Prop
 | .cells cs T0=> ∃c T,w.heap[N.aB i]? =io (.cells c T (0,0))∧c.size=N.ext i∧cs.length=c.size∧(∀j p,cs[j]? =io p->VR M N U p (c.getD j undef))∧yr T0 T
 | .row sz es=>es=[]∨0<sz∧ ∃c T,w.heap[N.aB i]? =io (.cells c T (0,0))∧c.size=N.ext i∧es.length*sz<=c.size∧(∀(k:Nat) (e:List PV),es[k]? =io e->e.length=sz)∧
   ∀(k:Nat) (e:List PV) (j:Nat) (p:PV),es[k]? =io e->e[j]? =io p->VR M N U p (c.getD (k*sz+j) undef)
 | .bu l T=>l=[]∨ ∃c,w.heap[N.aB i]? =io (.cells c T (0,0))∧c.size=N.ext i∧l.length<=c.size∧ ∀(j:Nat) (x:UInt8),l[j]? =io x->c.getD j undef= .int .u8 (x.toNat:Int)
 | .fg=>w.heap[N.aB i]? =io (.map #[] 0)
 | .map kc ev z zv _ m=> ∃(ents:Array MapEntry) (clock:Nat),w.heap[N.aB i]? =io (.map ents clock)∧ji M kc ev m ents clock∧IR M (ev z) zv
 | .bQ kc ev m vs cur=>(m=[]∧vs=[]∧cur=jp∧w.heap[N.aB i]? =io (.mapIter jp 0 #[] 0))∨ ∃(b:Nat) (ents:Array MapEntry) (clock:Nat) (d:Array Nat),w.heap[N.aB i]? =io (.mapIter (io b) clock d clock)∧M b=io (.map ents clock)∧ji M kc ev m ents clock∧
   d.toList=vs.reverse.map (fun j=>(ents.getD j co).born)∧(∀j∈vs,j<m.length)∧vs.Nodup∧ ∀x,cur=io x-> ∃j r,vs=j::r∧m[j]? =io x
 | .dJ s pos=>w.heap[N.aB i]? =io (.stringIter s pos)
def AO.real:AO->Bool
 | .row _ []=>lc
 | .bu [] _=>lc
 |_=>kw
structure Rel (M:Mem) (N:Nm) (U:Nat->Prop) (h:AH) (w:World):Prop where
 dT: ∀b c,M b=io c->c.DR w b
 used: ∀i o,h.get i=io o->U i
 dW: ∀i o,h.get i=io o->o.real=kw->M (N.aB i)=jp
 obj: ∀i o,h.get i=io o->OR M N U w i o
 inj: ∀i j o p,h.get i=io o->h.get j=io p->o.real=kw->p.real=kw->N.aB i=N.aB j->i=j
theorem OR.lt{M:Mem}{N:Nm}{U:Nat->Prop}{w:World}{i:Nat}{o:AO}(h:OR M N U w i o)(j:o.real=kw):N.aB i<w.heap.size:=by
 have key: ∀x,w.heap[N.aB i]? =io x->N.aB i<w.heap.size:=fun x y=>(RO.1 y).1
 cases o with
 |cells cs T0=>obtain⟨c,T,d,_⟩:=h;exact key _ d
 |row sz es=>
  rcases h with rfl|⟨_,c,T,d,_⟩
  .cases j
  .exact key _ d
 |bu l T=>
  rcases h with rfl|⟨c,d,_⟩
  .cases j
  .exact key _ d
 |fg=>exact key _ h
 |map kc ev z zv dv m=>obtain⟨e,u,d,_⟩:=h;exact key _ d
 |bQ kc ev m l cu=>rcases h with⟨_,_,_,d⟩|⟨b,e,u,A,d,_⟩<;>exact key _ d
 |dJ s p=>exact key _ h
theorem OR.mono{M S:Mem}{N B:Nm}{U Y:Nat->Prop}{w F:World}{i:Nat}{o:AO}(hM:M.le S)(d:N.agree B U)(Z: ∀i,U i->Y i)(hi:U i)(hb:F.heap[N.aB i]? =w.heap[N.aB i]?)
  (h:OR M N U w i o):OR S B Y F i o:=by
 cases o with
 |cells cs T0=>
  obtain⟨c,T,u,x,y,A,I⟩:=h;exact⟨c,T,by rw[d.aB i hi,hb,u],by rw[d.ext i hi,x],y,fun j p J=>(A j p J).mono hM d Z,I⟩
 |row sz es=>
  rcases h with h|⟨h0,c,T,u,x,y,A,I⟩
  .exact .inl h
  exact .inr ⟨h0,c,T,by rw[d.aB i hi,hb,u],by rw[d.ext i hi,x],y,A,fun k e j p he J=>(I k e j p he J).mono hM d Z⟩
 |bu l T=>
  rcases h with h|⟨c,u,x,y,A⟩
  .exact .inl h
  exact .inr ⟨c,by rw[d.aB i hi,hb,u],by rw[d.ext i hi,x],y,A⟩
 |fg=>show F.heap[B.aB i]? =_;rw[d.aB i hi,hb];exact h
 |map kc ev z zv dv m=>
  obtain⟨e,G,u,x,y⟩:=h;exact⟨e,G,by rw[d.aB i hi,hb,u],x.mono hM,y.mono hM⟩
 |bQ kc ev m l cu=>
  rcases h with⟨u,x,y,A⟩|⟨b,e,G,se,u,x,y,A⟩
  .exact .inl ⟨u,x,y,by rw[d.aB i hi,hb,A]⟩
  .exact .inr ⟨b,e,G,se,by rw[d.aB i hi,hb,u],hM _ _ x,y.mono hM,A⟩
 |dJ s p=>show F.heap[B.aB i]? =_;rw[d.aB i hi,hb];exact h
structure Ext (M:Mem) (N:Nm) (U:Nat->Prop) (h:AH) (w:World) (M':Mem) (N':Nm) (U':Nat->Prop) (h':AH) (w':World):Prop where
 os:w'.os=w.os
 tape:w'.tape=w.tape
 output:w'.output=w.output
 size:w.heap.size<=w'.heap.size
 fG: ∀b,b<w.heap.size->(∀i o,h.get i=io o->o.real=kw->N.aB i≠b)->w'.heap[b]? =w.heap[b]?
 pb:M.le M'
 gK: ∀b c,M b=jp->M' b=io c->w.heap.size<=b∨ ∃i o,h.get i=io o∧o.real=kw∧N.aB i=b
 nm:N.agree N' U
 ule: ∀i,U i->U' i
 fV: ∀i o,h'.get i=io o->o.real=kw->w.heap.size<=N'.aB i∨ ∃j p,h.get j=io p∧p.real=kw∧N.aB j=N'.aB i
theorem Ext.refl(M:Mem)(N:Nm)(U:Nat->Prop)(h:AH)(w:World):Ext M N U h w M N U h w:=
 ⟨rfl,rfl,rfl,QH _,fun _ _ _=>rfl,.refl _,fun b c d j=>by simp[d]at j,.refl _ _,fun _ h=>h,fun i o u x=> .inr ⟨i,o,u,x,rfl⟩⟩
theorem Ext.trans{M G I:Mem}{N J S:Nm}{U Y Z:Nat->Prop}{h h1 h2:AH}{w w1 w2:World}
  (a:Ext M N U h w G J Y h1 w1) (b:Ext G J Y h1 w1 I S Z h2 w2):Ext M N U h w I S Z h2 w2 where
 os:=b.os.trans a.os
 tape:=b.tape.trans a.tape
 output:=b.output.trans a.output
 size:=Rr a.size b.size
 fG:=fun k hk hn=>by
  rw[b.fG k (Ss hk a.size) (fun i o d u he=>?_),a.fG k hk hn];rcases a.fV i o d u with x|⟨j,p,x,F,y⟩
  .omega
  .exact hn j p x F (y.trans he)
 pb:=a.pb.trans b.pb
 gK:=fun k c x y=>by
  cases A:G k with
  |some c'=>exact a.gK k c' x A
  |none=>
   rcases b.gK k c A y with B|⟨i,o,B,u,h7⟩
   .exact .inl (Rr a.size B)
   .rcases a.fV i o B u with h8|⟨j,p,h8,F,h9⟩
    .exact .inl (by omega)
    .exact .inr ⟨j,p,h8,F,h9.trans h7⟩
 nm:=⟨fun i d=>(b.nm.aB i (a.ule i d)).trans (a.nm.aB i d),fun i d=>(b.nm.ext i (a.ule i d)).trans (a.nm.ext i d)⟩
 ule:=fun i d=>b.ule i (a.ule i d)
 fV:=fun i o d u=>by
  rcases b.fV i o d u with x|⟨j,p,x,F,y⟩
  .exact .inl (Rr a.size x)
  .rcases a.fV j p x F with A|⟨k,q,A,hq,B⟩
   .exact .inl (by omega)
   .exact .inr ⟨k,q,A,hq,B.trans y⟩
def aC(p q:PV):Prop:= ∀(M:Mem) (N:Nm) (U:Nat->Prop) (x:Value),VR M N U p x->VR M N U q x
def lE(p q:IV):Prop:= ∀(M:Mem) (x:Value),IR M p x->IR M q x
theorem aC.refl(p:PV):aC p p:=fun _ _ _ _ h=>h
theorem yc(w:World)(o:Obj)(i:Nat)(h:i<w.heap.size):(w.alloc o).heap[i]? =w.heap[i]? :=by
 show(w.heap.push o)[i]? =_;rw[SV,be (by omega)]
def FR(M:Mem)(N:Nm)(U:Nat->Prop)(f:AF)(t:Array Value):Prop:= ∀k,VR M N U (f.get k) (t.getD k undef)
theorem FR.mono{M b:Mem}{N d:Nm}{U j:Nat->Prop}{f:AF}{t:Array Value}(hM:M.le b)(u:N.agree d U)(x: ∀i,U i->j i)(h:FR M N U f t):FR b d j f t:=fun k=>(h k).mono hM u x
theorem FR.ext{M b:Mem}{N d:Nm}{U j:Nat->Prop}{h u:AH}{w x:World}{f:AF}{t:Array Value}(e:Ext M N U h w b d j u x)(hf:FR M N U f t):FR b d j f t:=hf.mono e.pb e.nm e.ule
theorem FR.put{M:Mem}{N:Nm}{U:Nat->Prop}{f:AF}{t:Array Value}(h:FR M N U f t)(d:Nat)(p:PV)(x:Value)(hd:d<t.size)(hp:VR M N U p x):FR M N U ((d,p)::f) (t.setIfInBounds d x):=by
 intro k;rw[AF.ay];by_cases b:k=d
 .subst b;simp[Qt,hd,hp]
 .rw[be b];have:=h k;simp only[Qt,Rj]at this ⊢;rw[be (fun e=>b e.symm)];exact this
inductive TK where
  |aT (d:TypeDesc)
  |df (fs:List (Nat×TypeId))
  |arr (n:Nat) (e:TypeId)
structure b7 where
  k:TK
  size:Nat
  bytes:Nat
  zero:Value
  eq:Bool
abbrev Ty:=Nat->Option b7
def vH:TypeDesc->Bool
  | .struct _=>lc
  | .array _ _=>lc
  |_=>kw
def Hd(P:Program)(t:TypeId):TK->Prop
  | .aT d=>P.underlying t=io d∧vH d=kw
  | .df fs=> ∃F,P.underlying t=io (.struct F)∧F.toList.map (fun f=>(f.offset,f.type))=fs
  | .arr n e=>P.underlying t=io (.array n e)
def Pe(P:Program)(t:TypeId):Prop:=P.stoodInHeld t=lc∧P.eqGuardType P.depth t=lc∧ ∀f∈(P.fieldsOf t).toList,f.name≠ "_"
def ak(P:Program)(t:TypeId)(e:b7):Prop:=
  (∃i,P.info? t=io i∧i.size=e.size∧i.bytes=e.bytes∧i.zero=io e.zero)∧Hd P t e.k∧(e.eq=kw->Pe P t)
def bT(P:Program)(ty:Ty):Prop:= ∀t e,ty t=io e->ak P t e
section
variable {P:Program} {w:World}
theorem bC{t:TypeId}{e:b7}(h:ak P t e):(sizeOf t).run P w= .ok e.size w:=by
  obtain⟨⟨i,b,d,_⟩,_⟩:=h;simp[sizeOf,run_typeInfo w b,d]
theorem dh{t:TypeId}{e:b7}(h:ak P t e):(zeroValue t).run P w= .ok e.zero w:=by
  obtain⟨⟨i,b,j,hb,d⟩,_⟩:=h;simp[zeroValue,run_typeInfo w b,d]
def TK.agg:TK->Bool
  | .aT _=>lc
  |_=>kw
theorem lL{t:TypeId}{e:b7}(h:ak P t e):(isAgg t).run P w= .ok e.k.agg w:=by
  obtain⟨_,b,_⟩:=h;cases hek:e.k with
  | aT d=>
    rw[hek]at b;obtain⟨j,u⟩:=b;simp only[isAgg,Sem.run_bind,run_underlying j,Result.andThen_ok];cases d<;>simp_all [vH,TK.agg]
  | df fs=>
    rw[hek]at b;obtain⟨F,j,_⟩:=b;simp[isAgg,run_underlying j,TK.agg]
  | arr n el=>
    rw[hek]at b;simp only[Hd]at b;simp[isAgg,run_underlying b,TK.agg]
end
structure AS where
  f:AF
  h:AH
  nx:Nat
def Fits(M:Mem)(N:Nm)(s:AS)(nt:Nat)(a:Act)(w:World):Prop:=
  Rel M N (· <s.nx) s.h w∧FR M N (· <s.nx) s.f a.tmps∧a.defers=[]∧a.tmps.size=nt
def ofV:Value->PV
  | .agg cs=> .agg (cs.toList.map fun v=> .iv (.v v))
  | .bool b=> .kb b
  |v=> .iv (.v v)
def ev(f:AF):Operand->PV
  | .tmp t=>f.get t
  | .const v=>ofV v
  | .global _=> .any
  | .func g=> .cK (.func g) [] []
theorem MC{M:Mem}{N:Nm}{U:Nat->Prop}(v:Value):VR M N U (ofV v) v:=by
  cases v<;>first
    |exact .iv _ _ (.v _)
    |exact .kb _
    | (refine .agg _ _ (by simp) (fun j p d=>?_)
       rw[QC,QF]at d;obtain⟨x,y,rfl⟩:=d;rename_i u;have b:u[j]? =io x:=by simpa using y
       rw[Qt,b]
       exact .iv _ _ (.v _))
theorem aO{M:Mem}{N:Nm}{U:Nat->Prop}{f:AF}{a:Act}(h:FR M N U f a.tmps)(x:Operand):VR M N U (ev f x) (a.eval x):=by
  cases x with
  |tmp t=>exact h t
  |const v=>exact MC v
  |global g=>exact .any _
  |func g=>exact .cK _ _ _ _ _ D D (by simp) (by simp)
def kR(cs:List PV)(off n:Nat):Option (List PV):=let l:=(cs.drop off).take n;bif Q6 l.length n then io l else jp
def ur{α:Type _}(p:PV)(k:PV->α):α:=
  match p with
  | .iv x=>k (.iv x)
  | .agg cs=>k (.agg cs)
  | .bB cs=>k (.bB cs)
  | .ptr i o=>k (.ptr i o)
  | .dd i sz a o=>k (.dd i sz a o)
  | .dV z i=>k (.dV z i)
  | .sl i o n sz=>k (.sl i o n sz)
  | .mp i=>k (.mp i)
  | .cK fn a b=>k (.cK fn a b)
  | .kb b=>k (.kb b)
  | .any=>k .any
theorem dy{α:Type _}(p:PV)(k:PV->α):ur p k=k p:=by cases p<;>rfl
def force{α:Type _}:List PV->(List PV->α)->α
  | [],k=>k []
  |x::r,k=>ur x fun d=>force r fun b=>k (d::b)
theorem force_eq{α:Type _}: ∀(l:List PV) (k:List PV->α),force l k=k l
  | [],_=>rfl
  |x::r,k=>by simp only[force,dy];rw[force_eq r]
def PV.one:PV->Bool
  | .iv (.v (.agg _))=>lc
  | .iv (.v (.tuple _))=>lc
  | .iv (.agg _)=>lc
  | .iv _=>kw
  | .agg _=>lc
  | .bB _=>lc
  | .any=>lc
  |_=>kw
def PV.cells:PV->Option (List PV)
  | .agg cs=>io cs
  | p=>match p.one with
    |true=>io [p]
    |false=>jp
def gd:List PV->Bool
  | []=>kw
  | p::r=>match p.one with
    |true=>gd r
    |false=>lc
def setCells:List PV->Nat->List PV->List PV
  | [],_,_=> []
  |c::cs,0,[]=>c::cs
  |_::cs,0,x::xs=>x::setCells cs 0 xs
  |c::cs,n+1,xs=>c::setCells cs n xs
theorem eA: ∀(cs:List PV) (n:Nat) (xs:List PV),(setCells cs n xs).length=cs.length
  | [],_,_=>rfl
  |c::cs,0,[]=>rfl
  |_::cs,0,x::xs=>by simp[setCells,eA cs 0 xs]
  |c::cs,n+1,xs=>by simp[setCells,eA cs n xs]
theorem iW: ∀(cs:List PV) (n:Nat) (xs:List PV) (j:Nat) (p:PV),(setCells cs n xs)[j]? =io p->(n<=j∧xs[j-n]? =io p)∨((j<n∨n+xs.length<=j)∧cs[j]? =io p)
  | [],_,_,j,p,h=>by simp[setCells]at h
  |c::cs,0,[],j,p,h=> .inr ⟨.inr (by simp),h⟩
  | c::cs,0,x::xs,j,p,h=>by
    simp only[setCells]at h;cases j with
    |zero=>exact .inl ⟨QH _,by simpa using h⟩
    | succ j=>
      rcases iW cs 0 xs j p (by simpa using h) with⟨_,b⟩|⟨b,d⟩
      · exact .inl ⟨QN _,by simpa using b⟩
      · exact .inr ⟨by simp at b ⊢;omega,by simpa using d⟩
  | c::cs,n+1,xs,j,p,h=>by
    simp only[setCells]at h;cases j with
    |zero=>exact .inr ⟨.inl (by omega),by simpa using h⟩
    | succ j=>
      rcases iW cs n xs j p (by simpa using h) with⟨b,d⟩|⟨b,d⟩
      · exact .inl ⟨by omega,by rw[show j+1-(n+1)=j-n by omega];exact d⟩
      · exact .inr ⟨by omega,by simpa using d⟩
def ch(v:Value):List PV:=v.cells.toList.map fun x=> .iv (.v x)
def oG(b:Nat->Option (Nat×Nat)):List PV->List (Nat×PV)->Option (List PV)
  |cs,[]=>io cs
  | cs,(i,p)::r=>match b i with
    | some (off,size)=>match p.cells with
      | some l=>match Q6 l.length size,SE (off+l.length) cs.length with
        |true,kw=>force (setCells cs off l) fun d=>oG b d r
        |_,_=>jp
      |none=>jp
    |none=>jp
def jK:List PV->Option PV
  | []=>jp
  |p::_=>io p
def behind(h:AH):PV->Option (List PV)
  | .ptr i off=>match h.get i with
    |some (.cells cs _)=>io (cs.drop off)
    |_=>jp
  | .dd i sz k off=>match h.get i with
    | some (.row sz' es)=>match Q6 sz' sz,es[k]? with
      |true,io e=>io (e.drop off)
      |_,_=>jp
    |_=>jp
  | .iv (.j6 cs)=>io (cs.map .iv)
  |_=>jp
def fU(e:b7)(cs:List PV):Option PV:=
  match e.k.agg with
  | true=>match kR cs 0 e.size with
    |some l=>force l fun b=>io (.agg b)
    |none=>jp
  |false=>jK cs
def sU(e:b7)(k:Nat):Option (Nat×TypeId):=
  match e.k with
  | .df fs=>fs[k]?
  |_=>jp
def pV(ty:Ty):List (Nat×TypeId)->Option (List (Nat×Nat))
  | []=>io []
  | (off,u)::r=>match ty u with
    | some e=>match pV ty r with
      |some l=>io ((off,e.size)::l)
      |none=>jp
    |none=>jp
def o5(n:Nat):PV->Option PV
  | .ptr i off=>io (.ptr i (off+n))
  | .dd i sz k off=>io (.dd i sz k (off+n))
  | .iv (.j6 cs)=>io (.iv (.j6 (cs.drop n)))
  |_=>jp
abbrev PV.bool(b:Bool):PV:= .iv (.v (.bool b))
abbrev PV.int(n:Int):PV:= .iv (.v (.int .i64 n))
abbrev PV.str(s:ByteArray):PV:= .iv (.v (.string s))
def jg(n:Int):Prop:= -9223372036854775808<=n∧n<=9223372036854775807
def Cp(op:BinOp)(k:IntKind)(a b:Int):Option (PV×Prop):=
  match op,k with
  | .add,.i64=>io (.int (a+b),jg (a+b))
  | .sub,.i64=>io (.int (a-b),jg (a-b))
  | .mul,.i64=>io (.int (a*b),jg (a*b))
  | .rem,.i64=>io (.int (Int.tmod a b),¬b=0)
  | .quo,.i64=>io (.int (Int.tdiv a b),¬b=0∧jg (Int.tdiv a b))
  | .add,k=>io (.iv (.v (.int k (k.wrap (a+b)))),True)
  | .sub,k=>io (.iv (.v (.int k (k.wrap (a-b)))),True)
  | .mul,k=>io (.iv (.v (.int k (k.wrap (a*b)))),True)
  | .quo,k=>io (.iv (.v (.int k (k.wrap (Int.tdiv a b)))),¬b=0)
  | .rem,k=>io (.iv (.v (.int k (Int.tmod a b))),¬b=0)
  | .eql,_=>io (.bool (li (a=b)),True)
  | .neq,_=>io (.bool (!li (a=b)),True)
  | .lss,_=>io (.bool (li (a<b)),True)
  | .leq,_=>io (.bool (li (a<=b)),True)
  | .gtr,_=>io (.bool (li (a>b)),True)
  | .geq,_=>io (.bool (li (a>=b)),True)
  | .and,k=>io (.iv (.v (.int k (k.wrap ((BitVec.ofInt k.bits a&&&BitVec.ofInt k.bits b).toNat:Int)))),True)
  | .or,k=>io (.iv (.v (.int k (k.wrap ((BitVec.ofInt k.bits a|||BitVec.ofInt k.bits b).toNat:Int)))),True)
  | .xor,k=>io (.iv (.v (.int k (k.wrap ((BitVec.ofInt k.bits a ^^^ BitVec.ofInt k.bits b).toNat:Int)))),True)
  |_,_=>jp
def BT(op:BinOp)(k:IntKind)(a b:Int):Option (PV×Prop):=
  match op with
  | .shr=>match li (0<=b) with
    |true=>io (.iv (.v (.int k (a.fdiv (2 ^ min b.toNat k.bits)))),True)
    |false=>jp
  | .shl=>match li (0<=b) with
    |true=>io (.iv (.v (.int k (k.wrap (a*2 ^ min b.toNat k.bits)))),True)
    |false=>jp
  |_=>jp
def BQ(op:BinOp)(a b:ByteArray):Option (PV×Prop):=
  match op with
  | .eql=>io (.bool (li (a=b)),True)
  | .neq=>io (.bool (!li (a=b)),True)
  | .add=>io (.str (a++b),a.size+b.size<=9223372036854775807)
  | .lss=>io (.bool (Op.bytesLess a.toList b.toList),True)
  | .gtr=>io (.bool (!(Op.bytesLess a.toList b.toList||decide (a=b))),True)
  | .leq=>io (.bool (Op.bytesLess a.toList b.toList||decide (a=b)),True)
  | .geq=>io (.bool (!(Op.bytesLess a.toList b.toList)),True)
  |_=>jp
def nG(ty:Ty)(t:TypeId)(op:BinOp)(a b:Bool):Option (PV×Prop):=
  match ty t with
  | some ⟨.aT .bool,_,_,_,_⟩=>match op with
    | .eql=>io (.bool (a==b),True)
    | .neq=>io (.bool (!(a==b)),True)
    |_=>jp
  |_=>jp
def xY(ty:Ty)(t:TypeId)(op:BinOp)(x y:PV):Option (PV×Prop):=
  match x,y with
  | .iv (.v (.int j a)),.iv (.v (.int k b))=>if j=k then Cp op j a b else BT op j a b
  | .iv (.v (.string a)),.iv (.v (.string b))=>BQ op a b
  | .iv (.v (.bool a)),y=>match y with
    | .iv (.v (.bool b))=>nG ty t op a b
    | .kb b=>nG ty t op a b
    |_=>jp
  | .kb a,y=>match y with
    | .iv (.v (.bool b))=>nG ty t op a b
    | .kb b=>nG ty t op a b
    |_=>jp
  |_,_=>jp
def vf:PV->Option (PV×Prop)
  | .iv (.c5 _ n _)=>io (.int n,True)
  | .iv (.v (.slice jp 0 0))=>io (.int 0,True)
  | .iv (.v (.string s))=>io (.int s.size,True)
  | .sl _ _ len _=>io (.int len,True)
  |_=>jp
def jI(x:PV)(i:Int):Option (PV×Prop):=
  match x with
  | .iv (.c5 _ n el)=>io (.iv (.j6 (el i.toNat)),0<=i∧i<n)
  | .sl j off len sz=>io (.dd j sz (off+i.toNat) 0,0<=i∧i<len)
  |_=>jp
def KC.pk:(c:KC)->c.K->PV
  | .str,s=> .iv (.v (.string s))
  | .int k,n=> .iv (.v (.int k n))
  | .si k,x=> .agg [.iv (.v (.string x.1)),.iv (.v (.int k x.2))]
def KC.dk:(c:KC)->PV->Option c.K
  | .str,p=>match p with
    | .iv (.v (.string s))=>io s
    |_=>jp
  | .int k,p=>match p with
    | .iv (.v (.int j n))=>if j=k then io n else jp
    |_=>jp
  | .si k,p=>match p with
    | .agg [.iv (.v (.string s)),.iv (.v (.int j n))]=>if j=k then io (s,n) else jp
    |_=>jp
def eK(ty:Ty)(d:TypeId):Option KC:=
  match ty d with
  |some ⟨.aT .string,_,_,_,_⟩=>io .str
  |some ⟨.aT (.int k),_,_,_,_⟩=>io (.int k)
  | some ⟨.df [(0,a),(1,b)],_,_,_,kw⟩=>match ty a,ty b with
    |some ⟨.aT .string,1,_,_,_⟩,io ⟨.aT (.int k),1,_,_,_⟩=>io (.si k)
    |_,_=>jp
  |_=>jp
section
variable (kc:KC) {V:Type}
def bG:List (kc.K×V)->kc.K->V->V
  | [],_,z=>z
  |(a,b)::r,k,z=>if a=k then b else bG r k z
def eH:List (kc.K×V)->kc.K->Bool
  | [],_=>lc
  |(a,_)::r,k=>if a=k then kw else eH r k
def cj:List (kc.K×V)->kc.K->V->List (kc.K×V)
  | [],k,v=> [(k,v)]
  |(a,b)::r,k,v=>if a=k then(k,v)::r else(a,b)::cj r k v
def mC:List (kc.K×V)->kc.K->List (kc.K×V)
  | [],_=> []
  |(a,b)::r,k=>if a=k then r else(a,b)::mC r k
end
def BJ:Value->Value->Bool
  | .int j a,.int k b=>li (j=k)&&li (a=b)
  | .string a,.string b=>li (a=b)
  | .bool a,.bool b=>a==b
  | .slice jp 0 0,.slice jp 0 0=>kw
  | .map jp,.map jp=>kw
  |_,_=>lc
def vn:List Value->List Value->Bool
  | [],[]=>kw
  |a::r,b::q=>BJ a b&&vn r q
  |_,_=>lc
def Lz:Value->Value->Bool
  | .agg a,.agg b=>vn a.toList b.toList
  |a,b=>BJ a b
def IV.pv:IV->PV
  | .agg cs=> .agg (cs.map .iv)
  |x=> .iv x
def ub(ty:Ty)(t:TypeId)(ok:Bool)(kc:KC){V:Type}(e:V->IV)(z:V)(b:Value)(m:List (kc.K×V))(key:PV):Option (PV×Prop):=
  match ty t with
  | some ⟨.aT (.map kt et),_,_,_,_⟩=>match eK ty kt,ty et with
    | some kc',io ee=>match li (kc'=kc),Lz ee.zero b,kc.dk key with
      | true,kw,io k=>match ok with
        |true=>io (.bB [(e (bG kc m k z)).pv,.iv (.v (.bool (eH kc m k)))],True)
        |false=>io ((e (bG kc m k z)).pv,True)
      |_,_,_=>jp
    |_,_=>jp
  |_=>jp
def D3(f:TypeId->PV->PV->Option Bool)(ty:Ty):List (Nat×TypeId)->List PV->List PV->Option Bool
  | [],_,_=>io kw
  | (off,u)::r,cs,ds=>match ty u with
    | some eu=>match fU eu (cs.drop off),fU eu (ds.drop off) with
      | some a,io b=>match f u a b,D3 f ty r cs ds with
        |some x,io y=>io (x&&y)
        |_,_=>jp
      |_,_=>jp
    |none=>jp
def D4(ty:Ty):Nat->TypeId->PV->PV->Option Bool
  |0,_,_,_=>jp
  | d+1,t,p,q=>match ty t with
    | some ⟨.aT (.int _),_,_,_,_⟩=>match p,q with
      | .iv (.v (.int j a)),.iv (.v (.int k b))=>if j=k then io (li (a=b)) else jp
      |_,_=>jp
    | some ⟨.aT .string,_,_,_,_⟩=>match p,q with
      | .iv (.v (.string a)),.iv (.v (.string b))=>io (li (a=b))
      |_,_=>jp
    | some ⟨.aT .bool,_,_,_,_⟩=>match p,q with
      | .iv (.v (.bool a)),.iv (.v (.bool b))=>io (a==b)
      |_,_=>jp
    | some ⟨.df fs,_,_,_,kw⟩=>match p,q with
      | .agg cs,.agg ds=>D3 (D4 ty d) ty fs cs ds
      |_,_=>jp
    |_=>jp
def CY(ty:Ty)(t:TypeId)(op:BinOp)(p q:PV):Option (PV×Prop):=
  match op with
  | .eql=>match D4 ty 10 t p q with
    |some b=>io (.bool b,True)
    |none=>jp
  | .neq=>match D4 ty 10 t p q with
    |some b=>io (.bool (!b),True)
    |none=>jp
  |_=>jp
def iO(ty:Ty)(s:AS):Op->Option (PV×Prop)
  | .move x=>io (ev s.f x,True)
  | .assign x=>io (ev s.f x,True)
  | .pick c a b=>match ev s.f c with
    | .kb kw=>io (ev s.f a,True)
    | .kb lc=>io (ev s.f b,True)
    |_=>jp
  | .load t x=>match ty t with
    | some e=>match behind s.h (ev s.f x) with
      | some cs=>match fU e cs with
        |some p=>io (p,True)
        |none=>jp
      |none=>jp
    |none=>jp
  | .nilCheck x=>match ev s.f x with
    | .ptr i o=>io (.ptr i o,True)
    | .dd i sz k o=>io (.dd i sz k o,True)
    | .iv (.j6 cs)=>io (.iv (.j6 cs),True)
    | .cK (.func g) a b=>io (.cK (.func g) a b,True)
    |_=>jp
  | .binOp op t x y _=>match ev s.f x,ev s.f y with
    | .agg cs,.agg ds=>CY ty t op (.agg cs) (.agg ds)
    |p,q=>xY ty t op p q
  | .lookup t x i ok=>match ev s.f x with
    | .iv (.du kc e z zv m)=>ub ty t ok kc e z zv m (ev s.f i)
    | .mp j=>match s.h.get j with
      |some (.map kc e z zv _ m)=>ub ty t ok kc e z zv m (ev s.f i)
      |_=>jp
    |_=>jp
  | .entry it=>match ev s.f it with
    | .ptr i 0=>match s.h.get i with
      |some (.bQ kc e _ _ (io x))=>io (.bB [kc.pk x.1,(e x.2).pv],True)
      |_=>jp
    |_=>jp
  | .unOp .not _ x=>match ev s.f x with
    | .kb kw=>io (.kb lc,True)
    | .kb lc=>io (.kb kw,True)
    | .iv (.v (.bool b))=>io (.bool (!b),True)
    |_=>jp
  | .fieldAddr t x k=>match ty t with
    | some e=>match sU e k with
      | some (off,u)=>match ty u with
        | some eu=>match eu.size with
          |0=>jp
          | _+1=>match o5 off (ev s.f x) with
            |some p=>io (p,True)
            |none=>jp
        |none=>jp
      |none=>jp
    |none=>jp
  | .field t x k=>match ty t with
    | some e=>match sU e k with
      | some (off,u)=>match ty u with
        | some eu=>match ev s.f x with
          | .agg cs=>match fU eu (cs.drop off) with
            |some p=>io (p,True)
            |none=>jp
          |_=>jp
        |none=>jp
      |none=>jp
    |none=>jp
  | .indexAddr t x i=>match ty t with
    | some ⟨.aT (.slice u),_,_,_,_⟩=>match ty u with
      | some eu=>match ev s.f i with
        | .iv (.v (.int _ n))=>match ev s.f x with
          | .iv (.c5 sz m el)=>bif Q6 sz eu.size then jI (.iv (.c5 sz m el)) n else jp
          | .sl j off len sz=>bif Q6 sz eu.size then jI (.sl j off len sz) n else jp
          |_=>jp
        |_=>jp
      |none=>jp
    | some ⟨.arr len u,_,_,_,_⟩=>match ty u with
      | some eu=>match ev s.f i with
        | .iv (.v (.int _ n))=>match ev s.f x with
          | .ptr j off=>io (.ptr j (off+n.toNat*eu.size),0<=n∧n<len)
          |_=>jp
        |_=>jp
      |none=>jp
    |_=>jp
  | .index t x i=>match ty t with
    | some ⟨.aT .string,_,_,_,_⟩=>match ev s.f i with
      | .iv (.v (.int _ n))=>match ev s.f x with
        | .iv (.v (.string b))=>io (.iv (.v (.int .u8 ((b.data.toList.getD n.toNat 0).toNat:Int))),0<=n∧n<b.size)
        |_=>jp
      |_=>jp
    |_=>jp
  | .slice t x (io lo) (io hi) jp=>match ty t with
    | some ⟨.aT (.slice u),_,_,_,_⟩=>match ty u with
      | some eu=>match ev s.f lo with
        | .iv (.v (.int _ a))=>match ev s.f hi with
          | .iv (.v (.int _ b))=>match ev s.f x with
            | .iv (.c5 sz m el)=>bif Q6 sz eu.size then io (.iv (.c5 sz (b.toNat-a.toNat) (fun k=>el (a.toNat+k))),0<=a∧a<=b∧b<=m) else jp
            |_=>jp
          |_=>jp
        |_=>jp
      |none=>jp
    | some ⟨.aT .string,_,_,_,_⟩=>match ev s.f lo with
      | .iv (.v (.int _ a))=>match ev s.f hi with
        | .iv (.v (.int _ b))=>match ev s.f x with
          | .iv (.v (.string y))=>io (.iv (.v (.string (y.extract a.toNat b.toNat))),0<=a∧a<=b∧b<=y.size)
          |_=>jp
        |_=>jp
      |_=>jp
    |_=>jp
  | .build t parts=>match ty t with
    | some e=>match e.k with
      | .df fs=>match pV ty fs with
        | some pl=>match oG (pl[·]?) (ch e.zero) (parts.toList.map fun x=>(x.1,ev s.f x.2)) with
          |some cs=>force cs fun d=>io (.agg d,True)
          |none=>jp
        |none=>jp
      | .arr _ u=>match ty u with
        | some eu=>match oG (fun i=>io (i*eu.size,eu.size)) (ch e.zero) (parts.toList.map fun x=>(x.1,ev s.f x.2)) with
          |some cs=>force cs fun d=>io (.agg d,True)
          |none=>jp
        |none=>jp
      |_=>jp
    |none=>jp
  | .extract x k=>match ev s.f x with
    | .bB cs=>match cs[k]? with
      |some p=>io (p,True)
      |none=>jp
    |_=>jp
  | .makeFunc fn first caps=>force (first.toList.map (ev s.f)) fun a=>force (caps.toList.map (ev s.f)) fun b=>io (.cK fn a b,True)
  | .call ⟨.builtin .len,args,argTypes⟩=>match args.toList,argTypes.toList with
    | [x],[t]=>match ty t with
      | some ⟨.aT (.slice _),_,_,_,_⟩=>match ev s.f x with
        | .iv (.c5 sz n el)=>vf (.iv (.c5 sz n el))
        | .sl i off len sz=>vf (.sl i off len sz)
        | .iv (.v (.slice jp 0 0))=>vf (.iv (.v (.slice jp 0 0)))
        |_=>jp
      | some ⟨.aT .string,_,_,_,_⟩=>match ev s.f x with
        | .iv (.v (.string b))=>vf (.iv (.v (.string b)))
        |_=>jp
      | some ⟨.aT (.map _ _),_,_,_,_⟩=>match ev s.f x with
        | .iv (.du _ _ _ _ m)=>io (.int m.length,True)
        | .mp j=>match s.h.get j with
          |some (.map _ _ _ _ _ m)=>io (.int m.length,True)
          |_=>jp
        |_=>jp
      |_=>jp
    |_,_=>jp
  | .call ⟨.builtin .max,args,_⟩=>match args.toList with
    | [x,y]=>match ev s.f x,ev s.f y with
      | .iv (.v (.int k a)),.iv (.v (.int _ b))=>io (.iv (.v (.int k (max a b))),True)
      |_,_=>jp
    |_=>jp
  | .call ⟨.builtin .min,args,_⟩=>match args.toList with
    | [x,y]=>match ev s.f x,ev s.f y with
      | .iv (.v (.int k a)),.iv (.v (.int _ b))=>io (.iv (.v (.int k (min a b))),True)
      |_,_=>jp
    |_=>jp
  |_=>jp
inductive TT where
  |leaf
  |node (l:TT) (k:Nat) (e:b7) (r:TT)
def TT.find:TT->Nat->Option b7
  | .leaf,_=>jp
  | .node l k e r,t=>bif Q6 t k then io e else bif QZ t k then l.find t else r.find t
def TT.Pr(p:Nat->b7->Prop):TT->Prop
  | .leaf=>True
  | .node l k e r=>p k e∧l.Pr p∧r.Pr p
theorem TT.uv{p:Nat->b7->Prop}: ∀{x:TT},x.Pr p-> ∀t e,x.find t=io e->p t e
  | .leaf,_,t,e,h=>by simp[TT.find]at h
  | .node l k e0 r,ha,t,e,h=>by
    simp only[TT.find]at h;cases hb:Q6 t k with
    | true=>
      simp only[hb,cond_true,Qu]at h;subst h;rw[QS hb];exact ha.1
    | false=>
      simp only[hb,cond_false]at h;cases hl:QZ t k with
      |true=>simp only[hl,cond_true]at h;exact TT.uv ha.2.1 t e h
      |false=>simp only[hl,cond_false]at h;exact TT.uv ha.2.2 t e h
theorem ah{P:Program}{t:TypeId}{e:b7}(h:(P.info? t).map (fun i=>(i.size,i.bytes,i.zero))=io (e.size,e.bytes,io e.zero)): ∃i,P.info? t=io i∧i.size=e.size∧i.bytes=e.bytes∧i.zero=io e.zero:=by
  rw[QF]at h;obtain⟨i,d,b⟩:=h;simp only[QI]at b;exact⟨i,d,b.1,b.2.1,b.2.2⟩
theorem VR.one{M:Mem}{N:Nm}{U:Nat->Prop}{p:PV}{x:Value}(h:VR M N U p x)(ho:p.one=kw):x.oneCell'=kw:=by
  cases h with
  | iv y x hi=>
    cases hi with
    |v x=>cases x<;>first|rfl|(simp[PV.one]at ho)
    |agg=>simp[PV.one]at ho
    |_=>rfl
  |agg=>simp[PV.one]at ho
  |bB=>simp[PV.one]at ho
  |any=>simp[PV.one]at ho
  |_=>rfl
section
variable {M:Mem} {N:Nm}
theorem VR.kD{U:Nat->Prop}{cs:List PV}{x:Value}(h:VR M N U (.agg cs) x): ∃b:Array Value,x= .agg b∧cs.length=b.size∧ ∀j p,cs[j]? =io p->VR M N U p (b.getD j undef):=by
  cases h with
  |agg _ b hl hr=>exact⟨b,rfl,hl,hr⟩
theorem qs{U:Nat->Prop}{p:PV}{x:Value}{cs:List PV}(h:VR M N U p x)(hc:p.cells=io cs):cs.length=x.cells.size∧ ∀j q,cs[j]? =io q->VR M N U q (x.cells.getD j undef):=by
  have one:p.one=kw->cs=[p]->cs.length=x.cells.size∧ ∀j q,cs[j]? =io q->VR M N U q (x.cells.getD j undef):=by
    intro d b;subst b;have y:=h.one d;have F:x.cells= #[x]:=by cases x<;>first|rfl|(simp[Value.oneCell']at y)
    rw[F];refine⟨rfl,fun j q u=>?_⟩;cases j with
    |zero=>simp at u;subst u;exact h
    |succ j=>simp at u
  cases p with
  | agg l=>
    simp only[PV.cells,Qu]at hc;subst hc;obtain⟨G,rfl,A,B⟩:=h.kD;exact⟨A,B⟩
  | _=>
    simp only[PV.cells]at hc;split at hc
    · rename_i d
      simp only[Qu]at hc;exact one d hc.symm
    · cases hc
theorem lD: ∀{cs:List PV},gd cs=kw-> ∀(j:Nat) (p:PV),cs[j]? =io p->p.one=kw
  | [],_,j,p,h=>by simp at h
  | c::cs,h,j,p,hj=>by
    simp only[gd]at h;split at h
    · rename_i b
      cases j with
      |zero=>simp at hj;subst hj;exact b
      |succ j=>exact lD h j p (by simpa using hj)
    · cases h
theorem eE{U:Nat->Prop}(v:Value):(ch v).length=v.cells.size∧ ∀j p,(ch v)[j]? =io p->VR M N U p (v.cells.getD j undef):=by
  refine⟨by simp[ch],fun j p b=>?_⟩;simp only[ch]at b;rw[QC,QF]at b;obtain⟨x,u,rfl⟩:=b;have d:v.cells[j]? =io x:=by simpa using u
  rw[Qt,d];exact .iv _ _ (.v _)
theorem wg: ∀(l:List Value) (k off:Nat) (cs:Array Value),off+k+l.length<=cs.size->
    ((l.zipIdx k).foldl (fun cs x=>cs.setIfInBounds (off+x.2) x.1) cs).size=cs.size∧
    ∀j,((l.zipIdx k).foldl (fun cs x=>cs.setIfInBounds (off+x.2) x.1) cs)[j]? =if off+k<=j∧j<off+k+l.length then l[j-(off+k)]? else cs[j]?
  | [],k,off,cs,_=>⟨rfl,fun j=>by simp;omega⟩
  | v::l,k,off,cs,h=>by
    simp only[List.zipIdx_cons,Rc];simp only[Rf]at h;obtain⟨u,y⟩:=wg l (k+1) off (cs.setIfInBounds (off+k) v) (by simp;omega);refine⟨by rw[u];simp,fun j=>?_⟩;rw[y j];simp only[Rf];by_cases d:off+(k+1)<=j∧j<off+(k+1)+l.length
    · rw[am d,am (by omega),show j-(off+k)=(j-(off+(k+1)))+1 by omega,SZ]
    · rw[be d]
      by_cases b:j=off+k
      · subst b
        have hb:off+k<cs.size:=by omega
        rw[am (by omega),Nat.sub_self];simp[hb]
      · rw[be (by omega),Rj,be (fun e=>b e.symm)]
def Qm(M:Mem)(N:Nm)(U:Nat->Prop)(cs:List PV)(ys:Array Value):Prop:=cs.length=ys.size∧ ∀j p,cs[j]? =io p->VR M N U p (ys.getD j undef)
theorem qn{j:Nat->Option (Nat×Nat)}: ∀{d:List (Nat×PV)} {cs b:List PV},oG j cs d=io b->b.length=cs.length
  | [],cs,b,h=>by simp only[oG,Qu]at h;rw[h]
  | (i,p)::r,cs,b,h=>by
    simp only[oG]at h;split at h
    · split at h
      · split at h
        · rw[force_eq]at h
          rw[qn h,eA]
        · cases h
      · cases h
    · cases h
theorem qm{U:Nat->Prop}{d:Nat->Option (Nat×Nat)}: ∀{b:List (Nat×PV)} {vals:List (Nat×Value)} {cs u:List PV} {ys:Array Value},
    oG d cs b=io u->b.length=vals.length->(∀(j:Nat) (x:Nat×PV) (y:Nat×Value),b[j]? =io x->vals[j]? =io y->x.1=y.1∧VR M N U x.2 y.2)->Qm M N U cs ys->
    ∃A,Instr.fill d ys vals=io A∧Qm M N U u A
  | [],[],cs,u,ys,h,_,_,hv=>by
    simp only[oG,Qu]at h;subst h;exact⟨ys,rfl,hv⟩
  | (i,p)::r,(i',v)::vr,cs,u,ys,h,hl,hp,hv=>by
    obtain⟨h1,h2⟩:=hp 0 _ _ D D;simp only at h1 h2;subst h1;simp only[oG]at h;split at h
    · rename_i a0 size Z
      split at h
      · rename_i l Y
        split at h
        · rename_i J S
          rw[force_eq]at h;obtain⟨g1,g2⟩:=qs h2 Y;have b0:v.cells.size=size:=by rw[<-g1];exact QS J
          have G:a0+v.cells.size<=ys.size:=by rw[<-g1,<-hv.1];exact Qs S
          obtain⟨k1,k2⟩:=wg v.cells.toList 0 a0 ys (by simpa using G);have B:v.cells.zipIdx.foldl (fun cs x=>cs.setIfInBounds (a0+x.2) x.1) ys=(v.cells.toList.zipIdx 0).foldl (fun cs x=>cs.setIfInBounds (a0+x.2) x.1) ys:=by
            rw[<-Array.foldl_toList,Array.toList_zipIdx]
          have c0:Qm M N U (setCells cs a0 l) (v.cells.zipIdx.foldl (fun cs x=>cs.setIfInBounds (a0+x.2) x.1) ys):=by
            rw[B];refine⟨by rw[eA,k1];exact hv.1,fun j q hq=>?_⟩;rw[Qt,k2 j];rcases iW cs a0 l j q hq with⟨I,F⟩|⟨I,F⟩
            · have d0:j-a0<l.length:=(Qw.1 F).1
              rw[am (by simp;omega)];have:=g2 _ q F;rw[Qt]at this;simpa using this
            · rw[be (by simp;omega)]
              have:=hv.2 j q F;rw[Qt]at this;exact this
          obtain⟨A,I,F⟩:=qm h (by simpa using hl) (fun j x y hx hy=>hp (j+1) x y (by simpa using hx) (by simpa using hy)) c0;refine⟨A,?_,F⟩;simp only[Instr.fill,Z];rw[be (by simp[b0];omega)];exact I
        · cases h
      · cases h
    · cases h
end
section
variable {P:Program} {M:Mem} {N:Nm} {U:Nat->Prop} {h:AH} {w:World}
theorem Rel.Lg(hr:Rel M N U h w){b o:Nat}{v:Value}(hc:M.cell b o=io v):w.cell? ⟨b,o,jp⟩=io v:=by
  unfold Mem.cell at hc;cases hb:M b with
  |none=>simp[hb]at hc
  | some c=>
    cases c with
    |map es cl=>simp[hb]at hc
    | cells c=>
      obtain⟨T,j,d⟩:=hr.dT b _ hb;rw[hb]at hc;simp only[World.cell?,d];simpa using hc
theorem IR.Be{cs:List IV}{x:Value}(hr:Rel M N U h w)(hp:IR M (.j6 cs) x):
    ∃b a0,x= .pointer (io ⟨b,a0,jp⟩)∧ ∀j q,cs[j]? =io q-> ∃y,w.cell? ⟨b,a0+j,jp⟩=io y∧IR M q y:=by
  cases hp with
  | j6 _ b a0 hm hq=>
    refine⟨b,a0,rfl,fun j q A=>?_⟩;have d:j<cs.length:=(Qw.1 A).1;have B:=hm j d;cases hv:M.cell b (a0+j) with
    |none=>simp[hv]at B
    | some y=>
      have u:=hq j q A;rw[hv]at u;exact⟨y,hr.Lg hv,u⟩
theorem wE{p:PV}{x:Value}{cs:List PV}(hr:Rel M N U h w)(hp:VR M N U p x)(hb:behind h p=io cs):
    ∃b a0,x= .pointer (io ⟨b,a0,jp⟩)∧ ∀j q,cs[j]? =io q-> ∃y,w.cell? ⟨b,a0+j,jp⟩=io y∧VR M N U q y:=by
  cases p with
  | ptr i a0=>
    cases hp with
    | ptr _ _ hU=>
      simp only[behind]at hb;cases ho:h.get i with
      |none=>simp[ho]at hb
      | some o=>
        cases o with
        | cells cs0 T0=>
          simp only[ho,Qu]at hb;subst hb;obtain⟨c,T,B,h2,Y,F,Z⟩:=hr.obj i _ ho;refine⟨N.aB i,a0,rfl,fun j q d=>?_⟩;rw[RQ]at d;have u:a0+j<c.size:=by rw[<-Y];exact(Qw.1 d).1
          refine⟨c.getD (a0+j) undef,?_,F _ _ d⟩;simp[World.cell?,B,Qt,u]
        |_=>simp[ho]at hb
  | dd i sz k a0=>
    cases hp with
    | dd _ _ _ _ hU=>
      simp only[behind]at hb;cases ho:h.get i with
      |none=>simp[ho]at hb
      | some o=>
        cases o with
        | row sz' es=>
          simp only[ho]at hb;split at hb
          · rename_i e G A
            simp only[Qu]at hb;have:=QS G;subst this;subst hb;rcases hr.obj i _ ho with S|⟨S,c,T,B,h2,Y,F,Z⟩
            · subst S;simp at A
            refine⟨N.aB i,k*sz'+a0,rfl,fun j q d=>?_⟩;rw[RQ]at d;have b0:a0+j<sz':=by rw[<-F k e A];exact(Qw.1 d).1
            have hk:k<es.length:=(Qw.1 A).1;have J:(k+1)*sz'<=es.length*sz':=Rb _ hk;rw[SQ]at J;have u:k*sz'+a0+j<c.size:=by omega
            refine⟨c.getD (k*sz'+a0+j) undef,?_,?_⟩
            · simp[World.cell?,B,Qt,u]
            · rw[Sm];exact Z k e _ q A d
          · cases hb
        |_=>simp[ho]at hb
  | iv x=>
    cases x with
    | j6 cs0=>
      cases hp with
      | iv _ _ hi=>
        simp only[behind,Qu]at hb;subst hb;obtain⟨b,a0,rfl,hc⟩:=hi.Be hr;refine⟨b,a0,rfl,fun j q d=>?_⟩;rw[QC,QF]at d;obtain⟨q0,I,rfl⟩:=d;obtain⟨y,hy,hq⟩:=hc j q0 I;exact⟨y,hy,.iv _ _ hq⟩
    |_=>simp[behind]at hb
  |_=>simp[behind]at hb
theorem mH{cs l:List PV}{off n:Nat}(hh:kR cs off n=io l):l.length=n∧ ∀j q,l[j]? =io q->cs[off+j]? =io q∧j<n:=by
  unfold kR at hh;cases hb:Q6 ((cs.drop off).take n).length n with
  |false=>simp only[hb,cond_false]at hh;cases hh
  | true=>
    simp only[hb,cond_true,Qu]at hh;subst hh;have u:=QS hb;refine⟨u,fun j q d=>?_⟩;have b:j<n:=by rw[<-u];exact(Qw.1 d).1
    rw[Rt,am b,RQ]at d;exact⟨d,b⟩
theorem oE{cs:List PV}{p:PV}(hh:jK cs=io p):cs[0]? =io p:=by
  cases cs with
  |nil=>simp[jK]at hh
  |cons a r=>simpa[jK]using hh
theorem fv(b off j:Nat):(⟨b,off,jp⟩:Addr).add j=⟨b,off+j,jp⟩:=by
  unfold Addr.add;split
  · subst_vars;rfl
  · rfl
theorem rM{t:TypeId}{e:b7}(he:ak P t e){cs:List PV}{b off:Nat}(hc: ∀j q,cs[j]? =io q-> ∃y,w.cell? ⟨b,off+j,jp⟩=io y∧VR M N U q y)
    {p:PV} (hp:fU e cs=io p): ∃y,(loadVar t ⟨b,off,jp⟩).run P w= .ok y w∧VR M N U p y:=by
  unfold fU at hp;cases hk:e.k.agg with
  | true=>
    simp only[hk]at hp;cases ht:kR cs 0 e.size with
    |none=>simp[ht]at hp
    | some l=>
      simp only[ht,force_eq,Qu]at hp;subst hp;obtain⟨S,B⟩:=mH ht;have d: ∀j,j<e.size->w.cell? ((⟨b,off,jp⟩:Addr).add j)=io (((w.cell? ⟨b,off+j,jp⟩)).getD undef):=by
        intro j J;have x:l[j]? =io (l[j]'(by omega)):=Qy (by omega);obtain⟨y,u,_⟩:=hc j _ (by simpa using(B j _ x).1);rw[fv,u];rfl
      refine⟨.agg (((Rh e.size).map fun j=>(w.cell? ⟨b,off+j,jp⟩).getD undef).toArray),?_,?_⟩
      · have:=run_loadCells (P:=P) w ⟨b,off,jp⟩ e.size (fun j=>(w.cell? ⟨b,off+j,jp⟩).getD undef) d
        simp[loadVar,lL he,hk,bC he,this]
      · refine .agg _ _ (by simp[S]) (fun j q Y=>?_)
        obtain⟨F,G⟩:=B j q Y;obtain⟨y,u,A⟩:=hc j q (by simpa using F);have I:(((Rh e.size).map fun j=>(w.cell? ⟨b,off+j,jp⟩).getD undef).toArray).getD j undef=y:=by
          simp[Qt,G,u]
        rw[I];exact A
  | false=>
    simp only[hk]at hp;obtain⟨y,u,A⟩:=hc 0 p (oE hp);refine⟨y,?_,A⟩;simp only[loadVar,Sem.run_bind,lL he,Result.andThen_ok,hk,SK,if_false];simp only[S2]at u;simp[u]
theorem gj{t:TypeId}{e:b7}(he:ak P t e){cs:List PV}{ys:Array Value}{off:Nat}(S:cs.length=ys.size)(hc: ∀j q,cs[j]? =io q->VR M N U q (ys.getD j undef))
    {p:PV} (hp:fU e (cs.drop off)=io p): ∃y,(part t ys off).run P w= .ok y w∧VR M N U p y:=by
  unfold fU at hp;cases hk:e.k.agg with
  | true=>
    simp only[hk]at hp;cases ht:kR (cs.drop off) 0 e.size with
    |none=>simp[ht]at hp
    | some l=>
      simp only[ht,force_eq,Qu]at hp;subst hp;obtain⟨A,F⟩:=mH ht;refine⟨.agg (ys.extract off (off+e.size)),by simp[part,lL he,hk,bC he],.agg _ _ ?_ (fun j q G=>?_)⟩
      · rw[A,Array.size_extract]
        by_cases d:e.size=0
        · omega
        · have b:l[e.size-1]? =io (l[e.size-1]'(by omega)):=Qy (by omega)
          have:=(F _ _ b).1;rw[RQ]at this;have:=(Qw.1 this).1;omega
      · obtain⟨u,J⟩:=F j q G
        rw[RQ]at u;have x:=hc _ _ u;have B:off+(0+j)<cs.length:=(Qw.1 u).1;have:(ys.extract off (off+e.size)).getD j undef=ys.getD (off+(0+j)) undef:=by
          simp only[Qt,Array.getElem?_extract,Q9];rw[am (by omega)]
        rw[this];exact x
  | false=>
    simp only[hk]at hp;have d:=oE hp;rw[RQ]at d;have x:=hc _ _ d;have B:off+0<cs.length:=(Qw.1 d).1;refine⟨ys.getD (off+0) undef,?_,x⟩;have I:ys[off]? =io (ys.getD off undef):=by
      simp[Qt,show off<ys.size by omega]
    simp only[part,Sem.run_bind,lL he,Result.andThen_ok,hk,SK,if_false,I];rfl
theorem wX(a b:ByteArray):(a.toList==b.toList)=li (a=b):=by
  rw[Lib.toList_data,Lib.toList_data,RS];simp only[beq_iff_eq,decide_eq_true_eq];exact⟨fun h=>WideShapes.bytes_inj h,fun h=>by rw[h]⟩
theorem FM{t:TypeId}{op:BinOp}{k:IntKind}{a b:Int}{p:PV}{C:Prop}(h:Cp op k a b=io (p,C))(hC:C): ∃x,(binOp op t (.int k a) (.int k b)).run P w= .ok x w∧VR M N U p x:=by
  have j: ∀n:Int,jg n->IntKind.i64.wrap n=n:=fun n u=>IntWalk.i64_in n u;unfold Cp at h;split at h
  all_goals first
    |cases h;done
    | (simp only[Qu,QI]at h
       obtain⟨rfl,rfl⟩:=h;refine⟨_,?_,.iv _ _ (.v _)⟩
       first
       |(simp[binOp,Op.intCmp];done)
       |rfl
       |(simp[binOp,Op.intCmp];rfl)
       |(have d:=j _ hC;simp[binOp,Op.intArith,d];done)
       |(simp[binOp,Op.intDiv,hC];done)
       |(have d:=j _ hC.2;simp[binOp,Op.intDiv,hC.1,d];done))
theorem ER{t:TypeId}{op:BinOp}{k j:IntKind}{a b:Int}{p:PV}{C:Prop}(h:BT op k a b=io (p,C)): ∃x,(binOp op t (.int k a) (.int j b)).run P w= .ok x w∧VR M N U p x:=by
  unfold BT at h;split at h
  case h_3=>cases h
  all_goals
    split at h
    · rename_i hb
      simp only[Qu,QI]at h;obtain⟨rfl,rfl⟩:=h;have d: ¬b<0:=by have:=of_decide_eq_true hb;omega
      refine⟨_,?_,.iv _ _ (.v _)⟩;simp only[binOp,Op.shift,be d];rfl
    · cases h
theorem EH{t:TypeId}{op:BinOp}{a b:ByteArray}{p:PV}{C:Prop}(h:BQ op a b=io (p,C))(hC:C): ∃x,(binOp op t (.string a) (.string b)).run P w= .ok x w∧VR M N U p x:=by
  unfold BQ at h;split at h
  all_goals first
    |cases h;done
    | (simp only[Qu,QI]at h
       obtain⟨rfl,rfl⟩:=h;refine⟨_,?_,.iv _ _ (.v _)⟩
       first
       |(simp[binOp,Op.stringOp,<-wX];done)
       | (have d: ¬(((a.size+b.size:Nat):Int)>IntKind.i64.max):=by(have:IntKind.i64.max=9223372036854775807:=by decide);rw[this];omega
          simp only[binOp,Op.stringOp,be d];rfl))
theorem ij{op:BinOp}{t:TypeId}{x y:Operand}{a b:Value}(h1:a≠ .nilIface)(j: ∀d,a≠ .agg d):(eqGuard op t x y a b).run P w= .ok () w:=by
  unfold eqGuard;cases op<;>cases a<;>first|rfl|exact absurd D h1|exact absurd D (j _)
theorem xN{t:TypeId}(hu:P.underlying t=io .bool)(d:Nat)(a b:Bool):(Op.equalIn (d+1) t (.bool a) (.bool b)).run P w= .ok (a==b) w:=by
  simp[Op.equalIn,run_underlying hu]
theorem uw{t:TypeId}(hu:P.underlying t=io .bool)(a b:Bool):(Op.equal t (.bool a) (.bool b)).run P w= .ok (a==b) w:=
  xN hu 9999 a b
theorem uK{t:TypeId}(hu:P.underlying t=io .bool)(a b:Bool):(binOp .eql t (.bool a) (.bool b)).run P w= .ok (.bool (a==b)) w:=by
  show(Op.equal t (.bool a) (.bool b)>>=fun r=>(pure (.bool r):Sem Value)).run P w=_;rw[Sem.run_bind,uw hu];rfl
theorem uJ{t:TypeId}(hu:P.underlying t=io .bool)(a b:Bool):(binOp .neq t (.bool a) (.bool b)).run P w= .ok (.bool (!(a==b))) w:=by
  show(Op.equal t (.bool a) (.bool b)>>=fun r=>(pure (.bool (!r)):Sem Value)).run P w=_;rw[Sem.run_bind,uw hu];rfl
theorem n8{ty:Ty}(d:bT P ty){t:TypeId}{op:BinOp}{a b:Bool}{r:PV}{C:Prop}{u v:Operand}(h:nG ty t op a b=io (r,C)):
    ∃z,(do eqGuard op t u v (.bool a) (.bool b);binOp op t (.bool a) (.bool b):Sem Value).run P w= .ok z w∧VR M N U r z:=by
  unfold nG at h;split at h
  · rename_i j
    have hu:P.underlying t=io .bool:=(d t _ j).2.1.1;split at h
    all_goals first
      |cases h;done
      | (simp only[Qu,QI]at h
         obtain⟨rfl,rfl⟩:=h;refine⟨_,?_,.iv _ _ (.v _)⟩;rw[Sem.run_bind,ij (by simp) (by simp)]
         first|exact uK hu _ _|exact uJ hu _ _)
  · cases h
theorem Ed{ty:Ty}(j:bT P ty){t:TypeId}{op:BinOp}{p q:PV}{r:PV}{C:Prop}{u v:Operand}{x y:Value}(h:xY ty t op p q=io (r,C))(hC:C)(b:VR M N U p x)(d:VR M N U q y):
    ∃z,(do eqGuard op t u v x y;binOp op t x y:Sem Value).run P w= .ok z w∧VR M N U r z:=by
  unfold xY at h;split at h
  · cases b with
    | iv _ _ b=>cases b with
      | v=>
        cases d with
        | iv _ _ d=>cases d with
          | v=>
            split at h
            · rename_i F
              subst F;obtain⟨z,B,A⟩:=FM (P:=P) (M:=M) (N:=N) (U:=U) (w:=w) (t:=t) h hC;exact⟨z,by rw[Sem.run_bind,ij (by simp) (by simp)];exact B,A⟩
            · obtain⟨z,B,A⟩:=ER (P:=P) (M:=M) (N:=N) (U:=U) (w:=w) (t:=t) h
              exact⟨z,by rw[Sem.run_bind,ij (by simp) (by simp)];exact B,A⟩
  · cases b with
    | iv _ _ b=>cases b with
      | v=>
        cases d with
        | iv _ _ d=>cases d with
          | v=>
            obtain⟨z,B,A⟩:=EH (P:=P) (M:=M) (N:=N) (U:=U) (w:=w) (t:=t) h hC;exact⟨z,by rw[Sem.run_bind,ij (by simp) (by simp)];exact B,A⟩
  · split at h
    · cases b with
      | iv _ _ b=>cases b with
        | v=>
          cases d with
          | iv _ _ d=>cases d with
            |v=>exact n8 j h
    · cases b with
      | iv _ _ b=>cases b with
        | v=>
          cases d with
          |kb=>exact n8 j h
    · cases h
  · split at h
    · cases b with
      | kb=>
        cases d with
        | iv _ _ d=>cases d with
          |v=>exact n8 j h
    · cases b with
      | kb=>
        cases d with
        |kb=>exact n8 j h
    · cases h
  · cases h
theorem FB{f:AF}{a:Act}(hf:FR M N U f a.tmps)(xs:Array Operand):(xs.toList.map (ev f)).length=(xs.map a.eval).size∧ ∀j p,(xs.toList.map (ev f))[j]? =io p->VR M N U p ((xs.map a.eval).getD j undef):=by
  refine⟨by simp,fun j p d=>?_⟩;rw[QC,QF]at d;obtain⟨x,u,rfl⟩:=d;have b:xs[j]? =io x:=by simpa using u
  rw[Qt,S3,b];exact aO hf x
theorem qo{t:TypeId}{e:b7}(he:ak P t e){k off:Nat}{u:TypeId}(hf:sU e k=io (off,u)): ∃(F:Array Field) (fd:Field),P.underlying t=io (.struct F)∧F[k]? =io fd∧fd.offset=off∧fd.type=u:=by
  unfold sU at hf;cases hk:e.k with
  | df fs=>
    simp only[hk]at hf;obtain⟨_,d,_⟩:=he;rw[hk]at d;obtain⟨F,j,x⟩:=d;rw[<-x,QC,QF]at hf;obtain⟨fd,y,b⟩:=hf;simp only[QI]at b;exact⟨F,fd,j,by simpa using y,b.1,b.2⟩
  |_=>simp[hk]at hf
theorem Dx{n:Nat}{p q:PV}{x:Value}(A:VR M N U p x)(h:o5 n p=io q): ∃b o,x= .pointer (io ⟨b,o,jp⟩)∧VR M N U q (.pointer (io ⟨b,o+n,jp⟩)):=by
  cases A with
  |ptr i off hU=>simp only[o5,Qu]at h;subst h;exact⟨_,_,rfl,.ptr _ _ hU⟩
  |dd i sz k off hU=>simp only[o5,Qu]at h;subst h;exact⟨_,_,rfl,by rw[Sm];exact .dd _ _ _ _ hU⟩
  | iv y _ hi=>
    cases hi with
    | j6 cs b off hm hr=>
      simp only[o5,Qu]at h;subst h;refine⟨b,off,rfl,.iv _ _ (.j6 _ _ _ (fun j u=>?_) (fun j p d=>?_))⟩
      · rw[List.length_drop]at u
        rw[Sm];exact hm (n+j) (by omega)
      · rw[RQ]at d
        rw[Sm];exact hr (n+j) p d
    |_=>simp[o5]at h
  |_=>simp[o5]at h
theorem oD{t u:TypeId}{d:b7}(hu:P.underlying t=io (.slice u))(A:ak P u d){p q:PV}{k:IntKind}{n:Int}{C:Prop}{x:Value}(I:VR M N U p x)
    (F:(∃m B,p= .iv (.c5 d.size m B))∨ ∃i a0 len,p= .sl i a0 len d.size) (h:jI p n=io (q,C)) (hC:C): ∃y,(Instr.indexAt t x (.int k n)).run P w= .ok y w∧VR M N U q y:=by
  rcases F with⟨m,B,rfl⟩|⟨i,a0,len,rfl⟩
  · simp only[jI,Qu,QI]at h
    obtain⟨rfl,rfl⟩:=h;cases I with
    | iv _ _ hi=>
      cases hi with
      |iA sz B a cap=>omega
      | c5 sz m B b a0 cap hn hc hl hm hr=>
        refine⟨.pointer (io ⟨b,a0+n.toNat*d.size,jp⟩),?_,.iv _ _ (.j6 _ _ _ (fun j G=>?_) (fun j p J=>hr n.toNat j p (by omega) J))⟩
        · simp only[Instr.indexAt,asIntOf]
          simp[run_underlying hu,hC.1,hC.2,bC A,fv]
        · rw[hl n.toNat (by omega)]at G
          exact hm n.toNat j (by omega) G
  · simp only[jI,Qu,QI]at h
    obtain⟨rfl,rfl⟩:=h;cases I with
    |mE=>omega
    |sle=>omega
    | sl _ _ _ _ cap hU h0 hl hc he=>
      refine⟨.pointer (io ⟨N.aB i,(a0+n.toNat)*d.size+0,jp⟩),?_,.dd _ _ _ _ hU⟩;simp only[Instr.indexAt,asIntOf];simp[run_underlying hu,hC.1,hC.2,bC A,fv,RJ]
theorem Dk{t u:TypeId}{d:b7}(hu:P.underlying t=io (.slice u))(A:ak P u d){m:Nat}{el:Nat->List IV}{ka kb:IntKind}{na nb:Int}{q:PV}{C:Prop}{x:Value}(Y:VR M N U (.iv (.c5 d.size m el)) x)
    (h:io (PV.iv (.c5 d.size (nb.toNat-na.toNat) (fun k=>el (na.toNat+k))),0<=na∧na<=nb∧nb<=m)=io (q,C)) (hC:C): ∃y,(Instr.sliceAt t x (io (.int ka na)) (io (.int kb nb)) jp).run P w= .ok y w∧VR M N U q y:=by
  simp only[Qu,QI]at h;obtain⟨rfl,rfl⟩:=h;obtain⟨I,h1,h2⟩:=hC;have hb:(nb.toNat:Int)=nb:=TZ (by omega);cases Y with
  | iv _ _ hi=>
    cases hi with
    | iA sz el a cap=>
      have F:na=0:=by omega
      have G:nb=0:=by omega
      subst F;subst G;refine⟨.slice (if cap=0 then a else a.map (·.add (0*d.size))) 0 cap,?_,.iv _ _ (.iA _ _ _ _)⟩;simp[Instr.sliceAt,Instr.slice,Instr.sliceBounds,Instr.sliceBound,asIntOf,run_underlying hu,bC A]
    | c5 sz m el b off cap hn hc hl hm hr=>
      refine⟨.slice (if cap=na.toNat then io ⟨b,off,jp⟩ else(io (⟨b,off,jp⟩:Addr)).map (·.add (na.toNat*d.size))) (nb.toNat-na.toNat) (cap-na.toNat),?_,?_⟩
      · have g1:nb<=(cap:Int):=by omega
        have g2:na<=(nb.toNat:Int):=by omega
        simp[Instr.sliceAt,Instr.slice,Instr.sliceBounds,Instr.sliceBound,asIntOf,run_underlying hu,bC A,I,g1,(by omega:0<=nb)];intro hh;omega
      · by_cases Z:nb.toNat-na.toNat=0
        · rw[Z];exact .iv _ _ (.iA _ _ _ _)
        · rw[be (by omega),RZ,fv]
          refine .iv _ _ (IR.c5 (sz:=d.size) (n:=nb.toNat-na.toNat) (el:=fun k=>el (na.toNat+k)) (b:=b) (off:=off+na.toNat*d.size) (cap:=cap-na.toNat) (by omega) (by omega) (fun k B=>hl _ (by omega)) (fun k j B J=>?_) (fun k j p B S=>?_))
          · have:=hm (na.toNat+k) j (by omega) J
            rwa[RJ,<-Sm]at this
          · have:=hr (na.toNat+k) j p (by omega) S
            rwa[RJ,<-Sm]at this
theorem yw{t:TypeId}(hu:P.underlying t=io .string){b:ByteArray}{ka kb:IntKind}{na nb:Int}(hC:0<=na∧na<=nb∧nb<=b.size):
    (Instr.sliceAt t (.string b) (io (.int ka na)) (io (.int kb nb)) jp).run P w= .ok (.string (b.extract na.toNat nb.toNat)) w:=by
  obtain⟨d,u,j⟩:=hC;have hb:(nb.toNat:Int)=nb:=TZ (by omega);have g2:na<=(nb.toNat:Int):=by omega
  simp[Instr.sliceAt,Instr.slice,Instr.sliceBounds,Instr.sliceBound,asIntOf,run_underlying hu,d,j,(by omega:0<=nb)];intro hh;omega
end
end
end Go.Al
namespace Go.Al
open Go.MapKept
section
section
variable {P:Program} {ty:Ty} {M:Mem} {N:Nm} {U:Nat->Prop} {w:World}
theorem nr{t:TypeId}{F:Array Field}(h:P.underlying t=io (.struct F)):P.fieldsOf t=F:=by
  simp[Program.fieldsOf,h]
theorem cz {t:TypeId} {F:Array Field} (h:P.underlying t=io (.struct F)) (h1:P.stoodInHeld t=lc) (d:P.eqGuardType P.depth t=lc) (j:(F.toList.all fun f=>f.name != "_")=kw):Pe P t:=
  ⟨h1,d,fun f b=>by
    rw[nr h]at b;have:=Q7.1 j f b
    simpa using this⟩
theorem CH(d:bT P ty){f:TypeId->PV->PV->Option Bool}{D:Nat}(hf: ∀u p q b,f u p q=io b-> ∀x y,VR M N U p x->VR M N U q y->(Op.equalIn D u x y).run P w= .ok b w)
    {cs ds:List PV} {xs ys:Array Value} (hx:VR M N U (.agg cs) (.agg xs)) (hy:VR M N U (.agg ds) (.agg ys)):
    ∀(F:List Field) (b:Bool),(∀g∈F,g.name≠ "_")->D3 f ty (F.map fun g=>(g.offset,g.type)) cs ds=io b->(Op.eqFields D xs ys F).run P w= .ok b w
  | [],b,_,h=>by simp only[RL,D3,Qu]at h;subst h;simp[Op.eqFields]
  | g::F,b,hn,h=>by
    simp only[Q4,D3]at h;split at h
    · rename_i eu j
      split at h
      · rename_i p q hp hq
        split at h
        · rename_i b1 b2 h1 h2
          simp only[Qu]at h;subst h;obtain⟨_,A,B,G⟩:=hx.kD;cases A;obtain⟨_,S,Y,Z⟩:=hy.kD;cases S;obtain⟨x,I,J⟩:=gj (P:=P) (w:=w) (d _ _ j) B G hp;obtain⟨y,a0,b0⟩:=gj (P:=P) (w:=w) (d _ _ j) Y Z hq;have h3:=hf _ _ _ _ h1 x y J b0;have h4:=CH d hf hx hy F b2 (fun g hg=>hn g (QR _ hg)) h2;simp only[Op.eqFields,am (hn g Q3),Sem.run_bind,I,a0,h3,Result.andThen_ok];cases b1 with
          |false=>simp
          |true=>simpa using h4
        · cases h
      · cases h
    · cases h
theorem Bn(j:bT P ty): ∀(d:Nat) (t:TypeId) (p q:PV) (b:Bool),D4 ty d t p q=io b-> ∀x y,VR M N U p x->VR M N U q y-> ∀m,(Op.equalIn (d+m) t x y).run P w= .ok b w
  |0,_,_,_,_,h,_,_,_,_,_=>by simp[D4]at h
  | d+1,t,p,q,b,h,x,y,A,B,m=>by
    rw[show d+1+m=(d+m)+1 by omega];simp only[D4]at h;split at h
    · rename_i k _ _ _ _ G
      have hu:=(j t _ G).2.1.1;split at h
      · split at h
        · simp only[Qu]at h
          subst h;cases A with
          | iv _ _ A => cases A
                        cases B with
                        | iv _ _ B => cases B
                                      rename_i e;subst e;rw[run_equalIn_int _ _ _ _ _ _ _ hu];congr 1
        · cases h
      · cases h
    · rename_i _ _ _ _ G
      have hu:=(j t _ G).2.1.1;split at h
      · simp only[Qu]at h
        subst h;cases A with
        | iv _ _ A => cases A
                      cases B with
                      | iv _ _ B => cases B
                                    rw[run_equalIn_string _ _ _ _ _ hu,wX]
      · cases h
    · rename_i _ _ _ _ G
      have hu:=(j t _ G).2.1.1;split at h
      · simp only[Qu]at h
        subst h;cases A with
        | iv _ _ A => cases A
                      cases B with
                      |iv _ _ B=>cases B;rw[run_equalIn_bool' _ _ _ _ _ hu]
      · cases h
    · rename_i fs _ _ _ G
      obtain⟨_,⟨F,hu,Y⟩,Z⟩:=j t _ G;obtain⟨S,a0,J⟩:=Z D;split at h
      · obtain⟨xs,rfl,_,_⟩:=A.kD
        obtain⟨ys,rfl,_,_⟩:=B.kD;have I:=nr hu;rw[run_equalIn_struct _ _ _ _ _ (by rw[I];exact hu) S,I];rw[I]at J;refine CH j (f:=D4 ty d) (fun u p q b hb x y A B=>Bn j d u p q b hb x y A B m) A B _ _ J ?_;rw[Y];exact h
      · cases h
    · cases h
theorem Ha(B:bT P ty){t:TypeId}{op:BinOp}{cs F:List PV}{r:PV}{C:Prop}{u v:Operand}{x y:Value}(h:CY ty t op (.agg cs) (.agg F)=io (r,C))(I:VR M N U (.agg cs) x)(J:VR M N U (.agg F) y):
    C∧ ∃z,(do eqGuard op t u v x y;binOp op t x y:Sem Value).run P w= .ok z w∧VR M N U r z:=by
  have key: ∀b,D4 ty 10 t (.agg cs) (.agg F)=io b-> ∃d j,x= .agg d∧y= .agg j∧P.eqGuardType P.depth t=lc∧(Op.equalIn 10000 t (.agg d) (.agg j)).run P w= .ok b w:=by
    intro b hb;have A:=Bn (P:=P) (w:=w) B 10 t _ _ b hb x y I J 9990;obtain⟨d,rfl,_,_⟩:=I.kD;obtain⟨j,rfl,_,_⟩:=J.kD;refine⟨d,j,rfl,rfl,?_,A⟩;simp only[D4]at hb;split at hb
    · cases hb
    · cases hb
    · cases hb
    · rename_i S
      exact((B t _ S).2.2 D).2.1
    · cases hb
  unfold CY at h;split at h
  · split at h
    · rename_i b hb
      simp only[Qu,QI]at h;obtain⟨rfl,rfl⟩:=h;obtain⟨d,j,rfl,rfl,A,G⟩:=key b hb;refine⟨ac,.bool b,?_,.iv _ _ (.v _)⟩;rw[Sem.run_bind,run_eqGuard_agg _ _ _ _ _ _ _ A,Result.andThen_ok,run_eql_struct,G];rfl
    · cases h
  · split at h
    · rename_i b hb
      simp only[Qu,QI]at h;obtain⟨rfl,rfl⟩:=h;obtain⟨d,j,rfl,rfl,A,G⟩:=key b hb;refine⟨ac,.bool (!b),?_,.iv _ _ (.v _)⟩;rw[Sem.run_bind,run_eqGuard_agg _ _ _ _ _ _ _ A,Result.andThen_ok,run_neq_struct,G];rfl
    · cases h
  · cases h
theorem B8(kc:KC)(k:kc.K):VR M N U (kc.pk k) (kc.ek k):=by
  cases kc with
  |str=>exact .iv _ _ (.v _)
  |int k=>exact .iv _ _ (.v _)
  | si j=>
    refine .agg _ _ (by rfl) fun i p b=>?_
    match i with
    |0=>simp at b;subst b;exact .iv _ _ (.v _)
    |1=>simp at b;subst b;exact .iv _ _ (.v _)
    |i+2=>simp at b
theorem Gt{kc:KC}{p:PV}{k:kc.K}{x:Value}(h:kc.dk p=io k)(d:VR M N U p x):x=kc.ek k:=by
  cases kc with
  | str=>
    simp only[KC.dk]at h;split at h
    · simp only[Qu]at h
      subst h;cases d with
      |iv _ _ d=>cases d;rfl
    · cases h
  | int j=>
    simp only[KC.dk]at h;split at h
    · split at h
      · rename_i e
        subst e;simp only[Qu]at h;subst h;cases d with
        |iv _ _ d=>cases d;rfl
      · cases h
    · cases h
  | si j=>
    simp only[KC.dk]at h;split at h
    · split at h
      · rename_i e
        subst e;simp only[Qu]at h;subst h;obtain⟨u,rfl,A,y⟩:=d.kD;have g0:=y 0 _ D;have g1:=y 1 _ D;obtain⟨u⟩:=u
        match u,A with
        | [a,b],_=>
          simp at g0 g1;cases g0 with
          | iv _ _ g0=>
            cases g1 with
            |iv _ _ g1=>cases g0;cases g1;rfl
      · cases h
    · cases h
theorem rU{d:TypeId}(b:bT P ty)(h:eK ty d=io .str):P.underlying d=io .string:=by
  unfold eK at h;split at h
  · rename_i j;exact(b _ _ j).2.1.1
  · cases h
  · split at h<;>cases h
  · cases h
theorem rV{d:TypeId}{k:IntKind}(b:bT P ty)(h:eK ty d=io (.int k)):P.underlying d=io (.int k):=by
  unfold eK at h;split at h
  · cases h
  · rename_i j;simp only[Qu,KC.int.injEq]at h;subst h;exact(b _ _ j).2.1.1
  · split at h<;>cases h
  · cases h
theorem z7{kc:KC}{j:TypeId}(u:bT P ty)(h:eK ty j=io kc)(a b:kc.K):(Op.equal j (kc.ek a) (kc.ek b)).run P w= .ok (li (a=b)) w:=by
  have key: ∀(r:Bool),D4 ty 10 j (kc.pk a) (kc.pk b)=io r->(Op.equal j (kc.ek a) (kc.ek b)).run P w= .ok r w:=fun r y=>
    Bn (M:=Mem.base) (N:=⟨fun _=>0,fun _=>0⟩) (U:=fun _=>True) u 10 j _ _ r y _ _ (B8 kc a) (B8 kc b) 9990
  unfold eK at h;split at h
  · rename_i d
    simp only[Qu]at h;subst h;refine key _ ?_;simp[D4,d,KC.pk]
  · rename_i d
    simp only[Qu]at h;subst h;refine key _ ?_;simp[D4,d,KC.pk]
  · rename_i d
    split at h
    · rename_i x hb
      simp only[Qu]at h;subst h;refine key _ ?_;obtain⟨A,a2⟩:=a;obtain⟨B,F⟩:=b;simp[D4,D3,d,x,hb,KC.pk,fU,TK.agg,jK]
    · cases h
  · cases h
def iQ(kc:KC){V:Type}:List (kc.K×V)->kc.K->Option Nat
  | [],_=>jp
  |(a,_)::r,k=>if a=k then io 0 else(iQ kc r k).map (· +1)
section
variable {kc:KC} {V:Type}
theorem jo: ∀{m:List (kc.K×V)} {k:kc.K} {i:Nat},iQ kc m k=io i-> ∃v,m[i]? =io (k,v)∧(∀z,bG kc m k z=v)∧eH kc m k=kw∧(∀d,cj kc m k d=m.set i (k,d))∧mC kc m k=m.eraseIdx i
  | [],_,_,h=>by simp[iQ]at h
  | (a,b)::r,k,i,h=>by
    simp only[iQ]at h;split at h
    · rename_i e
      simp only[Qu]at h;subst h;subst e;exact⟨b,rfl,fun z=>by simp[bG],by simp[eH],fun d=>by simp[cj],by simp[mC]⟩
    · rename_i e
      obtain⟨j,F,rfl⟩:=QF.1 h;obtain⟨v,u,x,y,A,B⟩:=jo F;exact⟨v,by simpa using u,fun z=>by simp[bG,e,x],by simp[eH,e,y],fun d=>by simp[cj,e,A],by simp[mC,e,B]⟩
theorem jq: ∀{m:List (kc.K×V)} {k:kc.K},iQ kc m k=jp->(∀z,bG kc m k z=z)∧eH kc m k=lc∧(∀d,cj kc m k d=m++ [(k,d)])∧mC kc m k=m
  | [],_,_=>⟨fun z=>rfl,rfl,fun v=>rfl,rfl⟩
  | (a,b)::r,k,h=>by
    simp only[iQ]at h;split at h
    · cases h
    · rename_i e
      obtain⟨j,u,x,y⟩:=jq (SF.1 h);exact⟨fun z=>by simp[bG,e,j],by simp[eH,e,u],fun d=>by simp[cj,e,x],by simp[mC,e,y]⟩
def u0(kc:KC){V:Type}:List MapEntry->List (kc.K×V)->Prop
  | [],[]=>True
  |e::r,x::m=>e.key=kc.ek x.1∧u0 kc r m
  |_,_=>False
theorem zj: ∀{es:List MapEntry} {m:List (kc.K×V)},es.length=m.length->(∀(j:Nat) (x:kc.K×V),m[j]? =io x->(es.getD j co).key=kc.ek x.1)->u0 kc es m
  | [],[],_,_=>trivial
  |e::r,x::m,hl,h=>⟨by simpa using h 0 x D,zj (by simpa using hl) fun j x b=>by simpa using h (j+1) x (by simpa using b)⟩
  | [],_::_,hl,_=>by simp at hl
  |_::_,[],hl,_=>by simp at hl
theorem rY: ∀{es:List MapEntry} {m:List ((KC.str).K×V)} {k:ByteArray} (i:Nat),u0 .str es m->Instr.findNow .string (.string k) es i=io ((iQ .str m k).map fun j=>(i+j,(es.getD j co).val))
  | [],[],_,_,_=>rfl
  | e::r,(a,b)::m,k,i,h=>by
    obtain⟨u,x⟩:=h;simp only[KC.ek]at u;simp only[Instr.findNow,u,Instr.sameNow,iQ];rw[beq_toListBytes,wX];by_cases d:a=k
    · subst d;simp
    · have hb:li (k=a)=lc:=by simpa using fun e=>d e.symm
      rw[hb,be d,rY (i+1) x];simp only[TV,Qu];congr 1
      funext j
      simp;omega
  | [],_::_,_,_,h=>h.elim
  |_::_,[],_,_,h=>h.elim
theorem rZ{q:IntKind}: ∀{es:List MapEntry} {m:List ((KC.int q).K×V)} {k:Int} (i:Nat),u0 (.int q) es m->Instr.findNow (.int q) (.int q k) es i=io ((iQ (.int q) m k).map fun j=>(i+j,(es.getD j co).val))
  | [],[],_,_,_=>rfl
  | e::r,(a,b)::m,k,i,h=>by
    obtain⟨u,x⟩:=h;simp only[KC.ek]at u;simp only[Instr.findNow,u,Instr.sameNow,iQ,if_true];by_cases d:a=k
    · subst d;simp
    · have: ¬k=a:=fun e=>d e.symm
      have hb:(k==a)=lc:=by simpa using this
      rw[hb,be d,rZ (i+1) x];simp only[TV,Qu];congr 1
      funext j
      simp;omega
  | [],_::_,_,_,h=>h.elim
  |_::_,[],_,_,h=>h.elim
theorem oF{y:TypeId}(u:bT P ty)(x:eK ty y=io kc): ∀{es:List MapEntry} {m:List (kc.K×V)} {k:kc.K} (i:Nat),u0 kc es m->
    (Instr.findAsking y (kc.ek k) es i).run P w= .ok ((iQ kc m k).map fun j=>(i+j,(es.getD j co).val)) w
  | [],[],_,_,_=>by simp[Instr.findAsking,iQ]
  | e::r,(a,b)::m,k,i,h=>by
    obtain⟨A,B⟩:=h;simp only[Instr.findAsking,A,Sem.run_bind,z7 (P:=P) (w:=w) u x,Result.andThen_ok,iQ];by_cases d:a=k
    · subst d;simp
    · have: ¬k=a:=fun e=>d e.symm
      rw[be d];simp only[this,decide_false,SK,if_false,oF u x (i+1) B,TV];congr 2
      funext j
      simp;omega
  | [],_::_,_,_,h=>h.elim
  |_::_,[],_,_,h=>h.elim
theorem pq{A:TypeId}(b:bT P ty)(x:eK ty A=io kc){es:List MapEntry}{m:List (kc.K×V)}(k:kc.K)(h:u0 kc es m):
    (Instr.findKey A (kc.ek k) es).run P w= .ok ((iQ kc m k).map fun j=>(j,(es.getD j co).val)) w:=by
  have hu: ∃d,P.underlying A=io d:=by
    unfold eK at x;split at x
    · rename_i y;exact⟨_,(b _ _ y).2.1.1⟩
    · rename_i y;exact⟨_,(b _ _ y).2.1.1⟩
    · rename_i y;obtain⟨F,B,_⟩:=(b _ _ y).2.1;exact⟨_,B⟩
    · cases x
  obtain⟨d,hd⟩:=hu;unfold Instr.findKey;rw[Sem.run_bind,run_underlying hd,Result.andThen_ok];have u:=oF (P:=P) (w:=w) b x (k:=k) 0 h;simp only[Q9]at u;cases kc with
  | str=>
    have:=rU b x;rw[hd]at this;cases this;simp only[KC.ek,rY 0 h,Q9];rfl
  | int q=>
    have:=rV b x;rw[hd]at this;cases this;simp only[KC.ek,rZ 0 h,Q9];rfl
  | si q=>
    cases es with
    | nil=>
      cases m with
      |nil=>simp[Instr.findNow,iQ]
      |cons=>exact h.elim
    | cons e r=>
      have G:Instr.findNow d (KC.ek (.si q) k) (e::r) 0=jp:=by
        simp only[Instr.findNow,KC.ek];have:Instr.sameNow d (.agg #[.string k.1,.int q k.2]) e.key=jp:=by cases d<;>rfl
        rw[this]
      rw[G];exact u
theorem ji.keys{V:Type}{e:V->IV}{m:List (kc.K×V)}{ents:Array MapEntry}{clock:Nat}(h:ji M kc e m ents clock):u0 kc ents.toList m:=
  zj (by simpa using h.size) fun j x b=>by
    have:=h.key j x b;rwa[Qt,<-RI,<-Qx]at this
theorem ji.Pt{V:Type}{e:V->IV}{m:List (kc.K×V)}{ents:Array MapEntry}{clock:Nat}(h:ji M kc e m ents clock){j:Nat}{x:kc.K×V}(hj:m[j]? =io x):IR M (e x.2) (ents.toList.getD j co).val:=by
  have:=h.val j x hj;rwa[Qt,<-RI,<-Qx]at this
theorem B6{i:IV}{x:Value}(h:IR M i x):VR M N U i.pv x:=by
  cases h with
  | agg cs ys hl hr=>
    refine .agg _ _ (by simpa using hl) fun j p b=>?_;rw[QC,QF]at b;obtain⟨q,d,rfl⟩:=b
    exact .iv _ _ (hr j q d)
  |v x=>exact .iv _ _ (.v x)
  |iA=>exact .iv _ _ (.iA _ _ _ _)
  |c5 _ _ _ _ _ _ h1 h2 h3 h4 h5=>exact .iv _ _ (.c5 _ _ _ _ _ _ h1 h2 h3 h4 h5)
  |j6 _ _ _ h1 h2=>exact .iv _ _ (.j6 _ _ _ h1 h2)
  |du _ _ _ _ _ _ _ _ h1 h2 h3 h4 h5 h6 h7=>exact .iv _ _ (.du _ _ _ _ _ _ _ _ h1 h2 h3 h4 h5 h6 h7)
theorem mY{kt:TypeId}(d:bT P ty)(u:eK ty kt=io kc)(k:kc.K)(b:Bool)(n:Nat):(Instr.checkKey b (n+2) kt (kc.ek k)).run P w= .ok () w:=by
  cases kc with
  |str=>exact run_checkKey (rU d u) (by simp[KC.ek,IsKey]) _ _
  |int q=>exact run_checkKey (rV d u) (by simp[KC.ek,IsKey]) _ _
  | si q=>
    unfold eK at u;split at u
    · cases u
    · cases u
    · rename_i a c _ _ _ he
      split at u
      · rename_i _ _ _ _ B _ _ _ ha hc
        simp only[Qu,KC.si.injEq]at u;have J:B=q:=u;subst J;obtain⟨F,h1,A⟩:=(d _ _ he).2.1;have I:=((d _ _ he).2.2 D).2.2;rw[nr h1]at I;have Z:=(d _ _ ha).2.1.1;have a0:=(d _ _ hc).2.1.1;have S:(part a #[.string k.1,.int B k.2] 0).run P w= .ok (.string k.1) w:=by
          have:=gj (P:=P) (w:=w) (M:=Mem.base) (N:=⟨fun _=>0,fun _=>0⟩) (U:=fun _=>True) (off:=0) (cs:=[.iv (.v (.string k.1)),.iv (.v (.int B k.2))]) (ys:= #[.string k.1,.int B k.2]) (d _ _ ha) D
            (fun j p x=>by match j with
              |0=>simp at x;subst x;exact .iv _ _ (.v _)
              |1=>simp at x;subst x;exact .iv _ _ (.v _)
              |j+2=>simp at x) (p:= .iv (.v (.string k.1))) (by simp[fU,TK.agg,jK])
          obtain⟨y,hy,G⟩:=this;cases G with
          |iv _ _ G=>cases G;exact hy
        have Y:(part c #[.string k.1,.int B k.2] 1).run P w= .ok (.int B k.2) w:=by
          have:=gj (P:=P) (w:=w) (M:=Mem.base) (N:=⟨fun _=>0,fun _=>0⟩) (U:=fun _=>True) (off:=1) (cs:=[.iv (.v (.string k.1)),.iv (.v (.int B k.2))]) (ys:= #[.string k.1,.int B k.2]) (d _ _ hc) D
            (fun j p x=>by match j with
              |0=>simp at x;subst x;exact .iv _ _ (.v _)
              |1=>simp at x;subst x;exact .iv _ _ (.v _)
              |j+2=>simp at x) (p:= .iv (.v (.int B k.2))) (by simp[fU,TK.agg,jK])
          obtain⟨y,hy,G⟩:=this;cases G with
          |iv _ _ G=>cases G;exact hy
        obtain⟨F⟩:=F
        match F,A,I with
        | [],A,_=>simp at A
        | [_],A,_=>simp at A
        |_::_::_::_,A,_=>simp at A
        | [f,g],A,I=>
          simp at A;obtain⟨⟨h3,h4⟩,h5,h6⟩:=A;have hf:=I f (by simp);have hg:=I g (by simp);have ca:=run_checkKey (w:=w) Z (k:= .string k.1) (by simp[IsKey]) b n;have cc:=run_checkKey (w:=w) a0 (k:= .int B k.2) (by simp[IsKey]) b n;unfold Instr.checkKey;simp[KC.ek,run_underlying h1,hf,hg,h3,h4,h5,h6,S,Y,ca,cc]
      · cases u
    · cases u
theorem ym{a b:Value}(h:BJ a b=kw):a=b:=by
  unfold BJ at h;split at h<;>simp_all
theorem yl: ∀{a b:List Value},vn a b=kw->a=b
  | [],[],_=>rfl
  | x::r,y::q,h=>by
    simp only[vn,Q5]at h;rw[ym h.1,yl h.2]
  | [],_::_,h=>by simp[vn]at h
  |_::_,[],h=>by simp[vn]at h
theorem Hp{a b:Value}(h:Lz a b=kw):a=b:=by
  unfold Lz at h;split at h
  · have:=yl h
    congr 1;exact T6.1 this
  · exact ym h
theorem zc(d:bT P ty){t:TypeId}{ok:Bool}{V:Type}{e:V->IV}{z:V}{zv:Value}{m:List (kc.K×V)}{key p:PV}{C:Prop}(h:ub ty t ok kc e z zv m key=io (p,C)){r:Nat}{ents:Array MapEntry}{clock:Nat}
    (hb:w.heap[r]? =io (.map ents clock)) (hm:ji M kc e m ents clock) (hz:IR M (e z) zv) {k:Value} (hk:VR M N U key k):
    C∧ ∃x,(Instr.lookup t (.map (io r)) k ok).run P w= .ok x w∧VR M N U p x:=by
  unfold ub at h;split at h
  · rename_i kt et _ _ _ _ he
    have hu:=(d _ _ he).2.1.1;split at h
    · rename_i u ee A J
      split at h
      · rename_i k0 hd Y I
        have hd:=of_decide_eq_true hd;subst hd;have S:=Gt I hk;subst S;have Y:=Hp Y;have b:=pq (P:=P) (w:=w) d A k0 hm.keys;have y:=mY (P:=P) (w:=w) d A k0 ents.isEmpty 9998;have Z:=dh (P:=P) (w:=w) (d _ _ J);have hg:(getObj r).run P w= .ok (.map ents clock) w:=by simp[getObj,Sem.run,hb]
        have F: ∃v G,(Instr.lookup t (.map (io r)) (u.ek k0) ok).run P w= .ok (if ok then .tuple #[v,.bool G] else v) w∧G=eH u m k0∧IR M (e (bG u m k0 z)) v:=by
          cases hfi:iQ u m k0 with
          | none=>
            obtain⟨g1,g2,_⟩:=jq hfi;rw[hfi]at b;refine⟨ee.zero,lc,?_,by rw[g2],by rw[g1,Y];exact hz⟩;simp[Instr.lookup,run_underlying hu,hg,y,b,Z]
          | some i=>
            obtain⟨v,g0,g1,g2,_⟩:=jo hfi;rw[hfi]at b;refine⟨(ents.toList.getD i co).val,kw,?_,by rw[g2],by rw[g1];exact hm.Pt g0⟩;simp[Instr.lookup,run_underlying hu,hg,y,b]
        obtain⟨v,G,h1,h2,h3⟩:=F;split at h
        · simp only[Qu,QI]at h
          obtain⟨rfl,rfl⟩:=h;refine⟨ac,_,h1,.bB _ _ D fun j q B=>?_⟩
          match j with
          |0=>simp at B;subst B;exact B6 h3
          |1=>simp at B;subst B;subst h2;exact .iv _ _ (.v _)
          |j+2=>simp at B
        · simp only[Qu,QI]at h
          obtain⟨rfl,rfl⟩:=h;exact⟨ac,_,h1,B6 h3⟩
      · cases h
    · cases h
  · cases h
end
end
section
variable {P:Program} {ty:Ty} {M:Mem} {N:Nm} {w:World} {nt:Nat} {s:AS} {a:Act}
theorem bt{x:Value}{m:Sem Value}(h:m.run P w= .ok x w):(do pure (.value (<-m)):Sem Next).run P w= .ok (.value x) w:=by
  rw[Sem.run_bind,h];rfl
theorem tF(G:bT P ty)(hf:Fits M N s nt a w){o:Oper}{p:PV}{C:Prop}(h:iO ty s o.op=io (p,C))(hC:C):
    ∃x,(execOp a.eval o).run P w= .ok (.value x) w∧VR M N (· <s.nx) p x:=by
  obtain⟨c0,A,_,_⟩:=hf;cases ho:o.op with
  | move x=>
    rw[ho]at h;simp only[iO,Qu,QI]at h;obtain⟨rfl,rfl⟩:=h;exact⟨_,by simp only[execOp,ho];rfl,aO A x⟩
  | assign x=>
    rw[ho]at h;simp only[iO,Qu,QI]at h;obtain⟨rfl,rfl⟩:=h;exact⟨_,by simp only[execOp,ho];rfl,aO A x⟩
  | pick c x y=>
    rw[ho]at h;simp only[iO]at h;have hc:=aO A c;split at h
    · rename_i I
      rw[I]at hc;simp only[Qu,QI]at h;obtain⟨rfl,rfl⟩:=h;generalize S:a.eval c=v at hc;cases hc with
      |kb=>exact⟨_,by simp only[execOp,ho,S];simp[asBool],aO A x⟩
    · rename_i I
      rw[I]at hc;simp only[Qu,QI]at h;obtain⟨rfl,rfl⟩:=h;generalize S:a.eval c=v at hc;cases hc with
      |kb=>exact⟨_,by simp only[execOp,ho,S];simp[asBool],aO A y⟩
    · cases h
  | load t x=>
    rw[ho]at h;simp only[iO]at h;split at h
    · rename_i e I
      split at h
      · rename_i cs hb
        split at h
        · rename_i q hq
          simp only[Qu,QI]at h;obtain⟨rfl,rfl⟩:=h;obtain⟨b,n0,d,q0⟩:=wE c0 (aO A x) hb;obtain⟨y,hy,S⟩:=rM (P:=P) (G t e I) q0 hq;exact⟨y,by simp only[execOp,ho];exact bt (by rw[d];simpa[Instr.loadAt,Instr.sureAddr]using hy),S⟩
        · cases h
      · cases h
    · cases h
  | nilCheck x=>
    rw[ho]at h;simp only[iO]at h;have d:=aO A x;split at h
    all_goals first
      |cases h;done
      | (rename_i I
         simp only[Qu,QI]at h;obtain⟨rfl,rfl⟩:=h;rw[I]at d;refine⟨_,?_,d⟩;generalize S:a.eval x=v at d
         first
         |(cases d;simp only[execOp,ho,S];rfl)
         | (cases d with
            |iv _ _ d=>cases d;simp only[execOp,ho,S];rfl))
  | binOp op t x y t'=>
    rw[ho]at h;simp only[iO]at h;split at h
    · rename_i cs ds f0 v1
      have Z:=aO A x;have h2:=aO A y;rw[f0]at Z;rw[v1]at h2;obtain⟨_,z,hz,S⟩:=Ha (P:=P) (w:=w) G (u:=x) (v:=y) h Z h2;exact⟨z,by simp only[execOp,ho];exact bt hz,S⟩
    · obtain⟨z,hz,S⟩:=Ed (P:=P) (w:=w) G (u:=x) (v:=y) h hC (aO A x) (aO A y)
      exact⟨z,by simp only[execOp,ho];exact bt hz,S⟩
  | unOp op t x=>
    rw[ho]at h;cases op with
    | not=>
      simp only[iO]at h;have d:=aO A x;split at h
      · rename_i I
        simp only[Qu,QI]at h;obtain⟨rfl,rfl⟩:=h;rw[I]at d;generalize S:a.eval x=v at d;cases d with
        |kb=>exact⟨_,by simp only[execOp,ho,S];exact bt D,.kb _⟩
      · rename_i I
        simp only[Qu,QI]at h;obtain⟨rfl,rfl⟩:=h;rw[I]at d;generalize S:a.eval x=v at d;cases d with
        |kb=>exact⟨_,by simp only[execOp,ho,S];exact bt D,.kb _⟩
      · rename_i I
        simp only[Qu,QI]at h;obtain⟨rfl,rfl⟩:=h;rw[I]at d;cases d with
        | iv _ _ d=>generalize S:a.eval x=v at d;cases d with
          |v=>exact⟨_,by simp only[execOp,ho,S];exact bt D,.iv _ _ (.v _)⟩
      · cases h
    |_=>simp[iO]at h
  | fieldAddr t x k=>
    rw[ho]at h;simp only[iO]at h;split at h
    · rename_i e I
      split at h
      · rename_i n0 u b1
        split at h
        · rename_i eu d0
          split at h
          · cases h
          · rename_i n hn
            split at h
            · rename_i q hq
              simp only[Qu,QI]at h;obtain⟨rfl,rfl⟩:=h;obtain⟨F,fd,Z,h2,rfl,rfl⟩:=qo (G t e I) b1;obtain⟨b,o',d,S⟩:=Dx (aO A x) hq;refine⟨_,?_,S⟩;simp only[execOp,ho,d];refine bt ?_;have hs:=bC (w:=w) (G _ _ d0);simp[Instr.fieldAt,run_underlying Z,h2,Instr.sureAddr,fieldPlace,hs,hn,fv]
            · cases h
        · cases h
      · cases h
    · cases h
  | field t x k=>
    rw[ho]at h;simp only[iO]at h;split at h
    · rename_i e I
      split at h
      · rename_i n0 u b1
        split at h
        · rename_i eu d0
          split at h
          · rename_i cs f0
            split at h
            · rename_i q hq
              simp only[Qu,QI]at h;obtain⟨rfl,rfl⟩:=h;obtain⟨F,fd,Z,h2,rfl,rfl⟩:=qo (G t e I) b1;have d:=aO A x;rw[f0]at d;generalize S:a.eval x=v at d;cases d with
              | agg _ ys hl hr=>
                obtain⟨y,hy,c2⟩:=gj (P:=P) (w:=w) (G _ _ d0) hl hr hq;refine⟨y,?_,c2⟩;simp only[execOp,ho,S];refine bt ?_;simp[Instr.field,run_underlying Z,h2,asAgg,hy]
            · cases h
          · cases h
        · cases h
      · cases h
    · cases h
  | indexAddr t x i=>
    rw[ho]at h;simp only[iO]at h;split at h
    · rename_i u sz j0 z _ I
      have hu:P.underlying t=io (.slice u):=(G t _ I).2.1.1;split at h
      · rename_i eu d0
        split at h
        · rename_i k n hn
          have B:=aO A i;rw[hn]at B;have i0:a.eval i= .int k n:=by
            generalize a.eval i=v at B;cases B with
            | iv _ _ B=>cases B with
              |v=>rfl
          split at h
          · rename_i o0 m el d
            cases hb:Q6 o0 eu.size with
            |false=>simp only[hb,cond_false]at h;cases h
            | true=>
              simp only[hb,cond_true]at h;have hs:=QS hb;subst hs;have J:=aO A x;rw[d]at J;obtain⟨y,hy,S⟩:=oD (P:=P) (k:=k) hu (G _ _ d0) J (.inl ⟨m,el,rfl⟩) h hC;exact⟨y,by simp only[execOp,ho,i0];exact bt hy,S⟩
          · rename_i j n0 len o0 d
            cases hb:Q6 o0 eu.size with
            |false=>simp only[hb,cond_false]at h;cases h
            | true=>
              simp only[hb,cond_true]at h;have hs:=QS hb;subst hs;have J:=aO A x;rw[d]at J;obtain⟨y,hy,S⟩:=oD (P:=P) (k:=k) hu (G _ _ d0) J (.inr ⟨j,n0,len,rfl⟩) h hC;exact⟨y,by simp only[execOp,ho,i0];exact bt hy,S⟩
          · cases h
        · cases h
      · cases h
    · rename_i len u sz j0 z _ I
      have hu:P.underlying t=io (.array len u):=(G t _ I).2.1;split at h
      · rename_i eu d0
        split at h
        · rename_i k n hn
          have B:=aO A i;rw[hn]at B;have i0:a.eval i= .int k n:=by
            generalize a.eval i=v at B;cases B with
            | iv _ _ B=>cases B with
              |v=>rfl
          split at h
          · rename_i j n0 d
            simp only[Qu,QI]at h;obtain⟨rfl,rfl⟩:=h;have J:=aO A x;rw[d]at J;generalize S:a.eval x=v at J;cases J with
            | ptr _ _ hU=>
              refine⟨.pointer (io ⟨N.aB j,n0+n.toNat*eu.size,jp⟩),?_,.ptr _ _ hU⟩;simp only[execOp,ho,i0,S];refine bt ?_;simp only[Instr.indexAt,asIntOf];simp[run_underlying hu,hC.1,hC.2,bC (G _ _ d0),fv,Instr.sureAddr]
          · cases h
        · cases h
      · cases h
    · cases h
  | slice t x lo B mx=>
    rw[ho]at h;have g0: ∀(o:Operand) (k:IntKind) (n:Int),ev s.f o= .iv (.v (.int k n))->a.eval o= .int k n:=fun o k n I=>by
      have B:=aO A o;rw[I]at B;generalize a.eval o=v at B;cases B with
      | iv _ _ B=>cases B with
        |v=>rfl
    cases lo with
    |none=>simp only[iO]at h;cases h
    |some lo=>
    cases B with
    |none=>simp only[iO]at h;cases h
    |some B=>
    cases mx with
    |some mx=>simp only[iO]at h;cases h
    |none=>
    simp only[iO]at h;split at h
    · rename_i u sz j0 z _ I
      have hu:P.underlying t=io (.slice u):=(G t _ I).2.1.1;split at h
      · rename_i eu d0
        split at h
        · rename_i ka na k1
          split at h
          · rename_i kb nb l1
            split at h
            · rename_i o0 m el d
              cases hb:Q6 o0 eu.size with
              |false=>simp only[hb,cond_false]at h;cases h
              | true=>
                simp only[hb,cond_true]at h;have hs:=QS hb;subst hs;have J:=aO A x;rw[d]at J;have d1:=g0 lo _ _ k1;have f1:=g0 B _ _ l1;obtain⟨y,hy,S⟩:=Dk (P:=P) (w:=w) (M:=M) (N:=N) (U:=(· <s.nx)) (ka:=ka) (kb:=kb) (na:=na) (nb:=nb) hu (G _ _ d0) J h hC;exact⟨y,by simp only[execOp,ho,d1,f1,RZ,TP];exact bt hy,S⟩
            · cases h
          · cases h
        · cases h
      · cases h
    · rename_i sz j0 z _ I
      have hu:P.underlying t=io .string:=(G t _ I).2.1.1;split at h
      · rename_i ka na k1
        split at h
        · rename_i kb nb l1
          split at h
          · rename_i b d
            simp only[Qu,QI]at h;obtain⟨rfl,rfl⟩:=h;have J:=aO A x;rw[d]at J;have o1:a.eval x= .string b:=by
              generalize a.eval x=v at J;cases J with
              | iv _ _ B=>cases B with
                |v=>rfl
            have d1:=g0 lo _ _ k1;have f1:=g0 B _ _ l1;refine⟨.string (b.extract na.toNat nb.toNat),?_,.iv _ _ (.v _)⟩;simp only[execOp,ho,d1,f1,o1,RZ,TP];exact bt (yw hu hC)
          · cases h
        · cases h
      · cases h
    · cases h
  | index t x i=>
    rw[ho]at h;simp only[iO]at h;split at h
    · rename_i sz j0 z _ I
      have hu:P.underlying t=io .string:=(G t _ I).2.1.1;split at h
      · rename_i k n hn
        split at h
        · rename_i b d
          simp only[Qu,QI]at h;obtain⟨rfl,rfl⟩:=h;have B:=aO A i;rw[hn]at B;have i0:a.eval i= .int k n:=by
            generalize a.eval i=v at B;cases B with
            | iv _ _ B=>cases B with
              |v=>rfl
          have J:=aO A x;rw[d]at J;have o1:a.eval x= .string b:=by
            generalize a.eval x=v at J;cases J with
            | iv _ _ B=>cases B with
              |v=>rfl
          refine⟨_,?_,.iv _ _ (.v _)⟩;simp only[execOp,ho,i0,o1];refine bt ?_;have a1:n.toNat<b.size:=by omega
          have hg:b[n.toNat]? =io (b.data.toList.getD n.toNat 0):=by
            rw[getElem?_pos b n.toNat a1];have h0:n.toNat<b.data.size:=a1;have Z:b.data.toList.getD n.toNat 0=b.data[n.toNat]:=by
              rw[Qx,RI,Rs h0];rfl
            rw[Z];rfl
          simp only[Instr.index,asIntOf];simp[run_underlying hu,hC.1,hg]
        · cases h
      · cases h
    · cases h
  | build t parts=>
    rw[ho]at h;simp only[iO]at h;split at h
    · rename_i e I
      split at h
      · rename_i fs hk
        split at h
        · rename_i pl b2
          split at h
          · rename_i cs f0
            rw[force_eq]at h;simp only[Qu,QI]at h;obtain⟨rfl,rfl⟩:=h;have e0:=G t e I;have k0:=e0.2.1;rw[hk]at k0;obtain⟨F,Z,h2⟩:=k0;have hz:=dh (w:=w) e0
            obtain⟨r1,h3,h4⟩:=qm (M:=M) (N:=N) (U:=(· <s.nx)) (vals:=(parts.map fun x=>(x.1,a.eval x.2)).toList) f0 (by simp) (fun j x y d hy=>by
              rw[QC,QF]at d;obtain⟨z,hz,rfl⟩:=d;have p1:parts[j]? =io z:=by simpa using hz
              have:io (z.1,a.eval z.2)=io y:=by rw[<-hy];simp[p1]
              simp only[Qu]at this;subst this
              exact⟨rfl,aO A z.2⟩) (eE e.zero)
            refine⟨.agg r1,?_,.agg _ _ h4.1 h4.2⟩;simp only[execOp,ho];refine bt ?_;have i1: ∀(fl:List Field) (pl:List (Nat×Nat)),pV ty (fl.map fun f=>(f.offset,f.type))=io pl->(fl.mapM (fun f=>do pure (f.offset,<-sizeOf f.type):Field->Sem (Nat×Nat))).run P w= .ok pl w:=by
              intro fl
              induction fl with
              |nil=>intro pl hp;simp only[RL,pV,Qu]at hp;subst hp;rfl
              | cons f fl ih=>
                intro pl hp;simp only[Q4,pV]at hp;split at hp
                · rename_i e' w1
                  split at hp
                  · rename_i l hl
                    simp only[Qu]at hp;subst hp;rw[List.mapM_cons,Sem.run_bind,Sem.run_bind,bC (G _ _ w1),Result.andThen_ok,Sem.run_pure,Result.andThen_ok,Sem.run_bind,ih l hl];rfl
                  · cases hp
                · cases hp
            have hm:=i1 F.toList pl (by rw[h2];exact b2);have z1:(F.mapM (fun f=>do pure (f.offset,<-sizeOf f.type):Field->Sem (Nat×Nat))).run P w= .ok pl.toArray w:=by
              rw[Tv,Sem.run_map,hm];rfl
            have m0:(fun(i:Nat)=>pl.toArray[i]?)=(fun(i:Nat)=>pl[i]?):=by funext i;simp
            simp only[Instr.build,Sem.run_bind,hz,Result.andThen_ok,run_underlying Z,z1];rw[m0,h3];rfl
          · cases h
        · cases h
      · rename_i n u hk
        split at h
        · rename_i eu d0
          split at h
          · rename_i cs f0
            rw[force_eq]at h;simp only[Qu,QI]at h;obtain⟨rfl,rfl⟩:=h;have e0:=G t e I;have k0:=e0.2.1;rw[hk]at k0;have hz:=dh (w:=w) e0
            obtain⟨r1,h3,h4⟩:=qm (M:=M) (N:=N) (U:=(· <s.nx)) (vals:=(parts.map fun x=>(x.1,a.eval x.2)).toList) f0 (by simp) (fun j x y d hy=>by
              rw[QC,QF]at d;obtain⟨z,hz,rfl⟩:=d;have p1:parts[j]? =io z:=by simpa using hz
              have:io (z.1,a.eval z.2)=io y:=by rw[<-hy];simp[p1]
              simp only[Qu]at this;subst this
              exact⟨rfl,aO A z.2⟩) (eE e.zero)
            refine⟨.agg r1,?_,.agg _ _ h4.1 h4.2⟩;simp only[execOp,ho];refine bt ?_;simp only[Instr.build,Sem.run_bind,hz,Result.andThen_ok,run_underlying k0,bC (G _ _ d0)];rw[h3];rfl
          · cases h
        · cases h
      · cases h
    · cases h
  | extract x k=>
    rw[ho]at h;simp only[iO]at h;split at h
    · rename_i cs f0
      split at h
      · rename_i q hq
        simp only[Qu,QI]at h;obtain⟨rfl,rfl⟩:=h;have d:=aO A x;rw[f0]at d;generalize S:a.eval x=v at d;cases d with
        | bB _ ys hl hr=>
          have a1:k<ys.size:=by rw[<-hl];exact(Qw.1 hq).1
          refine⟨ys.getD k undef,?_,hr _ _ hq⟩;simp only[execOp,ho,S];refine bt ?_;simp[Instr.extract,Qt,a1]
      · cases h
    · cases h
  | makeFunc fn first caps=>
    rw[ho]at h;simp only[iO,force_eq,Qu,QI]at h;obtain⟨rfl,rfl⟩:=h;have Z:=FB A first;have h2:=FB A caps;exact⟨_,by simp only[execOp,ho];exact bt D,.cK _ _ _ _ _ Z.1 h2.1 Z.2 h2.2⟩
  | call c=>
    obtain⟨callee,args,a0⟩:=c;rw[ho]at h;cases callee with
    | builtin b=>
      cases b with
      | len=>
        simp only[iO]at h;split at h
        · rename_i x t t1 f2
          have b0:args= #[x]:=by cases args;simp_all
          have n1:a0= #[t]:=by cases a0;simp_all
          subst b0 n1;have d:=aO A x;have p0: ∀v,(Builtin.len_ #[t] o.type #[a.eval x]).run P w= .ok v w->(execOp a.eval o).run P w= .ok (.value v) w:=by
            intro v S;simp only[execOp,ho,resolve];simp[invoke,builtin,S]
          split at h
          · rename_i u sz j0 z _ I
            have hu:P.underlying t=io (.slice u):=(G t _ I).2.1.1;split at h
            · rename_i o0 n el Y
              rw[Y]at d;simp only[vf,Qu,QI]at h;obtain⟨rfl,rfl⟩:=h;refine⟨.int .i64 n,p0 _ ?_,.iv _ _ (.v _)⟩;generalize a.eval x=v at d;cases d with
              |iv _ _ B=>cases B<;>simp[Builtin.len_,run_underlying hu,goInt]
            · rename_i i n0 len o0 Y
              rw[Y]at d;simp only[vf,Qu,QI]at h;obtain⟨rfl,rfl⟩:=h;refine⟨.int .i64 len,p0 _ ?_,.iv _ _ (.v _)⟩;generalize a.eval x=v at d;cases d<;>(simp[Builtin.len_,run_underlying hu,goInt];done)
            · rename_i Y
              rw[Y]at d;simp only[vf,Qu,QI]at h;obtain⟨rfl,rfl⟩:=h;refine⟨.int .i64 0,p0 _ ?_,.iv _ _ (.v _)⟩;generalize a.eval x=v at d;cases d with
              |iv _ _ B=>cases B;simp[Builtin.len_,run_underlying hu,goInt]
            · cases h
          · rename_i sz j0 z _ I
            have hu:P.underlying t=io .string:=(G t _ I).2.1.1;split at h
            · rename_i b Y
              rw[Y]at d;simp only[vf,Qu,QI]at h;obtain⟨rfl,rfl⟩:=h;refine⟨.int .i64 b.size,p0 _ ?_,.iv _ _ (.v _)⟩;generalize a.eval x=v at d;cases d with
              |iv _ _ B=>cases B;simp[Builtin.len_,run_underlying hu,goInt]
            · cases h
          · rename_i kt et sz j0 z _ I
            have hu:P.underlying t=io (.map kt et):=(G t _ I).2.1.1;have r0: ∀{r:Nat} {ents:Array MapEntry} {clock n:Nat},w.heap[r]? =io (.map ents clock)->ents.size=n->(Builtin.len_ #[t] o.type #[.map (io r)]).run P w= .ok (.int .i64 n) w:=by
              intro r ents clock n Z h2;simp[Builtin.len_,run_underlying hu,goInt,getObj,Sem.run,Z,h2,Result.andThen]
            split at h
            · rename_i V w0 x0 z' s1 m' Y
              rw[Y]at d;simp only[Qu,QI]at h;obtain⟨rfl,rfl⟩:=h;refine⟨.int .i64 m'.length,p0 _ ?_,.iv _ _ (.v _)⟩;generalize a.eval x=v at d;cases d with
              | iv _ _ B=>cases B with
                |du _ _ _ _ _ b ents clock hb hs=>exact r0 (c0.dT _ _ hb) hs
            · rename_i j Y
              rw[Y]at d;split at h
              · rename_i V w0 x0 z' s1 u1 m' hg
                simp only[Qu,QI]at h;obtain⟨rfl,rfl⟩:=h;refine⟨.int .i64 m'.length,p0 _ ?_,.iv _ _ (.v _)⟩;obtain⟨ents,clock,Z,h2,h3⟩:=c0.obj _ _ hg;generalize a.eval x=v at d;cases d with
                |mp=>exact r0 Z h2.size
              · cases h
            · cases h
          · cases h
        · cases h
      | max=>
        simp only[iO]at h;split at h
        · rename_i x y t1
          have b0:args= #[x,y]:=by cases args;simp_all
          subst b0;split at h
          · rename_i k n j m hn hm
            simp only[Qu,QI]at h;obtain⟨rfl,rfl⟩:=h;have Z:=aO A x;have h2:=aO A y;rw[hn]at Z;rw[hm]at h2;have e1:a.eval x= .int k n:=by
              generalize a.eval x=v at Z;cases Z with
              | iv _ _ B=>cases B with
                |v=>rfl
            have e2:a.eval y= .int j m:=by
              generalize a.eval y=v at h2;cases h2 with
              | iv _ _ B=>cases B with
                |v=>rfl
            have e3:(if m>n then m else n)=max n m:=by split<;>omega
            refine⟨.int k (max n m),?_,.iv _ _ (.v _)⟩;simp only[execOp,ho,resolve];simp[invoke,builtin,Builtin.max_,Builtin.max2,e1,e2,<-e3]
          · cases h
        · cases h
      | min=>
        simp only[iO]at h;split at h
        · rename_i x y t1
          have b0:args= #[x,y]:=by cases args;simp_all
          subst b0;split at h
          · rename_i k n j m hn hm
            simp only[Qu,QI]at h;obtain⟨rfl,rfl⟩:=h;have Z:=aO A x;have h2:=aO A y;rw[hn]at Z;rw[hm]at h2;have e1:a.eval x= .int k n:=by
              generalize a.eval x=v at Z;cases Z with
              | iv _ _ B=>cases B with
                |v=>rfl
            have e2:a.eval y= .int j m:=by
              generalize a.eval y=v at h2;cases h2 with
              | iv _ _ B=>cases B with
                |v=>rfl
            have e3:(if m<n then m else n)=min n m:=by split<;>omega
            refine⟨.int k (min n m),?_,.iv _ _ (.v _)⟩;simp only[execOp,ho,resolve];simp[invoke,builtin,Builtin.min_,Builtin.min2,e1,e2,<-e3]
          · cases h
        · cases h
      |_=>simp[iO]at h
    |_=>simp[iO]at h
  | lookup t x i ok=>
    rw[ho]at h;simp only[iO]at h;have d:=aO A x;have B:=aO A i;split at h
    · rename_i V w0 x0 z' s1 m' Y
      rw[Y]at d;generalize S:a.eval x=v at d;cases d with
      | iv _ _ hxi=>cases hxi with
        | du _ _ _ _ _ b ents clock hb hs k0 hv' hz i0 hc=>
          obtain⟨_,y,Z,h2⟩:=zc (P:=P) G h (c0.dT _ _ hb) ⟨hs,k0,hv',i0,hc⟩ hz B;exact⟨y,by simp only[execOp,ho,S];exact bt Z,h2⟩
    · rename_i j Y
      rw[Y]at d;split at h
      · rename_i V w0 x0 z' s1 u1 m' hg
        obtain⟨ents,clock,Z,h2,h3⟩:=c0.obj _ _ hg;generalize S:a.eval x=v at d;cases d with
        | mp=>
          obtain⟨_,y,g1,g2⟩:=zc (P:=P) G h Z h2 h3 B;exact⟨y,by simp only[execOp,ho,S];exact bt g1,g2⟩
      · cases h
    · cases h
  | entry it=>
    rw[ho]at h;simp only[iO]at h;have d:=aO A it;split at h
    · rename_i i Y
      rw[Y]at d;split at h
      · rename_i V w0 x0 m' vs x' hg
        simp only[Qu,QI]at h;obtain⟨rfl,rfl⟩:=h;obtain⟨b,ents,clock,q1,Z,h2,h3,h4,h5,h6,h7⟩:=(c0.obj _ _ hg).resolve_left fun hh=>nomatch hh.2.2.1;obtain⟨j,r,rfl,h8⟩:=h7 x' D;generalize S:a.eval it=v at d
        cases d with
        | ptr=>
          have hj:j<ents.size:=by rw[h3.size];exact(Qw.1 h8).1
          have x1:ents.getD j co=ents[j]:=by simp[Qt,hj]
          have t0:q1=(r.reverse.map fun j=>(ents.getD j co).born).toArray.push (ents[j]).born:=by
            apply T6.1;rw[h4];simp[hj]
          rw[t0]at Z;have a2:(ents.toList.map (·.born)).Nodup:=by
            rw[List.nodup_iff_pairwise_ne,Sq];intro p q hp hq d2 I;simp at hp hq I;have:=h3.inj p q ents[p] ents[q] (by simp[hp]) (by simp[hq]) I;omega
          have m1:=run_entry_at (P:=P) w (N.aB i) b clock _ ents clock ents[j] Z (c0.dT _ _ h2) (by simp) a2;refine⟨_,by simp only[execOp,ho,S];exact bt m1,.bB _ _ D fun q p hp=>?_⟩;have s0:=h3.key j _ h8;have v0:=h3.val j _ h8;rw[x1]at s0 v0
          match q with
          |0=>simp at hp;subst hp;simp only[Qt];simp;rw[s0];exact B8 w0 _
          |1=>simp at hp;subst hp;exact B6 v0
          |q+2=>simp at hp
      · cases h
    · cases h
  |_=>rw[ho]at h;simp[iO]at h
end
abbrev AQ:=Exit->AS->Prop
def mz(nt:Nat)(M:Mem)(N:Nm)(s:AS)(w:World)(Q:AQ):Exit->Act->World->Prop:=fun e u j=>
 ∃b d s',Ext M N (· <s.nx) s.h w b d (· <s'.nx) s'.h j∧Fits b d s' nt u j∧Q e s'
theorem mz.later{nt:Nat}{M b:Mem}{N d:Nm}{s s':AS}{w j:World}{Q:AQ}{e:Exit}{a:Act}{u:World}
  (x:Ext M N (· <s.nx) s.h w b d (· <s'.nx) s'.h j) (h:mz nt b d s' j Q e a u):mz nt M N s w Q e a u:=by
 obtain⟨y,A,I,B,F,G⟩:=h;exact⟨y,A,I,x.trans B,F,G⟩
theorem mz.now{nt:Nat}{M:Mem}{N:Nm}{s:AS}{w:World}{Q:AQ}{e:Exit}{a:Act}(hf:Fits M N s nt a w)(h:Q e s):mz nt M N s w Q e a w:=
 ⟨M,N,s,.refl _ _ _ _ _,hf,h⟩
def AW(P:Program)(nt:Nat)(c:Code)(Q:AQ)(s:AS):Prop:= ∀M N a w,Fits M N s nt a w->c.wp P (mz nt M N s w Q) a w
def AL(P:Program)(nt:Nat)(all rest:List Oper)(Q:AQ)(s:AS):Prop:= ∀M N a w,Fits M N s nt a w->wpList P all.toArray (mz nt M N s w Q) rest a w
def SL(P:Program)(nt:Nat)(all rest:List Oper)(Q:AQ)(s:AS):Prop:= ∀M N a w,Fits M N s nt a w->
 wpStill P all.toArray w (fun b=> ∃s',s'.h=s.h∧s'.nx=s.nx∧Fits M N s' nt b w∧Q .normal s') rest a
def waits(o:Oper)(i:Nat):Bool:=o.after.toList.any fun e=>Region.binds .any e&&Q6 e.on i
def looks(all:List Oper)(o x:Oper):Bool:=match x.dst with
 |some d=>(o.looksAt all.toArray).contains d
 |none=>lc
def fm:Nat->List Oper->Bool
 |_,[]=>kw
 |n,o::r=>(o.after.toList.all fun e=>!Region.binds .any e||QZ e.on n)&&fm (n+1) r
structure Bs where
 M:Mem
 N:Nm
 n:Nat
 h:AH
 w:World
def Bs.ext(B:Bs)(M:Mem)(N:Nm)(s:AS)(w:World):Prop:=Ext B.M B.N (· <B.n) B.h B.w M N (· <s.nx) s.h w
def Lw(nt:Nat)(B:Bs)(Q:AQ):Exit->Act->World->Prop:=fun e u j=> ∃b d s',B.ext b d s' j∧Fits b d s' nt u j∧Q e s'
def aF(o:Oper):Bool:=match o.op with
 | .alloc _=>kw
 |_=>lc
def oJ(P:Program)(M:Mem)(N:Nm)(s:AS)(B:Bs)(a:Act)(w:World)(o:Oper)(aB:Nat):Prop:=
 ∃t v d,o.op= .alloc t∧(∀w,(zeroValue t).run P w= .ok v w)∧o.dst=io d∧a.tmps[d]? =io (.pointer (io ⟨aB,0,jp⟩))∧w.heap[aB]? =io (.cells v.cells t (0,0))∧M aB=jp∧
  (∀i o,s.h.get i=io o->o.real=kw->N.aB i≠aB)∧B.w.heap.size<=aB
structure lF (P:Program) (nt:Nat) (all:List Oper) (todo pend:List (Nat×Oper)) (B:Bs) (M:Mem) (N:Nm) (s:AS) (listed:Array Bool) (a:Act) (w:World):Prop where
 size:listed.size=all.length
 tl: ∀x∈todo,all[x.1]? =io x.2
 pl: ∀x∈pend,all[x.1]? =io x.2
 dj: ∀x∈pend,∀y∈todo,y.1≠x.1
 xR: ∀i o,all[i]? =io o->listed.getD i kw=lc->(i,o)∈todo∨(i,o)∈pend
 pw:pend.Pairwise fun x y=>looks all y.2 x.2=lc∧ ∀d,x.2.dst=io d->y.2.dst≠io d
 pp: ∀x∈pend,∀y∈pend,waits y.2 x.1=kw∨looks all y.2 x.2=lc
 pa: ∀y∈pend,∀x∈todo,aF x.2=kw->waits y.2 x.1=lc
 er: ∃bl:Nat->Nat,(∀x∈todo,listed.getD x.1 kw=kw->oJ P M N s B a w x.2 (bl x.1))∧ ∀x∈todo,∀y∈todo,listed.getD x.1 kw=kw->listed.getD y.1 kw=kw->x.1≠y.1->bl x.1≠bl y.1
 ap: ∃b:Act,Fits M N s nt b w∧a.tmps.size=b.tmps.size∧a.defers=b.defers∧
  (∀d,(∀x∈pend,listed.getD x.1 kw=lc->x.2.dst≠io d)->(∀x∈todo,listed.getD x.1 kw=kw->x.2.dst≠io d)->a.tmps[d]? =b.tmps[d]?)∧
  (∀x∈pend,listed.getD x.1 kw=lc-> ∃v,YieldsAt P all.toArray w x.2 v b∧b.put x.2.dst v=b)
def gI(P:Program)(nt:Nat)(all:List Oper):Prop:= ∀i o,all[i]? =io o->aF o=kw->
 o.guard=jp∧(∃d,o.dst=io d∧d<nt)∧(∃t v,o.op= .alloc t∧ ∀w,(zeroValue t).run P w= .ok v w)∧(∀k,waits o k=lc)∧
 ∀k q,all[k]? =io q->k≠i->(waits q i=kw∨looks all q o=lc)∧ ∀d,o.dst=io d->q.dst≠io d
def DL(P:Program)(nt:Nat)(all:List Oper)(todo pend:List (Nat×Oper))(Q:AQ)(s:AS):Prop:=
 Region.noSelect all.toArray=kw->fm 0 all=kw->gI P nt all-> ∀B M N listed a w b,B.ext M N s w->lF P nt all todo pend B M N s listed a w->listed.toList.count lc<=b->wpAny P .any all.toArray (Lw nt B Q) b listed a w
def putDst(nt:Nat)(o:Oper)(p:PV)(s:AS):Option AS:=
 match o.dst with
 |none=>io s
 |some d=>bif QZ d nt then(match s with|⟨f,h,n⟩=>ur p fun b=>io ⟨(d,b)::f,h,n⟩) else jp
theorem eZ{nt:Nat}{o:Oper}{p:PV}{s s':AS}(h:putDst nt o p s=io s')(hd:o.dst=jp):s'=s:=by
 simp only[putDst,hd,Qu]at h;exact h.symm
theorem eY{nt:Nat}{o:Oper}{p:PV}{s s':AS}(h:putDst nt o p s=io s'){d:Nat}(hd:o.dst=io d):d<nt∧s'={s with f:=(d,p)::s.f}:=by
 simp only[putDst,hd]at h;cases hb:QZ d nt with
 |false=>simp[hb]at h
 |true=>
  obtain⟨f,hh,n⟩:=s;simp only[hb,cond_true,dy,Qu]at h;exact⟨Qs hb,h.symm⟩
def fP(P:Program)(nt:Nat)(all:List Oper)(s:AS)(o:Oper):Prop:=
 ∀M N b w,Fits M N s nt b w-> ∃v,YieldsAt P all.toArray w o v b∧Fits M N s nt (b.put o.dst v) w
def a8(pend:List (Nat×Oper))(o:Oper):List (Nat×Oper):=pend.filter fun x=>!waits o x.1
def UA(P:Program)(nt:Nat)(b:Code)(Q:AQ):Nat->AS->Prop
 |0,_=>False
 |n+1,s=>AW P nt b (fun e s'=>match e with| .normal=>UA P nt b Q n s'|e=>Q e s') s
inductive KI where
 |code (c:Code)
 |aB (id:Nat)
 |ops (all rest:List Oper)
 |lp (R:AS->Prop)
 |sj (all rest:List Oper)
 |ct (all:List Oper) (todo pend:List (Nat×Oper))
 |C9 (b:Code) (n:Nat)
 |Ej
 |Jw (nt:Nat) (f:AF) (res:AS->Option PV) (o:Oper) (all rest:List Oper)
 |Jx (nt:Nat) (f:AF) (res:AS->Option PV) (j:Nat) (o:Oper) (all:List Oper) (todo pend:List (Nat×Oper))
def kp(P:Program):Nat->List KI->AQ->AQ
 |_,[],Q=>Q
 |nt,.code c::k,Q=>fun e s=>match e with| .normal=>AW P nt c (kp P nt k Q) s|e=>kp P nt k Q e s
 |nt,.ops all rest::k,Q=>fun e s=>match e with| .normal=>AL P nt all rest (kp P nt k Q) s|e=>kp P nt k Q e s
 |nt,.sj all rest::k,Q=>fun e s=>match e with| .normal=>SL P nt all rest (kp P nt k Q) s|e=>kp P nt k Q e s
 |nt,.ct all todo pend::k,Q=>fun e s=>match e with| .normal=>DL P nt all todo pend (kp P nt k Q) s|e=>kp P nt k Q e s
 |nt,.lp R::k,Q=>fun e s=>match e with| .normal=>R s|e=>kp P nt k Q e s
 |nt,.aB id::k,Q=>fun e s=>match e with| .exit j=>if j=id then kp P nt k Q .normal s else kp P nt k Q (.exit j) s|e=>kp P nt k Q e s
 |nt,.C9 b n::k,Q=>fun e s=>match e with| .normal=>UA P nt b (kp P nt k Q) n s|e=>kp P nt k Q e s
 |nt,.Ej::k,Q=>fun e s=>match e with| .goto _=>False|e=>kp P nt k Q e s
 |_,.Jw nt f res o all rest::k,Q=>fun e s=>(e= .normal∨e= .ret)∧ ∃r s',res s=io r∧putDst nt o r ⟨f,s.h,s.nx⟩=io s'∧AL P nt all rest (kp P nt k Q) s'
 | _,.Jx nt f res j o all todo pend::k,Q=>fun e s=>(e= .normal∨e= .ret)∧ ∃r s',res s=io r∧putDst nt o r ⟨f,s.h,s.nx⟩=io s'∧
   (∀x∈a8 pend o,fP P nt all s' x.2)∧DL P nt all (todo.filter fun x=>!Q6 x.1 j) (a8 pend o) (kp P nt k Q) s'
def GO(P:Program)(nt:Nat)(k:List KI)(Q:AQ)(s:AS):Prop:=kp P nt k Q .normal s
section
variable {P:Program} {nt:Nat} {Q:AQ} {k:List KI} {s:AS}
theorem AW.then{c:Code}{R:AQ}(h:AW P nt c R s){M:Mem}{N:Nm}{a:Act}{w:World}(hf:Fits M N s nt a w){Z:Exit->Act->World->Prop}
  (x: ∀e u b d j s',Ext M N (· <s.nx) s.h w d j (· <s'.nx) s'.h b->Fits d j s' nt u b->R e s'->Z e u b):c.wp P Z a w:=
 wp_mono (h M N a w hf) fun e u b ⟨d,j,s',h1,h2,h3⟩=>x e u b d j s' h1 h2 h3
theorem go_skip(h:GO P nt k Q s):GO P nt (.code .skip::k) Q s:=fun _ _ _ _ b=>wp_skip (.now b h)
theorem F4{l:Nat}(h:GO P nt k Q s):GO P nt (.code (.label l)::k) Q s:=fun _ _ _ _ b=>wp_label (.now b h)
theorem go_ret(h:kp P nt k Q .ret s):GO P nt (.code .ret::k) Q s:=fun _ _ _ _ b=>wp_ret (.now b h)
theorem Jo{id:Nat}(h:kp P nt k Q (.exit id) s):GO P nt (.code (.exit id)::k) Q s:=fun _ _ _ _ b=>wp_exit (.now b h)
theorem F0{c:Code}(h:GO P nt (.code c:: .Ej::k) Q s):GO P nt (.code (.scope c)::k) Q s:=by
 intro M N a w x;refine wp_scope_straight (AW.then h x fun e A B j u s' y b d=>?_);cases e with
 |goto l=>exact d
 |_=>exact⟨j,u,s',y,b,d⟩
theorem MV{id:Nat}(h:GO P nt k Q s):GO P nt (.aB id::k) Q s:=h
theorem MS{x y:Code}(h:GO P nt (.code x:: .code y::k) Q s):GO P nt (.code (.seq x y)::k) Q s:=by
 intro M N a w S;refine wp_seq (AW.then h S fun e Z w' F I s' B b A=>?_);cases e with
 |normal=>exact AW.then A b fun e a2 w2 G J Y u d j=>⟨G,J,Y,B.trans u,d,j⟩
 |_=>exact⟨F,I,s',B,b,A⟩
theorem Ga{id:Nat}{x:Code}(h:GO P nt (.code x:: .aB id::k) Q s):GO P nt (.code (.block id x)::k) Q s:=by
 intro M N a w F;refine wp_block (AW.then h F fun e G I u y s' B b d=>?_);cases e with
 |exit j=>
  simp only[kp]at d;simp only[Exit.inBlock];split
  .rename_i A;rw[am A]at d;exact⟨u,y,s',B,b,d⟩
  .rename_i A;rw[be A]at d;exact⟨u,y,s',B,b,d⟩
 |_=>exact⟨u,y,s',B,b,d⟩
theorem go_region{id:Nat}{ops:Array Oper}(h:GO P nt (.ops ops.toList ops.toList::k) Q s):GO P nt (.code (.region id ops lc)::k) Q s:=by
 intro M N a w b;refine wp_region_list ?_;have:=h M N a w b;simpa using this
theorem Bi{all:List Oper}(h:GO P nt k Q s):GO P nt (.ops all []::k) Q s:=fun _ _ _ _ b=>wpList_nil (mz.now b h)
theorem Fits.bool{M:Mem}{N:Nm}{a:Act}{w:World}(hf:Fits M N s nt a w){c:Operand}{t:Bool}(hc:ev s.f c= .iv (.v (.bool t))):a.eval c= .bool t:=by
 have h:=aO hf.2.1 c;rw[hc]at h;generalize a.eval c=v at h;cases h with
 |iv _ _ h=>cases h with
  |v=>rfl
theorem Fits.put{M:Mem}{N:Nm}{a:Act}{w:World}(hf:Fits M N s nt a w)(d:Nat)(p:PV)(x:Value)(hd:d<nt)(hp:VR M N (· <s.nx) p x):Fits M N {s with f:=(d,p)::s.f} nt (a.put (io d) x) w:=
 ⟨hf.1,hf.2.1.put d p x (by rw[hf.2.2.2];exact hd) hp,hf.2.2.1,by simp[Act.put,hf.2.2.2]⟩
def setBool(s:AS)(c:Operand)(t:Bool):AS:=
 match c with
 | .tmp d=>match s with
  |⟨f,h,n⟩=>⟨(d,.kb t)::f,h,n⟩
 |_=>s
theorem Fits.setBool{M:Mem}{N:Nm}{a:Act}{w:World}(hf:Fits M N s nt a w){c:Operand}{t:Bool}(hc:ev s.f c= .iv (.v (.bool t))):Fits M N (setBool s c t) nt a w:=by
 cases c with
 |tmp d=>
  refine⟨hf.1,fun j=>?_,hf.2.2⟩;simp only[Al.setBool,AF.ay];split
  .rename_i b;subst b;have:=hf.bool (c:= .tmp j) hc;simp only[Act.eval]at this;rw[this];exact .kb _
  .exact hf.2.1 j
 |_=>exact hf
theorem uk{c:Operand}{x y:Code}{t:Bool}(hc:ev s.f c= .kb t)(h:GO P nt (.code (bif t then x else y)::k) Q s):GO P nt (.code (.cond c x y)::k) Q s:=by
 intro M N a w b;have hb:a.eval c= .bool t:=by
  have:=aO b.2.1 c;rw[hc]at this;generalize a.eval c=v at this;cases this;rfl
 refine wp_cond hb ?_;cases t
 .exact h M N a w b
 .exact h M N a w b
theorem Jq{c:Operand}{x y:Code}{t:Bool}(hc:ev s.f c= .iv (.v (.bool t)))(h1:t=kw->GO P nt (.code x::k) Q (setBool s c kw))(J:t=lc->GO P nt (.code y::k) Q (setBool s c lc)):
  GO P nt (.code (.cond c x y)::k) Q s:=by
 intro M N a w I;have u:=I.setBool hc;refine wp_cond_split (I.bool hc) (fun F=>?_) (fun F=>?_)
 .subst F;exact AW.then (h1 D) u fun e a2 S A B G j b d=>⟨A,B,G,by cases c<;>exact j,b,d⟩
 .subst F;exact AW.then (J D) u fun e a2 S A B G j b d=>⟨A,B,G,by cases c<;>exact j,b,d⟩
theorem p9{Q b:Exit->Act->World->Prop}(d: ∀e a w,Q e a w->b e a w)(h:LetsOut Q):LetsOut b:=let ⟨a,w,x⟩:=h;⟨a,w,d _ _ _ x⟩
theorem y4{o:Oper}{a:Act}{w:World}{K K':Act->World->Prop}{Q j:Exit->Act->World->Prop}(h: ∀a w,K a w->K' a w)(d: ∀e a w,Q e a w->j e a w)(hh:o.wp P a w K Q):o.wp P a w K' j:=by
 unfold Oper.wp at*
 generalize(execOp a.eval o).run P w=r at*
 cases r with
 |ok n w'=>
  cases n<;>simp only[Oper.upon]at hh ⊢ <;>
   first
    |exact h _ _ hh
    |exact Calls.mono hh (fun e u b=>by cases e<;>first|exact h _ _ b|exact p9 d b|exact d _ _ _ b)
    |exact Rows.mono hh (fun _ _ b=>h _ _ b)
 |halt x w'=>cases x<;>simp only[Oper.upon]at hh ⊢ <;>exact d _ _ _ hh
theorem eO{ops:Array Oper}{Q j:Exit->Act->World->Prop}(b: ∀e a w,Q e a w->j e a w): ∀(l:List Oper) (a:Act) (w:World),wpList P ops Q l a w->wpList P ops j l a w
 | [],_,_,h=>b _ _ _ h
 |o::r,a,w,h=>by
  unfold wpList at*
  split
  .rename_i d;rw[am d]at h;exact h.imp (y4 (eO b r) b) (fun⟨h1,h2⟩=>⟨h1,p9 b h2⟩)
  .rename_i d;rw[be d]at h;exact eO b r _ _ h
theorem AL.later{all rest:List Oper}(h:AL P nt all rest Q s){M b:Mem}{N d:Nm}{s0:AS}{a:Act}{w j:World}(x:Ext b d (· <s0.nx) s0.h j M N (· <s.nx) s.h w)(hf:Fits M N s nt a w):
  wpList P all.toArray (mz nt b d s0 j Q) rest a w:=
 eO (fun _ _ _=>mz.later x) rest a w (h M N a w hf)
def OT(P:Program)(nt:Nat)(o:Oper)(s:AS)(R:AS->Prop):Prop:=
 ∀M N a w,Fits M N s nt a w-> ∀(K:Act->World->Prop) (Q:Exit->Act->World->Prop),
  (∀d j s' u b,Ext M N (· <s.nx) s.h w d j (· <s'.nx) s'.h b->Fits d j s' nt u b->R s'->K u b)->o.wp P a w K Q
theorem gh{o:Oper}(h:o.guard=jp)(y:Nat->Option Bool):Region.wanted o y=kw:=by simp[Region.wanted,h]
theorem dp{all rest:List Oper}{o:Oper}{R:AS->Prop}(hg:o.guard=jp)(ho:OT P nt o s R)(h: ∀s',R s'->GO P nt (.ops all rest::k) Q s'):GO P nt (.ops all (o::rest)::k) Q s:=by
 intro M N a w d;unfold wpList;rw[am (gh hg _)];refine .inl (ho M N a w d _ _ fun x y s' A B u b j=>?_);exact AL.later (h s' j) u b
def guardOf(all:List Oper)(f:AF)(j:Nat):Option (Nat×PV):=
 match all[j]? with
 |some o=>match o.dst with
  |some d=>io (d,f.get d)
  |none=>jp
 |none=>jp
theorem Fits.yielded{M:Mem}{N:Nm}{a:Act}{w:World}(hf:Fits M N s nt a w){all:List Oper}{j d:Nat}{t:Bool}(hg:guardOf all s.f j=io (d,.iv (.v (.bool t))))(hd:d<nt):Go.yielded all.toArray a.tmps j=io t:=by
 unfold guardOf at hg;cases ho:all[j]? with
 |none=>simp[ho]at hg
 |some o=>
  cases hod:o.dst with
  |none=>simp[ho,hod]at hg
  |some d'=>
   simp only[ho,hod,Qu,QI]at hg;obtain⟨rfl,B⟩:=hg;have b:=hf.2.1 d';rw[B]at b;have u:d'<a.tmps.size:=by rw[hf.2.2.2];exact hd
   have x:a.tmps[d']? =io (a.tmps.getD d' undef):=by simp[Qt,u]
   have y:a.tmps.getD d' undef= .bool t:=by
    generalize a.tmps.getD d' undef=v at b;cases b with
    |iv _ _ h=>cases h with
     |v=>rfl
   have A:all.toArray[j]? =io o:=by simpa using ho
   simp[Go.yielded,A,hod,x,y]
def fD(o:Oper)(s:AS):AS:=
 match o.dst with
 |some e=>match s with
  |⟨f,h,n⟩=>⟨(e,.iv (.v (.tuple #[])))::f,h,n⟩
 |none=>s
theorem Fits.skip{M:Mem}{N:Nm}{a:Act}{w:World}(hf:Fits M N s nt a w)(o:Oper):Fits M N (fD o s) nt (a.put o.dst undef) w:=by
 unfold fD;cases o.dst with
 |none=>exact hf
 |some e=>
  refine⟨hf.1,fun i=>?_,hf.2.2.1,by simp[Act.put,hf.2.2.2]⟩;simp only[AF.ay];by_cases b:i=e
  .rw[am b];subst b;have:(a.put (io i) undef).tmps.getD i undef=undef:=by
    simp only[Act.put,Qt,Rj,if_true];split<;>rfl
   rw[this];exact .iv _ _ (.v _)
  .rw[be b];have:=hf.2.1 i;simp only[Act.put,Qt,Rj]at this ⊢;rw[be (fun e=>b e.symm)];exact this
theorem gi(o:Oper)(s:AS):(fD o s).h=s.h∧(fD o s).nx=s.nx:=by unfold fD;cases o.dst<;>exact⟨rfl,rfl⟩
theorem iX(c:Operand)(t:Bool)(s:AS):(setBool s c t).h=s.h∧(setBool s c t).nx=s.nx:=by cases c<;>exact⟨rfl,rfl⟩
theorem AL.same{all rest:List Oper}{s':AS}(h:AL P nt all rest Q s')(e:s'.h=s.h∧s'.nx=s.nx){M:Mem}{N:Nm}{a:Act}{w:World}(hf:Fits M N s' nt a w):
  wpList P all.toArray (mz nt M N s w Q) rest a w:=by
 have:=h M N a w hf;refine eO (fun d b j ⟨M2,N2,s2,h1,h2,h3⟩=>⟨M2,N2,s2,?_,h2,h3⟩) rest a w this;rw[e.1,e.2]at h1;exact h1
theorem Fits.s6{M:Mem}{N:Nm}{a:Act}{w:World}(hf:Fits M N s nt a w){all:List Oper}{j d:Nat}{t:Bool}(hg:guardOf all s.f j=io (d,.kb t))(hd:d<nt):Go.yielded all.toArray a.tmps j=io t:=by
 unfold guardOf at hg;cases ho:all[j]? with
 |none=>simp[ho]at hg
 |some o=>
  cases hod:o.dst with
  |none=>simp[ho,hod]at hg
  |some d'=>
   simp only[ho,hod,Qu,QI]at hg;obtain⟨rfl,B⟩:=hg;have b:=hf.2.1 d';rw[B]at b;have u:d'<a.tmps.size:=by rw[hf.2.2.2];exact hd
   have x:a.tmps[d']? =io (a.tmps.getD d' undef):=by simp[Qt,u]
   have y:a.tmps.getD d' undef= .bool t:=by
    generalize a.tmps.getD d' undef=v at b;cases b;rfl
   have A:all.toArray[j]? =io o:=by simpa using ho
   simp[Go.yielded,A,hod,x,y]
theorem Fits.s5{M:Mem}{N:Nm}{a:Act}{w:World}(hf:Fits M N s nt a w){all:List Oper}{j d:Nat}{vs:Array Value}(hg:guardOf all s.f j=io (d,.iv (.v (.tuple vs)))):Go.yielded all.toArray a.tmps j=jp:=by
 unfold guardOf at hg;cases ho:all[j]? with
 |none=>simp[ho]at hg
 |some o=>
  cases hod:o.dst with
  |none=>simp[ho,hod]at hg
  |some d'=>
   simp only[ho,hod,Qu,QI]at hg;obtain⟨rfl,y⟩:=hg;have u:=hf.2.1 d';rw[y]at u;have b:a.tmps.getD d' undef= .tuple vs:=by
    generalize a.tmps.getD d' undef=v at u;cases u with
    |iv _ _ h=>cases h with
     |v=>rfl
   have x:all.toArray[j]? =io o:=by simpa using ho
   rw[Qt]at b;cases h5:a.tmps[d']? with
   |none=>simp[Go.yielded,x,hod,h5]
   |some v=>
    rw[h5]at b;simp only[R2]at b;subst b;simp[Go.yielded,x,hod,h5]
theorem zs{all rest:List Oper}{o:Oper}{j d:Nat}{b:Bool}{vs:Array Value}(hg:o.guard=io (j,b))(A:guardOf all s.f j=io (d,.iv (.v (.tuple vs))))(h:GO P nt (.ops all rest::k) Q (fD o s)):GO P nt (.ops all (o::rest)::k) Q s:=by
 intro M N a w x;have u:=x.s5 A;unfold wpList;have y:Region.wanted o (Go.yielded all.toArray a.tmps)=lc:=by simp[Region.wanted,hg,u]
 rw[y,be (by simp)];exact AL.same (s:=s) h (gi _ _) (x.skip o)
theorem zt{all rest:List Oper}{o:Oper}{j d:Nat}{b t:Bool}(hg:o.guard=io (j,b))(B:guardOf all s.f j=io (d,.kb t))(hd:d<nt)
  (h:GO P nt (.ops all (bif t==b then{o with guard:=jp}::rest else rest)::k) Q (bif t==b then s else fD o s)):GO P nt (.ops all (o::rest)::k) Q s:=by
 intro M N a w y;have u:=y.s6 B hd;unfold wpList;by_cases x:t=b
 .have A:Region.wanted o (Go.yielded all.toArray a.tmps)=kw:=by simp[Region.wanted,hg,u,x]
  have hb:(t==b)=kw:=by simp[x]
  rw[am A];rw[hb]at h;have:=h M N a w y;simp only[cond_true]at this;unfold wpList at this;rw[am (gh D _)]at this;exact this
 .have A:Region.wanted o (Go.yielded all.toArray a.tmps)=lc:=by simp[Region.wanted,hg,u,x]
  have hb:(t==b)=lc:=by simp[x]
  rw[A,be (by simp)];rw[hb]at h;exact AL.same (s:=s) h (gi _ _) (y.skip o)
theorem F6{all rest:List Oper}{o:Oper}{j d:Nat}{b t:Bool}(hg:o.guard=io (j,b))(x:guardOf all s.f j=io (d,.iv (.v (.bool t))))(hd:d<nt)
  (h1:t=b->GO P nt (.ops all ({o with guard:=jp}::rest)::k) Q (setBool s (.tmp d) b)) (J:t=!b->GO P nt (.ops all rest::k) Q (fD o (setBool s (.tmp d) (!b)))):
  GO P nt (.ops all (o::rest)::k) Q s:=by
 intro M N a w I;have A:=I.yielded x hd;have F:ev s.f (.tmp d)= .iv (.v (.bool t)):=by
  unfold guardOf at x;cases ho:all[j]? with
  |none=>simp[ho]at x
  |some o'=>
   cases hod:o'.dst with
   |none=>simp[ho,hod]at x
   |some d'=>
    simp only[ho,hod,Qu,QI]at x;obtain⟨rfl,S⟩:=x;exact S
 have u:=I.setBool F;unfold wpList;by_cases B:t=b
 .have G:Region.wanted o (Go.yielded all.toArray a.tmps)=kw:=by simp[Region.wanted,hg,A,B]
  rw[am G];rw[B]at u;have:=AL.same (s:=s) (h1 B) (iX _ _ _) u;unfold wpList at this;rw[am (gh D _)]at this;exact this
 .have G:Region.wanted o (Go.yielded all.toArray a.tmps)=lc:=by simp[Region.wanted,hg,A,B]
  have y:t=!b:=by cases t<;>cases b<;>simp_all
  rw[G,be (by simp)];rw[y]at u;exact AL.same (s:=s) (J y) ⟨(gi _ _).1.trans (iX _ _ _).1,(gi _ _).2.trans (iX _ _ _).2⟩ (u.skip o)
end
section
variable {P:Program} {nt:Nat} {Q:AQ} {k:List KI} {s:AS}
theorem Rel.drew{M:Mem}{N:Nm}{U:Nat->Prop}{h:AH}{w:World}(hr:Rel M N U h w):Rel M N U h {w with drawn:=w.drawn+1}:=
 ⟨hr.dT,hr.used,hr.dW,fun i o b=>(hr.obj i o b).mono (.refl _) (.refl _ _) (fun _ h=>h) (hr.used i o b) D,hr.inj⟩
theorem Fits.drew{M:Mem}{N:Nm}{a:Act}{w:World}(hf:Fits M N s nt a w):Fits M N s nt a {w with drawn:=w.drawn+1}:=⟨hf.1.drew,hf.2⟩
theorem Ext.drew{M:Mem}{N:Nm}{U:Nat->Prop}{h:AH}{w:World}:Ext M N U h w M N U h {w with drawn:=w.drawn+1}:=
 ⟨rfl,rfl,rfl,QH _,fun _ _ _=>rfl,.refl _,fun b c j u=>by simp[j]at u,.refl _ _,fun _ h=>h,fun i o x d=> .inr ⟨i,o,x,d,rfl⟩⟩
end
section
variable {P:Program} {M:Mem} {N:Nm} {w:World} {n:Nat} {h:AH}
def Nm.with(N:Nm)(n b e:Nat):Nm:={aB:=fun i=>if i=n then b else N.aB i,ext:=fun i=>if i=n then e else N.ext i}
theorem Nm.eP(N:Nm)(n b e:Nat):N.agree (N.with n b e) (· <n):=
 ⟨fun i d=>by simp[Nm.with,TJ d],fun i d=>by simp[Nm.with,TJ d]⟩
@[simp] theorem Nm.Eo(N:Nm)(n b e:Nat):(N.with n b e).aB n=b:=by simp[Nm.with]
@[simp] theorem Nm.Nw(N:Nm)(n b e:Nat):(N.with n b e).ext n=e:=by simp[Nm.with]
theorem Rel.lt(hr:Rel M N (· <n) h w){i:Nat}{o:AO}(hi:h.get i=io o)(b:o.real=kw):N.aB i<w.heap.size:=(hr.obj i o hi).lt b
theorem Rel.y9(hr:Rel M N (· <n) h w):M w.heap.size=jp:=by
 cases hm:M w.heap.size with
 |none=>rfl
 |some c=>have:=(hr.dT _ _ hm).lt;omega
theorem Rel.alloc(hr:Rel M N (· <n) h w)(obj:Obj)(o:AO)(e:Nat)(ho: ∀F,F.aB n=w.heap.size->F.ext n=e->N.agree F (· <n)->OR M F (· <n+1) (w.alloc obj) n o):
  ∃F,F.aB n=w.heap.size∧F.ext n=e∧N.agree F (· <n)∧Ext M N (· <n) h w M F (· <n+1) ((n,io o)::h) (w.alloc obj)∧Rel M F (· <n+1) ((n,io o)::h) (w.alloc obj):=by
 have G:=N.eP n w.heap.size e;have d: ∀i p,AH.get ((n,io o)::h) i=io p->(i=n∧p=o)∨(i<n∧h.get i=io p):=by
  intro i p u;rw[AH.ay]at u;split at u
  .rename_i I;exact .inl ⟨I,by simpa using u.symm⟩
  .exact .inr ⟨hr.used i p u,u⟩
 refine⟨N.with n w.heap.size e,by simp,by simp,G,?_,?_⟩
 .refine⟨rfl,rfl,rfl,by simp,fun b hb _=>yc w obj b hb,.refl _,fun b c B A=>by simp[B]at A,G,fun i u=>by omega,fun i p u x=>?_⟩;rcases d i p u with⟨rfl,rfl⟩|⟨B,A⟩
  .exact .inl (by simp)
  .exact .inr ⟨i,p,A,x,(G.aB i B).symm⟩
 .refine⟨fun b c hb=>?_,fun i p u=>?_,fun i p u x=>?_,fun i p u=>?_,fun i j p q u hj Y Z y=>?_⟩
  .exact(hr.dT b c hb).mono (yc w obj b (hr.dT b c hb).lt)
  .rcases d i p u with⟨rfl,rfl⟩|⟨B,A⟩<;>omega
  .rcases d i p u with⟨rfl,rfl⟩|⟨B,A⟩
   .simpa using hr.y9
   .rw[G.aB i B];exact hr.dW i p A x
  .rcases d i p u with⟨rfl,rfl⟩|⟨B,A⟩
   .exact ho _ (by simp) (by simp) G
   .cases x:p.real with
    |true=>exact(hr.obj i p A).mono (.refl _) G (fun i u=>by omega) B (yc w obj _ (hr.lt A x))
    |false=>
     cases p with
     |row sz es=>cases es with
      |nil=>exact .inl D
      |cons=>cases x
     |bu l T=>cases l with
      |nil=>exact .inl D
      |cons=>cases x
     |_=>cases x
  .rcases d i p u with⟨rfl,rfl⟩|⟨B,A⟩<;>rcases d j q hj with⟨rfl,rfl⟩|⟨J,S⟩
   .rfl
   .rw[G.aB j J]at y;simp at y;have:=hr.lt S Z;omega
   .rw[G.aB i B]at y;simp at y;have:=hr.lt A Y;omega
   .rw[G.aB i B,G.aB j J]at y;exact hr.inj i j p q A S Y Z y
theorem Rel.Ho(hr:Rel M N (· <n) h w)(sz:Nat):Ext M N (· <n) h w M N (· <n+1) ((n,io (.row sz []))::h) w∧Rel M N (· <n+1) ((n,io (.row sz []))::h) w:=by
 have d: ∀i p,AH.get ((n,io (.row sz []))::h) i=io p->(i=n∧p= .row sz [])∨(i<n∧h.get i=io p):=by
  intro i p u;rw[AH.ay]at u;split at u
  .rename_i F;exact .inl ⟨F,by simpa using u.symm⟩
  .exact .inr ⟨hr.used i p u,u⟩
 refine⟨⟨rfl,rfl,rfl,QH _,fun _ _ _=>rfl,.refl _,fun b c A y=>by simp[A]at y,.refl _ _,fun i u=>by omega,fun i p u x=>?_⟩,⟨hr.dT,fun i p u=>?_,fun i p u x=>?_,fun i p u=>?_,fun i j p q u S G I B=>?_⟩⟩
 .rcases d i p u with⟨rfl,rfl⟩|⟨A,y⟩
  .cases x
  .exact .inr ⟨i,p,y,x,rfl⟩
 .rcases d i p u with⟨rfl,rfl⟩|⟨A,y⟩<;>omega
 .rcases d i p u with⟨rfl,rfl⟩|⟨A,y⟩
  .cases x
  .exact hr.dW i p y x
 .rcases d i p u with⟨rfl,rfl⟩|⟨A,y⟩
  .exact .inl D
  .exact(hr.obj i p y).mono (.refl _) (.refl _ _) (fun i u=>by omega) A D
 .rcases d i p u with⟨rfl,rfl⟩|⟨A,y⟩<;>rcases d j q S with⟨rfl,rfl⟩|⟨Y,J⟩
  .rfl
  .cases G
  .cases I
  .exact hr.inj i j p q y J G I B
theorem Rel.write(hr:Rel M N (· <n) h w){i:Nat}{o0:AO}(hi:h.get i=io o0)(h0:o0.real=kw)(A:World)(o:AO)(a0:A.os=w.os)(I:A.tape=w.tape)(J:A.output=w.output)(b0:A.heap.size=w.heap.size)
  (S: ∀b,b≠N.aB i->A.heap[b]? =w.heap[b]?) (ho:OR M N (· <n) A i o):
  Ext M N (· <n) h w M N (· <n) ((i,io o)::h) A∧Rel M N (· <n) ((i,io o)::h) A:=by
 have d: ∀j p,AH.get ((i,io o)::h) j=io p->(j=i∧p=o)∨(j≠i∧h.get j=io p):=by
  intro j p y;rw[AH.ay]at y;split at y
  .rename_i F;exact .inl ⟨F,by simpa using y.symm⟩
  .rename_i F;exact .inr ⟨F,y⟩
 refine⟨⟨a0,I,J,by omega,fun b hb hn=>S b (fun e=>hn i o0 hi h0 e.symm),.refl _,fun b c B x=>by simp[B]at x,.refl _ _,fun _ h=>h,fun j p y u=>?_⟩,?_⟩
 .rcases d j p y with⟨rfl,rfl⟩|⟨B,x⟩
  .exact .inr ⟨j,o0,hi,h0,rfl⟩
  .exact .inr ⟨j,p,x,u,rfl⟩
 .refine⟨fun b c hb=>?_,fun j p y=>?_,fun j p y u=>?_,fun j p y=>?_,fun j k p q y Y hp hq G=>?_⟩
  .have Z:b≠N.aB i:=fun e=>by
    have:=hr.dW i o0 hi h0;rw[<-e,hb]at this;simp at this
   exact(hr.dT b c hb).mono (S b Z)
  .rcases d j p y with⟨rfl,rfl⟩|⟨B,x⟩
   .exact hr.used j o0 hi
   .exact hr.used j p x
  .rcases d j p y with⟨rfl,rfl⟩|⟨B,x⟩
   .exact hr.dW j o0 hi h0
   .exact hr.dW j p x u
  .rcases d j p y with⟨rfl,rfl⟩|⟨B,x⟩
   .exact ho
   .cases u:p.real with
    |true=>exact(hr.obj j p x).mono (.refl _) (.refl _ _) (fun _ h=>h) (hr.used j p x) (S _ (fun e=>B (hr.inj j i p o0 x hi u h0 e)))
    |false=>
     cases p with
     |row sz es=>cases es with
      |nil=>exact .inl D
      |cons=>cases u
     |bu l T=>cases l with
      |nil=>exact .inl D
      |cons=>cases u
     |_=>cases u
  .rcases d j p y with⟨rfl,rfl⟩|⟨B,x⟩<;>rcases d k q Y with⟨rfl,rfl⟩|⟨h3,h4⟩
   .rfl
   .exact hr.inj _ _ _ _ hi h4 h0 hq G
   .exact hr.inj _ _ _ _ x hi hp h0 G
   .exact hr.inj _ _ _ _ x h4 hp hq G
end
def AD(ty:Ty)(s:AS)(t:TypeId)(p x:PV):Option AS:=
 match ty t with
 |some e=>match x.cells with
  |some xs=>match Q6 xs.length e.size,gd xs with
   |true,kw=>match p with
    | .ptr i off=>match s.h.get i with
     |some (.cells cs T0)=>match SE (off+xs.length) cs.length with
      |true=>match s with
       |⟨f,h,n⟩=>force (setCells cs off xs) fun b=>io ⟨f,(i,io (.cells b T0))::h,n⟩
      |false=>jp
     |_=>jp
    |_=>jp
   |_,_=>jp
  |none=>jp
 |none=>jp
def newObj(s:AS)(o:AO):AS:=match s with|⟨f,h,n⟩=>⟨f,(n,io o)::h,n+1⟩
def nw(s:AS)(g:Nat->PV)(o:AO):Option (PV×AS):=match s with|⟨f,h,n⟩=>io (g n,⟨f,(n,io o)::h,n+1⟩)
theorem tQ(s:AS)(g:Nat->PV)(o:AO):nw s g o=io (g s.nx,newObj s o):=by cases s;rfl
def xf:Nat->List PV->List PV
 |0,_=> []
 |n+1,l=>l++xf n l
theorem kf: ∀(n:Nat) (l:List PV),(xf n l).length=n*l.length
 |0,l=>by simp[xf]
 |n+1,l=>by simp[xf,kf n l,SQ,Nat.add_comm]
theorem yN: ∀(n:Nat) (l:List PV) (j:Nat) (p:PV),(xf n l)[j]? =io p->l[j % l.length]? =io p
 |0,l,j,p,h=>by simp[xf]at h
 |n+1,l,j,p,h=>by
  simp only[xf]at h;rcases RN j l.length with hj|hj
  .rw[QQ hj]at h;rw[Nat.mod_eq_of_lt hj];exact h
  .rw[QX hj]at h;have:=yN n l _ p h;rwa[Nat.mod_eq_sub_mod hj]
def ma(sz:Nat):Nat->List PV->List (List PV)
 |0,_=> []
 |n+1,cs=>cs.take sz::ma sz n (cs.drop sz)
def xU{α:Type _}(sz:Nat):Nat->List PV->(List (List PV)->α)->α
 |0,_,k=>k []
 |n+1,cs,k=>force (cs.take sz) fun c=>force (cs.drop sz) fun d=>xU sz n d fun r=>k (c::r)
theorem wy{α:Type _}(sz:Nat): ∀(n:Nat) (cs:List PV) (k:List (List PV)->α),xU sz n cs k=k (ma sz n cs)
 |0,_,_=>rfl
 |n+1,cs,k=>by simp only[xU,force_eq,wy sz n,ma]
theorem oI(sz:Nat): ∀(n:Nat) (cs:List PV),(ma sz n cs).length=n
 |0,_=>rfl
 |n+1,cs=>by simp[ma,oI sz n]
theorem l9(sz:Nat): ∀(n:Nat) (cs:List PV) (k:Nat) (e:List PV),cs.length=n*sz->(ma sz n cs)[k]? =io e->e.length=sz∧ ∀j,j<sz->e[j]? =cs[k*sz+j]?
 |0,cs,k,e,_,h=>by simp[ma]at h
 |n+1,cs,k,e,hl,h=>by
  simp only[ma]at h;rw[SQ]at hl;cases k with
  |zero=>
   simp at h;subst h;refine⟨by simp;omega,fun j b=>by simp[b]⟩
  |succ k=>
   obtain⟨d,u⟩:=l9 sz n (cs.drop sz) k e (by simp;omega) (by simpa using h);refine⟨d,fun j b=>?_⟩;rw[u j b,RQ,SQ];congr 1;omega
def K8(ty:Ty)(e:b7):Bool:=
 match e.k with
 | .df ((0,u)::_)=>match ty u with
  |some ⟨.df ((0,q)::_),_,_,_,_⟩=>match ty q with
   |some ⟨.aT (.pointer v),_,_,_,_⟩=>Q6 u v
   |_=>lc
  |_=>lc
 |_=>lc
def Ob(ty:Ty)(t:TypeId):Bool:=
 match ty t with
 |some e=>K8 ty e
 |none=>lc
def Ek(ty:Ty)(s:AS):Op->Option (PV×AS)
 | .alloc t=>match ty t with
  |some e=>match K8 ty e with
   |true=>force (ch e.zero) fun b=>nw s (fun n=> .ptr n 0) (.cells b (io t))
   |false=>force (ch e.zero) fun b=>nw s (fun n=> .ptr n 0) (.cells b)
  |none=>jp
 | .box t x=>match(ev s.f x).cells with
  |some b=>match gd b with
   |true=>match Ob ty t with
    |true=>force b fun d=>nw s (fun n=> .ptr n 0) (.cells d (io t))
    |false=>force b fun d=>nw s (fun n=> .ptr n 0) (.cells d)
   |false=>jp
  |none=>jp
 | .store t a x=>match AD ty s t (ev s.f a) (ev s.f x) with
  |some s'=>io (.any,s')
  |none=>jp
 | .makeMap _ jp=>nw s (fun n=> .mp n) .fg
 | .makeMap t (io r)=>match ev s.f r,ty t with
  | .iv (.v (.int _ _)),io ⟨.aT (.map _ _),_,_,_,_⟩=>nw s (fun n=> .mp n) .fg
  |_,_=>jp
 | .range t x=>match ev s.f x,ty t with
  | .iv (.du kc e _ _ m),io ⟨.aT (.map _ _),_,_,_,_⟩=>nw s (fun n=> .ptr n 0) (.bQ kc e m [] jp)
  |_,_=>jp
 | .buildSlice t len parts=>match ty t with
  |some e=>match e.k with
   | .aT (.slice u)=>match ty u with
    |some eu=>match Q6 eu.zero.cells.size eu.size,QZ 0 (len*eu.size),SE (len*eu.size) 16777216 with
     |true,kw,kw=>match oG (fun i=>io (i*eu.size,eu.size)) (xf len (ch eu.zero)) (parts.toList.map fun x=>(x.1,ev s.f x.2)) with
      |some b=>xU eu.size len b fun es=>nw s (fun n=> .sl n 0 len eu.size) (.row eu.size es)
      |none=>jp
     |_,_,_=>jp
    |none=>jp
   |_=>jp
  |none=>jp
 |_=>jp
section
variable {P:Program} {ty:Ty} {nt:Nat} {s:AS}
theorem dG{M:Mem}{N:Nm}{a:Act}{w:World}(hf:Fits M N s nt a w){obj:Obj}{o:AO}{b:Nm}(d:Ext M N (· <s.nx) s.h w M b (· <s.nx+1) ((s.nx,io o)::s.h) (w.alloc obj))
  (hr:Rel M b (· <s.nx+1) ((s.nx,io o)::s.h) (w.alloc obj)):Fits M b (newObj s o) nt a (w.alloc obj):=
 ⟨hr,hf.2.1.ext d,hf.2.2⟩
theorem OT.value{o:Oper}{s1 s':AS}{p:PV}(hp:putDst nt o p s1=io s')
  (h: ∀M N a w,Fits M N s nt a w-> ∃x u b j,(execOp a.eval o).run P w= .ok (.value x) u∧Ext M N (· <s.nx) s.h w b j (· <s1.nx) s1.h u∧Fits b j s1 nt a u∧VR b j (· <s1.nx) p x):OT P nt o s (fun t=>t=s'):=by
 intro M N a w G K Z B;obtain⟨x,u,b,j,J,A,y,I⟩:=h M N a w G;unfold Oper.wp;rw[J];simp only[Oper.upon];cases hd:o.dst with
 |none=>
  have:=eZ hp hd;subst this;exact B b j s' _ u A y D
 |some d=>
  obtain⟨F,rfl⟩:=eY hp hd;exact B b j {s1 with f:=(d,p)::s1.f} _ u A (y.put d p x F I) D
theorem OT.skip{o:Oper}{s1 s':AS}(hp:putDst nt o .any s1=io s')
  (h: ∀M N a w,Fits M N s nt a w-> ∃b j u,(execOp a.eval o).run P w= .ok .skip b∧Ext M N (· <s.nx) s.h w j u (· <s1.nx) s1.h b∧Fits j u s1 nt a b):OT P nt o s (fun t=>t=s'):=by
 intro M N a w F K Z A;obtain⟨b,j,u,G,y,x⟩:=h M N a w F;unfold Oper.wp;rw[G];simp only[Oper.upon];cases hd:o.dst with
 |none=>
  have:=eZ hp hd;subst this;exact A j u s' _ b y x D
 |some d=>
  obtain⟨B,rfl⟩:=eY hp hd;exact A j u {s1 with f:=(d,.any)::s1.f} _ b y (x.put d .any undef B (.any _)) D
theorem Dh(f0:bT P ty){t:TypeId}{p x:PV}{s1:AS}(h:AD ty s t p x=io s1){M:Mem}{N:Nm}{a:Act}{w:World}(hf:Fits M N s nt a w){u y:Value}(hu:VR M N (· <s.nx) p u)(hy:VR M N (· <s.nx) x y):
  ∃w',(Instr.storeAt t u y).run P w= .ok () w'∧Ext M N (· <s.nx) s.h w M N (· <s1.nx) s1.h w'∧Fits M N s1 nt a w':=by
 unfold AD at h;split at h
 .rename_i e he;split at h
  .rename_i B i0;split at h
   .rename_i h1 h2;split at h
    .rename_i i a0;split at h
     .rename_i cs T0 d;split at h
      .rename_i c0;obtain⟨sf,sh,sn⟩:=s;simp only[force_eq,Qu]at h;subst h;simp only at d;cases hu with
       |ptr _ _ hU=>
        obtain⟨hl,hv⟩:=qs hy i0;have e0:y.cells.size=e.size:=by rw[<-hl];exact QS h1
        obtain⟨c,T,g1,g2,g3,g4,g5⟩:=hf.1.obj i _ d;have d0:a0+B.length<=c.size:=by rw[<-g3];exact Qs c0
        have J: ∀v∈y.cells.toList,v.oneCell'=kw:=by
         intro v g0;obtain⟨j,hj⟩:=RE g0;have F:j<y.cells.toList.length:=(Qw.1 hj).1;have G:B[j]? =io (B[j]'(by simp at F;omega)):=Qy _;have:=(hv j _ G).one (lD h2 j _ G);rw[Qt]at this;have b0:y.cells[j]? =io v:=by simpa using hj
         rw[b0]at this;exact this
        have Y:=run_storeCells_at P (N.aB i) a0 T y.cells.toList 0 c w g1 (by simp;omega) J;refine⟨w.setRow (N.aB i) (c.toList.take (a0+0)++y.cells.toList++c.toList.drop (a0+0+y.cells.toList.length)).toArray,?_,?_⟩
        .have A:=bC (w:=w) (f0 t e he);simp only[Instr.storeAt,Instr.sureAddr,pure_bind,storeVar,Sem.run_bind,A,Result.andThen_ok,e0,ne_eq,not_true_eq_false,if_false,Y]
        .have S:=setRow_heap w (N.aB i) c (c.toList.take (a0+0)++y.cells.toList++c.toList.drop (a0+0+y.cells.toList.length)).toArray T (0,0) g1;have I: ∀b,b≠N.aB i->(w.setRow (N.aB i) (c.toList.take (a0+0)++y.cells.toList++c.toList.drop (a0+0+y.cells.toList.length)).toArray).heap[b]? =w.heap[b]? :=by
          intro b hb;simp only[World.setRow,Ru];rw[be (fun e=>hb e.symm)]
         have:=hf.1.write d D (w.setRow (N.aB i) (c.toList.take (a0+0)++y.cells.toList++c.toList.drop (a0+0+y.cells.toList.length)).toArray) (.cells (setCells cs a0 B) T0) D D D (by simp) I
          ⟨_,T,S,by simp;omega,by rw[eA];simp;omega,fun j q hq=>?_,g5⟩
         .exact⟨this.1,this.2,hf.2.1,hf.2.2⟩
         .rcases iW cs a0 B j q hq with⟨k1,Z⟩|⟨k1,Z⟩
          .have:=hv _ _ Z;have F:j-a0<B.length:=(Qw.1 Z).1;rw[Qt]at this ⊢;have e1:(c.toList.take (a0+0)++y.cells.toList++c.toList.drop (a0+0+y.cells.toList.length)).toArray[j]? =y.cells[j-a0]? :=by
            simp only[RU];rw[QQ (by simp;omega),QX (by simp;omega)];simp only[RW,Array.length_toList,RI];congr 1;omega
           rw[e1];exact this
          .have:=g4 _ _ Z;rw[Qt]at this ⊢;have e1:(c.toList.take (a0+0)++y.cells.toList++c.toList.drop (a0+0+y.cells.toList.length)).toArray[j]? =c[j]? :=by
            simp only[RU];rcases k1 with k1|k1
            .rw[QU,QQ (by simp;omega),Rt,am (by omega),RI]
            .rw[QX (by simp;omega),RQ,RI];congr 1;simp;omega
           rw[e1];exact this
      .cases h
     .cases h
    .cases h
   .cases h
  .cases h
 .cases h
theorem A7(G:bT P ty){o:Oper}{p:PV}{s1 s':AS}(h:Ek ty s o.op=io (p,s1))(hp:putDst nt o p s1=io s'):OT P nt o s (fun t=>t=s'):=by
 cases ho:o.op with
 |alloc t=>
  rw[ho]at h;simp only[Ek,tQ]at h;split at h
  .rename_i e he;obtain⟨Y,f0,h⟩: ∃Y,yr Y t∧io (PV.ptr s.nx 0,newObj s (.cells (ch e.zero) Y))=io (p,s1):=by
    split at h
    .exact⟨io t,fun x S=>by cases S;rfl,by rw[<-h,force_eq]⟩
    .exact⟨jp,.none _,by rw[<-h,force_eq]⟩
   simp only[Qu,QI]at h;obtain⟨rfl,rfl⟩:=h;refine OT.value hp fun M N a w B=>?_
   obtain⟨A,I,h2,h3,F,J⟩:=B.1.alloc (.cells e.zero.cells t) (.cells (ch e.zero) Y) e.zero.cells.size (fun A g1 g2 g3=>
    ⟨e.zero.cells,t,by rw[g1];exact heap_alloc_new w _,g2.symm,(eE (M:=M) (N:=A) (U:=(· <s.nx+1)) e.zero).1,(eE e.zero).2,f0⟩)
   refine⟨.pointer (io ⟨w.heap.size,0,jp⟩),_,M,A,?_,F,dG B F J,?_⟩
   .simp only[execOp,ho];have hz:=dh (w:=w) (G t e he);simp[Instr.alloc,hz,newVar,newRow]
   .have:=VR.ptr (M:=M) (N:=A) (U:=(· <s.nx+1)) s.nx 0 (by omega);rw[I]at this;exact this
  .cases h
 |box t x=>
  rw[ho]at h;simp only[Ek,tQ]at h;split at h
  .rename_i cs c0;split at h
   .rename_i b1;obtain⟨Y,f0,h⟩: ∃Y,yr Y t∧io (PV.ptr s.nx 0,newObj s (.cells cs Y))=io (p,s1):=by
     split at h
     .exact⟨io t,fun x S=>by cases S;rfl,by rw[<-h,force_eq]⟩
     .exact⟨jp,.none _,by rw[<-h,force_eq]⟩
    simp only[Qu,QI]at h;obtain⟨rfl,rfl⟩:=h;refine OT.value hp fun M N a w B=>?_;obtain⟨hl,hv⟩:=qs (aO B.2.1 x) c0
    obtain⟨A,I,h2,h3,F,J⟩:=B.1.alloc (.cells (a.eval x).cells t) (.cells cs Y) (a.eval x).cells.size (fun A g1 g2 g3=>
     ⟨(a.eval x).cells,t,by rw[g1];exact heap_alloc_new w _,g2.symm,hl,fun j q hq=>(hv j q hq).mono (.refl _) g3 (fun i hi=>by omega),f0⟩)
    refine⟨.pointer (io ⟨w.heap.size,0,jp⟩),_,M,A,?_,F,dG B F J,?_⟩
    .simp only[execOp,ho];simp[Instr.box,newVar,newRow]
    .have:=VR.ptr (M:=M) (N:=A) (U:=(· <s.nx+1)) s.nx 0 (by omega);rw[I]at this;exact this
   .cases h
  .cases h
 |store t a x=>
  rw[ho]at h;simp only[Ek,tQ]at h;split at h
  .rename_i s2 hs;simp only[Qu,QI]at h;obtain⟨rfl,rfl⟩:=h;refine OT.skip hp fun M N b w B=>?_;obtain⟨w',I,h2,h3⟩:=Dh (P:=P) G hs B (aO B.2.1 a) (aO B.2.1 x);refine⟨w',M,N,?_,h2,h3⟩;simp only[execOp,ho];simp[I]
  .cases h
 |makeMap t r=>
  rw[ho]at h;cases r with
  |some r=>
   simp only[Ek,tQ]at h;split at h
   .rename_i q n _ _ _ _ _ _ hr he;have hu:=(G _ _ he).2.1.1;simp only[Qu,QI]at h;obtain⟨rfl,rfl⟩:=h;refine OT.value hp fun M N a w B=>?_
    obtain⟨A,I,h2,h3,F,J⟩:=B.1.alloc (.map #[] 0) .fg 0 (fun A g1 g2 g3=>
     (by rw[g1];exact heap_alloc_new w _:(w.alloc (.map #[] 0)).heap[A.aB s.nx]? =_))
    have g0:=aO B.2.1 r;rw[hr]at g0;have d1:a.eval r= .int q n:=by
     generalize a.eval r=y at g0;cases g0 with
     |iv _ _ h=>cases h;rfl
    refine⟨.map (io w.heap.size),_,M,A,?_,F,dG B F J,?_⟩
    .simp only[execOp,ho];simp[Instr.makeMap,d1,run_underlying hu,asInt,asIntOf]
    .have:=VR.mp (M:=M) (N:=A) (U:=(· <s.nx+1)) s.nx (by omega);rw[I]at this;exact this
   .cases h
  |none=>
   simp only[Ek,tQ,Qu,QI]at h;obtain⟨rfl,rfl⟩:=h;refine OT.value hp fun M N a w B=>?_
   obtain⟨A,I,h2,h3,F,J⟩:=B.1.alloc (.map #[] 0) .fg 0 (fun A g1 g2 g3=>
    (by rw[g1];exact heap_alloc_new w _:(w.alloc (.map #[] 0)).heap[A.aB s.nx]? =_))
   refine⟨.map (io w.heap.size),_,M,A,?_,F,dG B F J,?_⟩
   .simp only[execOp,ho];simp[Instr.makeMap]
   .have:=VR.mp (M:=M) (N:=A) (U:=(· <s.nx+1)) s.nx (by omega);rw[I]at this;exact this
 |range t x=>
  rw[ho]at h;simp only[Ek,tQ]at h;split at h
  .rename_i V kc e z zv m kt et _ _ _ _ s0 he;have hu:=(G _ _ he).2.1.1;simp only[Qu,QI]at h;obtain⟨rfl,rfl⟩:=h;refine OT.value hp fun M N a w B=>?_;have S:=aO B.2.1 x;rw[s0]at S;generalize hv:a.eval x=y at S
   cases S with
   |iv _ _ hi=>cases hi with
    |du _ _ _ _ _ b ents clock hb hs hk hv' hz hi' hc=>
     obtain⟨A,I,h2,h3,F,J⟩:=B.1.alloc (.mapIter (io b) clock #[] clock) (.bQ kc e m [] jp) 0 (fun A g1 g2 g3=>
      .inr ⟨b,ents,clock, #[],by rw[g1];exact heap_alloc_new w _,hb,⟨hs,hk,hv',hi',hc⟩,rfl,by simp,RF,by simp⟩)
     have a0:w.heap[b]? =io (.map ents clock):=B.1.dT _ _ hb;refine⟨.pointer (io ⟨w.heap.size,0,jp⟩),_,M,A,?_,F,dG B F J,?_⟩
     .simp only[execOp,ho,hv];simp[Instr.range,run_underlying hu,getObj,Sem.run,a0,Result.andThen]
     .have:=VR.ptr (M:=M) (N:=A) (U:=(· <s.nx+1)) s.nx 0 (by omega);rw[I]at this;exact this
  .cases h
 |buildSlice t len parts=>
  rw[ho]at h;simp only[Ek,tQ]at h;split at h
  .rename_i e he;split at h
   .rename_i u hk;split at h
    .rename_i d k0;split at h
     .rename_i p0 q0 r0;split at h
      .rename_i cs c0;rw[wy]at h;simp only[Qu,QI]at h;obtain⟨rfl,rfl⟩:=h;have j0:d.zero.cells.size=d.size:=QS p0;have n0:0<len*d.size:=Qs q0;have k1:len*d.size<=16777216:=Qs r0;have i0:0<d.size:=Nat.pos_of_ne_zero fun e=>by simp[e]at n0
       have w0:0<len:=Nat.pos_of_ne_zero fun e=>by simp[e]at n0
       have i1:len<=len*d.size:=Nat.le_mul_of_pos_right _ i0;have b0:=(G t e he).2.1;rw[hk]at b0;refine OT.value hp fun M N a w B=>?_;have d0:(ch d.zero).length=d.size:=by rw[(eE (M:=M) (N:=N) (U:=(· <s.nx)) d.zero).1,j0]
       obtain⟨e0,h3,F⟩:=qm (M:=M) (N:=N) (U:=(· <s.nx)) (vals:=(parts.map fun x=>(x.1,a.eval x.2)).toList) (ys:=(Tz (len*d.size)).map (d.zero.cells[· % d.zero.cells.size]!)) c0 (by simp) (fun j x y S hy=>by
        rw[QC,QF]at S;obtain⟨z,hz,rfl⟩:=S;have f1:parts[j]? =io z:=by simpa using hz
        have:io (z.1,a.eval z.2)=io y:=by rw[<-hy];simp[f1]
        simp only[Qu]at this;subst this
        exact⟨rfl,aO B.2.1 z.2⟩) (by
        refine⟨by rw[kf,d0];simp,fun j p hj=>?_⟩;have J:=yN _ _ _ _ hj;have t0:j<len*d.size:=by
         have:=(Qw.1 hj).1;rwa[kf,d0]at this
        rw[d0]at J;have h6:=(eE (M:=M) (N:=N) (U:=(· <s.nx)) d.zero).2 _ _ J;have h7:((Tz (len*d.size)).map (d.zero.cells[· % d.zero.cells.size]!)).getD j undef=d.zero.cells.getD (j % d.size) undef:=by
         have hm:j % d.size<d.zero.cells.size:=by rw[j0];exact Nat.mod_lt _ i0
         have S:(Tz (len*d.size))[j]? =io j:=by simp[t0]
         rw[Qt,S3,S];simp only[RZ,R2,j0];rw[Qt,getElem!_pos d.zero.cells (j % d.size) hm,Rs hm];rfl
        rw[h7];exact h6)
       have Z:cs.length=len*d.size:=by
        have:(xf len (ch d.zero)).length=cs.length:=by
         have:=qn c0;exact this.symm
        rw[<-this,kf,d0]
       have m0:e0.size=len*d.size:=by rw[<-F.1,Z]
       obtain⟨A,I,h2,h8,h9,o0⟩:=B.1.alloc (.cells e0 u) (.row d.size (ma d.size len cs)) e0.size (fun A g1 g2 g3=>
        .inr ⟨i0,e0,u,by rw[g1];exact heap_alloc_new w _,g2.symm,by rw[oI,m0];exact QH _,fun k e hk=>(l9 _ _ _ _ _ Z hk).1,fun k e j p hk hj=>by
         have v0:j<d.size:=by rw[<-(l9 _ _ _ _ _ Z hk).1];exact(Qw.1 hj).1
         have:=(l9 _ _ _ _ _ Z hk).2 j v0;rw[hj]at this
         exact(F.2 _ _ this.symm).mono (.refl _) g3 (fun i hi=>by omega)⟩)
       refine⟨.slice (io ⟨w.heap.size,0,jp⟩) len len,_,M,A,?_,h9,dG B h9 o0,?_⟩
       .simp only[execOp,ho];have hz:=dh (w:=w) (G u d k0);have e1:=bC (w:=w) (G u d k0);have x0: ¬len*d.size=0:=by omega
        have a1: ¬len*d.size>2 ^ 24:=by omega
        simp only[Instr.buildSlice,Sem.run_bind,run_underlying b0.1,Result.andThen_ok,e1,be a1,be x0,hz,Sem.run_pure];rw[h3];simp[newRow]
       .have:=VR.sl (M:=M) (N:=A) (U:=(· <s.nx+1)) s.nx 0 len d.size len (by omega) w0 (QH _) (by simp only[maxLen];omega) (by rw[h2,m0];simp);rw[I,Sy]at this;exact this
      .cases h
     .cases h
    .cases h
   .cases h
  .cases h
 |_=>rw[ho]at h;simp[Ek]at h
end
mutual
def PV.cx(σ:Nat->Nat):PV->PV
 | .iv x=> .iv x
 | .agg cs=> .agg (dL σ cs)
 | .bB cs=> .bB (dL σ cs)
 | .ptr i off=> .ptr (σ i) off
 | .dd i sz k off=> .dd (σ i) sz k off
 | .dV z i=> .dV z (σ i)
 | .sl i off len sz=> .sl (σ i) off len sz
 | .mp i=> .mp (σ i)
 | .cK fn first caps=> .cK fn (dL σ first) (dL σ caps)
 | .kb b=> .kb b
 | .any=> .any
def dL(σ:Nat->Nat):List PV->List PV
 | []=> []
 |p::r=>PV.cx σ p::dL σ r
end
theorem bM(σ:Nat->Nat): ∀l:List PV,dL σ l=l.map (PV.cx σ)
 | []=>rfl
 |p::r=>by simp[dL,bM σ r]
def AO.cx(σ:Nat->Nat):AO->AO
 | .cells cs T=> .cells (dL σ cs) T
 | .row sz es=> .row sz (es.map (dL σ))
 | .bu l T=> .bu l T
 | .fg=> .fg
 | .map kc ev z zv dv m=> .map kc ev z zv dv m
 | .bQ kc ev m l cu=> .bQ kc ev m l cu
 | .dJ s p=> .dJ s p
theorem AO.b3(σ:Nat->Nat)(o:AO):(o.cx σ).real=o.real:=by
 cases o with
 |row sz es=>cases es<;>rfl
 |bu l T=>cases l<;>rfl
 |_=>rfl
def pU(σ:Nat->Nat):AH->AH
 | []=> []
 |(i,jp)::r=>(σ i,jp)::pU σ r
 |(i,io o)::r=>(σ i,io (o.cx σ))::pU σ r
def Nm.comp(N:Nm)(σ:Nat->Nat):Nm:={aB:=fun i=>N.aB (σ i),ext:=fun i=>N.ext (σ i)}
section
variable {M:Mem} {N:Nm} {U:Nat->Prop} {σ:Nat->Nat}
theorem VR.cx{p:PV}{x:Value}(h:VR M (N.comp σ) (fun i=>U (σ i)) p x):VR M N U (p.cx σ) x:=by
 induction h with
 |iv x y h=>exact .iv x y h
 |agg cs ys hl hr ih=>
  refine .agg _ _ (by simpa[bM]using hl) (fun j p d=>?_);rw[bM,QC,QF]at d;obtain⟨q,u,rfl⟩:=d;exact ih j q u
 |bB cs ys hl hr ih=>
  refine .bB _ _ (by simpa[bM]using hl) (fun j p d=>?_);rw[bM,QC,QF]at d;obtain⟨q,u,rfl⟩:=d;exact ih j q u
 |ptr i off h=>exact .ptr _ _ h
 |dd i sz k off h=>exact .dd _ _ _ _ h
 |dV z i h=>exact .dV _ _ h
 |sl i off len sz cap h h0 hl hc he=>exact .sl _ _ _ _ _ h h0 hl hc he
 |mE i sz h=>exact .mE _ _ h
 |sle i sz cap h hc he=>exact .sle _ _ _ h hc he
 |mp i h=>exact .mp _ h
 |cK fn first caps f' c' h1 h2 hr1 hr2 ih1 ih2=>
  refine .cK _ _ _ _ _ (by simpa[bM]using h1) (by simpa[bM]using h2) (fun j p d=>?_) (fun j p d=>?_)
  .rw[bM,QC,QF]at d;obtain⟨q,u,rfl⟩:=d;exact ih1 j q u
  .rw[bM,QC,QF]at d;obtain⟨q,u,rfl⟩:=d;exact ih2 j q u
 |kb b=>exact .kb b
 |any x=>exact .any x
theorem VR.tm: ∀{q:PV} {x:Value},VR M N U q x-> ∀{p:PV},q=p.cx σ->VR M (N.comp σ) (fun i=>U (σ i)) p x:=by
 intro q x h
 induction h with
 |iv x y h=>intro p d;cases p<;>simp[PV.cx]at d;subst d;exact .iv _ _ h
 |agg cs ys hl hr ih=>
  intro p d;cases p<;>simp[PV.cx]at d;subst d;refine .agg _ _ (by simpa[bM]using hl) (fun j p u=>ih j (p.cx σ) (by rw[bM,QC,u];rfl) D)
 |bB cs ys hl hr ih=>
  intro p d;cases p<;>simp[PV.cx]at d;subst d;refine .bB _ _ (by simpa[bM]using hl) (fun j p u=>ih j (p.cx σ) (by rw[bM,QC,u];rfl) D)
 |ptr i off h=>intro p d;cases p<;>simp[PV.cx]at d;obtain⟨rfl,rfl⟩:=d;exact VR.ptr (N:=N.comp σ) (U:=fun i=>U (σ i)) _ _ h
 |dd i sz k off h=>intro p d;cases p<;>simp[PV.cx]at d;obtain⟨rfl,rfl,rfl,rfl⟩:=d;exact VR.dd (N:=N.comp σ) (U:=fun i=>U (σ i)) _ _ _ _ h
 |dV z i h=>intro p d;cases p<;>simp[PV.cx]at d;obtain⟨rfl,rfl⟩:=d;exact VR.dV (N:=N.comp σ) (U:=fun i=>U (σ i)) _ _ h
 |sl i off len sz cap h h0 hl hc he=>intro p d;cases p<;>simp[PV.cx]at d;obtain⟨rfl,rfl,rfl,rfl⟩:=d;exact VR.sl (N:=N.comp σ) (U:=fun i=>U (σ i)) _ _ _ _ _ h h0 hl hc he
 |mE i sz h=>intro p d;cases p<;>simp[PV.cx]at d;obtain⟨rfl,rfl,rfl,rfl⟩:=d;exact VR.mE (N:=N.comp σ) (U:=fun i=>U (σ i)) _ _ h
 |sle i sz cap h hc he=>intro p d;cases p<;>simp[PV.cx]at d;obtain⟨rfl,rfl,rfl,rfl⟩:=d;exact VR.sle (N:=N.comp σ) (U:=fun i=>U (σ i)) _ _ _ h hc he
 |mp i h=>intro p d;cases p<;>simp[PV.cx]at d;subst d;exact VR.mp (N:=N.comp σ) (U:=fun i=>U (σ i)) _ h
 |cK fn first caps f' c' h1 h2 hr1 hr2 ih1 ih2=>
  intro p d;cases p<;>simp[PV.cx]at d;obtain⟨rfl,rfl,rfl⟩:=d;refine .cK _ _ _ _ _ (by simpa[bM]using h1) (by simpa[bM]using h2) (fun j p u=>ih1 j (p.cx σ) (by rw[bM,QC,u];rfl) D) (fun j p u=>ih2 j (p.cx σ) (by rw[bM,QC,u];rfl) D)
 |kb b=>intro p d;cases p<;>simp[PV.cx]at d;subst d;exact .kb _
 |any x=>intro p d;cases p<;>simp[PV.cx]at d;exact .any _
theorem OR.cx{w:World}{i:Nat}{o:AO}(h:OR M (N.comp σ) (fun i=>U (σ i)) w i o):OR M N U w (σ i) (o.cx σ):=by
 cases o with
 |cells cs T0=>
  obtain⟨c,T,y,A,B,F,G⟩:=h;refine⟨c,T,y,A,by simpa[bM]using B,fun j p u=>?_,G⟩;rw[bM,QC,QF]at u;obtain⟨q,I,rfl⟩:=u;exact(F j q I).cx
 |row sz es=>
  rcases h with rfl|⟨h0,c,T,y,A,B,F,G⟩
  .exact .inl D
  refine .inr ⟨h0,c,T,y,A,by simpa using B,fun k e d=>?_,fun k e j p d u=>?_⟩
  .rw[QC,QF]at d;obtain⟨x,b,rfl⟩:=d;rw[bM,Rv];exact F k x b
  .rw[QC,QF]at d;obtain⟨x,b,rfl⟩:=d;rw[bM,QC,QF]at u;obtain⟨q,I,rfl⟩:=u;exact(G k x j q b I).cx
 |bu l T=>exact h
 |fg=>exact h
 |map kc ev z zv dv m=>exact h
 |bQ kc ev m l cu=>exact h
 |dJ s p=>exact h
theorem OR.tm{w:World}{i:Nat}{o:AO}(h:OR M N U w (σ i) (o.cx σ)):OR M (N.comp σ) (fun i=>U (σ i)) w i o:=by
 cases o with
 |cells cs T0=>
  obtain⟨c,T,b,d,u,x,y⟩:=h;exact⟨c,T,b,d,by simpa[bM]using u,fun j p B=>(x j (p.cx σ) (by rw[bM,QC,B];rfl)).tm D,y⟩
 |row sz es=>
  rcases h with h|⟨F,c,T,b,d,u,x,y⟩
  .exact .inl (by simpa using h)
  refine .inr ⟨F,c,T,b,d,by simpa using u,fun k e A=>?_,fun k e j p A B=>?_⟩
  .have:=x k (dL σ e) (by rw[QC,A];rfl);simpa[bM]using this
  .exact(y k (dL σ e) j (p.cx σ) (by rw[QC,A];rfl) (by rw[bM,QC,B];rfl)).tm D
 |bu l T=>exact h
 |fg=>exact h
 |map kc ev z zv dv m=>exact h
 |bQ kc ev m l cu=>exact h
 |dJ s p=>exact h
end
def sig(L:List Nat)(n:Nat)(i:Nat):Nat:=bif QZ i L.length then L.getD i 0 else n+(i-L.length)
theorem iM{L:List Nat}{n i:Nat}(h:i<L.length):sig L n i=L[i]:=by
 have:QZ i L.length=kw:=Ry h;simp[sig,this,h]
theorem oT{L:List Nat}{n i:Nat}(h:L.length<=i):sig L n i=n+(i-L.length):=by
 have:QZ i L.length=lc:=by
  cases hb:QZ i L.length with
  |false=>rfl
  |true=>have:=Qs hb;omega
 simp[sig,this]
theorem tG{σ:Nat->Nat}: ∀(h:AH) (j:Nat) (o:AO),(pU σ h).get j=io o->(∀i k,i∈h.map Ra->σ i=σ k->i=k)-> ∃i p,j=σ i∧h.get i=io p∧o=p.cx σ
 | [],j,o,hj,_=>by simp[pU,AH.get]at hj
 |(i,jp)::r,j,o,hj,hi=>by
  simp only[pU]at hj;rw[AH.ay]at hj;split at hj
  .cases hj
  .rename_i d;obtain⟨k,p,u,x,y⟩:=tG r j o hj (fun a b A=>hi a b (QR _ A));refine⟨k,p,u,?_,y⟩;rw[AH.ay,be (fun e=>d (by rw[u,e]))];exact x
 |(i,io q)::r,j,o,hj,hi=>by
  simp only[pU]at hj;rw[AH.ay]at hj;split at hj
  .rename_i B;exact⟨i,q,B,by rw[AH.ay,am D],by simpa using hj.symm⟩
  .rename_i d;obtain⟨k,p,u,x,y⟩:=tG r j o hj (fun a b A=>hi a b (QR _ A));refine⟨k,p,u,?_,y⟩;rw[AH.ay,be (fun e=>d (by rw[u,e]))];exact x
def dQ:Nat->List AO->AH
 |_,[]=> []
 |n,o::r=>(n,io o)::dQ (n+1) r
theorem rf: ∀(os:List AO) (n i:Nat),(dQ n os).get i=if n<=i then os[i-n]? else jp
 | [],n,i=>by simp[dQ,AH.get]
 |o::r,n,i=>by
  simp only[dQ];rw[AH.ay,rf r (n+1) i];by_cases h:i=n
  .subst h;simp
  .by_cases b:n<=i
   .rw[be h,am (by omega),am b,show i-n=(i-(n+1))+1 by omega];simp
   .rw[be h,be (by omega),be b]
def lG(P:Program)(k:FuncId):Prop:= ∀(args:Array Value) (w:World),(callFunc k args).run P w= .ok (.enter k args) w
theorem bY {P:Program} {k:FuncId} {fn:Func} {c:Code} (hf:P.funcs[k]? =io fn) (hb:fn.body=io c) (hn:(fn.name== "runtime.NumGoroutine")=lc):lG P k:=by
 intro args w;have b: ¬fn.name= "runtime.NumGoroutine" :=by simpa using hn
 simp[callFunc,program,Sem.run,hf,hb,b]
def Fn(P:Program)(k:FuncId)(args:List PV)(os:List AO)(R:PV->AH->Nat->Prop):Prop:=
 lG P k∧ ∀M N w (vs:List Value),Rel M N (· <os.length) (dQ 0 os) w->args.length=vs.length->(∀(j:Nat) (p:PV),args[j]? =io p->VR M N (· <os.length) p (vs.getD j undef))->
  Calls P k vs.toArray w fun e A=> ∃x d u r y b,e= .returned x∧R r y b∧Ext M N (· <os.length) (dQ 0 os) w d u (· <b) y A∧Rel d u (· <b) y A∧VR d u (· <b) r x
def Ac:List Nat->AH
 | []=> []
 |j::r=>(j,jp)::Ac r
def AH.keys:AH->List Nat
 | []=> []
 |(i,_)::r=>i::AH.keys r
theorem AH.get_append: ∀(a b:AH) (j:Nat),AH.get (a++b) j=if j∈a.keys then a.get j else b.get j
 | [],b,j=>by simp[AH.keys]
 |(i,o)::r,b,j=>by
  rw[Se,AH.ay,AH.ay,AH.get_append r b j];by_cases h:j=i
  .simp[h,AH.keys]
  .simp[h,AH.keys]
theorem wu: ∀L:List Nat,(Ac L).keys=L
 | []=>rfl
 |j::r=>by simp[Ac,AH.keys,wu r]
theorem Ab: ∀(L:List Nat) (j:Nat),(Ac L).get j=jp
 | [],_=>rfl
 |i::r,j=>by rw[Ac,AH.ay,Ab r j];split<;>rfl
theorem BS{L:List Nat}{n:Nat}(hnd:L.Nodup)(d: ∀j∈L,j<n): ∀i k,sig L n i=sig L n k->i=k:=by
 intro i k h;rcases RN i L.length with hi|hi<;>rcases RN k L.length with hk|hk
 .rw[iM hi,iM hk]at h;have u:=Sq.1 hnd;rcases Nat.lt_trichotomy i k with b|he|hgt
  .exact absurd h (u i k hi hk b)
  .exact he
  .exact absurd h.symm (u k i hk hi hgt)
 .rw[iM hi,oT hk]at h;have:=d _ (Rz hi);omega
 .rw[oT hi,iM hk]at h;have:=d _ (Rz hk);omega
 .rw[oT hi,oT hk]at h;omega
section
variable {P:Program} {nt:Nat} {s:AS}
def aE(s:AS)(L:List Nat)(b:AH)(d:Nat):AS:={f:=s.f,h:=pU (sig L s.nx) b++(Ac L++s.h),nx:=s.nx+(d-L.length)}
theorem Fn.calls{k:FuncId}{args:List PV}{os:List AO}{R:PV->AH->Nat->Prop}(hc:Fn P k args os R){L:List Nat}(hnd:L.Nodup)(hL: ∀j∈L,j<s.nx)
  (i0:L.map s.h.get=os.map fun o=>io (o.cx (sig L s.nx))) {M:Mem} {N:Nm} {w:World} (hr:Rel M N (· <s.nx) s.h w) {vs:List Value} (hl:args.length=vs.length)
  (hv: ∀(j:Nat) (p:PV),args[j]? =io p->VR M N (· <s.nx) (p.cx (sig L s.nx)) (vs.getD j undef)):
  Calls P k vs.toArray w fun e w'=> ∃x M' N' r h' Y,e= .returned x∧R r h' Y∧Ext M N (· <s.nx) s.h w M' N' (· <(aE s L h' Y).nx) (aE s L h' Y).h w'∧
   Rel M' N' (· <(aE s L h' Y).nx) (aE s L h' Y).h w'∧VR M' N' (· <(aE s L h' Y).nx) (r.cx (sig L s.nx)) x:=by
 have b0:L.length=os.length:=by simpa using congrArg List.length i0
 have hU:(fun i=>sig L s.nx i<s.nx)=(· <os.length):=by
  funext i
  apply propext;rcases RN i L.length with hi|hi
  .rw[iM hi];exact⟨fun _=>by omega,fun _=>hL _ (Rz hi)⟩
  .rw[oT hi];omega
 have e0: ∀i (hi:i<L.length),s.h.get L[i]=(os[i]?).map (AO.cx (sig L s.nx)):=by
  intro i hi;have:=congrArg (fun l=>l[i]?) i0;simp only[QC,Qy hi,RZ]at this;have I:os[i]? =io (os[i]'(by omega)):=Qy (by omega);rw[I]at this ⊢;simpa using this
 have y: ∀i o,(dQ 0 os).get i=io o->i<L.length∧s.h.get (sig L s.nx i)=io (o.cx (sig L s.nx)):=by
  intro i o hi;rw[rf,am (QN _),TL]at hi;have c0:i<L.length:=by rw[b0];exact(Qw.1 hi).1
  refine⟨c0,?_⟩;rw[iM c0,e0 i c0,hi];rfl
 have g0:Rel M (N.comp (sig L s.nx)) (· <os.length) (dQ 0 os) w:=by
  refine⟨hr.dT,fun i o hi=>by rw[<-b0];exact(y i o hi).1,fun i o hi d=>hr.dW _ _ (y i o hi).2 ((AO.b3 _ o).trans d),fun i o hi=>?_,fun i j o p hi A I Z B=>?_⟩
  .have:=OR.tm (hr.obj _ _ (y i o hi).2);rw[hU]at this;exact this
  .exact BS hnd hL i j (hr.inj _ _ _ _ (y i o hi).2 (y j p A).2 ((AO.b3 _ o).trans I) ((AO.b3 _ p).trans Z) B)
 refine(hc.2 M (N.comp (sig L s.nx)) w vs g0 hl (fun j p Z=>by have:=(hv j p Z).tm D;rw[hU]at this;exact this)).mono ?_;rintro e w' ⟨x,M',N',r,h',Y,rfl,hR,hx,hr',hvr⟩;have k0:os.length<=Y:=Su fun c0=>by have:=hx.ule Y c0;omega
 let N2:Nm:={aB:=fun j=>if j<s.nx then N.aB j else N'.aB (L.length+(j-s.nx)),ext:=fun j=>if j<s.nx then N.ext j else N'.ext (L.length+(j-s.nx))}
 have J:N.agree N2 (· <s.nx):=⟨fun i hi=>by simp[N2,hi],fun i hi=>by simp[N2,hi]⟩
 have S: ∀i,N2.aB (sig L s.nx i)=N'.aB i∧N2.ext (sig L s.nx i)=N'.ext i:=by
  intro i;rcases RN i L.length with hi|hi
  .have h1:sig L s.nx i<s.nx:=by rw[iM hi];exact hL _ (Rz hi)
   have u:=hx.nm.aB i (by omega);have G:=hx.nm.ext i (by omega);simp only[Nm.comp]at u G;simp[N2,h1,u,G]
  .rw[oT hi];have h1: ¬s.nx+(i-L.length)<s.nx:=by omega
   have u:L.length+(s.nx+(i-L.length)-s.nx)=i:=by omega
   constructor<;>simp only[N2,be h1,u]
 have a0:N'.agree (N2.comp (sig L s.nx)) (· <Y):=⟨fun i _=>(S i).1,fun i _=>(S i).2⟩
 have d0: ∀i,i<Y->sig L s.nx i<s.nx+(Y-L.length):=by
  intro i hi;rcases RN i L.length with h1|h1
  .rw[iM h1];have:=hL _ (Rz h1);omega
  .rw[oT h1];omega
 have F: ∀j o,(aE s L h' Y).h.get j=io o->(∃i p,j=sig L s.nx i∧h'.get i=io p∧o=p.cx (sig L s.nx))∨(j∉L∧s.h.get j=io o):=by
  intro j o A;simp only[aE]at A;rw[AH.get_append]at A;split at A
  .exact .inl (tG h' j o A (fun i k _ h=>BS hnd hL i k h))
  .rw[AH.get_append]at A;split at A
   .rw[Ab]at A;cases A
   .rename_i hd;rw[wu]at hd;exact .inr ⟨hd,A⟩
 have f0: ∀j o,j∉L->s.h.get j=io o->o.real=kw->w'.heap[N.aB j]? =w.heap[N.aB j]? :=by
  intro j o A I d;refine hx.fG _ (hr.lt I d) (fun i p hi Z he=>?_);obtain⟨h1,u⟩:=y i p hi;have:=hr.inj _ _ _ _ u I ((AO.b3 _ p).trans Z) d he;rw[iM h1]at this;exact A (this▸Rz h1)
 refine⟨x,M',N2,r,h',Y,rfl,hR,?_,?_,?_⟩
 .refine⟨hx.os,hx.tape,hx.output,hx.size,fun b hb j0=>hx.fG b hb (fun i o hi I he=>j0 _ _ (y i o hi).2 ((AO.b3 _ o).trans I) he),hx.pb,fun b c h1 u=>?_,J,fun i hi=>by simp only[aE];omega,fun j o A d=>?_⟩
  .rcases hx.gK b c h1 u with G|⟨i,o,G,I,h4⟩
   .exact .inl G
   .exact .inr ⟨_,_,(y i o G).2,(AO.b3 _ o).trans I,h4⟩
  .rcases F j o A with⟨i,p,rfl,h1,rfl⟩|⟨h1,u⟩
   .rw[AO.b3]at d;rw[(S i).1];rcases hx.fV i p h1 d with G|⟨k,q,G,hq,h4⟩
    .exact .inl G
    .exact .inr ⟨_,_,(y k q G).2,(AO.b3 _ q).trans hq,h4⟩
   .exact .inr ⟨j,o,u,d,(J.aB j (hr.used j o u)).symm⟩
 .refine⟨hr'.dT,fun j o A=>?_,fun j o A d=>?_,fun j o A=>?_,fun i j o p hi A I Z B=>?_⟩
  .rcases F j o A with⟨i,p,rfl,h1,rfl⟩|⟨h1,u⟩
   .exact d0 i (hr'.used i p h1)
   .have:=hr.used j o u;simp only[aE];omega
  .rcases F j o A with⟨i,p,rfl,h1,rfl⟩|⟨h1,u⟩
   .rw[AO.b3]at d;rw[(S i).1];exact hr'.dW i p h1 d
   .rw[J.aB j (hr.used j o u)];cases hm:M' (N.aB j) with
    |none=>rfl
    |some c=>
     rcases hx.gK _ c (hr.dW j o u d) hm with G|⟨i,q,G,hq,h4⟩
     .have:=hr.lt u d;omega
     .obtain⟨h5,h6⟩:=y i q G;have:=hr.inj _ _ _ _ h6 u ((AO.b3 _ q).trans hq) d h4;rw[iM h5]at this;exact absurd (this▸Rz h5) h1
  .rcases F j o A with⟨i,p,rfl,h1,rfl⟩|⟨h1,u⟩
   .refine OR.cx ?_;exact(hr'.obj i p h1).mono (.refl _) a0 (fun i hi=>d0 i hi) (hr'.used i p h1) D
   .cases d:o.real with
    |true=>exact(hr.obj j o u).mono hx.pb J (fun i hi=>by simp only[aE];omega) (hr.used j o u) (f0 j o h1 u d)
    |false=>
     cases o with
     |row sz es=>cases es with
      |nil=>exact .inl D
      |cons=>cases d
     |bu l T=>cases l with
      |nil=>exact .inl D
      |cons=>cases d
     |_=>cases d
  .rcases F i o hi with⟨i',o',rfl,h1,rfl⟩|⟨h1,u⟩<;>rcases F j p A with⟨j',p',rfl,G,rfl⟩|⟨G,h4⟩
   .rw[AO.b3]at I Z;rw[(S i').1,(S j').1]at B;rw[hr'.inj i' j' o' p' h1 G I Z B]
   .rw[AO.b3]at I;rw[(S i').1,J.aB j (hr.used j p h4)]at B;rcases hx.fV i' o' h1 I with h5|⟨k,q,h5,hq,h6⟩
    .have:=hr.lt h4 Z;omega
    .obtain⟨h7,h8⟩:=y k q h5;have:=hr.inj _ _ _ _ h8 h4 ((AO.b3 _ q).trans hq) Z (h6.trans B);rw[iM h7]at this;exact absurd (this▸Rz h7) G
   .rw[AO.b3]at Z;rw[J.aB i (hr.used i o u),(S j').1]at B;rcases hx.fV j' p' G Z with h5|⟨k,q,h5,hq,h6⟩
    .have:=hr.lt u I;omega
    .obtain⟨h7,h8⟩:=y k q h5;have:=hr.inj _ _ _ _ h8 u ((AO.b3 _ q).trans hq) I (h6.trans B.symm);rw[iM h7]at this;exact absurd (this▸Rz h7) h1
   .rw[J.aB i (hr.used i o u),J.aB j (hr.used j p h4)]at B;exact hr.inj _ _ _ _ u h4 I Z B
 .exact VR.cx (hvr.mono (.refl _) a0 (fun i hi=>d0 i hi))
def PV.plain:PV->PV
 | .kb b=> .iv (.v (.bool b))
 |p=>p
theorem VR.plain{M:Mem}{N:Nm}{U:Nat->Prop}{p:PV}{x:Value}(h:VR M N U p x):VR M N U p.plain x:=by
 cases h with
 |kb=>exact .iv _ _ (.v _)
 |iv _ _ h1=>exact .iv _ _ h1
 |agg _ _ h1 h2=>exact .agg _ _ h1 h2
 |bB _ _ h1 h2=>exact .bB _ _ h1 h2
 |ptr _ _ h1=>exact .ptr _ _ h1
 |dd _ _ _ _ h1=>exact .dd _ _ _ _ h1
 |dV _ _ h1=>exact .dV _ _ h1
 |sl _ _ _ _ _ h1 h2 h3 h4 h5=>exact .sl _ _ _ _ _ h1 h2 h3 h4 h5
 |mE _ _ h1=>exact .mE _ _ h1
 |sle _ _ _ h1 h2 h3=>exact .sle _ _ _ h1 h2 h3
 |mp _ h1=>exact .mp _ h1
 |cK _ _ _ _ _ h1 h2 h3 h4=>exact .cK _ _ _ _ _ h1 h2 h3 h4
 |any=>exact .any _
def bK(f:AF)(c:Call):Option (FuncId×List PV):=
 match c.callee with
 | .value g=>match ev f g with
  | .cK (.func k) first caps=>io (k,first++(c.args.toList.map (fun x=>(ev f x).plain)++caps))
  |_=>jp
 |_=>jp
theorem z8{M:Mem}{N:Nm}{a:Act}{w:World}(hf:Fits M N s nt a w){o:Oper}{c:Call}(ho:o.op= .call c){k:FuncId}{asv:List PV}(ha:bK s.f c=io (k,asv))(hc:lG P k):
  ∃G:List Value,(execOp a.eval o).run P w= .ok (.enter k G.toArray) w∧asv.length=G.length∧ ∀(j:Nat) (p:PV),asv[j]? =io p->VR M N (· <s.nx) p (G.getD j undef):=by
 unfold bK at ha;obtain⟨callee,b,y⟩:=c;cases callee with
 |value g=>
  simp only at ha;have A:=aO hf.2.1 g;split at ha
  .rename_i Z first caps hev;simp only[Qu,QI]at ha;obtain⟨rfl,rfl⟩:=ha;rw[hev]at A;generalize S:a.eval g=v at A;cases A with
   |cK _ _ _ f' c' h1 h2 hr1 hr2=>
    have I:(b.toList.map (fun x=>(ev s.f x).plain)).length=(b.map a.eval).size∧ ∀j p,(b.toList.map (fun x=>(ev s.f x).plain))[j]? =io p->VR M N (· <s.nx) p ((b.map a.eval).getD j undef):=by
     refine⟨by simp,fun j p d=>?_⟩;rw[QC,QF]at d;obtain⟨x,Y,rfl⟩:=d;have F:b[j]? =io x:=by simpa using Y
     rw[Qt,S3,F];exact(aO hf.2.1 x).plain
    have u:(execOp a.eval o).run P w= .ok (.enter Z (f'++b.map a.eval++c')) w:=by
     simp only[execOp,ho,resolve,S,Deferred.ofValue,pure_bind,invoke];exact hc _ w
    have B: ∀(j:Nat) (p:PV),(first++(b.toList.map (fun x=>(ev s.f x).plain)++caps))[j]? =io p->VR M N (· <s.nx) p ((f'++b.map a.eval++c').toList.getD j undef):=by
     intro j p d;have J:(b.toList.map (fun x=>(ev s.f x).plain)).length=(b.map a.eval).size:=I.1;rw[Qx,Td,Td,QU];rcases RN j first.length with hj|hj
     .rw[QQ hj]at d;rw[QQ (by simpa[<-h1]using hj)];have:=hr1 j p d;rw[Qt]at this;simpa using this
     .rw[QX hj]at d;rw[QX (by simpa[<-h1]using hj)];rcases RN (j-first.length) (b.toList.map (fun x=>(ev s.f x).plain)).length with hj2|hj2
      .rw[QQ hj2]at d;rw[QQ (by simp[<-h1]at hj2 ⊢;omega)];have:=I.2 _ p d;rw[Qt]at this;simpa[<-h1]using this
      .rw[QX hj2]at d;rw[QX (by simp[<-h1]at hj2 ⊢;omega)];have:=hr2 _ p d;rw[Qt]at this;simpa[<-h1]using this
    refine⟨(f'++b.map a.eval++c').toList,by rw[R6];exact u,?_,B⟩;simp[<-h1,<-h2]
  .cases ha
 |_=>simp at ha
theorem me{o:Oper}{c:Call}(ho:o.op= .call c){k:FuncId}{asv:List PV}(ha:bK s.f c=io (k,asv)){args:List PV}{os:List AO}{R:PV->AH->Nat->Prop}(hc:Fn P k args os R)
  {L:List Nat} (hnd:L.Nodup) (hL: ∀j∈L,j<s.nx) (d0:L.map s.h.get=os.map fun o=>io (o.cx (sig L s.nx))) (y:asv=dL (sig L s.nx) args) {S:AS->Prop}
  (hS: ∀r F G,R r F G-> ∃s',putDst nt o (r.cx (sig L s.nx)) (aE s L F G)=io s'∧S s'):OT P nt o s S:=by
 intro M N a w I K Z hk;unfold bK at ha;obtain⟨callee,b,a0⟩:=c;cases callee with
 |value g=>
  simp only at ha;have hg:=aO I.2.1 g;split at ha
  .rename_i k' first caps hev;simp only[Qu,QI]at ha;obtain⟨rfl,rfl⟩:=ha;rw[hev]at hg;generalize hv:a.eval g=v at hg;cases hg with
   |cK _ _ _ f' c' B h2 hr1 hr2=>
    have hm:(b.toList.map (fun x=>(ev s.f x).plain)).length=(b.map a.eval).size∧ ∀j p,(b.toList.map (fun x=>(ev s.f x).plain))[j]? =io p->VR M N (· <s.nx) p ((b.map a.eval).getD j undef):=by
     refine⟨by simp,fun j p u=>?_⟩;rw[QC,QF]at u;obtain⟨x,hx,rfl⟩:=u;have f0:b[j]? =io x:=by simpa using hx
     rw[Qt,S3,f0];exact(aO I.2.1 x).plain
    have b0:(execOp a.eval o).run P w= .ok (.enter k' (f'++b.map a.eval++c')) w:=by
     simp only[execOp,ho,resolve,hv,Deferred.ofValue,pure_bind,invoke];exact hc.1 _ w
    unfold Oper.wp;rw[b0];simp only[Oper.upon];have e0: ∀(j:Nat) (p:PV),(first++(b.toList.map (fun x=>(ev s.f x).plain)++caps))[j]? =io p->VR M N (· <s.nx) p ((f'++b.map a.eval++c').toList.getD j undef):=by
     intro j p u;have g0:(b.toList.map (fun x=>(ev s.f x).plain)).length=(b.map a.eval).size:=hm.1;rw[Qx,Td,Td,QU];rcases RN j first.length with hj|hj
     .rw[QQ hj]at u;rw[QQ (by simpa[<-B]using hj)];have:=hr1 j p u;rw[Qt]at this;simpa using this
     .rw[QX hj]at u;rw[QX (by simpa[<-B]using hj)];rcases RN (j-first.length) (b.toList.map (fun x=>(ev s.f x).plain)).length with hj2|hj2
      .rw[QQ hj2]at u;rw[QQ (by simp[<-B]at hj2 ⊢;omega)];have:=hm.2 _ p u;rw[Qt]at this;simpa[<-B]using this
      .rw[QX hj2]at u;rw[QX (by simp[<-B]at hj2 ⊢;omega)];have:=hr2 _ p u;rw[Qt]at this;simpa[<-B]using this
    have Y:args.length=(f'++b.map a.eval++c').toList.length:=by
     have:=congrArg List.length y;simp[bM]at this;simp[<-B,<-h2];omega
    have A:=hc.calls hnd hL d0 I.1 Y (fun j p u=>by
     refine e0 j (p.cx (sig L s.nx)) ?_
     rw[y,bM,QC,u];rfl)
    rw[R6]at A;refine A.mono ?_;rintro e w' ⟨x,M',N',r,F,G,rfl,hR,hx,hr,hvr⟩;obtain⟨s',u,c0⟩:=hS r F G hR;have J:Fits M' N' (aE s L F G) nt a w':=⟨hr,I.2.1.ext hx,I.2.2⟩
    show K (a.put o.dst x) w';cases hd:o.dst with
    |none=>
     have:=eZ u hd;subst this;exact hk M' N' _ _ w' hx J c0
    |some d=>
     obtain⟨B,rfl⟩:=eY u hd;exact hk M' N' {aE s L F G with f:=(d,r.cx (sig L s.nx))::(aE s L F G).f} _ w' hx (J.put d _ x B hvr) c0
  .cases ha
 |_=>simp at ha
def nJ:Nat->List PV->AF
 |_,[]=> []
 |n,p::r=>(n,p)::nJ (n+1) r
theorem uQ: ∀(l:List PV) (n i:Nat),(nJ n l).get i=if n<=i then l.getD (i-n) .any else .any
 | [],n,i=>by simp[nJ,AF.get]
 |p::r,n,i=>by
  simp only[nJ];rw[AF.ay,uQ r (n+1) i];by_cases h:i=n
  .subst h;simp
  .by_cases b:n<=i
   .rw[be h,am (by omega),am b,show i-n=(i-(n+1))+1 by omega];simp
   .rw[be h,be (by omega),be b]
def xe(ty:Ty)(s:AS):ResultVar->Option PV
 | .tmp t=>match s.f.get t with
  | .kb b=>io (.iv (.v (.bool b)))
  |p=>io p
 | .cell a t=>match ty t with
  |some e=>match behind s.h (s.f.get a) with
   |some cs=>fU e cs
   |none=>jp
  |none=>jp
def qP(ty:Ty)(s:AS):List ResultVar->Option (List PV)
 | []=>io []
 |v::r=>match xe ty s v with
  |some p=>match qP ty s r with
   |some l=>io (p::l)
   |none=>jp
  |none=>jp
def jw(ty:Ty)(s:AS)(l:List ResultVar):Option PV:=
 match qP ty s l with
 |some [p]=>io p
 |some l=>io (.bB l)
 |none=>jp
def oW(tmps:Array Value):ResultVar->Sem Value
 | .tmp t=>pure (tmps.getD t undef)
 | .cell a t=>do loadVar t (<-asAddr (tmps.getD a undef))
theorem Dv{ty:Ty}(u:bT P ty){M:Mem}{N:Nm}{a:Act}{w:World}(hf:Fits M N s nt a w){v:ResultVar}{p:PV}(h:xe ty s v=io p):
  ∃x,(oW a.tmps v).run P w= .ok x w∧VR M N (· <s.nx) p x:=by
 cases v with
 |tmp t=>
  simp only[xe]at h;have:=hf.2.1 t;split at h
  .rename_i b hb;simp only[Qu]at h;subst h;rw[hb]at this;refine⟨_,rfl,?_⟩;show VR M N _ _ (a.tmps.getD t undef);generalize a.tmps.getD t undef=v at this;cases this;exact .iv _ _ (.v _)
  .simp only[Qu]at h;subst h;exact⟨_,rfl,this⟩
 |cell b t=>
  simp only[xe]at h;split at h
  .rename_i e A;split at h
   .rename_i J j;obtain⟨I,a0,F,d⟩:=wE hf.1 (hf.2.1 b) j;obtain⟨y,G,B⟩:=rM (P:=P) (u t e A) d h;refine⟨y,?_,B⟩;simp only[oW,F,asAddr,pure_bind];exact G
   .cases h
  .cases h
theorem vC{ty:Ty}(d:bT P ty){M:Mem}{N:Nm}{a:Act}{w:World}(hf:Fits M N s nt a w): ∀{l:List ResultVar} {u:List PV},qP ty s l=io u->
  ∃y:List Value,(l.mapM (oW a.tmps)).run P w= .ok y w∧u.length=y.length∧ ∀(j:Nat) (p:PV),u[j]? =io p->VR M N (· <s.nx) p (y.getD j undef)
 | [],u,h=>by
  simp only[qP,Qu]at h;subst h;exact⟨[],rfl,rfl,by simp⟩
 |v::r,u,h=>by
  simp only[qP]at h;split at h
  .rename_i p I;split at h
   .rename_i l G;simp only[Qu]at h;subst h;obtain⟨x,S,J⟩:=Dv d hf I;obtain⟨y,F,b,B⟩:=vC d hf G;refine⟨x::y,?_,by simp[b],fun j q A=>?_⟩
    .rw[List.mapM_cons,Sem.run_bind,S,Result.andThen_ok,Sem.run_bind,F];rfl
    .cases j with
     |zero=>simp at A;subst A;exact J
     |succ j=>simpa using B j q (by simpa using A)
   .cases h
  .cases h
theorem B2{ty:Ty}(I:bT P ty){M:Mem}{N:Nm}{a:Act}{w:World}(hf:Fits M N s nt a w){fn:Func}{l:List ResultVar}(J:fn.results.toList=l){p:PV}(h:jw ty s l=io p):
  ∃x,(results fn a.tmps).run P w= .ok x w∧VR M N (· <s.nx) p x:=by
 unfold jw at h;have key: ∀B,qP ty s l=io B-> ∃d:List Value,(fn.results.mapM (oW a.tmps)).run P w= .ok d.toArray w∧B.length=d.length∧ ∀(j:Nat) (p:PV),B[j]? =io p->VR M N (· <s.nx) p (d.getD j undef):=by
  intro B A;obtain⟨d,F,b,G⟩:=vC I hf A;refine⟨d,?_,b,G⟩;have e:fn.results.mapM (oW a.tmps)=(List.toArray<$>(fn.results.toList.mapM (oW a.tmps))):=by
   rw[Tv]
  rw[e,J,Sem.run_map,F];rfl
 have u:results fn a.tmps=(do let vs<-fn.results.mapM (oW a.tmps);pure (if h:vs.size=1 then vs[0] else .tuple vs)):=by
  unfold results;rfl
 split at h
 .rename_i q Y;simp only[Qu]at h;subst h;obtain⟨d,F,b,G⟩:=key _ Y
  match d,b with
  | [x],_=>
   refine⟨x,?_,by simpa using G 0 q D⟩;rw[u,Sem.run_bind,F];rfl
 .rename_i B y A;simp only[Qu]at h;subst h;obtain⟨d,F,b,G⟩:=key _ A;refine⟨.tuple d.toArray,?_,.bB _ _ (by simpa using b) (fun j p S=>?_)⟩
  .rw[u,Sem.run_bind,F,Result.andThen_ok];have: ¬d.toArray.size=1:=by
    intro e
    match B,y,b with
    | [q],y,_=>exact y q D
    | [],_,b=>simp at b e;omega
    |_::_::_,_,b=>simp at b e;omega
   rw[dif_neg this];rfl
  .have:=G j p S;rw[Qt];rw[Qx]at this;simpa using this
 .cases h
theorem Bl {ty:Ty} (Y:bT P ty) {k:FuncId} {fn:Func} {c:Code} (hf:P.funcs[k]? =io fn) (hb:fn.body=io c) (hn:(fn.name== "runtime.NumGoroutine")=lc) {nt:Nat} (c0:fn.ntmps=nt)
  {l:List ResultVar} (hl:fn.results.toList=l) {args:List PV} (b0:args.length<=nt) {os:List AO} {R:PV->AH->Nat->Prop}
  (h:GO P nt [.code c] (fun e s=>(e= .normal∨e= .ret)∧ ∃r,jw ty s l=io r∧R r s.h s.nx) ⟨nJ 0 args,dQ 0 os,os.length⟩):Fn P k args os R:=by
 refine⟨bY hf hb hn,fun M N w d hr A hv=>?_⟩;refine calls_of_wp hf hb ?_;have y:Fits M N ⟨nJ 0 args,dQ 0 os,os.length⟩ nt {tmps:=d.toArray++Sj (fn.ntmps-d.toArray.size) undef,defers:=[]} w:=by
  refine⟨hr,fun i=>?_,rfl,by simp;omega⟩;rw[uQ,am (QN _),TL,Qx];cases hi:args[i]? with
  |none=>exact .any _
  |some p=>
   have I:i<d.length:=by rw[<-A];exact(Qw.1 hi).1
   have:=hv i p hi;have e:(d.toArray++Sj (fn.ntmps-d.toArray.size) undef).getD i undef=d.getD i undef:=by
    rw[Qt,RB (by simpa using I),Qx];simp
   simp only[R2];rw[e];exact this
 refine AW.then h y fun e a' F j u s' hx b hq=>?_;simp only[kp]at hq;obtain⟨he,r,J,S⟩:=hq;obtain⟨x,Z,a0⟩:=B2 Y b hl J
 have:a'.defers=[]∧ ∃v,(results fn a'.tmps).run P F= .ok v F∧(∃x j u r G B,Ending.returned v= .returned x∧R r G B∧Ext M N (· <os.length) (dQ 0 os) w j u (· <B) G F∧Rel j u (· <B) G F∧VR j u (· <B) r x):=
  ⟨b.2.2.1,x,Z,x,j,u,r,s'.h,s'.nx,rfl,S,hx,b.1,a0⟩
 rcases he with rfl|rfl<;>exact this
end
theorem DO{ops:Array Oper}{o:Oper}(hs: ∀u b,o.op≠ .select u b){a b:Act}(h: ∀d∈o.looksAt ops,a.tmps[d]? =b.tmps[d]?):
  execOp a.eval o=execOp b.eval o∧Region.wanted o (Go.yielded ops a.tmps)=Region.wanted o (Go.yielded ops b.tmps):=by
 constructor
 .refine execOp_congr o hs fun x y=>?_
  cases x with
  |tmp t=>
   have:=h t (Q8 _ (List.mem_filterMap.2 ⟨.tmp t,by simpa using y,rfl⟩));simp only[Act.eval,Qt,this]
  |_=>rfl
 .unfold Region.wanted;cases hg:o.guard with
  |none=>rfl
  |some gw=>
   obtain⟨g,j⟩:=gw;have A:Go.yielded ops a.tmps g=Go.yielded ops b.tmps g:=by
    unfold Go.yielded;cases ht:(ops[g]?).bind (·.dst) with
    |none=>rfl
    |some t=>
     have:=h t (by simp[Oper.looksAt,hg,ht]);simp[this]
   simp only[A]
theorem km{all:List Oper}{o x:Oper}(h:looks all o x=lc){d:Nat}(hd:x.dst=io d):d∉o.looksAt all.toArray:=by
 simp only[looks,hd]at h;simpa using h
theorem eQ{o:Oper}{i:Nat}(h:waits o i=kw): ∃e∈o.after,Region.binds .any e=kw∧e.on=i:=by
 unfold waits at h;obtain⟨e,b,hb⟩:=RR.1 h;simp only[Q5]at hb;exact⟨e,by simpa using b,hb.1,QS hb.2⟩
theorem iF: ∀(l:List Oper) (n i:Nat) (o:Oper),fm n l=kw->l[i]? =io o-> ∀e∈o.after,Region.binds .any e=kw->e.on<n+i
 | [],n,i,o,_,h=>by simp at h
 |c::l,n,i,o,hd,h=>by
  simp only[fm,Q5,Q7]at hd;cases i with
  |zero=>
   simp at h;subst h;intro e b hb;have:=hd.1 e (by simpa using b);simp only[hb,S5,R4]at this;exact Qs this
  |succ i=>
   have:=iF l (n+1) i o hd.2 (by simpa using h);intro e b hb;have:=this e b hb;omega
theorem count_set: ∀(l:List Bool) (i:Nat),l[i]? =io lc->(l.set i kw).count lc+1=l.count lc
 | [],i,h=>by simp at h
 |c::l,0,h=>by simp at h;subst h;simp
 |c::l,i+1,h=>by
  have:=count_set l i (by simpa using h);simp only[List.set_cons_succ,List.count_cons];omega
theorem cJ{listed:Array Bool}{i:Nat}(h:listed.getD i kw=lc):(listed.setIfInBounds i kw).toList.count lc+1=listed.toList.count lc:=by
 have b:listed.toList[i]? =io lc:=by
  rw[Qt]at h;cases hc:listed[i]? with
  |none=>simp[hc]at h
  |some c=>simp[hc]at h;subst h;simpa using hc
 have:=count_set _ _ b;rw[Array.toList_setIfInBounds];exact this
theorem lx{listed:Array Bool}{i:Nat}(h:listed.getD i kw=lc):0<listed.toList.count lc:=by have:=cJ h;omega
theorem ey{listed:Array Bool}{i k:Nat}(hi:i<listed.size):(listed.setIfInBounds i kw).getD k kw=if k=i then kw else listed.getD k kw:=by
 by_cases b:k=i
 .subst b;simp[Qt,hi]
 .rw[be b,Qt,Rj,be (fun e=>b e.symm),Qt]
theorem dP{listed:Array Bool}{i:Nat}(h:listed.getD i kw=lc):i<listed.size:=by
 rcases RN i listed.size with h'|h'
 .exact h'
 .simp[Qt,Tk h']at h
theorem jW{listed:Array Bool}{i:Nat}(h:listed.getD i kw=lc):listed.getD i lc=lc:=by
 have:=dP h;rw[Qt] at*
 simpa[this]using h
theorem jx{all:List Oper}{listed:Array Bool}(x:listed.size=all.length)(hd:fm 0 all=kw)(hr:Region.ready .any all.toArray listed=[]): ∀i,listed.getD i kw=kw:=by
 intro i
 induction i using Nat.strongRecOn with
 |_ i ih=>
  cases hc:listed.getD i kw with
  |true=>rfl
  |false=>
   have y:=dP hc;have d:all[i]? =io (all[i]'(by omega)):=Qy (by omega);have:i∈Region.ready .any all.toArray listed:=by
    refine mem_ready.2 ⟨hc,_,(by rw[RU];exact d),fun e j hb=>?_⟩;have u:=iF all 0 i _ hd d e j hb;have:=ih e.on (by omega);have b:e.on<listed.size:=by omega
    rw[Qt]at this ⊢;simpa[b]using this
   rw[hr]at this;cases this
section
variable {P:Program} {nt:Nat} {all:List Oper} {todo pend:List (Nat×Oper)} {M:Mem} {N:Nm} {s:AS} {listed:Array Bool} {a:Act} {w:World} {Q:AQ}
theorem oJ.alloc{B:Bs}{o:Oper}{aB:Nat}(h:oJ P M N s B a w o aB):aF o=kw:=by
 obtain⟨t,v,d,b,_⟩:=h;simp[aF,b]
theorem gI.oj(b:gI P nt all){i j:Nat}{o q:Oper}(hi:all[i]? =io o)(hj:all[j]? =io q)(ha:aF o=kw)(hw:waits q i=lc)(hne:j≠i):looks all q o=lc:=by
 rcases((b i o hi ha).2.2.2.2 j q hj hne).1 with h|h
 .rw[hw]at h;cases h
 .exact h
theorem lF.same{b:Act}(hb: ∀d,(∀x∈pend,listed.getD x.1 kw=lc->x.2.dst≠io d)->(∀x∈todo,listed.getD x.1 kw=kw->x.2.dst≠io d)->a.tmps[d]? =b.tmps[d]?)
  (hns:Region.noSelect all.toArray=kw) {i:Nat} {o:Oper} (ho:all[i]? =io o) (hr:i∈Region.ready .any all.toArray listed) (hp: ∀x∈pend,waits o x.1=kw∨looks all o x.2=lc)
  (J: ∀x∈todo,listed.getD x.1 kw=kw->looks all o x.2=lc):
  execOp a.eval o=execOp b.eval o∧Region.wanted o (Go.yielded all.toArray a.tmps)=Region.wanted o (Go.yielded all.toArray b.tmps):=by
 refine DO (Region.noSelect_spec hns i o · · (by simpa using ho)) fun d hd=>hb d (fun x G A u=>?_) (fun x G A u=>km (J x G A) u hd);rcases hp x G with h|h
 .obtain⟨e,u,y,F⟩:=eQ h;obtain⟨_,S,B,j⟩:=mem_ready.1 hr;have:S=o:=by have:=B.symm.trans (by simpa using ho:all.toArray[i]? =io o);exact RC this
  subst this;have I:=j e u y;rw[F,jW A]at I;cases I
 .exact km h u hd
theorem eV(a:Act)(a0:Option Tmp)(v:Value)(d:Nat):(a.put a0 v).tmps[d]? =if a0=io d∧d<a.tmps.size then io v else a.tmps[d]? :=by
 cases a0 with
 |none=>simp[Act.put]
 |some e=>
  simp only[Act.put,Qu];rw[Rj];by_cases h:e=d
  .subst h;by_cases b:e<a.tmps.size
   .simp[b]
   .simp[b]
  .simp[h]
theorem iw(a:Act)(a0:Option Tmp)(v:Value):(a.put a0 v).tmps.size=a.tmps.size:=by cases a0<;>simp[Act.put]
theorem jd(a:Act)(a0:Option Tmp)(v:Value):(a.put a0 v).defers=a.defers:=by cases a0<;>rfl
theorem vD(a:Act)(a0:Option Tmp)(v:Value):(a.put a0 v).put a0 v=a.put a0 v:=by cases a0<;>simp[Act.put]
theorem oJ.put{B:Bs}{o:Oper}{aB:Nat}(h:oJ P M N s B a w o aB){a0:Option Tmp}{v:Value}(hd: ∀d,o.dst=io d->a0≠io d):oJ P M N s B (a.put a0 v) w o aB:=by
 obtain⟨t,u,d,j,x,b,y,A⟩:=h;refine⟨t,u,d,j,x,b,?_,A⟩;rw[eV,be (fun F=>hd d b F.1)];exact y
theorem lF.take{B:Bs}(hi:lF P nt all todo pend B M N s listed a w)(hns:Region.noSelect all.toArray=kw)(d0:gI P nt all){x:Nat×Oper}(F:x∈pend)(hr:x.1∈Region.ready .any all.toArray listed):
  ∃v,YieldsAt P all.toArray w x.2 v a∧lF P nt all todo pend B M N s (listed.setIfInBounds x.1 kw) (a.put x.2.dst v) w:=by
 obtain⟨b,hb,b0,k0,c0,I⟩:=hi.ap;obtain⟨bl,e0,m0⟩:=hi.er;have hl:=(mem_ready.1 hr).1;obtain⟨v,hv,a0⟩:=I x F hl;have J: ∀y∈todo,listed.getD y.1 kw=kw->looks all x.2 y.2=lc∧ ∀d,y.2.dst=io d->x.2.dst≠io d:=fun y j u=>by
  have S:=(e0 y j u).alloc;exact⟨d0.oj (hi.tl y j) (hi.pl x F) S (hi.pa x F y j S) (fun e=>hi.dj x F y j e.symm),((d0 _ _ (hi.tl y j) S).2.2.2.2 _ _ (hi.pl x F) (fun e=>hi.dj x F y j e.symm)).2⟩
 have A:=lF.same c0 hns (hi.pl x F) hr (fun y I=>hi.pp y I x F) (fun y j u=>(J y j u).1);have Z:=dP hl;have f0: ∀k,(listed.setIfInBounds x.1 kw).getD k kw=lc->k≠x.1∧listed.getD k kw=lc:=by
  intro k hk;rw[ey Z]at hk;split at hk
  .cases hk
  .rename_i h;exact⟨h,hk⟩
 have G: ∀y∈todo,(listed.setIfInBounds x.1 kw).getD y.1 kw=listed.getD y.1 kw:=fun y I=>by rw[ey Z,be (hi.dj x F y I)]
 refine⟨v,hv.of_same A.1 A.2,⟨by simp[hi.size],hi.tl,hi.pl,hi.dj,fun i o ho hu=>hi.xR i o ho (f0 i hu).2,hi.pw,hi.pp,hi.pa,⟨bl,fun y j u=>?_,fun y j z i0 h1 h2=>?_⟩,b,hb,by rw[iw,b0],by rw[jd,k0],fun d hd j0=>?_,fun y n0 hu=>?_⟩⟩
 .rw[G y j]at u;exact(e0 y j u).put (J y j u).2
 .rw[G y j]at h1;rw[G z i0]at h2;exact m0 y j z i0 h1 h2
 .rw[eV];split
  .rename_i h;rw[<-a0,eV,am ⟨h.1,by rw[<-b0];exact h.2⟩]
  .rename_i h;by_cases Y:x.2.dst=io d
   .have h2: ¬d<a.tmps.size:=fun h3=>h ⟨Y,h3⟩
    rw[Tk (Su h2),Tk (by rw[<-b0];exact Su h2)]
   .refine c0 d (fun y I hu he=>?_) (fun y j u=>j0 y j (by rw[G y j];exact u));by_cases g0:y.1=x.1
    .have h3:=hi.pl y I;rw[g0,hi.pl x F]at h3;rw[RC h3]at Y;exact Y he
    .exact hd y I (by rw[ey Z,be g0];exact hu) he
 .exact I y n0 (f0 _ hu).2
theorem Rel.more{M:Mem}{N:Nm}{n:Nat}{h:AH}{w u:World}(hr:Rel M N (· <n) h w)(j: ∀b,b<w.heap.size->u.heap[b]? =w.heap[b]?):Rel M N (· <n) h u:=by
 refine⟨fun b c hb=>?_,hr.used,hr.dW,fun i o d=>?_,hr.inj⟩
 .exact(hr.dT b c hb).mono (j b (hr.dT b c hb).lt)
 .cases hre:o.real with
  |true=>exact(hr.obj i o d).mono (.refl _) (.refl _ _) (fun _ h=>h) (hr.used i o d) (j _ (hr.lt d hre))
  |false=>
   cases o with
   |row sz es=>cases es with
    |nil=>exact .inl D
    |cons=>cases hre
   |bu l T=>cases l with
    |nil=>exact .inl D
    |cons=>cases hre
   |_=>cases hre
theorem tT{ops:Array Oper}(h: ∀i,listed.getD i kw=kw):Region.ready .any ops listed=[]:=by
 cases hr:Region.ready .any ops listed with
 |nil=>rfl
 |cons i r=>
  have:i∈Region.ready .any ops listed:=by rw[hr];simp
  have:=(mem_ready.1 this).1;rw[h i]at this;cases this
theorem lF.done{B:Bs}(hi:lF P nt all [] pend B M N s listed a w)(j: ∀i,listed.getD i kw=kw):Fits M N s nt a w:=by
 obtain⟨b,hb,F,u,y,_⟩:=hi.ap;have A:a.tmps=b.tmps:=Array.ext_getElem? fun d=>y d (fun x _ hu=>by rw[j]at hu;cases hu) (fun _ G=>(nomatch G));have:a=b:=by cases a;cases b;simp only at A u;subst A;subst u;rfl
 rw[this];exact hb
theorem M4(h:Q .normal s):DL P nt all [] pend Q s:=by
 intro A hd x B M N listed a w b hB
 induction b generalizing listed a with
 |zero=>
  intro j S;have d: ∀i,listed.getD i kw=kw:=fun i=>by
   cases hx:listed.getD i kw with
   |true=>rfl
   |false=>have:=lx hx;omega
  exact⟨tT d,M,N,s,hB,j.done d,h⟩
 |succ b ih=>
  intro j S;refine⟨fun Y=>⟨M,N,s,hB,j.done (jx j.size hd Y),h⟩,fun i u=>?_⟩;obtain⟨hu,o,I,_⟩:=mem_ready.1 u;have F:all[i]? =io o:=by simpa using I
  rcases j.xR i o F hu with hm|hm
  .cases hm
  .obtain⟨v,Z,y⟩:=j.take A x hm u;refine wpOp_of_stOp (K:=fun G=>G=a.put o.dst v) (fun G J=>?_) (Z.stOp I D);subst J;exact ih _ _ y (by have:=cJ hu;omega)
def vj(all:List Oper)(pend:List (Nat×Oper))(o:Oper):Bool:=
 !looks all o o&&pend.all fun y=>!looks all y.2 o&&(waits o y.1||!looks all o y.2)&&(match o.dst,y.2.dst with|some d,io e=>!Q6 d e|_,_=>kw)
theorem lF.read{B:Bs}(hi:lF P nt all todo pend B M N s listed a w)(hns:Region.noSelect all.toArray=kw){i:Nat}{o:Oper}{s':AS}(G:(i,o)∈todo)(m0:aF o=lc)(q0: ∀x∈todo,waits o x.1=lc)(j:vj all pend o=kw)(he:s'.h=s.h∧s'.nx=s.nx)
  (hy: ∀M N b w,Fits M N s nt b w-> ∃v,YieldsAt P all.toArray w o v b∧Fits M N s' nt (b.put o.dst v) w):lF P nt all (todo.filter fun x=>!Q6 x.1 i) ((i,o)::pend) B M N s' listed a w:=by
 have J: ∀x∈todo.filter fun x=>!Q6 x.1 i,x∈todo∧x.1≠i:=fun x hx=>by
  obtain⟨h7,h8⟩:=Rn.1 hx;exact⟨h7,fun e=>by simp[e]at h8⟩
 have h1: ∀x∈todo,x=(i,o)∨x∈todo.filter fun x=>!Q6 x.1 i:=fun x hx=>by
  by_cases I:x.1=i
  .have S:=hi.tl x hx;rw[I,hi.tl _ G]at S;exact .inl (by obtain⟨x1,x2⟩:=x;simp only at I S;rw[I,RC S])
  .exact .inr (Rn.2 ⟨hx,by cases hb:Q6 x.1 i with|false=>rfl|true=>exact absurd (QS hb) I⟩)
 simp only[vj,Q5,Q7,Rw]at j;obtain⟨b,hb,n0,i0,c0,r0⟩:=hi.ap;obtain⟨bl,a0,k0⟩:=hi.er;have b0:listed.getD i kw=lc:=by
  cases F:listed.getD i kw with
  |false=>rfl
  |true=>have:=(a0 _ G F).alloc;simp only at this;rw[m0]at this;cases this
 obtain⟨v,hv,hf⟩:=hy M N b w hb;refine⟨hi.size,fun x hx=>hi.tl x (J x hx).1,fun x hx=>?_,fun x hx y hy=>?_,fun k q hk hu=>?_,?_,fun x hx y hy=>?_,fun y hyp x hx d0=>?_,⟨bl,fun x hx F=>?_,fun x hx y hy=>k0 x (J x hx).1 y (J y hy).1⟩,b.put o.dst v,hf,by rw[iw,n0],by rw[jd,i0],fun d Y g0=>?_,fun x hx hu=>?_⟩
 .rcases QY.1 hx with rfl|hx
  .exact hi.tl _ G
  .exact hi.pl x hx
 .rcases QY.1 hx with rfl|hx
  .exact(J y hy).2
  .exact hi.dj x hx y (J y hy).1
 .rcases hi.xR k q hk hu with hm|hm
  .rcases h1 _ hm with e|hm
   .exact .inr (by rw[e];simp)
   .exact .inl hm
  .exact .inr (QR _ hm)
 .refine R8.2 ⟨fun y hy=>⟨(j.2 y hy).1.1,fun d Z j0=>?_⟩,hi.pw⟩;have:=(j.2 y hy).2;simp only at Z;rw[Z,j0]at this;simp at this
 .rcases QY.1 hx with rfl|hx<;>rcases QY.1 hy with rfl|hy
  .exact .inr j.1
  .exact .inr (j.2 y hy).1.1
  .have:=(j.2 x hx).1.2;simpa using this
  .exact hi.pp x hx y hy
 .rcases QY.1 hyp with rfl|hyp
  .exact q0 x (J x hx).1
  .exact hi.pa y hyp x (J x hx).1 d0
 .have S:=a0 x (J x hx).1 F;unfold oJ at*
  rw[he.1];exact S
 .rw[eV,be (fun hc=>Y (i,o) (by simp) b0 hc.1)];refine c0 d (fun x hx=>Y x (QR _ hx)) (fun x hx F=>?_);rcases h1 x hx with e|hx
  .rw[e]at F;simp only at F;rw[b0]at F;cases F
  .exact g0 x hx F
 .have A: ∀x:Oper,looks all x o=lc-> ∀d,o.dst=io d->d∉x.looksAt all.toArray:=fun x hx d hd=>km hx hd
  rcases QY.1 hx with rfl|hx
  .exact⟨v,hv.of_same (execOp_put o (fun cs b=>Region.noSelect_spec hns i o cs b (by simpa using hi.tl _ G)) b o.dst v (A o j.1)) (wanted_put o b o.dst v (A o j.1)),vD _ _ _⟩
  .obtain⟨u,o0,p0⟩:=r0 x hx hu;have F:=(j.2 x hx).1.1;refine⟨u,o0.of_same (execOp_put x.2 (fun cs b=>Region.noSelect_spec hns x.1 x.2 cs b (by simpa using hi.pl x hx)) b o.dst v (A x.2 F)) (wanted_put x.2 b o.dst v (A x.2 F)),?_⟩;rw[Act.put_comm b v u (fun d e0 f0=>?_),p0];have:=(j.2 x hx).2;rw[e0,f0]at this;simp at this
theorem CJ{i:Nat}{o:Oper}{s':AS}(A:(i,o)∈todo)(F:aF o=lc)(G: ∀x∈todo,waits o x.1=lc)(j:vj all pend o=kw)(he:s'.h=s.h∧s'.nx=s.nx)
  (S: ∀M N b w,Fits M N s nt b w-> ∃v,YieldsAt P all.toArray w o v b∧Fits M N s' nt (b.put o.dst v) w) (h:DL P nt all (todo.filter fun x=>!Q6 x.1 i) ((i,o)::pend) Q s'):DL P nt all todo pend Q s:=by
 intro u hd y B M N listed a w d hB J I;exact h u hd y B M N listed a w d (by unfold Bs.ext at*;rw[he.1,he.2];exact hB) (J.read u A F G j he S) I
theorem od(hns:Region.noSelect all.toArray=kw): ∀{pend:List (Nat×Oper)},(∀x∈pend,all[x.1]? =io x.2)->(pend.Pairwise fun x y=>looks all y.2 x.2=lc∧ ∀d,x.2.dst=io d->y.2.dst≠io d)->
  (∀x∈pend,looks all x.2 x.2=lc)->(∀x∈pend,fP P nt all s x.2)-> ∀{b:Act},Fits M N s nt b w->
  ∃c:Act,Fits M N s nt c w∧c.tmps.size=b.tmps.size∧c.defers=b.defers∧(∀d,(∀x∈pend,listed.getD x.1 kw=lc->x.2.dst≠io d)->c.tmps[d]? =b.tmps[d]?)∧
   (∀x∈pend,listed.getD x.1 kw=lc-> ∃v,YieldsAt P all.toArray w x.2 v c∧c.put x.2.dst v=c)
 | [],_,_,_,_,b,hb=>⟨b,hb,rfl,rfl,fun _ _=>rfl,fun x hx=>by cases hx⟩
 |(i,o)::pend,hpl,hpw,hse,hag,b,hb=>by
  rw[R8]at hpw;obtain⟨c,hc,J,G,B,F⟩:=od hns (pend:=pend) (fun x hx=>hpl x (QR _ hx)) hpw.2 (fun x hx=>hse x (QR _ hx)) (fun x hx=>hag x (QR _ hx)) hb;cases hu:listed.getD i kw with
  |true=>
   refine⟨c,hc,J,G,fun d hd=>B d fun x hx=>hd x (QR _ hx),fun x hx A=>?_⟩;rcases QY.1 hx with rfl|hx
   .rw[hu]at A;cases A
   .exact F x hx A
  |false=>
   obtain⟨v,hv,hf⟩:=hag (i,o) (by simp) M N c w hc;have j: ∀x:Oper,looks all x o=lc-> ∀d,o.dst=io d->d∉x.looksAt all.toArray:=fun x hx d hd=>km hx hd;refine⟨c.put o.dst v,hf,by rw[iw,J],by rw[jd,G],fun d hd=>?_,fun x hx A=>?_⟩
   .rw[eV,be (fun h=>hd (i,o) (by simp) hu h.1)];exact B d fun x hx=>hd x (QR _ hx)
   .rcases QY.1 hx with rfl|hx
    .have I:=hse (i,o) (by simp);exact⟨v,hv.of_same (execOp_put o (fun S b=>Region.noSelect_spec hns i o S b (by simpa using hpl (i,o) (by simp))) c o.dst v (j o I)) (wanted_put o c o.dst v (j o I)),vD _ _ _⟩
    .obtain⟨u,a0,b0⟩:=F x hx A;have I:=(hpw.1 x hx).1;refine⟨u,a0.of_same (execOp_put x.2 (fun S b=>Region.noSelect_spec hns x.1 x.2 S b (by simpa using hpl x (QR _ hx))) c o.dst v (j x.2 I)) (wanted_put x.2 c o.dst v (j x.2 I)),?_⟩;rw[Act.put_comm c v u (fun d Y Z=>(hpw.1 x hx).2 d Y Z),b0]
theorem BD{o:Oper}{a b:Act}{w:World}{K K':Act->World->Prop}{Q:Exit->Act->World->Prop}(he:execOp a.eval o=execOp b.eval o)(u: ∀d j,¬K' ({b with defers:=d::b.defers}.put o.dst undef) j)
  (y: ∀v j,K' (b.put o.dst v) j->K (a.put o.dst v) j) (h:o.wp P b w K' fun _ _ _=>False):o.wp P a w K Q:=by
 unfold Oper.wp at*
 rw[he];generalize(execOp b.eval o).run P w=r at*
 cases r with
 |ok n j=>
  cases n<;>simp only[Oper.upon]at h ⊢
  case value v=>exact y _ _ h
  case skip=>exact y _ _ h
  case defer d=>exact absurd h (u d j)
  case enter f args=>
   refine Calls.mono h fun e A he=>?_
   cases e with
   |returned v=>exact y _ _ he
   |panicked c=>exact he.elim
   |outgrown=>obtain⟨_,_,h⟩:=he;exact h.elim
  case row row args=>exact Rows.mono h fun v A he=>y _ _ he
 |halt x j=>cases x<;>simp only[Oper.upon]at h ⊢
def gT(all:List Oper)(pend:List (Nat×Oper))(o:Oper):Bool:=pend.all fun x=>waits o x.1||!looks all o x.2
theorem lF.early{B:Bs}(hi:lF P nt all todo pend B M N s listed a w)(hns:Region.noSelect all.toArray=kw)(hd:fm 0 all=kw)(k0:gI P nt all)(hB:B.ext M N s w)(b0: ∀x∈pend,fP P nt all s x.2){j:Nat}{o:Oper}(hm:(j,o)∈todo)(ha:aF o=kw)
  (hu:listed.getD j kw=lc): ∃v w',(execOp a.eval o).run P w= .ok (.value v) w'∧B.ext M N s w'∧lF P nt all todo pend B M N s (listed.setIfInBounds j kw) (a.put o.dst v) w':=by
 obtain⟨b,hb,i0,r0,j0,hy⟩:=hi.ap;obtain⟨bl,g0,t0⟩:=hi.er;obtain⟨h1,⟨d,J,s0⟩,⟨t,z,ht,hz⟩,_,c0⟩:=k0 j o (hi.tl _ hm) ha;have F:=dP hu;have hk: ∀b,b<w.heap.size->(w.alloc (.cells z.cells t)).heap[b]? =w.heap[b]? :=fun b hb=>yc w _ b hb
 have a0:Ext M N (· <s.nx) s.h w M N (· <s.nx) s.h (w.alloc (.cells z.cells t)):=
  ⟨rfl,rfl,rfl,by simp,fun b hb _=>hk b hb,.refl _,fun b c h1 h2=>by simp[h1]at h2,.refl _ _,fun _ h=>h,fun i o hi d0=> .inr ⟨i,o,hi,d0,rfl⟩⟩
 have w0: ∀x∈pend,looks all x.2 x.2=lc:=fun x A=>by
  rcases hi.pp x A x A with h7|h7
  .obtain⟨e,he,hb,d1⟩:=eQ h7;have:=iF all 0 x.1 x.2 hd (hi.pl x A) e he hb;omega
  .exact h7
 obtain⟨c,o0,p0,n0,m0,q0⟩:=od (listed:=listed.setIfInBounds j kw) hns hi.pl hi.pw w0 b0 (M:=M) (N:=N) (w:=w.alloc (.cells z.cells t)) (b:=b) ⟨hb.1.more hk,hb.2⟩;refine⟨.pointer (io ⟨w.heap.size,0,jp⟩),w.alloc (.cells z.cells t),?_,hB.trans a0,by simp[hi.size],hi.tl,hi.pl,hi.dj,fun i q hq Z=>?_,hi.pw,hi.pp,hi.pa,⟨fun k=>if k=j then w.heap.size else bl k,fun x A hl=>?_,fun x A y hy G S Y=>?_⟩,c,o0,by rw[iw,p0,i0],by rw[jd,n0,r0],fun d' e0 f0=>?_,q0⟩
 .simp only[execOp,ht];simp[Instr.alloc,hz,newVar,newRow]
 .rw[ey F]at Z;split at Z
  .cases Z
  .exact hi.xR i q hq Z
 .simp only;by_cases u:x.1=j
  .have a1:x.2=o:=by
    have:=hi.tl x A;rw[u,hi.tl _ hm]at this;exact(RC this).symm
   rw[am u,a1];refine⟨t,z,d,ht,hz,J,?_,heap_alloc_new w _,hb.1.y9,fun i o v0 d0 he=>?_,hB.size⟩
   .rw[eV,am ⟨J,by rw[i0,hb.2.2.2];exact s0⟩]
   .have:=hb.1.lt v0 d0;omega
  .rw[be u];rw[ey F,be u]at hl;obtain⟨t',v',d',k1,k2,k3,k4,k5,k6⟩:=g0 x A hl;refine⟨t',v',d',k1,k2,k3,?_,?_,k6⟩
   .rw[eV,be (fun hc=>(c0 x.1 x.2 (hi.tl x A) u).2 d J (by rw[k3,<-hc.1,J]))];exact k4
   .rw[hk _ (RO.1 k5).1];exact k5
 .simp only;rw[ey F]at G S;have Ou: ∀z∈todo,z.1≠j->(if z.1=j then kw else listed.getD z.1 kw)=kw->bl z.1<w.heap.size:=fun z hz b1 hl=>by
   rw[be b1]at hl;obtain⟨_,_,_,_,_,_,_,k5,_⟩:=g0 z hz hl;exact(RO.1 k5).1
  by_cases u:x.1=j<;>by_cases I:y.1=j
  .exact absurd (u.trans I.symm) Y
  .rw[am u,be I];have:=Ou y hy I S;omega
  .rw[be u,am I];have:=Ou x A u G;omega
  .rw[be u,be I];rw[be u]at G;rw[be I]at S;exact t0 x A y hy G S Y
 .rw[eV,be (fun hc=>f0 (j,o) hm (by rw[ey F,am D]) hc.1),m0 d' e0];refine j0 d' (fun x A x0=>e0 x A ?_) (fun x A G=>f0 x A ?_)
  .have Y:x.1≠j:=fun e=>hi.dj x A _ hm e.symm
   rw[ey F,be Y];exact x0
  .rw[ey F];split
   .rfl
   .exact G
theorem oJ.step{B:Bs}{y:Mem}{S:Nm}{s':AS}{Z:World}{o:Oper}{aB:Nat}(h:oJ P M N s B a w o aB)(J:Ext M N (· <s.nx) s.h w y S (· <s'.nx) s'.h Z):oJ P y S s' B a Z o aB:=by
 obtain⟨t,v,d,h1,h2,h3,h4,Y,h6,A,h8⟩:=h;have G:=(RO.1 Y).1;refine⟨t,v,d,h1,h2,h3,h4,by rw[J.fG aB G A];exact Y,?_,fun i o F I he=>?_,h8⟩
 .cases hm:y aB with
  |none=>rfl
  |some c=>
   rcases J.gK aB c h6 hm with x|⟨i,o,x,b,u⟩
   .omega
   .exact absurd u (A i o x b)
 .rcases J.fV i o F I with x|⟨j,p,x,b,u⟩
  .omega
  .exact A j p x b (u.trans he)
def nA(todo:List (Nat×Oper))(E:List Nat):Bool:=todo.all fun x=>E.contains x.1||(aF x.2||todo.any fun y=>!aF y.2&&waits x.2 y.1)
theorem lF.eff{B:Bs}(hi:lF P nt all todo pend B M N s listed a w)(hns:Region.noSelect all.toArray=kw)(hd:fm 0 all=kw)(i0:gI P nt all){j:Nat}{o:Oper}(hm:(j,o)∈todo)(h0: ∀x∈todo,aF x.2=kw->waits o x.1=lc)
  (h1:gT all pend o=kw) (hj:j∈Region.ready .any all.toArray listed) (hu:listed.getD j kw=lc): ∃b,Fits M N s nt b w∧execOp a.eval o=execOp b.eval o∧Region.wanted o (Go.yielded all.toArray a.tmps)=Region.wanted o (Go.yielded all.toArray b.tmps)∧
   ∀v M' N' s' w',Ext M N (· <s.nx) s.h w M' N' (· <s'.nx) s'.h w'->Fits M' N' s' nt (b.put o.dst v) w'->(∀x∈a8 pend o,fP P nt all s' x.2)->
    lF P nt all (todo.filter fun x=>!Q6 x.1 j) (a8 pend o) B M' N' s' (listed.setIfInBounds j kw) (a.put o.dst v) w':=by
 obtain⟨bl,k0,b1⟩:=hi.er;obtain⟨_,o2,n0,a0⟩:=mem_ready.1 hj;have c0:=hi.tl _ hm;have e1:o2=o:=by
  have:all[j]? =io o2:=by simpa using n0
  exact RC (this.symm.trans c0)
 rw[e1]at n0 a0;have e0:=dP hu;obtain⟨b,hb,p0,a1,g0,k1⟩:=hi.ap;have f1: ∀x∈pend,waits o x.1=kw∨looks all o x.2=lc:=fun x u=>by
  have:=Q7.1 h1 x u;simpa using this
 have b0: ∀x∈todo,listed.getD x.1 kw=kw->looks all o x.2=lc∧ ∀d,x.2.dst=io d->o.dst≠io d:=fun x u G=>by
  have f0:=(k0 x u G).alloc;have S:j≠x.1:=fun e=>by rw[<-e,hu]at G;cases G
  exact⟨i0.oj (hi.tl x u) c0 f0 (h0 x u f0) S,((i0 _ _ (hi.tl x u) f0).2.2.2.2 _ _ c0 S).2⟩
 have Z:=lF.same g0 hns c0 hj f1 (fun x u G=>(b0 x u G).1);have Y: ∀x∈pend,listed.getD x.1 kw=lc->x∈a8 pend o:=fun x u d0=>by
  refine Rn.2 ⟨u,?_⟩;cases hw:waits o x.1 with
  |false=>rfl
  |true=>
   obtain⟨e,he,hb,o0⟩:=eQ hw;have:=a0 e he hb;rw[o0,jW d0]at this;cases this
 have i1: ∀k,(listed.setIfInBounds j kw).getD k kw=lc->k≠j∧listed.getD k kw=lc:=by
  intro k hk;rw[ey e0]at hk;split at hk
  .cases hk
  .rename_i h;exact⟨h,hk⟩
 have F: ∀x∈a8 pend o,x∈pend:=fun x u=>(Rn.1 u).1
 have A: ∀x∈todo.filter (fun x=>!Q6 x.1 j),x∈todo∧x.1≠j:=fun x u=>by
  obtain⟨h7,h8⟩:=Rn.1 u;exact⟨h7,fun e=>by simp[e]at h8⟩
 refine⟨b,hb,Z.1,Z.2,fun v M' N' s' w' u hf h5=>?_⟩;have g1: ∀x∈a8 pend o,looks all x.2 x.2=lc:=fun x u=>by
  rcases hi.pp x (F x u) x (F x u) with h7|h7
  .obtain⟨e,he,hb,o0⟩:=eQ h7;have:=iF all 0 x.1 x.2 hd (hi.pl x (F x u)) e he hb;omega
  .exact h7
 obtain⟨c,t0,v0,s0,r0,w0⟩:=od (listed:=listed.setIfInBounds j kw) hns (fun x u=>hi.pl x (F x u)) (hi.pw.sublist Ts) g1 h5 hf;have I: ∀x∈todo.filter (fun x=>!Q6 x.1 j),(listed.setIfInBounds j kw).getD x.1 kw=listed.getD x.1 kw:=fun x u=>by rw[ey e0,be (A x u).2]
 refine⟨by simp[hi.size],fun x u=>hi.tl x (A x u).1,fun x u=>hi.pl x (F x u),fun x u y hy=>hi.dj x (F x u) y (A y hy).1,fun k q hk d1=>?_,hi.pw.sublist Ts,
      fun x u y hy=>hi.pp x (F x u) y (F y hy),fun y hy x u=>hi.pa y (F y hy) x (A x u).1,⟨bl,fun x J G=>?_,fun x J y q0 h1 h2=>?_⟩,c,t0,by rw[v0,iw,iw,p0],by rw[s0,jd,jd,a1],fun d j0 x0=>?_,w0⟩
 .obtain⟨h7,h8⟩:=i1 k d1;rcases hi.xR k q hk h8 with h9|h9
  .exact .inl (Rn.2 ⟨h9,by cases hb:Q6 k j with|false=>rfl|true=>exact absurd (QS hb) h7⟩)
  .exact .inr (Y _ h9 h8)
 .rw[I x J]at G;exact((k0 x (A x J).1 G).step u).put (b0 x (A x J).1 G).2
 .rw[I x J]at h1;rw[I y q0]at h2;exact b1 x (A x J).1 y (A y q0).1 h1 h2
 .rw[r0 d j0,eV,eV,p0];split
  .rfl
  .refine g0 d (fun x u d0=>j0 x (Y x u d0) ?_) (fun x J G=>?_)
   .have S:x.1≠j:=fun e=>hi.dj x u _ hm e.symm
    rw[ey e0,be S];exact d0
   .have S:x.1≠j:=fun e=>by rw[e,hu]at G;cases G
    have m0:x∈todo.filter (fun x=>!Q6 x.1 j):=Rn.2 ⟨J,by cases hb:Q6 x.1 j with|false=>rfl|true=>exact absurd (QS hb) S⟩;exact x0 x m0 (by rw[I x m0];exact G)
theorem M5{E:List Nat}(hE:nA todo E=kw)(hne: ∃x∈todo,aF x.2=lc)(b0: ∀x∈todo,aF x.2=kw-> ∀x∈pend,fP P nt all s x.2)
  (h: ∀j o,j∈E->(j,o)∈todo->(∀o',(j,o')∈todo->o'=o)->aF o=lc∧(∀x∈todo,aF x.2=kw->waits o x.1=lc)∧gT all pend o=kw∧(∀M N b w,Fits M N s nt b w->Region.wanted o (Go.yielded all.toArray b.tmps)=kw)∧ ∃R,OT P nt o s R∧
   ∀s',R s'->(∀x∈a8 pend o,fP P nt all s' x.2)∧DL P nt all (todo.filter fun x=>!Q6 x.1 j) (a8 pend o) Q s'):DL P nt all todo pend Q s:=by
 intro J hd A B M N listed a w u hB
 induction u generalizing listed a w with
 |zero=>
  intro I hc;obtain⟨x,G,F⟩:=hne;have o0:listed.getD x.1 kw=lc:=by
   obtain⟨bl,d0,_⟩:=I.er;cases hl:listed.getD x.1 kw with
   |false=>rfl
   |true=>have:=(d0 x G hl).alloc;rw[F]at this;cases this
  have:=lx o0;omega
 |succ u ih=>
  intro I hc;obtain⟨bl,d0,p0⟩:=I.er;have Z: ∀x∈todo,aF x.2=lc->listed.getD x.1 kw=lc:=fun x G F=>by
   cases hl:listed.getD x.1 kw with
   |false=>rfl
   |true=>have:=(d0 x G hl).alloc;rw[F]at this;cases this
  refine⟨fun hr=>?_,fun j hj=>?_⟩
  .obtain⟨x,G,F⟩:=hne;have:=jx I.size hd hr x.1;rw[Z x G F]at this;cases this
  obtain⟨hu,o,ho,c0⟩:=mem_ready.1 hj;have f0:all[j]? =io o:=by simpa using ho
  have q0:=dP hu;rcases I.xR j o f0 hu with hm|hm
  .cases hja:aF o with
   |true=>
    obtain⟨v,w',g0,j0,e0⟩:=I.early J hd A hB (b0 _ hm hja) hm hja hu;unfold wpOp;simp only[ho];rw[am (gh (A j o f0 hja).1 _)];refine .inl ?_;unfold Oper.wp;rw[g0];simp only[Oper.upon];exact ih _ _ _ j0 e0 (by have:=cJ hu;omega)
   |false=>
   have k0:j∈E:=by
    have:=Q7.1 hE _ hm;simp only[R9,RR,Q5,Rw]at this;rcases this with h1|h1|⟨y,hy,h0,h1⟩
    .simpa using h1
    .rw[hja]at h1;cases h1
    .obtain⟨e,he,hb,n0⟩:=eQ h1;have:=c0 e he hb;rw[n0,jW (Z y hy h0)]at this;cases this
   obtain⟨_,h0,h1,h2,R,h3,h4⟩:=h j o k0 hm (fun o' m0=>by
    have:=I.tl _ m0;simp only at this;rw[f0]at this
    exact(RC this).symm)
   obtain⟨b,hb,a0,i0,hnew⟩:=I.eff J hd A hm h0 h1 hj hu;unfold wpOp;simp only[ho];rw[am (by rw[i0];exact h2 M N b w hb)];refine .inl (BD (K':=fun a' w'=> ∃S Y s',Ext M N (· <s.nx) s.h w S Y (· <s'.nx) s'.h w'∧Fits S Y s' nt a' w'∧R s') a0 ?_ ?_ (h3 M N b w hb _ _ fun S Y s' a' w' G hf hr=>⟨S,Y,s',G,hf,hr⟩))
   .rintro d w' ⟨S,Y,s',_,hf,_⟩;have:=hf.2.2.1;rw[jd]at this;cases this
   .rintro v w' ⟨S,Y,s',G,hf,hr⟩;obtain⟨h5,h6⟩:=h4 s' hr;exact h6 J hd A B S Y _ _ w' u (hB.trans G) (hnew v S Y s' w' G hf h5) (by have:=cJ hu;omega)
  .obtain⟨v,hv,e0⟩:=I.take J A hm hj;refine wpOp_of_stOp (K:=fun a'=>a'=a.put o.dst v) (fun a' ha=>?_) (hv.stOp ho D);subst ha;exact ih _ _ _ hB e0 (by have:=cJ hu;omega)
theorem Rel.CZ{M:Mem}{N:Nm}{n:Nat}{h:AH}{w:World}(hr:Rel M N (· <n) h w){aB e:Nat}{o:AO}(hM:M aB=jp)(hne: ∀i p,h.get i=io p->p.real=kw->N.aB i≠aB)(ho:OR M (N.with n aB e) (· <n+1) w n o):
  Rel M (N.with n aB e) (· <n+1) ((n,io o)::h) w:=by
 have A:=N.eP n aB e;have b: ∀i p,AH.get ((n,io o)::h) i=io p->(i=n∧p=o)∨(i<n∧h.get i=io p):=by
  intro i p u;rw[AH.ay]at u;split at u
  .rename_i B;exact .inl ⟨B,by simpa using u.symm⟩
  .exact .inr ⟨hr.used i p u,u⟩
 refine⟨hr.dT,fun i p u=>?_,fun i p u F=>?_,fun i p u=>?_,fun i j p q u Y J S d=>?_⟩
 .rcases b i p u with⟨rfl,rfl⟩|⟨x,y⟩<;>omega
 .rcases b i p u with⟨rfl,rfl⟩|⟨x,y⟩
  .simpa using hM
  .rw[A.aB i x];exact hr.dW i p y F
 .rcases b i p u with⟨rfl,rfl⟩|⟨x,y⟩
  .exact ho
  .exact(hr.obj i p y).mono (.refl _) A (fun i u=>by omega) x D
 .rcases b i p u with⟨rfl,rfl⟩|⟨x,y⟩<;>rcases b j q Y with⟨rfl,rfl⟩|⟨G,I⟩
  .rfl
  .rw[A.aB j G]at d;simp at d;exact absurd d.symm (hne _ _ I S)
  .rw[A.aB i x]at d;simp at d;exact absurd d (hne _ _ y J)
  .rw[A.aB i x,A.aB j G]at d;exact hr.inj i j p q y I J S d
def yb(todo:List (Nat×Oper))(i:Nat):Bool:=todo.all fun x=>Q6 x.1 i||(aF x.2||(waits x.2 i||todo.any fun y=>!aF y.2&&waits x.2 y.1))
def jY(s:AS)(d:Nat)(cs:List PV):AS:=match s with|⟨f,h,n⟩=>⟨(d,.ptr n 0)::f,(n,io (.cells cs))::h,n+1⟩
theorem Gs{i:Nat}{o:Oper}{t:TypeId}{z:Value}{d:Nat}(c0:(i,o)∈todo)(ht:o.op= .alloc t)(hz: ∀w,(zeroValue t).run P w= .ok z w)(o0:o.dst=io d)(hE:yb todo i=kw)
  (m0: ∀x∈pend,fP P nt all s x.2) (Z: ∀x∈pend,fP P nt all (jY s d (ch z)) x.2)
  (h:DL P nt all (todo.filter fun x=>!Q6 x.1 i) pend Q (jY s d (ch z))):DL P nt all todo pend Q s:=by
 intro i0 hd a0 B M N listed a w F hB;have i1:aF o=kw:=by simp[aF,ht]
 have CZ: ∀{F:Nat} {listed:Array Bool} {a:Act} {w:World},B.ext M N s w->lF P nt all todo pend B M N s listed a w->listed.getD i kw=kw->listed.toList.count lc<=F->wpAny P .any all.toArray (Lw nt B Q) F listed a w:=by
  intro F listed a w hB A Y hc;obtain⟨b,hb,b2,v1,o1,i2⟩:=A.ap;obtain⟨S,g0,p0⟩:=A.er;obtain⟨t',I,d',k1,k2,k3,k4,k5,k6,k7,k8⟩:=g0 _ c0 Y;simp only at k1 k3;have e1:t'=t:=by rw[ht]at k1;exact(Op.alloc.inj k1).symm
  subst e1;have e2:I=z:=by have:=(k2 w).symm.trans (hz w);simpa using this
  subst e2;have e3:d'=d:=by rw[o0]at k3;exact(RC k3).symm
  subst e3;have f1:d'<nt:=by
   obtain⟨_,⟨d2,g1,g2⟩,_⟩:=a0 i o (A.tl _ c0) i1;rw[o0]at g1;rw[RC g1];exact g2
  have ha:=N.eP s.nx (S i) I.cells.size;have x0:=hb.1.CZ (aB:=S i) (e:=I.cells.size) (o:= .cells (ch I)) k6 k7
   ⟨I.cells,t',by simpa using k5,by simp,(eE (M:=M) (N:=N.with s.nx (S i) I.cells.size) (U:=(· <s.nx+1)) I).1,(eE I).2,.none _⟩
  have w1:FR M (N.with s.nx (S i) I.cells.size) (· <s.nx+1) s.f b.tmps:=hb.2.1.mono (.refl _) ha (fun i A=>by omega);have v0:VR M (N.with s.nx (S i) I.cells.size) (· <s.nx+1) (.ptr s.nx 0) (.pointer (io ⟨S i,0,jp⟩)):=by
   have:=VR.ptr (M:=M) (N:=N.with s.nx (S i) I.cells.size) (U:=(· <s.nx+1)) s.nx 0 (by omega);simpa using this
  have r0:Fits M (N.with s.nx (S i) I.cells.size) (jY s d' (ch I)) nt (b.put (io d') (.pointer (io ⟨S i,0,jp⟩))) w:=by
   obtain⟨sf,sh,sn⟩:=s;exact⟨x0,w1.put d' _ _ (by rw[hb.2.2.2];exact f1) v0,hb.2.2.1,by rw[iw];exact hb.2.2.2⟩
  have b0: ∀j p,(jY s d' (ch I)).h.get j=io p->j=s.nx∨(j<s.nx∧s.h.get j=io p):=by
   intro j p G;obtain⟨sf,sh,sn⟩:=s;simp only[jY]at G;rw[AH.ay]at G;split at G
   .rename_i e;exact .inl e
   .exact .inr ⟨hb.1.used j p G,G⟩
  have z1:(jY s d' (ch I)).nx=s.nx+1:=by obtain⟨sf,sh,sn⟩:=s;rfl
  have k0:B.ext M (N.with s.nx (S i) I.cells.size) (jY s d' (ch I)) w:=by
   unfold Bs.ext at*
   refine⟨hB.os,hB.tape,hB.output,hB.size,hB.fG,hB.pb,hB.gK,⟨fun j G=>(ha.aB j (hB.ule j G)).trans (hB.nm.aB j G),fun j G=>(ha.ext j (hB.ule j G)).trans (hB.nm.ext j G)⟩,fun j G=>by have:=hB.ule j G;rw[z1];omega,fun j p G w0=>?_⟩;rcases b0 j p G with rfl|⟨h1,h2⟩
   .exact .inl (by simpa using k8)
   .rw[ha.aB j h1];exact hB.fV j p h2 w0
  have a2: ∀x∈pend,looks all x.2 x.2=lc:=fun x J=>by
   rcases A.pp x J x J with h7|h7
   .obtain⟨e,he,hb,l1⟩:=eQ h7;have:=iF all 0 x.1 x.2 hd (A.pl x J) e he hb;omega
   .exact h7
  have u: ∀x∈todo.filter (fun x=>!Q6 x.1 i),x∈todo∧x.1≠i:=fun x J=>by
   obtain⟨h7,h8⟩:=Rn.1 J;exact⟨h7,fun e=>by simp[e]at h8⟩
  obtain⟨c,r1,s1,q1,p1,t1⟩:=od (listed:=listed) i0 A.pl A.pw a2 Z r0;refine h i0 hd a0 B M _ listed a w F k0 ⟨A.size,fun x J=>A.tl x (u x J).1,A.pl,fun x J y hy=>A.dj x J y (u y hy).1,fun k q hk t0=>?_,A.pw,A.pp,fun y hy x J=>A.pa y hy x (u x J).1,⟨S,fun x e0 j0=>?_,fun x e0 y f2=>p0 x (u x e0).1 y (u y f2).1⟩,c,r1,by rw[s1,iw,b2],by rw[q1,jd,v1],fun e d1 u1=>?_,t1⟩ hc
  .rcases A.xR k q hk t0 with h9|h9
   .refine .inl (Rn.2 ⟨h9,?_⟩);cases hbq:Q6 k i with
    |false=>rfl
    |true=>rw[QS hbq,Y]at t0;cases t0
   .exact .inr h9
  .obtain⟨t2,z2,d2,m1,m2,m3,m4,m5,m6,m7,m8⟩:=g0 x (u x e0).1 j0;refine⟨t2,z2,d2,m1,m2,m3,m4,m5,m6,fun j p G w0=>?_,m8⟩;rcases b0 j p G with rfl|⟨h1,h2⟩
   .rw[Nm.Eo];exact fun e=>p0 x (u x e0).1 _ c0 j0 Y (u x e0).2 e.symm
   .rw[ha.aB j h1];exact m7 j p h2 w0
  .rw[p1 e d1,eV];by_cases q0:d'=e
   .subst q0;rw[am ⟨rfl,by rw[hb.2.2.2];exact f1⟩];exact k4
   .rw[be (fun hc=>q0 (RC hc.1))];refine o1 e d1 (fun x J j0 he=>?_);by_cases n1:x.1=i
    .have h3:=A.tl x J;rw[n1,A.tl _ c0]at h3;rw[<-RC h3,o0]at he;exact q0 (RC he)
    .exact u1 x (Rn.2 ⟨J,by cases hb:Q6 x.1 i with|false=>rfl|true=>exact absurd (QS hb) n1⟩) j0 he
 clear h Z
 induction F generalizing listed a w with
 |zero=>
  intro A hc;cases Y:listed.getD i kw with
  |true=>exact CZ hB A Y hc
  |false=>have:=lx Y;omega
 |succ F ih=>
  intro A hc;cases Y:listed.getD i kw with
  |true=>exact CZ hB A Y hc
  |false=>
   obtain⟨S,g0,p0⟩:=A.er;have b1: ∀x∈todo,aF x.2=lc->listed.getD x.1 kw=lc:=fun x J c2=>by
    cases Y:listed.getD x.1 kw with
    |false=>rfl
    |true=>have:=(g0 x J Y).alloc;rw[c2]at this;cases this
   refine⟨fun hr=>?_,fun j G=>?_⟩
   .have:=jx A.size hd hr i;rw[Y]at this;cases this
   obtain⟨hu,q,hq,n0⟩:=mem_ready.1 G;have d0:all[j]? =io q:=by simpa using hq
   rcases A.xR j q d0 hu with hm|hm
   .cases hja:aF q with
    |true=>
     obtain⟨v,w',a1,k0,s0⟩:=A.early i0 hd a0 hB m0 hm hja hu;unfold wpOp;simp only[hq];rw[am (gh (a0 j q d0 hja).1 _)];refine .inl ?_;unfold Oper.wp;rw[a1];simp only[Oper.upon];exact ih _ _ _ k0 s0 (by have:=cJ hu;omega)
    |false=>
     exfalso;have f0: ∀k,listed.getD k kw=lc->waits q k=kw->False:=fun k hk hw=>by
      obtain⟨e,he,hb,l1⟩:=eQ hw;have:=n0 e he hb;rw[l1,jW hk]at this;cases this
     have:=Q7.1 hE _ hm;simp only[R9,RR,Q5,Rw]at this;rcases this with h1|h1|h1|⟨y,hy,h0,h1⟩
     .have x1:=QS h1;subst x1;rw[A.tl _ c0]at d0;simp only[Qu]at d0;rw[<-d0,i1]at hja;cases hja
     .rw[hja]at h1;cases h1
     .exact f0 i Y h1
     .exact f0 y.1 (b1 y hy h0) h1
   .obtain⟨v,hv,s0⟩:=A.take i0 a0 hm G;refine wpOp_of_stOp (K:=fun a'=>a'=a.put q.dst v) (fun a' ha=>?_) (hv.stOp hq D);subst ha;exact ih _ _ _ hB s0 (by have:=cJ hu;omega)
def fc:Nat->List Oper->List (Nat×Oper)
 |_,[]=> []
 |n,o::r=>(n,o)::fc (n+1) r
theorem gx: ∀(l:List Oper) (n i:Nat) (o:Oper),(i,o)∈fc n l↔n<=i∧l[i-n]? =io o
 | [],n,i,o=>by simp[fc]
 |c::l,n,i,o=>by
  simp only[fc,QY,QI];rw[gx l (n+1) i o];by_cases h:i=n
  .subst h;simp only[true_and,QH,Nat.sub_self,Th,Qu];exact⟨fun h=>h.elim Eq.symm (fun h=>by omega),fun h=> .inl h.symm⟩
  .by_cases b:n<=i
   .rw[show i-n=(i-(n+1))+1 by omega,SZ];constructor
    .rintro(⟨h3,_⟩|⟨_,h3⟩)
     .exact absurd h3 h
     .exact⟨b,h3⟩
    .rintro⟨_,h3⟩;exact .inr ⟨by omega,h3⟩
   .constructor
    .rintro(⟨h3,_⟩|⟨h3,_⟩)
     .exact absurd h3 h
     .omega
    .rintro⟨h3,_⟩;exact absurd h3 b
def qW:List Oper->Bool
 | []=>kw
 |o::r=>match o.op with
  | .select ..=>lc
  |_=>qW r
theorem vM{ops:Array Oper}(h:qW ops.toList=kw):Region.noSelect ops=kw:=by
 have key: ∀l:List Oper,qW l=kw-> ∀o∈l,(match o.op with| .select ..=>lc|_=>kw)=kw:=by
  intro l
  induction l with
  |nil=>intro _ o ho;cases ho
  |cons c l ih=>
   intro b o ho;unfold qW at b;split at b
   .cases b
   .rename_i d;rcases QY.1 ho with rfl|ho
    .split
     .rename_i h;exact absurd h (d _ _)
     .rfl
    .exact ih b o ho
 unfold Region.noSelect;rw[Array.all_eq_true_iff_forall_mem];exact fun o ho=>key _ h o (by simpa using ho)
variable {k:List KI}
theorem F9{id:Nat}{ops:Array Oper}(hm:P.follows .mixedOrders=kw)(hns:Region.noSelect ops=kw)(hd:fm 0 ops.toList=kw)(y:gI P nt ops.toList)(h:GO P nt (.ct ops.toList (fc 0 ops.toList) []::k) Q s):GO P nt (.code (.region id ops kw)::k) Q s:=by
 intro M N a w G;refine wp_region_any hm ?_;have A:=G.drew;have j: ∀x∈fc 0 ops.toList,ops.toList[x.1]? =io x.2:=fun x b=>by
  obtain⟨_,F⟩:=(gx _ 0 x.1 x.2).1 b;simpa using F
 have B: ∀i,i<ops.size->(Sj ops.size lc).getD i kw=lc:=fun i I=>by simp[Qt,I]
 have u: ∀x∈fc 0 ops.toList,(Sj ops.size lc).getD x.1 kw=kw->False:=fun x b d=>by
  have:x.1<ops.size:=by simpa using(Qw.1 (j x b)).1
  rw[B _ this]at d;cases d
 have:=h (by rw[R6];exact hns) hd y ⟨M,N,s.nx,s.h,w⟩ M N (Sj ops.size lc) a {w with drawn:=w.drawn+1} ops.size Ext.drew
  ⟨by simp,j,fun _ b=>(nomatch b),fun _ b=>(nomatch b),fun i o J _=> .inl ((gx _ 0 i o).2 ⟨QN _,by simpa using J⟩),Tl,fun _ b=>(nomatch b),fun _ b=>(nomatch b),
   ⟨fun _=>0,fun x b d=>(u x b d).elim,fun x b _ _ d=>(u x b d).elim⟩,⟨a,A,rfl,rfl,fun _ _ _=>rfl,fun _ b=>(nomatch b)⟩⟩ (by simp)
 rw[R6]at this;exact this
theorem zw(h:GO P nt k Q s):GO P nt (.ct all [] pend::k) Q s:=M4 h
def eqB:Bool->Bool->Bool
 |true,b=>b
 |false,kw=>lc
 |false,lc=>kw
theorem MX(a b:Bool):eqB a b=(a==b):=by cases a<;>cases b<;>rfl
def cf(nt:Nat)(all:List Oper)(f:AF)(o:Oper):Option Bool:=
 match o.guard with
 |none=>io kw
 |some (g,want)=>match guardOf all f g with
  |some (d,.kb t)=>bif QZ d nt then io (eqB t want) else jp
  |some (_,.iv (.v (.tuple _)))=>io lc
  |_=>jp
theorem di{o:Oper}{c:Bool}(h:cf nt all s.f o=io c){b:Act}(hf:Fits M N s nt b w):Region.wanted o (Go.yielded all.toArray b.tmps)=c:=by
 unfold cf at h;split at h
 .rename_i j;simp only[Qu]at h;rw[gh j,h]
 .rename_i g x j;split at h
  .rename_i d t u;cases hb:QZ d nt with
   |false=>simp[hb]at h
   |true=>
    simp only[hb,cond_true,Qu,MX]at h;have:=hf.s6 u (Qs hb);simp[Region.wanted,j,this,<-h]
  .rename_i d y u;simp only[Qu]at h;have:=hf.s5 u;simp[Region.wanted,j,this,<-h]
  .cases h
theorem zu{i:Nat}{o:Oper}{s':AS}(j:(i,o)∈todo)(u:aF o=lc)(y: ∀x∈todo,waits o x.1=lc)(hg:cf nt all s.f o=io kw)(d:vj all pend o=kw)(he:s'.h=s.h∧s'.nx=s.nx)
  (ho: ∀M N a w,Fits M N s nt a w-> ∃x,(execOp a.eval o).run P w= .ok (.value x) w∧Fits M N s' nt (a.put o.dst x) w) (h:GO P nt (.ct all (todo.filter fun x=>!Q6 x.1 i) ((i,o)::pend)::k) Q s'):GO P nt (.ct all todo pend::k) Q s:=
 CJ j u y d he (fun M N b w A=>let ⟨x,h1,h2⟩:=ho M N b w A;⟨x,.inl ⟨di hg A,.inl h1⟩,h2⟩) h
theorem F8{i:Nat}{o:Oper}(d:(i,o)∈todo)(j:aF o=lc)(u: ∀x∈todo,waits o x.1=lc)(hg:cf nt all s.f o=io lc)(b:vj all pend o=kw)
  (h:GO P nt (.ct all (todo.filter fun x=>!Q6 x.1 i) ((i,o)::pend)::k) Q (fD o s)):GO P nt (.ct all todo pend::k) Q s:=
 CJ d j u b (gi o s) (fun _ _ _ _ y=>⟨undef,.inr ⟨di hg y,rfl⟩,y.skip o⟩) h
theorem rj{d:Nat}{t:Bool}(I:s.f.get d= .iv (.v (.bool t)))(h1:t=kw->GO P nt (.ct all todo pend::k) Q (setBool s (.tmp d) kw))(F:t=lc->GO P nt (.ct all todo pend::k) Q (setBool s (.tmp d) lc)):
  GO P nt (.ct all todo pend::k) Q s:=by
 have key:GO P nt (.ct all todo pend::k) Q (setBool s (.tmp d) t):=by
  cases t
  .exact F D
  .exact h1 D
 intro A hd y B M N listed a w x hB j G;obtain⟨b,hb,u⟩:=j.ap;exact key A hd y B M N listed a w x hB ⟨j.size,j.tl,j.pl,j.dj,j.xR,j.pw,j.pp,j.pa,j.er,b,hb.setBool (c:= .tmp d) I,u⟩ G
theorem xH{E:List Nat}(hE:nA todo E=kw)(hne: ∃x∈todo,aF x.2=lc)(u: ∀x∈todo,aF x.2=kw-> ∀x∈pend,fP P nt all s x.2)
  (h: ∀j o,j∈E->(j,o)∈todo->(∀y,(j,y)∈todo->y=o)->aF o=lc∧(∀x∈todo,aF x.2=kw->waits o x.1=lc)∧gT all pend o=kw∧cf nt all s.f o=io kw∧ ∃R,OT P nt o s R∧
   ∀s',R s'->(∀x∈a8 pend o,fP P nt all s' x.2)∧GO P nt (.ct all (todo.filter fun x=>!Q6 x.1 j) (a8 pend o)::k) Q s'):GO P nt (.ct all todo pend::k) Q s:=
 M5 hE hne u fun j o A B F=>let ⟨a,b,c,d,e⟩:=h j o A B F;⟨a,b,c, @fun _ _ _ _=>di d,e⟩
theorem DY{i:Nat}{o:Oper}{t:TypeId}{z:Value}{d:Nat}(y:(i,o)∈todo)(A:o.op= .alloc t)(B: ∀w,(zeroValue t).run P w= .ok z w)(u:o.dst=io d)(hE:yb todo i=kw)
  (j: ∀x∈pend,fP P nt all s x.2) (b: ∀x∈pend,fP P nt all (jY s d (ch z)) x.2)
  (h:GO P nt (.ct all (todo.filter fun x=>!Q6 x.1 i) pend::k) Q (jY s d (ch z))):GO P nt (.ct all todo pend::k) Q s:=Gs y A B u hE j b h
end
section
variable {P:Program} {nt:Nat} {Q:AQ} {k:List KI} {s:AS}
theorem FN{ty:Ty}(c0:bT P ty){o:Oper}{c:Call}(ho:o.op= .call c){g:FuncId}{asv:List PV}(ha:bK s.f c=io (g,asv)){fn:Func}{cb:Code}(B:P.funcs[g]? =io fn)(hb:fn.body=io cb)
  (hn:(fn.name== "runtime.NumGoroutine")=lc) {J:Nat} (g0:fn.ntmps=J) {l:List ResultVar} (hl:fn.results.toList=l) (f0:asv.length<=J) {R:AS->Prop}
  (h:AW P J cb (fun e t=>(e= .normal∨e= .ret)∧ ∃r s',jw ty t l=io r∧putDst nt o r ⟨s.f,t.h,t.nx⟩=io s'∧R s') ⟨nJ 0 asv,s.h,s.nx⟩):OT P nt o s R:=by
 intro M N a w I K Z hk;obtain⟨u,G,F,hv⟩:=z8 I ho ha (bY B hb hn);unfold Oper.wp;rw[G];simp only[Oper.upon];refine calls_of_wp B hb ?_;have A:Fits M N ⟨nJ 0 asv,s.h,s.nx⟩ J {tmps:=u.toArray++Sj (fn.ntmps-u.toArray.size) undef,defers:=[]} w:=by
  refine⟨I.1,fun i=>?_,rfl,by simp;omega⟩;rw[uQ,am (QN _),TL,Qx];cases hi:asv[i]? with
  |none=>exact .any _
  |some p=>
   have a0:i<u.length:=by rw[<-F];exact(Qw.1 hi).1
   have:=hv i p hi;have e:(u.toArray++Sj (fn.ntmps-u.toArray.size) undef).getD i undef=u.getD i undef:=by
    rw[Qt,RB (by simpa using a0),Qx];simp
   simp only[R2];rw[e];exact this
 refine AW.then h A fun e a' j S Y t hx b hq=>?_;obtain⟨he,r,s',b0,hp,hR⟩:=hq;obtain⟨x,d0,e0⟩:=B2 c0 b hl b0;have y:Fits S Y ⟨s.f,t.h,t.nx⟩ nt a j:=⟨b.1,I.2.1.ext hx,I.2.2⟩
 have hK:K (a.put o.dst x) j:=by
  cases hd:o.dst with
  |none=>
   have:=eZ hp hd;subst this;exact hk S Y {f:=s.f,h:=t.h,nx:=t.nx} _ j hx y hR
  |some d=>
   obtain⟨h1,rfl⟩:=eY hp hd;exact hk S Y {f:=(d,r)::s.f,h:=t.h,nx:=t.nx} _ j hx (y.put d _ x h1 e0) hR
 have:a'.defers=[]∧ ∃v,(results fn a'.tmps).run P j= .ok v j∧K (a.put o.dst v) j:=⟨b.2.2.1,x,d0,hK⟩
 rcases he with rfl|rfl<;>exact this
theorem MT{ty:Ty}(x:bT P ty){all rest:List Oper}{o:Oper}{c:Call}(hg:o.guard=jp)(ho:o.op= .call c){g:FuncId}{asv:List PV}(ha:bK s.f c=io (g,asv)){fn:Func}{A:Code}(d:P.funcs[g]? =io fn)(hb:fn.body=io A)
  (hn:(fn.name== "runtime.NumGoroutine")=lc) {y:Nat} (u:fn.ntmps=y) {l:List ResultVar} (hl:fn.results.toList=l) (j:asv.length<=y)
  (h:GO P y (.code A:: .Jw nt s.f (jw ty · l) o all rest::k) Q ⟨nJ 0 asv,s.h,s.nx⟩):GO P nt (.ops all (o::rest)::k) Q s:=by
 refine dp (R:=fun t=>GO P nt (.ops all rest::k) Q t) hg (FN x ho ha d hb hn u hl j ?_) (fun t ht=>ht);intro M N a w Z;refine AW.then h Z fun e a' w' F G t hx b B=>⟨F,G,t,hx,b,?_⟩
 simp only[kp]at B;obtain⟨Y,r,s',I,J,S⟩:=B;exact⟨Y,r,s',I,J,S⟩
theorem Jp{ty:Ty}(F:bT P ty){all:List Oper}{todo pend:List (Nat×Oper)}{j:Nat}{o:Oper}{c:Call}(hrd:(j,o)∈todo)(hE:nA todo [j]=kw)(G: ∀x∈todo,waits o x.1=lc)(b: ∀x∈todo,aF x.2=kw-> ∀x∈pend,fP P nt all s x.2)(hpb:gT all pend o=kw)(hg:cf nt all s.f o=io kw)(ho:o.op= .call c){g:FuncId}{asv:List PV}
  (ha:bK s.f c=io (g,asv)) {fn:Func} {S:Code} (y:P.funcs[g]? =io fn) (hb:fn.body=io S)
  (hn:(fn.name== "runtime.NumGoroutine")=lc) {J:Nat} (B:fn.ntmps=J) {l:List ResultVar} (hl:fn.results.toList=l) (A:asv.length<=J)
  (h:GO P J (.code S:: .Jx nt s.f (jw ty · l) j o all todo pend::k) Q ⟨nJ 0 asv,s.h,s.nx⟩):GO P nt (.ct all todo pend::k) Q s:=by
 have d:aF o=lc:=by simp[aF,ho]
 refine xH hE ⟨_,hrd,d⟩ b fun j' o' Y _ hu=>?_;simp only[QJ]at Y;subst Y;have:=hu o hrd;subst this;refine⟨d,fun x I _=>G x I,hpb,hg,_,FN F ho ha y hb hn B hl A (R:=fun s'=>(∀x∈a8 pend o,fP P nt all s' x.2)∧GO P nt (.ct all (todo.filter fun x=>!Q6 x.1 j') (a8 pend o)::k) Q s') ?_,fun s' hs=>hs⟩;intro M N a w hf;refine AW.then h hf fun e a' w' M' N' t I u Z=>⟨M',N',t,I,u,?_⟩
 simp only[kp]at Z;obtain⟨he,r,s',h1,h2,h3,h4⟩:=Z;exact⟨he,r,s',h1,h2,h3,h4⟩
theorem UA.more{b:Code}{Q:AQ}: ∀{n:Nat} {s:AS},UA P nt b Q n s->n≠0
 |0,_,h=>h.elim
 |_+1,_,_=>by simp
theorem FZ{b:Code}{n:Nat}(h:GO P nt (.code b:: .C9 b n::k) Q s):GO P nt (.code (.loop b)::k) Q s:=by
 have h0:UA P nt b (kp P nt k Q) (n+1) s:=by
  intro M N a w Z;refine AW.then h Z fun e y G u x t F d hq=>⟨u,x,t,F,d,?_⟩
  cases e<;>exact hq
 intro M0 N0 a0 w0 c0
 let J:Act->World->Nat->Prop:=fun a w m=> ∃t M N,Ext M0 N0 (· <s.nx) s.h w0 M N (· <t.nx) t.h w∧Fits M N t nt a w∧UA P nt b (kp P nt k Q) m t
 have Y:J a0 w0 (n+1):=⟨s,M0,N0,.refl _ _ _ _ _,c0,h0⟩
 have cY: ∀{p:Nat->Prop},(∃n,p n)-> ∃n,p n∧ ∀m,p m->n<=m:=by
  intro p ⟨n,hn⟩
  induction n using Nat.strongRecOn with
  |_ n ih=>
   by_cases B: ∃m,m<n∧p m
   .obtain⟨m,I,S⟩:=B;exact ih m I S
   .exact⟨n,hn,fun m S=>Su fun I=>B ⟨m,I,S⟩⟩
 refine wp_loop (fun a w=> ∃n,J a w n) (fun a w=>by classical exact if h: ∃n,J a w n then Tb (cY h) else 0) ⟨_,Y⟩ fun a w b0=>?_;obtain⟨⟨t,M,N,F,Z,hu⟩,d0⟩:=Sr (cY b0);obtain⟨m,B⟩: ∃m,Tb (cY b0)=m+1:=⟨Tb (cY b0)-1,by have:=hu.more;omega⟩
 rw[B]at hu;refine AW.then hu Z fun e y G u x s' j d hr=>?_
 cases e with
 |normal=>
  have A:J y G m:=⟨s',u,x,F.trans j,d,hr⟩
  refine⟨⟨_,A⟩,?_⟩;simp only[dif_pos b0,dif_pos (⟨_,A⟩: ∃n,J y G n)];have:=(Sr (cY (⟨_,A⟩: ∃n,J y G n))).2 _ A;omega
 |_=>exact⟨u,x,s',F.trans j,d,hr⟩
theorem go_round{b:Code}{n:Nat}(h:GO P nt (.code b:: .C9 b n::k) Q s):GO P nt (.C9 b (n+1)::k) Q s:=by
 intro M N a w x;refine AW.then h x fun e B F j u t A d y=>⟨j,u,t,A,d,?_⟩
 cases e<;>exact y
end
section
variable {M:Mem} {N:Nm} {w:World} {n:Nat} {h:AH}
theorem bg{i:Nat}{h:AH}: ∀j o,AH.get ((i,jp)::h) j=io o->j≠i∧h.get j=io o:=by
 intro j o b;rw[AH.ay]at b;split at b
 .cases b
 .rename_i d;exact⟨d,b⟩
theorem Rel.move(hr:Rel M N (· <n) h w){i:Nat}{o0:AO}(hi:h.get i=io o0)(h0:o0.real=kw)(I:World)(o:AO)(c0:I.os=w.os)(J:I.tape=w.tape)(S:I.output=w.output)(e0:I.heap.size=w.heap.size)
  (Z: ∀b,b≠N.aB i->I.heap[b]? =w.heap[b]?) (ho:OR M (N.with n (N.aB i) (N.ext i)) (· <n+1) I n o):
  Ext M N (· <n) h w M (N.with n (N.aB i) (N.ext i)) (· <n+1) ((n,io o)::(i,jp)::h) I∧Rel M (N.with n (N.aB i) (N.ext i)) (· <n+1) ((n,io o)::(i,jp)::h) I:=by
 have G:=N.eP n (N.aB i) (N.ext i);have d: ∀j p,AH.get ((n,io o)::(i,jp)::h) j=io p->(j=n∧p=o)∨(j<n∧j≠i∧h.get j=io p):=by
  intro j p y;rw[AH.ay]at y;split at y
  .rename_i Y;exact .inl ⟨Y,by simpa using y.symm⟩
  .obtain⟨A,B⟩:=bg j p y;exact .inr ⟨hr.used j p B,A,B⟩
 have d0:=hr.used i o0 hi;refine⟨⟨c0,J,S,by omega,fun b hb hn=>Z b (fun e=>hn i o0 hi h0 e.symm),.refl _,fun b c A B=>by simp[A]at B,G,fun i hi=>by omega,fun j p y x=>?_⟩,?_⟩
 .rcases d j p y with⟨rfl,rfl⟩|⟨A,B,F⟩
  .exact .inr ⟨i,o0,hi,h0,by simp⟩
  .exact .inr ⟨j,p,F,x,(G.aB j A).symm⟩
 .refine⟨fun b c hb=>?_,fun j p y=>?_,fun j p y x=>?_,fun j p y=>?_,fun j k p q y a0 hp hq u=>?_⟩
  .have b0:b≠N.aB i:=fun e=>by
    have:=hr.dW i o0 hi h0;rw[<-e,hb]at this;simp at this
   exact(hr.dT b c hb).mono (Z b b0)
  .rcases d j p y with⟨rfl,rfl⟩|⟨A,B,F⟩<;>omega
  .rcases d j p y with⟨rfl,rfl⟩|⟨A,B,F⟩
   .simpa using hr.dW i o0 hi h0
   .rw[G.aB j A];exact hr.dW j p F x
  .rcases d j p y with⟨rfl,rfl⟩|⟨A,B,F⟩
   .exact ho
   .cases x:p.real with
    |true=>exact(hr.obj j p F).mono (.refl _) G (fun i hi=>by omega) A (Z _ (fun e=>B (hr.inj j i p o0 F hi x h0 e)))
    |false=>
     cases p with
     |row sz es=>cases es with
      |nil=>exact .inl D
      |cons=>cases x
     |bu l T=>cases l with
      |nil=>exact .inl D
      |cons=>cases x
     |_=>cases x
  .rcases d j p y with⟨rfl,rfl⟩|⟨A,B,F⟩<;>rcases d k q a0 with⟨rfl,rfl⟩|⟨h4,h5,h6⟩
   .rfl
   .rw[G.aB k h4]at u;simp at u;exact absurd (hr.inj _ _ _ _ hi h6 h0 hq u).symm h5
   .rw[G.aB j A]at u;simp at u;exact absurd (hr.inj _ _ _ _ F hi hp h0 u) B
   .rw[G.aB j A,G.aB k h4]at u;exact hr.inj _ _ _ _ F h6 hp hq u
theorem Rel.del{U:Nat->Prop}(hr:Rel M N U h w)(i:Nat):Rel M N U ((i,jp)::h) w:=
 ⟨hr.dT,fun j o b=>hr.used j o (bg j o b).2,fun j o b d=>hr.dW j o (bg j o b).2 d,fun j o b=>hr.obj j o (bg j o b).2,
  fun j k o p b u=>hr.inj j k o p (bg j o b).2 (bg k p u).2⟩
theorem Ext.del{u:Mem}{x:Nm}{U y:Nat->Prop}{A:AH}{B:World}(b:Ext M N U h w u x y A B)(i:Nat):Ext M N U h w u x y ((i,jp)::A) B:=
 ⟨b.os,b.tape,b.output,b.size,b.fG,b.pb,b.gK,b.nm,b.ule,fun j o F d=>b.fV j o (bg j o F).2 d⟩
theorem Rel.swap{U:Nat->Prop}{i j:Nat}(d:i≠j){o p:Option AO}(hr:Rel M N U ((i,o)::(j,p)::h) w):Rel M N U ((j,p)::(i,o)::h) w:=by
 have e: ∀k,AH.get ((j,p)::(i,o)::h) k=AH.get ((i,o)::(j,p)::h) k:=by
  intro k;simp only[AH.ay];by_cases u:k=i
  .subst u;rw[be d,am D,am D]
  .simp[u]
 exact⟨hr.dT,fun k o b=>hr.used k o (by rw[<-e];exact b),fun k o b=>hr.dW k o (by rw[<-e];exact b),fun k o b=>hr.obj k o (by rw[<-e];exact b),
  fun k l o p b x=>hr.inj k l o p (by rw[<-e];exact b) (by rw[<-e];exact x)⟩
end
inductive Src (h:AH) (sz:Nat):PV->List (List PV)->Prop
 |c5 (n:Nat) (el:Nat->List IV):Src h sz (.iv (.c5 sz n el)) ((Rh n).map fun k=>(el k).map .iv)
 |row (j off n:Nat) (fs:List (List PV)) (hj:h.get j=io (.row sz fs)) (hle:off+n<=fs.length):Src h sz (.sl j off n sz) ((fs.drop off).take n)
 |nil:Src h sz (.iv (.v (.slice jp 0 0))) []
theorem nn{sz:Nat}: ∀{es:List (List PV)},(∀(k:Nat) (e:List PV),es[k]? =io e->e.length=sz)-> ∀j p,es.flatten[j]? =io p-> ∃k e i,es[k]? =io e∧e[i]? =io p∧j=k*sz+i
 | [],_,j,p,h=>by simp at h
 |e::r,hl,j,p,h=>by
  rw[TA]at h;have y:=hl 0 e D;rcases RN j e.length with hj|hj
  .rw[QQ hj]at h;exact⟨0,e,j,rfl,h,by simp⟩
  .rw[QX hj]at h;obtain⟨k,b,i,d,u,x⟩:=nn (fun k e h=>hl (k+1) e (by simpa using h)) _ p h;exact⟨k+1,b,i,by simpa using d,u,by rw[RJ];omega⟩
theorem jP{sz:Nat}: ∀{es:List (List PV)},(∀(k:Nat) (e:List PV),es[k]? =io e->e.length=sz)->es.flatten.length=es.length*sz
 | [],_=>by simp
 |e::r,hl=>by
  rw[TA,Qv,jP (fun k e h=>hl (k+1) e (by simpa using h)),hl 0 e D,Rf,RJ];omega
theorem nk{sz:Nat}: ∀{es:List (List PV)},(∀(k:Nat) (e:List PV),es[k]? =io e->e.length=sz)-> ∀k e i p,es[k]? =io e->e[i]? =io p->es.flatten[k*sz+i]? =io p
 | [],_,k,e,i,p,h,_=>by simp at h
 |e0::r,hl,k,e,i,p,h,hi=>by
  rw[TA];have b:=hl 0 e0 D;cases k with
  |zero=>
   simp at h;subst h;rw[Sy,Q9,QQ (Qw.1 hi).1];exact hi
  |succ k=>
   rw[QX (by rw[b,RJ];omega)];rw[show(k+1)*sz+i-e0.length=k*sz+i by rw[b,RJ];omega];exact nk (fun k e h=>hl (k+1) e (by simpa using h)) k e i p (by simpa using h) hi
section
variable {P:Program} {ty:Ty} {M:Mem} {N:Nm} {w:World} {nt:Nat} {s:AS} {a:Act}
theorem Src.ok{sz:Nat}{p:PV}{news:List (List PV)}(hs:Src s.h sz p news)(hf:Fits M N s nt a w){y:Value}(hy:VR M N (· <s.nx) p y):
  (∀(k:Nat) (e:List PV),news[k]? =io e->e.length=sz)∧ ∃J c,y= .slice J news.length c∧(news≠ []-> ∃b a0,J=io ⟨b,a0,jp⟩∧
   ∀j p,news.flatten[j]? =io p-> ∃u,w.cell? ⟨b,a0+j,jp⟩=io u∧VR M N (· <s.nx) p u):=by
 cases hs with
 |c5 n el=>
  cases hy with
  |iv _ _ G=>
   cases G with
   |iA _ _ J c=>exact⟨by simp,J,c,by simp,by simp⟩
   |c5 _ _ _ b a0 c hn hc hl hm hr=>
    have B: ∀(k:Nat) (e:List PV),((Rh n).map fun k=>(el k).map PV.iv)[k]? =io e->e.length=sz:=by
     intro k e x;rw[QC,QF]at x;obtain⟨k',F,rfl⟩:=x;obtain⟨d,A⟩:=Qw.1 F;simp at A d;subst A;simpa using hl k d
    refine⟨B,_,c,by simp,fun _=>⟨b,a0,rfl,fun j p hp=>?_⟩⟩;obtain⟨k,e,i,d,A,rfl⟩:=nn B j p hp;rw[QC,QF]at d;obtain⟨k',F,rfl⟩:=d;obtain⟨S,h4⟩:=Qw.1 F;simp at h4 S;subst h4;rw[QC,QF]at A;obtain⟨q,hq,rfl⟩:=A;have G:i<sz:=by rw[<-hl k S];exact(Qw.1 hq).1
    have h5:=hm k i S G;cases hv:M.cell b (a0+k*sz+i) with
    |none=>simp[hv]at h5
    |some u=>
     refine⟨u,by rw[<-Sm];exact hf.1.Lg hv,.iv _ _ ?_⟩;have:=hr k i q S hq;rw[hv]at this;exact this
 |row j a0 n fs hj hle=>
  have Y:=hf.1.obj j _ hj;have base:(∀(k:Nat) (e:List PV),fs[k]? =io e->e.length=sz)-> ∀(k:Nat) (e:List PV),((fs.drop a0).take n)[k]? =io e->e.length=sz:=by
   intro h k e x;rw[Rt]at x;split at x
   .rw[RQ]at x;exact h _ e x
   .cases x
  cases hy with
  |mE _ _ hU=>exact⟨by simp,jp,0,by simp,by simp⟩
  |sle _ _ cap hU hc x=>exact⟨by simp,io ⟨N.aB j,0,jp⟩,cap,by simp,by simp⟩
  |sl _ _ _ _ cap hU h0 hl hc x=>
   rcases Y with rfl|⟨hsz,c,T,g1,g2,g3,g4,g5⟩
   .simp at hle;omega
   refine⟨base g4,_,cap,by simp;rw[Nat.min_eq_left (by omega)],fun _=>⟨N.aB j,a0*sz,rfl,fun i p hp=>?_⟩⟩;obtain⟨k,e,I,d,A,rfl⟩:=nn (base g4) i p hp;rw[Rt]at d;split at d
   .rename_i hk;rw[RQ]at d;have c0:I<sz:=by rw[<-g4 _ e d];exact(Qw.1 A).1
    have Z:a0+k<fs.length:=(Qw.1 d).1;have b0:(a0+k)*sz+I<c.size:=by
     have:(a0+k+1)*sz<=fs.length*sz:=Rb _ Z;rw[RJ]at this;omega
    refine⟨c.getD ((a0+k)*sz+I) undef,?_,g5 _ e _ p d A⟩;rw[show a0*sz+(k*sz+I)=(a0+k)*sz+I by rw[RJ];omega];simp[World.cell?,g1,Qt,b0]
   .cases d
 |nil=>
  cases hy with
  |iv _ _ G=>cases G with
   |v=>exact⟨by simp,jp,0,rfl,by simp⟩
theorem sF{l:List PV}{b off:Nat}(h: ∀j p,l[j]? =io p-> ∃u,w.cell? ⟨b,off+j,jp⟩=io u∧VR M N (· <s.nx) p u):
  ∃y:List Value,y.length=l.length∧(∀(j:Nat) (u:Value),y[j]? =io u->w.cell? ((⟨b,off,jp⟩:Addr).add j)=io u)∧ ∀(j:Nat) (p:PV),l[j]? =io p->VR M N (· <s.nx) p (y.getD j undef):=by
 refine⟨(Rh l.length).map fun j=>(w.cell? ⟨b,off+j,jp⟩).getD undef,by simp,fun j u hu=>?_,fun j p F=>?_⟩
 .rw[QC,QF]at hu;obtain⟨I,d,rfl⟩:=hu;obtain⟨A,B⟩:=Qw.1 d;simp at A B;subst B;obtain⟨u,hu,_⟩:=h j _ (Qy A);rw[fv,hu];rfl
 .have x:j<l.length:=(Qw.1 F).1;obtain⟨u,hu,G⟩:=h j p F;rw[Qx];simp[x,hu,G]
theorem kX(t ty e:TypeId)(i:TypeInfo)(J:P.underlying t=io (.slice e))(hi:P.info? e=io i)(T:TypeId)
  (g b x:Nat) (d:Array Value) (hg:w.heap[g]? =io (.cells d T (0,0)))
  (a:Addr) (m c:Nat) (news:List Value) (I:news.length=m*i.size) (y: ∀(j:Nat) (u:Value),news[j]? =io u->w.cell? (a.add j)=io u) (h1: ∀u∈news,u.oneCell'=kw)
  (A:b+m<=x) (B:b*i.size+news.length<=d.size):
  (Builtin.append_ #[t,t] ty #[.slice (io ⟨g,0,jp⟩) b x,.slice (io a) m c]).run P w=
   .ok (.slice (io ⟨g,0,jp⟩) (b+m) x) (w.setRow g (d.toList.take (b*i.size)++news++d.toList.drop (b*i.size+news.length)).toArray):=by
 have G:=run_firstCells_some (P:=P) w i.size m a m c news I y;have F:=run_storeCells_at P g (b*i.size) T news 0 d w hg (by simpa using B) h1;simp only[S2]at F;simp[Builtin.append_,run_underlying J,sizeOf,typeInfo,hi,Builtin.lenOf,A,G,Addr.add_lit,F]
theorem iN(t ty e:TypeId)(i:TypeInfo)(B:P.underlying t=io (.slice e))(hi:P.info? e=io i)(x:Option Addr)(j d:Nat)(u:j<=d)(y:Option Addr)(c:Nat)(hs:x=jp∨ ∃b o,x=io ⟨b,o,jp⟩):
  (Builtin.append_ #[t,t] ty #[.slice x j d,.slice y 0 c]).run P w= .ok (.slice x j d) w:=by
 have A:(Builtin.firstCells i.size 0 (.slice y 0 c)).run P w= .ok #[] w:=by
  cases y with
  |none=>simp[Builtin.firstCells]
  |some a=>simp[Builtin.firstCells,loadCells,loadCellsFrom]
 rcases hs with rfl|⟨b,o,rfl⟩
 .simp[Builtin.append_,run_underlying B,sizeOf,typeInfo,hi,Builtin.lenOf,u,A]
 .simp[Builtin.append_,run_underlying B,sizeOf,typeInfo,hi,Builtin.lenOf,u,A,storeCells]
def qv(s:AS)(i sz:Nat)(es news:List (List PV)):AS:=match s with|⟨f,h,n⟩=>⟨f,(n,io (.row sz (es++news)))::(i,jp)::h,n+1⟩
theorem G7(s:AS)(i sz:Nat)(es news:List (List PV)):(qv s i sz es news).h=(s.nx,io (.row sz (es++news)))::(i,jp)::s.h:=by cases s;rfl
theorem Ng(s:AS)(i sz:Nat)(es news:List (List PV)):(qv s i sz es news).f=s.f:=by cases s;rfl
theorem kC(s:AS)(i sz:Nat)(es news:List (List PV)):(qv s i sz es news).nx=s.nx+1:=by cases s;rfl
theorem nK{i sz:Nat}{es news:List (List PV)}{b:Mem}{d:Nm}{j:World}(hf:Fits M N s nt a w)(u:Ext M N (· <s.nx) s.h w b d (· <s.nx+1) ((s.nx,io (.row sz (es++news)))::(i,jp)::s.h) j)
  (hr:Rel b d (· <s.nx+1) ((s.nx,io (.row sz (es++news)))::(i,jp)::s.h) j):
  Ext M N (· <s.nx) s.h w b d (· <(qv s i sz es news).nx) (qv s i sz es news).h j∧Fits b d (qv s i sz es news) nt a j:=by
 rw[G7,kC];refine⟨u,?_,?_,hf.2.2⟩
 .rw[G7,kC];exact hr
 .rw[Ng,kC];exact hf.2.1.ext u
theorem Ext.swap{U A:Nat->Prop}{h d:AH}{x:Mem}{y:Nm}{F:World}{i j:Nat}(u:i≠j){o p:Option AO}(b:Ext M N U h w x y A ((i,o)::(j,p)::d) F):Ext M N U h w x y A ((j,p)::(i,o)::d) F:=by
 have e: ∀k,AH.get ((j,p)::(i,o)::d) k=AH.get ((i,o)::(j,p)::d) k:=by
  intro k;simp only[AH.ay];by_cases B:k=i
  .subst B;rw[be u,am D,am D]
  .simp[B]
 exact⟨b.os,b.tape,b.output,b.size,b.fG,b.pb,b.gK,b.nm,b.ule,fun k o G=>b.fV k o (by rw[<-e];exact G)⟩
theorem Nf(z1:bT P ty){o:Oper}{x y:Operand}{t u:TypeId}(ho:o.op= .call ⟨.builtin .append, #[x,y], #[t,t]⟩){e d:b7}(ht:ty t=io e)(hk:e.k= .aT (.slice u))(hu:ty u=io d)
  {i len sz:Nat} {es news:List (List PV)} {py:PV} (hx:ev s.f x= .sl i 0 len sz) (hi:s.h.get i=io (.row sz es)) (G:es.length=len) (m2:d.size=sz) (hz:d.zero.cells.size=sz) (l2:0<sz)
  (j2:ev s.f y=py) (hy:Src s.h sz py news) (o1: ∀e∈news,gd e=kw) (hb:(len+news.length)*d.bytes<=140737488355328) (s2:len+news.length<=140737488355328)
  {s':AS} (hp:putDst nt o (.sl s.nx 0 (len+news.length) sz) (qv s i sz es news)=io s'):OT P nt o s (fun t=>t=s'):=by
 refine OT.value hp fun M N a w hf=>?_;subst m2;obtain⟨⟨ii,r0,x0,e2,w1⟩,_⟩:=z1 u _ hu
 have t0:P.underlying t=io (.slice u):=by
  have:=(z1 t _ ht).2.1;rw[hk]at this;exact this.1
 have s1:=aO hf.2.1 x;rw[hx]at s1;have a2:=aO hf.2.1 y;rw[j2]at a2;obtain⟨Y,ao,c,r2,e0⟩:=hy.ok hf a2;have B: ∀v w',(Builtin.append_ #[t,t] o.type #[a.eval x,a.eval y]).run P w= .ok v w'->(execOp a.eval o).run P w= .ok (.value v) w':=by
  intro v w' h;simp only[execOp,ho,resolve];simp[invoke,builtin,h]
 rw[r2]at B;have t2:i<s.nx:=hf.1.used i _ hi;have a1:s.nx≠i:=by omega
 have i2:=hf.1.obj i _ hi;have c0:(len+news.length)*ii.bytes<=140737488355328:=by rw[e2];exact hb
 have i0: ∀(J I:List Value) (a0:Nat),J.length=es.length*d.size->I.length=news.length*d.size->(∀(k:Nat) (e:List PV) (j:Nat) (p:PV),es[k]? =io e->e[j]? =io p->VR M N (· <s.nx) p (J.getD (k*d.size+j) undef))->
   (∀(k:Nat) (e:List PV),es[k]? =io e->e.length=d.size)->(∀(j:Nat) (p:PV),news.flatten[j]? =io p->VR M N (· <s.nx) p (I.getD j undef))->len+news.length<=a0->a0<=maxLen->0<len+news.length->
   ∀z:Array Value,z=J.toArray++I.toArray++Builtin.zeroCells d.zero.cells (a0-(len+news.length))->
   ∃M' N',Ext M N (· <s.nx) s.h w M' N' (· <(qv s i d.size es news).nx) (qv s i d.size es news).h (w.drew.alloc (.cells z u))∧Fits M' N' (qv s i d.size es news) nt a (w.drew.alloc (.cells z u))∧
    VR M' N' (· <(qv s i d.size es news).nx) (.sl s.nx 0 (len+news.length) d.size) (.slice (io ⟨w.heap.size,0,jp⟩) (len+news.length) a0):=by
  intro J I a0 n1 Z o2 v1 n2 m0 d2 p1 z t1;have g0:z.size=a0*d.size:=by
   rw[t1,SR,SR,size_zeroCells,hz];simp only[List.size_toArray,n1,Z,G];rw[<-RJ,<-RJ,Nat.add_sub_cancel' m0]
  obtain⟨N',h1,h2,h3,h4,h5⟩:=hf.1.drew.alloc (.cells z u) (.row d.size (es++news)) z.size (fun N' g1 g2 g3=>by
   refine .inr ⟨l2,z,u,by rw[g1];exact heap_alloc_new _ _,g2.symm,?_,fun k e A=>?_,fun k e j p A S=>?_⟩
   .rw[g0,Qv,G];exact Rb _ m0
   .rcases RN k es.length with hk|hk
    .rw[QQ hk]at A;exact v1 k e A
    .rw[QX hk]at A;exact Y _ e A
   .rcases RN k es.length with hk|hk
    .rw[QQ hk]at A;have l1:j<d.size:=by rw[<-v1 k e A];exact(Qw.1 S).1
     have q0:k*d.size+j<J.length:=by
      rw[n1];have:(k+1)*d.size<=es.length*d.size:=Rb _ hk;rw[RJ]at this;omega
     have:=o2 k e j p A S;have e1:z.getD (k*d.size+j) undef=J.getD (k*d.size+j) undef:=by
      rw[t1,Qt,Array.append_assoc,RB (by simpa using q0),Qx];simp
     rw[e1];exact this.mono (.refl _) g3 (fun i hi=>by omega)
    .rw[QX hk]at A;have l1:j<d.size:=by rw[<-Y _ e A];exact(Qw.1 S).1
     have m1:k-es.length<news.length:=(Qw.1 A).1;have k1:=nk Y _ e j p A S;have q0:(k-es.length)*d.size+j<I.length:=by
      rw[Z];have:(k-es.length+1)*d.size<=news.length*d.size:=Rb _ m1;rw[RJ]at this;omega
     have f0:k*d.size+j=J.length+((k-es.length)*d.size+j):=by
      rw[n1,Nat.sub_mul];have:es.length*d.size<=k*d.size:=Rb _ hk;omega
     have:=n2 _ p k1;have e1:z.getD (k*d.size+j) undef=I.getD ((k-es.length)*d.size+j) undef:=by
      rw[t1,Qt,f0,RB (by simp;omega),Array.getElem?_append_right (by simp),Qx];simp
     rw[e1];exact this.mono (.refl _) g3 (fun i hi=>by omega))
  have k2:=(h5.del i).swap (Ne.symm a1);have p2:=(((Ext.drew (M:=M) (N:=N) (U:=(· <s.nx)) (h:=s.h) (w:=w)).trans h4).del i).swap (Ne.symm a1);obtain⟨g1,g2⟩:=nK hf p2 k2;refine⟨M,N',g1,g2,?_⟩;rw[kC];have:=VR.sl (M:=M) (N:=N') (U:=(· <s.nx+1)) s.nx 0 (len+news.length) d.size a0 (by omega) p1 m0 d2 (by rw[h2,g0];simp);rw[h1,Sy]at this;exact this
 have o0: ∀I:List Value,I.length=news.flatten.length->I.length=news.length*ii.size:=fun I h=>by rw[h,jP Y,x0]
 generalize a.eval x=vx at s1 B;cases s1 with
 |mE _ _ hU=>
  have A:es=[]:=by simpa using G
  subst A;by_cases hm:news=[]
  .subst hm;have F:=iN (P:=P) (w:=w) t o.type u ii t0 r0 jp 0 0 (QH _) ao c (.inl D);obtain⟨h1,h2⟩:=hf.1.Ho d.size;obtain⟨g1,g2⟩:=nK (es:=[]) (news:=[]) (i:=i) hf ((h1.del i).swap (Ne.symm a1)) ((h2.del i).swap (Ne.symm a1));exact⟨_,w,M,N,B _ _ F,g1,g2,.mE _ _ (by rw[kC];omega)⟩
  .obtain⟨b,d1,f1,b0⟩:=e0 hm;subst f1;obtain⟨I,Z,b1,w0⟩:=sF (s:=s) b0;have x1:0<news.length:=SD.2 hm;have F:=run_append_nil (P:=P) w t o.type u ii d.zero t0 r0 w1 ⟨b,d1,jp⟩ news.length c I (o0 I Z) b1 x1 (by omega) (by simp only[R0,Q9]at c0;omega);obtain⟨M',N',g1,g2,g3⟩:=i0 [] I (grownCap w news.length 0 u) (by simp) (by rw[Z,jP Y]) (by simp) (by simp) w0 (by simpa using grownCap_ge w news.length 0 u) (grownCap_le_maxLen w _ _ _ (by simp only[maxLen];omega)) (by omega) _ D;simp only[Q9,Sa] at*
   exact⟨_,_,M',N',B _ _ F,by simpa using g1,by simpa using g2,by simpa using g3⟩
 |sl _ _ _ _ a0 hU h0 hl hc hext=>
  rcases i2 with rfl|⟨hsz0,cur,T,q1,q2,q3,q4,q5⟩
  .simp at G;omega
  have k0:(AO.row d.size es).real=kw:=by cases es with
   |nil=>simp at G;omega
   |cons=>rfl
  rw[Sy]at B;have n0:cur.size=a0*d.size:=by rw[q2,<-hext,Q9]
  by_cases hm:news=[]
  .subst hm;have F:=iN (P:=P) (w:=w) t o.type u ii t0 r0 (io ⟨N.aB i,0,jp⟩) len a0 hl ao c (.inr ⟨_,_,rfl⟩)
   obtain⟨h1,h2⟩:=hf.1.move hi k0 w (.row d.size (es++ [])) D D D D (fun _ _=>rfl) (by
    rw[Ro]
    exact .inr ⟨hsz0,cur,T,by simpa using q1,by simpa using q2,q3,q4,fun k e j p A S=>(q5 k e j p A S).mono (.refl _) (N.eP _ _ _) (fun i hi=>by omega)⟩)
   obtain⟨g1,g2⟩:=nK (es:=es) (news:=[]) (i:=i) hf h1 h2;refine⟨_,w,M,_,B _ _ F,g1,g2,?_⟩;have:=VR.sl (M:=M) (N:=N.with s.nx (N.aB i) (N.ext i)) (U:=(· <s.nx+1)) s.nx 0 len d.size a0 (by omega) h0 hl hc (by simpa using hext);rw[kC];simpa using this
  .obtain⟨b,d1,f1,b0⟩:=e0 hm;subst f1;obtain⟨I,Z,b1,w0⟩:=sF (s:=s) b0;have x1:0<news.length:=SD.2 hm;have p0:I.length=news.length*d.size:=by rw[Z,jP Y]
   have s0: ∀(j:Nat) (v:Value),(cur.toList.take (len*d.size))[j]? =io v->w.cell? ((⟨N.aB i,0,jp⟩:Addr).add j)=io v:=by
    intro j v hv;rw[Rt]at hv;split at hv
    .rw[fv,Q9];simp only[World.cell?,q1];simpa using hv
    .cases hv
   have u2:len*d.size<=cur.size:=by rw[n0];exact Rb _ hl
   have j0: ∀(k:Nat) (e:List PV) (j:Nat) (p:PV),es[k]? =io e->e[j]? =io p->k*d.size+j<len*d.size:=by
    intro k e j p A S;have hk:k<len:=by rw[<-G];exact(Qw.1 A).1
    have l1:j<d.size:=by rw[<-q4 k e A];exact(Qw.1 S).1
    have:(k+1)*d.size<=len*d.size:=Rb _ hk;rw[RJ]at this;omega
   by_cases d0:len+news.length<=a0
   .have i1:len*d.size+I.length<=cur.size:=by rw[p0,<-RJ,n0];exact Rb _ d0
    have v0: ∀v∈I,v.oneCell'=kw:=by
     intro v hv;obtain⟨j,S⟩:=RE hv;have f2:j<news.flatten.length:=by rw[<-Z];exact(Qw.1 S).1
     have hp:=Qy f2;obtain⟨k,e,i',h1,h2,_⟩:=nn Y j _ hp;have:=(w0 j _ hp).one (lD (o1 e (Rk h1)) i' _ h2);rw[Qx,S]at this;exact this
    have F:=kX (P:=P) (w:=w) t o.type u ii t0 r0 T (N.aB i) len a0 cur q1 ⟨b,d1,jp⟩ news.length c I (o0 I Z) b1 v0 d0 (by rw[x0];exact i1);rw[x0]at F;generalize hL:(cur.toList.take (len*d.size)++I++cur.toList.drop (len*d.size+I.length)).toArray=L at F;have u1:L.size=cur.size:=by rw[<-hL];simp;omega
    have r1:=setRow_heap w (N.aB i) cur L T (0,0) q1;have c2: ∀j,j<len*d.size->L.getD j undef=cur.getD j undef:=by
     intro j S;rw[<-hL,Qt,Qt];simp only[RU];rw[QU,QQ (by simp;omega),Rt,am S,RI]
    have b2: ∀j,j<I.length->L.getD (len*d.size+j) undef=I.getD j undef:=by
     intro j S;rw[<-hL,Qt,Qx];simp only[RU];rw[QQ (by simp;omega),QX (by simp;omega)];congr 2;simp;omega
    obtain⟨h1,h2⟩:=hf.1.move hi k0 (w.setRow (N.aB i) L) (.row d.size (es++news)) D D D (by simp) (fun b hb=>by
      simp only[World.setRow,Ru]
      rw[be (fun e=>hb e.symm)]) (by
     refine .inr ⟨hsz0,L,T,by simpa using r1,by rw[u1];simpa using q2,?_,fun k e A=>?_,fun k e j p A S=>?_⟩
     .rw[u1,n0,Qv,G];exact Rb _ d0
     .rcases RN k es.length with hk|hk
      .rw[QQ hk]at A;exact q4 k e A
      .rw[QX hk]at A;exact Y _ e A
     .rcases RN k es.length with hk|hk
      .rw[QQ hk]at A;rw[c2 _ (j0 k e j p A S)];exact(q5 k e j p A S).mono (.refl _) (N.eP _ _ _) (fun i hi=>by omega)
      .rw[QX hk]at A;have l1:j<d.size:=by rw[<-Y _ e A];exact(Qw.1 S).1
       have m1:k-es.length<news.length:=(Qw.1 A).1;have k1:=nk Y _ e j p A S;have q0:(k-es.length)*d.size+j<I.length:=by
        rw[p0];have:(k-es.length+1)*d.size<=news.length*d.size:=Rb _ m1;rw[RJ]at this;omega
       have f0:k*d.size+j=len*d.size+((k-es.length)*d.size+j):=by
        rw[<-G,Nat.sub_mul];have:es.length*d.size<=k*d.size:=Rb _ hk;omega
       rw[f0,b2 _ q0]
       exact(w0 _ p k1).mono (.refl _) (N.eP _ _ _) (fun i hi=>by omega))
    obtain⟨g1,g2⟩:=nK (es:=es) (news:=news) (i:=i) hf h1 h2;refine⟨_,_,M,_,B _ _ F,g1,g2,?_⟩;have:=VR.sl (M:=M) (N:=N.with s.nx (N.aB i) (N.ext i)) (U:=(· <s.nx+1)) s.nx 0 (len+news.length) d.size a0 (by omega) (by omega) d0 hc (by simpa using hext);rw[kC];simpa using this
   .have F:=run_append_grow (P:=P) w t o.type u ii d.zero t0 r0 w1 ⟨N.aB i,0,jp⟩ len a0 (cur.toList.take (len*d.size)) (by rw[x0];simp;omega) s0 ⟨b,d1,jp⟩ news.length c I (o0 I Z) b1 (by omega) (by omega)
     (growslice_fits (by omega) c0)
    obtain⟨M',N',g1,g2,g3⟩:=i0 (cur.toList.take (len*d.size)) I (grownCap w (len+news.length) a0 u) (by rw[G];simp;omega) p0 (fun k e j p A S=>by
      have:=q5 k e j p A S;have q0:=j0 k e j p A S;rw[Qx,Rt,am q0,RI]
      rw[Qt]at this;exact this) q4 w0 (grownCap_ge w _ _ _) (grownCap_le_maxLen w _ _ _ (by simp only[maxLen];omega)) (by omega) _ D
    exact⟨_,_,M',N',B _ _ F,g1,g2,g3⟩
def Mc(h:AH)(sz:Nat):PV->Option (List (List PV))
 | .iv (.c5 sz' n el)=>match Q6 sz' sz with
  |true=>io ((Rh n).map fun k=>(el k).map .iv)
  |false=>jp
 | .iv (.v (.slice jp 0 0))=>io []
 | .sl j off n sz'=>match Q6 sz' sz,h.get j with
  |true,io (.row sz2 fs)=>match Q6 sz2 sz,SE (off+n) fs.length with
   |true,kw=>io ((fs.drop off).take n)
   |_,_=>jp
  |_,_=>jp
 |_=>jp
theorem BR{h:AH}{sz:Nat}{p:PV}{news:List (List PV)}(hs:Mc h sz p=io news):Src h sz p news:=by
 unfold Mc at hs;split at hs
 .split at hs
  .rename_i hb;simp only[Qu]at hs;have:=QS hb;subst this;subst hs;exact .c5 _ _
  .cases hs
 .simp only[Qu]at hs;subst hs;exact .nil
 .split at hs
  .rename_i b y;split at hs
   .rename_i d j;simp only[Qu]at hs;have u:=QS b;have x:=QS d;subst u;subst x;subst hs;exact .row _ _ _ _ y (Qs j)
   .cases hs
  .cases hs
 .cases hs
def allOnes:List (List PV)->Bool
 | []=>kw
 |e::r=>match gd e with
  |true=>allOnes r
  |false=>lc
theorem jZ: ∀{l:List (List PV)},allOnes l=kw-> ∀e∈l,gd e=kw
 | [],_,e,h=>by cases h
 |c::l,h,e,he=>by
  simp only[allOnes]at h;split at h
  .rename_i b;rcases QY.1 he with rfl|he
   .exact b
   .exact jZ h e he
  .cases h
def tg(s:AS)(t sz:Nat):AS:=match s with|⟨f,h,n⟩=>⟨(t,.sl n 0 0 sz)::f,(n,io (.row sz []))::h,n+1⟩
theorem Hn{o:Oper}{R:AS->Prop}{t sz:Nat}(x:s.f.get t= .iv (.v (.slice jp 0 0)))(h:OT P nt o (tg s t sz) R):OT P nt o s R:=by
 intro M N a w b K Z J;obtain⟨sf,sh,sn⟩:=s;obtain⟨F,G⟩:=b.1.Ho sz;have j:Fits M N (tg ⟨sf,sh,sn⟩ t sz) nt a w:=by
  refine⟨G,fun k=>?_,b.2.2⟩;simp only[tg];rw[AF.ay];split
  .rename_i u;subst u;have:=b.2.1 k;simp only at x this;rw[x]at this;generalize a.tmps.getD k undef=v at this;cases this with
   |iv _ _ h=>cases h with
    |v=>exact .mE _ _ (RX _)
  .exact(b.2.1 k).mono (.refl _) (.refl _ _) (fun i I=>Sb I)
 exact h M N a w j K Z fun y A s' B w' Y d S=>J y A s' B w' (F.trans Y) d S
def A5(s:AS)(op:Op):Option (Nat×TypeId):=
 match op with
 | .call ⟨.builtin .append,args,tys⟩=>match args.toList,tys.toList with
  | [.tmp t0,_],[t,_]=>match s.f.get t0 with
   | .iv (.v (.slice jp 0 0))=>io (t0,t)
   |_=>jp
  |_,_=>jp
 |_=>jp
theorem DG{op:Op}{t0:Nat}{t:TypeId}(h:A5 s op=io (t0,t)):s.f.get t0= .iv (.v (.slice jp 0 0)):=by
 unfold A5 at h;split at h
 .split at h
  .split at h
   .rename_i b;simp only[Qu,QI]at h;rw[<-h.1];exact b
   .cases h
  .cases h
 .cases h
end
end
section
section
variable {kc:KC} {V:Type} {M:Mem} {e:V->IV} {m:List (kc.K×V)} {ents:Array MapEntry} {clock:Nat}
theorem ji.Gd(h:ji M kc e m ents clock){j:Nat}(hj:j<ents.size):ents.getD j co=ents[j]:=by simp[Qt,hj]
theorem ji.set(h:ji M kc e m ents clock){i:Nat}{k:kc.K}{v:V}{y:Value}(hv:IR M (e v) y):ji M kc e (m.set i (k,v)) (ents.modify i fun x=>{x with key:=kc.ek k,val:=y}) clock:=by
 have hb: ∀(j:Nat) (f:MapEntry),(ents.modify i fun x=>{x with key:=kc.ek k,val:=y})[j]? =io f-> ∃g,ents[j]? =io g∧g.born=f.born:=by
  intro j f d;rw[Ru]at d;split at d
  .obtain⟨g,J,rfl⟩:=QF.1 d;exact⟨g,J,rfl⟩
  .exact⟨f,d,rfl⟩
 have S: ∀(j:Nat) (x:kc.K×V),(m.set i (k,v))[j]? =io x->(j=i∧x=(k,v)∧i<m.length)∨(j≠i∧m[j]? =io x):=by
  intro j x b;rw[R5]at b;split at b
  .rename_i B;split at b
   .simp only[Qu]at b;exact .inl ⟨B.symm,b.symm,by assumption⟩
   .cases b
  .rename_i B;exact .inr ⟨fun e=>B e.symm,b⟩
 refine⟨by simp[h.size],fun j x b=>?_,fun j x b=>?_,fun j l f g d J I=>?_,fun j f d=>?_⟩
 .rcases S j x b with⟨rfl,rfl,F⟩|⟨u,A⟩
  .have:j<ents.size:=by rw[h.size];exact F
   rw[Qt,Ru,am D,Rs this];rfl
  .have:=h.key j x A;rw[Qt,Ru,be (fun e=>u e.symm),<-Qt];exact this
 .rcases S j x b with⟨rfl,rfl,F⟩|⟨u,A⟩
  .have:j<ents.size:=by rw[h.size];exact F
   rw[Qt,Ru,am D,Rs this];exact hv
  .have:=h.val j x A;rw[Qt,Ru,be (fun e=>u e.symm),<-Qt];exact this
 .obtain⟨G,u,A⟩:=hb j f d;obtain⟨Y,Z,h4⟩:=hb l g J;exact h.inj j l G Y u Z (by rw[A,h4,I])
 .obtain⟨G,u,A⟩:=hb j f d;rw[<-A];exact h.lt j G u
theorem ji.push(h:ji M kc e m ents clock){k:kc.K}{v:V}{y:Value}(Y:IR M (e v) y):ji M kc e (m++ [(k,v)]) (ents.push {key:=kc.ek k,val:=y,born:=clock}) (clock+1):=by
 have F: ∀(j:Nat) (x:kc.K×V),(m++ [(k,v)])[j]? =io x->(j=ents.size∧x=(k,v))∨(j<ents.size∧m[j]? =io x):=by
  intro j x d;rw[h.size];rcases RN j m.length with hj|hj
  .rw[QQ hj]at d;exact .inr ⟨hj,d⟩
  .rw[QX hj]at d;have G:j-m.length=0:=by
    rcases Nat.eq_zero_or_pos (j-m.length) with h1|h1
    .exact h1
    .rw[List.getElem?_eq_none (by simp;omega)]at d;cases d
   rw[G]at d;exact .inl ⟨by omega,by simpa using d.symm⟩
 have hb: ∀(j:Nat) (f:MapEntry),(ents.push {key:=kc.ek k,val:=y,born:=clock})[j]? =io f->(j=ents.size∧f.born=clock)∨(j<ents.size∧ents[j]? =io f∧f.born<clock):=by
  intro j f b;rw[SV]at b;split at b
  .rename_i hj;simp only[Qu]at b;subst b;exact .inl ⟨hj,rfl⟩
  .exact .inr ⟨(RO.1 b).1,b,h.lt j f b⟩
 refine⟨by simp[h.size],fun j x d=>?_,fun j x d=>?_,fun j l f g b S A=>?_,fun j f b=>?_⟩
 .rcases F j x d with⟨rfl,rfl⟩|⟨h1,u⟩
  .simp[Qt]
  .have:=h.key j x u;rw[Qt,SV,be (by omega),<-Qt];exact this
 .rcases F j x d with⟨rfl,rfl⟩|⟨h1,u⟩
  .simpa[Qt]using Y
  .have:=h.val j x u;rw[Qt,SV,be (by omega),<-Qt];exact this
 .rcases hb j f b with⟨h1,u⟩|⟨h1,u,I⟩<;>rcases hb l g S with⟨J,B⟩|⟨J,B,Z⟩
  .omega
  .omega
  .omega
  .exact h.inj j l f g u B A
 .rcases hb j f b with⟨h1,u⟩|⟨h1,u,I⟩<;>omega
theorem ji.erase(h:ji M kc e m ents clock){i:Nat}(hi:i<m.length):ji M kc e (m.eraseIdx i) (ents.eraseIdxIfInBounds i) clock:=by
 have B:i<ents.size:=by rw[h.size];exact hi
 have F: ∀j,(ents.eraseIdxIfInBounds i)[j]? =if j<i then ents[j]? else ents[j+1]? :=by
  intro j;simp only[TD,B,dif_pos];rw[Array.getElem?_eraseIdx]
 have G: ∀j,(m.eraseIdx i)[j]? =if j<i then m[j]? else m[j+1]? :=fun j=>List.getElem?_eraseIdx;refine⟨?_,fun j x y=>?_,fun j x y=>?_,fun j l f g d b u=>?_,fun j f d=>?_⟩
 .simp only[TD,B,dif_pos,Array.size_eraseIdx,List.length_eraseIdx,hi,if_true,h.size]
 .rw[G]at y;rw[Qt,F];split at y
  .rename_i A;rw[am A,<-Qt];exact h.key j x y
  .rename_i A;rw[be A,<-Qt];exact h.key _ x y
 .rw[G]at y;rw[Qt,F];split at y
  .rename_i A;rw[am A,<-Qt];exact h.val j x y
  .rename_i A;rw[be A,<-Qt];exact h.val _ x y
 .rw[F]at d b;split at d<;>split at b
  .exact h.inj _ _ f g d b u
  .have:=h.inj _ _ f g d b u;omega
  .have:=h.inj _ _ f g d b u;omega
  .have:=h.inj _ _ f g d b u;omega
 .rw[F]at d;split at d<;>exact h.lt _ f d
theorem w4(kc:KC)(k:kc.K):Instr.sameBits 10000 (kc.ek k) (kc.ek k)=kw:=by
 have d: ∀(n:Nat) (a:ByteArray),Instr.sameBits n (.string a) (.string a)=kw:=by
  intro n a;cases n<;>(simp only[Instr.sameBits];rw[beq_toListBytes,wX];simp)
 have b: ∀(n:Nat) (q:IntKind) (a:Int),Instr.sameBits n (.int q a) (.int q a)=kw:=by
  intro n q a;cases n<;>simp[Instr.sameBits]
 cases kc with
 |str=>exact d _ _
 |int q=>exact b _ _ _
 |si q=>
  simp only[KC.ek];show((#[Value.string k.1,.int q k.2].size== #[Value.string k.1,.int q k.2].size)&&(Instr.sameBits 9999 (.string k.1) (.string k.1)&&(Instr.sameBits 9999 (.int q k.2) (.int q k.2)&&kw)))=kw;rw[d,b];rfl
end
def LA(ty:Ty)(s:AS):Op->Option (Prop×AS)
 | .mapUpdate t m k x=>match ev s.f m with
  | .mp i=>match s.h.get i with
   |some (.map kc e z zv dv mm)=>match ty t with
    |some ⟨.aT (.map kt _),_,_,_,_⟩=>match eK ty kt with
     |some kc'=>match li (kc'=kc),kc.dk (ev s.f k) with
      |true,io kk=>match s with
       |⟨f,h,n⟩=>ur (ev f x) fun p=>io (aC p (.iv (e (dv p))),⟨f,(i,io (.map kc e z zv dv (cj kc mm kk (dv p))))::h,n⟩)
      |_,_=>jp
     |none=>jp
    |_=>jp
   |_=>jp
  |_=>jp
 | .call ⟨.builtin .delete,args,tys⟩=>match args.toList,tys.toList with
  | [m,k],[t,_]=>match ev s.f m with
   | .mp i=>match s.h.get i with
    |some (.map kc e z zv dv mm)=>match ty t with
     |some ⟨.aT (.map kt _),_,_,_,_⟩=>match eK ty kt with
      |some kc'=>match li (kc'=kc),kc.dk (ev s.f k) with
       |true,io kk=>match s with
        |⟨f,h,n⟩=>io (True,⟨f,(i,io (.map kc e z zv dv (mC kc mm kk)))::h,n⟩)
       |_,_=>jp
      |none=>jp
     |_=>jp
    |_=>jp
   |_=>jp
  |_,_=>jp
 |_=>jp
section
variable {P:Program} {ty:Ty} {nt:Nat} {s:AS} {M:Mem} {N:Nm} {w:World}
def tx(w:World)(b:Nat)(o:Obj):World:={w with heap:=w.heap.setIfInBounds b o}
theorem rT{nx:Nat}{h:AH}(hr:Rel M N (· <nx) h w){i:Nat}{kc:KC}{V:Type}{e:V->IV}{z:V}{A:Value}{u:PV->V}{G y:List (kc.K×V)}(hi:h.get i=io (.map kc e z A u G)){j:Array MapEntry}{d:Nat}
  (hm:ji M kc e y j d):Ext M N (· <nx) h w M N (· <nx) ((i,io (.map kc e z A u y))::h) (tx w (N.aB i) (.map j d))∧Rel M N (· <nx) ((i,io (.map kc e z A u y))::h) (tx w (N.aB i) (.map j d)):=by
 have B:=hr.obj i _ hi;have x:=OR.lt B D;obtain⟨ents,clock,I,J,F⟩:=B;refine hr.write hi D _ _ D D D (by simp[tx]) (fun b hb=>?_) ⟨j,d,?_,hm,F⟩
 .show(w.heap.setIfInBounds _ _)[b]? =_;rw[Rj,be (fun e=>hb e.symm)]
 .show(w.heap.setIfInBounds _ _)[_]? =_;rw[Rj,am D,am x]
theorem ke{r:Nat}{es:Array MapEntry}{clock:Nat}(o:Obj)(hb:w.heap[r]? =io (.map es clock)):(setObj r o).run P w= .ok () (tx w r o):=by
 simp[setObj,Sem.run,hb,tx]
theorem Hr(I:bT P ty){o:Oper}{C:Prop}{s1 s':AS}(h:LA ty s o.op=io (C,s1))(hC:C)(hp:putDst nt o .any s1=io s'):OT P nt o s (fun t=>t=s'):=by
 unfold LA at h;split at h
 .rename_i t m k x ho;split at h
  .rename_i i S;split at h
   .rename_i V kc e z zv dv mm hi;split at h
    .rename_i kt et _ _ _ _ he;have hu:=(I _ _ he).2.1.1;split at h
     .rename_i b Y;split at h
      .rename_i B hd c0;have hd:=of_decide_eq_true hd;subst hd;obtain⟨f,hh,n⟩:=s;simp only[dy,Qu,QI]at h;obtain⟨rfl,rfl⟩:=h;refine OT.skip hp fun M N a w G=>?_;have d0:=Gt c0 (aO G.2.1 k);have F:=aO G.2.1 m;simp only at S;rw[S]at F
       have j0:IR M (e (dv (ev f x))) (a.eval x):=by
        have:=hC M N (· <n) _ (aO G.2.1 x);generalize a.eval x=y at this;cases this with
        |iv _ _ h=>exact h
       obtain⟨ents,clock,h1,Z,h3⟩:=G.1.obj i _ hi;have J:=mY (P:=P) (w:=w) I Y B lc 9998;have A:=pq (P:=P) (w:=w) I Y B Z.keys;have hg:(getObj (N.aB i)).run P w= .ok (.map ents clock) w:=by simp[getObj,Sem.run,h1]
       have a0: ∀u d,ji M b e (cj b mm B (dv (ev f x))) u d->(Instr.mapUpdate t (.map (io (N.aB i))) (b.ek B) (a.eval x)).run P w= .ok () (tx w (N.aB i) (.map u d))->
         ∃w' M' N',(execOp a.eval o).run P w= .ok .skip w'∧Ext M N (· <n) hh w M' N' (· <n) ((i,io (.map b e z zv dv (cj b mm B (dv (ev f x)))))::hh) w'∧
          Fits M' N' ⟨f,(i,io (.map b e z zv dv (cj b mm B (dv (ev f x)))))::hh,n⟩ nt a w':=by
        intro u d g1 g2;obtain⟨g3,g4⟩:=rT G.1 hi g1;refine⟨_,M,N,?_,g3,g4,G.2.1,G.2.2⟩;have e0:a.eval m= .map (io (N.aB i)):=by
         generalize a.eval m=y at F;cases F;rfl
        simp only[execOp,ho,e0,d0];simp[g2]
       cases hfi:iQ b mm B with
       |none=>
        obtain⟨_,_,g3,_⟩:=jq hfi;rw[hfi]at A;refine a0 _ _ (by rw[g3];exact Z.push j0) ?_;simp[Instr.mapUpdate,run_underlying hu,hg,J,A,ke (P:=P) _ h1]
       |some j=>
        obtain⟨v,g0,_,_,g3,_⟩:=jo hfi;rw[hfi]at A;refine a0 _ _ (by rw[g3];exact Z.set j0) ?_;have hj:j<ents.size:=by rw[Z.size];exact(Qw.1 g0).1
        have i0:=Z.key j _ g0;rw[Z.Gd hj]at i0;have m0:(Instr.keyThatStays (b.ek B) (b.ek B)).run P w= .ok (b.ek B) w:=by simp[Instr.keyThatStays,w4]
        simp[Instr.mapUpdate,run_underlying hu,hg,J,A,hj,i0,m0,ke (P:=P) _ h1]
      .cases h
     .cases h
    .cases h
   .cases h
  .cases h
 .rename_i args k0 ho;split at h
  .rename_i m k t t' b0 f0;have ha:args= #[m,k]:=by rw[<-R6 (xs:=args),b0]
   have ht:k0= #[t,t']:=by rw[<-R6 (xs:=k0),f0]
   subst ha ht;split at h
   .rename_i i S;split at h
    .rename_i V kc e z zv dv mm hi;split at h
     .rename_i kt et _ _ _ _ he;have hu:=(I _ _ he).2.1.1;split at h
      .rename_i b Y;split at h
       .rename_i B hd c0;have hd:=of_decide_eq_true hd;subst hd;obtain⟨f,hh,n⟩:=s;simp only[Qu,QI]at h;obtain⟨rfl,rfl⟩:=h;refine OT.value hp fun M N a w G=>?_;have d0:=Gt c0 (aO G.2.1 k);have F:=aO G.2.1 m;simp only at S;rw[S]at F;obtain⟨ents,clock,h1,Z,h3⟩:=G.1.obj i _ hi;have J:=mY (P:=P) (w:=w) I Y B ents.isEmpty 9998;have A:=pq (P:=P) (w:=w) I Y B Z.keys;have hg:(getObj (N.aB i)).run P w= .ok (.map ents clock) w:=by simp[getObj,Sem.run,h1]
        have a0: ∀u d,ji M b e (mC b mm B) u d->(Builtin.delete_ #[t,t'] o.type #[.map (io (N.aB i)),b.ek B]).run P w= .ok (.tuple #[]) (tx w (N.aB i) (.map u d))->
          ∃x w' M' N',(execOp a.eval o).run P w= .ok (.value x) w'∧Ext M N (· <n) hh w M' N' (· <n) ((i,io (.map b e z zv dv (mC b mm B)))::hh) w'∧
           Fits M' N' ⟨f,(i,io (.map b e z zv dv (mC b mm B)))::hh,n⟩ nt a w'∧VR M' N' (· <n) .any x:=by
         intro u d g1 g2;obtain⟨g3,g4⟩:=rT G.1 hi g1;refine⟨.tuple #[],_,M,N,?_,g3,⟨g4,G.2.1,G.2.2⟩,.any _⟩;have e0:a.eval m= .map (io (N.aB i)):=by
          generalize a.eval m=y at F;cases F;rfl
         simp only[execOp,ho,resolve];simp[invoke,builtin,e0,d0,g2]
        cases hfi:iQ b mm B with
        |none=>
         obtain⟨_,_,_,g3⟩:=jq hfi;rw[hfi]at A;refine a0 _ _ (by rw[g3];exact Z) ?_;simp[Builtin.delete_,run_underlying hu,hg,J,A,ke (P:=P) _ h1]
        |some j=>
         obtain⟨v,g0,_,_,_,g3⟩:=jo hfi;rw[hfi]at A;refine a0 _ _ (by rw[g3];exact Z.erase (Qw.1 g0).1) ?_;simp[Builtin.delete_,run_underlying hu,hg,J,A,ke (P:=P) _ h1]
       .cases h
      .cases h
     .cases h
    .cases h
   .cases h
  .cases h
 .cases h
end
section
variable {P:Program} {ty:Ty} {nt:Nat} {s:AS} {Q:AQ} {k:List KI}
def Pc(nt:Nat)(o:Oper)(s:AS)(i:Nat)(kc:KC){V:Type}(e:V->IV)(m:List (kc.K×V))(vs:List Nat)(t:AS):Prop:=
 ((∀j,j<m.length->j∈vs)∧putDst nt o (.bB [.kb lc]) s=io t)∨
 ∃j x,m[j]? =io x∧j∉vs∧putDst nt o (.bB [.kb kw,kc.pk x.1,(e x.2).pv]) ⟨s.f,(i,io (.bQ kc e m (j::vs) (io x)))::s.h,s.nx⟩=io t
theorem I9{o:Oper}{it:Operand}(ho:o.op= .next it lc){i:Nat}(r0:ev s.f it= .ptr i 0){kc:KC}{V:Type}{e:V->IV}{m:List (kc.K×V)}{vs:List Nat}{q0:Option (kc.K×V)}
  (hi:s.h.get i=io (.bQ kc e m vs q0)) {d:Nat} (hd:o.dst=io d) (hlt:d<nt):OT P nt o s (Pc nt o s i kc e m vs):=by
 intro M N a w hf K Z hk;have hx:=aO hf.2.1 it;rw[r0]at hx;have i0:=hf.1.obj i _ hi;have c0:N.aB i<w.heap.size:=OR.lt i0 D;have d0:a.eval it= .pointer (io ⟨N.aB i,0,jp⟩):=by
  generalize a.eval it=y at hx;cases hx;rfl
 have S: ∀p s1,∃t,putDst nt o p s1=io t∧t={s1 with f:=(d,p)::s1.f}:=by
  intro p s1;have hb:QZ d nt=kw:=Ry hlt;obtain⟨f,h,n⟩:=s1;exact⟨_,by simp only[putDst,hd,hb,cond_true,dy],rfl⟩
 rcases i0 with⟨rfl,rfl,rfl,h0⟩|⟨b,ents,clock,u,h1,h2,I,h4,h5,h6,h7⟩
 .have B:(execOp a.eval o).run P w= .ok (.value (.tuple #[.bool lc])) w:=by
   simp only[execOp,ho,d0];refine bt ?_;simp only[Instr.next,getObj,Sem.run_bind,Sem.run,h0,Result.andThen];rfl
  unfold Oper.wp;rw[B];simp only[Oper.upon];obtain⟨t,ht,F⟩:=S (.bB [.kb lc]) s
  refine hk M N t _ w (by rw[F];exact .refl _ _ _ _ _) (by
   rw[F,hd]
   exact hf.put d _ _ hlt (.bB _ _ D fun j p G=>by
    match j with
    |0=>simp at G;subst G;exact .kb _
    |j+1=>simp at G)) (.inl ⟨fun j J=>absurd J (R1 _),ht⟩)
 have hb:w.heap[b]? =io (.map ents clock):=hf.1.dT _ _ h2;have a1: ∀j,j<ents.size->ents.getD j co=ents[j]! :=fun j J=>by simp[Qt,J,getElem!_pos]
 have g0: ∀x∈ents.toList,x.born<clock:=by
  intro x hx;obtain⟨j,J⟩:=RE hx;exact I.lt j x (by simpa using J)
 unfold Oper.wp;rcases run_next_at (P:=P) w o.type (N.aB i) b clock clock u ents clock h1 hb g0 (QH _) with⟨g1,g2⟩|⟨x,p0,w1,v0,g2⟩
 .have B:(execOp a.eval o).run P w= .ok (.value (.tuple #[.bool lc])) w:=by
   simp only[execOp,ho,d0];exact bt g2
  rw[B];simp only[Oper.upon];obtain⟨t,ht,F⟩:=S (.bB [.kb lc]) s
  refine hk M N t _ w (by rw[F];exact .refl _ _ _ _ _) (by
   rw[F,hd]
   exact hf.put d _ _ hlt (.bB _ _ D fun j p G=>by
    match j with
    |0=>simp at G;subst G;exact .kb _
    |j+1=>simp at G)) (.inl ⟨fun j J=>?_,ht⟩)
  have s0:j<ents.size:=by rw[I.size];exact J
  have f0:(ents[j]).born∈u:=by
   refine Decidable.byContradiction fun hn=>?_
   have:ents[j]∈leftOf ents u:=by
    simp only[leftOf,T7];exact⟨by simp,by simpa using hn⟩
   rw[Array.eq_empty_of_size_eq_zero g1]at this;simp at this
  have:(ents[j]).born∈u.toList:=by simpa using f0
  rw[h4,RH]at this;obtain⟨q,hq,n0⟩:=this;have o0:q∈vs:=by simpa using hq
  have m0:q<ents.size:=by rw[I.size];exact h5 q o0
  rw[I.Gd m0]at n0;have:=I.inj q j ents[q] ents[j] (by simp[m0]) (by simp[s0]) n0;rw[<-this];exact o0
 .have B:(execOp a.eval o).run P w= .ok (.value (.tuple #[.bool kw,x.key,x.val])) (tx w1 (N.aB i) (.mapIter (io b) clock (u.push x.born) clock)):=by
   simp only[execOp,ho,d0];rw[Sem.run_bind,g2];rfl
  rw[B];simp only[Oper.upon];simp only[leftOf,Array.mem_toList_iff,T7]at p0;obtain⟨w0,x0⟩:=p0;obtain⟨j,J,e0⟩:=Array.getElem_of_mem w0;have j0:j<m.length:=by rw[<-I.size];exact J
  have Y:m[j]? =io m[j]:=Qy j0;have k0:j∉vs:=by
   intro hv;have:(ents[j]).born∈u.toList:=by
    rw[h4,RH];exact⟨j,by simpa using hv,by rw[I.Gd J]⟩
   rw[e0]at this;have:x.born∈u:=by simpa using this
   simp[this]at x0
  obtain⟨t,ht,F⟩:=S (.bB [.kb kw,kc.pk m[j].1,(e m[j].2).pv]) ⟨s.f,(i,io (.bQ kc e m (j::vs) (io m[j])))::s.h,s.nx⟩;have A:w1.heap=w.heap∧w1.os=w.os∧w1.tape=w.tape∧w1.output=w.output:=by
   rcases v0 with rfl|rfl<;>exact⟨rfl,rfl,rfl,rfl⟩
  have t0:OR M N (· <s.nx) (tx w1 (N.aB i) (.mapIter (io b) clock (u.push x.born) clock)) i (.bQ kc e m (j::vs) (io m[j])):=by
   refine .inr ⟨b,ents,clock,u.push x.born,?_,h2,I,?_,?_,?_,?_⟩
   .show(w1.heap.setIfInBounds _ _)[_]? =_;rw[Rj,am D,A.1,am c0]
   .simp only[Array.toList_push,h4,List.reverse_cons,QO,Q4,RL];rw[I.Gd J,e0]
   .intro q hq;rcases QY.1 hq with rfl|hq
    .exact j0
    .exact h5 q hq
   .exact RT.2 ⟨k0,h6⟩
   .intro y hy;simp only[Qu]at hy;subst hy;exact⟨j,vs,rfl,Y⟩
  obtain⟨q1,q2⟩:=hf.1.write hi D (tx w1 (N.aB i) (.mapIter (io b) clock (u.push x.born) clock)) _ A.2.1 A.2.2.1 A.2.2.2 (by simp[tx,A.1]) (fun c hc=>by
   show(w1.heap.setIfInBounds _ _)[c]? =_
   rw[Rj,be (fun e=>hc e.symm),A.1]) t0
  have a0:=I.key j _ Y;have b0:=I.val j _ Y;rw[I.Gd J,e0]at a0 b0
  refine hk M N t _ _ (by rw[F];exact q1) (by
   rw[F,hd];refine Fits.put (s:=⟨s.f,(i,io (.bQ kc e m (j::vs) (io m[j])))::s.h,s.nx⟩) ⟨q2,hf.2⟩ d _ _ hlt (.bB _ _ D fun q p G=>?_)
   match q with
   |0=>simp at G;subst G;exact .kb _
   |1=>simp at G;subst G;simp only[Qt];simp;rw[a0];exact B8 kc _
   |2=>simp at G;subst G;exact B6 b0
   |q+3=>simp at G) (.inr ⟨j,m[j],Y,k0,ht⟩)
theorem ei{all rest:List Oper}{o:Oper}{y:Operand}{i:Nat}{kc:KC}{V:Type}{e:V->IV}{m:List (kc.K×V)}{vs:List Nat}{b:Option (kc.K×V)}{d:Nat}
  (ho:o.op= .next y lc) (hg:o.guard=jp) (u:ev s.f y= .ptr i 0) (hi:s.h.get i=io (.bQ kc e m vs b)) (hd:o.dst=io d) (hlt:d<nt)
  (h1:(∀j,j<m.length->j∈vs)->GO P nt (.ops all rest::k) Q ⟨(d,.bB [.kb lc])::s.f,s.h,s.nx⟩)
  (A: ∀j x,m[j]? =io x->j∉vs->GO P nt (.ops all rest::k) Q ⟨(d,.bB [.kb kw,kc.pk x.1,(e x.2).pv])::s.f,(i,io (.bQ kc e m (j::vs) (io x)))::s.h,s.nx⟩):
  GO P nt (.ops all (o::rest)::k) Q s:=by
 refine dp hg (I9 ho u hi hd hlt) fun t B=>?_;have hb:QZ d nt=kw:=Ry hlt;rcases B with⟨g1,g2⟩|⟨j,x,g1,g2,g3⟩
 .obtain⟨f,h,n⟩:=s;simp only[putDst,hd,hb,cond_true,dy,Qu]at g2;subst g2;exact h1 g1
 .simp only[putDst,hd,hb,cond_true,dy,Qu]at g3;subst g3;exact A j x g1 g2
mutual
def PV.ej(i:Nat)(x:IV):PV->PV
 | .iv x=> .iv x
 | .agg cs=> .agg (uo i x cs)
 | .bB cs=> .bB (uo i x cs)
 | .sl j off len sz'=> .sl j off len sz'
 | .ptr j o=> .ptr j o
 | .dd j a b c=> .dd j a b c
 | .dV z j=> .dV z j
 | .mp j=>bif Q6 j i then .iv x else .mp j
 | .cK fn a b=> .cK fn a b
 | .kb b=> .kb b
 | .any=> .any
def uo(i:Nat)(x:IV):List PV->List PV
 | []=> []
 |p::r=>PV.ej i x p::uo i x r
end
theorem gE(i:Nat)(x:IV): ∀l:List PV,uo i x l=l.map (PV.ej i x)
 | []=>rfl
 |p::r=>by simp[uo,gE i x r]
theorem Jv{M:Mem}{N:Nm}{n:Nat}{h:AH}{w:World}(hr:Rel M N (· <n) h w){i:Nat}{kc:KC}{V:Type}{e:V->IV}{z:V}{zv:Value}{dv:PV->V}{m:List (kc.K×V)}(hi:h.get i=io (.map kc e z zv dv m)):
  ∃B,Ext M N (· <n) h w B N (· <n) ((i,jp)::h) w∧Rel B N (· <n) ((i,jp)::h) w∧M.le B∧
   ∀p x,VR M N (· <n) p x->VR B N (· <n) (p.ej i (.du kc e z zv m)) x:=by
 have S:=hr.dW i _ hi D;obtain⟨ents,clock,I,F,h3⟩:=hr.obj i _ hi
 let B:Mem:=M.set (N.aB i) (.map ents clock) S
 have hM:M.le B:=fun b d hb=>by
  simp only[B,Mem.set];by_cases u:b=N.aB i
  .rw[u,S]at hb;cases hb
  .rw[be u];exact hb
 have hnew: ∀b d,M b=jp->B b=io d->b=N.aB i:=fun b d I F=>by
  simp only[B,Mem.set]at F;by_cases u:b=N.aB i
  .exact u
  .rw[be u,I]at F;cases F
 refine⟨B,?_,?_,hM,fun p x hx=>?_⟩
 .exact⟨rfl,rfl,rfl,QH _,fun _ _ _=>rfl,hM,fun b d I F=> .inr ⟨i,_,hi,rfl,(hnew b d I F).symm⟩,.refl _ _,fun _ h=>h,fun j o A Z=> .inr ⟨j,o,(bg j o A).2,Z,rfl⟩⟩
 .refine⟨fun b d hb=>?_,fun j o A=>hr.used j o (bg j o A).2,fun j o A G=>?_,fun j o A=>?_,fun j k o p A hk=>hr.inj j k o p (bg j o A).2 (bg k p hk).2⟩
  .simp only[B,Mem.set]at hb;by_cases u:b=N.aB i
   .rw[am u]at hb;cases hb;rw[u];exact I
   .rw[be u]at hb;exact hr.dT b d hb
  .obtain⟨g1,g2⟩:=bg j o A;simp only[B,Mem.set];rw[be fun e=>g1 (hr.inj j i o _ g2 hi G D e)];exact hr.dW j o g2 G
  .obtain⟨g1,g2⟩:=bg j o A;exact(hr.obj j o g2).mono hM (.refl _ _) (fun _ h=>h) (hr.used j o g2) D
 .induction hx with
  |iv x y h=>exact .iv _ _ (h.mono hM)
  |agg cs ys hl _ ih=>
   refine .agg _ _ (by simpa[gE]using hl) fun j q Y=>?_;rw[gE,QC,QF]at Y;obtain⟨q0,J,rfl⟩:=Y
   exact ih j q0 J
  |bB cs ys hl _ ih=>
   refine .bB _ _ (by simpa[gE]using hl) fun j q Y=>?_;rw[gE,QC,QF]at Y;obtain⟨q0,J,rfl⟩:=Y
   exact ih j q0 J
  |ptr i off h=>exact .ptr _ _ h
  |dd i sz k off h=>exact .dd _ _ _ _ h
  |dV z i h=>exact .dV _ _ h
  |sl j off len sz' cap h h0 hl hc he=>exact .sl _ _ _ _ _ h h0 hl hc he
  |mE j sz' h=>exact .mE _ _ h
  |sle j sz' cap h hc he=>exact .sle _ _ _ h hc he
  |mp j h=>
   simp only[PV.ej];cases hb:Q6 j i with
   |true=>
    have A:=QS hb;subst A;exact .iv _ _ (.du _ _ _ _ _ _ ents clock (by simp[B,Mem.set]) F.size F.key (fun j x hx=>(F.val j x hx).mono hM) (h3.mono hM) F.inj F.lt)
   |false=>exact .mp _ h
  |cK fn first caps f' c' I F hr1 hr2 _ _=>exact .cK _ _ _ _ _ I F (fun j p A=>(hr1 j p A).mono hM (.refl _ _) (fun _ h=>h)) (fun j p A=>(hr2 j p A).mono hM (.refl _ _) (fun _ h=>h))
  |kb b=>exact .kb _
  |any x=>exact .any _
def AO.ej(i:Nat)(x:IV):AO->AO
 | .cells cs T=> .cells (uo i x cs) T
 | .row sz es=> .row sz (es.map (uo i x))
 | .bu l T=> .bu l T
 | .fg=> .fg
 | .map kc e z zv dv m=> .map kc e z zv dv m
 | .bQ kc e m vs c=> .bQ kc e m vs c
 | .dJ s p=> .dJ s p
def AH.ej(i:Nat)(x:IV):AH->AH
 | []=> []
 |(k,jp)::r=>(k,jp)::AH.ej i x r
 |(k,io o)::r=>(k,io (o.ej i x))::AH.ej i x r
theorem AH.iE(i:Nat)(x:IV): ∀(h:AH) (j:Nat),(AH.ej i x h).get j=(h.get j).map (AO.ej i x)
 | [],_=>rfl
 |(k,jp)::r,j=>by
  simp only[AH.ej,AH.ay,AH.iE i x r j];split<;>rfl
 |(k,io o)::r,j=>by
  simp only[AH.ej,AH.ay,AH.iE i x r j];split<;>rfl
theorem AO.rr(i:Nat)(x:IV)(o:AO):(o.ej i x).real=o.real:=by
 cases o with
 |row sz es=>cases es<;>rfl
 |bu l T=>cases l<;>rfl
 |_=>rfl
theorem ni{M:Mem}{N:Nm}{n:Nat}{h:AH}{w:World}(hr:Rel M N (· <n) h w){i:Nat}{kc:KC}{V:Type}{e:V->IV}{z:V}{G:Value}{dv:PV->V}{m:List (kc.K×V)}(hi:h.get i=io (.map kc e z G dv m)):
  ∃B,Ext M N (· <n) h w B N (· <n) ((i,jp)::h.ej i (.du kc e z G m)) w∧Rel B N (· <n) ((i,jp)::h.ej i (.du kc e z G m)) w∧M.le B∧
   ∀p x,VR M N (· <n) p x->VR B N (· <n) (p.ej i (.du kc e z G m)) x:=by
 obtain⟨B,u,y,h3,Z⟩:=Jv hr hi;have F: ∀j o,AH.get ((i,jp)::h.ej i (.du kc e z G m)) j=io o-> ∃p,AH.get ((i,jp)::h) j=io p∧h.get j=io p∧o=p.ej i (.du kc e z G m):=by
  intro j o b;obtain⟨g1,g2⟩:=bg j o b;rw[AH.iE,QF]at g2;obtain⟨p,g3,g4⟩:=g2;exact⟨p,by rw[AH.ay,be g1];exact g3,g3,g4.symm⟩
 refine⟨B,⟨u.os,u.tape,u.output,u.size,u.fG,u.pb,u.gK,u.nm,u.ule,fun j o b d=>?_⟩,⟨y.dT,fun j o b=>?_,fun j o b d=>?_,fun j o b=>?_,fun j k o p b hk ho hp=>?_⟩,h3,Z⟩
 .obtain⟨p,g1,_,rfl⟩:=F j o b;rw[AO.rr]at d;exact u.fV j p g1 d
 .obtain⟨p,g1,_,rfl⟩:=F j o b;exact y.used j p g1
 .obtain⟨p,g1,_,rfl⟩:=F j o b;rw[AO.rr]at d;exact y.dW j p g1 d
 .obtain⟨p,g1,g2,rfl⟩:=F j o b;have J:=hr.obj j p g2;cases p with
  |cells cs T0=>
   obtain⟨c,T,q1,q2,q3,q4,q5⟩:=J;refine⟨c,T,q1,q2,by simpa[gE]using q3,fun k q S=>?_,q5⟩;rw[gE,QC,QF]at S;obtain⟨q0,b0,rfl⟩:=S;exact Z _ _ (q4 k q0 b0)
  |row sz es=>
   rcases J with rfl|⟨q0,c,T,q1,q2,q3,q4,q5⟩
   .exact .inl D
   refine .inr ⟨q0,c,T,q1,q2,by simpa using q3,fun k e I=>?_,fun k e j q I S=>?_⟩
   .rw[QC,QF]at I;obtain⟨Y,A,rfl⟩:=I;rw[gE,Rv];exact q4 k Y A
   .rw[QC,QF]at I;obtain⟨Y,A,rfl⟩:=I;rw[gE,QC,QF]at S;obtain⟨q',a0,rfl⟩:=S;exact Z _ _ (q5 k Y j q' A a0)
  |bu=>exact y.obj j _ g1
  |fg=>exact y.obj j _ g1
  |map=>exact y.obj j _ g1
  |bQ=>exact y.obj j _ g1
  |dJ=>exact y.obj j _ g1
 .obtain⟨o',g1,_,rfl⟩:=F j o b;obtain⟨p',g2,_,rfl⟩:=F k p hk;rw[AO.rr]at ho hp;exact y.inj j k o' p' g1 g2 ho hp
def AF.ej(i:Nat)(x:IV):AF->AF
 | []=> []
 |(d,p)::r=>(d,p.ej i x)::AF.ej i x r
theorem AF.iE(i:Nat)(x:IV): ∀(f:AF) (d:Nat),(AF.ej i x f).get d=(f.get d).ej i x
 | [],_=>rfl
 |(k,p)::r,d=>by
  simp only[AF.ej,AF.ay,AF.iE i x r d];split<;>rfl
theorem sS{c:Code}(i:Nat){kc:KC}{V:Type}{e:V->IV}{z:V}{b:Value}{I:PV->V}{m:List (kc.K×V)}(hi:s.h.get i=io (.map kc e z b I m))
  (h:GO P nt (.code c::k) Q ⟨s.f.ej i (.du kc e z b m),(i,jp)::s.h.ej i (.du kc e z b m),s.nx⟩):GO P nt (.code c::k) Q s:=by
 intro M N a w j;obtain⟨B,J,S,h3,Y⟩:=ni j.1 hi
 have u:Fits B N ⟨s.f.ej i (.du kc e z b m),(i,jp)::s.h.ej i (.du kc e z b m),s.nx⟩ nt a w:=⟨S,fun d=>by
  rw[AF.iE];exact Y _ _ (j.2.1 d),j.2.2⟩
 exact AW.then h u fun e a2 w2 F G Z A x y=>⟨F,G,Z,J.trans A,x,y⟩
end
def Mq(ty:Ty)(s:AS):Op->Option (PV×AS)
 | .range t x=>match ev s.f x with
  | .mp i=>match s.h.get i with
   |some (.map kc e z zv _ m)=>match ty t with
    |some ⟨.aT (.map _ _),_,_,_,_⟩=>match s with
     |⟨f,h,n⟩=>io (.ptr n 0,⟨f.ej i (.du kc e z zv m),(n,io (.bQ kc e m [] jp))::(i,jp)::h.ej i (.du kc e z zv m),n+1⟩)
    |_=>jp
   |_=>jp
  |_=>jp
 |_=>jp
theorem IL{P:Program}{ty:Ty}{nt:Nat}{s:AS}(S:bT P ty){o:Oper}{p:PV}{s1 s':AS}(h:Mq ty s o.op=io (p,s1))(hp:putDst nt o p s1=io s'):OT P nt o s (fun t=>t=s'):=by
 unfold Mq at h;split at h
 .rename_i t x ho;split at h
  .rename_i i F;split at h
   .rename_i V kc e z zv dv m B;split at h
    .rename_i kt et _ _ _ _ he;have hu:=(S _ _ he).2.1.1;obtain⟨f,hh,n⟩:=s;simp only[Qu,QI]at h;obtain⟨rfl,rfl⟩:=h;refine OT.value hp fun M N a w A=>?_;have Y:=aO A.2.1 x;simp only at F B;rw[F]at Y;obtain⟨ents,clock,g1,g2,g3⟩:=A.1.obj i _ B;obtain⟨I,h1,Z,h3,h4⟩:=ni A.1 B;have j:VR I N (· <n) ((PV.mp i).ej i (.du kc e z zv m)) (.map (io (N.aB i))):=h4 _ _ (.mp i (A.1.used i _ B));have hb:Q6 i i=kw:=by simp
     simp only[PV.ej,hb,cond_true]at j;cases j with
     |iv _ _ j=>cases j with
      |du _ _ _ _ _ b ents' clock' hb' hs hk hv' hz hi' hc=>
       obtain⟨J,q1,q2,q3,q4,q5⟩:=Z.alloc (.mapIter (io (N.aB i)) clock' #[] clock') (.bQ kc e m [] jp) 0 (fun J r1 r2 r3=>
        .inr ⟨N.aB i,ents',clock', #[],by rw[r1];exact heap_alloc_new w _,hb',⟨hs,hk,hv',hi',hc⟩,rfl,by simp,RF,by simp⟩)
       have u:w.heap[N.aB i]? =io (.map ents' clock'):=Z.dT _ _ hb';have G:a.eval x= .map (io (N.aB i)):=by
        generalize a.eval x=y at Y;cases Y;rfl
       refine⟨.pointer (io ⟨w.heap.size,0,jp⟩),_,I,J,?_,h1.trans q4,⟨q5,fun d=>?_,A.2.2⟩,?_⟩
       .simp only[execOp,ho,G];simp[Instr.range,run_underlying hu,getObj,Sem.run,u,Result.andThen]
       .rw[AF.iE];exact(h4 _ _ (A.2.1 d)).mono (.refl _) q3 (fun i B=>Sb B)
       .have:=VR.ptr (M:=I) (N:=J) (U:=(· <n+1)) n 0 (by omega);rw[q1]at this;exact this
    .cases h
   .cases h
  .cases h
 .cases h
def Mb(h:AH)(sz:Nat):PV->Option (List (List PV)×Nat×Prop)
 | .iv (.c5 sz' n el)=>match Q6 sz' sz with
  |true=>io ((Rh n).map fun k=>(el k).map .iv,n,True)
  |false=>jp
 | .iv (.v (.slice jp 0 0))=>io ([],0,True)
 | .sl j off n sz'=>match Q6 sz' sz,h.get j with
  |true,io (.row sz2 fs)=>match Q6 sz2 sz with
   |true=>io ((fs.drop off).take n,n,off+n<=fs.length)
   |_=>jp
  |_,_=>jp
 |_=>jp
theorem Iy{h:AH}{sz n:Nat}{p:PV}{news:List (List PV)}{C:Prop}(hs:Mb h sz p=io (news,n,C))(hC:C):Src h sz p news∧news.length=n:=by
 unfold Mb at hs;split at hs
 .split at hs
  .rename_i hb;simp only[Qu,QI]at hs;have:=QS hb;obtain⟨rfl,rfl,rfl⟩:=hs;subst this;exact⟨.c5 _ _,by simp⟩
  .cases hs
 .simp only[Qu,QI]at hs;obtain⟨rfl,rfl,rfl⟩:=hs;exact⟨.nil,rfl⟩
 .split at hs
  .rename_i b x;split at hs
   .rename_i d;simp only[Qu,QI]at hs;have j:=QS b;have u:=QS d;subst j;subst u;obtain⟨rfl,rfl,rfl⟩:=hs;exact⟨.row _ _ _ _ x hC,by simp;omega⟩
   .cases hs
  .cases hs
 .cases hs
def JS(ty:Ty)(s:AS)(op:Op):Option (Prop×PV×AS):=
 match op with
 | .call ⟨.builtin .append,args,tys⟩=>match args.toList,tys.toList with
  | [x,y],[t,t']=>match Q6 t' t,ty t with
   |true,io ⟨.aT (.slice u),_,_,_,_⟩=>match ty u with
    |some ⟨_,esz,eby,ez,_⟩=>match Q6 ez.cells.size esz,QZ 0 esz,ev s.f x with
     |true,kw,.sl i 0 len sz=>match Q6 esz sz,s.h.get i with
      |true,io (.row sz' es)=>match Q6 sz' sz,Mb s.h sz (ev s.f y) with
       |true,io (news,n,C)=>match s with
        |⟨f,h,nx⟩=>io (es.length=len∧C∧allOnes news=kw∧(len+n)*eby<=140737488355328∧len+n<=140737488355328,.sl nx 0 (len+n) sz,⟨f,(nx,io (.row sz (es++news)))::(i,jp)::h,nx+1⟩)
       |_,_=>jp
      |_,_=>jp
     |_,_,_=>jp
    |none=>jp
   |_,_=>jp
  |_,_=>jp
 |_=>jp
section
variable {P:Program} {ty:Ty} {nt:Nat} {s:AS}
theorem CX(Z:bT P ty){o:Oper}{p:PV}{C:Prop}{s1 s':AS}(h:JS ty s o.op=io (C,p,s1))(hC:C)(hp:putDst nt o p s1=io s'):OT P nt o s (fun t=>t=s'):=by
 unfold JS at h;split at h
 .rename_i args d ho;split at h
  .rename_i x y t j ha ht;split at h
   .rename_i u _ _ _ _ F he;split at h
    .rename_i ek b0 B ez a0 hu;split at h
     .rename_i i len sz G I hx;split at h
      .rename_i c0 es J hi;split at h
       .rename_i b n C' S hs;have h:io (es.length=len∧C'∧allOnes b=kw∧(len+n)*B<=140737488355328∧len+n<=140737488355328,PV.sl s.nx 0 (len+n) sz,qv s i sz es b)=io (C,p,s1):=by
         rw[<-h];cases s;rfl
        simp only[Qu,QI]at h;obtain⟨rfl,rfl,rfl⟩:=h;have e0:=QS F;have e4:=QS S;have A:=QS J;subst e0;subst e4;have Y:o.op= .call ⟨.builtin .append, #[x,y], #[j,j]⟩:=by
         rw[ho];have h1:args= #[x,y]:=by rw[<-R6 (xs:=args),ha]
         have h2:d= #[j,j]:=by rw[<-R6 (xs:=d),ht]
         rw[h1,h2]
        obtain⟨g1,g2,g3,g4,g5⟩:=hC;obtain⟨g6,g7⟩:=Iy hs g2;subst g7;exact Nf Z Y he D hu hx hi g1 A (by rw[QS G,A]) (by rw[<-A];exact Qs I) D g6 (jZ g3) g4 g5 hp
       .cases h
      .cases h
     .cases h
    .cases h
   .cases h
  .cases h
 .cases h
def G6(ty:Ty)(s:AS)(op:Op):Option (Prop×PV×AS):=
 match JS ty s op with
 |some r=>io r
 |none=>match A5 s op with
  |some (t0,t)=>match ty t with
   |some ⟨.aT (.slice u),_,_,_,_⟩=>match ty u with
    |some ⟨_,esz,_,_,_⟩=>JS ty (tg s t0 esz) op
    |none=>jp
   |_=>jp
  |none=>jp
theorem G5(b:bT P ty){o:Oper}{p:PV}{C:Prop}{s1 s':AS}(h:G6 ty s o.op=io (C,p,s1))(hC:C)(hp:putDst nt o p s1=io s'):OT P nt o s (fun t=>t=s'):=by
 unfold G6 at h;split at h
 .rename_i r j;simp only[Qu]at h;subst h;exact CX b j hC hp
 .split at h
  .rename_i t0 t d;split at h
   .split at h
    .exact Hn (DG d) (CX b h hC hp)
    .cases h
   .cases h
  .cases h
def Nv(ty:Ty)(s:AS)(op:Op):Option (Prop×PV×AS):=
 match LA ty s op with
 |some (C,s1)=>io (C,.any,s1)
 |none=>match Mq ty s op with
  |some (p,s1)=>io (True,p,s1)
  |none=>G6 ty s op
theorem Av(b:bT P ty){o:Oper}{p:PV}{C:Prop}{s1 s':AS}(h:Nv ty s o.op=io (C,p,s1))(hC:C)(hp:putDst nt o p s1=io s'):OT P nt o s (fun t=>t=s'):=by
 unfold Nv at h;split at h
 .rename_i u j hu;simp only[Qu,QI]at h;obtain⟨rfl,rfl,rfl⟩:=h;exact Hr b hu hC hp
 .split at h
  .rename_i x j d;simp only[Qu,QI]at h;obtain⟨rfl,rfl,rfl⟩:=h;exact IL b d hp
  .exact G5 b h hC hp
end
end
end Go.Al
