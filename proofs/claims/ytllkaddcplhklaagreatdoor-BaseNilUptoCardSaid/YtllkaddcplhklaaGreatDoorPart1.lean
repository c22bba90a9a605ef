/-
  What the proofs of the claims need: part 1 of 5.
-/
import GoSem.Core.World
import Derived.Calls
import Derived.Laws.AppendOwn
import Derived.Below
import Derived.Laws.Cells
import Derived.Laws.Entries
import Derived.Laws.StructEq
import Derived.ChangeKeysEq
import Derived.WideLaws
import Derived.Tactics
import Derived.IntWalk
import Derived.WideShapes
import Derived.Lib.Strings
import Derived.MapKept
import Derived.Maps.RangeRun
import Derived.Still
import Derived.Scope
import Derived.Laws.CopyRow
import Derived.Laws.Append
open Array renaming eq_empty_of_size_eq_zero→P6,eraseIdxIfInBounds→RA,getD_eq_getD_getElem?→Oz,getElem?_append_left→Pc,getElem?_append_right→QX,getElem?_eq_getElem→O4,getElem?_eq_none→QP,getElem?_eq_some_iff→Pv,getElem?_map→QN,getElem?_modify→Pd,getElem?_push→QI,getElem?_setIfInBounds→O5,getElem?_toList→O6,length_toList→Qt,mapM_eq_mapM_toList→Ru,mem_filter→Rm,range→Rw,replicate→P4,size_append→QB,toArray_toList→P1,toList_append→Q7,toList_inj→RC
open Bool renaming and_eq_true→Pq,eq_false_iff→QU,eq_iff_iff→PS,false_eq_true→Qb,false_or→Qo,not_eq_true'→PF,not_true→QS,or_eq_true→Qz
open Classical renaming choose→Q5,choose_spec→Qi
open Int renaming toNat_of_nonneg→Q6
open List.Pairwise renaming nil→Ri
open List renaming all_cons→RB,all_eq_true→Pj,any_eq_true→PO,append_assoc→O0,append_inj→R7,append_nil→Pw,cons_append→PT,flatten_cons→Rx,foldl_cons→Pr,forIn_cons→R8,getD_cons_zero→Qs,getD_eq_getElem?_getD→OC,getElem?_append_left→OV,getElem?_append_right→OQ,getElem?_cons_succ→Rf,getElem?_drop→Py,getElem?_eq_getElem→OD,getElem?_eq_some_iff→OB,getElem?_map→OH,getElem?_of_mem→Po,getElem?_set→Qe,getElem?_take→Pn,getElem?_toArray→Pt,getElem_mem→Pm,headD_cons→Rq,length→RP,length_append→OE,length_cons→Pb,length_map→O7,length_nil→Qa,length_pos_iff→PJ,length_take→PN,map_append→OX,map_cons→OZ,map_nil→P9,mem_append_left→Ph,mem_cons→OP,mem_cons_of_mem→ON,mem_cons_self→OO,mem_filter→Pa,mem_map→Pg,mem_of_getElem?→Pe,mem_singleton→OM,nil_append→Qh,nodup_cons→Pf,nodup_nil→Pk,pairwise_cons→PG,pairwise_iff_getElem→PL,range→O9,range'_succ→R1
open List.cons renaming injEq→RH
open Nat renaming add_assoc→P3,add_mul→PD,add_zero→Qn,beq→O2,ble→Qx,ble_eq_true_of_le→Pu,blt→O1,eq_of_beq_eq_true→OU,le_of_ble_eq_true→Oy,le_of_not_lt→Qk,le_refl→OL,le_succ→Qv,le_trans→Pp,lt_of_lt_of_le→Qj,lt_or_ge→PB,lt_succ_of_lt→PY,lt_succ_self→Qc,lt_trichotomy→QW,mul_le_mul_right→O3,ne_of_lt→RE,not_lt_zero→QA,sub_zero→Q4,succ_mul→P5,zero_add→O8,zero_le→OS,zero_mul→Qu
open Option renaming getD_some→PA,map_eq_none_iff→QO,map_eq_some_iff→OJ,map_map→RO,map_none→QR,map_some→PI
open Option.some renaming inj→Pl,injEq→OA
open Prod renaming fst→Px
open Prod.mk renaming injEq→OK
set_option maxRecDepth 100000
open Bool renaming false→jp,true→is
open Decidable renaming decide→kw
open Inhabited renaming default→ci
open Option renaming none→io,some→co
namespace Go
theorem Z.{u}{α:Sort u}{a:α}:a=a:=rfl
theorem ac:True:=trivial
theorem am.{u}{c:Prop}{h:Decidable c}(hc:c){α:Sort u}{t e:α}:(@ite α c h t e)=t:=if_pos hc
theorem be.{u}{c:Prop}{h:Decidable c}(hc:¬c){α:Sort u}{t e:α}:(@ite α c h t e)=e:=if_neg hc
end Go
namespace Go.Al
section
def nF:List Int:=[1,10,100,1000,10000,100000,1000000,10000000,100000000,1000000000,10000000000,100000000000,1000000000000,10000000000000,100000000000000,1000000000000000,10000000000000000,100000000000000000,1000000000000000000,10000000000000000000]
def KQ:Nat->Option (Array Value)
 |1=>co (nF.map fun z=>Value.int .u64 z).toArray
 |_=>io
abbrev FS:=List (Option IntKind)
@[reducible] def FK:FS->Type
 | []=>Unit
 |none::r=>ByteArray×FK r
 |some _::r=>Int×FK r
instance FK.Nr:(s:FS)->DecidableEq (FK s)
 | []=>inferInstanceAs (DecidableEq Unit)
 |none::r=>have:=FK.Nr r;inferInstanceAs (DecidableEq (ByteArray×FK r))
 |some _::r=>have:=FK.Nr r;inferInstanceAs (DecidableEq (Int×FK r))
def FK.vs:(s:FS)->FK s->List Value
 | [],_=> []
 |none::r,k=> .string k.1::FK.vs r k.2
 |some q::r,k=> .int q k.1::FK.vs r k.2
inductive KC where
 |str
 |int (k:IntKind)
 |si (k:IntKind)
 |fl (s:FS)
 deriving DecidableEq
@[reducible] def KC.K:KC->Type
 | .str=>ByteArray
 | .int _=>Int
 | .si _=>ByteArray×Int
 | .fl s=>FK s
instance KC.Nr:(c:KC)->DecidableEq c.K
 | .str=>inferInstanceAs (DecidableEq ByteArray)
 | .int _=>inferInstanceAs (DecidableEq Int)
 | .si _=>inferInstanceAs (DecidableEq (ByteArray×Int))
 | .fl s=>FK.Nr s
def KC.ek:(c:KC)->c.K->Value
 | .str,s=> .string s
 | .int k,n=> .int k n
 | .si k,x=> .agg #[.string x.1,.int k x.2]
 | .fl s,x=> .agg (FK.vs s x).toArray
inductive IV:Type 1 where
 |v (x:Value)
 |cp (sz n:Nat) (el:Nat->List IV)
 |jg (cs:List IV)
 |agg (cs:List IV)
 |dJ {V:Type} (kc:KC) (ev:V->IV) (z:V) (zv:Value) (m:List (kc.K×V))
inductive PV:Type 1 where
 |iv (x:IV)
 |agg (cs:List PV)
 |bh (cs:List PV)
 |ptr (i off:Nat)
 |cD (i sz k off:Nat)
 |dY (z:Bool) (i:Nat)
 |mA (i off n:Nat)
 |sl (i off len sz:Nat)
 |mp (i:Nat)
 |bX (fn:Fn) (first caps:List PV)
 |kb (b:Bool)
 |any
inductive AO:Type 1 where
 |cells (cs:List PV) (T:Option TypeId:=io)
 |row (sz:Nat) (es:List (List PV))
 |bf (l:List UInt8) (T:TypeId)
 |eC
 |map {V:Type} (kc:KC) (ev:V->IV) (z:V) (zv:Value) (dv:PV->V) (m:List (kc.K×V))
 |bB {V:Type} (kc:KC) (ev:V->IV) (m:List (kc.K×V)) (vs:List Nat) (cur:Option (kc.K×V))
 |c9 (s:ByteArray) (pos:Nat)
 |gi {V:Type} (kc:KC) (ev:V->IV) (z:V) (zv:Value) (dv:PV->V) (m:List (kc.K×V)) (bs:List Nat) (clock:Nat)
 |dB (mp:PV) (clock:Nat) (seen:List Nat)
inductive MB where
 |cells (c:Array Value)
 |map (ents:Array MapEntry) (clock:Nat)
structure Mem where
 fn:Nat->Option MB
 Hh: ∀b c,KQ b=co c->fn b=co (.cells c)
instance:CoeFun Mem (fun _=>Nat->Option MB):=⟨Mem.fn⟩
def Mem.base:Mem:=⟨fun b=>(KQ b).map .cells,fun b c h=>by rw[h];rfl⟩
def wu(a:Option TypeId)(T:TypeId):Prop:= ∀t,a=co t->T=t
theorem wu.none(T:TypeId):wu io T:=fun _ h=>nomatch h
def Mem.cell(M:Mem)(b o:Nat):Option Value:=match M b with|some (.cells c)=>c[o]? |_=>io
def Mem.set(M:Mem)(b:Nat)(c:MB)(h:M b=io):Mem:=
 ⟨fun x=>if x=b then co c else M x,fun x d j=>by
  rw[be fun e=>by have:=M.Hh x d j;rw[e]at this;exact absurd (this.symm.trans h) (by simp)]
  exact M.Hh x d j⟩
def MB.vG(w:World)(b:Nat):MB->Prop
 | .cells c=> ∃T j,w.heap[b]? =co (.cells c T j)
 | .map es cl=>w.heap[b]? =co (.map es cl)
theorem MB.vG.lt{w:World}{b:Nat}{m:MB}(h:m.vG w b):b<w.heap.size:=by
 cases m with
 |cells c=>obtain⟨T,j,h1⟩:=h;exact(Pv.1 h1).1
 |map es cl=>exact(Pv.1 h).1
theorem MB.vG.mono{w w':World}{b:Nat}{m:MB}(h:m.vG w b)(e:w'.heap[b]? =w.heap[b]?):m.vG w' b:=by
 cases m with
 |cells c=>obtain⟨T,j,h1⟩:=h;exact⟨T,j,e.trans h1⟩
 |map es cl=>exact e.trans h
structure Nm where
 az:Nat->Nat
 ext:Nat->Nat
inductive IR (M:Mem):IV->Value->Prop
 |v (x:Value):IR M (.v x) x
 |fh (sz:Nat) (el:Nat->List IV) (a:Option Addr) (cap:Nat):IR M (.cp sz 0 el) (.slice a 0 cap)
 | cp (sz n:Nat) (el:Nat->List IV) (b off cap:Nat) (hn:n<=cap) (hc:cap<=maxLen) (hl: ∀k,k<n->(el k).length=sz)
   (hm: ∀k j,k<n->j<sz->(M.cell b (off+k*sz+j)).isSome=is)
   (hr: ∀k j p,k<n->(el k)[j]? =co p->IR M p ((M.cell b (off+k*sz+j)).getD undef)):
   IR M (.cp sz n el) (.slice (co ⟨b,off,io⟩) n cap)
 | jg (cs:List IV) (b off:Nat) (hm: ∀j,j<cs.length->(M.cell b (off+j)).isSome=is)
   (hr: ∀j p,cs[j]? =co p->IR M p ((M.cell b (off+j)).getD undef)):IR M (.jg cs) (.pointer (co ⟨b,off,io⟩))
 |agg (cs:List IV) (ys:Array Value) (hl:cs.length=ys.size) (hr: ∀j p,cs[j]? =co p->IR M p (ys.getD j undef)):IR M (.agg cs) (.agg ys)
 | dJ {V:Type} (kc:KC) (ev:V->IV) (z:V) (zv:Value) (m:List (kc.K×V)) (b:Nat) (ents:Array MapEntry) (clock:Nat) (hb:M b=co (.map ents clock)) (hs:ents.size=m.length)
   (hk: ∀(j:Nat) (x:kc.K×V),m[j]? =co x->(ents.getD j ci).key=kc.ek x.1) (hv: ∀(j:Nat) (x:kc.K×V),m[j]? =co x->IR M (ev x.2) (ents.getD j ci).val) (hz:IR M (ev z) zv)
   (hi: ∀(j k:Nat) (e f:MapEntry),ents[j]? =co e->ents[k]? =co f->e.born=f.born->j=k) (hc: ∀(j:Nat) (e:MapEntry),ents[j]? =co e->e.born<clock):IR M (.dJ kc ev z zv m) (.map (co b))
inductive VR (M:Mem) (N:Nm) (U:Nat->Prop):PV->Value->Prop
 |iv (x:IV) (y:Value) (h:IR M x y):VR M N U (.iv x) y
 |agg (cs:List PV) (ys:Array Value) (hl:cs.length=ys.size) (hr: ∀j p,cs[j]? =co p->VR M N U p (ys.getD j undef)):VR M N U (.agg cs) (.agg ys)
 |bh (cs:List PV) (ys:Array Value) (hl:cs.length=ys.size) (hr: ∀j p,cs[j]? =co p->VR M N U p (ys.getD j undef)):VR M N U (.bh cs) (.tuple ys)
 |ptr (i off:Nat) (h:U i):VR M N U (.ptr i off) (.pointer (co ⟨N.az i,off,io⟩))
 |cD (i sz k off:Nat) (h:U i):VR M N U (.cD i sz k off) (.pointer (co ⟨N.az i,k*sz+off,io⟩))
 |dY (z:Bool) (i:Nat) (h:U i):VR M N U (.dY z i) (.pointer (bif z then io else co ⟨N.az i,0,io⟩))
 |mA (i off n:Nat) (h:U i):VR M N U (.mA i off n) (.slice (co ⟨N.az i,off,io⟩) n n)
 |sl (i off len sz cap:Nat) (h:U i) (h0:0<len) (hl:len<=cap) (hc:cap<=maxLen) (he:(off+cap)*sz=N.ext i):VR M N U (.sl i off len sz) (.slice (co ⟨N.az i,off*sz,io⟩) len cap)
 |lC (i sz:Nat) (h:U i):VR M N U (.sl i 0 0 sz) (.slice io 0 0)
 |sle (i sz cap:Nat) (h:U i) (hc:cap<=maxLen) (he:cap*sz=N.ext i):VR M N U (.sl i 1 0 sz) (.slice (co ⟨N.az i,0,io⟩) 0 cap)
 |mp (i:Nat) (h:U i):VR M N U (.mp i) (.map (co (N.az i)))
 | bX (fn:Fn) (first caps:List PV) (f' c':Array Value) (h1:first.length=f'.size) (h2:caps.length=c'.size)
   (hr1: ∀j p,first[j]? =co p->VR M N U p (f'.getD j undef)) (hr2: ∀j p,caps[j]? =co p->VR M N U p (c'.getD j undef)):VR M N U (.bX fn first caps) (.func fn f' c')
 |kb (b:Bool):VR M N U (.kb b) (.bool b)
 |any (x:Value):VR M N U .any x
def Mem.le(M j:Mem):Prop:= ∀b c,M b=co c->j b=co c
theorem Mem.le.refl(M:Mem):M.le M:=fun _ _ h=>h
theorem Mem.le.trans{A B C:Mem}(h:A.le B)(k:B.le C):A.le C:=fun b c e=>k b c (h b c e)
theorem Mem.le.cell{M j:Mem}(h:M.le j){b o:Nat}{v:Value}(hc:M.cell b o=co v):j.cell b o=co v:=by
 unfold Mem.cell at*
 cases hb:M b with
 |none=>simp[hb]at hc
 |some c=>rw[hb]at hc;rw[h b c hb];exact hc
theorem Mem.le.isSome{M j:Mem}(h:M.le j){b o:Nat}(hc:(M.cell b o).isSome=is):(j.cell b o).isSome=is∧(j.cell b o).getD undef=(M.cell b o).getD undef:=by
 cases hv:M.cell b o with
 |none=>simp[hv]at hc
 |some v=>rw[h.cell hv];simp
theorem IR.mono{M A:Mem}(hM:M.le A){p:IV}{x:Value}(h:IR M p x):IR A p x:=by
 induction h with
 |v x=>exact .v x
 |fh sz el a cap=>exact .fh sz el a cap
 |cp sz n el b off cap hn hc hl hm hr ih=>
  refine .cp sz n el b off cap hn hc hl (fun k j hk u=>(hM.isSome (hm k j hk u)).1) (fun k j p hk y=>?_);have u:j<sz:=by rw[<-hl k hk];exact(OB.1 y).1
  rw[(hM.isSome (hm k j hk u)).2];exact ih k j p hk y
 |jg cs b off hm hr ih=>
  refine .jg cs b off (fun j u=>(hM.isSome (hm j u)).1) (fun j p y=>?_);have u:j<cs.length:=(OB.1 y).1;rw[(hM.isSome (hm j u)).2];exact ih j p y
 |agg cs ys hl hr ih=>exact .agg cs ys hl ih
 |dJ kc ev z zv m b ents clock hb hs hk hv hz hi hc ihv ihz=>exact .dJ kc ev z zv m b ents clock (hM _ _ hb) hs hk ihv ihz hi hc
structure ij {V:Type} (M:Mem) (kc:KC) (ev:V->IV) (m:List (kc.K×V)) (ents:Array MapEntry) (clock:Nat):Prop where
 size:ents.size=m.length
 key: ∀(j:Nat) (x:kc.K×V),m[j]? =co x->(ents.getD j ci).key=kc.ek x.1
 val: ∀(j:Nat) (x:kc.K×V),m[j]? =co x->IR M (ev x.2) (ents.getD j ci).val
 inj: ∀(j k:Nat) (e f:MapEntry),ents[j]? =co e->ents[k]? =co f->e.born=f.born->j=k
 lt: ∀(j:Nat) (e:MapEntry),ents[j]? =co e->e.born<clock
theorem ij.mono{V:Type}{M b:Mem}(hM:M.le b){kc:KC}{ev:V->IV}{m:List (kc.K×V)}{ents:Array MapEntry}{clock:Nat}(h:ij M kc ev m ents clock):ij b kc ev m ents clock:=
 ⟨h.size,h.key,fun j x u=>(h.val j x u).mono hM,h.inj,h.lt⟩
structure Nm.agree (N N':Nm) (U:Nat->Prop):Prop where
 az: ∀i,U i->N'.az i=N.az i
 ext: ∀i,U i->N'.ext i=N.ext i
theorem Nm.agree.refl(N:Nm)(U:Nat->Prop):N.agree N U:=⟨fun _ _=>rfl,fun _ _=>rfl⟩
theorem VR.mono{M A:Mem}{N B:Nm}{U C:Nat->Prop}(hM:M.le A)(j:N.agree B U)(u: ∀i,U i->C i){p:PV}{x:Value}(h:VR M N U p x):VR A B C p x:=by
 induction h with
 |iv x y h=>exact .iv x y (h.mono hM)
 |agg cs ys hl hr ih=>exact .agg cs ys hl ih
 |bh cs ys hl hr ih=>exact .bh cs ys hl ih
 |ptr i off h=>rw[<-j.az i h];exact .ptr i off (u i h)
 |cD i sz k off h=>rw[<-j.az i h];exact .cD i sz k off (u i h)
 |dY z i h=>rw[<-j.az i h];exact .dY z i (u i h)
 |mA i off n h=>rw[<-j.az i h];exact .mA i off n (u i h)
 |sl i off len sz cap h h0 hl hc he=>rw[<-j.az i h];exact .sl i off len sz cap (u i h) h0 hl hc (by rw[j.ext i h];exact he)
 |lC i sz h=>exact .lC i sz (u i h)
 |sle i sz cap h hc he=>rw[<-j.az i h];exact .sle i sz cap (u i h) hc (by rw[j.ext i h];exact he)
 |mp i h=>rw[<-j.az i h];exact .mp i (u i h)
 |bX fn first caps f' c' h1 h2 hr1 hr2 ih1 ih2=>exact .bX fn first caps f' c' h1 h2 ih1 ih2
 |kb b=>exact .kb b
 |any x=>exact .any x
abbrev AH:=List (Nat×Option AO)
def AH.get:AH->Nat->Option AO
 | [],_=>io
 |(i,o)::r,k=>bif O2 k i then o else AH.get r k
abbrev AF:=List (Nat×PV)
def AF.get:AF->Nat->PV
 | [],_=> .any
 |(i,p)::r,k=>bif O2 k i then p else AF.get r k
theorem AF.au(i:Nat)(p:PV)(r:AF)(k:Nat):AF.get ((i,p)::r) k=if k=i then p else AF.get r k:=by
 by_cases h:k=i
 .subst h;simp[AF.get]
 .have:O2 k i=jp:=QU.2 (fun e=>h (OU e));simp[AF.get,this,h]
theorem AH.au(i:Nat)(o:Option AO)(r:AH)(k:Nat):AH.get ((i,o)::r) k=if k=i then o else AH.get r k:=by
 by_cases h:k=i
 .subst h;simp[AH.get]
 .have:O2 k i=jp:=QU.2 (fun e=>h (OU e));simp[AH.get,this,h]
def OR(M:Mem)(N:Nm)(U:Nat->Prop)(w:World)(i:Nat):AO->Prop
 | .cells cs T0=> ∃c T,w.heap[N.az i]? =co (.cells c T (0,0))∧c.size=N.ext i∧cs.length=c.size∧(∀j p,cs[j]? =co p->VR M N U p (c.getD j undef))∧wu T0 T
 | .row sz es=>es=[]∨0<sz∧ ∃c T,w.heap[N.az i]? =co (.cells c T (0,0))∧c.size=N.ext i∧es.length*sz<=c.size∧(∀(k:Nat) (e:List PV),es[k]? =co e->e.length=sz)∧
   ∀(k:Nat) (e:List PV) (j:Nat) (p:PV),es[k]? =co e->e[j]? =co p->VR M N U p (c.getD (k*sz+j) undef)
 | .bf l T=>l=[]∨ ∃c,w.heap[N.az i]? =co (.cells c T (0,0))∧c.size=N.ext i∧l.length<=c.size∧ ∀(j:Nat) (x:UInt8),l[j]? =co x->c.getD j undef= .int .u8 (x.toNat:Int)
 | .eC=>w.heap[N.az i]? =co (.map #[] 0)
 | .map kc ev z zv _ m=> ∃(ents:Array MapEntry) (clock:Nat),w.heap[N.az i]? =co (.map ents clock)∧ij M kc ev m ents clock∧IR M (ev z) zv
 | .bB kc ev m vs cur=>(m=[]∧vs=[]∧cur=io∧w.heap[N.az i]? =co (.mapIter io 0 #[] 0))∨ ∃(b:Nat) (ents:Array MapEntry) (clock:Nat) (u:Array Nat),w.heap[N.az i]? =co (.mapIter (co b) clock u clock)∧M b=co (.map ents clock)∧ij M kc ev m ents clock∧
   u.toList=vs.reverse.map (fun j=>(ents.getD j ci).born)∧(∀j∈vs,j<m.length)∧vs.Nodup∧ ∀x,cur=co x-> ∃j r,vs=j::r∧m[j]? =co x
 | .c9 s pos=>w.heap[N.az i]? =co (.stringIter s pos)
 | .gi kc ev z zv _ m bs clock=> ∃ents:Array MapEntry,w.heap[N.az i]? =co (.map ents clock)∧ij M kc ev m ents clock∧IR M (ev z) zv∧ents.toList.map MapEntry.born=bs
 | .dB mp clock u=> ∃b,VR M N U mp (.map (co b))∧w.heap[N.az i]? =co (.mapIter (co b) clock u.toArray clock)
def AO.real:AO->Bool
 | .row _ []=>jp
 | .bf [] _=>jp
 |_=>is
structure Rel (M:Mem) (N:Nm) (U:Nat->Prop) (h:AH) (w:World):Prop where
 dR: ∀b c,M b=co c->c.vG w b
 used: ∀i o,h.get i=co o->U i
 dD: ∀i o,h.get i=co o->o.real=is->M (N.az i)=io
 obj: ∀i o,h.get i=co o->OR M N U w i o
 inj: ∀i j o p,h.get i=co o->h.get j=co p->o.real=is->p.real=is->N.az i=N.az j->i=j
theorem OR.lt{M:Mem}{N:Nm}{U:Nat->Prop}{w:World}{i:Nat}{o:AO}(h:OR M N U w i o)(j:o.real=is):N.az i<w.heap.size:=by
 have key: ∀x,w.heap[N.az i]? =co x->N.az i<w.heap.size:=fun x u=>(Pv.1 u).1
 cases o with
 |cells cs T0=>obtain⟨c,T,h1,_⟩:=h;exact key _ h1
 |row sz es=>
  rcases h with rfl|⟨_,c,T,h1,_⟩
  .cases j
  .exact key _ h1
 |bf l T=>
  rcases h with rfl|⟨c,h1,_⟩
  .cases j
  .exact key _ h1
 |eC=>exact key _ h
 |map kc ev z zv dv m=>obtain⟨e,cl,h1,_⟩:=h;exact key _ h1
 |bB kc ev m l cu=>rcases h with⟨_,_,_,h1⟩|⟨b,e,cl,y,h1,_⟩<;>exact key _ h1
 |c9 s p=>exact key _ h
 |gi kc ev z zv dv m bs clock=>obtain⟨e,h1,_⟩:=h;exact key _ h1
 |dB mp clock seen=>obtain⟨b,_,h1⟩:=h;exact key _ h1
theorem OR.mono{M I:Mem}{N B:Nm}{U J:Nat->Prop}{w w':World}{i:Nat}{o:AO}(hM:M.le I)(u:N.agree B U)(D: ∀i,U i->J i)(hi:U i)(hb:w'.heap[N.az i]? =w.heap[N.az i]?)
  (h:OR M N U w i o):OR I B J w' i o:=by
 cases o with
 |cells cs T0=>
  obtain⟨c,T,h1,x,y,A,C⟩:=h;exact⟨c,T,by rw[u.az i hi,hb,h1],by rw[u.ext i hi,x],y,fun j p G=>(A j p G).mono hM u D,C⟩
 |row sz es=>
  rcases h with h|⟨R,c,T,h1,x,y,A,C⟩
  .exact .inl h
  exact .inr ⟨R,c,T,by rw[u.az i hi,hb,h1],by rw[u.ext i hi,x],y,A,fun k e j p Y G=>(C k e j p Y G).mono hM u D⟩
 |bf l T=>
  rcases h with h|⟨c,h1,x,y,A⟩
  .exact .inl h
  exact .inr ⟨c,by rw[u.az i hi,hb,h1],by rw[u.ext i hi,x],y,A⟩
 |eC=>show w'.heap[B.az i]? =_;rw[u.az i hi,hb];exact h
 |map kc ev z zv dv m=>
  obtain⟨e,cl,h1,x,y⟩:=h;exact⟨e,cl,by rw[u.az i hi,hb,h1],x.mono hM,y.mono hM⟩
 |bB kc ev m l cu=>
  rcases h with⟨h1,x,y,A⟩|⟨b,e,cl,se,h1,x,y,A⟩
  .exact .inl ⟨h1,x,y,by rw[u.az i hi,hb,A]⟩
  .exact .inr ⟨b,e,cl,se,by rw[u.az i hi,hb,h1],hM _ _ x,y.mono hM,A⟩
 |c9 s p=>show w'.heap[B.az i]? =_;rw[u.az i hi,hb];exact h
 |gi kc ev z zv dv m bs clock=>
  obtain⟨e,h1,x,y,A⟩:=h;exact⟨e,by rw[u.az i hi,hb,h1],x.mono hM,y.mono hM,A⟩
 |dB mp clock seen=>
  obtain⟨b,h1,x⟩:=h;exact⟨b,h1.mono hM u D,by rw[u.az i hi,hb,x]⟩
structure qw (w w':World):Prop where
 out:w'.output=w.output
 drawn:w.drawn<=w'.drawn
theorem qw.refl(w:World):qw w w:=⟨rfl,OL _⟩
theorem qw.trans{w j u:World}(b:qw j u)(a:qw w j):qw w u:=⟨b.out.trans a.out,Pp a.drawn b.drawn⟩
structure Ext (M:Mem) (N:Nm) (U:Nat->Prop) (h:AH) (w:World) (M':Mem) (N':Nm) (U':Nat->Prop) (h':AH) (w':World):Prop where
 os:w'.os=w.os
 tape:w'.tape=w.tape
 output:qw w w'
 size:w.heap.size<=w'.heap.size
 dc: ∀b,b<w.heap.size->(∀i o,h.get i=co o->o.real=is->N.az i≠b)->w'.heap[b]? =w.heap[b]?
 mO:M.le M'
 fO: ∀b c,M b=io->M' b=co c->w.heap.size<=b∨ ∃i o,h.get i=co o∧o.real=is∧N.az i=b
 nm:N.agree N' U
 ule: ∀i,U i->U' i
 ff: ∀i o,h'.get i=co o->o.real=is->w.heap.size<=N'.az i∨ ∃j p,h.get j=co p∧p.real=is∧N.az j=N'.az i
theorem Ext.refl(M:Mem)(N:Nm)(U:Nat->Prop)(h:AH)(w:World):Ext M N U h w M N U h w:=
 ⟨rfl,rfl,⟨rfl,OL _⟩,OL _,fun _ _ _=>rfl,.refl _,fun b c h1 j=>by simp[h1]at j,.refl _ _,fun _ h=>h,fun i o u x=> .inr ⟨i,o,u,x,rfl⟩⟩
theorem Ext.trans{M G I:Mem}{N J R:Nm}{U Y U2:Nat->Prop}{h h1 h2:AH}{w w1 w2:World}
  (a:Ext M N U h w G J Y h1 w1) (b:Ext G J Y h1 w1 I R U2 h2 w2):Ext M N U h w I R U2 h2 w2 where
 os:=b.os.trans a.os
 tape:=b.tape.trans a.tape
 output:=b.output.trans a.output
 size:=Pp a.size b.size
 dc:=fun k hk hn=>by
  rw[b.dc k (Qj hk a.size) (fun i o u x he=>?_),a.dc k hk hn];rcases a.ff i o u x with y|⟨j,p,y,D,A⟩
  .omega
  .exact hn j p y D (A.trans he)
 mO:=a.mO.trans b.mO
 fO:=fun k c y A=>by
  cases B:G k with
  |some c'=>exact a.fO k c' y B
  |none=>
   rcases b.fO k c B A with C|⟨i,o,C,x,h7⟩
   .exact .inl (Pp a.size C)
   .rcases a.ff i o C x with h8|⟨j,p,h8,D,h9⟩
    .exact .inl (by omega)
    .exact .inr ⟨j,p,h8,D,h9.trans h7⟩
 nm:=⟨fun i u=>(b.nm.az i (a.ule i u)).trans (a.nm.az i u),fun i u=>(b.nm.ext i (a.ule i u)).trans (a.nm.ext i u)⟩
 ule:=fun i u=>b.ule i (a.ule i u)
 ff:=fun i o u x=>by
  rcases b.ff i o u x with y|⟨j,p,y,D,A⟩
  .exact .inl (Pp a.size y)
  .rcases a.ff j p y D with B|⟨k,q,B,hq,C⟩
   .exact .inl (by omega)
   .exact .inr ⟨k,q,B,hq,C.trans A⟩
def an(p q:PV):Prop:= ∀(M:Mem) (N:Nm) (U:Nat->Prop) (x:Value),VR M N U p x->VR M N U q x
def km(p q:IV):Prop:= ∀(M:Mem) (x:Value),IR M p x->IR M q x
theorem an.refl(p:PV):an p p:=fun _ _ _ _ h=>h
theorem wa(w:World)(o:Obj)(i:Nat)(h:i<w.heap.size):(w.alloc o).heap[i]? =w.heap[i]? :=by
 show(w.heap.push o)[i]? =_;rw[QI,be (by omega)]
def FR(M:Mem)(N:Nm)(U:Nat->Prop)(f:AF)(t:Array Value):Prop:= ∀k,VR M N U (f.get k) (t.getD k undef)
theorem FR.mono{M b:Mem}{N j:Nm}{U u:Nat->Prop}{f:AF}{t:Array Value}(hM:M.le b)(x:N.agree j U)(y: ∀i,U i->u i)(h:FR M N U f t):FR b j u f t:=fun k=>(h k).mono hM x y
theorem FR.ext{M b:Mem}{N j:Nm}{U u:Nat->Prop}{h x:AH}{w w':World}{f:AF}{t:Array Value}(e:Ext M N U h w b j u x w')(hf:FR M N U f t):FR b j u f t:=hf.mono e.mO e.nm e.ule
theorem FR.put{M:Mem}{N:Nm}{U:Nat->Prop}{f:AF}{t:Array Value}(h:FR M N U f t)(d:Nat)(p:PV)(x:Value)(hd:d<t.size)(hp:VR M N U p x):FR M N U ((d,p)::f) (t.setIfInBounds d x):=by
 intro k;rw[AF.au];by_cases hk:k=d
 .subst hk;simp[Oz,hd,hp]
 .rw[be hk];have:=h k;simp only[Oz,O5]at this ⊢;rw[be (fun e=>hk e.symm)];exact this
inductive TK where
  |aJ (d:TypeDesc)
  |cE (fs:List (Nat×TypeId))
  |arr (n:Nat) (e:TypeId)
structure bA where
  k:TK
  size:Nat
  bytes:Nat
  zero:Value
  eq:Bool
abbrev Ty:=Nat->Option bA
def ud:TypeDesc->Bool
  | .struct _=>jp
  | .array _ _=>jp
  |_=>is
def EL(P:Program)(t:TypeId):TK->Prop
  | .aJ d=>P.underlying t=co d∧ud d=is
  | .cE fs=> ∃F,P.underlying t=co (.struct F)∧F.toList.map (fun f=>(f.offset,f.type))=fs
  | .arr n e=>P.underlying t=co (.array n e)
def Nk(P:Program)(t:TypeId):Prop:=P.stoodInHeld t=jp∧P.eqGuardType P.depth t=jp∧ ∀f∈(P.fieldsOf t).toList,f.name≠ "_"
def ai(P:Program)(t:TypeId)(e:bA):Prop:=
  (∃i,P.info? t=co i∧i.size=e.size∧i.bytes=e.bytes∧i.zero=co e.zero)∧EL P t e.k∧(e.eq=is->Nk P t)
def bn(P:Program)(ty:Ty):Prop:= ∀t e,ty t=co e->ai P t e
section
variable {P:Program} {w:World}
theorem aO{t:TypeId}{e:bA}(h:ai P t e):(sizeOf t).run P w= .ok e.size w:=by
  obtain⟨⟨i,b,hs,_⟩,_⟩:=h;simp[sizeOf,run_typeInfo w b,hs]
theorem cU{t:TypeId}{e:bA}(h:ai P t e):(zeroValue t).run P w= .ok e.zero w:=by
  obtain⟨⟨i,b,hs,hb,j⟩,_⟩:=h;simp[zeroValue,run_typeInfo w b,j]
def TK.agg:TK->Bool
  | .aJ _=>jp
  |_=>is
theorem fx{t:TypeId}{e:bA}(h:ai P t e):(isAgg t).run P w= .ok e.k.agg w:=by
  obtain⟨_,hk,_⟩:=h;cases hek:e.k with
  | aJ d=>
    rw[hek]at hk;obtain⟨h1,b⟩:=hk;simp only[isAgg,Sem.run_bind,run_underlying h1,Result.andThen_ok];cases d<;>simp_all [ud,TK.agg]
  | cE fs=>
    rw[hek]at hk;obtain⟨F,h1,_⟩:=hk;simp[isAgg,run_underlying h1,TK.agg]
  | arr n el=>
    rw[hek]at hk;simp only[EL]at hk;simp[isAgg,run_underlying hk,TK.agg]
end
structure AS where
  f:AF
  h:AH
  nx:Nat
structure NT where
  n:Nat
  df:List Deferred
instance:Coe NT Nat:=⟨NT.n⟩
instance:Coe Nat NT:=⟨fun n=>⟨n,[]⟩⟩
def Fits(M:Mem)(N:Nm)(s:AS)(nt:NT)(a:Act)(w:World):Prop:=
  Rel M N (· <s.nx) s.h w∧FR M N (· <s.nx) s.f a.tmps∧a.defers=nt.df∧a.tmps.size=nt.n
def ofV:Value->PV
  | .agg cs=> .agg (cs.toList.map fun v=> .iv (.v v))
  | .bool b=> .kb b
  |v=> .iv (.v v)
def ev(f:AF):Operand->PV
  | .tmp t=>f.get t
  | .const v=>ofV v
  | .global _=> .any
  | .func g=> .bX (.func g) [] []
theorem Ky{M:Mem}{N:Nm}{U:Nat->Prop}(v:Value):VR M N U (ofV v) v:=by
  cases v<;>first
    |exact .iv _ _ (.v _)
    |exact .kb _
    | (refine .agg _ _ (by simp) (fun j p u=>?_)
       rw[OH,OJ]at u;obtain⟨x,A,rfl⟩:=u;rename_i y;have b:y[j]? =co x:=by simpa using A
       rw[Oz,b]
       exact .iv _ _ (.v _))
theorem aG{M:Mem}{N:Nm}{U:Nat->Prop}{f:AF}{a:Act}(h:FR M N U f a.tmps)(x:Operand):VR M N U (ev f x) (a.eval x):=by
  cases x with
  |tmp t=>exact h t
  |const v=>exact Ky v
  |global g=>exact .any _
  |func g=>exact .bX _ _ _ _ _ Z Z (by simp) (by simp)
def jM(cs:List PV)(off n:Nat):Option (List PV):=let l:=(cs.drop off).take n;bif O2 l.length n then co l else io
def sA{α:Type _}(p:PV)(k:PV->α):α:=
  match p with
  | .iv x=>k (.iv x)
  | .agg cs=>k (.agg cs)
  | .bh cs=>k (.bh cs)
  | .ptr i o=>k (.ptr i o)
  | .cD i sz a o=>k (.cD i sz a o)
  | .dY z i=>k (.dY z i)
  | .mA i o n=>k (.mA i o n)
  | .sl i o n sz=>k (.sl i o n sz)
  | .mp i=>k (.mp i)
  | .bX fn a b=>k (.bX fn a b)
  | .kb b=>k (.kb b)
  | .any=>k .any
theorem c5{α:Type _}(p:PV)(k:PV->α):sA p k=k p:=by cases p<;>rfl
def force{α:Type _}:List PV->(List PV->α)->α
  | [],k=>k []
  |x::r,k=>sA x fun j=>force r fun b=>k (j::b)
theorem force_eq{α:Type _}: ∀(l:List PV) (k:List PV->α),force l k=k l
  | [],_=>rfl
  |x::r,k=>by simp only[force,c5];rw[force_eq r]
def PV.one:PV->Bool
  | .iv (.v (.agg _))=>jp
  | .iv (.v (.tuple _))=>jp
  | .iv (.agg _)=>jp
  | .iv _=>is
  | .agg _=>jp
  | .bh _=>jp
  | .any=>jp
  |_=>is
def PV.cells:PV->Option (List PV)
  | .agg cs=>co cs
  | p=>match p.one with
    |true=>co [p]
    |false=>io
def ew:List PV->Bool
  | []=>is
  | p::r=>match p.one with
    |true=>ew r
    |false=>jp
def setCells:List PV->Nat->List PV->List PV
  | [],_,_=> []
  |c::cs,0,[]=>c::cs
  |_::cs,0,x::xs=>x::setCells cs 0 xs
  |c::cs,n+1,xs=>c::setCells cs n xs
theorem cH: ∀(cs:List PV) (n:Nat) (xs:List PV),(setCells cs n xs).length=cs.length
  | [],_,_=>rfl
  |c::cs,0,[]=>rfl
  |_::cs,0,x::xs=>by simp[setCells,cH cs 0 xs]
  |c::cs,n+1,xs=>by simp[setCells,cH cs n xs]
theorem fQ: ∀(cs:List PV) (n:Nat) (xs:List PV) (j:Nat) (p:PV),(setCells cs n xs)[j]? =co p->(n<=j∧xs[j-n]? =co p)∨((j<n∨n+xs.length<=j)∧cs[j]? =co p)
  | [],_,_,j,p,h=>by simp[setCells]at h
  |c::cs,0,[],j,p,h=> .inr ⟨.inr (by simp),h⟩
  | c::cs,0,x::xs,j,p,h=>by
    simp only[setCells]at h;cases j with
    |zero=>exact .inl ⟨OL _,by simpa using h⟩
    | succ j=>
      rcases fQ cs 0 xs j p (by simpa using h) with⟨_,h1⟩|⟨h1,b⟩
      · exact .inl ⟨OS _,by simpa using h1⟩
      · exact .inr ⟨by simp at h1 ⊢;omega,by simpa using b⟩
  | c::cs,n+1,xs,j,p,h=>by
    simp only[setCells]at h;cases j with
    |zero=>exact .inr ⟨.inl (by omega),by simpa using h⟩
    | succ j=>
      rcases fQ cs n xs j p (by simpa using h) with⟨h1,b⟩|⟨h1,b⟩
      · exact .inl ⟨by omega,by rw[show j+1-(n+1)=j-n by omega];exact b⟩
      · exact .inr ⟨by omega,by simpa using b⟩
def aK(v:Value):List PV:=v.cells.toList.map fun x=> .iv (.v x)
def mV(b:Nat->Option (Nat×Nat)):List PV->List (Nat×PV)->Option (List PV)
  |cs,[]=>co cs
  | cs,(i,p)::r=>match b i with
    | some (off,size)=>match p.cells with
      | some l=>match O2 l.length size,Qx (off+l.length) cs.length with
        |true,is=>force (setCells cs off l) fun j=>mV b j r
        |_,_=>io
      |none=>io
    |none=>io
def iN:List PV->Option PV
  | []=>io
  |p::_=>co p
def behind(h:AH):PV->Option (List PV)
  | .ptr i off=>match h.get i with
    |some (.cells cs _)=>co (cs.drop off)
    |_=>io
  | .cD i sz k off=>match h.get i with
    | some (.row sz' es)=>match O2 sz' sz,es[k]? with
      |true,co e=>co (e.drop off)
      |_,_=>io
    |_=>io
  | .iv (.jg cs)=>co (cs.map .iv)
  |_=>io
def fz(e:bA)(cs:List PV):Option PV:=
  match e.k.agg with
  | true=>match jM cs 0 e.size with
    |some l=>force l fun b=>co (.agg b)
    |none=>io
  |false=>iN cs
def q6(e:bA)(k:Nat):Option (Nat×TypeId):=
  match e.k with
  | .cE fs=>fs[k]?
  |_=>io
def oj(ty:Ty):List (Nat×TypeId)->Option (List (Nat×Nat))
  | []=>co []
  | (off,u)::r=>match ty u with
    | some e=>match oj ty r with
      |some l=>co ((off,e.size)::l)
      |none=>io
    |none=>io
def nE(n:Nat):PV->Option PV
  | .ptr i off=>co (.ptr i (off+n))
  | .cD i sz k off=>co (.cD i sz k (off+n))
  | .iv (.jg cs)=>co (.iv (.jg (cs.drop n)))
  |_=>io
abbrev PV.bool(b:Bool):PV:= .iv (.v (.bool b))
abbrev PV.int(n:Int):PV:= .iv (.v (.int .i64 n))
abbrev PV.str(s:ByteArray):PV:= .iv (.v (.string s))
def oH(n:Int):Prop:= -9223372036854775808<=n∧n<=9223372036854775807
def z6(op:BinOp)(k:IntKind)(a b:Int):Option (PV×Prop):=
  match op,k with
  | .add,.i64=>co (.int (a+b),oH (a+b))
  | .sub,.i64=>co (.int (a-b),oH (a-b))
  | .mul,.i64=>co (.int (a*b),oH (a*b))
  | .rem,.i64=>co (.int (Int.tmod a b),¬b=0)
  | .quo,.i64=>co (.int (Int.tdiv a b),¬b=0∧oH (Int.tdiv a b))
  | .add,k=>co (.iv (.v (.int k (k.wrap (a+b)))),True)
  | .sub,k=>co (.iv (.v (.int k (k.wrap (a-b)))),True)
  | .mul,k=>co (.iv (.v (.int k (k.wrap (a*b)))),True)
  | .quo,k=>co (.iv (.v (.int k (k.wrap (Int.tdiv a b)))),¬b=0)
  | .rem,k=>co (.iv (.v (.int k (Int.tmod a b))),¬b=0)
  | .eql,_=>co (.bool (kw (a=b)),True)
  | .neq,_=>co (.bool (!kw (a=b)),True)
  | .lss,_=>co (.bool (kw (a<b)),True)
  | .leq,_=>co (.bool (kw (a<=b)),True)
  | .gtr,_=>co (.bool (kw (a>b)),True)
  | .geq,_=>co (.bool (kw (a>=b)),True)
  | .and,k=>co (.iv (.v (.int k (k.wrap ((BitVec.ofInt k.bits a&&&BitVec.ofInt k.bits b).toNat:Int)))),True)
  | .or,k=>co (.iv (.v (.int k (k.wrap ((BitVec.ofInt k.bits a|||BitVec.ofInt k.bits b).toNat:Int)))),True)
  | .xor,k=>co (.iv (.v (.int k (k.wrap ((BitVec.ofInt k.bits a ^^^ BitVec.ofInt k.bits b).toNat:Int)))),True)
  |_,_=>io
def pT(op:BinOp)(k:IntKind)(a b:Int):Option (PV×Prop):=
  match op with
  | .shr=>match kw (0<=b) with
    |true=>co (.iv (.v (.int k (a.fdiv (2 ^ min b.toNat k.bits)))),True)
    |false=>io
  | .shl=>match kw (0<=b) with
    |true=>co (.iv (.v (.int k (k.wrap (a*2 ^ min b.toNat k.bits)))),True)
    |false=>io
  |_=>io
def yF(op:BinOp)(k:IntKind)(a b:Int):Option (PV×Prop):=
  match op with
  | .shr=>pT .shr k a b
  | .shl=>pT .shl k a b
  |op=>z6 op k a b
def ze(op:BinOp)(a b:ByteArray):Option (PV×Prop):=
  match op with
  | .eql=>co (.bool (kw (a=b)),True)
  | .neq=>co (.bool (!kw (a=b)),True)
  | .add=>co (.str (a++b),a.size+b.size<=9223372036854775807)
  | .lss=>co (.bool (Op.bytesLess a.toList b.toList),True)
  | .gtr=>co (.bool (!(Op.bytesLess a.toList b.toList||decide (a=b))),True)
  | .leq=>co (.bool (Op.bytesLess a.toList b.toList||decide (a=b)),True)
  | .geq=>co (.bool (!(Op.bytesLess a.toList b.toList)),True)
  |_=>io
def l4(ty:Ty)(t:TypeId)(op:BinOp)(a b:Bool):Option (PV×Prop):=
  match ty t with
  | some ⟨.aJ .bool,_,_,_,_⟩=>match op with
    | .eql=>co (.bool (a==b),True)
    | .neq=>co (.bool (!(a==b)),True)
    |_=>io
  |_=>io
def DF:TypeDesc->Bool
  | .pointer _=>is
  |_=>jp
def KN:TypeDesc->Bool
  | .map _ _=>is
  |_=>jp
def G5:TypeDesc->Bool
  | .func _ _ _=>is
  |_=>jp
def rV(ty:Ty)(t:TypeId)(wd:TypeDesc->Bool)(op:BinOp)(b:Bool):Option (PV×Prop):=
  match ty t with
  | some ⟨.aJ d,_,_,_,_⟩=>match wd d,op with
    |true,.eql=>co (.bool b,True)
    |true,.neq=>co (.bool (!b),True)
    |_,_=>io
  |_=>io
def vX(ty:Ty)(t:TypeId)(op:BinOp)(x y:PV):Option (PV×Prop):=
  match x,y with
  | .iv (.v (.int j a)),.iv (.v (.int k b))=>if j=k then yF op j a b else pT op j a b
  | .iv (.v (.string a)),.iv (.v (.string b))=>ze op a b
  | .iv (.v (.bool a)),y=>match y with
    | .iv (.v (.bool b))=>l4 ty t op a b
    | .kb b=>l4 ty t op a b
    |_=>io
  | .kb a,y=>match y with
    | .iv (.v (.bool b))=>l4 ty t op a b
    | .kb b=>l4 ty t op a b
    |_=>io
  | .ptr _ _,.iv (.v (.pointer io))=>rV ty t DF op jp
  | .iv (.v (.pointer io)),.iv (.v (.pointer io))=>rV ty t DF op is
  | .mp _,.iv (.v (.map io))=>rV ty t KN op jp
  | .bX _ _ _,.iv (.v .nilFunc)=>rV ty t G5 op jp
  |_,_=>io
def tp:PV->Option (PV×Prop)
  | .iv (.cp _ n _)=>co (.int n,True)
  | .iv (.v (.slice io 0 0))=>co (.int 0,True)
  | .iv (.v (.string s))=>co (.int s.size,True)
  | .sl _ _ len _=>co (.int len,True)
  |_=>io
def iM(x:PV)(i:Int):Option (PV×Prop):=
  match x with
  | .iv (.cp _ n el)=>co (.iv (.jg (el i.toNat)),0<=i∧i<n)
  | .sl j off len sz=>co (.cD j sz (off+i.toNat) 0,0<=i∧i<len)
  |_=>io
def FK.rd:(s:FS)->List PV->Option (FK s)
  | [],cs=>match cs with
    | []=>co ()
    |_=>io
  | none::r,cs=>match cs with
    | .iv (.v (.string a))::cs=>match FK.rd r cs with
      |some k=>co (a,k)
      |none=>io
    |_=>io
  | some q::r,cs=>match cs with
    | .iv (.v (.int j n))::cs=>match kw (j=q),FK.rd r cs with
      |true,co k=>co (n,k)
      |_,_=>io
    |_=>io
def KC.pk:(c:KC)->c.K->PV
  | .str,s=> .iv (.v (.string s))
  | .int k,n=> .iv (.v (.int k n))
  | .si k,x=> .agg [.iv (.v (.string x.1)),.iv (.v (.int k x.2))]
  | .fl s,x=> .agg ((FK.vs s x).map fun v=> .iv (.v v))
def KC.dk:(c:KC)->PV->Option c.K
  | .str,p=>match p with
    | .iv (.v (.string s))=>co s
    |_=>io
  | .int k,p=>match p with
    | .iv (.v (.int j n))=>if j=k then co n else io
    |_=>io
  | .si k,p=>match p with
    | .agg [.iv (.v (.string s)),.iv (.v (.int j n))]=>if j=k then co (s,n) else io
    |_=>io
  | .fl s,p=>match p with
    | .agg cs=>FK.rd s cs
    |_=>io
def nU(f:TypeId->Option FS):List (Nat×TypeId)->Nat->Option FS
  | [],_=>co []
  | (off,u)::r,at_=>match O2 off at_,f u with
    | true,co s=>match nU f r (at_+s.length) with
      |some q=>co (s++q)
      |none=>io
    |_,_=>io
def yk(s:FS):Nat->FS
  |0=> []
  |n+1=>s++yk s n
def sB(ty:Ty):Nat->TypeId->Option FS
  |0,_=>io
  | d+1,t=>match ty t with
    |some ⟨.aJ .string,1,_,_,_⟩=>co [io]
    |some ⟨.aJ (.int q),1,_,_,_⟩=>co [co q]
    | some ⟨.cE fs,n,_,_,is⟩=>match nU (sB ty d) fs 0 with
      | some s=>match O2 s.length n with
        |true=>co s
        |false=>io
      |none=>io
    | some ⟨.arr n e,m,_,_,_⟩=>match sB ty d e with
      | some s=>match O2 (n*s.length) m with
        |true=>co (yk s n)
        |false=>io
      |none=>io
    |_=>io
def db(ty:Ty)(j:TypeId):Option KC:=
  match ty j with
  |some ⟨.aJ .string,_,_,_,_⟩=>co .str
  |some ⟨.aJ (.int k),_,_,_,_⟩=>co (.int k)
  | some ⟨.cE [(0,a),(1,b)],_,_,_,is⟩=>match ty a,ty b with
    |some ⟨.aJ .string,1,_,_,_⟩,co ⟨.aJ (.int k),1,_,_,_⟩=>co (.si k)
    |_,_=>io
  | some ⟨.cE _,_,_,_,is⟩=>match sB ty 6 j with
    |some s=>co (.fl s)
    |none=>io
  |_=>io
section
variable (kc:KC) {V:Type}
def dm:List (kc.K×V)->kc.K->V->V
  | [],_,z=>z
  |(a,b)::r,k,z=>if a=k then b else dm r k z
def cV:List (kc.K×V)->kc.K->Bool
  | [],_=>jp
  |(a,_)::r,k=>if a=k then is else cV r k
def cq:List (kc.K×V)->kc.K->V->List (kc.K×V)
  | [],k,v=> [(k,v)]
  |(a,b)::r,k,v=>if a=k then(k,v)::r else(a,b)::cq r k v
def jh:List (kc.K×V)->kc.K->List (kc.K×V)
  | [],_=> []
  |(a,b)::r,k=>if a=k then r else(a,b)::jh r k
end
def za:Value->Value->Bool
  | .int j a,.int k b=>kw (j=k)&&kw (a=b)
  | .string a,.string b=>kw (a=b)
  | .bool a,.bool b=>a==b
  | .slice io 0 0,.slice io 0 0=>is
  | .map io,.map io=>is
  |_,_=>jp
def tI:List Value->List Value->Bool
  | [],[]=>is
  |a::r,b::q=>za a b&&tI r q
  |_,_=>jp
def Ji:Value->Value->Bool
  | .agg a,.agg b=>tI a.toList b.toList
  |a,b=>za a b
def IV.pv:IV->PV
  | .agg cs=> .agg (cs.map .iv)
  |x=> .iv x
def r7(ty:Ty)(t:TypeId)(ok:Bool)(kc:KC){V:Type}(e:V->IV)(z:V)(b:Value)(m:List (kc.K×V))(key:PV):Option (PV×Prop):=
  match ty t with
  | some ⟨.aJ (.map kt et),_,_,_,_⟩=>match db ty kt,ty et with
    | some kc',co ee=>match kw (kc'=kc),Ji ee.zero b,kc.dk key with
      | true,is,co k=>match ok with
        |true=>co (.bh [(e (dm kc m k z)).pv,.iv (.v (.bool (cV kc m k)))],True)
        |false=>co ((e (dm kc m k z)).pv,True)
      |_,_,_=>io
    |_,_=>io
  |_=>io
def BK(f:TypeId->PV->PV->Option Bool)(ty:Ty):List (Nat×TypeId)->List PV->List PV->Option Bool
  | [],_,_=>co is
  | (off,u)::r,cs,ds=>match ty u with
    | some eu=>match fz eu (cs.drop off),fz eu (ds.drop off) with
      | some a,co b=>match f u a b,BK f ty r cs ds with
        |some x,co y=>co (x&&y)
        |_,_=>io
      |_,_=>io
    |none=>io
def BL(ty:Ty):Nat->TypeId->PV->PV->Option Bool
  |0,_,_,_=>io
  | d+1,t,p,q=>match ty t with
    | some ⟨.aJ (.int _),_,_,_,_⟩=>match p,q with
      | .iv (.v (.int j a)),.iv (.v (.int k b))=>if j=k then co (kw (a=b)) else io
      |_,_=>io
    | some ⟨.aJ .string,_,_,_,_⟩=>match p,q with
      | .iv (.v (.string a)),.iv (.v (.string b))=>co (kw (a=b))
      |_,_=>io
    | some ⟨.aJ .bool,_,_,_,_⟩=>match p,q with
      | .iv (.v (.bool a)),.iv (.v (.bool b))=>co (a==b)
      |_,_=>io
    | some ⟨.cE fs,_,_,_,is⟩=>match p,q with
      | .agg cs,.agg ds=>BK (BL ty d) ty fs cs ds
      |_,_=>io
    |_=>io
def AA(ty:Ty)(t:TypeId)(op:BinOp)(p q:PV):Option (PV×Prop):=
  match op with
  | .eql=>match BL ty 10 t p q with
    |some b=>co (.bool b,True)
    |none=>io
  | .neq=>match BL ty 10 t p q with
    |some b=>co (.bool (!b),True)
    |none=>io
  |_=>io
def gj(ty:Ty)(s:AS):Op->Option (PV×Prop)
  | .move x=>co (ev s.f x,True)
  | .assign x=>co (ev s.f x,True)
  | .pick c a b=>match ev s.f c with
    | .kb is=>co (ev s.f a,True)
    | .kb jp=>co (ev s.f b,True)
    |_=>io
  | .load t x=>match ty t with
    | some e=>match behind s.h (ev s.f x) with
      | some cs=>match fz e cs with
        |some p=>co (p,True)
        |none=>io
      |none=>io
    |none=>io
  | .nilCheck x=>match ev s.f x with
    | .ptr i o=>co (.ptr i o,True)
    | .cD i sz k o=>co (.cD i sz k o,True)
    | .iv (.jg cs)=>co (.iv (.jg cs),True)
    | .bX (.func g) a b=>co (.bX (.func g) a b,True)
    |_=>io
  | .binOp op t x y _=>match ev s.f x,ev s.f y with
    | .agg cs,.agg ds=>AA ty t op (.agg cs) (.agg ds)
    |p,q=>vX ty t op p q
  | .lookup t x i ok=>match ev s.f x with
    | .iv (.dJ kc e z zv m)=>r7 ty t ok kc e z zv m (ev s.f i)
    | .mp j=>match s.h.get j with
      |some (.map kc e z zv _ m)=>r7 ty t ok kc e z zv m (ev s.f i)
      |_=>io
    |_=>io
  | .entry it=>match ev s.f it with
    | .ptr i 0=>match s.h.get i with
      |some (.bB kc e _ _ (co x))=>co (.bh [kc.pk x.1,(e x.2).pv],True)
      |_=>io
    |_=>io
  | .unOp .not _ x=>match ev s.f x with
    | .kb is=>co (.kb jp,True)
    | .kb jp=>co (.kb is,True)
    | .iv (.v (.bool b))=>co (.bool (!b),True)
    |_=>io
  | .fieldAddr t x k=>match ty t with
    | some e=>match q6 e k with
      | some (off,u)=>match ty u with
        | some eu=>match eu.size with
          |0=>io
          | _+1=>match nE off (ev s.f x) with
            |some p=>co (p,True)
            |none=>io
        |none=>io
      |none=>io
    |none=>io
  | .field t x k=>match ty t with
    | some e=>match q6 e k with
      | some (off,u)=>match ty u with
        | some eu=>match ev s.f x with
          | .agg cs=>match fz eu (cs.drop off) with
            |some p=>co (p,True)
            |none=>io
          |_=>io
        |none=>io
      |none=>io
    |none=>io
  | .indexAddr t x i=>match ty t with
    | some ⟨.aJ (.slice u),_,_,_,_⟩=>match ty u with
      | some eu=>match ev s.f i with
        | .iv (.v (.int _ n))=>match ev s.f x with
          | .iv (.cp sz m el)=>bif O2 sz eu.size then iM (.iv (.cp sz m el)) n else io
          | .sl j off len sz=>bif O2 sz eu.size then iM (.sl j off len sz) n else io
          |_=>io
        |_=>io
      |none=>io
    | some ⟨.arr len u,_,_,_,_⟩=>match ty u with
      | some eu=>match ev s.f i with
        | .iv (.v (.int _ n))=>match ev s.f x with
          | .ptr j off=>co (.ptr j (off+n.toNat*eu.size),0<=n∧n<len)
          |_=>io
        |_=>io
      |none=>io
    |_=>io
  | .index t x i=>match ty t with
    | some ⟨.aJ .string,_,_,_,_⟩=>match ev s.f i with
      | .iv (.v (.int _ n))=>match ev s.f x with
        | .iv (.v (.string b))=>co (.iv (.v (.int .u8 ((b.data.toList.getD n.toNat 0).toNat:Int))),0<=n∧n<b.size)
        |_=>io
      |_=>io
    |_=>io
  | .slice t x (co lo) (co hi) io=>match ty t with
    | some ⟨.aJ (.slice u),_,_,_,_⟩=>match ty u with
      | some eu=>match ev s.f lo with
        | .iv (.v (.int _ a))=>match ev s.f hi with
          | .iv (.v (.int _ b))=>match ev s.f x with
            | .iv (.cp sz m el)=>bif O2 sz eu.size then co (.iv (.cp sz (b.toNat-a.toNat) (fun k=>el (a.toNat+k))),0<=a∧a<=b∧b<=m) else io
            |_=>io
          |_=>io
        |_=>io
      |none=>io
    | some ⟨.aJ .string,_,_,_,_⟩=>match ev s.f lo with
      | .iv (.v (.int _ a))=>match ev s.f hi with
        | .iv (.v (.int _ b))=>match ev s.f x with
          | .iv (.v (.string y))=>co (.iv (.v (.string (y.extract a.toNat b.toNat))),0<=a∧a<=b∧b<=y.size)
          |_=>io
        |_=>io
      |_=>io
    |_=>io
  | .slice t x (co lo) io io=>match ty t with
    | some ⟨.aJ (.slice u),_,_,_,_⟩=>match ty u with
      | some eu=>match ev s.f lo with
        | .iv (.v (.int _ a))=>match ev s.f x with
          | .iv (.cp sz m el)=>bif O2 sz eu.size then co (.iv (.cp sz (m-a.toNat) (fun k=>el (a.toNat+k))),0<=a∧a<=m) else io
          |_=>io
        |_=>io
      |none=>io
    |_=>io
  | .slice t x io (co hi) (co mx)=>match ty t with
    | some ⟨.aJ (.slice u),_,_,_,_⟩=>match ty u with
      | some eu=>match ev s.f hi with
        | .iv (.v (.int _ b))=>match ev s.f mx with
          | .iv (.v (.int _ c))=>match ev s.f x with
            | .iv (.cp sz m el)=>bif O2 sz eu.size then co (.iv (.cp sz b.toNat el),0<=b∧b<=c∧c<=m) else io
            |_=>io
          |_=>io
        |_=>io
      |none=>io
    |_=>io
  | .convert t t' x=>match ty t with
    | some ⟨.aJ (.int _),_,_,_,_⟩=>match ty t' with
      | some ⟨.aJ (.int k),_,_,_,_⟩=>match ev s.f x with
        | .iv (.v (.int _ n))=>co (.iv (.v (.int k (k.wrap n))),True)
        |_=>io
      |_=>io
    |_=>io
  | .build t parts=>match ty t with
    | some e=>match e.k with
      | .cE fs=>match oj ty fs with
        | some pl=>match mV (pl[·]?) (aK e.zero) (parts.toList.map fun x=>(x.1,ev s.f x.2)) with
          |some cs=>force cs fun A=>co (.agg A,True)
          |none=>io
        |none=>io
      | .arr _ u=>match ty u with
        | some eu=>match mV (fun i=>co (i*eu.size,eu.size)) (aK e.zero) (parts.toList.map fun x=>(x.1,ev s.f x.2)) with
          |some cs=>force cs fun A=>co (.agg A,True)
          |none=>io
        |none=>io
      |_=>io
    |none=>io
  | .extract x k=>match ev s.f x with
    | .bh cs=>match cs[k]? with
      |some p=>co (p,True)
      |none=>io
    |_=>io
  | .makeFunc fn first caps=>force (first.toList.map (ev s.f)) fun a=>force (caps.toList.map (ev s.f)) fun b=>co (.bX fn a b,True)
  | .call ⟨.builtin .len,args,argTypes⟩=>match args.toList,argTypes.toList with
    | [x],[t]=>match ty t with
      | some ⟨.aJ (.slice _),_,_,_,_⟩=>match ev s.f x with
        | .iv (.cp sz n el)=>tp (.iv (.cp sz n el))
        | .sl i off len sz=>tp (.sl i off len sz)
        | .iv (.v (.slice io 0 0))=>tp (.iv (.v (.slice io 0 0)))
        |_=>io
      | some ⟨.aJ .string,_,_,_,_⟩=>match ev s.f x with
        | .iv (.v (.string b))=>tp (.iv (.v (.string b)))
        |_=>io
      | some ⟨.aJ (.map _ _),_,_,_,_⟩=>match ev s.f x with
        | .iv (.dJ _ _ _ _ m)=>co (.int m.length,True)
        | .mp j=>match s.h.get j with
          |some (.map _ _ _ _ _ m)=>co (.int m.length,True)
          |_=>io
        |_=>io
      |_=>io
    |_,_=>io
  | .call ⟨.builtin .max,args,_⟩=>match args.toList with
    | [x,y]=>match ev s.f x,ev s.f y with
      | .iv (.v (.int k a)),.iv (.v (.int _ b))=>co (.iv (.v (.int k (max a b))),True)
      |_,_=>io
    |_=>io
  | .call ⟨.builtin .min,args,_⟩=>match args.toList with
    | [x,y]=>match ev s.f x,ev s.f y with
      | .iv (.v (.int k a)),.iv (.v (.int _ b))=>co (.iv (.v (.int k (min a b))),True)
      |_,_=>io
    |_=>io
  |_=>io
inductive TT where
  |leaf
  |node (l:TT) (k:Nat) (e:bA) (r:TT)
def TT.find:TT->Nat->Option bA
  | .leaf,_=>io
  | .node l k e r,t=>bif O2 t k then co e else bif O1 t k then l.find t else r.find t
def TT.Nv(p:Nat->bA->Prop):TT->Prop
  | .leaf=>True
  | .node l k e r=>p k e∧l.Nv p∧r.Nv p
theorem TT.sD{p:Nat->bA->Prop}: ∀{x:TT},x.Nv p-> ∀t e,x.find t=co e->p t e
  | .leaf,_,t,e,h=>by simp[TT.find]at h
  | .node l k e0 r,ha,t,e,h=>by
    simp only[TT.find]at h;cases hb:O2 t k with
    | true=>
      simp only[hb,cond_true,OA]at h;subst h;rw[OU hb];exact ha.1
    | false=>
      simp only[hb,cond_false]at h;cases hl:O1 t k with
      |true=>simp only[hl,cond_true]at h;exact TT.sD ha.2.1 t e h
      |false=>simp only[hl,cond_false]at h;exact TT.sD ha.2.2 t e h
theorem ad{P:Program}{t:TypeId}{e:bA}(h:(P.info? t).map (fun i=>(i.size,i.bytes,i.zero))=co (e.size,e.bytes,co e.zero)): ∃i,P.info? t=co i∧i.size=e.size∧i.bytes=e.bytes∧i.zero=co e.zero:=by
  rw[OJ]at h;obtain⟨i,h1,b⟩:=h;simp only[OK]at b;exact⟨i,h1,b.1,b.2.1,b.2.2⟩
theorem VR.one{M:Mem}{N:Nm}{U:Nat->Prop}{p:PV}{x:Value}(h:VR M N U p x)(ho:p.one=is):x.oneCell'=is:=by
  cases h with
  | iv y x hi=>
    cases hi with
    |v x=>cases x<;>first|rfl|(simp[PV.one]at ho)
    |agg=>simp[PV.one]at ho
    |_=>rfl
  |agg=>simp[PV.one]at ho
  |bh=>simp[PV.one]at ho
  |any=>simp[PV.one]at ho
  |_=>rfl
section
variable {M:Mem} {N:Nm}
theorem VR.iy{U:Nat->Prop}{cs:List PV}{x:Value}(h:VR M N U (.agg cs) x): ∃b:Array Value,x= .agg b∧cs.length=b.size∧ ∀j p,cs[j]? =co p->VR M N U p (b.getD j undef):=by
  cases h with
  |agg _ b hl hr=>exact⟨b,rfl,hl,hr⟩
theorem l0{U:Nat->Prop}{p:PV}{x:Value}{cs:List PV}(h:VR M N U p x)(hc:p.cells=co cs):cs.length=x.cells.size∧ ∀j q,cs[j]? =co q->VR M N U q (x.cells.getD j undef):=by
  have one:p.one=is->cs=[p]->cs.length=x.cells.size∧ ∀j q,cs[j]? =co q->VR M N U q (x.cells.getD j undef):=by
    intro u b;subst b;have h1:=h.one u;have B:x.cells= #[x]:=by cases x<;>first|rfl|(simp[Value.oneCell']at h1)
    rw[B];refine⟨rfl,fun j q y=>?_⟩;cases j with
    |zero=>simp at y;subst y;exact h
    |succ j=>simp at y
  cases p with
  | agg l=>
    simp only[PV.cells,OA]at hc;subst hc;obtain⟨C,rfl,hl,A⟩:=h.iy;exact⟨hl,A⟩
  | _=>
    simp only[PV.cells]at hc;split at hc
    · rename_i u
      simp only[OA]at hc;exact one u hc.symm
    · cases hc
theorem gr: ∀{cs:List PV},ew cs=is-> ∀(j:Nat) (p:PV),cs[j]? =co p->p.one=is
  | [],_,j,p,h=>by simp at h
  | c::cs,h,j,p,hj=>by
    simp only[ew]at h;split at h
    · rename_i b
      cases j with
      |zero=>simp at hj;subst hj;exact b
      |succ j=>exact gr h j p (by simpa using hj)
    · cases h
theorem ei{U:Nat->Prop}(v:Value):(aK v).length=v.cells.size∧ ∀j p,(aK v)[j]? =co p->VR M N U p (v.cells.getD j undef):=by
  refine⟨by simp[aK],fun j p b=>?_⟩;simp only[aK]at b;rw[OH,OJ]at b;obtain⟨x,y,rfl⟩:=b;have u:v.cells[j]? =co x:=by simpa using y
  rw[Oz,u];exact .iv _ _ (.v _)
theorem uH: ∀(l:List Value) (k off:Nat) (cs:Array Value),off+k+l.length<=cs.size->
    ((l.zipIdx k).foldl (fun cs x=>cs.setIfInBounds (off+x.2) x.1) cs).size=cs.size∧
    ∀j,((l.zipIdx k).foldl (fun cs x=>cs.setIfInBounds (off+x.2) x.1) cs)[j]? =if off+k<=j∧j<off+k+l.length then l[j-(off+k)]? else cs[j]?
  | [],k,off,cs,_=>⟨rfl,fun j=>by simp;omega⟩
  | v::l,k,off,cs,h=>by
    simp only[List.zipIdx_cons,Pr];simp only[Pb]at h;obtain⟨h1,y⟩:=uH l (k+1) off (cs.setIfInBounds (off+k) v) (by simp;omega);refine⟨by rw[h1];simp,fun j=>?_⟩;rw[y j];simp only[Pb];by_cases u:off+(k+1)<=j∧j<off+(k+1)+l.length
    · rw[am u,am (by omega),show j-(off+k)=(j-(off+(k+1)))+1 by omega,Rf]
    · rw[be u]
      by_cases b:j=off+k
      · subst b
        have hb:off+k<cs.size:=by omega
        rw[am (by omega),Nat.sub_self];simp[hb]
      · rw[be (by omega),O5,be (fun e=>b e.symm)]
def Ov(M:Mem)(N:Nm)(U:Nat->Prop)(cs:List PV)(ys:Array Value):Prop:=cs.length=ys.size∧ ∀j p,cs[j]? =co p->VR M N U p (ys.getD j undef)
theorem oJ{u:Nat->Option (Nat×Nat)}: ∀{j:List (Nat×PV)} {cs b:List PV},mV u cs j=co b->b.length=cs.length
  | [],cs,b,h=>by simp only[mV,OA]at h;rw[h]
  | (i,p)::r,cs,b,h=>by
    simp only[mV]at h;split at h
    · split at h
      · split at h
        · rw[force_eq]at h
          rw[oJ h,cH]
        · cases h
      · cases h
    · cases h
theorem oI{U:Nat->Prop}{u:Nat->Option (Nat×Nat)}: ∀{b:List (Nat×PV)} {vals:List (Nat×Value)} {cs A:List PV} {ys:Array Value},
    mV u cs b=co A->b.length=vals.length->(∀(j:Nat) (x:Nat×PV) (y:Nat×Value),b[j]? =co x->vals[j]? =co y->x.1=y.1∧VR M N U x.2 y.2)->Ov M N U cs ys->
    ∃B,Instr.fill u ys vals=co B∧Ov M N U A B
  | [],[],cs,A,ys,h,_,_,hv=>by
    simp only[mV,OA]at h;subst h;exact⟨ys,rfl,hv⟩
  | (i,p)::r,(i',v)::vr,cs,A,ys,h,hl,hp,hv=>by
    obtain⟨h1,h2⟩:=hp 0 _ _ Z Z;simp only at h1 h2;subst h1;simp only[mV]at h;split at h
    · rename_i a0 size b0
      split at h
      · rename_i l Y
        split at h
        · rename_i J R
          rw[force_eq]at h;obtain⟨g1,g2⟩:=l0 h2 Y;have c0:v.cells.size=size:=by rw[<-g1];exact OU J
          have G:a0+v.cells.size<=ys.size:=by rw[<-g1,<-hv.1];exact Oy R
          obtain⟨k1,k2⟩:=uH v.cells.toList 0 a0 ys (by simpa using G);have C:v.cells.zipIdx.foldl (fun cs x=>cs.setIfInBounds (a0+x.2) x.1) ys=(v.cells.toList.zipIdx 0).foldl (fun cs x=>cs.setIfInBounds (a0+x.2) x.1) ys:=by
            rw[<-Array.foldl_toList,Array.toList_zipIdx]
          have d0:Ov M N U (setCells cs a0 l) (v.cells.zipIdx.foldl (fun cs x=>cs.setIfInBounds (a0+x.2) x.1) ys):=by
            rw[C];refine⟨by rw[cH,k1];exact hv.1,fun j q hq=>?_⟩;rw[Oz,k2 j];rcases fQ cs a0 l j q hq with⟨I,D⟩|⟨I,D⟩
            · have e0:j-a0<l.length:=(OB.1 D).1
              rw[am (by simp;omega)];have:=g2 _ q D;rw[Oz]at this;simpa using this
            · rw[be (by simp;omega)]
              have:=hv.2 j q D;rw[Oz]at this;exact this
          obtain⟨B,I,D⟩:=oI h (by simpa using hl) (fun j x y hx hy=>hp (j+1) x y (by simpa using hx) (by simpa using hy)) d0;refine⟨B,?_,D⟩;simp only[Instr.fill,b0];rw[be (by simp[c0];omega)];exact I
        · cases h
      · cases h
    · cases h
end
section
variable {P:Program} {M:Mem} {N:Nm} {U:Nat->Prop} {h:AH} {w:World}
theorem Rel.IY(hr:Rel M N U h w){b o:Nat}{v:Value}(hc:M.cell b o=co v):w.cell? ⟨b,o,io⟩=co v:=by
  unfold Mem.cell at hc;cases hb:M b with
  |none=>simp[hb]at hc
  | some c=>
    cases c with
    |map es cl=>simp[hb]at hc
    | cells c=>
      obtain⟨T,u,j⟩:=hr.dR b _ hb;rw[hb]at hc;simp only[World.cell?,j];simpa using hc
theorem IR.yE{cs:List IV}{x:Value}(hr:Rel M N U h w)(hp:IR M (.jg cs) x):
    ∃b a0,x= .pointer (co ⟨b,a0,io⟩)∧ ∀j q,cs[j]? =co q-> ∃y,w.cell? ⟨b,a0+j,io⟩=co y∧IR M q y:=by
  cases hp with
  | jg _ b a0 hm hq=>
    refine⟨b,a0,rfl,fun j q B=>?_⟩;have u:j<cs.length:=(OB.1 B).1;have h1:=hm j u;cases hv:M.cell b (a0+j) with
    |none=>simp[hv]at h1
    | some y=>
      have A:=hq j q B;rw[hv]at A;exact⟨y,hr.IY hv,A⟩
theorem uT{p:PV}{x:Value}{cs:List PV}(hr:Rel M N U h w)(hp:VR M N U p x)(hb:behind h p=co cs):
    ∃b a0,x= .pointer (co ⟨b,a0,io⟩)∧ ∀j q,cs[j]? =co q-> ∃y,w.cell? ⟨b,a0+j,io⟩=co y∧VR M N U q y:=by
  cases p with
  | ptr i a0=>
    cases hp with
    | ptr _ _ hU=>
      simp only[behind]at hb;cases ho:h.get i with
      |none=>simp[ho]at hb
      | some o=>
        cases o with
        | cells cs0 T0=>
          simp only[ho,OA]at hb;subst hb;obtain⟨c,T,h1,h2,R,C,Y⟩:=hr.obj i _ ho;refine⟨N.az i,a0,rfl,fun j q u=>?_⟩;rw[Py]at u;have A:a0+j<c.size:=by rw[<-R];exact(OB.1 u).1
          refine⟨c.getD (a0+j) undef,?_,C _ _ u⟩;simp[World.cell?,h1,Oz,A]
        |_=>simp[ho]at hb
  | cD i sz k a0=>
    cases hp with
    | cD _ _ _ _ hU=>
      simp only[behind]at hb;cases ho:h.get i with
      |none=>simp[ho]at hb
      | some o=>
        cases o with
        | row sz' es=>
          simp only[ho]at hb;split at hb
          · rename_i e D B
            simp only[OA]at hb;have:=OU D;subst this;subst hb;rcases hr.obj i _ ho with J|⟨J,c,T,h1,h2,R,C,Y⟩
            · subst J;simp at B
            refine⟨N.az i,k*sz'+a0,rfl,fun j q u=>?_⟩;rw[Py]at u;have b0:a0+j<sz':=by rw[<-C k e B];exact(OB.1 u).1
            have hk:k<es.length:=(OB.1 B).1;have I:(k+1)*sz'<=es.length*sz':=O3 _ hk;rw[P5]at I;have A:k*sz'+a0+j<c.size:=by omega
            refine⟨c.getD (k*sz'+a0+j) undef,?_,?_⟩
            · simp[World.cell?,h1,Oz,A]
            · rw[P3];exact Y k e _ q B u
          · cases hb
        |_=>simp[ho]at hb
  | iv x=>
    cases x with
    | jg cs0=>
      cases hp with
      | iv _ _ hi=>
        simp only[behind,OA]at hb;subst hb;obtain⟨b,a0,rfl,hc⟩:=hi.yE hr;refine⟨b,a0,rfl,fun j q u=>?_⟩;rw[OH,OJ]at u;obtain⟨q0,G,rfl⟩:=u;obtain⟨y,hy,hq⟩:=hc j q0 G;exact⟨y,hy,.iv _ _ hq⟩
    |_=>simp[behind]at hb
  |_=>simp[behind]at hb
theorem lz{cs l:List PV}{off n:Nat}(hh:jM cs off n=co l):l.length=n∧ ∀j q,l[j]? =co q->cs[off+j]? =co q∧j<n:=by
  unfold jM at hh;cases hb:O2 ((cs.drop off).take n).length n with
  |false=>simp only[hb,cond_false]at hh;cases hh
  | true=>
    simp only[hb,cond_true,OA]at hh;subst hh;have hl:=OU hb;refine⟨hl,fun j q u=>?_⟩;have b:j<n:=by rw[<-hl];exact(OB.1 u).1
    rw[Pn,am b,Py]at u;exact⟨u,b⟩
theorem mT{cs:List PV}{p:PV}(hh:iN cs=co p):cs[0]? =co p:=by
  cases cs with
  |nil=>simp[iN]at hh
  |cons a r=>simpa[iN]using hh
theorem di(b off j:Nat):(⟨b,off,io⟩:Addr).add j=⟨b,off+j,io⟩:=by
  unfold Addr.add;split
  · subst_vars;rfl
  · rfl
theorem pZ{t:TypeId}{e:bA}(he:ai P t e){cs:List PV}{b off:Nat}(hc: ∀j q,cs[j]? =co q-> ∃y,w.cell? ⟨b,off+j,io⟩=co y∧VR M N U q y)
    {p:PV} (hp:fz e cs=co p): ∃y,(loadVar t ⟨b,off,io⟩).run P w= .ok y w∧VR M N U p y:=by
  unfold fz at hp;cases hk:e.k.agg with
  | true=>
    simp only[hk]at hp;cases ht:jM cs 0 e.size with
    |none=>simp[ht]at hp
    | some l=>
      simp only[ht,force_eq,OA]at hp;subst hp;obtain⟨hl,C⟩:=lz ht;have u: ∀j,j<e.size->w.cell? ((⟨b,off,io⟩:Addr).add j)=co (((w.cell? ⟨b,off+j,io⟩)).getD undef):=by
        intro j I;have A:l[j]? =co (l[j]'(by omega)):=OD (by omega);obtain⟨y,x,_⟩:=hc j _ (by simpa using(C j _ A).1);rw[di,x];rfl
      refine⟨.agg (((O9 e.size).map fun j=>(w.cell? ⟨b,off+j,io⟩).getD undef).toArray),?_,?_⟩
      · have:=run_loadCells (P:=P) w ⟨b,off,io⟩ e.size (fun j=>(w.cell? ⟨b,off+j,io⟩).getD undef) u
        simp[loadVar,fx he,hk,aO he,this]
      · refine .agg _ _ (by simp[hl]) (fun j q J=>?_)
        obtain⟨h1,D⟩:=C j q J;obtain⟨y,x,B⟩:=hc j q (by simpa using h1);have G:(((O9 e.size).map fun j=>(w.cell? ⟨b,off+j,io⟩).getD undef).toArray).getD j undef=y:=by
          simp[Oz,D,x]
        rw[G];exact B
  | false=>
    simp only[hk]at hp;obtain⟨y,x,B⟩:=hc 0 p (mT hp);refine⟨y,?_,B⟩;simp only[loadVar,Sem.run_bind,fx he,Result.andThen_ok,hk,Qb,if_false];simp only[Qn]at x;simp[x]
theorem gF{t:TypeId}{e:bA}(he:ai P t e){cs:List PV}{ys:Array Value}{off:Nat}(hl:cs.length=ys.size)(hc: ∀j q,cs[j]? =co q->VR M N U q (ys.getD j undef))
    {p:PV} (hp:fz e (cs.drop off)=co p): ∃y,(part t ys off).run P w= .ok y w∧VR M N U p y:=by
  unfold fz at hp;cases hk:e.k.agg with
  | true=>
    simp only[hk]at hp;cases ht:jM (cs.drop off) 0 e.size with
    |none=>simp[ht]at hp
    | some l=>
      simp only[ht,force_eq,OA]at hp;subst hp;obtain⟨A,C⟩:=lz ht;refine⟨.agg (ys.extract off (off+e.size)),by simp[part,fx he,hk,aO he],.agg _ _ ?_ (fun j q D=>?_)⟩
      · rw[A,Array.size_extract]
        by_cases u:e.size=0
        · omega
        · have b:l[e.size-1]? =co (l[e.size-1]'(by omega)):=OD (by omega)
          have:=(C _ _ b).1;rw[Py]at this;have:=(OB.1 this).1;omega
      · obtain⟨h1,I⟩:=C j q D
        rw[Py]at h1;have x:=hc _ _ h1;have B:off+(0+j)<cs.length:=(OB.1 h1).1;have:(ys.extract off (off+e.size)).getD j undef=ys.getD (off+(0+j)) undef:=by
          simp only[Oz,Array.getElem?_extract,O8];rw[am (by omega)]
        rw[this];exact x
  | false=>
    simp only[hk]at hp;have u:=mT hp;rw[Py]at u;have x:=hc _ _ u;have B:off+0<cs.length:=(OB.1 u).1;refine⟨ys.getD (off+0) undef,?_,x⟩;have G:ys[off]? =co (ys.getD off undef):=by
      simp[Oz,show off<ys.size by omega]
    simp only[part,Sem.run_bind,fx he,Result.andThen_ok,hk,Qb,if_false,G];rfl
theorem rA(a b:ByteArray):(a.toList==b.toList)=kw (a=b):=by
  rw[Lib.toList_data,Lib.toList_data,PS];simp only[beq_iff_eq,decide_eq_true_eq];exact⟨fun h=>WideShapes.bytes_inj h,fun h=>by rw[h]⟩
theorem DG{t:TypeId}{op:BinOp}{k:IntKind}{a b:Int}{p:PV}{C:Prop}(h:z6 op k a b=co (p,C))(hC:C): ∃x,(binOp op t (.int k a) (.int k b)).run P w= .ok x w∧VR M N U p x:=by
  have u: ∀n:Int,oH n->IntKind.i64.wrap n=n:=fun n y=>IntWalk.i64_in n y;unfold z6 at h;split at h
  all_goals first
    |cases h;done
    | (simp only[OA,OK]at h
       obtain⟨rfl,rfl⟩:=h;refine⟨_,?_,.iv _ _ (.v _)⟩
       first
       |(simp[binOp,Op.intCmp];done)
       |rfl
       |(simp[binOp,Op.intCmp];rfl)
       |(have j:=u _ hC;simp[binOp,Op.intArith,j];done)
       |(simp[binOp,Op.intDiv,hC];done)
       |(have j:=u _ hC.2;simp[binOp,Op.intDiv,hC.1,j];done))
theorem rE{t:TypeId}{op:BinOp}{k j:IntKind}{a b:Int}{p:PV}{C:Prop}(h:pT op k a b=co (p,C)): ∃x,(binOp op t (.int k a) (.int j b)).run P w= .ok x w∧VR M N U p x:=by
  unfold pT at h;split at h
  case h_3=>cases h
  all_goals
    split at h
    · rename_i hb
      simp only[OA,OK]at h;obtain⟨rfl,rfl⟩:=h;have u: ¬b<0:=by have:=of_decide_eq_true hb;omega
      refine⟨_,?_,.iv _ _ (.v _)⟩;simp only[binOp,Op.shift,be u];rfl
    · cases h
theorem Cm{t:TypeId}{op:BinOp}{a b:ByteArray}{p:PV}{C:Prop}(h:ze op a b=co (p,C))(hC:C): ∃x,(binOp op t (.string a) (.string b)).run P w= .ok x w∧VR M N U p x:=by
  unfold ze at h;split at h
  all_goals first
    |cases h;done
    | (simp only[OA,OK]at h
       obtain⟨rfl,rfl⟩:=h;refine⟨_,?_,.iv _ _ (.v _)⟩
       first
       |(simp[binOp,Op.stringOp,<-rA];done)
       | (have j: ¬(((a.size+b.size:Nat):Int)>IntKind.i64.max):=by(have:IntKind.i64.max=9223372036854775807:=by decide);rw[this];omega
          simp only[binOp,Op.stringOp,be j];rfl))
theorem cQ{op:BinOp}{t:TypeId}{x y:Operand}{a b:Value}(h1:a≠ .nilIface)(u: ∀j,a≠ .agg j):(eqGuard op t x y a b).run P w= .ok () w:=by
  unfold eqGuard;cases op<;>cases a<;>first|rfl|exact absurd Z h1|exact absurd Z (u _)
theorem vS{t:TypeId}(hu:P.underlying t=co .bool)(d:Nat)(a b:Bool):(Op.equalIn (d+1) t (.bool a) (.bool b)).run P w= .ok (a==b) w:=by
  simp[Op.equalIn,run_underlying hu]
theorem sG{t:TypeId}(hu:P.underlying t=co .bool)(a b:Bool):(Op.equal t (.bool a) (.bool b)).run P w= .ok (a==b) w:=
  vS hu 9999 a b
theorem sQ{t:TypeId}(hu:P.underlying t=co .bool)(a b:Bool):(binOp .eql t (.bool a) (.bool b)).run P w= .ok (.bool (a==b)) w:=by
  show(Op.equal t (.bool a) (.bool b)>>=fun r=>(pure (.bool r):Sem Value)).run P w=_;rw[Sem.run_bind,sG hu];rfl
theorem sP{t:TypeId}(hu:P.underlying t=co .bool)(a b:Bool):(binOp .neq t (.bool a) (.bool b)).run P w= .ok (.bool (!(a==b))) w:=by
  show(Op.equal t (.bool a) (.bool b)>>=fun r=>(pure (.bool (!r)):Sem Value)).run P w=_;rw[Sem.run_bind,sG hu];rfl
theorem my{ty:Ty}(j:bn P ty){t:TypeId}{op:BinOp}{a b:Bool}{r:PV}{C:Prop}{u v:Operand}(h:l4 ty t op a b=co (r,C)):
    ∃z,(do eqGuard op t u v (.bool a) (.bool b);binOp op t (.bool a) (.bool b):Sem Value).run P w= .ok z w∧VR M N U r z:=by
  unfold l4 at h;split at h
  · rename_i x
    have hu:P.underlying t=co .bool:=(j t _ x).2.1.1;split at h
    all_goals first
      |cases h;done
      | (simp only[OA,OK]at h
         obtain⟨rfl,rfl⟩:=h;refine⟨_,?_,.iv _ _ (.v _)⟩;rw[Sem.run_bind,cQ (by simp) (by simp)]
         first|exact sQ hu _ _|exact sP hu _ _)
  · cases h
theorem ou{ty:Ty}(j:bn P ty){t:TypeId}{wd:TypeDesc->Bool}{op:BinOp}{b:Bool}{r:PV}{C:Prop}{u v:Operand}{x y:Value}(h:rV ty t wd op b=co (r,C))(h1:x≠ .nilIface)(B: ∀G,x≠ .agg G)
    (he:binOp .eql t x y=(Op.equal t x y>>=fun r=>(pure (.bool r):Sem Value))) (hn:binOp .neq t x y=(Op.equal t x y>>=fun r=>(pure (.bool (!r)):Sem Value)))
    (D: ∀d,wd d=is->P.underlying t=co d->(Op.equal t x y).run P w= .ok b w):
    ∃z,(do eqGuard op t u v x y;binOp op t x y:Sem Value).run P w= .ok z w∧VR M N U r z:=by
  unfold rV at h;split at h
  · rename_i d _ _ _ _ I
    have hu:P.underlying t=co d:=(j t _ I).2.1.1;split at h
    · rename_i A
      simp only[OA,OK]at h;obtain⟨rfl,rfl⟩:=h;refine⟨.bool b,?_,.iv _ _ (.v _)⟩;rw[Sem.run_bind,cQ h1 B,Result.andThen_ok,he,Sem.run_bind,D d A hu];rfl
    · rename_i A
      simp only[OA,OK]at h;obtain⟨rfl,rfl⟩:=h;refine⟨.bool (!b),?_,.iv _ _ (.v _)⟩;rw[Sem.run_bind,cQ h1 B,Result.andThen_ok,hn,Sem.run_bind,D d A hu];rfl
    · cases h
  · cases h
theorem qE{t e:TypeId}(hu:P.underlying t=co (.pointer e))(d:Nat)(a:Addr):(Op.equalIn (d+1) t (.pointer (co a)) (.pointer io)).run P w= .ok jp w:=by
  simp[Op.equalIn,run_underlying hu]
theorem tt{t e:TypeId}(hu:P.underlying t=co (.pointer e))(a:Addr):(Op.equal t (.pointer (co a)) (.pointer io)).run P w= .ok jp w:=qE hu 9999 a
theorem qF{t e:TypeId}(hu:P.underlying t=co (.pointer e))(d:Nat):(Op.equalIn (d+1) t (.pointer io) (.pointer io)).run P w= .ok is w:=by
  simp[Op.equalIn,run_underlying hu]
theorem tv{t e:TypeId}(hu:P.underlying t=co (.pointer e)):(Op.equal t (.pointer io) (.pointer io)).run P w= .ok is w:=qF hu 9999
theorem qG{t k e:TypeId}(hu:P.underlying t=co (.map k e))(d:Nat)(a:Nat):(Op.equalIn (d+1) t (.map (co a)) (.map io)).run P w= .ok jp w:=by
  simp[Op.equalIn,run_underlying hu]
theorem tw{t k e:TypeId}(hu:P.underlying t=co (.map k e))(a:Nat):(Op.equal t (.map (co a)) (.map io)).run P w= .ok jp w:=qG hu 9999 a
theorem pE{t:TypeId}{p q:Array TypeId}{b:Bool}(hu:P.underlying t=co (.func p q b))(d:Nat)(f:Fn)(x y:Array Value):(Op.equalIn (d+1) t (.func f x y) .nilFunc).run P w= .ok jp w:=by
  simp[Op.equalIn,run_underlying hu]
theorem sF{t:TypeId}{p q:Array TypeId}{b:Bool}(hu:P.underlying t=co (.func p q b))(f:Fn)(x y:Array Value):(Op.equal t (.func f x y) .nilFunc).run P w= .ok jp w:=pE hu 9999 f x y
theorem BT{ty:Ty}(A:bn P ty){t:TypeId}{op:BinOp}{p q:PV}{r:PV}{C:Prop}{u v:Operand}{x y:Value}(h:vX ty t op p q=co (r,C))(hC:C)(j:VR M N U p x)(b:VR M N U q y):
    ∃z,(do eqGuard op t u v x y;binOp op t x y:Sem Value).run P w= .ok z w∧VR M N U r z:=by
  unfold vX at h;split at h
  · cases j with
    | iv _ _ j=>cases j with
      | v=>
        cases b with
        | iv _ _ b=>cases b with
          | v=>
            split at h
            · rename_i G
              subst G;unfold yF at h;split at h
              · obtain⟨z,D,B⟩:=rE (P:=P) (M:=M) (N:=N) (U:=U) (w:=w) (t:=t) h
                exact⟨z,by rw[Sem.run_bind,cQ (by simp) (by simp)];exact D,B⟩
              · obtain⟨z,D,B⟩:=rE (P:=P) (M:=M) (N:=N) (U:=U) (w:=w) (t:=t) h
                exact⟨z,by rw[Sem.run_bind,cQ (by simp) (by simp)];exact D,B⟩
              obtain⟨z,D,B⟩:=DG (P:=P) (M:=M) (N:=N) (U:=U) (w:=w) (t:=t) h hC;exact⟨z,by rw[Sem.run_bind,cQ (by simp) (by simp)];exact D,B⟩
            · obtain⟨z,D,B⟩:=rE (P:=P) (M:=M) (N:=N) (U:=U) (w:=w) (t:=t) h
              exact⟨z,by rw[Sem.run_bind,cQ (by simp) (by simp)];exact D,B⟩
  · cases j with
    | iv _ _ j=>cases j with
      | v=>
        cases b with
        | iv _ _ b=>cases b with
          | v=>
            obtain⟨z,D,B⟩:=Cm (P:=P) (M:=M) (N:=N) (U:=U) (w:=w) (t:=t) h hC;exact⟨z,by rw[Sem.run_bind,cQ (by simp) (by simp)];exact D,B⟩
  · split at h
    · cases j with
      | iv _ _ j=>cases j with
        | v=>
          cases b with
          | iv _ _ b=>cases b with
            |v=>exact my A h
    · cases j with
      | iv _ _ j=>cases j with
        | v=>
          cases b with
          |kb=>exact my A h
    · cases h
  · split at h
    · cases j with
      | kb=>
        cases b with
        | iv _ _ b=>cases b with
          |v=>exact my A h
    · cases j with
      | kb=>
        cases b with
        |kb=>exact my A h
    · cases h
  · cases j with
    | ptr i off hU=>
      cases b with
      | iv _ _ b=>cases b with
        | v=>
          refine ou A h (by simp) (by simp) Z Z fun d hd hu=>?_;cases d<;>first|(cases hd;done)|exact tt hu _
  · cases j with
    | iv _ _ j=>cases j with
      | v=>cases b with
        | iv _ _ b=>cases b with
          | v=>
            refine ou A h (by simp) (by simp) Z Z fun d hd hu=>?_;cases d<;>first|(cases hd;done)|exact tv hu
  · cases j with
    | mp i hU=>
      cases b with
      | iv _ _ b=>cases b with
        | v=>
          refine ou A h (by simp) (by simp) Z Z fun d hd hu=>?_;cases d<;>first|(cases hd;done)|exact tw hu _
  · cases j with
    | bX=>
      cases b with
      | iv _ _ b=>cases b with
        | v=>
          refine ou A h (by simp) (by simp) Z Z fun d hd hu=>?_;cases d<;>first|(cases hd;done)|exact sF hu _ _ _
  · cases h
theorem Du{f:AF}{a:Act}(hf:FR M N U f a.tmps)(xs:Array Operand):(xs.toList.map (ev f)).length=(xs.map a.eval).size∧ ∀j p,(xs.toList.map (ev f))[j]? =co p->VR M N U p ((xs.map a.eval).getD j undef):=by
  refine⟨by simp,fun j p u=>?_⟩;rw[OH,OJ]at u;obtain⟨x,y,rfl⟩:=u;have b:xs[j]? =co x:=by simpa using y
  rw[Oz,QN,b];exact aG hf x
theorem oK{t:TypeId}{e:bA}(he:ai P t e){k off:Nat}{u:TypeId}(hf:q6 e k=co (off,u)): ∃(F:Array Field) (fd:Field),P.underlying t=co (.struct F)∧F[k]? =co fd∧fd.offset=off∧fd.type=u:=by
  unfold q6 at hf;cases hk:e.k with
  | cE fs=>
    simp only[hk]at hf;obtain⟨_,j,_⟩:=he;rw[hk]at j;obtain⟨F,x,y⟩:=j;rw[<-y,OH,OJ]at hf;obtain⟨fd,A,b⟩:=hf;simp only[OK]at b;exact⟨F,fd,x,by simpa using A,b.1,b.2⟩
  |_=>simp[hk]at hf
theorem Bd{n:Nat}{p q:PV}{x:Value}(B:VR M N U p x)(h:nE n p=co q): ∃b o,x= .pointer (co ⟨b,o,io⟩)∧VR M N U q (.pointer (co ⟨b,o+n,io⟩)):=by
  cases B with
  |ptr i off hU=>simp only[nE,OA]at h;subst h;exact⟨_,_,rfl,.ptr _ _ hU⟩
  |cD i sz k off hU=>simp only[nE,OA]at h;subst h;exact⟨_,_,rfl,by rw[P3];exact .cD _ _ _ _ hU⟩
  | iv y _ hi=>
    cases hi with
    | jg cs b off hm hr=>
      simp only[nE,OA]at h;subst h;refine⟨b,off,rfl,.iv _ _ (.jg _ _ _ (fun j A=>?_) (fun j p u=>?_))⟩
      · rw[List.length_drop]at A
        rw[P3];exact hm (n+j) (by omega)
      · rw[Py]at u
        rw[P3];exact hr (n+j) p u
    |_=>simp[nE]at h
  |_=>simp[nE]at h
theorem mS{t u:TypeId}{A:bA}(hu:P.underlying t=co (.slice u))(B:ai P u A){p q:PV}{k:IntKind}{n:Int}{C:Prop}{x:Value}(J:VR M N U p x)
    (G:(∃m D,p= .iv (.cp A.size m D))∨ ∃i a0 len,p= .sl i a0 len A.size) (h:iM p n=co (q,C)) (hC:C): ∃y,(Instr.indexAt t x (.int k n)).run P w= .ok y w∧VR M N U q y:=by
  rcases G with⟨m,D,rfl⟩|⟨i,a0,len,rfl⟩
  · simp only[iM,OA,OK]at h
    obtain⟨rfl,rfl⟩:=h;cases J with
    | iv _ _ hi=>
      cases hi with
      |fh sz D a cap=>omega
      | cp sz m D b a0 cap hn hc hl hm hr=>
        refine⟨.pointer (co ⟨b,a0+n.toNat*A.size,io⟩),?_,.iv _ _ (.jg _ _ _ (fun j I=>?_) (fun j p R=>hr n.toNat j p (by omega) R))⟩
        · simp only[Instr.indexAt,asIntOf]
          simp[run_underlying hu,hC.1,hC.2,aO B,di]
        · rw[hl n.toNat (by omega)]at I
          exact hm n.toNat j (by omega) I
  · simp only[iM,OA,OK]at h
    obtain⟨rfl,rfl⟩:=h;cases J with
    |lC=>omega
    |sle=>omega
    | sl _ _ _ _ cap hU h0 hl hc he=>
      refine⟨.pointer (co ⟨N.az i,(a0+n.toNat)*A.size+0,io⟩),?_,.cD _ _ _ _ hU⟩;simp only[Instr.indexAt,asIntOf];simp[run_underlying hu,hC.1,hC.2,aO B,di,PD]
theorem AT{t u:TypeId}{A:bA}(hu:P.underlying t=co (.slice u))(B:ai P u A){m:Nat}{el:Nat->List IV}{ka kb:IntKind}{na nb:Int}{q:PV}{C:Prop}{x:Value}(Y:VR M N U (.iv (.cp A.size m el)) x)
    (h:co (PV.iv (.cp A.size (nb.toNat-na.toNat) (fun k=>el (na.toNat+k))),0<=na∧na<=nb∧nb<=m)=co (q,C)) (hC:C): ∃y,(Instr.sliceAt t x (co (.int ka na)) (co (.int kb nb)) io).run P w= .ok y w∧VR M N U q y:=by
  simp only[OA,OK]at h;obtain⟨rfl,rfl⟩:=h;obtain⟨I,h1,h2⟩:=hC;have hb:(nb.toNat:Int)=nb:=Q6 (by omega);cases Y with
  | iv _ _ hi=>
    cases hi with
    | fh sz el a cap=>
      have D:na=0:=by omega
      have G:nb=0:=by omega
      subst D;subst G;refine⟨.slice (if cap=0 then a else a.map (·.add (0*A.size))) 0 cap,?_,.iv _ _ (.fh _ _ _ _)⟩;simp[Instr.sliceAt,Instr.slice,Instr.sliceBounds,Instr.sliceBound,asIntOf,run_underlying hu,aO B]
    | cp sz m el b off cap hn hc hl hm hr=>
      refine⟨.slice (if cap=na.toNat then co ⟨b,off,io⟩ else(co (⟨b,off,io⟩:Addr)).map (·.add (na.toNat*A.size))) (nb.toNat-na.toNat) (cap-na.toNat),?_,?_⟩
      · have g1:nb<=(cap:Int):=by omega
        have g2:na<=(nb.toNat:Int):=by omega
        simp[Instr.sliceAt,Instr.slice,Instr.sliceBounds,Instr.sliceBound,asIntOf,run_underlying hu,aO B,I,g1,(by omega:0<=nb)];intro hh;omega
      · by_cases hz:nb.toNat-na.toNat=0
        · rw[hz];exact .iv _ _ (.fh _ _ _ _)
        · rw[be (by omega),PI,di]
          refine .iv _ _ (IR.cp (sz:=A.size) (n:=nb.toNat-na.toNat) (el:=fun k=>el (na.toNat+k)) (b:=b) (off:=off+na.toNat*A.size) (cap:=cap-na.toNat) (by omega) (by omega) (fun k hk=>hl _ (by omega)) (fun k j hk J=>?_) (fun k j p hk R=>?_))
          · have:=hm (na.toNat+k) j (by omega) J
            rwa[PD,<-P3]at this
          · have:=hr (na.toNat+k) j p (by omega) R
            rwa[PD,<-P3]at this
theorem AR{t u:TypeId}{A:bA}(hu:P.underlying t=co (.slice u))(B:ai P u A){m:Nat}{el:Nat->List IV}{ka:IntKind}{na:Int}{q:PV}{C:Prop}{x:Value}(R:VR M N U (.iv (.cp A.size m el)) x)
    (h:co (PV.iv (.cp A.size (m-na.toNat) (fun k=>el (na.toNat+k))),0<=na∧na<=m)=co (q,C)) (hC:C): ∃y,(Instr.sliceAt t x (co (.int ka na)) io io).run P w= .ok y w∧VR M N U q y:=by
  simp only[OA,OK]at h;obtain⟨rfl,rfl⟩:=h;obtain⟨G,h1⟩:=hC;cases R with
  | iv _ _ hi=>
    cases hi with
    | fh sz el a cap=>
      have D:na=0:=by omega
      subst D;refine⟨.slice (if cap=0 then a else a.map (·.add (0*A.size))) 0 cap,?_,.iv _ _ (.fh _ _ _ _)⟩;simp[Instr.sliceAt,Instr.slice,Instr.sliceBounds,Instr.sliceBound,asIntOf,run_underlying hu,aO B]
    | cp sz m el b off cap hn hc hl hm hr=>
      refine⟨.slice (if cap=na.toNat then co ⟨b,off,io⟩ else(co (⟨b,off,io⟩:Addr)).map (·.add (na.toNat*A.size))) (m-na.toNat) (cap-na.toNat),?_,?_⟩
      · simp[Instr.sliceAt,Instr.slice,Instr.sliceBounds,Instr.sliceBound,asIntOf,run_underlying hu,aO B,G,h1]
      · by_cases Y:m-na.toNat=0
        · rw[Y];exact .iv _ _ (.fh _ _ _ _)
        · rw[be (by omega),PI,di]
          refine .iv _ _ (IR.cp (sz:=A.size) (n:=m-na.toNat) (el:=fun k=>el (na.toNat+k)) (b:=b) (off:=off+na.toNat*A.size) (cap:=cap-na.toNat) (by omega) (by omega) (fun k hk=>hl _ (by omega)) (fun k j hk I=>?_) (fun k j p hk J=>?_))
          · have:=hm (na.toNat+k) j (by omega) I
            rwa[PD,<-P3]at this
          · have:=hr (na.toNat+k) j p (by omega) J
            rwa[PD,<-P3]at this
theorem yb{t u:TypeId}{A:bA}(hu:P.underlying t=co (.slice u))(B:ai P u A){m:Nat}{el:Nat->List IV}{kb kc:IntKind}{nb nc:Int}{q:PV}{C:Prop}{x:Value}(hx:VR M N U (.iv (.cp A.size m el)) x)
    (h:co (PV.iv (.cp A.size nb.toNat el),0<=nb∧nb<=nc∧nc<=m)=co (q,C)) (hC:C): ∃y,(Instr.sliceAt t x io (co (.int kb nb)) (co (.int kc nc))).run P w= .ok y w∧VR M N U q y:=by
  simp only[OA,OK]at h;obtain⟨rfl,rfl⟩:=h;obtain⟨I,h1,h2⟩:=hC;have hb:(nb.toNat:Int)=nb:=Q6 (by omega);have J:(nc.toNat:Int)=nc:=Q6 (by omega);cases hx with
  | iv _ _ hi=>
    cases hi with
    | fh sz el a cap=>
      have D:nb=0:=by omega
      have G:nc=0:=by omega
      subst D;subst G;refine⟨.slice a 0 0,?_,.iv _ _ (.fh _ _ _ _)⟩;simp[Instr.sliceAt,Instr.slice,Instr.sliceBounds,Instr.sliceBound,asIntOf,run_underlying hu,aO B]
    | cp sz m el b off cap hn hc hl hm hr=>
      refine⟨.slice (if nc.toNat=0 then co ⟨b,off,io⟩ else(co (⟨b,off,io⟩:Addr)).map (·.add (0*A.size))) nb.toNat nc.toNat,?_,?_⟩
      · have g1:nc<=(cap:Int):=by omega
        have g2:nb<=(nc.toNat:Int):=by omega
        simp[Instr.sliceAt,Instr.slice,Instr.sliceBounds,Instr.sliceBound,asIntOf,run_underlying hu,aO B,I,g1,(by omega:0<=nc)];intro hh;omega
      · by_cases hz:nb.toNat=0
        · rw[hz];exact .iv _ _ (.fh _ _ _ _)
        · rw[be (by omega),PI,di,Qu,Qn]
          exact .iv _ _ (IR.cp (sz:=A.size) (n:=nb.toNat) (el:=el) (b:=b) (off:=off) (cap:=nc.toNat) (by omega) (by omega) (fun k hk=>hl _ (by omega)) (fun k j hk R=>hm k j (by omega) R) (fun k j p hk Y=>hr k j p (by omega) Y))
theorem wy{t:TypeId}(hu:P.underlying t=co .string){b:ByteArray}{ka kb:IntKind}{na nb:Int}(hC:0<=na∧na<=nb∧nb<=b.size):
    (Instr.sliceAt t (.string b) (co (.int ka na)) (co (.int kb nb)) io).run P w= .ok (.string (b.extract na.toNat nb.toNat)) w:=by
  obtain⟨j,h1,u⟩:=hC;have hb:(nb.toNat:Int)=nb:=Q6 (by omega);have g2:na<=(nb.toNat:Int):=by omega
  simp[Instr.sliceAt,Instr.slice,Instr.sliceBounds,Instr.sliceBound,asIntOf,run_underlying hu,j,u,(by omega:0<=nb)];intro hh;omega
end
end
end Go.Al
namespace Go.Al
open Go.MapKept
section
section
variable {P:Program} {ty:Ty} {M:Mem} {N:Nm} {U:Nat->Prop} {w:World}
theorem fJ{t:TypeId}{F:Array Field}(h:P.underlying t=co (.struct F)):P.fieldsOf t=F:=by
  simp[Program.fieldsOf,h]
theorem b7 {t:TypeId} {F:Array Field} (h:P.underlying t=co (.struct F)) (h1:P.stoodInHeld t=jp) (j:P.eqGuardType P.depth t=jp) (u:(F.toList.all fun f=>f.name != "_")=is):Nk P t:=
  ⟨h1,j,fun f b=>by
    rw[fJ h]at b;have:=Pj.1 u f b
    simpa using this⟩
theorem An(j:bn P ty){f:TypeId->PV->PV->Option Bool}{D:Nat}(hf: ∀u p q b,f u p q=co b-> ∀x y,VR M N U p x->VR M N U q y->(Op.equalIn D u x y).run P w= .ok b w)
    {cs ds:List PV} {xs ys:Array Value} (hx:VR M N U (.agg cs) (.agg xs)) (hy:VR M N U (.agg ds) (.agg ys)):
    ∀(F:List Field) (b:Bool),(∀g∈F,g.name≠ "_")->BK f ty (F.map fun g=>(g.offset,g.type)) cs ds=co b->(Op.eqFields D xs ys F).run P w= .ok b w
  | [],b,_,h=>by simp only[P9,BK,OA]at h;subst h;simp[Op.eqFields]
  | g::F,b,hn,h=>by
    simp only[OZ,BK]at h;split at h
    · rename_i eu A
      split at h
      · rename_i p q hp hq
        split at h
        · rename_i b1 b2 h1 h2
          simp only[OA]at h;subst h;obtain⟨_,B,C,G⟩:=hx.iy;cases B;obtain⟨_,R,Y,a0⟩:=hy.iy;cases R;obtain⟨x,I,J⟩:=gF (P:=P) (w:=w) (j _ _ A) C G hp;obtain⟨y,b0,c0⟩:=gF (P:=P) (w:=w) (j _ _ A) Y a0 hq;have h3:=hf _ _ _ _ h1 x y J c0;have h4:=An j hf hx hy F b2 (fun g hg=>hn g (ON _ hg)) h2;simp only[Op.eqFields,am (hn g OO),Sem.run_bind,I,b0,h3,Result.andThen_ok];cases b1 with
          |false=>simp
          |true=>simpa using h4
        · cases h
      · cases h
    · cases h
theorem yR(j:bn P ty): ∀(d:Nat) (t:TypeId) (p q:PV) (b:Bool),BL ty d t p q=co b-> ∀x y,VR M N U p x->VR M N U q y-> ∀m,(Op.equalIn (d+m) t x y).run P w= .ok b w
  |0,_,_,_,_,h,_,_,_,_,_=>by simp[BL]at h
  | d+1,t,p,q,b,h,x,y,A,B,m=>by
    rw[show d+1+m=(d+m)+1 by omega];simp only[BL]at h;split at h
    · rename_i k _ _ _ _ C
      have hu:=(j t _ C).2.1.1;split at h
      · split at h
        · simp only[OA]at h
          subst h;cases A with
          | iv _ _ A => cases A
                        cases B with
                        | iv _ _ B => cases B
                                      rename_i e;subst e;rw[run_equalIn_int _ _ _ _ _ _ _ hu];congr 1
        · cases h
      · cases h
    · rename_i _ _ _ _ C
      have hu:=(j t _ C).2.1.1;split at h
      · simp only[OA]at h
        subst h;cases A with
        | iv _ _ A => cases A
                      cases B with
                      | iv _ _ B => cases B
                                    rw[run_equalIn_string _ _ _ _ _ hu,rA]
      · cases h
    · rename_i _ _ _ _ C
      have hu:=(j t _ C).2.1.1;split at h
      · simp only[OA]at h
        subst h;cases A with
        | iv _ _ A => cases A
                      cases B with
                      |iv _ _ B=>cases B;rw[run_equalIn_bool' _ _ _ _ _ hu]
      · cases h
    · rename_i Y _ _ _ C
      obtain⟨_,⟨F,hu,hF⟩,J⟩:=j t _ C;obtain⟨I,R,G⟩:=J Z;split at h
      · obtain⟨xs,rfl,_,_⟩:=A.iy
        obtain⟨ys,rfl,_,_⟩:=B.iy;have D:=fJ hu;rw[run_equalIn_struct _ _ _ _ _ (by rw[D];exact hu) I,D];rw[D]at G;refine An j (f:=BL ty d) (fun u p q b hb x y A B=>yR j d u p q b hb x y A B m) A B _ _ G ?_;rw[hF];exact h
      · cases h
    · cases h
theorem EI(B:bn P ty){t:TypeId}{op:BinOp}{cs D:List PV}{r:PV}{C:Prop}{u v:Operand}{x y:Value}(h:AA ty t op (.agg cs) (.agg D)=co (r,C))(I:VR M N U (.agg cs) x)(J:VR M N U (.agg D) y):
    C∧ ∃z,(do eqGuard op t u v x y;binOp op t x y:Sem Value).run P w= .ok z w∧VR M N U r z:=by
  have key: ∀b,BL ty 10 t (.agg cs) (.agg D)=co b-> ∃j A,x= .agg j∧y= .agg A∧P.eqGuardType P.depth t=jp∧(Op.equalIn 10000 t (.agg j) (.agg A)).run P w= .ok b w:=by
    intro b hb;have h1:=yR (P:=P) (w:=w) B 10 t _ _ b hb x y I J 9990;obtain⟨j,rfl,_,_⟩:=I.iy;obtain⟨A,rfl,_,_⟩:=J.iy;refine⟨j,A,rfl,rfl,?_,h1⟩;simp only[BL]at hb;split at hb
    · cases hb
    · cases hb
    · cases hb
    · rename_i R
      exact((B t _ R).2.2 Z).2.1
    · cases hb
  unfold AA at h;split at h
  · split at h
    · rename_i b hb
      simp only[OA,OK]at h;obtain⟨rfl,rfl⟩:=h;obtain⟨j,A,rfl,rfl,h1,G⟩:=key b hb;refine⟨ac,.bool b,?_,.iv _ _ (.v _)⟩;rw[Sem.run_bind,run_eqGuard_agg _ _ _ _ _ _ _ h1,Result.andThen_ok,run_eql_struct,G];rfl
    · cases h
  · split at h
    · rename_i b hb
      simp only[OA,OK]at h;obtain⟨rfl,rfl⟩:=h;obtain⟨j,A,rfl,rfl,h1,G⟩:=key b hb;refine⟨ac,.bool (!b),?_,.iv _ _ (.v _)⟩;rw[Sem.run_bind,run_eqGuard_agg _ _ _ _ _ _ _ h1,Result.andThen_ok,run_neq_struct,G];rfl
    · cases h
  · cases h
theorem ue(kc:KC)(k:kc.K):VR M N U (kc.pk k) (kc.ek k):=by
  cases kc with
  |str=>exact .iv _ _ (.v _)
  |int k=>exact .iv _ _ (.v _)
  | si j=>
    refine .agg _ _ (by rfl) fun i p b=>?_
    match i with
    |0=>simp at b;subst b;exact .iv _ _ (.v _)
    |1=>simp at b;subst b;exact .iv _ _ (.v _)
    |i+2=>simp at b
  | fl s=>
    refine .agg _ _ (by simp) fun i p b=>?_;rw[OH,OJ]at b;obtain⟨v,u,rfl⟩:=b;have:((FK.vs s k).toArray).getD i undef=v:=by simp[Oz,u]
    rw[this];exact .iv _ _ (.v _)
theorem CW: ∀{s:FS} {cs:List PV} {k:FK s} {ys:List Value},FK.rd s cs=co k->cs.length=ys.length->(∀j q,cs[j]? =co q->VR M N U q (ys.getD j undef))->ys=FK.vs s k
  | [],cs,k,ys,h,hl,hr=>by
    unfold FK.rd at h;split at h
    · match ys,hl with
      | [],_=>rfl
    · cases h
  | none::r,cs,k,ys,h,hl,hr=>by
    unfold FK.rd at h;split at h
    · rename_i a x
      split at h
      · rename_i A hk
        simp only[OA]at h;subst h
        match ys,hl with
        | y::ys,hl=>
          have b:=hr 0 _ Z;have h1:=CW hk (by simpa using hl) fun j q u=>by simpa using hr (j+1) q (by simpa using u)
          rw[Qs]at b;cases b with
          |iv _ _ b=>cases b;simp only[FK.vs,h1]
      · cases h
    · cases h
  | some q::r,cs,k,ys,h,hl,hr=>by
    unfold FK.rd at h;split at h
    · rename_i j n x
      split at h
      · rename_i A u hk
        have u:=of_decide_eq_true u;subst u;simp only[OA]at h;subst h
        match ys,hl with
        | y::ys,hl=>
          have b:=hr 0 _ Z;have h1:=CW hk (by simpa using hl) fun j q u=>by simpa using hr (j+1) q (by simpa using u)
          rw[Qs]at b;cases b with
          |iv _ _ b=>cases b;simp only[FK.vs,h1]
      · cases h
    · cases h
theorem Ap{kc:KC}{p:PV}{k:kc.K}{x:Value}(h:kc.dk p=co k)(u:VR M N U p x):x=kc.ek k:=by
  cases kc with
  | str=>
    simp only[KC.dk]at h;split at h
    · simp only[OA]at h
      subst h;cases u with
      |iv _ _ u=>cases u;rfl
    · cases h
  | int j=>
    simp only[KC.dk]at h;split at h
    · split at h
      · rename_i e
        subst e;simp only[OA]at h;subst h;cases u with
        |iv _ _ u=>cases u;rfl
      · cases h
    · cases h
  | si j=>
    simp only[KC.dk]at h;split at h
    · split at h
      · rename_i e
        subst e;simp only[OA]at h;subst h;obtain⟨ys,rfl,h1,y⟩:=u.iy;have g0:=y 0 _ Z;have g1:=y 1 _ Z;obtain⟨ys⟩:=ys
        match ys,h1 with
        | [a,b],_=>
          simp at g0 g1;cases g0 with
          | iv _ _ g0=>
            cases g1 with
            |iv _ _ g1=>cases g0;cases g1;rfl
      · cases h
    · cases h
  | fl s=>
    simp only[KC.dk]at h;split at h
    · obtain⟨ys,rfl,h1,y⟩:=u.iy
      have:=CW (ys:=ys.toList) h (by simpa using h1) fun j q A=>by
        have:=y j q A;rwa[Oz,<-O6,<-OC]at this
      show Value.agg ys=Value.agg (FK.vs s k).toArray;rw[<-this]
    · cases h
theorem qe{j:TypeId}(b:bn P ty)(h:db ty j=co .str):P.underlying j=co .string:=by
  unfold db at h;split at h
  · rename_i u;exact(b _ _ u).2.1.1
  · cases h
  · split at h<;>cases h
  · split at h<;>cases h
  · cases h
theorem qg{j:TypeId}{k:IntKind}(b:bn P ty)(h:db ty j=co (.int k)):P.underlying j=co (.int k):=by
  unfold db at h;split at h
  · cases h
  · rename_i u;simp only[OA,KC.int.injEq]at h;subst h;exact(b _ _ u).2.1.1
  · split at h<;>cases h
  · split at h<;>cases h
  · cases h
def okV:Option IntKind->Value->Prop
  |none,v=> ∃a,v= .string a
  |some q,v=> ∃n,v= .int q n
def ta:FS->List Value->Prop
  | [],[]=>True
  |o::s,v::l=>okV o v∧ta s l
  |_,_=>False
theorem ta.length: ∀{s:FS} {l:List Value},ta s l->l.length=s.length
  | [],[],_=>rfl
  |_::s,_::l,h=>by simp[ta.length h.2]
  | [],_::_,h=>h.elim
  |_::_,[],h=>h.elim
theorem ta.split: ∀{s q:FS} {l:List Value},ta (s++q) l-> ∃a b,l=a++b∧ta s a∧ta q b
  | [],_,l,h=>⟨[],l,rfl,ac,h⟩
  | o::s,q,v::l,h=>by
    obtain⟨a,b,h1,j,u⟩:=ta.split (s:=s) h.2;exact⟨v::a,b,by rw[h1];rfl,⟨h.1,j⟩,u⟩
  |_::_,_,[],h=>h.elim
theorem jK: ∀(s:FS) (k:FK s),ta s (FK.vs s k)
  | [],_=>trivial
  |none::r,k=>⟨⟨_,rfl⟩,jK r k.2⟩
  |some q::r,k=>⟨⟨_,rfl⟩,jK r k.2⟩
theorem x4: ∀{s:FS} {a b:FK s},FK.vs s a=FK.vs s b->a=b
  | [],_,_,_=>rfl
  | none::r,a,b,h=>by
    simp only[FK.vs,RH,Value.string.injEq]at h;exact Prod.ext h.1 (x4 h.2)
  | some q::r,a,b,h=>by
    simp only[FK.vs,RH,Value.int.injEq,true_and]at h;exact Prod.ext h.1 (x4 h.2)
def Dt(e:bA)(l:List Value):Value:=match e.k.agg with
  |true=> .agg l.toArray
  |false=>l.headD undef
theorem iA{u:TypeId}{e:bA}(he:ai P u e)(hn:e.k.agg=jp->e.size=1)(a0 a b:List Value)(ha:a.length=e.size):(part u (a0++(a++b)).toArray a0.length).run P w= .ok (Dt e a) w:=by
  cases hk:e.k.agg with
  | true=>
    have:(a0++(a++b)).toArray.extract a0.length (a0.length+e.size)=a.toArray:=by
      apply Array.ext';rw[<-ha];simp
    simp only[part,fx he,hk,aO he,Dt,this,Sem.run_bind,Result.andThen_ok,if_true,Sem.run_pure]
  | false=>
    have h1:=hn hk
    match a,ha with
    | [],h=>rw[h1]at h;cases h
    | [v],_=>simp[part,fx he,hk,Dt]
    |_::_::_,h=>rw[h1]at h;simp at h
def wc(P:Program)(ty:Ty)(d:Nat)(t:TypeId)(s:FS):Prop:=
  ∃e,ty t=co e∧e.size=s.length∧(e.k.agg=jp->e.size=1)∧(∀(w:World) a b,ta s a->ta s b-> ∀D,∃r:Bool,(Op.equalIn (d+D) t (Dt e a) (Dt e b)).run P w= .ok r w∧(r=is↔a=b))∧ ∀(w:World) a,ta s a-> ∀j D,(Instr.checkKey j (d+D) t (Dt e a)).run P w= .ok () w
theorem uK(A:bn P ty){f:TypeId->Option FS}{d:Nat}(hf: ∀u s,f u=co s->wc P ty d u s)(D:Nat): ∀(F:List Field) (q:FS) (j x a b:List Value),j.length=x.length->(∀g∈F,g.name≠ "_")->nU f (F.map fun g=>(g.offset,g.type)) j.length=co q->ta q a->ta q b->
    ∃r:Bool,(Op.eqFields (d+D) (j++a).toArray (x++b).toArray F).run P w= .ok r w∧(r=is↔a=b)
  | [],q,_,_,a,b,_,_,h,ha,hb=>by
    simp only[P9,nU,OA]at h;subst h
    match a,b,ha,hb with
    | [],[],_,_=>exact⟨is,by simp[Op.eqFields],by simp⟩
  | g::F,q,j,x,a,b,hp,hn,h,ha,hb=>by
    simp only[OZ,nU]at h;split at h
    · rename_i s ho hs
      have ho:=OU ho;split at h
      · rename_i q' hq
        simp only[OA]at h;subst h;obtain⟨B,a2,rfl,G,R⟩:=ha.split;obtain⟨C,J,rfl,I,Y⟩:=hb.split;obtain⟨e,he,b0,y,a0,_⟩:=hf _ _ hs;have la:=G.length;have lb:=I.length;have p1:=iA (P:=P) (w:=w) (A _ _ he) y j B a2 (by omega);have p2:=iA (P:=P) (w:=w) (A _ _ he) y x C J (by omega);obtain⟨r2,ih,i2⟩:=uK A hf D F q' (j++B) (x++C) a2 J (by simp[hp,la,lb]) (fun g hg=>hn g (ON _ hg)) (by rw[OE,la];exact hq) R Y;simp only[O0]at ih;simp only[Op.eqFields,am (hn g OO),Sem.run_bind,ho,p1,Result.andThen_ok];rw[hp,p2];obtain⟨r1,j1,j2⟩:=a0 w B C G I D;simp only[Result.andThen_ok,j1];have hd:B++a2=C++J↔B=C∧a2=J:=⟨fun h=>R7 h (by omega),fun h=>by rw[h.1,h.2]⟩
        cases r1 with
        |true=>exact⟨r2,by simpa using ih,by rw[hd,i2];exact⟨fun h=>⟨j2.1 Z,h⟩,fun h=>h.2⟩⟩
        |false=>exact⟨jp,by simp,by rw[hd];exact⟨(fun h=>nomatch h),fun h=>j2.2 h.1⟩⟩
      · cases h
    · cases h
theorem uJ(B:bn P ty){d:Nat}{u:TypeId}{s:FS}(hf:wc P ty d u s)(D c:Nat)(hc:c=s.length): ∀(m j:Nat) (x y a b:List Value),x.length=j*c->y.length=j*c->ta (yk s m) a->ta (yk s m) b->
    ∃r:Bool,(Op.eqItems (d+D) u c (x++a).toArray (y++b).toArray (List.range' j m)).run P w= .ok r w∧(r=is↔a=b)
  | 0,j,_,_,a,b,_,_,ha,hb=>by
    match a,b,ha,hb with
    | [],[],_,_=>exact⟨is,by simp[Op.eqItems],by simp⟩
  | m+1,j,x,y,a,b,h1,h2,ha,hb=>by
    obtain⟨C,a2,rfl,I,Y⟩:=ta.split ha;obtain⟨G,R,rfl,J,a0⟩:=ta.split hb;obtain⟨e,he,c0,A,b0,_⟩:=id hf;have la:=I.length;have lb:=J.length;have p1:=iA (P:=P) (w:=w) (B _ _ he) A x C a2 (by omega);have p2:=iA (P:=P) (w:=w) (B _ _ he) A y G R (by omega);obtain⟨r2,ih,i2⟩:=uJ B hf D c hc m (j+1) (x++C) (y++G) a2 R (by rw[OE,h1,la,P5,hc]) (by rw[OE,h2,lb,P5,hc]) Y a0;simp only[O0]at ih;rw[R1];rw[h1]at p1;rw[h2]at p2;obtain⟨r1,j1,j2⟩:=b0 w C G I J D;simp only[Op.eqItems,Sem.run_bind,p1,p2,Result.andThen_ok,j1];have hd:C++a2=G++R↔C=G∧a2=R:=⟨fun h=>R7 h (by omega),fun h=>by rw[h.1,h.2]⟩
    cases r1 with
    |true=>exact⟨r2,by simpa using ih,by rw[hd,i2];exact⟨fun h=>⟨j2.1 Z,h⟩,fun h=>h.2⟩⟩
    |false=>exact⟨jp,by simp,by rw[hd];exact⟨(fun h=>nomatch h),fun h=>j2.2 h.1⟩⟩
theorem yX(b:bn P ty){u:TypeId}{e:bA}(he:ty u=co e): ∃i,P.info? u=co i∧P.cellsOf u=e.size:=by
  obtain⟨⟨i,j,hs,_⟩,_⟩:=b _ _ he;exact⟨i,j,by simp[Program.cellsOf,j,hs]⟩
theorem vR(A:bn P ty): ∀(d:Nat) (t:TypeId) (s:FS),sB ty d t=co s->wc P ty d t s
  |0,_,_,h=>by simp[sB]at h
  | d+1,t,s,h=>by
    have key:=fun u s=>vR A d u s;unfold sB at h;split at h
    · rename_i _ _ _ C
      simp only[OA]at h;subst h;have hu:=(A _ _ C).2.1.1;refine⟨_,C,rfl,fun _=>rfl,fun w a b G hb D=>?_,fun w a G em D=>?_⟩
      · match a,b,G,hb with
        | [_],[_],⟨⟨x,rfl⟩,_⟩,⟨⟨y,rfl⟩,_⟩=>
          simp only[Dt,TK.agg,Rq];rw[show d+1+D=(d+D)+1 by omega,run_equalIn_string _ _ _ _ _ hu,rA];exact⟨_,rfl,by simp⟩
      · match a,G with
        | [_],⟨⟨x,rfl⟩,_⟩=>
          simp only[Dt,TK.agg,Rq];rw[show d+1+D=(d+D)+1 by omega];exact run_checkKey hu (by simp[IsKey]) _ _
    · rename_i q _ _ _ C
      simp only[OA]at h;subst h;have hu:=(A _ _ C).2.1.1;refine⟨_,C,rfl,fun _=>rfl,fun w a b G hb D=>?_,fun w a G em D=>?_⟩
      · match a,b,G,hb with
        | [_],[_],⟨⟨x,rfl⟩,_⟩,⟨⟨y,rfl⟩,_⟩=>
          simp only[Dt,TK.agg,Rq];rw[show d+1+D=(d+D)+1 by omega,run_equalIn_int _ _ _ _ _ _ _ hu];exact⟨_,rfl,by simp⟩
      · match a,G with
        | [_],⟨⟨x,rfl⟩,_⟩=>
          simp only[Dt,TK.agg,Rq];rw[show d+1+D=(d+D)+1 by omega];exact run_checkKey hu (by simp[IsKey]) _ _
    · rename_i fs n _ _ C
      split at h
      · rename_i s' hs
        split at h
        · rename_i J
          simp only[OA]at h;subst h;have hl:=OU J;obtain⟨F,h1,h2⟩:=(A _ _ C).2.1;obtain⟨q1,_,q3⟩:=(A _ _ C).2.2 Z;rw[fJ h1]at q3;refine⟨_,C,hl.symm,(fun h=>nomatch h),fun w a b G hb D=>?_,fun w a G em D=>?_⟩
          · have h3:=uK (w:=w) A key D F.toList s' [] [] a b Z q3 (by rw[h2];exact hs) G hb
            simp only[Qh]at h3;show∃r:Bool,(Op.equalIn (d+1+D) t (.agg a.toArray) (.agg b.toArray)).run P w= .ok r w∧_;rw[show d+1+D=(d+D)+1 by omega,run_equalIn_struct w (d+D) t _ _ (by rw[fJ h1];exact h1) q1,fJ h1];exact h3
          · show(Instr.checkKey em (d+1+D) t (.agg a.toArray)).run P w=_
            rw[show d+1+D=(d+D)+1 by omega,Instr.checkKey];simp only[Sem.run_bind,run_underlying h1,Result.andThen_ok];rw[<-Array.forIn_toList];obtain⟨a0,hp⟩: ∃a0:List Value,a0=[]:=⟨[],rfl⟩
            rw[show a.toArray=(a0++a).toArray by rw[hp];rfl];have B:nU (sB ty d) (F.toList.map fun g=>(g.offset,g.type)) a0.length=co s':=by rw[h2,hp];exact hs
            clear hs hp h2 h1 hl J C;generalize F.toList=L at B q3
            induction L generalizing a0 a s' with
            |nil=>simp
            | cons g L Y=>
              simp only[OZ,nU]at B;split at B
              · rename_i s1 ho k0
                have ho:=OU ho;split at B
                · rename_i q' hq
                  simp only[OA]at B;subst B;obtain⟨a1,a2,rfl,I,c0⟩:=ta.split G;obtain⟨e,C,f0,R,_,d0⟩:=key _ _ k0;have la:=I.length;have p1:=iA (P:=P) (w:=w) (A _ _ C) R a0 a1 a2 (by omega);have Y:=Y q' a2 c0 (a0++a1) (by rw[OE,la];exact hq) (fun g hg=>q3 g (ON _ hg));simp only[O0]at Y;simp only[R8,Sem.run_bind,ho,q3 g OO,ne_eq,not_false_eq_true,if_true,Result.andThen_ok,p1,d0 w a1 I em D,Sem.run_pure];exact Y
                · cases B
              · cases B
        · cases h
      · cases h
    · rename_i n u m _ _ _ C
      split at h
      · rename_i s' hs
        split at h
        · rename_i J
          simp only[OA]at h;subst h;have hl:=OU J;have h1:P.underlying t=co (.array n u):=(A _ _ C).2.1;have hf:=key u s' hs;obtain⟨e,b0,f0,_,_,_⟩:=id hf;obtain⟨i,hi,i0⟩:=yX A b0;have e0: ∀n,(yk s' n).length=n*s'.length:=fun n=>by
            induction n with
            |zero=>simp[yk]
            |succ n Y=>simp only[yk,OE,Y,P5];omega
          refine⟨_,C,by rw[e0];exact hl.symm,(fun h=>nomatch h),fun w a b G hb D=>?_,fun w a G em D=>?_⟩
          · have h3:=uJ (w:=w) A hf D (P.cellsOf u) (by rw[i0,f0]) n 0 [] [] a b (by simp) (by simp) G hb
            simp only[Qh]at h3;show∃r:Bool,(Op.equalIn (d+1+D) t (.agg a.toArray) (.agg b.toArray)).run P w= .ok r w∧_;rw[show d+1+D=(d+D)+1 by omega,run_equalIn_array w (d+D) _ _ h1 hi,List.range_eq_range'];exact h3
          · show(Instr.checkKey em (d+1+D) t (.agg a.toArray)).run P w=_
            rw[show d+1+D=(d+D)+1 by omega,Instr.checkKey];simp only[Sem.run_bind,run_underlying h1,Result.andThen_ok];simp only[Std.Legacy.Range.forIn_eq_forIn_range',Std.Legacy.Range.size,Q4,Nat.add_one_sub_one,Nat.div_one];obtain⟨e',j0,m0,R,_,d0⟩:=id hf;have:e'=e:=Pl (j0.symm.trans b0);subst this;obtain⟨a0,hp,g0⟩: ∃a0:List Value,a0.length=0*e'.size∧a.toArray=(a0++a).toArray:=⟨[],by simp,rfl⟩
            rw[g0];clear g0;clear hl J h1 C;generalize 0=j at hp ⊢
            induction n generalizing j a0 a with
            |zero=>simp
            | succ n Y=>
              obtain⟨a1,a2,rfl,I,c0⟩:=ta.split G;have la:=I.length;have p1:=iA (P:=P) (w:=w) (A _ _ b0) R a0 a1 a2 (by omega);have Y:=Y a2 c0 (a0++a1) (j+1) (by rw[OE,hp,la,P5,f0]);simp only[O0]at Y;rw[R1];rw[hp]at p1;simp only[R8,Sem.run_bind,aO (A _ _ b0),Result.andThen_ok,p1,d0 w a1 I em D,Sem.run_pure];exact Y
        · cases h
      · cases h
    · cases h
theorem D3{j:TypeId}{s:FS}(b:bn P ty)(h:db ty j=co (.fl s)):(∃F,P.underlying j=co (.struct F))∧ ∃e,e.k.agg=is∧wc P ty 6 j s∧ty j=co e:=by
  unfold db at h;split at h
  · cases h
  · cases h
  · split at h<;>cases h
  · rename_i u
    split at h
    · rename_i s' hs
      simp only[OA,KC.fl.injEq]at h;subst h;obtain⟨F,h1,_⟩:=(b _ _ u).2.1;exact⟨⟨F,h1⟩,_,rfl,vR b 6 j s' hs,u⟩
    · cases h
  · cases h
theorem xP{kc:KC}{u:TypeId}(x:bn P ty)(h:db ty u=co kc)(a b:kc.K):(Op.equal u (kc.ek a) (kc.ek b)).run P w= .ok (kw (a=b)) w:=by
  have key: ∀(r:Bool),BL ty 10 u (kc.pk a) (kc.pk b)=co r->(Op.equal u (kc.ek a) (kc.ek b)).run P w= .ok r w:=fun r D=>
    yR (M:=Mem.base) (N:=⟨fun _=>0,fun _=>0⟩) (U:=fun _=>True) x 10 u _ _ r D _ _ (ue kc a) (ue kc b) 9990
  unfold db at h;split at h
  · rename_i j
    simp only[OA]at h;subst h;refine key _ ?_;simp[BL,j,KC.pk]
  · rename_i j
    simp only[OA]at h;subst h;refine key _ ?_;simp[BL,j,KC.pk]
  · rename_i j
    split at h
    · rename_i C hb
      simp only[OA]at h;subst h;refine key _ ?_;obtain⟨I,a2⟩:=a;obtain⟨J,R⟩:=b;simp[BL,BK,j,C,hb,KC.pk,fz,TK.agg,iN]
    · cases h
  · rename_i Y j
    split at h
    · rename_i s hs
      simp only[OA]at h;subst h;obtain⟨e,y,G,_,A,_⟩:=vR x 6 u s hs;have:e=_:=Pl (y.symm.trans j);subst this;obtain⟨r,h1,B⟩:=A w (FK.vs s a) (FK.vs s b) (jK s a) (jK s b) 9994;have hd:r=kw (a=b):=by
        rw[PS,B,decide_eq_true_iff];exact⟨x4,fun h=>by rw[h]⟩
      rw[<-hd];exact h1
    · cases h
  · cases h
def iW(kc:KC){V:Type}:List (kc.K×V)->kc.K->Option Nat
  | [],_=>io
  |(a,_)::r,k=>if a=k then co 0 else(iW kc r k).map (· +1)
section
variable {kc:KC} {V:Type}
theorem kg: ∀{m:List (kc.K×V)} {k:kc.K} {i:Nat},iW kc m k=co i-> ∃v,m[i]? =co (k,v)∧(∀z,dm kc m k z=v)∧cV kc m k=is∧(∀u,cq kc m k u=m.set i (k,u))∧jh kc m k=m.eraseIdx i
  | [],_,_,h=>by simp[iW]at h
  | (a,b)::r,k,i,h=>by
    simp only[iW]at h;split at h
    · rename_i e
      simp only[OA]at h;subst h;subst e;exact⟨b,rfl,fun z=>by simp[dm],by simp[cV],fun u=>by simp[cq],by simp[jh]⟩
    · rename_i e
      obtain⟨j,C,rfl⟩:=OJ.1 h;obtain⟨v,h1,x,y,A,B⟩:=kg C;exact⟨v,by simpa using h1,fun z=>by simp[dm,e,x],by simp[cV,e,y],fun u=>by simp[cq,e,A],by simp[jh,e,B]⟩
theorem mw: ∀{m:List (kc.K×V)} {k:kc.K},iW kc m k=io->(∀z,dm kc m k z=z)∧cV kc m k=jp∧(∀j,cq kc m k j=m++ [(k,j)])∧jh kc m k=m
  | [],_,_=>⟨fun z=>rfl,rfl,fun v=>rfl,rfl⟩
  | (a,b)::r,k,h=>by
    simp only[iW]at h;split at h
    · cases h
    · rename_i e
      obtain⟨u,x,y,A⟩:=mw (QO.1 h);exact⟨fun z=>by simp[dm,e,u],by simp[cV,e,x],fun j=>by simp[cq,e,y],by simp[jh,e,A]⟩
def s5(kc:KC){V:Type}:List MapEntry->List (kc.K×V)->Prop
  | [],[]=>True
  |e::r,x::m=>e.key=kc.ek x.1∧s5 kc r m
  |_,_=>False
theorem xz: ∀{es:List MapEntry} {m:List (kc.K×V)},es.length=m.length->(∀(j:Nat) (x:kc.K×V),m[j]? =co x->(es.getD j ci).key=kc.ek x.1)->s5 kc es m
  | [],[],_,_=>trivial
  |e::r,x::m,hl,h=>⟨by simpa using h 0 x Z,xz (by simpa using hl) fun j x b=>by simpa using h (j+1) x (by simpa using b)⟩
  | [],_::_,hl,_=>by simp at hl
  |_::_,[],hl,_=>by simp at hl
theorem qj: ∀{es:List MapEntry} {m:List ((KC.str).K×V)} {k:ByteArray} (i:Nat),s5 .str es m->Instr.findNow .string (.string k) es i=co ((iW .str m k).map fun j=>(i+j,(es.getD j ci).val))
  | [],[],_,_,_=>rfl
  | e::r,(a,b)::m,k,i,h=>by
    obtain⟨h1,u⟩:=h;simp only[KC.ek]at h1;simp only[Instr.findNow,h1,Instr.sameNow,iW];rw[beq_toListBytes,rA];by_cases hk:a=k
    · subst hk;simp
    · have hb:kw (k=a)=jp:=by simpa using fun e=>hk e.symm
      rw[hb,be hk,qj (i+1) u];simp only[RO,OA];congr 1
      funext j
      simp;omega
  | [],_::_,_,_,h=>h.elim
  |_::_,[],_,_,h=>h.elim
theorem qk{q:IntKind}: ∀{es:List MapEntry} {m:List ((KC.int q).K×V)} {k:Int} (i:Nat),s5 (.int q) es m->Instr.findNow (.int q) (.int q k) es i=co ((iW (.int q) m k).map fun j=>(i+j,(es.getD j ci).val))
  | [],[],_,_,_=>rfl
  | e::r,(a,b)::m,k,i,h=>by
    obtain⟨h1,u⟩:=h;simp only[KC.ek]at h1;simp only[Instr.findNow,h1,Instr.sameNow,iW,if_true];by_cases hk:a=k
    · subst hk;simp
    · have: ¬k=a:=fun e=>hk e.symm
      have hb:(k==a)=jp:=by simpa using this
      rw[hb,be hk,qk (i+1) u];simp only[RO,OA];congr 1
      funext j
      simp;omega
  | [],_::_,_,_,h=>h.elim
  |_::_,[],_,_,h=>h.elim
theorem mU{y:TypeId}(x:bn P ty)(hk:db ty y=co kc): ∀{es:List MapEntry} {m:List (kc.K×V)} {k:kc.K} (i:Nat),s5 kc es m->
    (Instr.findAsking y (kc.ek k) es i).run P w= .ok ((iW kc m k).map fun j=>(i+j,(es.getD j ci).val)) w
  | [],[],_,_,_=>by simp[Instr.findAsking,iW]
  | e::r,(a,b)::m,k,i,h=>by
    obtain⟨h1,A⟩:=h;simp only[Instr.findAsking,h1,Sem.run_bind,xP (P:=P) (w:=w) x hk,Result.andThen_ok,iW];by_cases u:a=k
    · subst u;simp
    · have: ¬k=a:=fun e=>u e.symm
      rw[be u];simp only[this,decide_false,Qb,if_false,mU x hk (i+1) A,RO];congr 2
      funext j
      simp;omega
  | [],_::_,_,_,h=>h.elim
  |_::_,[],_,_,h=>h.elim
theorem kP{A:TypeId}(b:bn P ty)(hk:db ty A=co kc){es:List MapEntry}{m:List (kc.K×V)}(k:kc.K)(h:s5 kc es m):
    (Instr.findKey A (kc.ek k) es).run P w= .ok ((iW kc m k).map fun j=>(j,(es.getD j ci).val)) w:=by
  have hu: ∃d,P.underlying A=co d:=by
    unfold db at hk;split at hk
    · rename_i x;exact⟨_,(b _ _ x).2.1.1⟩
    · rename_i x;exact⟨_,(b _ _ x).2.1.1⟩
    · rename_i x;obtain⟨F,h1,_⟩:=(b _ _ x).2.1;exact⟨_,h1⟩
    · rename_i x;obtain⟨F,h1,_⟩:=(b _ _ x).2.1;exact⟨_,h1⟩
    · cases hk
  obtain⟨d,hd⟩:=hu;unfold Instr.findKey;rw[Sem.run_bind,run_underlying hd,Result.andThen_ok];have u:=mU (P:=P) (w:=w) b hk (k:=k) 0 h;simp only[O8]at u;cases kc with
  | str=>
    have:=qe b hk;rw[hd]at this;cases this;simp only[KC.ek,qj 0 h,O8];rfl
  | int q=>
    have:=qg b hk;rw[hd]at this;cases this;simp only[KC.ek,qk 0 h,O8];rfl
  | si q=>
    cases es with
    | nil=>
      cases m with
      |nil=>simp[Instr.findNow,iW]
      |cons=>exact h.elim
    | cons e r=>
      have y:Instr.findNow d (KC.ek (.si q) k) (e::r) 0=io:=by
        simp only[Instr.findNow,KC.ek];have:Instr.sameNow d (.agg #[.string k.1,.int q k.2]) e.key=io:=by cases d<;>rfl
        rw[this]
      rw[y];exact u
  | fl s=>
    cases es with
    | nil=>
      cases m with
      |nil=>simp[Instr.findNow,iW]
      |cons=>exact h.elim
    | cons e r=>
      have y:Instr.findNow d (KC.ek (.fl s) k) (e::r) 0=io:=by
        simp only[Instr.findNow,KC.ek];have:Instr.sameNow d (.agg (FK.vs s k).toArray) e.key=io:=by cases d<;>rfl
        rw[this]
      rw[y];exact u
theorem ij.keys{V:Type}{e:V->IV}{m:List (kc.K×V)}{ents:Array MapEntry}{clock:Nat}(h:ij M kc e m ents clock):s5 kc ents.toList m:=
  xz (by simpa using h.size) fun j x b=>by
    have:=h.key j x b;rwa[Oz,<-O6,<-OC]at this
theorem ij.Nx{V:Type}{e:V->IV}{m:List (kc.K×V)}{ents:Array MapEntry}{clock:Nat}(h:ij M kc e m ents clock){j:Nat}{x:kc.K×V}(hj:m[j]? =co x):IR M (e x.2) (ents.toList.getD j ci).val:=by
  have:=h.val j x hj;rwa[Oz,<-O6,<-OC]at this
theorem tZ{i:IV}{x:Value}(h:IR M i x):VR M N U i.pv x:=by
  cases h with
  | agg cs ys hl hr=>
    refine .agg _ _ (by simpa using hl) fun j p b=>?_;rw[OH,OJ]at b;obtain⟨q,u,rfl⟩:=b
    exact .iv _ _ (hr j q u)
  |v x=>exact .iv _ _ (.v x)
  |fh=>exact .iv _ _ (.fh _ _ _ _)
  |cp _ _ _ _ _ _ h1 h2 h3 h4 h5=>exact .iv _ _ (.cp _ _ _ _ _ _ h1 h2 h3 h4 h5)
  |jg _ _ _ h1 h2=>exact .iv _ _ (.jg _ _ _ h1 h2)
  |dJ _ _ _ _ _ _ _ _ h1 h2 h3 h4 h5 h6 h7=>exact .iv _ _ (.dJ _ _ _ _ _ _ _ _ h1 h2 h3 h4 h5 h6 h7)
theorem js{kt:TypeId}(u:bn P ty)(hk:db ty kt=co kc)(k:kc.K)(b:Bool)(n:Nat):(Instr.checkKey b (n+6) kt (kc.ek k)).run P w= .ok () w:=by
  cases kc with
  |str=>exact run_checkKey (qe u hk) (by simp[KC.ek,IsKey]) _ _
  |int q=>exact run_checkKey (qg u hk) (by simp[KC.ek,IsKey]) _ _
  | si q=>
    unfold db at hk;split at hk
    · cases hk
    · cases hk
    · rename_i a c _ _ _ I
      split at hk
      · rename_i _ _ _ _ B _ _ _ G hc
        simp only[OA,KC.si.injEq]at hk;have Y:B=q:=hk;subst Y;obtain⟨F,h1,A⟩:=(u _ _ I).2.1;have D:=((u _ _ I).2.2 Z).2.2;rw[fJ h1]at D;have c0:=(u _ _ G).2.1.1;have d0:=(u _ _ hc).2.1.1;have a0:(part a #[.string k.1,.int B k.2] 0).run P w= .ok (.string k.1) w:=by
          have:=gF (P:=P) (w:=w) (M:=Mem.base) (N:=⟨fun _=>0,fun _=>0⟩) (U:=fun _=>True) (off:=0) (cs:=[.iv (.v (.string k.1)),.iv (.v (.int B k.2))]) (ys:= #[.string k.1,.int B k.2]) (u _ _ G) Z
            (fun j p x=>by match j with
              |0=>simp at x;subst x;exact .iv _ _ (.v _)
              |1=>simp at x;subst x;exact .iv _ _ (.v _)
              |j+2=>simp at x) (p:= .iv (.v (.string k.1))) (by simp[fz,TK.agg,iN])
          obtain⟨y,hy,C⟩:=this;cases C with
          |iv _ _ C=>cases C;exact hy
        have b0:(part c #[.string k.1,.int B k.2] 1).run P w= .ok (.int B k.2) w:=by
          have:=gF (P:=P) (w:=w) (M:=Mem.base) (N:=⟨fun _=>0,fun _=>0⟩) (U:=fun _=>True) (off:=1) (cs:=[.iv (.v (.string k.1)),.iv (.v (.int B k.2))]) (ys:= #[.string k.1,.int B k.2]) (u _ _ hc) Z
            (fun j p x=>by match j with
              |0=>simp at x;subst x;exact .iv _ _ (.v _)
              |1=>simp at x;subst x;exact .iv _ _ (.v _)
              |j+2=>simp at x) (p:= .iv (.v (.int B k.2))) (by simp[fz,TK.agg,iN])
          obtain⟨y,hy,C⟩:=this;cases C with
          |iv _ _ C=>cases C;exact hy
        obtain⟨F⟩:=F
        match F,A,D with
        | [],A,_=>simp at A
        | [_],A,_=>simp at A
        |_::_::_::_,A,_=>simp at A
        | [f,g],A,D=>
          simp at A;obtain⟨⟨h3,h4⟩,h5,h6⟩:=A;have hf:=D f (by simp);have hg:=D g (by simp);have ca:=run_checkKey (w:=w) c0 (k:= .string k.1) (by simp[IsKey]) b (n+4);have cc:=run_checkKey (w:=w) d0 (k:= .int B k.2) (by simp[IsKey]) b (n+4);unfold Instr.checkKey;simp[KC.ek,run_underlying h1,hf,hg,h3,h4,h5,h6,a0,b0,ca,cc]
      · cases hk
    · split at hk<;>cases hk
    · cases hk
  | fl s=>
    obtain⟨_,e,G,⟨e',R,_,_,_,J⟩,I⟩:=D3 u hk;have:e'=e:=Pl (R.symm.trans I);subst this;have:=J w (FK.vs s k) (jK s k) b n;rw[Nat.add_comm 6 n]at this;unfold Dt at this;rw[G]at this;exact this
theorem wm{a b:Value}(h:za a b=is):a=b:=by
  unfold za at h;split at h<;>simp_all
theorem wj: ∀{a b:List Value},tI a b=is->a=b
  | [],[],_=>rfl
  | x::r,y::q,h=>by
    simp only[tI,Pq]at h;rw[wm h.1,wj h.2]
  | [],_::_,h=>by simp[tI]at h
  |_::_,[],h=>by simp[tI]at h
theorem EU{a b:Value}(h:Ji a b=is):a=b:=by
  unfold Ji at h;split at h
  · have:=wj h
    congr 1;exact RC.1 this
  · exact wm h
theorem xu(u:bn P ty){t:TypeId}{ok:Bool}{V:Type}{e:V->IV}{z:V}{zv:Value}{m:List (kc.K×V)}{key p:PV}{C:Prop}(h:r7 ty t ok kc e z zv m key=co (p,C)){r:Nat}{ents:Array MapEntry}{clock:Nat}
    (hb:w.heap[r]? =co (.map ents clock)) (hm:ij M kc e m ents clock) (hz:IR M (e z) zv) {k:Value} (hk:VR M N U key k):
    C∧ ∃x,(Instr.lookup t (.map (co r)) k ok).run P w= .ok x w∧VR M N U p x:=by
  unfold r7 at h;split at h
  · rename_i kt et _ _ _ _ he
    have hu:=(u _ _ he).2.1.1;split at h
    · rename_i y ee B R
      split at h
      · rename_i k0 hd hv J
        have hd:=of_decide_eq_true hd;subst hd;have Y:=Ap J hk;subst Y;have hv:=EU hv;have b:=kP (P:=P) (w:=w) u B k0 hm.keys;have A:=js (P:=P) (w:=w) u B k0 ents.isEmpty 9994;have a0:=cU (P:=P) (w:=w) (u _ _ R);have hg:(getObj r).run P w= .ok (.map ents clock) w:=by simp[getObj,Sem.run,hb]
        have G: ∃v I,(Instr.lookup t (.map (co r)) (y.ek k0) ok).run P w= .ok (if ok then .tuple #[v,.bool I] else v) w∧I=cV y m k0∧IR M (e (dm y m k0 z)) v:=by
          cases hfi:iW y m k0 with
          | none=>
            obtain⟨g1,g2,_⟩:=mw hfi;rw[hfi]at b;refine⟨ee.zero,jp,?_,by rw[g2],by rw[g1,hv];exact hz⟩;simp[Instr.lookup,run_underlying hu,hg,A,b,a0]
          | some i=>
            obtain⟨v,g0,g1,g2,_⟩:=kg hfi;rw[hfi]at b;refine⟨(ents.toList.getD i ci).val,is,?_,by rw[g2],by rw[g1];exact hm.Nx g0⟩;simp[Instr.lookup,run_underlying hu,hg,A,b]
        obtain⟨v,I,h1,h2,h3⟩:=G;split at h
        · simp only[OA,OK]at h
          obtain⟨rfl,rfl⟩:=h;refine⟨ac,_,h1,.bh _ _ Z fun j q D=>?_⟩
          match j with
          |0=>simp at D;subst D;exact tZ h3
          |1=>simp at D;subst D;subst h2;exact .iv _ _ (.v _)
          |j+2=>simp at D
        · simp only[OA,OK]at h
          obtain⟨rfl,rfl⟩:=h;exact⟨ac,_,h1,tZ h3⟩
      · cases h
    · cases h
  · cases h
end
end
section
variable {P:Program} {ty:Ty} {M:Mem} {N:Nm} {w:World} {nt:NT} {s:AS} {a:Act}
theorem aW{x:Value}{m:Sem Value}(h:m.run P w= .ok x w):(do pure (.value (<-m)):Sem Next).run P w= .ok (.value x) w:=by
  rw[Sem.run_bind,h];rfl
theorem o6(D:bn P ty)(hf:Fits M N s nt a w){o:Oper}{p:PV}{C:Prop}(h:gj ty s o.op=co (p,C))(hC:C):
    ∃x,(execOp a.eval o).run P w= .ok (.value x) w∧VR M N (· <s.nx) p x:=by
  obtain⟨e0,B,_,_⟩:=hf;cases ho:o.op with
  | move x=>
    rw[ho]at h;simp only[gj,OA,OK]at h;obtain⟨rfl,rfl⟩:=h;exact⟨_,by simp only[execOp,ho];rfl,aG B x⟩
  | assign x=>
    rw[ho]at h;simp only[gj,OA,OK]at h;obtain⟨rfl,rfl⟩:=h;exact⟨_,by simp only[execOp,ho];rfl,aG B x⟩
  | pick c x y=>
    rw[ho]at h;simp only[gj]at h;have hc:=aG B c;split at h
    · rename_i J
      rw[J]at hc;simp only[OA,OK]at h;obtain⟨rfl,rfl⟩:=h;generalize R:a.eval c=v at hc;cases hc with
      |kb=>exact⟨_,by simp only[execOp,ho,R];simp[asBool],aG B x⟩
    · rename_i J
      rw[J]at hc;simp only[OA,OK]at h;obtain⟨rfl,rfl⟩:=h;generalize R:a.eval c=v at hc;cases hc with
      |kb=>exact⟨_,by simp only[execOp,ho,R];simp[asBool],aG B y⟩
    · cases h
  | load t x=>
    rw[ho]at h;simp only[gj]at h;split at h
    · rename_i e J
      split at h
      · rename_i cs hb
        split at h
        · rename_i q hq
          simp only[OA,OK]at h;obtain⟨rfl,rfl⟩:=h;obtain⟨b,o0,A,r0⟩:=uT e0 (aG B x) hb;obtain⟨y,hy,R⟩:=pZ (P:=P) (D t e J) r0 hq;exact⟨y,by simp only[execOp,ho];exact aW (by rw[A];simpa[Instr.loadAt,Instr.sureAddr]using hy),R⟩
        · cases h
      · cases h
    · cases h
  | nilCheck x=>
    rw[ho]at h;simp only[gj]at h;have A:=aG B x;split at h
    all_goals first
      |cases h;done
      | (rename_i J
         simp only[OA,OK]at h;obtain⟨rfl,rfl⟩:=h;rw[J]at A;refine⟨_,?_,A⟩;generalize R:a.eval x=v at A
         first
         |(cases A;simp only[execOp,ho,R];rfl)
         | (cases A with
            |iv _ _ A=>cases A;simp only[execOp,ho,R];rfl))
  | binOp op t x y t'=>
    rw[ho]at h;simp only[gj]at h;split at h
    · rename_i cs ds k0 w1
      have h1:=aG B x;have h2:=aG B y;rw[k0]at h1;rw[w1]at h2;obtain⟨_,z,hz,R⟩:=EI (P:=P) (w:=w) D (u:=x) (v:=y) h h1 h2;exact⟨z,by simp only[execOp,ho];exact aW hz,R⟩
    · obtain⟨z,hz,R⟩:=BT (P:=P) (w:=w) D (u:=x) (v:=y) h hC (aG B x) (aG B y)
      exact⟨z,by simp only[execOp,ho];exact aW hz,R⟩
  | unOp op t x=>
    rw[ho]at h;cases op with
    | not=>
      simp only[gj]at h;have A:=aG B x;split at h
      · rename_i J
        simp only[OA,OK]at h;obtain⟨rfl,rfl⟩:=h;rw[J]at A;generalize R:a.eval x=v at A;cases A with
        |kb=>exact⟨_,by simp only[execOp,ho,R];exact aW Z,.kb _⟩
      · rename_i J
        simp only[OA,OK]at h;obtain⟨rfl,rfl⟩:=h;rw[J]at A;generalize R:a.eval x=v at A;cases A with
        |kb=>exact⟨_,by simp only[execOp,ho,R];exact aW Z,.kb _⟩
      · rename_i J
        simp only[OA,OK]at h;obtain⟨rfl,rfl⟩:=h;rw[J]at A;cases A with
        | iv _ _ A=>generalize R:a.eval x=v at A;cases A with
          |v=>exact⟨_,by simp only[execOp,ho,R];exact aW Z,.iv _ _ (.v _)⟩
      · cases h
    |_=>simp[gj]at h
  | fieldAddr t x k=>
    rw[ho]at h;simp only[gj]at h;split at h
    · rename_i e J
      split at h
      · rename_i o0 u k1
        split at h
        · rename_i eu c0
          split at h
          · cases h
          · rename_i n hn
            split at h
            · rename_i q hq
              simp only[OA,OK]at h;obtain⟨rfl,rfl⟩:=h;obtain⟨F,fd,h1,h2,rfl,rfl⟩:=oK (D t e J) k1;obtain⟨b,o',A,R⟩:=Bd (aG B x) hq;refine⟨_,?_,R⟩;simp only[execOp,ho,A];refine aW ?_;have hs:=aO (w:=w) (D _ _ c0);simp[Instr.fieldAt,run_underlying h1,h2,Instr.sureAddr,fieldPlace,hs,hn,di]
            · cases h
        · cases h
      · cases h
    · cases h
  | field t x k=>
    rw[ho]at h;simp only[gj]at h;split at h
    · rename_i e J
      split at h
      · rename_i o0 u k1
        split at h
        · rename_i eu c0
          split at h
          · rename_i cs k0
            split at h
            · rename_i q hq
              simp only[OA,OK]at h;obtain⟨rfl,rfl⟩:=h;obtain⟨F,fd,h1,h2,rfl,rfl⟩:=oK (D t e J) k1;have A:=aG B x;rw[k0]at A;generalize R:a.eval x=v at A;cases A with
              | agg _ ys hl hr=>
                obtain⟨y,hy,k2⟩:=gF (P:=P) (w:=w) (D _ _ c0) hl hr hq;refine⟨y,?_,k2⟩;simp only[execOp,ho,R];refine aW ?_;simp[Instr.field,run_underlying h1,h2,asAgg,hy]
            · cases h
          · cases h
        · cases h
      · cases h
    · cases h
  | indexAddr t x i=>
    rw[ho]at h;simp only[gj]at h;split at h
    · rename_i u sz i0 z _ J
      have hu:P.underlying t=co (.slice u):=(D t _ J).2.1.1;split at h
      · rename_i eu c0
        split at h
        · rename_i k n hn
          have G:=aG B i;rw[hn]at G;have j0:a.eval i= .int k n:=by
            generalize a.eval i=v at G;cases G with
            | iv _ _ G=>cases G with
              |v=>rfl
          split at h
          · rename_i g0 m el A
            cases hb:O2 g0 eu.size with
            |false=>simp only[hb,cond_false]at h;cases h
            | true=>
              simp only[hb,cond_true]at h;have hs:=OU hb;subst hs;have I:=aG B x;rw[A]at I;obtain⟨y,hy,R⟩:=mS (P:=P) (k:=k) hu (D _ _ c0) I (.inl ⟨m,el,rfl⟩) h hC;exact⟨y,by simp only[execOp,ho,j0];exact aW hy,R⟩
          · rename_i j o0 len g0 A
            cases hb:O2 g0 eu.size with
            |false=>simp only[hb,cond_false]at h;cases h
            | true=>
              simp only[hb,cond_true]at h;have hs:=OU hb;subst hs;have I:=aG B x;rw[A]at I;obtain⟨y,hy,R⟩:=mS (P:=P) (k:=k) hu (D _ _ c0) I (.inr ⟨j,o0,len,rfl⟩) h hC;exact⟨y,by simp only[execOp,ho,j0];exact aW hy,R⟩
          · cases h
        · cases h
      · cases h
    · rename_i len u sz i0 z _ J
      have hu:P.underlying t=co (.array len u):=(D t _ J).2.1;split at h
      · rename_i eu c0
        split at h
        · rename_i k n hn
          have G:=aG B i;rw[hn]at G;have j0:a.eval i= .int k n:=by
            generalize a.eval i=v at G;cases G with
            | iv _ _ G=>cases G with
              |v=>rfl
          split at h
          · rename_i j o0 A
            simp only[OA,OK]at h;obtain⟨rfl,rfl⟩:=h;have I:=aG B x;rw[A]at I;generalize R:a.eval x=v at I;cases I with
            | ptr _ _ hU=>
              refine⟨.pointer (co ⟨N.az j,o0+n.toNat*eu.size,io⟩),?_,.ptr _ _ hU⟩;simp only[execOp,ho,j0,R];refine aW ?_;simp only[Instr.indexAt,asIntOf];simp[run_underlying hu,hC.1,hC.2,aO (D _ _ c0),di,Instr.sureAddr]
          · cases h
        · cases h
      · cases h
    · cases h
  | slice t x lo G mx=>
    rw[ho]at h;have d0: ∀(o:Operand) (k:IntKind) (n:Int),ev s.f o= .iv (.v (.int k n))->a.eval o= .int k n:=fun o k n J=>by
      have G:=aG B o;rw[J]at G;generalize a.eval o=v at G;cases G with
      | iv _ _ G=>cases G with
        |v=>rfl
    cases lo with
    | none=>
      cases G with
      |none=>simp only[gj]at h;cases h
      |some G=>
      cases mx with
      |none=>simp only[gj]at h;cases h
      |some mx=>
      simp only[gj]at h;split at h
      · rename_i u sz i0 z _ J
        have hu:P.underlying t=co (.slice u):=(D t _ J).2.1.1;split at h
        · rename_i eu c0
          split at h
          · rename_i kb nb a1
            split at h
            · rename_i kc nc d2
              split at h
              · rename_i g0 m el A
                cases hb:O2 g0 eu.size with
                |false=>simp only[hb,cond_false]at h;cases h
                | true=>
                  simp only[hb,cond_true]at h;have hs:=OU hb;subst hs;have I:=aG B x;rw[A]at I;have w0:=d0 G _ _ a1;have b2:=d0 mx _ _ d2;obtain⟨y,hy,R⟩:=yb (P:=P) (w:=w) (M:=M) (N:=N) (U:=(· <s.nx)) (kb:=kb) (kc:=kc) (nb:=nb) (nc:=nc) hu (D _ _ c0) I h hC;exact⟨y,by simp only[execOp,ho,w0,b2,PI,QR];exact aW hy,R⟩
              · cases h
            · cases h
          · cases h
        · cases h
      · cases h
    |some lo=>
    cases G with
    | none=>
      cases mx with
      |some mx=>simp only[gj]at h;cases h
      |none=>
      simp only[gj]at h;split at h
      · rename_i u sz i0 z _ J
        have hu:P.underlying t=co (.slice u):=(D t _ J).2.1.1;split at h
        · rename_i eu c0
          split at h
          · rename_i ka na x0
            split at h
            · rename_i g0 m el A
              cases hb:O2 g0 eu.size with
              |false=>simp only[hb,cond_false]at h;cases h
              | true=>
                simp only[hb,cond_true]at h;have hs:=OU hb;subst hs;have I:=aG B x;rw[A]at I;have v0:=d0 lo _ _ x0;obtain⟨y,hy,R⟩:=AR (P:=P) (w:=w) (M:=M) (N:=N) (U:=(· <s.nx)) (ka:=ka) (na:=na) hu (D _ _ c0) I h hC;exact⟨y,by simp only[execOp,ho,v0,PI,QR];exact aW hy,R⟩
            · cases h
          · cases h
        · cases h
      · cases h
    |some G=>
    cases mx with
    |some mx=>simp only[gj]at h;cases h
    |none=>
    simp only[gj]at h;split at h
    · rename_i u sz i0 z _ J
      have hu:P.underlying t=co (.slice u):=(D t _ J).2.1.1;split at h
      · rename_i eu c0
        split at h
        · rename_i ka na x0
          split at h
          · rename_i kb nb a1
            split at h
            · rename_i g0 m el A
              cases hb:O2 g0 eu.size with
              |false=>simp only[hb,cond_false]at h;cases h
              | true=>
                simp only[hb,cond_true]at h;have hs:=OU hb;subst hs;have I:=aG B x;rw[A]at I;have v0:=d0 lo _ _ x0;have w0:=d0 G _ _ a1;obtain⟨y,hy,R⟩:=AT (P:=P) (w:=w) (M:=M) (N:=N) (U:=(· <s.nx)) (ka:=ka) (kb:=kb) (na:=na) (nb:=nb) hu (D _ _ c0) I h hC;exact⟨y,by simp only[execOp,ho,v0,w0,PI,QR];exact aW hy,R⟩
            · cases h
          · cases h
        · cases h
      · cases h
    · rename_i sz i0 z _ J
      have hu:P.underlying t=co .string:=(D t _ J).2.1.1;split at h
      · rename_i ka na x0
        split at h
        · rename_i kb nb a1
          split at h
          · rename_i b A
            simp only[OA,OK]at h;obtain⟨rfl,rfl⟩:=h;have I:=aG B x;rw[A]at I;have o1:a.eval x= .string b:=by
              generalize a.eval x=v at I;cases I with
              | iv _ _ G=>cases G with
                |v=>rfl
            have v0:=d0 lo _ _ x0;have w0:=d0 G _ _ a1;refine⟨.string (b.extract na.toNat nb.toNat),?_,.iv _ _ (.v _)⟩;simp only[execOp,ho,v0,w0,o1,PI,QR];exact aW (wy hu hC)
          · cases h
        · cases h
      · cases h
    · cases h
  | convert t t' x=>
    rw[ho]at h;simp only[gj]at h;split at h
    · rename_i q0 o2 l2 z0 _ z1
      have j2:P.underlying t=co (.int q0):=(D t _ z1).2.1.1;split at h
      · rename_i k sz i0 z _ J
        have hu:P.underlying t'=co (.int k):=(D t' _ J).2.1.1;split at h
        · rename_i q n hn
          simp only[OA,OK]at h;obtain⟨rfl,rfl⟩:=h;have G:=aG B x;rw[hn]at G;have j0:a.eval x= .int q n:=by
            generalize a.eval x=v at G;cases G with
            | iv _ _ G=>cases G with
              |v=>rfl
          refine⟨_,?_,.iv _ _ (.v _)⟩;simp only[execOp,ho,j0];refine aW ?_;simp[convert,run_underlying j2,run_underlying hu,Conv.intToInt]
        · cases h
      · cases h
    · cases h
  | index t x i=>
    rw[ho]at h;simp only[gj]at h;split at h
    · rename_i sz i0 z _ J
      have hu:P.underlying t=co .string:=(D t _ J).2.1.1;split at h
      · rename_i k n hn
        split at h
        · rename_i b A
          simp only[OA,OK]at h;obtain⟨rfl,rfl⟩:=h;have G:=aG B i;rw[hn]at G;have j0:a.eval i= .int k n:=by
            generalize a.eval i=v at G;cases G with
            | iv _ _ G=>cases G with
              |v=>rfl
          have I:=aG B x;rw[A]at I;have o1:a.eval x= .string b:=by
            generalize a.eval x=v at I;cases I with
            | iv _ _ G=>cases G with
              |v=>rfl
          refine⟨_,?_,.iv _ _ (.v _)⟩;simp only[execOp,ho,j0,o1];refine aW ?_;have j1:n.toNat<b.size:=by omega
          have hg:b[n.toNat]? =co (b.data.toList.getD n.toNat 0):=by
            rw[getElem?_pos b n.toNat j1];have h0:n.toNat<b.data.size:=j1;have h1:b.data.toList.getD n.toNat 0=b.data[n.toNat]:=by
              rw[OC,O6,O4 h0];rfl
            rw[h1];rfl
          simp only[Instr.index,asIntOf];simp[run_underlying hu,hC.1,hg]
        · cases h
      · cases h
    · cases h
  | build t parts=>
    rw[ho]at h;simp only[gj]at h;split at h
    · rename_i e J
      split at h
      · rename_i fs hk
        split at h
        · rename_i pl i2
          split at h
          · rename_i cs k0
            rw[force_eq]at h;simp only[OA,OK]at h;obtain⟨rfl,rfl⟩:=h;have f0:=D t e J;have m0:=f0.2.1;rw[hk]at m0;obtain⟨F,h1,h2⟩:=m0;have hz:=cU (w:=w) f0
            obtain⟨r1,h3,h4⟩:=oI (M:=M) (N:=N) (U:=(· <s.nx)) (vals:=(parts.map fun x=>(x.1,a.eval x.2)).toList) k0 (by simp) (fun j x y A hy=>by
              rw[OH,OJ]at A;obtain⟨z,hz,rfl⟩:=A;have p1:parts[j]? =co z:=by simpa using hz
              have:co (z.1,a.eval z.2)=co y:=by rw[<-hy];simp[p1]
              simp only[OA]at this;subst this
              exact⟨rfl,aG B z.2⟩) (ei e.zero)
            refine⟨.agg r1,?_,.agg _ _ h4.1 h4.2⟩;simp only[execOp,ho];refine aW ?_;have l1: ∀(fl:List Field) (pl:List (Nat×Nat)),oj ty (fl.map fun f=>(f.offset,f.type))=co pl->(fl.mapM (fun f=>do pure (f.offset,<-sizeOf f.type):Field->Sem (Nat×Nat))).run P w= .ok pl w:=by
              intro fl
              induction fl with
              |nil=>intro pl hp;simp only[P9,oj,OA]at hp;subst hp;rfl
              | cons f fl ih=>
                intro pl hp;simp only[OZ,oj]at hp;split at hp
                · rename_i e' x1
                  split at hp
                  · rename_i l hl
                    simp only[OA]at hp;subst hp;rw[List.mapM_cons,Sem.run_bind,Sem.run_bind,aO (D _ _ x1),Result.andThen_ok,Sem.run_pure,Result.andThen_ok,Sem.run_bind,ih l hl];rfl
                  · cases hp
                · cases hp
            have hm:=l1 F.toList pl (by rw[h2];exact i2);have c2:(F.mapM (fun f=>do pure (f.offset,<-sizeOf f.type):Field->Sem (Nat×Nat))).run P w= .ok pl.toArray w:=by
              rw[Ru,Sem.run_map,hm];rfl
            have n0:(fun(i:Nat)=>pl.toArray[i]?)=(fun(i:Nat)=>pl[i]?):=by funext i;simp
            simp only[Instr.build,Sem.run_bind,hz,Result.andThen_ok,run_underlying h1,c2];rw[n0,h3];rfl
          · cases h
        · cases h
      · rename_i n u hk
        split at h
        · rename_i eu c0
          split at h
          · rename_i cs k0
            rw[force_eq]at h;simp only[OA,OK]at h;obtain⟨rfl,rfl⟩:=h;have f0:=D t e J;have m0:=f0.2.1;rw[hk]at m0;have hz:=cU (w:=w) f0
            obtain⟨r1,h3,h4⟩:=oI (M:=M) (N:=N) (U:=(· <s.nx)) (vals:=(parts.map fun x=>(x.1,a.eval x.2)).toList) k0 (by simp) (fun j x y A hy=>by
              rw[OH,OJ]at A;obtain⟨z,hz,rfl⟩:=A;have p1:parts[j]? =co z:=by simpa using hz
              have:co (z.1,a.eval z.2)=co y:=by rw[<-hy];simp[p1]
              simp only[OA]at this;subst this
              exact⟨rfl,aG B z.2⟩) (ei e.zero)
            refine⟨.agg r1,?_,.agg _ _ h4.1 h4.2⟩;simp only[execOp,ho];refine aW ?_;simp only[Instr.build,Sem.run_bind,hz,Result.andThen_ok,run_underlying m0,aO (D _ _ c0)];rw[h3];rfl
          · cases h
        · cases h
      · cases h
    · cases h
  | extract x k=>
    rw[ho]at h;simp only[gj]at h;split at h
    · rename_i cs k0
      split at h
      · rename_i q hq
        simp only[OA,OK]at h;obtain⟨rfl,rfl⟩:=h;have A:=aG B x;rw[k0]at A;generalize R:a.eval x=v at A;cases A with
        | bh _ ys hl hr=>
          have j1:k<ys.size:=by rw[<-hl];exact(OB.1 hq).1
          refine⟨ys.getD k undef,?_,hr _ _ hq⟩;simp only[execOp,ho,R];refine aW ?_;simp[Instr.extract,Oz,j1]
      · cases h
    · cases h
  | makeFunc fn first caps=>
    rw[ho]at h;simp only[gj,force_eq,OA,OK]at h;obtain⟨rfl,rfl⟩:=h;have h1:=Du B first;have h2:=Du B caps;exact⟨_,by simp only[execOp,ho];exact aW Z,.bX _ _ _ _ _ h1.1 h2.1 h1.2 h2.2⟩
  | call c=>
    obtain⟨callee,args,a0⟩:=c;rw[ho]at h;cases callee with
    | builtin b=>
      cases b with
      | len=>
        simp only[gj]at h;split at h
        · rename_i x t t1 n2
          have b0:args= #[x]:=by cases args;simp_all
          have n1:a0= #[t]:=by cases a0;simp_all
          subst b0 n1;have A:=aG B x;have p0: ∀v,(Builtin.len_ #[t] o.type #[a.eval x]).run P w= .ok v w->(execOp a.eval o).run P w= .ok (.value v) w:=by
            intro v R;simp only[execOp,ho,resolve];simp[invoke,builtin,R]
          split at h
          · rename_i u sz i0 z _ J
            have hu:P.underlying t=co (.slice u):=(D t _ J).2.1.1;split at h
            · rename_i g0 n el Y
              rw[Y]at A;simp only[tp,OA,OK]at h;obtain⟨rfl,rfl⟩:=h;refine⟨.int .i64 n,p0 _ ?_,.iv _ _ (.v _)⟩;generalize a.eval x=v at A;cases A with
              |iv _ _ G=>cases G<;>simp[Builtin.len_,run_underlying hu,goInt]
            · rename_i i o0 len g0 Y
              rw[Y]at A;simp only[tp,OA,OK]at h;obtain⟨rfl,rfl⟩:=h;refine⟨.int .i64 len,p0 _ ?_,.iv _ _ (.v _)⟩;generalize a.eval x=v at A;cases A<;>(simp[Builtin.len_,run_underlying hu,goInt];done)
            · rename_i Y
              rw[Y]at A;simp only[tp,OA,OK]at h;obtain⟨rfl,rfl⟩:=h;refine⟨.int .i64 0,p0 _ ?_,.iv _ _ (.v _)⟩;generalize a.eval x=v at A;cases A with
              |iv _ _ G=>cases G;simp[Builtin.len_,run_underlying hu,goInt]
            · cases h
          · rename_i sz i0 z _ J
            have hu:P.underlying t=co .string:=(D t _ J).2.1.1;split at h
            · rename_i b Y
              rw[Y]at A;simp only[tp,OA,OK]at h;obtain⟨rfl,rfl⟩:=h;refine⟨.int .i64 b.size,p0 _ ?_,.iv _ _ (.v _)⟩;generalize a.eval x=v at A;cases A with
              |iv _ _ G=>cases G;simp[Builtin.len_,run_underlying hu,goInt]
            · cases h
          · rename_i kt et sz i0 z _ J
            have hu:P.underlying t=co (.map kt et):=(D t _ J).2.1.1;have s0: ∀{r:Nat} {ents:Array MapEntry} {clock n:Nat},w.heap[r]? =co (.map ents clock)->ents.size=n->(Builtin.len_ #[t] o.type #[.map (co r)]).run P w= .ok (.int .i64 n) w:=by
              intro r ents clock n h1 h2;simp[Builtin.len_,run_underlying hu,goInt,getObj,Sem.run,h1,h2,Result.andThen]
            split at h
            · rename_i V f1 i1 z' s1 m' Y
              rw[Y]at A;simp only[OA,OK]at h;obtain⟨rfl,rfl⟩:=h;refine⟨.int .i64 m'.length,p0 _ ?_,.iv _ _ (.v _)⟩;generalize a.eval x=v at A;cases A with
              | iv _ _ G=>cases G with
                |dJ _ _ _ _ _ b ents clock hb hs=>exact s0 (e0.dR _ _ hb) hs
            · rename_i j Y
              rw[Y]at A;split at h
              · rename_i V f1 i1 z' s1 v1 m' hg
                simp only[OA,OK]at h;obtain⟨rfl,rfl⟩:=h;refine⟨.int .i64 m'.length,p0 _ ?_,.iv _ _ (.v _)⟩;obtain⟨ents,clock,h1,h2,h3⟩:=e0.obj _ _ hg;generalize a.eval x=v at A;cases A with
                |mp=>exact s0 h1 h2.size
              · cases h
            · cases h
          · cases h
        · cases h
      | max=>
        simp only[gj]at h;split at h
        · rename_i x y t1
          have b0:args= #[x,y]:=by cases args;simp_all
          subst b0;split at h
          · rename_i k n j m hn hm
            simp only[OA,OK]at h;obtain⟨rfl,rfl⟩:=h;have h1:=aG B x;have h2:=aG B y;rw[hn]at h1;rw[hm]at h2;have e1:a.eval x= .int k n:=by
              generalize a.eval x=v at h1;cases h1 with
              | iv _ _ G=>cases G with
                |v=>rfl
            have e2:a.eval y= .int j m:=by
              generalize a.eval y=v at h2;cases h2 with
              | iv _ _ G=>cases G with
                |v=>rfl
            have e3:(if m>n then m else n)=max n m:=by split<;>omega
            refine⟨.int k (max n m),?_,.iv _ _ (.v _)⟩;simp only[execOp,ho,resolve];simp[invoke,builtin,Builtin.max_,Builtin.max2,e1,e2,<-e3]
          · cases h
        · cases h
      | min=>
        simp only[gj]at h;split at h
        · rename_i x y t1
          have b0:args= #[x,y]:=by cases args;simp_all
          subst b0;split at h
          · rename_i k n j m hn hm
            simp only[OA,OK]at h;obtain⟨rfl,rfl⟩:=h;have h1:=aG B x;have h2:=aG B y;rw[hn]at h1;rw[hm]at h2;have e1:a.eval x= .int k n:=by
              generalize a.eval x=v at h1;cases h1 with
              | iv _ _ G=>cases G with
                |v=>rfl
            have e2:a.eval y= .int j m:=by
              generalize a.eval y=v at h2;cases h2 with
              | iv _ _ G=>cases G with
                |v=>rfl
            have e3:(if m<n then m else n)=min n m:=by split<;>omega
            refine⟨.int k (min n m),?_,.iv _ _ (.v _)⟩;simp only[execOp,ho,resolve];simp[invoke,builtin,Builtin.min_,Builtin.min2,e1,e2,<-e3]
          · cases h
        · cases h
      |_=>simp[gj]at h
    |_=>simp[gj]at h
  | lookup t x i ok=>
    rw[ho]at h;simp only[gj]at h;have A:=aG B x;have G:=aG B i;split at h
    · rename_i V f1 i1 z' s1 m' Y
      rw[Y]at A;generalize R:a.eval x=v at A;cases A with
      | iv _ _ hxi=>cases hxi with
        | dJ _ _ _ _ _ b ents clock hb hs m0 hv' hz j0 hc=>
          obtain⟨_,y,h1,h2⟩:=xu (P:=P) D h (e0.dR _ _ hb) ⟨hs,m0,hv',j0,hc⟩ hz G;exact⟨y,by simp only[execOp,ho,R];exact aW h1,h2⟩
    · rename_i j Y
      rw[Y]at A;split at h
      · rename_i V f1 i1 z' s1 v1 m' hg
        obtain⟨ents,clock,h1,h2,h3⟩:=e0.obj _ _ hg;generalize R:a.eval x=v at A;cases A with
        | mp=>
          obtain⟨_,y,g1,g2⟩:=xu (P:=P) D h h1 h2 h3 G;exact⟨y,by simp only[execOp,ho,R];exact aW g1,g2⟩
      · cases h
    · cases h
  | entry it=>
    rw[ho]at h;simp only[gj]at h;have A:=aG B it;split at h
    · rename_i i Y
      rw[Y]at A;split at h
      · rename_i V f1 i1 m' vs x' hg
        simp only[OA,OK]at h;obtain⟨rfl,rfl⟩:=h;obtain⟨b,ents,clock,q1,h1,h2,h3,h4,h5,h6,h7⟩:=(e0.obj _ _ hg).resolve_left fun hh=>nomatch hh.2.2.1;obtain⟨j,r,rfl,h8⟩:=h7 x' Z;generalize R:a.eval it=v at A
        cases A with
        | ptr=>
          have hj:j<ents.size:=by rw[h3.size];exact(OB.1 h8).1
          have a2:ents.getD j ci=ents[j]:=by simp[Oz,hj]
          have b1:q1=(r.reverse.map fun j=>(ents.getD j ci).born).toArray.push (ents[j]).born:=by
            apply RC.1;rw[h4];simp[hj]
          rw[b1]at h1;have f2:(ents.toList.map (·.born)).Nodup:=by
            rw[List.nodup_iff_pairwise_ne,PL];intro p q hp hq m2 J;simp at hp hq J;have:=h3.inj p q ents[p] ents[q] (by simp[hp]) (by simp[hq]) J;omega
          have m1:=run_entry_at (P:=P) w (N.az i) b clock _ ents clock ents[j] h1 (e0.dR _ _ h2) (by simp) f2;refine⟨_,by simp only[execOp,ho,R];exact aW m1,.bh _ _ Z fun q p hp=>?_⟩;have t0:=h3.key j _ h8;have d1:=h3.val j _ h8;rw[a2]at t0 d1
          match q with
          |0=>simp at hp;subst hp;simp only[Oz];simp;rw[t0];exact ue f1 _
          |1=>simp at hp;subst hp;exact tZ d1
          |q+2=>simp at hp
      · cases h
    · cases h
  |_=>rw[ho]at h;simp[gj]at h
end
abbrev AQ:=Exit->AS->Prop
def ln(nt:NT)(M:Mem)(N:Nm)(s:AS)(w:World)(Q:AQ):Exit->Act->World->Prop:=fun e u w'=>
 ∃b j s',Ext M N (· <s.nx) s.h w b j (· <s'.nx) s'.h w'∧Fits b j s' nt u w'∧Q e s'
theorem ln.later{nt:NT}{M b:Mem}{N j:Nm}{s s':AS}{w w':World}{Q:AQ}{e:Exit}{a:Act}{u:World}
  (x:Ext M N (· <s.nx) s.h w b j (· <s'.nx) s'.h w') (h:ln nt b j s' w' Q e a u):ln nt M N s w Q e a u:=by
 obtain⟨y,A,D,h1,B,C⟩:=h;exact⟨y,A,D,x.trans h1,B,C⟩
theorem ln.now{nt:NT}{M:Mem}{N:Nm}{s:AS}{w:World}{Q:AQ}{e:Exit}{a:Act}(hf:Fits M N s nt a w)(h:Q e s):ln nt M N s w Q e a w:=
 ⟨M,N,s,.refl _ _ _ _ _,hf,h⟩
def AW(P:Program)(nt:NT)(c:Code)(Q:AQ)(s:AS):Prop:= ∀M N a w,Fits M N s nt a w->c.wp P (ln nt M N s w Q) a w
def AL(P:Program)(nt:NT)(all rest:List Oper)(Q:AQ)(s:AS):Prop:= ∀M N a w,Fits M N s nt a w->wpList P all.toArray (ln nt M N s w Q) rest a w
def SL(P:Program)(nt:NT)(all rest:List Oper)(Q:AQ)(s:AS):Prop:= ∀M N a w,Fits M N s nt a w->
 wpStill P all.toArray w (fun b=> ∃s',s'.h=s.h∧s'.nx=s.nx∧Fits M N s' nt b w∧Q .normal s') rest a
def waits(o:Oper)(i:Nat):Bool:=o.after.toList.any fun e=>Region.binds .any e&&O2 e.on i
def looks(all:List Oper)(o x:Oper):Bool:=match x.dst with
 |some d=>(o.looksAt all.toArray).contains d
 |none=>jp
def fZ:Nat->List Oper->Bool
 |_,[]=>is
 |n,o::r=>(o.after.toList.all fun e=>!Region.binds .any e||O1 e.on n)&&fZ (n+1) r
structure Bs where
 M:Mem
 N:Nm
 n:Nat
 h:AH
 w:World
def Bs.ext(B:Bs)(M:Mem)(N:Nm)(s:AS)(w:World):Prop:=Ext B.M B.N (· <B.n) B.h B.w M N (· <s.nx) s.h w
def Jd(nt:NT)(B:Bs)(Q:AQ):Exit->Act->World->Prop:=fun e u w'=> ∃b j s',B.ext b j s' w'∧Fits b j s' nt u w'∧Q e s'
def aN(o:Oper):Bool:=match o.op with
 | .alloc _=>is
 |_=>jp
def mY(P:Program)(M:Mem)(N:Nm)(s:AS)(B:Bs)(a:Act)(w:World)(o:Oper)(az:Nat):Prop:=
 ∃t v d,o.op= .alloc t∧(∀w,(zeroValue t).run P w= .ok v w)∧o.dst=co d∧a.tmps[d]? =co (.pointer (co ⟨az,0,io⟩))∧w.heap[az]? =co (.cells v.cells t (0,0))∧M az=io∧
  (∀i o,s.h.get i=co o->o.real=is->N.az i≠az)∧B.w.heap.size<=az
structure k9 (P:Program) (nt:NT) (all:List Oper) (todo pend:List (Nat×Oper)) (B:Bs) (M:Mem) (N:Nm) (s:AS) (listed:Array Bool) (a:Act) (w:World):Prop where
 size:listed.size=all.length
 tl: ∀x∈todo,all[x.1]? =co x.2
 pl: ∀x∈pend,all[x.1]? =co x.2
 dj: ∀x∈pend,∀y∈todo,y.1≠x.1
 Hq: ∀i o,all[i]? =co o->listed.getD i is=jp->(i,o)∈todo∨(i,o)∈pend
 pw:pend.Pairwise fun x y=>looks all y.2 x.2=jp∧ ∀d,x.2.dst=co d->y.2.dst≠co d
 pp: ∀x∈pend,∀y∈pend,waits y.2 x.1=is∨looks all y.2 x.2=jp
 pa: ∀y∈pend,∀x∈todo,aN x.2=is->waits y.2 x.1=jp
 er: ∃bl:Nat->Nat,(∀x∈todo,listed.getD x.1 is=is->mY P M N s B a w x.2 (bl x.1))∧ ∀x∈todo,∀y∈todo,listed.getD x.1 is=is->listed.getD y.1 is=is->x.1≠y.1->bl x.1≠bl y.1
 ap: ∃b:Act,Fits M N s nt b w∧a.tmps.size=b.tmps.size∧a.defers=b.defers∧
  (∀d,(∀x∈pend,listed.getD x.1 is=jp->x.2.dst≠co d)->(∀x∈todo,listed.getD x.1 is=is->x.2.dst≠co d)->a.tmps[d]? =b.tmps[d]?)∧
  (∀x∈pend,listed.getD x.1 is=jp-> ∃v,YieldsAt P all.toArray w x.2 v b∧b.put x.2.dst v=b)
def hQ(P:Program)(nt:NT)(all:List Oper):Prop:= ∀i o,all[i]? =co o->aN o=is->
 o.guard=io∧(∃d,o.dst=co d∧d<nt)∧(∃t v,o.op= .alloc t∧ ∀w,(zeroValue t).run P w= .ok v w)∧(∀k,waits o k=jp)∧
 ∀k q,all[k]? =co q->k≠i->(waits q i=is∨looks all q o=jp)∧ ∀d,o.dst=co d->q.dst≠co d
def DL(P:Program)(nt:NT)(all:List Oper)(todo pend:List (Nat×Oper))(Q:AQ)(s:AS):Prop:=
 Region.noSelect all.toArray=is->fZ 0 all=is->hQ P nt all-> ∀B M N listed a w b,B.ext M N s w->k9 P nt all todo pend B M N s listed a w->listed.toList.count jp<=b->wpAny P .any all.toArray (Jd nt B Q) b listed a w
def putDst(nt:NT)(o:Oper)(p:PV)(s:AS):Option AS:=
 match o.dst with
 |none=>co s
 |some d=>bif O1 d nt then(match s with|⟨f,h,n⟩=>sA p fun b=>co ⟨(d,b)::f,h,n⟩) else io
theorem eM{nt:NT}{o:Oper}{p:PV}{s s':AS}(h:putDst nt o p s=co s')(hd:o.dst=io):s'=s:=by
 simp only[putDst,hd,OA]at h;exact h.symm
theorem eL{nt:NT}{o:Oper}{p:PV}{s s':AS}(h:putDst nt o p s=co s'){d:Nat}(hd:o.dst=co d):d<nt∧s'={s with f:=(d,p)::s.f}:=by
 simp only[putDst,hd]at h;cases hb:O1 d nt with
 |false=>simp[hb]at h
 |true=>
  obtain⟨f,hh,n⟩:=s;simp only[hb,cond_true,c5,OA]at h;exact⟨Oy hb,h.symm⟩
def eB(P:Program)(nt:NT)(all:List Oper)(s:AS)(o:Oper):Prop:=
 ∀M N b w,Fits M N s nt b w-> ∃v,YieldsAt P all.toArray w o v b∧Fits M N s nt (b.put o.dst v) w
def aX(pend:List (Nat×Oper))(o:Oper):List (Nat×Oper):=pend.filter fun x=>!waits o x.1
def UA(P:Program)(nt:NT)(b:Code)(Q:AQ):Nat->AS->Prop
 |0,_=>False
 |n+1,s=>AW P nt b (fun e s'=>match e with| .normal=>UA P nt b Q n s'|e=>Q e s') s
inductive KI where
 |code (c:Code)
 |az (id:Nat)
 |ops (all rest:List Oper)
 |lp (R:AS->Prop)
 |qx (all rest:List Oper)
 |bR (all:List Oper) (todo pend:List (Nat×Oper))
 |AE (b:Code) (n:Nat)
 |BW
 |Hj (nt:NT) (f:AF) (res:AS->Option PV) (o:Oper) (all rest:List Oper)
 |Hk (nt:NT) (f:AF) (res:AS->Option PV) (j:Nat) (o:Oper) (all:List Oper) (todo pend:List (Nat×Oper))
def kp(P:Program):NT->List KI->AQ->AQ
 |_,[],Q=>Q
 |nt,.code c::k,Q=>fun e s=>match e with| .normal=>AW P nt c (kp P nt k Q) s|e=>kp P nt k Q e s
 |nt,.ops all rest::k,Q=>fun e s=>match e with| .normal=>AL P nt all rest (kp P nt k Q) s|e=>kp P nt k Q e s
 |nt,.qx all rest::k,Q=>fun e s=>match e with| .normal=>SL P nt all rest (kp P nt k Q) s|e=>kp P nt k Q e s
 |nt,.bR all todo pend::k,Q=>fun e s=>match e with| .normal=>DL P nt all todo pend (kp P nt k Q) s|e=>kp P nt k Q e s
 |nt,.lp R::k,Q=>fun e s=>match e with| .normal=>R s|e=>kp P nt k Q e s
 |nt,.az id::k,Q=>fun e s=>match e with| .exit j=>if j=id then kp P nt k Q .normal s else kp P nt k Q (.exit j) s|e=>kp P nt k Q e s
 |nt,.AE b n::k,Q=>fun e s=>match e with| .normal=>UA P nt b (kp P nt k Q) n s|e=>kp P nt k Q e s
 |nt,.BW::k,Q=>fun e s=>match e with| .goto _=>False|e=>kp P nt k Q e s
 |_,.Hj nt f res o all rest::k,Q=>fun e s=>(e= .normal∨e= .ret)∧ ∃r s',res s=co r∧putDst nt o r ⟨f,s.h,s.nx⟩=co s'∧AL P nt all rest (kp P nt k Q) s'
 | _,.Hk nt f res j o all todo pend::k,Q=>fun e s=>(e= .normal∨e= .ret)∧ ∃r s',res s=co r∧putDst nt o r ⟨f,s.h,s.nx⟩=co s'∧
   (∀x∈aX pend o,eB P nt all s' x.2)∧DL P nt all (todo.filter fun x=>!O2 x.1 j) (aX pend o) (kp P nt k Q) s'
def GO(P:Program)(nt:NT)(k:List KI)(Q:AQ)(s:AS):Prop:=kp P nt k Q .normal s
section
variable {P:Program} {nt:NT} {Q:AQ} {k:List KI} {s:AS}
theorem AW.then{c:Code}{R:AQ}(h:AW P nt c R s){M:Mem}{N:Nm}{a:Act}{w:World}(hf:Fits M N s nt a w){Z:Exit->Act->World->Prop}
  (x: ∀e u w' b j s',Ext M N (· <s.nx) s.h w b j (· <s'.nx) s'.h w'->Fits b j s' nt u w'->R e s'->Z e u w'):c.wp P Z a w:=
 wp_mono (h M N a w hf) fun e u w' ⟨b,j,s',h1,h2,h3⟩=>x e u w' b j s' h1 h2 h3
theorem go_skip(h:GO P nt k Q s):GO P nt (.code .skip::k) Q s:=fun _ _ _ _ b=>wp_skip (.now b h)
theorem DR{l:Nat}(h:GO P nt k Q s):GO P nt (.code (.label l)::k) Q s:=fun _ _ _ _ b=>wp_label (.now b h)
theorem go_ret(h:kp P nt k Q .ret s):GO P nt (.code .ret::k) Q s:=fun _ _ _ _ b=>wp_ret (.now b h)
theorem Hc{id:Nat}(h:kp P nt k Q (.exit id) s):GO P nt (.code (.exit id)::k) Q s:=fun _ _ _ _ b=>wp_exit (.now b h)
theorem DP{c:Code}(h:GO P nt (.code c:: .BW::k) Q s):GO P nt (.code (.scope c)::k) Q s:=by
 intro M N a w y;refine wp_scope_straight (AW.then h y fun e B w' u x s' A b j=>?_);cases e with
 |goto l=>exact j
 |_=>exact⟨u,x,s',A,b,j⟩
theorem KU{id:Nat}(h:GO P nt k Q s):GO P nt (.az id::k) Q s:=h
theorem KR{x y:Code}(h:GO P nt (.code x:: .code y::k) Q s):GO P nt (.code (.seq x y)::k) Q s:=by
 intro M N a w R;refine wp_seq (AW.then h R fun e a' w' D I s' C b B=>?_);cases e with
 |normal=>exact AW.then B b fun e a2 w2 G J Y A j u=>⟨G,J,Y,C.trans A,j,u⟩
 |_=>exact⟨D,I,s',C,b,B⟩
theorem DV{id:Nat}{x:Code}(h:GO P nt (.code x:: .az id::k) Q s):GO P nt (.code (.block id x)::k) Q s:=by
 intro M N a w D;refine wp_block (AW.then h D fun e G w' y A s' C b u=>?_);cases e with
 |exit j=>
  simp only[kp]at u;simp only[Exit.inBlock];split
  .rename_i B;rw[am B]at u;exact⟨y,A,s',C,b,u⟩
  .rename_i B;rw[be B]at u;exact⟨y,A,s',C,b,u⟩
 |_=>exact⟨y,A,s',C,b,u⟩
theorem go_region{id:Nat}{ops:Array Oper}(h:GO P nt (.ops ops.toList ops.toList::k) Q s):GO P nt (.code (.region id ops jp)::k) Q s:=by
 intro M N a w b;refine wp_region_list ?_;have:=h M N a w b;simpa using this
theorem yK{all:List Oper}(h:GO P nt k Q s):GO P nt (.ops all []::k) Q s:=fun _ _ _ _ b=>wpList_nil (ln.now b h)
theorem Fits.bool{M:Mem}{N:Nm}{a:Act}{w:World}(hf:Fits M N s nt a w){c:Operand}{t:Bool}(hc:ev s.f c= .iv (.v (.bool t))):a.eval c= .bool t:=by
 have h:=aG hf.2.1 c;rw[hc]at h;generalize a.eval c=v at h;cases h with
 |iv _ _ h=>cases h with
  |v=>rfl
theorem Fits.put{M:Mem}{N:Nm}{a:Act}{w:World}(hf:Fits M N s nt a w)(d:Nat)(p:PV)(x:Value)(hd:d<nt)(hp:VR M N (· <s.nx) p x):Fits M N {s with f:=(d,p)::s.f} nt (a.put (co d) x) w:=
 ⟨hf.1,hf.2.1.put d p x (by rw[hf.2.2.2];exact hd) hp,hf.2.2.1,by simp[Act.put,hf.2.2.2]⟩
def setBool(s:AS)(c:Operand)(t:Bool):AS:=
 match c with
 | .tmp d=>match s with
  |⟨f,h,n⟩=>⟨(d,.kb t)::f,h,n⟩
 |_=>s
theorem Fits.setBool{M:Mem}{N:Nm}{a:Act}{w:World}(hf:Fits M N s nt a w){c:Operand}{t:Bool}(hc:ev s.f c= .iv (.v (.bool t))):Fits M N (setBool s c t) nt a w:=by
 cases c with
 |tmp d=>
  refine⟨hf.1,fun j=>?_,hf.2.2⟩;simp only[Al.setBool,AF.au];split
  .rename_i b;subst b;have:=hf.bool (c:= .tmp j) hc;simp only[Act.eval]at this;rw[this];exact .kb _
  .exact hf.2.1 j
 |_=>exact hf
theorem sw{c:Operand}{x y:Code}{t:Bool}(hc:ev s.f c= .kb t)(h:GO P nt (.code (bif t then x else y)::k) Q s):GO P nt (.code (.cond c x y)::k) Q s:=by
 intro M N a w b;have hb:a.eval c= .bool t:=by
  have:=aG b.2.1 c;rw[hc]at this;generalize a.eval c=v at this;cases this;rfl
 refine wp_cond hb ?_;cases t
 .exact h M N a w b
 .exact h M N a w b
theorem Hf{c:Operand}{x y:Code}{t:Bool}(hc:ev s.f c= .iv (.v (.bool t)))(h1:t=is->GO P nt (.code x::k) Q (setBool s c is))(J:t=jp->GO P nt (.code y::k) Q (setBool s c jp)):
  GO P nt (.code (.cond c x y)::k) Q s:=by
 intro M N a w I;have A:=I.setBool hc;refine wp_cond_split (I.bool hc) (fun D=>?_) (fun D=>?_)
 .subst D;exact AW.then (h1 Z) A fun e a2 R B C G u b j=>⟨B,C,G,by cases c<;>exact u,b,j⟩
 .subst D;exact AW.then (J Z) A fun e a2 R B C G u b j=>⟨B,C,G,by cases c<;>exact u,b,j⟩
theorem oy{Q b:Exit->Act->World->Prop}(j: ∀e a w,Q e a w->b e a w)(h:LetsOut Q):LetsOut b:=let ⟨a,w,x⟩:=h;⟨a,w,j _ _ _ x⟩
theorem xk{o:Oper}{a:Act}{w:World}{K K':Act->World->Prop}{Q u:Exit->Act->World->Prop}(h: ∀a w,K a w->K' a w)(j: ∀e a w,Q e a w->u e a w)(hh:o.wp P a w K Q):o.wp P a w K' u:=by
 unfold Oper.wp at*
 generalize(execOp a.eval o).run P w=r at*
 cases r with
 |ok n w'=>
  cases n<;>simp only[Oper.upon]at hh ⊢ <;>
   first
    |exact h _ _ hh
    |exact Calls.mono hh (fun e y b=>by cases e<;>first|exact h _ _ b|exact oy j b|exact j _ _ _ b)
    |exact Rows.mono hh (fun _ _ b=>h _ _ b)
 |halt x w'=>cases x<;>simp only[Oper.upon]at hh ⊢ <;>exact j _ _ _ hh
theorem eD{ops:Array Oper}{Q u:Exit->Act->World->Prop}(b: ∀e a w,Q e a w->u e a w): ∀(l:List Oper) (a:Act) (w:World),wpList P ops Q l a w->wpList P ops u l a w
 | [],_,_,h=>b _ _ _ h
 |o::r,a,w,h=>by
  unfold wpList at*
  split
  .rename_i j;rw[am j]at h;exact h.imp (xk (eD b r) b) (fun⟨h1,h2⟩=>⟨h1,oy b h2⟩)
  .rename_i j;rw[be j]at h;exact eD b r _ _ h
theorem AL.later{all rest:List Oper}(h:AL P nt all rest Q s){M b:Mem}{N j:Nm}{s0:AS}{a:Act}{w u:World}(x:Ext b j (· <s0.nx) s0.h u M N (· <s.nx) s.h w)(hf:Fits M N s nt a w):
  wpList P all.toArray (ln nt b j s0 u Q) rest a w:=
 eD (fun _ _ _=>ln.later x) rest a w (h M N a w hf)
def OT(P:Program)(nt:NT)(o:Oper)(s:AS)(R:AS->Prop):Prop:=
 ∀M N a w,Fits M N s nt a w-> ∀(K:Act->World->Prop) (Q:Exit->Act->World->Prop),
  (∀b j s' u w',Ext M N (· <s.nx) s.h w b j (· <s'.nx) s'.h w'->Fits b j s' nt u w'->R s'->K u w')->o.wp P a w K Q
theorem fH{o:Oper}(h:o.guard=io)(y:Nat->Option Bool):Region.wanted o y=is:=by simp[Region.wanted,h]
theorem cG{all rest:List Oper}{o:Oper}{R:AS->Prop}(hg:o.guard=io)(ho:OT P nt o s R)(h: ∀s',R s'->GO P nt (.ops all rest::k) Q s'):GO P nt (.ops all (o::rest)::k) Q s:=by
 intro M N a w j;unfold wpList;rw[am (fH hg _)];refine .inl (ho M N a w j _ _ fun y A s' B w' x b u=>?_);exact AL.later (h s' u) x b
def guardOf(all:List Oper)(f:AF)(j:Nat):Option (Nat×PV):=
 match all[j]? with
 |some o=>match o.dst with
  |some d=>co (d,f.get d)
  |none=>io
 |none=>io
theorem Fits.yielded{M:Mem}{N:Nm}{a:Act}{w:World}(hf:Fits M N s nt a w){all:List Oper}{j d:Nat}{t:Bool}(hg:guardOf all s.f j=co (d,.iv (.v (.bool t))))(hd:d<nt):Go.yielded all.toArray a.tmps j=co t:=by
 unfold guardOf at hg;cases ho:all[j]? with
 |none=>simp[ho]at hg
 |some o=>
  cases hod:o.dst with
  |none=>simp[ho,hod]at hg
  |some d'=>
   simp only[ho,hod,OA,OK]at hg;obtain⟨rfl,A⟩:=hg;have h1:=hf.2.1 d';rw[A]at h1;have b:d'<a.tmps.size:=by rw[hf.2.2.2];exact hd
   have u:a.tmps[d']? =co (a.tmps.getD d' undef):=by simp[Oz,b]
   have x:a.tmps.getD d' undef= .bool t:=by
    generalize a.tmps.getD d' undef=v at h1;cases h1 with
    |iv _ _ h=>cases h with
     |v=>rfl
   have y:all.toArray[j]? =co o:=by simpa using ho
   simp[Go.yielded,y,hod,u,x]
def fw(o:Oper)(s:AS):AS:=
 match o.dst with
 |some e=>match s with
  |⟨f,h,n⟩=>⟨(e,.iv (.v (.tuple #[])))::f,h,n⟩
 |none=>s
theorem Fits.skip{M:Mem}{N:Nm}{a:Act}{w:World}(hf:Fits M N s nt a w)(o:Oper):Fits M N (fw o s) nt (a.put o.dst undef) w:=by
 unfold fw;cases o.dst with
 |none=>exact hf
 |some e=>
  refine⟨hf.1,fun i=>?_,hf.2.2.1,by simp[Act.put,hf.2.2.2]⟩;simp only[AF.au];by_cases b:i=e
  .rw[am b];subst b;have:(a.put (co i) undef).tmps.getD i undef=undef:=by
    simp only[Act.put,Oz,O5,if_true];split<;>rfl
   rw[this];exact .iv _ _ (.v _)
  .rw[be b];have:=hf.2.1 i;simp only[Act.put,Oz,O5]at this ⊢;rw[be (fun e=>b e.symm)];exact this
theorem gB(o:Oper)(s:AS):(fw o s).h=s.h∧(fw o s).nx=s.nx:=by unfold fw;cases o.dst<;>exact⟨rfl,rfl⟩
theorem im(c:Operand)(t:Bool)(s:AS):(setBool s c t).h=s.h∧(setBool s c t).nx=s.nx:=by cases c<;>exact⟨rfl,rfl⟩
theorem AL.same{all rest:List Oper}{s':AS}(h:AL P nt all rest Q s')(e:s'.h=s.h∧s'.nx=s.nx){M:Mem}{N:Nm}{a:Act}{w:World}(hf:Fits M N s' nt a w):
  wpList P all.toArray (ln nt M N s w Q) rest a w:=by
 have:=h M N a w hf;refine eD (fun j b w' ⟨M2,N2,s2,h1,h2,h3⟩=>⟨M2,N2,s2,?_,h2,h3⟩) rest a w this;rw[e.1,e.2]at h1;exact h1
theorem Fits.rf{M:Mem}{N:Nm}{a:Act}{w:World}(hf:Fits M N s nt a w){all:List Oper}{j d:Nat}{t:Bool}(hg:guardOf all s.f j=co (d,.kb t))(hd:d<nt):Go.yielded all.toArray a.tmps j=co t:=by
 unfold guardOf at hg;cases ho:all[j]? with
 |none=>simp[ho]at hg
 |some o=>
  cases hod:o.dst with
  |none=>simp[ho,hod]at hg
  |some d'=>
   simp only[ho,hod,OA,OK]at hg;obtain⟨rfl,A⟩:=hg;have h1:=hf.2.1 d';rw[A]at h1;have b:d'<a.tmps.size:=by rw[hf.2.2.2];exact hd
   have u:a.tmps[d']? =co (a.tmps.getD d' undef):=by simp[Oz,b]
   have x:a.tmps.getD d' undef= .bool t:=by
    generalize a.tmps.getD d' undef=v at h1;cases h1;rfl
   have y:all.toArray[j]? =co o:=by simpa using ho
   simp[Go.yielded,y,hod,u,x]
theorem Fits.re{M:Mem}{N:Nm}{a:Act}{w:World}(hf:Fits M N s nt a w){all:List Oper}{j d:Nat}{vs:Array Value}(hg:guardOf all s.f j=co (d,.iv (.v (.tuple vs)))):Go.yielded all.toArray a.tmps j=io:=by
 unfold guardOf at hg;cases ho:all[j]? with
 |none=>simp[ho]at hg
 |some o=>
  cases hod:o.dst with
  |none=>simp[ho,hod]at hg
  |some d'=>
   simp only[ho,hod,OA,OK]at hg;obtain⟨rfl,x⟩:=hg;have h1:=hf.2.1 d';rw[x]at h1;have b:a.tmps.getD d' undef= .tuple vs:=by
    generalize a.tmps.getD d' undef=v at h1;cases h1 with
    |iv _ _ h=>cases h with
     |v=>rfl
   have u:all.toArray[j]? =co o:=by simpa using ho
   rw[Oz]at b;cases h5:a.tmps[d']? with
   |none=>simp[Go.yielded,u,hod,h5]
   |some v=>
    rw[h5]at b;simp only[PA]at b;subst b;simp[Go.yielded,u,hod,h5]
theorem xH{all rest:List Oper}{o:Oper}{j d:Nat}{b:Bool}{vs:Array Value}(hg:o.guard=co (j,b))(A:guardOf all s.f j=co (d,.iv (.v (.tuple vs))))(h:GO P nt (.ops all rest::k) Q (fw o s)):GO P nt (.ops all (o::rest)::k) Q s:=by
 intro M N a w x;have u:=x.re A;unfold wpList;have y:Region.wanted o (Go.yielded all.toArray a.tmps)=jp:=by simp[Region.wanted,hg,u]
 rw[y,be (by simp)];exact AL.same (s:=s) h (gB _ _) (x.skip o)
theorem xI{all rest:List Oper}{o:Oper}{j d:Nat}{b t:Bool}(hg:o.guard=co (j,b))(B:guardOf all s.f j=co (d,.kb t))(hd:d<nt)
  (h:GO P nt (.ops all (bif t==b then{o with guard:=io}::rest else rest)::k) Q (bif t==b then s else fw o s)):GO P nt (.ops all (o::rest)::k) Q s:=by
 intro M N a w y;have u:=y.rf B hd;unfold wpList;by_cases x:t=b
 .have A:Region.wanted o (Go.yielded all.toArray a.tmps)=is:=by simp[Region.wanted,hg,u,x]
  have hb:(t==b)=is:=by simp[x]
  rw[am A];rw[hb]at h;have:=h M N a w y;simp only[cond_true]at this;unfold wpList at this;rw[am (fH Z _)]at this;exact this
 .have A:Region.wanted o (Go.yielded all.toArray a.tmps)=jp:=by simp[Region.wanted,hg,u,x]
  have hb:(t==b)=jp:=by simp[x]
  rw[A,be (by simp)];rw[hb]at h;exact AL.same (s:=s) h (gB _ _) (y.skip o)
theorem DS{all rest:List Oper}{o:Oper}{j d:Nat}{b t:Bool}(hg:o.guard=co (j,b))(x:guardOf all s.f j=co (d,.iv (.v (.bool t))))(hd:d<nt)
  (h1:t=b->GO P nt (.ops all ({o with guard:=io}::rest)::k) Q (setBool s (.tmp d) b)) (I:t=!b->GO P nt (.ops all rest::k) Q (fw o (setBool s (.tmp d) (!b)))):
  GO P nt (.ops all (o::rest)::k) Q s:=by
 intro M N a w G;have A:=G.yielded x hd;have C:ev s.f (.tmp d)= .iv (.v (.bool t)):=by
  unfold guardOf at x;cases ho:all[j]? with
  |none=>simp[ho]at x
  |some o'=>
   cases hod:o'.dst with
   |none=>simp[ho,hod]at x
   |some d'=>
    simp only[ho,hod,OA,OK]at x;obtain⟨rfl,J⟩:=x;exact J
 have u:=G.setBool C;unfold wpList;by_cases B:t=b
 .have D:Region.wanted o (Go.yielded all.toArray a.tmps)=is:=by simp[Region.wanted,hg,A,B]
  rw[am D];rw[B]at u;have:=AL.same (s:=s) (h1 B) (im _ _ _) u;unfold wpList at this;rw[am (fH Z _)]at this;exact this
 .have D:Region.wanted o (Go.yielded all.toArray a.tmps)=jp:=by simp[Region.wanted,hg,A,B]
  have y:t=!b:=by cases t<;>cases b<;>simp_all
  rw[D,be (by simp)];rw[y]at u;exact AL.same (s:=s) (I y) ⟨(gB _ _).1.trans (im _ _ _).1,(gB _ _).2.trans (im _ _ _).2⟩ (u.skip o)
end
section
variable {P:Program} {nt:NT} {Q:AQ} {k:List KI} {s:AS}
theorem Rel.drew{M:Mem}{N:Nm}{U:Nat->Prop}{h:AH}{w:World}(hr:Rel M N U h w):Rel M N U h {w with drawn:=w.drawn+1}:=
 ⟨hr.dR,hr.used,hr.dD,fun i o b=>(hr.obj i o b).mono (.refl _) (.refl _ _) (fun _ h=>h) (hr.used i o b) Z,hr.inj⟩
theorem Fits.drew{M:Mem}{N:Nm}{a:Act}{w:World}(hf:Fits M N s nt a w):Fits M N s nt a {w with drawn:=w.drawn+1}:=⟨hf.1.drew,hf.2⟩
theorem Ext.drew{M:Mem}{N:Nm}{U:Nat->Prop}{h:AH}{w:World}:Ext M N U h w M N U h {w with drawn:=w.drawn+1}:=
 ⟨rfl,rfl,⟨rfl,Qv _⟩,OL _,fun _ _ _=>rfl,.refl _,fun b c h1 u=>by simp[h1]at u,.refl _ _,fun _ h=>h,fun i o x j=> .inr ⟨i,o,x,j,rfl⟩⟩
end
section
variable {P:Program} {M:Mem} {N:Nm} {w:World} {n:Nat} {h:AH}
def Nm.with(N:Nm)(n b e:Nat):Nm:={az:=fun i=>if i=n then b else N.az i,ext:=fun i=>if i=n then e else N.ext i}
theorem Nm.eE(N:Nm)(n b e:Nat):N.agree (N.with n b e) (· <n):=
 ⟨fun i j=>by simp[Nm.with,RE j],fun i j=>by simp[Nm.with,RE j]⟩
@[simp] theorem Nm.B3(N:Nm)(n b e:Nat):(N.with n b e).az n=b:=by simp[Nm.with]
@[simp] theorem Nm.Lo(N:Nm)(n b e:Nat):(N.with n b e).ext n=e:=by simp[Nm.with]
theorem Rel.lt(hr:Rel M N (· <n) h w){i:Nat}{o:AO}(hi:h.get i=co o)(b:o.real=is):N.az i<w.heap.size:=(hr.obj i o hi).lt b
theorem Rel.xm(hr:Rel M N (· <n) h w):M w.heap.size=io:=by
 cases hm:M w.heap.size with
 |none=>rfl
 |some c=>have:=(hr.dR _ _ hm).lt;omega
theorem Rel.alloc(hr:Rel M N (· <n) h w)(obj:Obj)(o:AO)(e:Nat)(ho: ∀C,C.az n=w.heap.size->C.ext n=e->N.agree C (· <n)->OR M C (· <n+1) (w.alloc obj) n o):
  ∃C,C.az n=w.heap.size∧C.ext n=e∧N.agree C (· <n)∧Ext M N (· <n) h w M C (· <n+1) ((n,co o)::h) (w.alloc obj)∧Rel M C (· <n+1) ((n,co o)::h) (w.alloc obj):=by
 have D:=N.eE n w.heap.size e;have u: ∀i p,AH.get ((n,co o)::h) i=co p->(i=n∧p=o)∨(i<n∧h.get i=co p):=by
  intro i p x;rw[AH.au]at x;split at x
  .rename_i G;exact .inl ⟨G,by simpa using x.symm⟩
  .exact .inr ⟨hr.used i p x,x⟩
 refine⟨N.with n w.heap.size e,by simp,by simp,D,?_,?_⟩
 .refine⟨rfl,rfl,⟨rfl,OL _⟩,by simp,fun b hb _=>wa w obj b hb,.refl _,fun b c h1 B=>by simp[h1]at B,D,fun i x=>by omega,fun i p x y=>?_⟩;rcases u i p x with⟨rfl,rfl⟩|⟨h1,B⟩
  .exact .inl (by simp)
  .exact .inr ⟨i,p,B,y,(D.az i h1).symm⟩
 .refine⟨fun b c hb=>?_,fun i p x=>?_,fun i p x y=>?_,fun i p x=>?_,fun i j p q x hj R Y A=>?_⟩
  .exact(hr.dR b c hb).mono (wa w obj b (hr.dR b c hb).lt)
  .rcases u i p x with⟨rfl,rfl⟩|⟨h1,B⟩<;>omega
  .rcases u i p x with⟨rfl,rfl⟩|⟨h1,B⟩
   .simpa using hr.xm
   .rw[D.az i h1];exact hr.dD i p B y
  .rcases u i p x with⟨rfl,rfl⟩|⟨h1,B⟩
   .exact ho _ (by simp) (by simp) D
   .cases y:p.real with
    |true=>exact(hr.obj i p B).mono (.refl _) D (fun i x=>by omega) h1 (wa w obj _ (hr.lt B y))
    |false=>
     cases p with
     |row sz es=>cases es with
      |nil=>exact .inl Z
      |cons=>cases y
     |bf l T=>cases l with
      |nil=>exact .inl Z
      |cons=>cases y
     |_=>cases y
  .rcases u i p x with⟨rfl,rfl⟩|⟨h1,B⟩<;>rcases u j q hj with⟨rfl,rfl⟩|⟨I,J⟩
   .rfl
   .rw[D.az j I]at A;simp at A;have:=hr.lt J Y;omega
   .rw[D.az i h1]at A;simp at A;have:=hr.lt B R;omega
   .rw[D.az i h1,D.az j I]at A;exact hr.inj i j p q B J R Y A
theorem Rel.ET(hr:Rel M N (· <n) h w)(sz:Nat):Ext M N (· <n) h w M N (· <n+1) ((n,co (.row sz []))::h) w∧Rel M N (· <n+1) ((n,co (.row sz []))::h) w:=by
 have u: ∀i p,AH.get ((n,co (.row sz []))::h) i=co p->(i=n∧p= .row sz [])∨(i<n∧h.get i=co p):=by
  intro i p x;rw[AH.au]at x;split at x
  .rename_i C;exact .inl ⟨C,by simpa using x.symm⟩
  .exact .inr ⟨hr.used i p x,x⟩
 refine⟨⟨rfl,rfl,⟨rfl,OL _⟩,OL _,fun _ _ _=>rfl,.refl _,fun b c h1 A=>by simp[h1]at A,.refl _ _,fun i x=>by omega,fun i p x y=>?_⟩,⟨hr.dR,fun i p x=>?_,fun i p x y=>?_,fun i p x=>?_,fun i j p q x J D G B=>?_⟩⟩
 .rcases u i p x with⟨rfl,rfl⟩|⟨h1,A⟩
  .cases y
  .exact .inr ⟨i,p,A,y,rfl⟩
 .rcases u i p x with⟨rfl,rfl⟩|⟨h1,A⟩<;>omega
 .rcases u i p x with⟨rfl,rfl⟩|⟨h1,A⟩
  .cases y
  .exact hr.dD i p A y
 .rcases u i p x with⟨rfl,rfl⟩|⟨h1,A⟩
  .exact .inl Z
  .exact(hr.obj i p A).mono (.refl _) (.refl _ _) (fun i x=>by omega) h1 Z
 .rcases u i p x with⟨rfl,rfl⟩|⟨h1,A⟩<;>rcases u j q J with⟨rfl,rfl⟩|⟨R,I⟩
  .rfl
  .cases D
  .cases G
  .exact hr.inj i j p q A I D G B
theorem Rel.write(hr:Rel M N (· <n) h w){i:Nat}{o0:AO}(hi:h.get i=co o0)(h0:o0.real=is)(w':World)(o:AO)(R:w'.os=w.os)(D:w'.tape=w.tape)(G:w'.output=w.output)(a0:w'.heap.size=w.heap.size)
  (hk: ∀b,b≠N.az i->w'.heap[b]? =w.heap[b]?) (ho:OR M N (· <n) w' i o) (hd:w.drawn<=w'.drawn:=by first|exact OL _|exact Qv _):
  Ext M N (· <n) h w M N (· <n) ((i,co o)::h) w'∧Rel M N (· <n) ((i,co o)::h) w':=by
 have u: ∀j p,AH.get ((i,co o)::h) j=co p->(j=i∧p=o)∨(j≠i∧h.get j=co p):=by
  intro j p A;rw[AH.au]at A;split at A
  .rename_i B;exact .inl ⟨B,by simpa using A.symm⟩
  .rename_i B;exact .inr ⟨B,A⟩
 refine⟨⟨R,D,⟨G,hd⟩,by omega,fun b hb hn=>hk b (fun e=>hn i o0 hi h0 e.symm),.refl _,fun b c h1 y=>by simp[h1]at y,.refl _ _,fun _ h=>h,fun j p A x=>?_⟩,?_⟩
 .rcases u j p A with⟨rfl,rfl⟩|⟨h1,y⟩
  .exact .inr ⟨j,o0,hi,h0,rfl⟩
  .exact .inr ⟨j,p,y,x,rfl⟩
 .refine⟨fun b c hb=>?_,fun j p A=>?_,fun j p A x=>?_,fun j p A=>?_,fun j k p q A I hp hq C=>?_⟩
  .have J:b≠N.az i:=fun e=>by
    have:=hr.dD i o0 hi h0;rw[<-e,hb]at this;simp at this
   exact(hr.dR b c hb).mono (hk b J)
  .rcases u j p A with⟨rfl,rfl⟩|⟨h1,y⟩
   .exact hr.used j o0 hi
   .exact hr.used j p y
  .rcases u j p A with⟨rfl,rfl⟩|⟨h1,y⟩
   .exact hr.dD j o0 hi h0
   .exact hr.dD j p y x
  .rcases u j p A with⟨rfl,rfl⟩|⟨h1,y⟩
   .exact ho
   .cases x:p.real with
    |true=>exact(hr.obj j p y).mono (.refl _) (.refl _ _) (fun _ h=>h) (hr.used j p y) (hk _ (fun e=>h1 (hr.inj j i p o0 y hi x h0 e)))
    |false=>
     cases p with
     |row sz es=>cases es with
      |nil=>exact .inl Z
      |cons=>cases x
     |bf l T=>cases l with
      |nil=>exact .inl Z
      |cons=>cases x
     |_=>cases x
  .rcases u j p A with⟨rfl,rfl⟩|⟨h1,y⟩<;>rcases u k q I with⟨rfl,rfl⟩|⟨h3,Y⟩
   .rfl
   .exact hr.inj _ _ _ _ hi Y h0 hq C
   .exact hr.inj _ _ _ _ y hi hp h0 C
   .exact hr.inj _ _ _ _ y Y hp hq C
end
def ya(ty:Ty)(s:AS)(t:TypeId)(p x:PV):Option AS:=
 match ty t with
 |some e=>match x.cells with
  |some xs=>match O2 xs.length e.size,ew xs with
   |true,is=>match p with
    | .ptr i off=>match s.h.get i with
     |some (.cells cs T0)=>match Qx (off+xs.length) cs.length with
      |true=>match s with
       |⟨f,h,n⟩=>force (setCells cs off xs) fun b=>co ⟨f,(i,co (.cells b T0))::h,n⟩
      |false=>io
     |_=>io
    |_=>io
   |_,_=>io
  |none=>io
 |none=>io
def newObj(s:AS)(o:AO):AS:=match s with|⟨f,h,n⟩=>⟨f,(n,co o)::h,n+1⟩
def nw(s:AS)(g:Nat->PV)(o:AO):Option (PV×AS):=match s with|⟨f,h,n⟩=>co (g n,⟨f,(n,co o)::h,n+1⟩)
theorem rQ(s:AS)(g:Nat->PV)(o:AO):nw s g o=co (g s.nx,newObj s o):=by cases s;rfl
def vf:Nat->List PV->List PV
 |0,_=> []
 |n+1,l=>l++vf n l
theorem jl: ∀(n:Nat) (l:List PV),(vf n l).length=n*l.length
 |0,l=>by simp[vf]
 |n+1,l=>by simp[vf,jl n l,P5,Nat.add_comm]
theorem wV: ∀(n:Nat) (l:List PV) (j:Nat) (p:PV),(vf n l)[j]? =co p->l[j % l.length]? =co p
 |0,l,j,p,h=>by simp[vf]at h
 |n+1,l,j,p,h=>by
  simp only[vf]at h;rcases PB j l.length with hj|hj
  .rw[OV hj]at h;rw[Nat.mod_eq_of_lt hj];exact h
  .rw[OQ hj]at h;have:=wV n l _ p h;rwa[Nat.mod_eq_sub_mod hj]
def kU(sz:Nat):Nat->List PV->List (List PV)
 |0,_=> []
 |n+1,cs=>cs.take sz::kU sz n (cs.drop sz)
def vV{α:Type _}(sz:Nat):Nat->List PV->(List (List PV)->α)->α
 |0,_,k=>k []
 |n+1,cs,k=>force (cs.take sz) fun c=>force (cs.drop sz) fun d=>vV sz n d fun r=>k (c::r)
theorem uO{α:Type _}(sz:Nat): ∀(n:Nat) (cs:List PV) (k:List (List PV)->α),vV sz n cs k=k (kU sz n cs)
 |0,_,_=>rfl
 |n+1,cs,k=>by simp only[vV,force_eq,uO sz n,kU]
theorem mX(sz:Nat): ∀(n:Nat) (cs:List PV),(kU sz n cs).length=n
 |0,_=>rfl
 |n+1,cs=>by simp[kU,mX sz n]
theorem kT(sz:Nat): ∀(n:Nat) (cs:List PV) (k:Nat) (e:List PV),cs.length=n*sz->(kU sz n cs)[k]? =co e->e.length=sz∧ ∀j,j<sz->e[j]? =cs[k*sz+j]?
 |0,cs,k,e,_,h=>by simp[kU]at h
 |n+1,cs,k,e,hl,h=>by
  simp only[kU]at h;rw[P5]at hl;cases k with
  |zero=>
   simp at h;subst h;refine⟨by simp;omega,fun j b=>by simp[b]⟩
  |succ k=>
   obtain⟨h1,u⟩:=kT sz n (cs.drop sz) k e (by simp;omega) (by simpa using h);refine⟨h1,fun j b=>?_⟩;rw[u j b,Py,P5];congr 1;omega
def IP(ty:Ty)(e:bA):Bool:=
 match e.k with
 | .cE ((0,u)::_)=>match ty u with
  |some ⟨.cE ((0,q)::_),_,_,_,_⟩=>match ty q with
   |some ⟨.aJ (.pointer v),_,_,_,_⟩=>O2 u v
   |_=>jp
  |_=>jp
 |_=>jp
def Md(ty:Ty)(t:TypeId):Bool:=
 match ty t with
 |some e=>IP ty e
 |none=>jp
def Ds(ty:Ty)(s:AS):Op->Option (PV×AS)
 | .alloc t=>match ty t with
  |some e=>match IP ty e with
   |true=>force (aK e.zero) fun b=>nw s (fun n=> .ptr n 0) (.cells b (co t))
   |false=>force (aK e.zero) fun b=>nw s (fun n=> .ptr n 0) (.cells b)
  |none=>io
 | .box t x=>match(ev s.f x).cells with
  |some b=>match ew b with
   |true=>match Md ty t with
    |true=>force b fun j=>nw s (fun n=> .ptr n 0) (.cells j (co t))
    |false=>force b fun j=>nw s (fun n=> .ptr n 0) (.cells j)
   |false=>io
  |none=>io
 | .store t a x=>match ya ty s t (ev s.f a) (ev s.f x) with
  |some s'=>co (.any,s')
  |none=>io
 | .makeMap _ io=>nw s (fun n=> .mp n) .eC
 | .makeMap t (co r)=>match ev s.f r,ty t with
  | .iv (.v (.int _ _)),co ⟨.aJ (.map _ _),_,_,_,_⟩=>nw s (fun n=> .mp n) .eC
  |_,_=>io
 | .range t x=>match ev s.f x,ty t with
  | .iv (.dJ kc e _ _ m),co ⟨.aJ (.map _ _),_,_,_,_⟩=>nw s (fun n=> .ptr n 0) (.bB kc e m [] io)
  |_,_=>io
 | .buildSlice t len parts=>match ty t with
  |some e=>match e.k with
   | .aJ (.slice u)=>match ty u with
    |some eu=>match O2 eu.zero.cells.size eu.size,O1 0 (len*eu.size),Qx (len*eu.size) 16777216 with
     |true,is,is=>match mV (fun i=>co (i*eu.size,eu.size)) (vf len (aK eu.zero)) (parts.toList.map fun x=>(x.1,ev s.f x.2)) with
      |some b=>vV eu.size len b fun es=>nw s (fun n=> .sl n 0 len eu.size) (.row eu.size es)
      |none=>io
     |_,_,_=>io
    |none=>io
   |_=>io
  |none=>io
 |_=>io
section
variable {P:Program} {ty:Ty} {nt:NT} {s:AS}
theorem dw{M:Mem}{N:Nm}{a:Act}{w:World}(hf:Fits M N s nt a w){obj:Obj}{o:AO}{b:Nm}(j:Ext M N (· <s.nx) s.h w M b (· <s.nx+1) ((s.nx,co o)::s.h) (w.alloc obj))
  (hr:Rel M b (· <s.nx+1) ((s.nx,co o)::s.h) (w.alloc obj)):Fits M b (newObj s o) nt a (w.alloc obj):=
 ⟨hr,hf.2.1.ext j,hf.2.2⟩
theorem OT.value{o:Oper}{s1 s':AS}{p:PV}(hp:putDst nt o p s1=co s')
  (h: ∀M N a w,Fits M N s nt a w-> ∃x w' b j,(execOp a.eval o).run P w= .ok (.value x) w'∧Ext M N (· <s.nx) s.h w b j (· <s1.nx) s1.h w'∧Fits b j s1 nt a w'∧VR b j (· <s1.nx) p x):OT P nt o s (fun t=>t=s'):=by
 intro M N a w A K Z hk;obtain⟨x,w',b,j,C,y,u,B⟩:=h M N a w A;unfold Oper.wp;rw[C];simp only[Oper.upon];cases hd:o.dst with
 |none=>
  have:=eM hp hd;subst this;exact hk b j s' _ w' y u rfl
 |some d=>
  obtain⟨h1,rfl⟩:=eL hp hd;exact hk b j {s1 with f:=(d,p)::s1.f} _ w' y (u.put d p x h1 B) rfl
theorem OT.skip{o:Oper}{s1 s':AS}(hp:putDst nt o .any s1=co s')
  (h: ∀M N a w,Fits M N s nt a w-> ∃w' b j,(execOp a.eval o).run P w= .ok .skip w'∧Ext M N (· <s.nx) s.h w b j (· <s1.nx) s1.h w'∧Fits b j s1 nt a w'):OT P nt o s (fun t=>t=s'):=by
 intro M N a w y K Z hk;obtain⟨w',b,j,A,x,u⟩:=h M N a w y;unfold Oper.wp;rw[A];simp only[Oper.upon];cases hd:o.dst with
 |none=>
  have:=eM hp hd;subst this;exact hk b j s' _ w' x u rfl
 |some d=>
  obtain⟨h1,rfl⟩:=eL hp hd;exact hk b j {s1 with f:=(d,.any)::s1.f} _ w' x (u.put d .any undef h1 (.any _)) rfl
theorem AK(f0:bn P ty){t:TypeId}{p x:PV}{s1:AS}(h:ya ty s t p x=co s1){M:Mem}{N:Nm}{a:Act}{w:World}(hf:Fits M N s nt a w){u y:Value}(hu:VR M N (· <s.nx) p u)(hy:VR M N (· <s.nx) x y):
  ∃w',(Instr.storeAt t u y).run P w= .ok () w'∧Ext M N (· <s.nx) s.h w M N (· <s1.nx) s1.h w'∧Fits M N s1 nt a w':=by
 unfold ya at h;split at h
 .rename_i e he;split at h
  .rename_i C i0;split at h
   .rename_i h1 h2;split at h
    .rename_i i a0;split at h
     .rename_i cs T0 A;split at h
      .rename_i c0;obtain⟨sf,sh,sn⟩:=s;simp only[force_eq,OA]at h;subst h;simp only at A;cases hu with
       |ptr _ _ hU=>
        obtain⟨hl,hv⟩:=l0 hy i0;have e0:y.cells.size=e.size:=by rw[<-hl];exact OU h1
        obtain⟨c,T,g1,g2,g3,g4,g5⟩:=hf.1.obj i _ A;have d0:a0+C.length<=c.size:=by rw[<-g3];exact Oy c0
        have J: ∀v∈y.cells.toList,v.oneCell'=is:=by
         intro v g0;obtain⟨j,hj⟩:=Po g0;have D:j<y.cells.toList.length:=(OB.1 hj).1;have G:C[j]? =co (C[j]'(by simp at D;omega)):=OD _;have:=(hv j _ G).one (gr h2 j _ G);rw[Oz]at this;have b0:y.cells[j]? =co v:=by simpa using hj
         rw[b0]at this;exact this
        have Y:=run_storeCells_at P (N.az i) a0 T y.cells.toList 0 c w g1 (by simp;omega) J;refine⟨w.setRow (N.az i) (c.toList.take (a0+0)++y.cells.toList++c.toList.drop (a0+0+y.cells.toList.length)).toArray,?_,?_⟩
        .have B:=aO (w:=w) (f0 t e he);simp only[Instr.storeAt,Instr.sureAddr,pure_bind,storeVar,Sem.run_bind,B,Result.andThen_ok,e0,ne_eq,not_true_eq_false,if_false,Y]
        .have R:=setRow_heap w (N.az i) c (c.toList.take (a0+0)++y.cells.toList++c.toList.drop (a0+0+y.cells.toList.length)).toArray T (0,0) g1;have I: ∀b,b≠N.az i->(w.setRow (N.az i) (c.toList.take (a0+0)++y.cells.toList++c.toList.drop (a0+0+y.cells.toList.length)).toArray).heap[b]? =w.heap[b]? :=by
          intro b hb;simp only[World.setRow,Pd];rw[be (fun e=>hb e.symm)]
         have:=hf.1.write A Z (w.setRow (N.az i) (c.toList.take (a0+0)++y.cells.toList++c.toList.drop (a0+0+y.cells.toList.length)).toArray) (.cells (setCells cs a0 C) T0) Z Z Z (by simp) I
          ⟨_,T,R,by simp;omega,by rw[cH];simp;omega,fun j q hq=>?_,g5⟩
         .exact⟨this.1,this.2,hf.2.1,hf.2.2⟩
         .rcases fQ cs a0 C j q hq with⟨k1,k2⟩|⟨k1,k2⟩
          .have:=hv _ _ k2;have D:j-a0<C.length:=(OB.1 k2).1;rw[Oz]at this ⊢;have e1:(c.toList.take (a0+0)++y.cells.toList++c.toList.drop (a0+0+y.cells.toList.length)).toArray[j]? =y.cells[j-a0]? :=by
            simp only[Pt];rw[OV (by simp;omega),OQ (by simp;omega)];simp only[PN,Qt,O6];congr 1;omega
           rw[e1];exact this
          .have:=g4 _ _ k2;rw[Oz]at this ⊢;have e1:(c.toList.take (a0+0)++y.cells.toList++c.toList.drop (a0+0+y.cells.toList.length)).toArray[j]? =c[j]? :=by
            simp only[Pt];rcases k1 with k1|k1
            .rw[O0,OV (by simp;omega),Pn,am (by omega),O6]
            .rw[OQ (by simp;omega),Py,O6];congr 1;simp;omega
           rw[e1];exact this
      .cases h
     .cases h
    .cases h
   .cases h
  .cases h
 .cases h
theorem Dr(G:bn P ty){o:Oper}{p:PV}{s1 s':AS}(h:Ds ty s o.op=co (p,s1))(hp:putDst nt o p s1=co s'):OT P nt o s (fun t=>t=s'):=by
 cases ho:o.op with
 |alloc t=>
  rw[ho]at h;simp only[Ds,rQ]at h;split at h
  .rename_i e he;obtain⟨R,f0,h⟩: ∃R,wu R t∧co (PV.ptr s.nx 0,newObj s (.cells (aK e.zero) R))=co (p,s1):=by
    split at h
    .exact⟨co t,fun x J=>by cases J;rfl,by rw[<-h,force_eq]⟩
    .exact⟨io,.none _,by rw[<-h,force_eq]⟩
   simp only[OA,OK]at h;obtain⟨rfl,rfl⟩:=h;refine OT.value hp fun M N a w C=>?_
   obtain⟨B,h1,h2,h3,D,I⟩:=C.1.alloc (.cells e.zero.cells t) (.cells (aK e.zero) R) e.zero.cells.size (fun B g1 g2 g3=>
    ⟨e.zero.cells,t,by rw[g1];exact heap_alloc_new w _,g2.symm,(ei (M:=M) (N:=B) (U:=(· <s.nx+1)) e.zero).1,(ei e.zero).2,f0⟩)
   refine⟨.pointer (co ⟨w.heap.size,0,io⟩),_,M,B,?_,D,dw C D I,?_⟩
   .simp only[execOp,ho];have hz:=cU (w:=w) (G t e he);simp[Instr.alloc,hz,newVar,newRow]
   .have:=VR.ptr (M:=M) (N:=B) (U:=(· <s.nx+1)) s.nx 0 (by omega);rw[h1]at this;exact this
  .cases h
 |box t x=>
  rw[ho]at h;simp only[Ds,rQ]at h;split at h
  .rename_i cs c0;split at h
   .rename_i a1;obtain⟨R,f0,h⟩: ∃R,wu R t∧co (PV.ptr s.nx 0,newObj s (.cells cs R))=co (p,s1):=by
     split at h
     .exact⟨co t,fun x J=>by cases J;rfl,by rw[<-h,force_eq]⟩
     .exact⟨io,.none _,by rw[<-h,force_eq]⟩
    simp only[OA,OK]at h;obtain⟨rfl,rfl⟩:=h;refine OT.value hp fun M N a w C=>?_;obtain⟨hl,hv⟩:=l0 (aG C.2.1 x) c0
    obtain⟨B,h1,h2,h3,D,I⟩:=C.1.alloc (.cells (a.eval x).cells t) (.cells cs R) (a.eval x).cells.size (fun B g1 g2 g3=>
     ⟨(a.eval x).cells,t,by rw[g1];exact heap_alloc_new w _,g2.symm,hl,fun j q hq=>(hv j q hq).mono (.refl _) g3 (fun i hi=>by omega),f0⟩)
    refine⟨.pointer (co ⟨w.heap.size,0,io⟩),_,M,B,?_,D,dw C D I,?_⟩
    .simp only[execOp,ho];simp[Instr.box,newVar,newRow]
    .have:=VR.ptr (M:=M) (N:=B) (U:=(· <s.nx+1)) s.nx 0 (by omega);rw[h1]at this;exact this
   .cases h
  .cases h
 |store t a x=>
  rw[ho]at h;simp only[Ds,rQ]at h;split at h
  .rename_i s2 hs;simp only[OA,OK]at h;obtain⟨rfl,rfl⟩:=h;refine OT.skip hp fun M N b w C=>?_;obtain⟨w',h1,h2,h3⟩:=AK (P:=P) G hs C (aG C.2.1 a) (aG C.2.1 x);refine⟨w',M,N,?_,h2,h3⟩;simp only[execOp,ho];simp[h1]
  .cases h
 |makeMap t r=>
  rw[ho]at h;cases r with
  |some r=>
   simp only[Ds,rQ]at h;split at h
   .rename_i q n _ _ _ _ _ _ hr he;have hu:=(G _ _ he).2.1.1;simp only[OA,OK]at h;obtain⟨rfl,rfl⟩:=h;refine OT.value hp fun M N a w C=>?_
    obtain⟨B,h1,h2,h3,D,I⟩:=C.1.alloc (.map #[] 0) .eC 0 (fun B g1 g2 g3=>
     (by rw[g1];exact heap_alloc_new w _:(w.alloc (.map #[] 0)).heap[B.az s.nx]? =_))
    have g0:=aG C.2.1 r;rw[hr]at g0;have b1:a.eval r= .int q n:=by
     generalize a.eval r=y at g0;cases g0 with
     |iv _ _ h=>cases h;rfl
    refine⟨.map (co w.heap.size),_,M,B,?_,D,dw C D I,?_⟩
    .simp only[execOp,ho];simp[Instr.makeMap,b1,run_underlying hu,asInt,asIntOf]
    .have:=VR.mp (M:=M) (N:=B) (U:=(· <s.nx+1)) s.nx (by omega);rw[h1]at this;exact this
   .cases h
  |none=>
   simp only[Ds,rQ,OA,OK]at h;obtain⟨rfl,rfl⟩:=h;refine OT.value hp fun M N a w C=>?_
   obtain⟨B,h1,h2,h3,D,I⟩:=C.1.alloc (.map #[] 0) .eC 0 (fun B g1 g2 g3=>
    (by rw[g1];exact heap_alloc_new w _:(w.alloc (.map #[] 0)).heap[B.az s.nx]? =_))
   refine⟨.map (co w.heap.size),_,M,B,?_,D,dw C D I,?_⟩
   .simp only[execOp,ho];simp[Instr.makeMap]
   .have:=VR.mp (M:=M) (N:=B) (U:=(· <s.nx+1)) s.nx (by omega);rw[h1]at this;exact this
 |range t x=>
  rw[ho]at h;simp only[Ds,rQ]at h;split at h
  .rename_i V kc e z zv m kt et _ _ _ _ s0 he;have hu:=(G _ _ he).2.1.1;simp only[OA,OK]at h;obtain⟨rfl,rfl⟩:=h;refine OT.value hp fun M N a w C=>?_;have J:=aG C.2.1 x;rw[s0]at J;generalize hv:a.eval x=y at J
   cases J with
   |iv _ _ hi=>cases hi with
    |dJ _ _ _ _ _ b ents clock hb hs hk hv' hz hi' hc=>
     obtain⟨B,h1,h2,h3,D,I⟩:=C.1.alloc (.mapIter (co b) clock #[] clock) (.bB kc e m [] io) 0 (fun B g1 g2 g3=>
      .inr ⟨b,ents,clock, #[],by rw[g1];exact heap_alloc_new w _,hb,⟨hs,hk,hv',hi',hc⟩,rfl,by simp,Pk,by simp⟩)
     have a0:w.heap[b]? =co (.map ents clock):=C.1.dR _ _ hb;refine⟨.pointer (co ⟨w.heap.size,0,io⟩),_,M,B,?_,D,dw C D I,?_⟩
     .simp only[execOp,ho,hv];simp[Instr.range,run_underlying hu,getObj,Sem.run,a0,Result.andThen]
     .have:=VR.ptr (M:=M) (N:=B) (U:=(· <s.nx+1)) s.nx 0 (by omega);rw[h1]at this;exact this
  .cases h
 |buildSlice t len parts=>
  rw[ho]at h;simp only[Ds,rQ]at h;split at h
  .rename_i e he;split at h
   .rename_i u hk;split at h
    .rename_i A k0;split at h
     .rename_i p0 q0 r0;split at h
      .rename_i cs c0;rw[uO]at h;simp only[OA,OK]at h;obtain⟨rfl,rfl⟩:=h;have j0:A.zero.cells.size=A.size:=OU p0;have n0:0<len*A.size:=Oy q0;have i1:len*A.size<=16777216:=Oy r0;have i0:0<A.size:=Nat.pos_of_ne_zero fun e=>by simp[e]at n0
       have w0:0<len:=Nat.pos_of_ne_zero fun e=>by simp[e]at n0
       have f1:len<=len*A.size:=Nat.le_mul_of_pos_right _ i0;have b0:=(G t e he).2.1;rw[hk]at b0;refine OT.value hp fun M N a w C=>?_;have d0:(aK A.zero).length=A.size:=by rw[(ei (M:=M) (N:=N) (U:=(· <s.nx)) A.zero).1,j0]
       obtain⟨e0,h3,D⟩:=oI (M:=M) (N:=N) (U:=(· <s.nx)) (vals:=(parts.map fun x=>(x.1,a.eval x.2)).toList) (ys:=(Rw (len*A.size)).map (A.zero.cells[· % A.zero.cells.size]!)) c0 (by simp) (fun j x y J hy=>by
        rw[OH,OJ]at J;obtain⟨z,hz,rfl⟩:=J;have e1:parts[j]? =co z:=by simpa using hz
        have:co (z.1,a.eval z.2)=co y:=by rw[<-hy];simp[e1]
        simp only[OA]at this;subst this
        exact⟨rfl,aG C.2.1 z.2⟩) (by
        refine⟨by rw[jl,d0];simp,fun j p hj=>?_⟩;have I:=wV _ _ _ _ hj;have t0:j<len*A.size:=by
         have:=(OB.1 hj).1;rwa[jl,d0]at this
        rw[d0]at I;have h6:=(ei (M:=M) (N:=N) (U:=(· <s.nx)) A.zero).2 _ _ I;have h7:((Rw (len*A.size)).map (A.zero.cells[· % A.zero.cells.size]!)).getD j undef=A.zero.cells.getD (j % A.size) undef:=by
         have hm:j % A.size<A.zero.cells.size:=by rw[j0];exact Nat.mod_lt _ i0
         have J:(Rw (len*A.size))[j]? =co j:=by simp[t0]
         rw[Oz,QN,J];simp only[PI,PA,j0];rw[Oz,getElem!_pos A.zero.cells (j % A.size) hm,O4 hm];rfl
        rw[h7];exact h6)
       have Y:cs.length=len*A.size:=by
        have:(vf len (aK A.zero)).length=cs.length:=by
         have:=oJ c0;exact this.symm
        rw[<-this,jl,d0]
       have m0:e0.size=len*A.size:=by rw[<-D.1,Y]
       obtain⟨B,h1,h2,h8,h9,o0⟩:=C.1.alloc (.cells e0 u) (.row A.size (kU A.size len cs)) e0.size (fun B g1 g2 g3=>
        .inr ⟨i0,e0,u,by rw[g1];exact heap_alloc_new w _,g2.symm,by rw[mX,m0];exact OL _,fun k e hk=>(kT _ _ _ _ _ Y hk).1,fun k e j p hk hj=>by
         have v0:j<A.size:=by rw[<-(kT _ _ _ _ _ Y hk).1];exact(OB.1 hj).1
         have:=(kT _ _ _ _ _ Y hk).2 j v0;rw[hj]at this
         exact(D.2 _ _ this.symm).mono (.refl _) g3 (fun i hi=>by omega)⟩)
       refine⟨.slice (co ⟨w.heap.size,0,io⟩) len len,_,M,B,?_,h9,dw C h9 o0,?_⟩
       .simp only[execOp,ho];have hz:=cU (w:=w) (G u A k0);have d1:=aO (w:=w) (G u A k0);have x0: ¬len*A.size=0:=by omega
        have z0: ¬len*A.size>2 ^ 24:=by omega
        simp only[Instr.buildSlice,Sem.run_bind,run_underlying b0.1,Result.andThen_ok,d1,be z0,be x0,hz,Sem.run_pure];rw[h3];simp[newRow]
       .have:=VR.sl (M:=M) (N:=B) (U:=(· <s.nx+1)) s.nx 0 len A.size len (by omega) w0 (OL _) (by simp only[maxLen];omega) (by rw[h2,m0];simp);rw[h1,Qu]at this;exact this
      .cases h
     .cases h
    .cases h
   .cases h
  .cases h
 |_=>rw[ho]at h;simp[Ds]at h
end
mutual
def PV.cj(σ:Nat->Nat):PV->PV
 | .iv x=> .iv x
 | .agg cs=> .agg (cW σ cs)
 | .bh cs=> .bh (cW σ cs)
 | .ptr i off=> .ptr (σ i) off
 | .cD i sz k off=> .cD (σ i) sz k off
 | .dY z i=> .dY z (σ i)
 | .mA i o n=> .mA (σ i) o n
 | .sl i off len sz=> .sl (σ i) off len sz
 | .mp i=> .mp (σ i)
 | .bX fn first caps=> .bX fn (cW σ first) (cW σ caps)
 | .kb b=> .kb b
 | .any=> .any
def cW(σ:Nat->Nat):List PV->List PV
 | []=> []
 |p::r=>PV.cj σ p::cW σ r
end
theorem bx(σ:Nat->Nat): ∀l:List PV,cW σ l=l.map (PV.cj σ)
 | []=>rfl
 |p::r=>by simp[cW,bx σ r]
def AO.cj(σ:Nat->Nat):AO->AO
 | .cells cs T=> .cells (cW σ cs) T
 | .row sz es=> .row sz (es.map (cW σ))
 | .bf l T=> .bf l T
 | .eC=> .eC
 | .map kc ev z zv dv m=> .map kc ev z zv dv m
 | .bB kc ev m l cu=> .bB kc ev m l cu
 | .c9 s p=> .c9 s p
 | .gi kc e z zv dv m bs c=> .gi kc e z zv dv m bs c
 | .dB q c l=> .dB (q.cj σ) c l
theorem AO.bQ(σ:Nat->Nat)(o:AO):(o.cj σ).real=o.real:=by
 cases o with
 |row sz es=>cases es<;>rfl
 |bf l T=>cases l<;>rfl
 |_=>rfl
def vg(σ:Nat->Nat):AH->AH
 | []=> []
 |(i,io)::r=>(σ i,io)::vg σ r
 |(i,co o)::r=>(σ i,co (o.cj σ))::vg σ r
def Nm.comp(N:Nm)(σ:Nat->Nat):Nm:={az:=fun i=>N.az (σ i),ext:=fun i=>N.ext (σ i)}
section
variable {M:Mem} {N:Nm} {U:Nat->Prop} {σ:Nat->Nat}
theorem VR.cj{p:PV}{x:Value}(h:VR M (N.comp σ) (fun i=>U (σ i)) p x):VR M N U (p.cj σ) x:=by
 induction h with
 |iv x y h=>exact .iv x y h
 |agg cs ys hl hr ih=>
  refine .agg _ _ (by simpa[bx]using hl) (fun j p u=>?_);rw[bx,OH,OJ]at u;obtain⟨q,A,rfl⟩:=u;exact ih j q A
 |bh cs ys hl hr ih=>
  refine .bh _ _ (by simpa[bx]using hl) (fun j p u=>?_);rw[bx,OH,OJ]at u;obtain⟨q,A,rfl⟩:=u;exact ih j q A
 |ptr i off h=>exact .ptr _ _ h
 |cD i sz k off h=>exact .cD _ _ _ _ h
 |dY z i h=>exact .dY _ _ h
 |mA i o n h=>exact .mA _ _ _ h
 |sl i off len sz cap h h0 hl hc he=>exact .sl _ _ _ _ _ h h0 hl hc he
 |lC i sz h=>exact .lC _ _ h
 |sle i sz cap h hc he=>exact .sle _ _ _ h hc he
 |mp i h=>exact .mp _ h
 |bX fn first caps f' c' h1 h2 hr1 hr2 ih1 ih2=>
  refine .bX _ _ _ _ _ (by simpa[bx]using h1) (by simpa[bx]using h2) (fun j p u=>?_) (fun j p u=>?_)
  .rw[bx,OH,OJ]at u;obtain⟨q,A,rfl⟩:=u;exact ih1 j q A
  .rw[bx,OH,OJ]at u;obtain⟨q,A,rfl⟩:=u;exact ih2 j q A
 |kb b=>exact .kb b
 |any x=>exact .any x
theorem VR.pN: ∀{q:PV} {x:Value},VR M N U q x-> ∀{p:PV},q=p.cj σ->VR M (N.comp σ) (fun i=>U (σ i)) p x:=by
 intro q x h
 induction h with
 |iv x y h=>intro p u;cases p<;>simp[PV.cj]at u;subst u;exact .iv _ _ h
 |agg cs ys hl hr ih=>
  intro p u;cases p<;>simp[PV.cj]at u;subst u;refine .agg _ _ (by simpa[bx]using hl) (fun j p A=>ih j (p.cj σ) (by rw[bx,OH,A];rfl) Z)
 |bh cs ys hl hr ih=>
  intro p u;cases p<;>simp[PV.cj]at u;subst u;refine .bh _ _ (by simpa[bx]using hl) (fun j p A=>ih j (p.cj σ) (by rw[bx,OH,A];rfl) Z)
 |ptr i off h=>intro p u;cases p<;>simp[PV.cj]at u;obtain⟨rfl,rfl⟩:=u;exact VR.ptr (N:=N.comp σ) (U:=fun i=>U (σ i)) _ _ h
 |cD i sz k off h=>intro p u;cases p<;>simp[PV.cj]at u;obtain⟨rfl,rfl,rfl,rfl⟩:=u;exact VR.cD (N:=N.comp σ) (U:=fun i=>U (σ i)) _ _ _ _ h
 |dY z i h=>intro p u;cases p<;>simp[PV.cj]at u;obtain⟨rfl,rfl⟩:=u;exact VR.dY (N:=N.comp σ) (U:=fun i=>U (σ i)) _ _ h
 |mA i o n h=>intro p u;cases p<;>simp[PV.cj]at u;obtain⟨rfl,rfl,rfl⟩:=u;exact VR.mA (N:=N.comp σ) (U:=fun i=>U (σ i)) _ _ _ h
 |sl i off len sz cap h h0 hl hc he=>intro p u;cases p<;>simp[PV.cj]at u;obtain⟨rfl,rfl,rfl,rfl⟩:=u;exact VR.sl (N:=N.comp σ) (U:=fun i=>U (σ i)) _ _ _ _ _ h h0 hl hc he
 |lC i sz h=>intro p u;cases p<;>simp[PV.cj]at u;obtain⟨rfl,rfl,rfl,rfl⟩:=u;exact VR.lC (N:=N.comp σ) (U:=fun i=>U (σ i)) _ _ h
 |sle i sz cap h hc he=>intro p u;cases p<;>simp[PV.cj]at u;obtain⟨rfl,rfl,rfl,rfl⟩:=u;exact VR.sle (N:=N.comp σ) (U:=fun i=>U (σ i)) _ _ _ h hc he
 |mp i h=>intro p u;cases p<;>simp[PV.cj]at u;subst u;exact VR.mp (N:=N.comp σ) (U:=fun i=>U (σ i)) _ h
 |bX fn first caps f' c' h1 h2 hr1 hr2 ih1 ih2=>
  intro p u;cases p<;>simp[PV.cj]at u;obtain⟨rfl,rfl,rfl⟩:=u;refine .bX _ _ _ _ _ (by simpa[bx]using h1) (by simpa[bx]using h2) (fun j p A=>ih1 j (p.cj σ) (by rw[bx,OH,A];rfl) Z) (fun j p A=>ih2 j (p.cj σ) (by rw[bx,OH,A];rfl) Z)
 |kb b=>intro p u;cases p<;>simp[PV.cj]at u;subst u;exact .kb _
 |any x=>intro p u;cases p<;>simp[PV.cj]at u;exact .any _
theorem OR.cj{w:World}{i:Nat}{o:AO}(h:OR M (N.comp σ) (fun i=>U (σ i)) w i o):OR M N U w (σ i) (o.cj σ):=by
 cases o with
 |cells cs T0=>
  obtain⟨c,T,h1,x,C,D,G⟩:=h;refine⟨c,T,h1,x,by simpa[bx]using C,fun j p A=>?_,G⟩;rw[bx,OH,OJ]at A;obtain⟨q,I,rfl⟩:=A;exact(D j q I).cj
 |row sz es=>
  rcases h with rfl|⟨h0,c,T,h1,x,C,D,G⟩
  .exact .inl Z
  refine .inr ⟨h0,c,T,h1,x,by simpa using C,fun k e y=>?_,fun k e j p y A=>?_⟩
  .rw[OH,OJ]at y;obtain⟨B,u,rfl⟩:=y;rw[bx,O7];exact D k B u
  .rw[OH,OJ]at y;obtain⟨B,u,rfl⟩:=y;rw[bx,OH,OJ]at A;obtain⟨q,I,rfl⟩:=A;exact(G k B j q u I).cj
 |bf l T=>exact h
 |eC=>exact h
 |map kc ev z zv dv m=>exact h
 |bB kc ev m l cu=>exact h
 |c9 s p=>exact h
 |gi kc ev z zv dv m bs c=>exact h
 |dB q c l=>obtain⟨b,h1,x⟩:=h;exact⟨b,h1.cj,x⟩
theorem OR.pN{w:World}{i:Nat}{o:AO}(h:OR M N U w (σ i) (o.cj σ)):OR M (N.comp σ) (fun i=>U (σ i)) w i o:=by
 cases o with
 |cells cs T0=>
  obtain⟨c,T,h1,u,x,y,A⟩:=h;exact⟨c,T,h1,u,by simpa[bx]using x,fun j p C=>(y j (p.cj σ) (by rw[bx,OH,C];rfl)).pN Z,A⟩
 |row sz es=>
  rcases h with h|⟨D,c,T,h1,u,x,y,A⟩
  .exact .inl (by simpa using h)
  refine .inr ⟨D,c,T,h1,u,by simpa using x,fun k e B=>?_,fun k e j p B C=>?_⟩
  .have:=y k (cW σ e) (by rw[OH,B];rfl);simpa[bx]using this
  .exact(A k (cW σ e) j (p.cj σ) (by rw[OH,B];rfl) (by rw[bx,OH,C];rfl)).pN Z
 |bf l T=>exact h
 |eC=>exact h
 |map kc ev z zv dv m=>exact h
 |bB kc ev m l cu=>exact h
 |c9 s p=>exact h
 |gi kc ev z zv dv m bs c=>exact h
 |dB q c l=>obtain⟨b,h1,u⟩:=h;exact⟨b,h1.pN Z,u⟩
end
def sig(L:List Nat)(n:Nat)(i:Nat):Nat:=bif O1 i L.length then L.getD i 0 else n+(i-L.length)
theorem ia{L:List Nat}{n i:Nat}(h:i<L.length):sig L n i=L[i]:=by
 have:O1 i L.length=is:=Pu h;simp[sig,this,h]
theorem nu{L:List Nat}{n i:Nat}(h:L.length<=i):sig L n i=n+(i-L.length):=by
 have:O1 i L.length=jp:=by
  cases hb:O1 i L.length with
  |false=>rfl
  |true=>have:=Oy hb;omega
 simp[sig,this]
theorem rK{σ:Nat->Nat}: ∀(h:AH) (j:Nat) (o:AO),(vg σ h).get j=co o->(∀i k,i∈h.map Px->σ i=σ k->i=k)-> ∃i p,j=σ i∧h.get i=co p∧o=p.cj σ
 | [],j,o,hj,_=>by simp[vg,AH.get]at hj
 |(i,io)::r,j,o,hj,hi=>by
  simp only[vg]at hj;rw[AH.au]at hj;split at hj
  .cases hj
  .rename_i u;obtain⟨k,p,h1,x,y⟩:=rK r j o hj (fun a b A=>hi a b (ON _ A));refine⟨k,p,h1,?_,y⟩;rw[AH.au,be (fun e=>u (by rw[h1,e]))];exact x
 |(i,co q)::r,j,o,hj,hi=>by
  simp only[vg]at hj;rw[AH.au]at hj;split at hj
  .rename_i B;exact⟨i,q,B,by rw[AH.au,am Z],by simpa using hj.symm⟩
  .rename_i u;obtain⟨k,p,h1,x,y⟩:=rK r j o hj (fun a b A=>hi a b (ON _ A));refine⟨k,p,h1,?_,y⟩;rw[AH.au,be (fun e=>u (by rw[h1,e]))];exact x
def cP:Nat->List AO->AH
 |_,[]=> []
 |n,o::r=>(n,co o)::cP (n+1) r
theorem pr: ∀(os:List AO) (n i:Nat),(cP n os).get i=if n<=i then os[i-n]? else io
 | [],n,i=>by simp[cP,AH.get]
 |o::r,n,i=>by
  simp only[cP];rw[AH.au,pr r (n+1) i];by_cases h:i=n
  .subst h;simp
  .by_cases b:n<=i
   .rw[be h,am (by omega),am b,show i-n=(i-(n+1))+1 by omega];simp
   .rw[be h,be (by omega),be b]
def hP(P:Program)(k:FuncId):Prop:= ∀(args:Array Value) (w:World),(callFunc k args).run P w= .ok (.enter k args) w
theorem bc {P:Program} {k:FuncId} {fn:Func} {c:Code} (hf:P.funcs[k]? =co fn) (hb:fn.body=co c) (hn:(fn.name== "runtime.NumGoroutine")=jp):hP P k:=by
 intro args w;have b: ¬fn.name= "runtime.NumGoroutine" :=by simpa using hn
 simp[callFunc,program,Sem.run,hf,hb,b]
def Fn(P:Program)(k:FuncId)(args:List PV)(os:List AO)(R:PV->AH->Nat->Prop):Prop:=
 hP P k∧ ∀M N w (vs:List Value),Rel M N (· <os.length) (cP 0 os) w->args.length=vs.length->(∀(j:Nat) (p:PV),args[j]? =co p->VR M N (· <os.length) p (vs.getD j undef))->
  Calls P k vs.toArray w fun e w'=> ∃x u y r A b,e= .returned x∧R r A b∧Ext M N (· <os.length) (cP 0 os) w u y (· <b) A w'∧Rel u y (· <b) A w'∧VR u y (· <b) r x
def BN:List Nat->AH
 | []=> []
 |j::r=>(j,io)::BN r
def AH.keys:AH->List Nat
 | []=> []
 |(i,_)::r=>i::AH.keys r
theorem AH.get_append: ∀(a b:AH) (j:Nat),AH.get (a++b) j=if j∈a.keys then a.get j else b.get j
 | [],b,j=>by simp[AH.keys]
 |(i,o)::r,b,j=>by
  rw[PT,AH.au,AH.au,AH.get_append r b j];by_cases h:j=i
  .simp[h,AH.keys]
  .simp[h,AH.keys]
theorem uM: ∀L:List Nat,(BN L).keys=L
 | []=>rfl
 |j::r=>by simp[BN,AH.keys,uM r]
theorem xR: ∀(L:List Nat) (j:Nat),(BN L).get j=io
 | [],_=>rfl
 |i::r,j=>by rw[BN,AH.au,xR r j];split<;>rfl
theorem zg{L:List Nat}{n:Nat}(hnd:L.Nodup)(u: ∀j∈L,j<n): ∀i k,sig L n i=sig L n k->i=k:=by
 intro i k h;rcases PB i L.length with hi|hi<;>rcases PB k L.length with hk|hk
 .rw[ia hi,ia hk]at h;have x:=PL.1 hnd;rcases QW i k with b|he|hgt
  .exact absurd h (x i k hi hk b)
  .exact he
  .exact absurd h.symm (x k i hk hi hgt)
 .rw[ia hi,nu hk]at h;have:=u _ (Pm hi);omega
 .rw[nu hi,ia hk]at h;have:=u _ (Pm hk);omega
 .rw[nu hi,nu hk]at h;omega
section
variable {P:Program} {nt:NT} {s:AS}
def aQ(s:AS)(L:List Nat)(b:AH)(j:Nat):AS:={f:=s.f,h:=vg (sig L s.nx) b++(BN L++s.h),nx:=s.nx+(j-L.length)}
theorem Fn.calls{k:FuncId}{args:List PV}{os:List AO}{R:PV->AH->Nat->Prop}(hc:Fn P k args os R){L:List Nat}(hnd:L.Nodup)(hL: ∀j∈L,j<s.nx)
  (i0:L.map s.h.get=os.map fun o=>co (o.cj (sig L s.nx))) {M:Mem} {N:Nm} {w:World} (hr:Rel M N (· <s.nx) s.h w) {vs:List Value} (hl:args.length=vs.length)
  (hv: ∀(j:Nat) (p:PV),args[j]? =co p->VR M N (· <s.nx) (p.cj (sig L s.nx)) (vs.getD j undef)):
  Calls P k vs.toArray w fun e w'=> ∃x M' N' r h' n',e= .returned x∧R r h' n'∧Ext M N (· <s.nx) s.h w M' N' (· <(aQ s L h' n').nx) (aQ s L h' n').h w'∧
   Rel M' N' (· <(aQ s L h' n').nx) (aQ s L h' n').h w'∧VR M' N' (· <(aQ s L h' n').nx) (r.cj (sig L s.nx)) x:=by
 have b0:L.length=os.length:=by simpa using congrArg RP i0
 have hU:(fun i=>sig L s.nx i<s.nx)=(· <os.length):=by
  funext i
  apply propext;rcases PB i L.length with hi|hi
  .rw[ia hi];exact⟨fun _=>by omega,fun _=>hL _ (Pm hi)⟩
  .rw[nu hi];omega
 have e0: ∀i (hi:i<L.length),s.h.get L[i]=(os[i]?).map (AO.cj (sig L s.nx)):=by
  intro i hi;have:=congrArg (fun l=>l[i]?) i0;simp only[OH,OD hi,PI]at this;have I:os[i]? =co (os[i]'(by omega)):=OD (by omega);rw[I]at this ⊢;simpa using this
 have A: ∀i o,(cP 0 os).get i=co o->i<L.length∧s.h.get (sig L s.nx i)=co (o.cj (sig L s.nx)):=by
  intro i o hi;rw[pr,am (OS _),Q4]at hi;have c0:i<L.length:=by rw[b0];exact(OB.1 hi).1
  refine⟨c0,?_⟩;rw[ia c0,e0 i c0,hi];rfl
 have g0:Rel M (N.comp (sig L s.nx)) (· <os.length) (cP 0 os) w:=by
  refine⟨hr.dR,fun i o hi=>by rw[<-b0];exact(A i o hi).1,fun i o hi u=>hr.dD _ _ (A i o hi).2 ((AO.bQ _ o).trans u),fun i o hi=>?_,fun i j o p hi B I hp C=>?_⟩
  .have:=OR.pN (hr.obj _ _ (A i o hi).2);rw[hU]at this;exact this
  .exact zg hnd hL i j (hr.inj _ _ _ _ (A i o hi).2 (A j p B).2 ((AO.bQ _ o).trans I) ((AO.bQ _ p).trans hp) C)
 refine(hc.2 M (N.comp (sig L s.nx)) w vs g0 hl (fun j p hp=>by have:=(hv j p hp).pN Z;rw[hU]at this;exact this)).mono ?_;rintro e w' ⟨x,M',N',r,h',n',rfl,hR,hx,hr',hvr⟩;have k0:os.length<=n':=Qk fun c0=>by have:=hx.ule n' c0;omega
 let N2:Nm:={az:=fun j=>if j<s.nx then N.az j else N'.az (L.length+(j-s.nx)),ext:=fun j=>if j<s.nx then N.ext j else N'.ext (L.length+(j-s.nx))}
 have J:N.agree N2 (· <s.nx):=⟨fun i hi=>by simp[N2,hi],fun i hi=>by simp[N2,hi]⟩
 have Y: ∀i,N2.az (sig L s.nx i)=N'.az i∧N2.ext (sig L s.nx i)=N'.ext i:=by
  intro i;rcases PB i L.length with hi|hi
  .have h1:sig L s.nx i<s.nx:=by rw[ia hi];exact hL _ (Pm hi)
   have y:=hx.nm.az i (by omega);have G:=hx.nm.ext i (by omega);simp only[Nm.comp]at y G;simp[N2,h1,y,G]
  .rw[nu hi];have h1: ¬s.nx+(i-L.length)<s.nx:=by omega
   have y:L.length+(s.nx+(i-L.length)-s.nx)=i:=by omega
   constructor<;>simp only[N2,be h1,y]
 have a0:N'.agree (N2.comp (sig L s.nx)) (· <n'):=⟨fun i _=>(Y i).1,fun i _=>(Y i).2⟩
 have d0: ∀i,i<n'->sig L s.nx i<s.nx+(n'-L.length):=by
  intro i hi;rcases PB i L.length with h1|h1
  .rw[ia h1];have:=hL _ (Pm h1);omega
  .rw[nu h1];omega
 have D: ∀j o,(aQ s L h' n').h.get j=co o->(∃i p,j=sig L s.nx i∧h'.get i=co p∧o=p.cj (sig L s.nx))∨(j∉L∧s.h.get j=co o):=by
  intro j o B;simp only[aQ]at B;rw[AH.get_append]at B;split at B
  .exact .inl (rK h' j o B (fun i k _ h=>zg hnd hL i k h))
  .rw[AH.get_append]at B;split at B
   .rw[xR]at B;cases B
   .rename_i hd;rw[uM]at hd;exact .inr ⟨hd,B⟩
 have f0: ∀j o,j∉L->s.h.get j=co o->o.real=is->w'.heap[N.az j]? =w.heap[N.az j]? :=by
  intro j o B I u;refine hx.dc _ (hr.lt I u) (fun i p hi hp he=>?_);obtain⟨h1,y⟩:=A i p hi;have:=hr.inj _ _ _ _ y I ((AO.bQ _ p).trans hp) u he;rw[ia h1]at this;exact B (this▸Pm h1)
 refine⟨x,M',N2,r,h',n',rfl,hR,?_,?_,?_⟩
 .refine⟨hx.os,hx.tape,hx.output,hx.size,fun b hb j0=>hx.dc b hb (fun i o hi I he=>j0 _ _ (A i o hi).2 ((AO.bQ _ o).trans I) he),hx.mO,fun b c h1 y=>?_,J,fun i hi=>by simp only[aQ];omega,fun j o B u=>?_⟩
  .rcases hx.fO b c h1 y with G|⟨i,o,G,I,h4⟩
   .exact .inl G
   .exact .inr ⟨_,_,(A i o G).2,(AO.bQ _ o).trans I,h4⟩
  .rcases D j o B with⟨i,p,rfl,h1,rfl⟩|⟨h1,y⟩
   .rw[AO.bQ]at u;rw[(Y i).1];rcases hx.ff i p h1 u with G|⟨k,q,G,hq,h4⟩
    .exact .inl G
    .exact .inr ⟨_,_,(A k q G).2,(AO.bQ _ q).trans hq,h4⟩
   .exact .inr ⟨j,o,y,u,(J.az j (hr.used j o y)).symm⟩
 .refine⟨hr'.dR,fun j o B=>?_,fun j o B u=>?_,fun j o B=>?_,fun i j o p hi B I hp C=>?_⟩
  .rcases D j o B with⟨i,p,rfl,h1,rfl⟩|⟨h1,y⟩
   .exact d0 i (hr'.used i p h1)
   .have:=hr.used j o y;simp only[aQ];omega
  .rcases D j o B with⟨i,p,rfl,h1,rfl⟩|⟨h1,y⟩
   .rw[AO.bQ]at u;rw[(Y i).1];exact hr'.dD i p h1 u
   .rw[J.az j (hr.used j o y)];cases hm:M' (N.az j) with
    |none=>rfl
    |some c=>
     rcases hx.fO _ c (hr.dD j o y u) hm with G|⟨i,q,G,hq,h4⟩
     .have:=hr.lt y u;omega
     .obtain⟨h5,h6⟩:=A i q G;have:=hr.inj _ _ _ _ h6 y ((AO.bQ _ q).trans hq) u h4;rw[ia h5]at this;exact absurd (this▸Pm h5) h1
  .rcases D j o B with⟨i,p,rfl,h1,rfl⟩|⟨h1,y⟩
   .refine OR.cj ?_;exact(hr'.obj i p h1).mono (.refl _) a0 (fun i hi=>d0 i hi) (hr'.used i p h1) Z
   .cases u:o.real with
    |true=>exact(hr.obj j o y).mono hx.mO J (fun i hi=>by simp only[aQ];omega) (hr.used j o y) (f0 j o h1 y u)
    |false=>
     cases o with
     |row sz es=>cases es with
      |nil=>exact .inl Z
      |cons=>cases u
     |bf l T=>cases l with
      |nil=>exact .inl Z
      |cons=>cases u
     |_=>cases u
  .rcases D i o hi with⟨i',o',rfl,h1,rfl⟩|⟨h1,y⟩<;>rcases D j p B with⟨j',p',rfl,G,rfl⟩|⟨G,h4⟩
   .rw[AO.bQ]at I hp;rw[(Y i').1,(Y j').1]at C;rw[hr'.inj i' j' o' p' h1 G I hp C]
   .rw[AO.bQ]at I;rw[(Y i').1,J.az j (hr.used j p h4)]at C;rcases hx.ff i' o' h1 I with h5|⟨k,q,h5,hq,h6⟩
    .have:=hr.lt h4 hp;omega
    .obtain⟨h7,h8⟩:=A k q h5;have:=hr.inj _ _ _ _ h8 h4 ((AO.bQ _ q).trans hq) hp (h6.trans C);rw[ia h7]at this;exact absurd (this▸Pm h7) G
   .rw[AO.bQ]at hp;rw[J.az i (hr.used i o y),(Y j').1]at C;rcases hx.ff j' p' G hp with h5|⟨k,q,h5,hq,h6⟩
    .have:=hr.lt y I;omega
    .obtain⟨h7,h8⟩:=A k q h5;have:=hr.inj _ _ _ _ h8 y ((AO.bQ _ q).trans hq) I (h6.trans C.symm);rw[ia h7]at this;exact absurd (this▸Pm h7) h1
   .rw[J.az i (hr.used i o y),J.az j (hr.used j p h4)]at C;exact hr.inj _ _ _ _ y h4 I hp C
 .exact VR.cj (hvr.mono (.refl _) a0 (fun i hi=>d0 i hi))
def PV.plain:PV->PV
 | .kb b=> .iv (.v (.bool b))
 |p=>p
theorem VR.plain{M:Mem}{N:Nm}{U:Nat->Prop}{p:PV}{x:Value}(h:VR M N U p x):VR M N U p.plain x:=by
 cases h with
 |kb=>exact .iv _ _ (.v _)
 |iv _ _ h1=>exact .iv _ _ h1
 |agg _ _ h1 h2=>exact .agg _ _ h1 h2
 |bh _ _ h1 h2=>exact .bh _ _ h1 h2
 |ptr _ _ h1=>exact .ptr _ _ h1
 |cD _ _ _ _ h1=>exact .cD _ _ _ _ h1
 |dY _ _ h1=>exact .dY _ _ h1
 |mA _ _ _ h1=>exact .mA _ _ _ h1
 |sl _ _ _ _ _ h1 h2 h3 h4 h5=>exact .sl _ _ _ _ _ h1 h2 h3 h4 h5
 |lC _ _ h1=>exact .lC _ _ h1
 |sle _ _ _ h1 h2 h3=>exact .sle _ _ _ h1 h2 h3
 |mp _ h1=>exact .mp _ h1
 |bX _ _ _ _ _ h1 h2 h3 h4=>exact .bX _ _ _ _ _ h1 h2 h3 h4
 |any=>exact .any _
def bz(f:AF)(c:Call):Option (FuncId×List PV):=
 match c.callee with
 | .value g=>match ev f g with
  | .bX (.func k) first caps=>co (k,first++(c.args.toList.map (fun x=>(ev f x).plain)++caps))
  |_=>io
 |_=>io
theorem xQ{M:Mem}{N:Nm}{a:Act}{w:World}(hf:Fits M N s nt a w){o:Oper}{c:Call}(ho:o.op= .call c){k:FuncId}{asv:List PV}(ha:bz s.f c=co (k,asv))(hc:hP P k):
  ∃vs:List Value,(execOp a.eval o).run P w= .ok (.enter k vs.toArray) w∧asv.length=vs.length∧ ∀(j:Nat) (p:PV),asv[j]? =co p->VR M N (· <s.nx) p (vs.getD j undef):=by
 unfold bz at ha;obtain⟨callee,b,A⟩:=c;cases callee with
 |value g=>
  simp only at ha;have B:=aG hf.2.1 g;split at ha
  .rename_i Y first caps hev;simp only[OA,OK]at ha;obtain⟨rfl,rfl⟩:=ha;rw[hev]at B;generalize J:a.eval g=v at B;cases B with
   |bX _ _ _ f' c' h1 h2 hr1 hr2=>
    have G:(b.toList.map (fun x=>(ev s.f x).plain)).length=(b.map a.eval).size∧ ∀j p,(b.toList.map (fun x=>(ev s.f x).plain))[j]? =co p->VR M N (· <s.nx) p ((b.map a.eval).getD j undef):=by
     refine⟨by simp,fun j p u=>?_⟩;rw[OH,OJ]at u;obtain⟨x,R,rfl⟩:=u;have D:b[j]? =co x:=by simpa using R
     rw[Oz,QN,D];exact(aG hf.2.1 x).plain
    have y:(execOp a.eval o).run P w= .ok (.enter Y (f'++b.map a.eval++c')) w:=by
     simp only[execOp,ho,resolve,J,Deferred.ofValue,pure_bind,invoke];exact hc _ w
    have C: ∀(j:Nat) (p:PV),(first++(b.toList.map (fun x=>(ev s.f x).plain)++caps))[j]? =co p->VR M N (· <s.nx) p ((f'++b.map a.eval++c').toList.getD j undef):=by
     intro j p u;have I:(b.toList.map (fun x=>(ev s.f x).plain)).length=(b.map a.eval).size:=G.1;rw[OC,Q7,Q7,O0];rcases PB j first.length with hj|hj
     .rw[OV hj]at u;rw[OV (by simpa[<-h1]using hj)];have:=hr1 j p u;rw[Oz]at this;simpa using this
     .rw[OQ hj]at u;rw[OQ (by simpa[<-h1]using hj)];rcases PB (j-first.length) (b.toList.map (fun x=>(ev s.f x).plain)).length with hj2|hj2
      .rw[OV hj2]at u;rw[OV (by simp[<-h1]at hj2 ⊢;omega)];have:=G.2 _ p u;rw[Oz]at this;simpa[<-h1]using this
      .rw[OQ hj2]at u;rw[OQ (by simp[<-h1]at hj2 ⊢;omega)];have:=hr2 _ p u;rw[Oz]at this;simpa[<-h1]using this
    refine⟨(f'++b.map a.eval++c').toList,by rw[P1];exact y,?_,C⟩;simp[<-h1,<-h2]
  .cases ha
 |_=>simp at ha
theorem kV{o:Oper}{c:Call}(ho:o.op= .call c){k:FuncId}{asv:List PV}(ha:bz s.f c=co (k,asv)){args:List PV}{os:List AO}{R:PV->AH->Nat->Prop}(hc:Fn P k args os R)
  {L:List Nat} (hnd:L.Nodup) (hL: ∀j∈L,j<s.nx) (b0:L.map s.h.get=os.map fun o=>co (o.cj (sig L s.nx))) (y:asv=cW (sig L s.nx) args) {S:AS->Prop}
  (hS: ∀r B C,R r B C-> ∃s',putDst nt o (r.cj (sig L s.nx)) (aQ s L B C)=co s'∧S s'):OT P nt o s S:=by
 intro M N a w D K Z hk;unfold bz at ha;obtain⟨callee,b,a0⟩:=c;cases callee with
 |value g=>
  simp only at ha;have hg:=aG D.2.1 g;split at ha
  .rename_i k' first caps hev;simp only[OA,OK]at ha;obtain⟨rfl,rfl⟩:=ha;rw[hev]at hg;generalize hv:a.eval g=v at hg;cases hg with
   |bX _ _ _ f' c' h1 h2 hr1 hr2=>
    have hm:(b.toList.map (fun x=>(ev s.f x).plain)).length=(b.map a.eval).size∧ ∀j p,(b.toList.map (fun x=>(ev s.f x).plain))[j]? =co p->VR M N (· <s.nx) p ((b.map a.eval).getD j undef):=by
     refine⟨by simp,fun j p u=>?_⟩;rw[OH,OJ]at u;obtain⟨x,hx,rfl⟩:=u;have d0:b[j]? =co x:=by simpa using hx
     rw[Oz,QN,d0];exact(aG D.2.1 x).plain
    have J:(execOp a.eval o).run P w= .ok (.enter k' (f'++b.map a.eval++c')) w:=by
     simp only[execOp,ho,resolve,hv,Deferred.ofValue,pure_bind,invoke];exact hc.1 _ w
    unfold Oper.wp;rw[J];simp only[Oper.upon];have c0: ∀(j:Nat) (p:PV),(first++(b.toList.map (fun x=>(ev s.f x).plain)++caps))[j]? =co p->VR M N (· <s.nx) p ((f'++b.map a.eval++c').toList.getD j undef):=by
     intro j p u;have e0:(b.toList.map (fun x=>(ev s.f x).plain)).length=(b.map a.eval).size:=hm.1;rw[OC,Q7,Q7,O0];rcases PB j first.length with hj|hj
     .rw[OV hj]at u;rw[OV (by simpa[<-h1]using hj)];have:=hr1 j p u;rw[Oz]at this;simpa using this
     .rw[OQ hj]at u;rw[OQ (by simpa[<-h1]using hj)];rcases PB (j-first.length) (b.toList.map (fun x=>(ev s.f x).plain)).length with hj2|hj2
      .rw[OV hj2]at u;rw[OV (by simp[<-h1]at hj2 ⊢;omega)];have:=hm.2 _ p u;rw[Oz]at this;simpa[<-h1]using this
      .rw[OQ hj2]at u;rw[OQ (by simp[<-h1]at hj2 ⊢;omega)];have:=hr2 _ p u;rw[Oz]at this;simpa[<-h1]using this
    have I:args.length=(f'++b.map a.eval++c').toList.length:=by
     have:=congrArg RP y;simp[bx]at this;simp[<-h1,<-h2];omega
    have A:=hc.calls hnd hL b0 D.1 I (fun j p u=>by
     refine c0 j (p.cj (sig L s.nx)) ?_
     rw[y,bx,OH,u];rfl)
    rw[P1]at A;refine A.mono ?_;rintro e w' ⟨x,M',N',r,B,C,rfl,hR,hx,hr,hvr⟩;obtain⟨s',u,Y⟩:=hS r B C hR;have G:Fits M' N' (aQ s L B C) nt a w':=⟨hr,D.2.1.ext hx,D.2.2⟩
    show K (a.put o.dst x) w';cases hd:o.dst with
    |none=>
     have:=eM u hd;subst this;exact hk M' N' _ _ w' hx G Y
    |some d=>
     obtain⟨h1,rfl⟩:=eL u hd;exact hk M' N' {aQ s L B C with f:=(d,r.cj (sig L s.nx))::(aQ s L B C).f} _ w' hx (G.put d _ x h1 hvr) Y
  .cases ha
 |_=>simp at ha
def kY:Nat->List PV->AF
 |_,[]=> []
 |n,p::r=>(n,p)::kY (n+1) r
theorem oO: ∀(l:List PV) (n i:Nat),(kY n l).get i=if n<=i then l.getD (i-n) .any else .any
 | [],n,i=>by simp[kY,AF.get]
 |p::r,n,i=>by
  simp only[kY];rw[AF.au,oO r (n+1) i];by_cases h:i=n
  .subst h;simp
  .by_cases b:n<=i
   .rw[be h,am (by omega),am b,show i-n=(i-(n+1))+1 by omega];simp
   .rw[be h,be (by omega),be b]
def vd(ty:Ty)(s:AS):ResultVar->Option PV
 | .tmp t=>match s.f.get t with
  | .kb b=>co (.iv (.v (.bool b)))
  |p=>co p
 | .cell a t=>match ty t with
  |some e=>match behind s.h (s.f.get a) with
   |some cs=>fz e cs
   |none=>io
  |none=>io
def o8(ty:Ty)(s:AS):List ResultVar->Option (List PV)
 | []=>co []
 |v::r=>match vd ty s v with
  |some p=>match o8 ty s r with
   |some l=>co (p::l)
   |none=>io
  |none=>io
def iF(ty:Ty)(s:AS)(l:List ResultVar):Option PV:=
 match o8 ty s l with
 |some [p]=>co p
 |some l=>co (.bh l)
 |none=>io
def nA(tmps:Array Value):ResultVar->Sem Value
 | .tmp t=>pure (tmps.getD t undef)
 | .cell a t=>do loadVar t (<-asAddr (tmps.getD a undef))
theorem A8{ty:Ty}(A:bn P ty){M:Mem}{N:Nm}{a:Act}{w:World}(hf:Fits M N s nt a w){v:ResultVar}{p:PV}(h:vd ty s v=co p):
  ∃x,(nA a.tmps v).run P w= .ok x w∧VR M N (· <s.nx) p x:=by
 cases v with
 |tmp t=>
  simp only[vd]at h;have:=hf.2.1 t;split at h
  .rename_i b hb;simp only[OA]at h;subst h;rw[hb]at this;refine⟨_,rfl,?_⟩;show VR M N _ _ (a.tmps.getD t undef);generalize a.tmps.getD t undef=v at this;cases this;exact .iv _ _ (.v _)
  .simp only[OA]at h;subst h;exact⟨_,rfl,this⟩
 |cell b t=>
  simp only[vd]at h;split at h
  .rename_i e B;split at h
   .rename_i J u;obtain⟨I,a0,D,j⟩:=uT hf.1 (hf.2.1 b) u;obtain⟨y,G,C⟩:=pZ (P:=P) (A t e B) j h;refine⟨y,?_,C⟩;simp only[nA,D,asAddr,pure_bind];exact G
   .cases h
  .cases h
theorem tX{ty:Ty}(u:bn P ty){M:Mem}{N:Nm}{a:Act}{w:World}(hf:Fits M N s nt a w): ∀{l:List ResultVar} {y:List PV},o8 ty s l=co y->
  ∃A:List Value,(l.mapM (nA a.tmps)).run P w= .ok A w∧y.length=A.length∧ ∀(j:Nat) (p:PV),y[j]? =co p->VR M N (· <s.nx) p (A.getD j undef)
 | [],y,h=>by
  simp only[o8,OA]at h;subst h;exact⟨[],rfl,rfl,by simp⟩
 |v::r,y,h=>by
  simp only[o8]at h;split at h
  .rename_i p G;split at h
   .rename_i l hl;simp only[OA]at h;subst h;obtain⟨x,J,I⟩:=A8 u hf G;obtain⟨A,D,b,C⟩:=tX u hf hl;refine⟨x::A,?_,by simp[b],fun j q B=>?_⟩
    .rw[List.mapM_cons,Sem.run_bind,J,Result.andThen_ok,Sem.run_bind,D];rfl
    .cases j with
     |zero=>simp at B;subst B;exact I
     |succ j=>simpa using C j q (by simpa using B)
   .cases h
  .cases h
theorem ve{ty:Ty}(G:bn P ty){M:Mem}{N:Nm}{a:Act}{w:World}(hf:Fits M N s nt a w){fn:Func}{l:List ResultVar}(hl:fn.results.toList=l){p:PV}(h:iF ty s l=co p):
  ∃x,(results fn a.tmps).run P w= .ok x w∧VR M N (· <s.nx) p x:=by
 unfold iF at h;have key: ∀C,o8 ty s l=co C-> ∃u:List Value,(fn.results.mapM (nA a.tmps)).run P w= .ok u.toArray w∧C.length=u.length∧ ∀(j:Nat) (p:PV),C[j]? =co p->VR M N (· <s.nx) p (u.getD j undef):=by
  intro C B;obtain⟨u,h1,b,D⟩:=tX G hf B;refine⟨u,?_,b,D⟩;have e:fn.results.mapM (nA a.tmps)=(List.toArray<$>(fn.results.toList.mapM (nA a.tmps))):=by
   rw[Ru]
  rw[e,hl,Sem.run_map,h1];rfl
 have y:results fn a.tmps=(do let vs<-fn.results.mapM (nA a.tmps);pure (if h:vs.size=1 then vs[0] else .tuple vs)):=by
  unfold results;rfl
 split at h
 .rename_i q J;simp only[OA]at h;subst h;obtain⟨u,h1,b,D⟩:=key _ J
  match u,b with
  | [x],_=>
   refine⟨x,?_,by simpa using D 0 q Z⟩;rw[y,Sem.run_bind,h1];rfl
 .rename_i C A B;simp only[OA]at h;subst h;obtain⟨u,h1,b,D⟩:=key _ B;refine⟨.tuple u.toArray,?_,.bh _ _ (by simpa using b) (fun j p I=>?_)⟩
  .rw[y,Sem.run_bind,h1,Result.andThen_ok];have: ¬u.toArray.size=1:=by
    intro e
    match C,A,b with
    | [q],A,_=>exact A q Z
    | [],_,b=>simp at b e;omega
    |_::_::_,_,b=>simp at b e;omega
   rw[dif_neg this];rfl
  .have:=D j p I;rw[Oz];rw[OC]at this;simpa using this
 .cases h
theorem yN {ty:Ty} (J:bn P ty) {k:FuncId} {fn:Func} {c:Code} (hf:P.funcs[k]? =co fn) (hb:fn.body=co c) (hn:(fn.name== "runtime.NumGoroutine")=jp) {nt:Nat} (c0:fn.ntmps=nt)
  {l:List ResultVar} (hl:fn.results.toList=l) {args:List PV} (b0:args.length<=nt) {os:List AO} {R:PV->AH->Nat->Prop}
  (h:GO P nt [.code c] (fun e s=>(e= .normal∨e= .ret)∧ ∃r,iF ty s l=co r∧R r s.h s.nx) ⟨kY 0 args,cP 0 os,os.length⟩):Fn P k args os R:=by
 refine⟨bc hf hb hn,fun M N w vs hr A hv=>?_⟩;refine calls_of_wp hf hb ?_;have y:Fits M N ⟨kY 0 args,cP 0 os,os.length⟩ nt {tmps:=vs.toArray++P4 (fn.ntmps-vs.toArray.size) undef,defers:=[]} w:=by
  refine⟨hr,fun i=>?_,rfl,by simp;omega⟩;rw[oO,am (OS _),Q4,OC];cases hi:args[i]? with
  |none=>exact .any _
  |some p=>
   have D:i<vs.length:=by rw[<-A];exact(OB.1 hi).1
   have:=hv i p hi;have e:(vs.toArray++P4 (fn.ntmps-vs.toArray.size) undef).getD i undef=vs.getD i undef:=by
    rw[Oz,Pc (by simpa using D),OC];simp
   simp only[PA];rw[e];exact this
 refine AW.then h y fun e a' w' j u s' hx b hq=>?_;simp only[kp]at hq;obtain⟨he,r,G,I⟩:=hq;obtain⟨x,Y,a0⟩:=ve J b hl G
 have:a'.defers=[]∧ ∃v,(results fn a'.tmps).run P w'= .ok v w'∧(∃x j u r C B,Ending.returned v= .returned x∧R r C B∧Ext M N (· <os.length) (cP 0 os) w j u (· <B) C w'∧Rel j u (· <B) C w'∧VR j u (· <B) r x):=
  ⟨b.2.2.1,x,Y,x,j,u,r,s'.h,s'.nx,rfl,I,hx,b.1,a0⟩
 rcases he with rfl|rfl<;>exact this
end
theorem Bt{ops:Array Oper}{o:Oper}(hs: ∀u b,o.op≠ .select u b){a b:Act}(h: ∀d∈o.looksAt ops,a.tmps[d]? =b.tmps[d]?):
  execOp a.eval o=execOp b.eval o∧Region.wanted o (Go.yielded ops a.tmps)=Region.wanted o (Go.yielded ops b.tmps):=by
 constructor
 .refine execOp_congr o hs fun x y=>?_
  cases x with
  |tmp t=>
   have:=h t (Ph _ (List.mem_filterMap.2 ⟨.tmp t,by simpa using y,rfl⟩));simp only[Act.eval,Oz,this]
  |_=>rfl
 .unfold Region.wanted;cases hg:o.guard with
  |none=>rfl
  |some gw=>
   obtain⟨g,j⟩:=gw;have A:Go.yielded ops a.tmps g=Go.yielded ops b.tmps g:=by
    unfold Go.yielded;cases ht:(ops[g]?).bind (·.dst) with
    |none=>rfl
    |some t=>
     have:=h t (by simp[Oper.looksAt,hg,ht]);simp[this]
   simp only[A]
theorem jo{all:List Oper}{o x:Oper}(h:looks all o x=jp){d:Nat}(hd:x.dst=co d):d∉o.looksAt all.toArray:=by
 simp only[looks,hd]at h;simpa using h
theorem fu{o:Oper}{i:Nat}(h:waits o i=is): ∃e∈o.after,Region.binds .any e=is∧e.on=i:=by
 unfold waits at h;obtain⟨e,b,hb⟩:=PO.1 h;simp only[Pq]at hb;exact⟨e,by simpa using b,hb.1,OU hb.2⟩
theorem gW: ∀(l:List Oper) (n i:Nat) (o:Oper),fZ n l=is->l[i]? =co o-> ∀e∈o.after,Region.binds .any e=is->e.on<n+i
 | [],n,i,o,_,h=>by simp at h
 |c::l,n,i,o,hd,h=>by
  simp only[fZ,Pq,Pj]at hd;cases i with
  |zero=>
   simp at h;subst h;intro e b hb;have:=hd.1 e (by simpa using b);simp only[hb,QS,Qo]at this;exact Oy this
  |succ i=>
   have:=gW l (n+1) i o hd.2 (by simpa using h);intro e b hb;have:=this e b hb;omega
theorem count_set: ∀(l:List Bool) (i:Nat),l[i]? =co jp->(l.set i is).count jp+1=l.count jp
 | [],i,h=>by simp at h
 |c::l,0,h=>by simp at h;subst h;simp
 |c::l,i+1,h=>by
  have:=count_set l i (by simpa using h);simp only[List.set_cons_succ,List.count_cons];omega
theorem dS{listed:Array Bool}{i:Nat}(h:listed.getD i is=jp):(listed.setIfInBounds i is).toList.count jp+1=listed.toList.count jp:=by
 have b:listed.toList[i]? =co jp:=by
  rw[Oz]at h;cases hc:listed[i]? with
  |none=>simp[hc]at h
  |some c=>simp[hc]at h;subst h;simpa using hc
 have:=count_set _ _ b;rw[Array.toList_setIfInBounds];exact this
theorem pF{listed:Array Bool}{i:Nat}(h:listed.getD i is=jp):0<listed.toList.count jp:=by have:=dS h;omega
theorem dW{listed:Array Bool}{i k:Nat}(hi:i<listed.size):(listed.setIfInBounds i is).getD k is=if k=i then is else listed.getD k is:=by
 by_cases hk:k=i
 .subst hk;simp[Oz,hi]
 .rw[be hk,Oz,O5,be (fun e=>hk e.symm),Oz]
theorem dI{listed:Array Bool}{i:Nat}(h:listed.getD i is=jp):i<listed.size:=by
 rcases PB i listed.size with h'|h'
 .exact h'
 .simp[Oz,QP h']at h
theorem kW{listed:Array Bool}{i:Nat}(h:listed.getD i is=jp):listed.getD i jp=jp:=by
 have:=dI h;rw[Oz] at*
 simpa[this]using h
theorem nD{all:List Oper}{listed:Array Bool}(y:listed.size=all.length)(hd:fZ 0 all=is)(hr:Region.ready .any all.toArray listed=[]): ∀i,listed.getD i is=is:=by
 intro i
 induction i using Nat.strongRecOn with
 |_ i ih=>
  cases hc:listed.getD i is with
  |true=>rfl
  |false=>
   have A:=dI hc;have j:all[i]? =co (all[i]'(by omega)):=OD (by omega);have:i∈Region.ready .any all.toArray listed:=by
    refine mem_ready.2 ⟨hc,_,(by rw[Pt];exact j),fun e u hb=>?_⟩;have x:=gW all 0 i _ hd j e u hb;have:=ih e.on (by omega);have b:e.on<listed.size:=by omega
    rw[Oz]at this ⊢;simpa[b]using this
   rw[hr]at this;cases this
section
variable {P:Program} {nt:NT} {all:List Oper} {todo pend:List (Nat×Oper)} {M:Mem} {N:Nm} {s:AS} {listed:Array Bool} {a:Act} {w:World} {Q:AQ}
theorem mY.alloc{B:Bs}{o:Oper}{az:Nat}(h:mY P M N s B a w o az):aN o=is:=by
 obtain⟨t,v,d,h1,_⟩:=h;simp[aN,h1]
theorem hQ.s7(b:hQ P nt all){i j:Nat}{o q:Oper}(hi:all[i]? =co o)(hj:all[j]? =co q)(ha:aN o=is)(hw:waits q i=jp)(hne:j≠i):looks all q o=jp:=by
 rcases((b i o hi ha).2.2.2.2 j q hj hne).1 with h|h
 .rw[hw]at h;cases h
 .exact h
theorem k9.same{b:Act}(hb: ∀d,(∀x∈pend,listed.getD x.1 is=jp->x.2.dst≠co d)->(∀x∈todo,listed.getD x.1 is=is->x.2.dst≠co d)->a.tmps[d]? =b.tmps[d]?)
  (hns:Region.noSelect all.toArray=is) {i:Nat} {o:Oper} (ho:all[i]? =co o) (hr:i∈Region.ready .any all.toArray listed) (hp: ∀x∈pend,waits o x.1=is∨looks all o x.2=jp)
  (D: ∀x∈todo,listed.getD x.1 is=is->looks all o x.2=jp):
  execOp a.eval o=execOp b.eval o∧Region.wanted o (Go.yielded all.toArray a.tmps)=Region.wanted o (Go.yielded all.toArray b.tmps):=by
 refine Bt (Region.noSelect_spec hns i o · · (by simpa using ho)) fun d hd=>hb d (fun x C hl u=>?_) (fun x C hl u=>jo (D x C hl) u hd);rcases hp x C with h|h
 .obtain⟨e,u,y,B⟩:=fu h;obtain⟨_,G,A,j⟩:=mem_ready.1 hr;have:G=o:=by have:=A.symm.trans (by simpa using ho:all.toArray[i]? =co o);exact Pl this
  subst this;have h1:=j e u y;rw[B,kW hl]at h1;cases h1
 .exact jo h u hd
theorem eJ(a:Act)(a0:Option Tmp)(v:Value)(d:Nat):(a.put a0 v).tmps[d]? =if a0=co d∧d<a.tmps.size then co v else a.tmps[d]? :=by
 cases a0 with
 |none=>simp[Act.put]
 |some e=>
  simp only[Act.put,OA];rw[O5];by_cases h:e=d
  .subst h;by_cases b:e<a.tmps.size
   .simp[b]
   .simp[b]
  .simp[h]
theorem gG(a:Act)(a0:Option Tmp)(v:Value):(a.put a0 v).tmps.size=a.tmps.size:=by cases a0<;>simp[Act.put]
theorem jm(a:Act)(a0:Option Tmp)(v:Value):(a.put a0 v).defers=a.defers:=by cases a0<;>rfl
theorem ua(a:Act)(a0:Option Tmp)(v:Value):(a.put a0 v).put a0 v=a.put a0 v:=by cases a0<;>simp[Act.put]
theorem mY.put{B:Bs}{o:Oper}{az:Nat}(h:mY P M N s B a w o az){a0:Option Tmp}{v:Value}(hd: ∀d,o.dst=co d->a0≠co d):mY P M N s B (a.put a0 v) w o az:=by
 obtain⟨t,u,d,h1,j,b,x,y⟩:=h;refine⟨t,u,d,h1,j,b,?_,y⟩;rw[eJ,be (fun A=>hd d b A.1)];exact x
theorem k9.take{B:Bs}(hi:k9 P nt all todo pend B M N s listed a w)(hns:Region.noSelect all.toArray=is)(d0:hQ P nt all){x:Nat×Oper}(C:x∈pend)(hr:x.1∈Region.ready .any all.toArray listed):
  ∃v,YieldsAt P all.toArray w x.2 v a∧k9 P nt all todo pend B M N s (listed.setIfInBounds x.1 is) (a.put x.2.dst v) w:=by
 obtain⟨b,hb,b0,k0,c0,G⟩:=hi.ap;obtain⟨bl,e0,m0⟩:=hi.er;have hl:=(mem_ready.1 hr).1;obtain⟨v,hv,a0⟩:=G x C hl;have I: ∀y∈todo,listed.getD y.1 is=is->looks all x.2 y.2=jp∧ ∀d,y.2.dst=co d->x.2.dst≠co d:=fun y j u=>by
  have J:=(e0 y j u).alloc;exact⟨d0.s7 (hi.tl y j) (hi.pl x C) J (hi.pa x C y j J) (fun e=>hi.dj x C y j e.symm),((d0 _ _ (hi.tl y j) J).2.2.2.2 _ _ (hi.pl x C) (fun e=>hi.dj x C y j e.symm)).2⟩
 have A:=k9.same c0 hns (hi.pl x C) hr (fun y G=>hi.pp y G x C) (fun y j u=>(I y j u).1);have Y:=dI hl;have f0: ∀k,(listed.setIfInBounds x.1 is).getD k is=jp->k≠x.1∧listed.getD k is=jp:=by
  intro k hk;rw[dW Y]at hk;split at hk
  .cases hk
  .rename_i h;exact⟨h,hk⟩
 have D: ∀y∈todo,(listed.setIfInBounds x.1 is).getD y.1 is=listed.getD y.1 is:=fun y G=>by rw[dW Y,be (hi.dj x C y G)]
 refine⟨v,hv.of_same A.1 A.2,⟨by simp[hi.size],hi.tl,hi.pl,hi.dj,fun i o ho hu=>hi.Hq i o ho (f0 i hu).2,hi.pw,hi.pp,hi.pa,⟨bl,fun y j u=>?_,fun y j z i0 h1 h2=>?_⟩,b,hb,by rw[gG,b0],by rw[jm,k0],fun d hd j0=>?_,fun y n0 hu=>?_⟩⟩
 .rw[D y j]at u;exact(e0 y j u).put (I y j u).2
 .rw[D y j]at h1;rw[D z i0]at h2;exact m0 y j z i0 h1 h2
 .rw[eJ];split
  .rename_i h;rw[<-a0,eJ,am ⟨h.1,by rw[<-b0];exact h.2⟩]
  .rename_i h;by_cases R:x.2.dst=co d
   .have h2: ¬d<a.tmps.size:=fun h3=>h ⟨R,h3⟩
    rw[QP (Qk h2),QP (by rw[<-b0];exact Qk h2)]
   .refine c0 d (fun y G hu he=>?_) (fun y j u=>j0 y j (by rw[D y j];exact u));by_cases g0:y.1=x.1
    .have h3:=hi.pl y G;rw[g0,hi.pl x C]at h3;rw[Pl h3]at R;exact R he
    .exact hd y G (by rw[dW Y,be g0];exact hu) he
 .exact G y n0 (f0 _ hu).2
theorem Rel.more{M:Mem}{N:Nm}{n:Nat}{h:AH}{w w':World}(hr:Rel M N (· <n) h w)(hk: ∀b,b<w.heap.size->w'.heap[b]? =w.heap[b]?):Rel M N (· <n) h w':=by
 refine⟨fun b c hb=>?_,hr.used,hr.dD,fun i o j=>?_,hr.inj⟩
 .exact(hr.dR b c hb).mono (hk b (hr.dR b c hb).lt)
 .cases hre:o.real with
  |true=>exact(hr.obj i o j).mono (.refl _) (.refl _ _) (fun _ h=>h) (hr.used i o j) (hk _ (hr.lt j hre))
  |false=>
   cases o with
   |row sz es=>cases es with
    |nil=>exact .inl Z
    |cons=>cases hre
   |bf l T=>cases l with
    |nil=>exact .inl Z
    |cons=>cases hre
   |_=>cases hre
theorem yr{ops:Array Oper}(h: ∀i,listed.getD i is=is):Region.ready .any ops listed=[]:=by
 cases hr:Region.ready .any ops listed with
 |nil=>rfl
 |cons i r=>
  have:i∈Region.ready .any ops listed:=by rw[hr];simp
  have:=(mem_ready.1 this).1;rw[h i]at this;cases this
theorem k9.done{B:Bs}(hi:k9 P nt all [] pend B M N s listed a w)(j: ∀i,listed.getD i is=is):Fits M N s nt a w:=by
 obtain⟨b,hb,C,u,y,_⟩:=hi.ap;have A:a.tmps=b.tmps:=Array.ext_getElem? fun d=>y d (fun x _ hu=>by rw[j]at hu;cases hu) (fun _ D=>(nomatch D));have:a=b:=by cases a;cases b;simp only at A u;subst A;subst u;rfl
 rw[this];exact hb
theorem K1(h:Q .normal s):DL P nt all [] pend Q s:=by
 intro C hd y B M N listed a w b I
 induction b generalizing listed a with
 |zero=>
  intro u Y;have j: ∀i,listed.getD i is=is:=fun i=>by
   cases hx:listed.getD i is with
   |true=>rfl
   |false=>have:=pF hx;omega
  exact⟨yr j,M,N,s,I,u.done j,h⟩
 |succ b ih=>
  intro u Y;refine⟨fun hr=>⟨M,N,s,I,u.done (nD u.size hd hr),h⟩,fun i x=>?_⟩;obtain⟨hu,o,J,_⟩:=mem_ready.1 x;have D:all[i]? =co o:=by simpa using J
  rcases u.Hq i o D hu with hm|hm
  .cases hm
  .obtain⟨v,hv,A⟩:=u.take C y hm x;refine wpOp_of_stOp (K:=fun G=>G=a.put o.dst v) (fun G R=>?_) (hv.stOp J Z);subst R;exact ih _ _ A (by have:=dS hu;omega)
def tD(all:List Oper)(pend:List (Nat×Oper))(o:Oper):Bool:=
 !looks all o o&&pend.all fun y=>!looks all y.2 o&&(waits o y.1||!looks all o y.2)&&(match o.dst,y.2.dst with|some d,co e=>!O2 d e|_,_=>is)
theorem k9.read{B:Bs}(hi:k9 P nt all todo pend B M N s listed a w)(hns:Region.noSelect all.toArray=is){i:Nat}{o:Oper}{s':AS}(C:(i,o)∈todo)(k0:aN o=jp)(p0: ∀x∈todo,waits o x.1=jp)(j:tD all pend o=is)(he:s'.h=s.h∧s'.nx=s.nx)
  (hy: ∀M N b w,Fits M N s nt b w-> ∃v,YieldsAt P all.toArray w o v b∧Fits M N s' nt (b.put o.dst v) w):k9 P nt all (todo.filter fun x=>!O2 x.1 i) ((i,o)::pend) B M N s' listed a w:=by
 have G: ∀x∈todo.filter fun x=>!O2 x.1 i,x∈todo∧x.1≠i:=fun x hx=>by
  obtain⟨h7,h8⟩:=Pa.1 hx;exact⟨h7,fun e=>by simp[e]at h8⟩
 have h1: ∀x∈todo,x=(i,o)∨x∈todo.filter fun x=>!O2 x.1 i:=fun x hx=>by
  by_cases D:x.1=i
  .have I:=hi.tl x hx;rw[D,hi.tl _ C]at I;exact .inl (by obtain⟨x1,x2⟩:=x;simp only at D I;rw[D,Pl I])
  .exact .inr (Pa.2 ⟨hx,by cases hb:O2 x.1 i with|false=>rfl|true=>exact absurd (OU hb) D⟩)
 simp only[tD,Pq,Pj,PF]at j;obtain⟨b,hb,m0,g0,b0,q0⟩:=hi.ap;obtain⟨bl,Y,j0⟩:=hi.er;have a0:listed.getD i is=jp:=by
  cases hl:listed.getD i is with
  |false=>rfl
  |true=>have:=(Y _ C hl).alloc;simp only at this;rw[k0]at this;cases this
 obtain⟨v,hv,hf⟩:=hy M N b w hb;refine⟨hi.size,fun x hx=>hi.tl x (G x hx).1,fun x hx=>?_,fun x hx y hy=>?_,fun k q hk hu=>?_,?_,fun x hx y hy=>?_,fun y hyp x hx c0=>?_,⟨bl,fun x hx hl=>?_,fun x hx y hy=>j0 x (G x hx).1 y (G y hy).1⟩,b.put o.dst v,hf,by rw[gG,m0],by rw[jm,g0],fun d J f0=>?_,fun x hx hu=>?_⟩
 .rcases OP.1 hx with rfl|hx
  .exact hi.tl _ C
  .exact hi.pl x hx
 .rcases OP.1 hx with rfl|hx
  .exact(G y hy).2
  .exact hi.dj x hx y (G y hy).1
 .rcases hi.Hq k q hk hu with hm|hm
  .rcases h1 _ hm with e|hm
   .exact .inr (by rw[e];simp)
   .exact .inl hm
  .exact .inr (ON _ hm)
 .refine PG.2 ⟨fun y hy=>⟨(j.2 y hy).1.1,fun d R i0=>?_⟩,hi.pw⟩;have:=(j.2 y hy).2;simp only at R;rw[R,i0]at this;simp at this
 .rcases OP.1 hx with rfl|hx<;>rcases OP.1 hy with rfl|hy
  .exact .inr j.1
  .exact .inr (j.2 y hy).1.1
  .have:=(j.2 x hx).1.2;simpa using this
  .exact hi.pp x hx y hy
 .rcases OP.1 hyp with rfl|hyp
  .exact p0 x (G x hx).1
  .exact hi.pa y hyp x (G x hx).1 c0
 .have I:=Y x (G x hx).1 hl;unfold mY at*
  rw[he.1];exact I
 .rw[eJ,be (fun hc=>J (i,o) (by simp) a0 hc.1)];refine b0 d (fun x hx=>J x (ON _ hx)) (fun x hx hl=>?_);rcases h1 x hx with e|hx
  .rw[e]at hl;simp only at hl;rw[a0]at hl;cases hl
  .exact f0 x hx hl
 .have A: ∀x:Oper,looks all x o=jp-> ∀d,o.dst=co d->d∉x.looksAt all.toArray:=fun x hx d hd=>jo hx hd
  rcases OP.1 hx with rfl|hx
  .exact⟨v,hv.of_same (execOp_put o (fun cs b=>Region.noSelect_spec hns i o cs b (by simpa using hi.tl _ C)) b o.dst v (A o j.1)) (wanted_put o b o.dst v (A o j.1)),ua _ _ _⟩
  .obtain⟨u,n0,o0⟩:=q0 x hx hu;have hl:=(j.2 x hx).1.1;refine⟨u,n0.of_same (execOp_put x.2 (fun cs b=>Region.noSelect_spec hns x.1 x.2 cs b (by simpa using hi.pl x hx)) b o.dst v (A x.2 hl)) (wanted_put x.2 b o.dst v (A x.2 hl)),?_⟩;rw[Act.put_comm b v u (fun d d0 e0=>?_),o0];have:=(j.2 x hx).2;rw[d0,e0]at this;simp at this
theorem Ao{i:Nat}{o:Oper}{s':AS}(C:(i,o)∈todo)(D:aN o=jp)(G: ∀x∈todo,waits o x.1=jp)(u:tD all pend o=is)(he:s'.h=s.h∧s'.nx=s.nx)
  (Y: ∀M N b w,Fits M N s nt b w-> ∃v,YieldsAt P all.toArray w o v b∧Fits M N s' nt (b.put o.dst v) w) (h:DL P nt all (todo.filter fun x=>!O2 x.1 i) ((i,o)::pend) Q s'):DL P nt all todo pend Q s:=by
 intro y hd A B M N listed a w j I R J;exact h y hd A B M N listed a w j (by unfold Bs.ext at*;rw[he.1,he.2];exact I) (R.read y C D G u he Y) J
theorem mB(hns:Region.noSelect all.toArray=is): ∀{pend:List (Nat×Oper)},(∀x∈pend,all[x.1]? =co x.2)->(pend.Pairwise fun x y=>looks all y.2 x.2=jp∧ ∀d,x.2.dst=co d->y.2.dst≠co d)->
  (∀x∈pend,looks all x.2 x.2=jp)->(∀x∈pend,eB P nt all s x.2)-> ∀{b:Act},Fits M N s nt b w->
  ∃c:Act,Fits M N s nt c w∧c.tmps.size=b.tmps.size∧c.defers=b.defers∧(∀d,(∀x∈pend,listed.getD x.1 is=jp->x.2.dst≠co d)->c.tmps[d]? =b.tmps[d]?)∧
   (∀x∈pend,listed.getD x.1 is=jp-> ∃v,YieldsAt P all.toArray w x.2 v c∧c.put x.2.dst v=c)
 | [],_,_,_,_,b,hb=>⟨b,hb,rfl,rfl,fun _ _=>rfl,fun x hx=>by cases hx⟩
 |(i,o)::pend,hpl,hpw,hse,hag,b,hb=>by
  rw[PG]at hpw;obtain⟨c,hc,G,D,B,C⟩:=mB hns (pend:=pend) (fun x hx=>hpl x (ON _ hx)) hpw.2 (fun x hx=>hse x (ON _ hx)) (fun x hx=>hag x (ON _ hx)) hb;cases hu:listed.getD i is with
  |true=>
   refine⟨c,hc,G,D,fun d hd=>B d fun x hx=>hd x (ON _ hx),fun x hx A=>?_⟩;rcases OP.1 hx with rfl|hx
   .rw[hu]at A;cases A
   .exact C x hx A
  |false=>
   obtain⟨v,hv,hf⟩:=hag (i,o) (by simp) M N c w hc;have j: ∀x:Oper,looks all x o=jp-> ∀d,o.dst=co d->d∉x.looksAt all.toArray:=fun x hx d hd=>jo hx hd;refine⟨c.put o.dst v,hf,by rw[gG,G],by rw[jm,D],fun d hd=>?_,fun x hx A=>?_⟩
   .rw[eJ,be (fun h=>hd (i,o) (by simp) hu h.1)];exact B d fun x hx=>hd x (ON _ hx)
   .rcases OP.1 hx with rfl|hx
    .have hl:=hse (i,o) (by simp);exact⟨v,hv.of_same (execOp_put o (fun I b=>Region.noSelect_spec hns i o I b (by simpa using hpl (i,o) (by simp))) c o.dst v (j o hl)) (wanted_put o c o.dst v (j o hl)),ua _ _ _⟩
    .obtain⟨u,Y,a0⟩:=C x hx A;have hl:=(hpw.1 x hx).1;refine⟨u,Y.of_same (execOp_put x.2 (fun I b=>Region.noSelect_spec hns x.1 x.2 I b (by simpa using hpl x (ON _ hx))) c o.dst v (j x.2 hl)) (wanted_put x.2 c o.dst v (j x.2 hl)),?_⟩;rw[Act.put_comm c v u (fun d J R=>(hpw.1 x hx).2 d J R),a0]
theorem ER{o:Oper}{a b:Act}{w:World}{K K':Act->World->Prop}{Q:Exit->Act->World->Prop}(he:execOp a.eval o=execOp b.eval o)(j: ∀d w',¬K' ({b with defers:=d::b.defers}.put o.dst undef) w')
  (hk: ∀v w',K' (b.put o.dst v) w'->K (a.put o.dst v) w') (h:o.wp P b w K' fun _ _ _=>False):o.wp P a w K Q:=by
 unfold Oper.wp at*
 rw[he];generalize(execOp b.eval o).run P w=r at*
 cases r with
 |ok n w'=>
  cases n<;>simp only[Oper.upon]at h ⊢
  case value v=>exact hk _ _ h
  case skip=>exact hk _ _ h
  case defer d=>exact absurd h (j d w')
  case enter f args=>
   refine Calls.mono h fun e u he=>?_
   cases e with
   |returned v=>exact hk _ _ he
   |panicked c=>exact he.elim
   |outgrown=>obtain⟨_,_,h⟩:=he;exact h.elim
  case row row args=>exact Rows.mono h fun v u he=>hk _ _ he
 |halt x w'=>cases x<;>simp only[Oper.upon]at h ⊢
def gI(all:List Oper)(pend:List (Nat×Oper))(o:Oper):Bool:=pend.all fun x=>waits o x.1||!looks all o x.2
theorem k9.early{B:Bs}(hi:k9 P nt all todo pend B M N s listed a w)(hns:Region.noSelect all.toArray=is)(hd:fZ 0 all=is)(k0:hQ P nt all)(hB:B.ext M N s w)(b0: ∀x∈pend,eB P nt all s x.2){j:Nat}{o:Oper}(hm:(j,o)∈todo)(ha:aN o=is)
  (hu:listed.getD j is=jp): ∃v w',(execOp a.eval o).run P w= .ok (.value v) w'∧B.ext M N s w'∧k9 P nt all todo pend B M N s (listed.setIfInBounds j is) (a.put o.dst v) w':=by
 obtain⟨b,hb,i0,r0,j0,hy⟩:=hi.ap;obtain⟨bl,g0,t0⟩:=hi.er;obtain⟨h1,⟨d,I,s0⟩,⟨t,z,ht,hz⟩,_,c0⟩:=k0 j o (hi.tl _ hm) ha;have C:=dI hu;have hk: ∀b,b<w.heap.size->(w.alloc (.cells z.cells t)).heap[b]? =w.heap[b]? :=fun b hb=>wa w _ b hb
 have a0:Ext M N (· <s.nx) s.h w M N (· <s.nx) s.h (w.alloc (.cells z.cells t)):=
  ⟨rfl,rfl,⟨rfl,OL _⟩,by simp,fun b hb _=>hk b hb,.refl _,fun b c h1 h2=>by simp[h1]at h2,.refl _ _,fun _ h=>h,fun i o hi d0=> .inr ⟨i,o,hi,d0,rfl⟩⟩
 have w0: ∀x∈pend,looks all x.2 x.2=jp:=fun x A=>by
  rcases hi.pp x A x A with h7|h7
  .obtain⟨e,he,hb,b1⟩:=fu h7;have:=gW all 0 x.1 x.2 hd (hi.pl x A) e he hb;omega
  .exact h7
 obtain⟨c,o0,p0,n0,m0,q0⟩:=mB (listed:=listed.setIfInBounds j is) hns hi.pl hi.pw w0 b0 (M:=M) (N:=N) (w:=w.alloc (.cells z.cells t)) (b:=b) ⟨hb.1.more hk,hb.2⟩;refine⟨.pointer (co ⟨w.heap.size,0,io⟩),w.alloc (.cells z.cells t),?_,hB.trans a0,by simp[hi.size],hi.tl,hi.pl,hi.dj,fun i q hq Y=>?_,hi.pw,hi.pp,hi.pa,⟨fun k=>if k=j then w.heap.size else bl k,fun x A hl=>?_,fun x A y hy D J R=>?_⟩,c,o0,by rw[gG,p0,i0],by rw[jm,n0,r0],fun d' e0 f0=>?_,q0⟩
 .simp only[execOp,ht];simp[Instr.alloc,hz,newVar,newRow]
 .rw[dW C]at Y;split at Y
  .cases Y
  .exact hi.Hq i q hq Y
 .simp only;by_cases u:x.1=j
  .have z0:x.2=o:=by
    have:=hi.tl x A;rw[u,hi.tl _ hm]at this;exact(Pl this).symm
   rw[am u,z0];refine⟨t,z,d,ht,hz,I,?_,heap_alloc_new w _,hb.1.xm,fun i o v0 d0 he=>?_,hB.size⟩
   .rw[eJ,am ⟨I,by rw[i0,hb.2.2.2];exact s0⟩]
   .have:=hb.1.lt v0 d0;omega
  .rw[be u];rw[dW C,be u]at hl;obtain⟨t',v',d',k1,k2,k3,k4,k5,k6⟩:=g0 x A hl;refine⟨t',v',d',k1,k2,k3,?_,?_,k6⟩
   .rw[eJ,be (fun hc=>(c0 x.1 x.2 (hi.tl x A) u).2 d I (by rw[k3,<-hc.1,I]))];exact k4
   .rw[hk _ (Pv.1 k5).1];exact k5
 .simp only;rw[dW C]at D J;have Mz: ∀z∈todo,z.1≠j->(if z.1=j then is else listed.getD z.1 is)=is->bl z.1<w.heap.size:=fun z hz a1 hl=>by
   rw[be a1]at hl;obtain⟨_,_,_,_,_,_,_,k5,_⟩:=g0 z hz hl;exact(Pv.1 k5).1
  by_cases u:x.1=j<;>by_cases G:y.1=j
  .exact absurd (u.trans G.symm) R
  .rw[am u,be G];have:=Mz y hy G J;omega
  .rw[be u,am G];have:=Mz x A u D;omega
  .rw[be u,be G];rw[be u]at D;rw[be G]at J;exact t0 x A y hy D J R
 .rw[eJ,be (fun hc=>f0 (j,o) hm (by rw[dW C,am Z]) hc.1),m0 d' e0];refine j0 d' (fun x A x0=>e0 x A ?_) (fun x A D=>f0 x A ?_)
  .have R:x.1≠j:=fun e=>hi.dj x A _ hm e.symm
   rw[dW C,be R];exact x0
  .rw[dW C];split
   .rfl
   .exact D
theorem mY.step{B:Bs}{y:Mem}{J:Nm}{s':AS}{w':World}{o:Oper}{az:Nat}(h:mY P M N s B a w o az)(I:Ext M N (· <s.nx) s.h w y J (· <s'.nx) s'.h w'):mY P y J s' B a w' o az:=by
 obtain⟨t,v,d,h1,Y,h3,h4,R,h6,A,h8⟩:=h;have D:=(Pv.1 R).1;refine⟨t,v,d,h1,Y,h3,h4,by rw[I.dc az D A];exact R,?_,fun i o C G he=>?_,h8⟩
 .cases hm:y az with
  |none=>rfl
  |some c=>
   rcases I.fO az c h6 hm with x|⟨i,o,x,b,u⟩
   .omega
   .exact absurd u (A i o x b)
 .rcases I.ff i o C G with x|⟨j,p,x,b,u⟩
  .omega
  .exact A j p x b (u.trans he)
def mH(todo:List (Nat×Oper))(E:List Nat):Bool:=todo.all fun x=>E.contains x.1||(aN x.2||todo.any fun y=>!aN y.2&&waits x.2 y.1)
theorem k9.Np{B:Bs}(hi:k9 P nt all todo pend B M N s listed a w)(hns:Region.noSelect all.toArray=is)(hd:fZ 0 all=is)(i0:hQ P nt all){j:Nat}{o:Oper}(hm:(j,o)∈todo)(h0: ∀x∈todo,aN x.2=is->waits o x.1=jp)
  (h1:gI all pend o=is) (hj:j∈Region.ready .any all.toArray listed) (hu:listed.getD j is=jp): ∃b,Fits M N s nt b w∧execOp a.eval o=execOp b.eval o∧Region.wanted o (Go.yielded all.toArray a.tmps)=Region.wanted o (Go.yielded all.toArray b.tmps)∧
   ∀v M' N' s' w',Ext M N (· <s.nx) s.h w M' N' (· <s'.nx) s'.h w'->Fits M' N' s' nt (b.put o.dst v) w'->(∀x∈aX pend o,eB P nt all s' x.2)->
    k9 P nt all (todo.filter fun x=>!O2 x.1 j) (aX pend o) B M' N' s' (listed.setIfInBounds j is) (a.put o.dst v) w':=by
 obtain⟨bl,k0,a1⟩:=hi.er;obtain⟨_,o2,n0,a0⟩:=mem_ready.1 hj;have c0:=hi.tl _ hm;have d1:o2=o:=by
  have:all[j]? =co o2:=by simpa using n0
  exact Pl (this.symm.trans c0)
 rw[d1]at n0 a0;have e0:=dI hu;obtain⟨b,hb,p0,z0,g0,i1⟩:=hi.ap;have e1: ∀x∈pend,waits o x.1=is∨looks all o x.2=jp:=fun x u=>by
  have:=Pj.1 h1 x u;simpa using this
 have b0: ∀x∈todo,listed.getD x.1 is=is->looks all o x.2=jp∧ ∀d,x.2.dst=co d->o.dst≠co d:=fun x u D=>by
  have f0:=(k0 x u D).alloc;have J:j≠x.1:=fun e=>by rw[<-e,hu]at D;cases D
  exact⟨i0.s7 (hi.tl x u) c0 f0 (h0 x u f0) J,((i0 _ _ (hi.tl x u) f0).2.2.2.2 _ _ c0 J).2⟩
 have Y:=k9.same g0 hns c0 hj e1 (fun x u D=>(b0 x u D).1);have R: ∀x∈pend,listed.getD x.1 is=jp->x∈aX pend o:=fun x u d0=>by
  refine Pa.2 ⟨u,?_⟩;cases hw:waits o x.1 with
  |false=>rfl
  |true=>
   obtain⟨e,he,hb,o0⟩:=fu hw;have:=a0 e he hb;rw[o0,kW d0]at this;cases this
 have g1: ∀k,(listed.setIfInBounds j is).getD k is=jp->k≠j∧listed.getD k is=jp:=by
  intro k hk;rw[dW e0]at hk;split at hk
  .cases hk
  .rename_i h;exact⟨h,hk⟩
 have C: ∀x∈aX pend o,x∈pend:=fun x u=>(Pa.1 u).1
 have A: ∀x∈todo.filter (fun x=>!O2 x.1 j),x∈todo∧x.1≠j:=fun x u=>by
  obtain⟨h7,h8⟩:=Pa.1 u;exact⟨h7,fun e=>by simp[e]at h8⟩
 refine⟨b,hb,Y.1,Y.2,fun v M' N' s' w' u hf h5=>?_⟩;have f1: ∀x∈aX pend o,looks all x.2 x.2=jp:=fun x u=>by
  rcases hi.pp x (C x u) x (C x u) with h7|h7
  .obtain⟨e,he,hb,o0⟩:=fu h7;have:=gW all 0 x.1 x.2 hd (hi.pl x (C x u)) e he hb;omega
  .exact h7
 obtain⟨c,t0,v0,s0,r0,w0⟩:=mB (listed:=listed.setIfInBounds j is) hns (fun x u=>hi.pl x (C x u)) (hi.pw.sublist List.filter_sublist) f1 h5 hf;have G: ∀x∈todo.filter (fun x=>!O2 x.1 j),(listed.setIfInBounds j is).getD x.1 is=listed.getD x.1 is:=fun x u=>by rw[dW e0,be (A x u).2]
 refine⟨by simp[hi.size],fun x u=>hi.tl x (A x u).1,fun x u=>hi.pl x (C x u),fun x u y hy=>hi.dj x (C x u) y (A y hy).1,fun k q hk b1=>?_,hi.pw.sublist List.filter_sublist,
      fun x u y hy=>hi.pp x (C x u) y (C y hy),fun y hy x u=>hi.pa y (C y hy) x (A x u).1,⟨bl,fun x I D=>?_,fun x I y q0 h1 h2=>?_⟩,c,t0,by rw[v0,gG,gG,p0],by rw[s0,jm,jm,z0],fun d j0 x0=>?_,w0⟩
 .obtain⟨h7,h8⟩:=g1 k b1;rcases hi.Hq k q hk h8 with h9|h9
  .exact .inl (Pa.2 ⟨h9,by cases hb:O2 k j with|false=>rfl|true=>exact absurd (OU hb) h7⟩)
  .exact .inr (R _ h9 h8)
 .rw[G x I]at D;exact((k0 x (A x I).1 D).step u).put (b0 x (A x I).1 D).2
 .rw[G x I]at h1;rw[G y q0]at h2;exact a1 x (A x I).1 y (A y q0).1 h1 h2
 .rw[r0 d j0,eJ,eJ,p0];split
  .rfl
  .refine g0 d (fun x u d0=>j0 x (R x u d0) ?_) (fun x I D=>?_)
   .have J:x.1≠j:=fun e=>hi.dj x u _ hm e.symm
    rw[dW e0,be J];exact d0
   .have J:x.1≠j:=fun e=>by rw[e,hu]at D;cases D
    have m0:x∈todo.filter (fun x=>!O2 x.1 j):=Pa.2 ⟨I,by cases hb:O2 x.1 j with|false=>rfl|true=>exact absurd (OU hb) J⟩;exact x0 x m0 (by rw[G x m0];exact D)
theorem K2{E:List Nat}(hE:mH todo E=is)(hne: ∃x∈todo,aN x.2=jp)(c0: ∀x∈todo,aN x.2=is-> ∀x∈pend,eB P nt all s x.2)
  (h: ∀j o,j∈E->(j,o)∈todo->(∀o',(j,o')∈todo->o'=o)->aN o=jp∧(∀x∈todo,aN x.2=is->waits o x.1=jp)∧gI all pend o=is∧(∀M N b w,Fits M N s nt b w->Region.wanted o (Go.yielded all.toArray b.tmps)=is)∧ ∃R,OT P nt o s R∧
   ∀s',R s'->(∀x∈aX pend o,eB P nt all s' x.2)∧DL P nt all (todo.filter fun x=>!O2 x.1 j) (aX pend o) Q s'):DL P nt all todo pend Q s:=by
 intro I hd A B M N listed a w u hB
 induction u generalizing listed a w with
 |zero=>
  intro G hc;obtain⟨x,D,C⟩:=hne;have p0:listed.getD x.1 is=jp:=by
   obtain⟨bl,e0,_⟩:=G.er;cases hl:listed.getD x.1 is with
   |false=>rfl
   |true=>have:=(e0 x D hl).alloc;rw[C]at this;cases this
  have:=pF p0;omega
 |succ u ih=>
  intro G hc;obtain⟨bl,e0,q0⟩:=G.er;have b0: ∀x∈todo,aN x.2=jp->listed.getD x.1 is=jp:=fun x D C=>by
   cases hl:listed.getD x.1 is with
   |false=>rfl
   |true=>have:=(e0 x D hl).alloc;rw[C]at this;cases this
  refine⟨fun hr=>?_,fun j hj=>?_⟩
  .obtain⟨x,D,C⟩:=hne;have:=nD G.size hd hr x.1;rw[b0 x D C]at this;cases this
  obtain⟨hu,o,ho,d0⟩:=mem_ready.1 hj;have g0:all[j]? =co o:=by simpa using ho
  have r0:=dI hu;rcases G.Hq j o g0 hu with hm|hm
  .cases hja:aN o with
   |true=>
    obtain⟨v,w',i0,k0,f0⟩:=G.early I hd A hB (c0 _ hm hja) hm hja hu;unfold wpOp;simp only[ho];rw[am (fH (A j o g0 hja).1 _)];refine .inl ?_;unfold Oper.wp;rw[i0];simp only[Oper.upon];exact ih _ _ _ k0 f0 (by have:=dS hu;omega)
   |false=>
   have m0:j∈E:=by
    have:=Pj.1 hE _ hm;simp only[Qz,PO,Pq,PF]at this;rcases this with h1|h1|⟨y,hy,h0,h1⟩
    .simpa using h1
    .rw[hja]at h1;cases h1
    .obtain⟨e,he,hb,o0⟩:=fu h1;have:=d0 e he hb;rw[o0,kW (b0 y hy h0)]at this;cases this
   obtain⟨_,h0,h1,h2,R,h3,h4⟩:=h j o m0 hm (fun o' n0=>by
    have:=G.tl _ n0;simp only at this;rw[g0]at this
    exact(Pl this).symm)
   obtain⟨b,hb,a0,j0,hnew⟩:=G.Np I hd A hm h0 h1 hj hu;unfold wpOp;simp only[ho];rw[am (by rw[j0];exact h2 M N b w hb)];refine .inl (ER (K':=fun a' w'=> ∃J Y s',Ext M N (· <s.nx) s.h w J Y (· <s'.nx) s'.h w'∧Fits J Y s' nt a' w'∧R s') a0 ?_ ?_ (h3 M N b w hb _ _ fun J Y s' a' w' D hf hr=>⟨J,Y,s',D,hf,hr⟩))
   .rintro d w' ⟨J,Y,s',_,hf,_⟩;have:=hf.2.2.1;rw[jm]at this;have h9:d::b.defers=nt.df:=this;rw[hb.2.2.1]at h9;exact absurd (congrArg RP h9) (by simp)
   .rintro v w' ⟨J,Y,s',D,hf,hr⟩;obtain⟨h5,h6⟩:=h4 s' hr;exact h6 I hd A B J Y _ _ w' u (hB.trans D) (hnew v J Y s' w' D hf h5) (by have:=dS hu;omega)
  .obtain⟨v,hv,f0⟩:=G.take I A hm hj;refine wpOp_of_stOp (K:=fun a'=>a'=a.put o.dst v) (fun a' ha=>?_) (hv.stOp ho Z);subst ha;exact ih _ _ _ hB f0 (by have:=dS hu;omega)
theorem Rel.AB{M:Mem}{N:Nm}{n:Nat}{h:AH}{w:World}(hr:Rel M N (· <n) h w){az e:Nat}{o:AO}(hM:M az=io)(hne: ∀i p,h.get i=co p->p.real=is->N.az i≠az)(ho:OR M (N.with n az e) (· <n+1) w n o):
  Rel M (N.with n az e) (· <n+1) ((n,co o)::h) w:=by
 have A:=N.eE n az e;have b: ∀i p,AH.get ((n,co o)::h) i=co p->(i=n∧p=o)∨(i<n∧h.get i=co p):=by
  intro i p x;rw[AH.au]at x;split at x
  .rename_i B;exact .inl ⟨B,by simpa using x.symm⟩
  .exact .inr ⟨hr.used i p x,x⟩
 refine⟨hr.dR,fun i p x=>?_,fun i p x C=>?_,fun i p x=>?_,fun i j p q x R I J u=>?_⟩
 .rcases b i p x with⟨rfl,rfl⟩|⟨h1,y⟩<;>omega
 .rcases b i p x with⟨rfl,rfl⟩|⟨h1,y⟩
  .simpa using hM
  .rw[A.az i h1];exact hr.dD i p y C
 .rcases b i p x with⟨rfl,rfl⟩|⟨h1,y⟩
  .exact ho
  .exact(hr.obj i p y).mono (.refl _) A (fun i x=>by omega) h1 Z
 .rcases b i p x with⟨rfl,rfl⟩|⟨h1,y⟩<;>rcases b j q R with⟨rfl,rfl⟩|⟨D,G⟩
  .rfl
  .rw[A.az j D]at u;simp at u;exact absurd u.symm (hne _ _ G J)
  .rw[A.az i h1]at u;simp at u;exact absurd u (hne _ _ y I)
  .rw[A.az i h1,A.az j D]at u;exact hr.inj i j p q y G I J u
def v8(todo:List (Nat×Oper))(i:Nat):Bool:=todo.all fun x=>O2 x.1 i||(aN x.2||(waits x.2 i||todo.any fun y=>!aN y.2&&waits x.2 y.1))
def ja(s:AS)(d:Nat)(cs:List PV):AS:=match s with|⟨f,h,n⟩=>⟨(d,.ptr n 0)::f,(n,co (.cells cs))::h,n+1⟩
theorem Eb{i:Nat}{o:Oper}{t:TypeId}{z:Value}{d:Nat}(c0:(i,o)∈todo)(ht:o.op= .alloc t)(hz: ∀w,(zeroValue t).run P w= .ok z w)(o0:o.dst=co d)(hE:v8 todo i=is)
  (m0: ∀x∈pend,eB P nt all s x.2) (Y: ∀x∈pend,eB P nt all (ja s d (aK z)) x.2)
  (h:DL P nt all (todo.filter fun x=>!O2 x.1 i) pend Q (ja s d (aK z))):DL P nt all todo pend Q s:=by
 intro i0 hd a0 B M N listed a w C G;have f1:aN o=is:=by simp[aN,ht]
 have AB: ∀{C:Nat} {listed:Array Bool} {a:Act} {w:World},B.ext M N s w->k9 P nt all todo pend B M N s listed a w->listed.getD i is=is->listed.toList.count jp<=C->wpAny P .any all.toArray (Jd nt B Q) C listed a w:=by
  intro C listed a w G A hl hc;obtain⟨b,hb,a2,t1,l1,f2⟩:=A.ap;obtain⟨R,g0,p0⟩:=A.er;obtain⟨t',I,d',k1,k2,k3,k4,k5,k6,k7,k8⟩:=g0 _ c0 hl;simp only at k1 k3;have e1:t'=t:=by rw[ht]at k1;exact(Op.alloc.inj k1).symm
  subst e1;have e2:I=z:=by have:=(k2 w).symm.trans (hz w);simpa using this
  subst e2;have e3:d'=d:=by rw[o0]at k3;exact(Pl k3).symm
  subst e3;have d1:d'<nt:=by
   obtain⟨_,⟨d2,g1,g2⟩,_⟩:=a0 i o (A.tl _ c0) f1;rw[o0]at g1;rw[Pl g1];exact g2
  have ha:=N.eE s.nx (R i) I.cells.size;have x0:=hb.1.AB (az:=R i) (e:=I.cells.size) (o:= .cells (aK I)) k6 k7
   ⟨I.cells,t',by simpa using k5,by simp,(ei (M:=M) (N:=N.with s.nx (R i) I.cells.size) (U:=(· <s.nx+1)) I).1,(ei I).2,.none _⟩
  have v1:FR M (N.with s.nx (R i) I.cells.size) (· <s.nx+1) s.f b.tmps:=hb.2.1.mono (.refl _) ha (fun i A=>by omega);have v0:VR M (N.with s.nx (R i) I.cells.size) (· <s.nx+1) (.ptr s.nx 0) (.pointer (co ⟨R i,0,io⟩)):=by
   have:=VR.ptr (M:=M) (N:=N.with s.nx (R i) I.cells.size) (U:=(· <s.nx+1)) s.nx 0 (by omega);simpa using this
  have r0:Fits M (N.with s.nx (R i) I.cells.size) (ja s d' (aK I)) nt (b.put (co d') (.pointer (co ⟨R i,0,io⟩))) w:=by
   obtain⟨sf,sh,sn⟩:=s;exact⟨x0,v1.put d' _ _ (by rw[hb.2.2.2];exact d1) v0,hb.2.2.1,by rw[gG];exact hb.2.2.2⟩
  have b0: ∀j p,(ja s d' (aK I)).h.get j=co p->j=s.nx∨(j<s.nx∧s.h.get j=co p):=by
   intro j p D;obtain⟨sf,sh,sn⟩:=s;simp only[ja]at D;rw[AH.au]at D;split at D
   .rename_i e;exact .inl e
   .exact .inr ⟨hb.1.used j p D,D⟩
  have x1:(ja s d' (aK I)).nx=s.nx+1:=by obtain⟨sf,sh,sn⟩:=s;rfl
  have k0:B.ext M (N.with s.nx (R i) I.cells.size) (ja s d' (aK I)) w:=by
   unfold Bs.ext at*
   refine⟨G.os,G.tape,G.output,G.size,G.dc,G.mO,G.fO,⟨fun j D=>(ha.az j (G.ule j D)).trans (G.nm.az j D),fun j D=>(ha.ext j (G.ule j D)).trans (G.nm.ext j D)⟩,fun j D=>by have:=G.ule j D;rw[x1];omega,fun j p D w0=>?_⟩;rcases b0 j p D with rfl|⟨h1,h2⟩
   .exact .inl (by simpa using k8)
   .rw[ha.az j h1];exact G.ff j p h2 w0
  have z1: ∀x∈pend,looks all x.2 x.2=jp:=fun x J=>by
   rcases A.pp x J x J with h7|h7
   .obtain⟨e,he,hb,i1⟩:=fu h7;have:=gW all 0 x.1 x.2 hd (A.pl x J) e he hb;omega
   .exact h7
  have u: ∀x∈todo.filter (fun x=>!O2 x.1 i),x∈todo∧x.1≠i:=fun x J=>by
   obtain⟨h7,h8⟩:=Pa.1 J;exact⟨h7,fun e=>by simp[e]at h8⟩
  obtain⟨c,p1,q1,o1,n1,r1⟩:=mB (listed:=listed) i0 A.pl A.pw z1 Y r0;refine h i0 hd a0 B M _ listed a w C k0 ⟨A.size,fun x J=>A.tl x (u x J).1,A.pl,fun x J y hy=>A.dj x J y (u y hy).1,fun k q hk t0=>?_,A.pw,A.pp,fun y hy x J=>A.pa y hy x (u x J).1,⟨R,fun x e0 j0=>?_,fun x e0 y c2=>p0 x (u x e0).1 y (u y c2).1⟩,c,p1,by rw[q1,gG,a2],by rw[o1,jm,t1],fun e b1 s1=>?_,r1⟩ hc
  .rcases A.Hq k q hk t0 with h9|h9
   .refine .inl (Pa.2 ⟨h9,?_⟩);cases hbq:O2 k i with
    |false=>rfl
    |true=>rw[OU hbq,hl]at t0;cases t0
   .exact .inr h9
  .obtain⟨t2,z2,d2,m1,m2,m3,m4,m5,m6,m7,m8⟩:=g0 x (u x e0).1 j0;refine⟨t2,z2,d2,m1,m2,m3,m4,m5,m6,fun j p D w0=>?_,m8⟩;rcases b0 j p D with rfl|⟨h1,h2⟩
   .rw[Nm.B3];exact fun e=>p0 x (u x e0).1 _ c0 j0 hl (u x e0).2 e.symm
   .rw[ha.az j h1];exact m7 j p h2 w0
  .rw[n1 e b1,eJ];by_cases q0:d'=e
   .subst q0;rw[am ⟨rfl,by rw[hb.2.2.2];exact d1⟩];exact k4
   .rw[be (fun hc=>q0 (Pl hc.1))];refine l1 e b1 (fun x J j0 he=>?_);by_cases j1:x.1=i
    .have h3:=A.tl x J;rw[j1,A.tl _ c0]at h3;rw[<-Pl h3,o0]at he;exact q0 (Pl he)
    .exact s1 x (Pa.2 ⟨J,by cases hb:O2 x.1 i with|false=>rfl|true=>exact absurd (OU hb) j1⟩) j0 he
 clear h Y
 induction C generalizing listed a w with
 |zero=>
  intro A hc;cases hl:listed.getD i is with
  |true=>exact AB G A hl hc
  |false=>have:=pF hl;omega
 |succ C ih=>
  intro A hc;cases hl:listed.getD i is with
  |true=>exact AB G A hl hc
  |false=>
   obtain⟨R,g0,p0⟩:=A.er;have a1: ∀x∈todo,aN x.2=jp->listed.getD x.1 is=jp:=fun x J b2=>by
    cases hl:listed.getD x.1 is with
    |false=>rfl
    |true=>have:=(g0 x J hl).alloc;rw[b2]at this;cases this
   refine⟨fun hr=>?_,fun j D=>?_⟩
   .have:=nD A.size hd hr i;rw[hl]at this;cases this
   obtain⟨hu,q,hq,n0⟩:=mem_ready.1 D;have d0:all[j]? =co q:=by simpa using hq
   rcases A.Hq j q d0 hu with hm|hm
   .cases hja:aN q with
    |true=>
     obtain⟨v,w',z0,k0,s0⟩:=A.early i0 hd a0 G m0 hm hja hu;unfold wpOp;simp only[hq];rw[am (fH (a0 j q d0 hja).1 _)];refine .inl ?_;unfold Oper.wp;rw[z0];simp only[Oper.upon];exact ih _ _ _ k0 s0 (by have:=dS hu;omega)
    |false=>
     exfalso;have f0: ∀k,listed.getD k is=jp->waits q k=is->False:=fun k hk hw=>by
      obtain⟨e,he,hb,i1⟩:=fu hw;have:=n0 e he hb;rw[i1,kW hk]at this;cases this
     have:=Pj.1 hE _ hm;simp only[Qz,PO,Pq,PF]at this;rcases this with h1|h1|h1|⟨y,hy,h0,h1⟩
     .have w1:=OU h1;subst w1;rw[A.tl _ c0]at d0;simp only[OA]at d0;rw[<-d0,f1]at hja;cases hja
     .rw[hja]at h1;cases h1
     .exact f0 i hl h1
     .exact f0 y.1 (a1 y hy h0) h1
   .obtain⟨v,hv,s0⟩:=A.take i0 a0 hm D;refine wpOp_of_stOp (K:=fun a'=>a'=a.put q.dst v) (fun a' ha=>?_) (hv.stOp hq Z);subst ha;exact ih _ _ _ G s0 (by have:=dS hu;omega)
def gJ:Nat->List Oper->List (Nat×Oper)
 |_,[]=> []
 |n,o::r=>(n,o)::gJ (n+1) r
theorem kz: ∀(l:List Oper) (n i:Nat) (o:Oper),(i,o)∈gJ n l↔n<=i∧l[i-n]? =co o
 | [],n,i,o=>by simp[gJ]
 |c::l,n,i,o=>by
  simp only[gJ,OP,OK];rw[kz l (n+1) i o];by_cases h:i=n
  .subst h;simp only[true_and,OL,Nat.sub_self,List.getElem?_cons_zero,OA];exact⟨fun h=>h.elim Eq.symm (fun h=>by omega),fun h=> .inl h.symm⟩
  .by_cases b:n<=i
   .rw[show i-n=(i-(n+1))+1 by omega,Rf];constructor
    .rintro(⟨h3,_⟩|⟨_,h3⟩)
     .exact absurd h3 h
     .exact⟨b,h3⟩
    .rintro⟨_,h3⟩;exact .inr ⟨by omega,h3⟩
   .constructor
    .rintro(⟨h3,_⟩|⟨h3,_⟩)
     .exact absurd h3 h
     .omega
    .rintro⟨h3,_⟩;exact absurd h3 b
def rU:List Oper->Bool
 | []=>is
 |o::r=>match o.op with
  | .select ..=>jp
  |_=>rU r
theorem Bl{ops:Array Oper}(h:rU ops.toList=is):Region.noSelect ops=is:=by
 have key: ∀l:List Oper,rU l=is-> ∀o∈l,(match o.op with| .select ..=>jp|_=>is)=is:=by
  intro l
  induction l with
  |nil=>intro _ o ho;cases ho
  |cons c l ih=>
   intro hl o ho;unfold rU at hl;split at hl
   .cases hl
   .rename_i b;rcases OP.1 ho with rfl|ho
    .split
     .rename_i h;exact absurd h (b _ _)
     .rfl
    .exact ih hl o ho
 unfold Region.noSelect;rw[Array.all_eq_true_iff_forall_mem];exact fun o ho=>key _ h o (by simpa using ho)
variable {k:List KI}
theorem DU{id:Nat}{ops:Array Oper}(hm:P.follows .mixedOrders=is)(hns:Region.noSelect ops=is)(hd:fZ 0 ops.toList=is)(y:hQ P nt ops.toList)(h:GO P nt (.bR ops.toList (gJ 0 ops.toList) []::k) Q s):GO P nt (.code (.region id ops is)::k) Q s:=by
 intro M N a w D;refine wp_region_any hm ?_;have A:=D.drew;have j: ∀x∈gJ 0 ops.toList,ops.toList[x.1]? =co x.2:=fun x b=>by
  obtain⟨_,C⟩:=(kz _ 0 x.1 x.2).1 b;simpa using C
 have B: ∀i,i<ops.size->(P4 ops.size jp).getD i is=jp:=fun i G=>by simp[Oz,G]
 have u: ∀x∈gJ 0 ops.toList,(P4 ops.size jp).getD x.1 is=is->False:=fun x b hl=>by
  have:x.1<ops.size:=by simpa using(OB.1 (j x b)).1
  rw[B _ this]at hl;cases hl
 have:=h (by rw[P1];exact hns) hd y ⟨M,N,s.nx,s.h,w⟩ M N (P4 ops.size jp) a {w with drawn:=w.drawn+1} ops.size Ext.drew
  ⟨by simp,j,fun _ b=>(nomatch b),fun _ b=>(nomatch b),fun i o I _=> .inl ((kz _ 0 i o).2 ⟨OS _,by simpa using I⟩),Ri,fun _ b=>(nomatch b),fun _ b=>(nomatch b),
   ⟨fun _=>0,fun x b hl=>(u x b hl).elim,fun x b _ _ hl=>(u x b hl).elim⟩,⟨a,A,rfl,rfl,fun _ _ _=>rfl,fun _ b=>(nomatch b)⟩⟩ (by simp)
 rw[P1]at this;exact this
theorem xK(h:GO P nt k Q s):GO P nt (.bR all [] pend::k) Q s:=K1 h
def eqB:Bool->Bool->Bool
 |true,b=>b
 |false,is=>jp
 |false,jp=>is
theorem KZ(a b:Bool):eqB a b=(a==b):=by cases a<;>cases b<;>rfl
def bS(nt:NT)(all:List Oper)(f:AF)(o:Oper):Option Bool:=
 match o.guard with
 |none=>co is
 |some (g,want)=>match guardOf all f g with
  |some (d,.kb t)=>bif O1 d nt then co (eqB t want) else io
  |some (_,.iv (.v (.tuple _)))=>co jp
  |_=>io
theorem eP{o:Oper}{c:Bool}(h:bS nt all s.f o=co c){b:Act}(hf:Fits M N s nt b w):Region.wanted o (Go.yielded all.toArray b.tmps)=c:=by
 unfold bS at h;split at h
 .rename_i j;simp only[OA]at h;rw[fH j,h]
 .rename_i g x j;split at h
  .rename_i d t u;cases hb:O1 d nt with
   |false=>simp[hb]at h
   |true=>
    simp only[hb,cond_true,OA,KZ]at h;have:=hf.rf u (Oy hb);simp[Region.wanted,j,this,<-h]
  .rename_i d vs u;simp only[OA]at h;have:=hf.re u;simp[Region.wanted,j,this,<-h]
  .cases h
theorem su{i:Nat}{o:Oper}{s':AS}(u:(i,o)∈todo)(y:aN o=jp)(A: ∀x∈todo,waits o x.1=jp)(hg:bS nt all s.f o=co is)(j:tD all pend o=is)(he:s'.h=s.h∧s'.nx=s.nx)
  (ho: ∀M N a w,Fits M N s nt a w-> ∃x,(execOp a.eval o).run P w= .ok (.value x) w∧Fits M N s' nt (a.put o.dst x) w) (h:GO P nt (.bR all (todo.filter fun x=>!O2 x.1 i) ((i,o)::pend)::k) Q s'):GO P nt (.bR all todo pend::k) Q s:=
 Ao u y A j he (fun M N b w B=>let ⟨x,h1,h2⟩:=ho M N b w B;⟨x,.inl ⟨eP hg B,.inl h1⟩,h2⟩) h
theorem DT{i:Nat}{o:Oper}(j:(i,o)∈todo)(u:aN o=jp)(y: ∀x∈todo,waits o x.1=jp)(hg:bS nt all s.f o=co jp)(b:tD all pend o=is)
  (h:GO P nt (.bR all (todo.filter fun x=>!O2 x.1 i) ((i,o)::pend)::k) Q (fw o s)):GO P nt (.bR all todo pend::k) Q s:=
 Ao j u y b (gB o s) (fun _ _ _ _ A=>⟨undef,.inr ⟨eP hg A,rfl⟩,A.skip o⟩) h
theorem pt{d:Nat}{t:Bool}(I:s.f.get d= .iv (.v (.bool t)))(h1:t=is->GO P nt (.bR all todo pend::k) Q (setBool s (.tmp d) is))(C:t=jp->GO P nt (.bR all todo pend::k) Q (setBool s (.tmp d) jp)):
  GO P nt (.bR all todo pend::k) Q s:=by
 have key:GO P nt (.bR all todo pend::k) Q (setBool s (.tmp d) t):=by
  cases t
  .exact C Z
  .exact h1 Z
 intro A hd y B M N listed a w x D j G;obtain⟨b,hb,u⟩:=j.ap;exact key A hd y B M N listed a w x D ⟨j.size,j.tl,j.pl,j.dj,j.Hq,j.pw,j.pp,j.pa,j.er,b,hb.setBool (c:= .tmp d) I,u⟩ G
theorem qY{E:List Nat}(hE:mH todo E=is)(hne: ∃x∈todo,aN x.2=jp)(u: ∀x∈todo,aN x.2=is-> ∀x∈pend,eB P nt all s x.2)
  (h: ∀j o,j∈E->(j,o)∈todo->(∀y,(j,y)∈todo->y=o)->aN o=jp∧(∀x∈todo,aN x.2=is->waits o x.1=jp)∧gI all pend o=is∧bS nt all s.f o=co is∧ ∃R,OT P nt o s R∧
   ∀s',R s'->(∀x∈aX pend o,eB P nt all s' x.2)∧GO P nt (.bR all (todo.filter fun x=>!O2 x.1 j) (aX pend o)::k) Q s'):GO P nt (.bR all todo pend::k) Q s:=
 K2 hE hne u fun j o h1 A B=>let ⟨a,b,c,d,e⟩:=h j o h1 A B;⟨a,b,c, @fun _ _ _ _=>eP d,e⟩
theorem BF{i:Nat}{o:Oper}{t:TypeId}{z:Value}{d:Nat}(y:(i,o)∈todo)(A:o.op= .alloc t)(B: ∀w,(zeroValue t).run P w= .ok z w)(u:o.dst=co d)(hE:v8 todo i=is)
  (j: ∀x∈pend,eB P nt all s x.2) (b: ∀x∈pend,eB P nt all (ja s d (aK z)) x.2)
  (h:GO P nt (.bR all (todo.filter fun x=>!O2 x.1 i) pend::k) Q (ja s d (aK z))):GO P nt (.bR all todo pend::k) Q s:=Eb y A B u hE j b h
end
section
variable {P:Program} {nt:NT} {Q:AQ} {k:List KI} {s:AS}
theorem DH{ty:Ty}(a0:bn P ty){o:Oper}{c:Call}(ho:o.op= .call c){g:FuncId}{asv:List PV}(ha:bz s.f c=co (g,asv)){fn:Func}{cb:Code}(y:P.funcs[g]? =co fn)(hb:fn.body=co cb)
  (hn:(fn.name== "runtime.NumGoroutine")=jp) {D:Nat} (e0:fn.ntmps=D) {l:List ResultVar} (hl:fn.results.toList=l) (d0:asv.length<=D) {R:AS->Prop}
  (h:AW P D cb (fun e t=>(e= .normal∨e= .ret)∧ ∃r s',iF ty t l=co r∧putDst nt o r ⟨s.f,t.h,t.nx⟩=co s'∧R s') ⟨kY 0 asv,s.h,s.nx⟩):OT P nt o s R:=by
 intro M N a w C K Z hk;obtain⟨vs,B,A,hv⟩:=xQ C ho ha (bc y hb hn);unfold Oper.wp;rw[B];simp only[Oper.upon];refine calls_of_wp y hb ?_;have u:Fits M N ⟨kY 0 asv,s.h,s.nx⟩ D {tmps:=vs.toArray++P4 (fn.ntmps-vs.toArray.size) undef,defers:=[]} w:=by
  refine⟨C.1,fun i=>?_,rfl,by simp;omega⟩;rw[oO,am (OS _),Q4,OC];cases hi:asv[i]? with
  |none=>exact .any _
  |some p=>
   have J:i<vs.length:=by rw[<-A];exact(OB.1 hi).1
   have:=hv i p hi;have e:(vs.toArray++P4 (fn.ntmps-vs.toArray.size) undef).getD i undef=vs.getD i undef:=by
    rw[Oz,Pc (by simpa using J),OC];simp
   simp only[PA];rw[e];exact this
 refine AW.then h u fun e a' w' G I t hx b hq=>?_;obtain⟨he,r,s',Y,hp,hR⟩:=hq;obtain⟨x,b0,c0⟩:=ve a0 b hl Y;have j:Fits G I ⟨s.f,t.h,t.nx⟩ nt a w':=⟨b.1,C.2.1.ext hx,C.2.2⟩
 have hK:K (a.put o.dst x) w':=by
  cases hd:o.dst with
  |none=>
   have:=eM hp hd;subst this;exact hk G I {f:=s.f,h:=t.h,nx:=t.nx} _ w' hx j hR
  |some d=>
   obtain⟨h1,rfl⟩:=eL hp hd;exact hk G I {f:=(d,r)::s.f,h:=t.h,nx:=t.nx} _ w' hx (j.put d _ x h1 c0) hR
 have:a'.defers=[]∧ ∃v,(results fn a'.tmps).run P w'= .ok v w'∧K (a.put o.dst v) w':=⟨b.2.2.1,x,b0,hK⟩
 rcases he with rfl|rfl<;>exact this
theorem KS{ty:Ty}(y:bn P ty){all rest:List Oper}{o:Oper}{c:Call}(hg:o.guard=io)(ho:o.op= .call c){g:FuncId}{asv:List PV}(ha:bz s.f c=co (g,asv)){fn:Func}{B:Code}(j:P.funcs[g]? =co fn)(hb:fn.body=co B)
  (hn:(fn.name== "runtime.NumGoroutine")=jp) {A:Nat} (x:fn.ntmps=A) {l:List ResultVar} (hl:fn.results.toList=l) (u:asv.length<=A)
  (h:GO P A (.code B:: .Hj nt s.f (iF ty · l) o all rest::k) Q ⟨kY 0 asv,s.h,s.nx⟩):GO P nt (.ops all (o::rest)::k) Q s:=by
 refine cG (R:=fun t=>GO P nt (.ops all rest::k) Q t) hg (DH y ho ha j hb hn x hl u ?_) (fun t ht=>ht);intro M N a w hf;refine AW.then h hf fun e a' w' D G t hx b C=>⟨D,G,t,hx,b,?_⟩
 simp only[kp]at C;obtain⟨Y,r,s',h1,I,J⟩:=C;exact⟨Y,r,s',h1,I,J⟩
theorem He{ty:Ty}(D:bn P ty){all:List Oper}{todo pend:List (Nat×Oper)}{j:Nat}{o:Oper}{c:Call}(hrd:(j,o)∈todo)(hE:mH todo [j]=is)(G: ∀x∈todo,waits o x.1=jp)(b: ∀x∈todo,aN x.2=is-> ∀x∈pend,eB P nt all s x.2)(hpb:gI all pend o=is)(hg:bS nt all s.f o=co is)(ho:o.op= .call c){g:FuncId}{asv:List PV}
  (ha:bz s.f c=co (g,asv)) {fn:Func} {Y:Code} (A:P.funcs[g]? =co fn) (hb:fn.body=co Y)
  (hn:(fn.name== "runtime.NumGoroutine")=jp) {J:Nat} (C:fn.ntmps=J) {l:List ResultVar} (hl:fn.results.toList=l) (B:asv.length<=J)
  (h:GO P J (.code Y:: .Hk nt s.f (iF ty · l) j o all todo pend::k) Q ⟨kY 0 asv,s.h,s.nx⟩):GO P nt (.bR all todo pend::k) Q s:=by
 have u:aN o=jp:=by simp[aN,ho]
 refine qY hE ⟨_,hrd,u⟩ b fun j' o' hj _ hu=>?_;simp only[OM]at hj;subst hj;have:=hu o hrd;subst this;refine⟨u,fun x I _=>G x I,hpb,hg,_,DH D ho ha A hb hn C hl B (R:=fun s'=>(∀x∈aX pend o,eB P nt all s' x.2)∧GO P nt (.bR all (todo.filter fun x=>!O2 x.1 j') (aX pend o)::k) Q s') ?_,fun s' hs=>hs⟩;intro M N a w hf;refine AW.then h hf fun e a' w' M' N' t I y hq=>⟨M',N',t,I,y,?_⟩
 simp only[kp]at hq;obtain⟨he,r,s',h1,h2,h3,h4⟩:=hq;exact⟨he,r,s',h1,h2,h3,h4⟩
theorem UA.more{b:Code}{Q:AQ}: ∀{n:Nat} {s:AS},UA P nt b Q n s->n≠0
 |0,_,h=>h.elim
 |_+1,_,_=>by simp
theorem nQ{b:Code}{n:Nat}(h:GO P nt (.code b:: .AE b n::k) Q s):GO P nt (.code (.loop b)::k) Q s:=by
 have h0:UA P nt b (kp P nt k Q) (n+1) s:=by
  intro M N a w R;refine AW.then h R fun e A w' x y t D j hq=>⟨x,y,t,D,j,?_⟩
  cases e<;>exact hq
 intro M0 N0 a0 w0 Y
 let J:Act->World->Nat->Prop:=fun a w m=> ∃t M N,Ext M0 N0 (· <s.nx) s.h w0 M N (· <t.nx) t.h w∧Fits M N t nt a w∧UA P nt b (kp P nt k Q) m t
 have I:J a0 w0 (n+1):=⟨s,M0,N0,.refl _ _ _ _ _,Y,h0⟩
 have cK: ∀{p:Nat->Prop},(∃n,p n)-> ∃n,p n∧ ∀m,p m->n<=m:=by
  intro p ⟨n,hn⟩
  induction n using Nat.strongRecOn with
  |_ n ih=>
   by_cases C: ∃m,m<n∧p m
   .obtain⟨m,h1,G⟩:=C;exact ih m h1 G
   .exact⟨n,hn,fun m G=>Qk fun h1=>C ⟨m,h1,G⟩⟩
 refine wp_loop (fun a w=> ∃n,J a w n) (fun a w=>by classical exact if h: ∃n,J a w n then Q5 (cK h) else 0) ⟨_,I⟩ fun a w b0=>?_;obtain⟨⟨t,M,N,D,R,hu⟩,c0⟩:=Qi (cK b0);obtain⟨m,C⟩: ∃m,Q5 (cK b0)=m+1:=⟨Q5 (cK b0)-1,by have:=hu.more;omega⟩
 rw[C]at hu;refine AW.then hu R fun e A w' x y s' u j hr=>?_
 cases e with
 |normal=>
  have B:J A w' m:=⟨s',x,y,D.trans u,j,hr⟩
  refine⟨⟨_,B⟩,?_⟩;simp only[dif_pos b0,dif_pos (⟨_,B⟩: ∃n,J A w' n)];have:=(Qi (cK (⟨_,B⟩: ∃n,J A w' n))).2 _ B;omega
 |_=>exact⟨x,y,s',D.trans u,j,hr⟩
theorem go_round{b:Code}{n:Nat}(h:GO P nt (.code b:: .AE b n::k) Q s):GO P nt (.AE b (n+1)::k) Q s:=by
 intro M N a w y;refine AW.then h y fun e C w' u x t B j A=>⟨u,x,t,B,j,?_⟩
 cases e<;>exact A
end
section
variable {M:Mem} {N:Nm} {w:World} {n:Nat} {h:AH}
theorem aZ{i:Nat}{h:AH}: ∀j o,AH.get ((i,io)::h) j=co o->j≠i∧h.get j=co o:=by
 intro j o b;rw[AH.au]at b;split at b
 .cases b
 .rename_i u;exact⟨u,b⟩
theorem Rel.move(hr:Rel M N (· <n) h w){i:Nat}{o0:AO}(hi:h.get i=co o0)(h0:o0.real=is)(w':World)(o:AO)(a0:w'.os=w.os)(G:w'.tape=w.tape)(I:w'.output=w.output)(c0:w'.heap.size=w.heap.size)
  (hk: ∀b,b≠N.az i->w'.heap[b]? =w.heap[b]?) (ho:OR M (N.with n (N.az i) (N.ext i)) (· <n+1) w' n o) (hd:w.drawn<=w'.drawn:=by first|exact OL _|exact Qv _):
  Ext M N (· <n) h w M (N.with n (N.az i) (N.ext i)) (· <n+1) ((n,co o)::(i,io)::h) w'∧Rel M (N.with n (N.az i) (N.ext i)) (· <n+1) ((n,co o)::(i,io)::h) w':=by
 have D:=N.eE n (N.az i) (N.ext i);have u: ∀j p,AH.get ((n,co o)::(i,io)::h) j=co p->(j=n∧p=o)∨(j<n∧j≠i∧h.get j=co p):=by
  intro j p A;rw[AH.au]at A;split at A
  .rename_i J;exact .inl ⟨J,by simpa using A.symm⟩
  .obtain⟨h1,B⟩:=aZ j p A;exact .inr ⟨hr.used j p B,h1,B⟩
 have b0:=hr.used i o0 hi;refine⟨⟨a0,G,⟨I,hd⟩,by omega,fun b hb hn=>hk b (fun e=>hn i o0 hi h0 e.symm),.refl _,fun b c h1 B=>by simp[h1]at B,D,fun i hi=>by omega,fun j p A y=>?_⟩,?_⟩
 .rcases u j p A with⟨rfl,rfl⟩|⟨h1,B,C⟩
  .exact .inr ⟨i,o0,hi,h0,by simp⟩
  .exact .inr ⟨j,p,C,y,(D.az j h1).symm⟩
 .refine⟨fun b c hb=>?_,fun j p A=>?_,fun j p A y=>?_,fun j p A=>?_,fun j k p q A R hp hq x=>?_⟩
  .have Y:b≠N.az i:=fun e=>by
    have:=hr.dD i o0 hi h0;rw[<-e,hb]at this;simp at this
   exact(hr.dR b c hb).mono (hk b Y)
  .rcases u j p A with⟨rfl,rfl⟩|⟨h1,B,C⟩<;>omega
  .rcases u j p A with⟨rfl,rfl⟩|⟨h1,B,C⟩
   .simpa using hr.dD i o0 hi h0
   .rw[D.az j h1];exact hr.dD j p C y
  .rcases u j p A with⟨rfl,rfl⟩|⟨h1,B,C⟩
   .exact ho
   .cases y:p.real with
    |true=>exact(hr.obj j p C).mono (.refl _) D (fun i hi=>by omega) h1 (hk _ (fun e=>B (hr.inj j i p o0 C hi y h0 e)))
    |false=>
     cases p with
     |row sz es=>cases es with
      |nil=>exact .inl Z
      |cons=>cases y
     |bf l T=>cases l with
      |nil=>exact .inl Z
      |cons=>cases y
     |_=>cases y
  .rcases u j p A with⟨rfl,rfl⟩|⟨h1,B,C⟩<;>rcases u k q R with⟨rfl,rfl⟩|⟨h4,h5,h6⟩
   .rfl
   .rw[D.az k h4]at x;simp at x;exact absurd (hr.inj _ _ _ _ hi h6 h0 hq x).symm h5
   .rw[D.az j h1]at x;simp at x;exact absurd (hr.inj _ _ _ _ C hi hp h0 x) B
   .rw[D.az j h1,D.az k h4]at x;exact hr.inj _ _ _ _ C h6 hp hq x
theorem Rel.del{U:Nat->Prop}(hr:Rel M N U h w)(i:Nat):Rel M N U ((i,io)::h) w:=
 ⟨hr.dR,fun j o b=>hr.used j o (aZ j o b).2,fun j o b u=>hr.dD j o (aZ j o b).2 u,fun j o b=>hr.obj j o (aZ j o b).2,
  fun j k o p b hk=>hr.inj j k o p (aZ j o b).2 (aZ k p hk).2⟩
theorem Ext.del{x:Mem}{y:Nm}{U A:Nat->Prop}{B:AH}{w':World}(b:Ext M N U h w x y A B w')(i:Nat):Ext M N U h w x y A ((i,io)::B) w':=
 ⟨b.os,b.tape,b.output,b.size,b.dc,b.mO,b.fO,b.nm,b.ule,fun j o C u=>b.ff j o (aZ j o C).2 u⟩
theorem Rel.swap{U:Nat->Prop}{i j:Nat}(b:i≠j){o p:Option AO}(hr:Rel M N U ((i,o)::(j,p)::h) w):Rel M N U ((j,p)::(i,o)::h) w:=by
 have e: ∀k,AH.get ((j,p)::(i,o)::h) k=AH.get ((i,o)::(j,p)::h) k:=by
  intro k;simp only[AH.au];by_cases h1:k=i
  .subst h1;rw[be b,am Z,am Z]
  .simp[h1]
 exact⟨hr.dR,fun k o hk=>hr.used k o (by rw[<-e];exact hk),fun k o hk=>hr.dD k o (by rw[<-e];exact hk),fun k o hk=>hr.obj k o (by rw[<-e];exact hk),
  fun k l o p hk hl=>hr.inj k l o p (by rw[<-e];exact hk) (by rw[<-e];exact hl)⟩
end
inductive Src (h:AH) (sz:Nat):PV->List (List PV)->Prop
 |cp (n:Nat) (el:Nat->List IV):Src h sz (.iv (.cp sz n el)) ((O9 n).map fun k=>(el k).map .iv)
 |row (j off n:Nat) (fs:List (List PV)) (hj:h.get j=co (.row sz fs)) (hle:off+n<=fs.length):Src h sz (.sl j off n sz) ((fs.drop off).take n)
 |nil:Src h sz (.iv (.v (.slice io 0 0))) []
theorem j9{sz:Nat}: ∀{es:List (List PV)},(∀(k:Nat) (e:List PV),es[k]? =co e->e.length=sz)-> ∀j p,es.flatten[j]? =co p-> ∃k e i,es[k]? =co e∧e[i]? =co p∧j=k*sz+i
 | [],_,j,p,h=>by simp at h
 |e::r,hl,j,p,h=>by
  rw[Rx]at h;have y:=hl 0 e Z;rcases PB j e.length with hj|hj
  .rw[OV hj]at h;exact⟨0,e,j,rfl,h,by simp⟩
  .rw[OQ hj]at h;obtain⟨k,b,i,h1,u,x⟩:=j9 (fun k e h=>hl (k+1) e (by simpa using h)) _ p h;exact⟨k+1,b,i,by simpa using h1,u,by rw[PD];omega⟩
theorem gV{sz:Nat}: ∀{es:List (List PV)},(∀(k:Nat) (e:List PV),es[k]? =co e->e.length=sz)->es.flatten.length=es.length*sz
 | [],_=>by simp
 |e::r,hl=>by
  rw[Rx,OE,gV (fun k e h=>hl (k+1) e (by simpa using h)),hl 0 e Z,Pb,PD];omega
theorem lS{sz:Nat}: ∀{es:List (List PV)},(∀(k:Nat) (e:List PV),es[k]? =co e->e.length=sz)-> ∀k e i p,es[k]? =co e->e[i]? =co p->es.flatten[k*sz+i]? =co p
 | [],_,k,e,i,p,h,_=>by simp at h
 |e0::r,hl,k,e,i,p,h,hi=>by
  rw[Rx];have b:=hl 0 e0 Z;cases k with
  |zero=>
   simp at h;subst h;rw[Qu,O8,OV (OB.1 hi).1];exact hi
  |succ k=>
   rw[OQ (by rw[b,PD];omega)];rw[show(k+1)*sz+i-e0.length=k*sz+i by rw[b,PD];omega];exact lS (fun k e h=>hl (k+1) e (by simpa using h)) k e i p (by simpa using h) hi
section
variable {P:Program} {ty:Ty} {M:Mem} {N:Nm} {w:World} {nt:NT} {s:AS} {a:Act}
theorem Src.ok{sz:Nat}{p:PV}{news:List (List PV)}(hs:Src s.h sz p news)(hf:Fits M N s nt a w){y:Value}(hy:VR M N (· <s.nx) p y):
  (∀(k:Nat) (e:List PV),news[k]? =co e->e.length=sz)∧ ∃I c,y= .slice I news.length c∧(news≠ []-> ∃b a0,I=co ⟨b,a0,io⟩∧
   ∀j p,news.flatten[j]? =co p-> ∃u,w.cell? ⟨b,a0+j,io⟩=co u∧VR M N (· <s.nx) p u):=by
 cases hs with
 |cp n el=>
  cases hy with
  |iv _ _ D=>
   cases D with
   |fh _ _ I c=>exact⟨by simp,I,c,by simp,by simp⟩
   |cp _ _ _ b a0 c hn hc hl hm hr=>
    have B: ∀(k:Nat) (e:List PV),((O9 n).map fun k=>(el k).map PV.iv)[k]? =co e->e.length=sz:=by
     intro k e x;rw[OH,OJ]at x;obtain⟨k',C,rfl⟩:=x;obtain⟨h1,A⟩:=OB.1 C;simp at A h1;subst A;simpa using hl k h1
    refine⟨B,_,c,by simp,fun _=>⟨b,a0,rfl,fun j p hp=>?_⟩⟩;obtain⟨k,e,i,h1,A,rfl⟩:=j9 B j p hp;rw[OH,OJ]at h1;obtain⟨k',C,rfl⟩:=h1;obtain⟨J,h4⟩:=OB.1 C;simp at h4 J;subst h4;rw[OH,OJ]at A;obtain⟨q,hq,rfl⟩:=A;have D:i<sz:=by rw[<-hl k J];exact(OB.1 hq).1
    have h5:=hm k i J D;cases hv:M.cell b (a0+k*sz+i) with
    |none=>simp[hv]at h5
    |some u=>
     refine⟨u,by rw[<-P3];exact hf.1.IY hv,.iv _ _ ?_⟩;have:=hr k i q J hq;rw[hv]at this;exact this
 |row j a0 n fs hj hle=>
  have R:=hf.1.obj j _ hj;have base:(∀(k:Nat) (e:List PV),fs[k]? =co e->e.length=sz)-> ∀(k:Nat) (e:List PV),((fs.drop a0).take n)[k]? =co e->e.length=sz:=by
   intro h k e x;rw[Pn]at x;split at x
   .rw[Py]at x;exact h _ e x
   .cases x
  cases hy with
  |lC _ _ hU=>exact⟨by simp,io,0,by simp,by simp⟩
  |sle _ _ cap hU hc x=>exact⟨by simp,co ⟨N.az j,0,io⟩,cap,by simp,by simp⟩
  |sl _ _ _ _ cap hU h0 hl hc x=>
   rcases R with rfl|⟨hsz,c,T,g1,g2,g3,g4,g5⟩
   .simp at hle;omega
   refine⟨base g4,_,cap,by simp;rw[Nat.min_eq_left (by omega)],fun _=>⟨N.az j,a0*sz,rfl,fun i p hp=>?_⟩⟩;obtain⟨k,e,G,h1,A,rfl⟩:=j9 (base g4) i p hp;rw[Pn]at h1;split at h1
   .rename_i hk;rw[Py]at h1;have c0:G<sz:=by rw[<-g4 _ e h1];exact(OB.1 A).1
    have Y:a0+k<fs.length:=(OB.1 h1).1;have b0:(a0+k)*sz+G<c.size:=by
     have:(a0+k+1)*sz<=fs.length*sz:=O3 _ Y;rw[PD]at this;omega
    refine⟨c.getD ((a0+k)*sz+G) undef,?_,g5 _ e _ p h1 A⟩;rw[show a0*sz+(k*sz+G)=(a0+k)*sz+G by rw[PD];omega];simp[World.cell?,g1,Oz,b0]
   .cases h1
 |nil=>
  cases hy with
  |iv _ _ D=>cases D with
   |v=>exact⟨by simp,io,0,rfl,by simp⟩
theorem ob{l:List PV}{b off:Nat}(h: ∀j p,l[j]? =co p-> ∃u,w.cell? ⟨b,off+j,io⟩=co u∧VR M N (· <s.nx) p u):
  ∃vs:List Value,vs.length=l.length∧(∀(j:Nat) (u:Value),vs[j]? =co u->w.cell? ((⟨b,off,io⟩:Addr).add j)=co u)∧ ∀(j:Nat) (p:PV),l[j]? =co p->VR M N (· <s.nx) p (vs.getD j undef):=by
 refine⟨(O9 l.length).map fun j=>(w.cell? ⟨b,off+j,io⟩).getD undef,by simp,fun j u hu=>?_,fun j p B=>?_⟩
 .rw[OH,OJ]at hu;obtain⟨D,x,rfl⟩:=hu;obtain⟨h1,A⟩:=OB.1 x;simp at h1 A;subst A;obtain⟨u,hu,_⟩:=h j _ (OD h1);rw[di,hu];rfl
 .have y:j<l.length:=(OB.1 B).1;obtain⟨u,hu,C⟩:=h j p B;rw[OC];simp[y,hu,C]
theorem jQ(t ty e:TypeId)(i:TypeInfo)(I:P.underlying t=co (.slice e))(hi:P.info? e=co i)(T:TypeId)
  (g b y:Nat) (x:Array Value) (hg:w.heap[g]? =co (.cells x T (0,0)))
  (a:Addr) (m c:Nat) (news:List Value) (hl:news.length=m*i.size) (A: ∀(j:Nat) (u:Value),news[j]? =co u->w.cell? (a.add j)=co u) (h1: ∀u∈news,u.oneCell'=is)
  (B:b+m<=y) (C:b*i.size+news.length<=x.size):
  (Builtin.append_ #[t,t] ty #[.slice (co ⟨g,0,io⟩) b y,.slice (co a) m c]).run P w=
   .ok (.slice (co ⟨g,0,io⟩) (b+m) y) (w.setRow g (x.toList.take (b*i.size)++news++x.toList.drop (b*i.size+news.length)).toArray):=by
 have G:=run_firstCells_some (P:=P) w i.size m a m c news hl A;have D:=run_storeCells_at P g (b*i.size) T news 0 x w hg (by simpa using C) h1;simp only[Qn]at D;simp[Builtin.append_,run_underlying I,sizeOf,typeInfo,hi,Builtin.lenOf,B,G,Addr.add_lit,D]
theorem ib(t ty e:TypeId)(i:TypeInfo)(C:P.underlying t=co (.slice e))(hi:P.info? e=co i)(y:Option Addr)(u j:Nat)(x:u<=j)(A:Option Addr)(c:Nat)(hs:y=io∨ ∃b o,y=co ⟨b,o,io⟩):
  (Builtin.append_ #[t,t] ty #[.slice y u j,.slice A 0 c]).run P w= .ok (.slice y u j) w:=by
 have B:(Builtin.firstCells i.size 0 (.slice A 0 c)).run P w= .ok #[] w:=by
  cases A with
  |none=>simp[Builtin.firstCells]
  |some a=>simp[Builtin.firstCells,loadCells,loadCellsFrom]
 rcases hs with rfl|⟨b,o,rfl⟩
 .simp[Builtin.append_,run_underlying C,sizeOf,typeInfo,hi,Builtin.lenOf,x,B]
 .simp[Builtin.append_,run_underlying C,sizeOf,typeInfo,hi,Builtin.lenOf,x,B,storeCells]
def oP(s:AS)(i sz:Nat)(es news:List (List PV)):AS:=match s with|⟨f,h,n⟩=>⟨f,(n,co (.row sz (es++news)))::(i,io)::h,n+1⟩
theorem EF(s:AS)(i sz:Nat)(es news:List (List PV)):(oP s i sz es news).h=(s.nx,co (.row sz (es++news)))::(i,io)::s.h:=by cases s;rfl
theorem Lb(s:AS)(i sz:Nat)(es news:List (List PV)):(oP s i sz es news).f=s.f:=by cases s;rfl
theorem jy(s:AS)(i sz:Nat)(es news:List (List PV)):(oP s i sz es news).nx=s.nx+1:=by cases s;rfl
theorem ma{i sz:Nat}{es news:List (List PV)}{b:Mem}{j:Nm}{w':World}(hf:Fits M N s nt a w)(u:Ext M N (· <s.nx) s.h w b j (· <s.nx+1) ((s.nx,co (.row sz (es++news)))::(i,io)::s.h) w')
  (hr:Rel b j (· <s.nx+1) ((s.nx,co (.row sz (es++news)))::(i,io)::s.h) w'):
  Ext M N (· <s.nx) s.h w b j (· <(oP s i sz es news).nx) (oP s i sz es news).h w'∧Fits b j (oP s i sz es news) nt a w':=by
 rw[EF,jy];refine⟨u,?_,?_,hf.2.2⟩
 .rw[EF,jy];exact hr
 .rw[Lb,jy];exact hf.2.1.ext u
theorem Ext.swap{U B:Nat->Prop}{h u:AH}{y:Mem}{A:Nm}{w':World}{i j:Nat}(x:i≠j){o p:Option AO}(b:Ext M N U h w y A B ((i,o)::(j,p)::u) w'):Ext M N U h w y A B ((j,p)::(i,o)::u) w':=by
 have e: ∀k,AH.get ((j,p)::(i,o)::u) k=AH.get ((i,o)::(j,p)::u) k:=by
  intro k;simp only[AH.au];by_cases h1:k=i
  .subst h1;rw[be x,am Z,am Z]
  .simp[h1]
 exact⟨b.os,b.tape,b.output,b.size,b.dc,b.mO,b.fO,b.nm,b.ule,fun k o hk=>b.ff k o (by rw[<-e];exact hk)⟩
theorem La(x1:bn P ty){o:Oper}{x y:Operand}{t u:TypeId}(ho:o.op= .call ⟨.builtin .append, #[x,y], #[t,t]⟩){e A:bA}(ht:ty t=co e)(hk:e.k= .aJ (.slice u))(hu:ty u=co A)
  {i len sz:Nat} {es news:List (List PV)} {py:PV} (hx:ev s.f x= .sl i 0 len sz) (hi:s.h.get i=co (.row sz es)) (G:es.length=len) (l2:A.size=sz) (hz:A.zero.cells.size=sz) (k2:0<sz)
  (i2:ev s.f y=py) (hy:Src s.h sz py news) (m1: ∀e∈news,ew e=is) (hb:(len+news.length)*A.bytes<=140737488355328) (r2:len+news.length<=140737488355328)
  {s':AS} (hp:putDst nt o (.sl s.nx 0 (len+news.length) sz) (oP s i sz es news)=co s'):OT P nt o s (fun t=>t=s'):=by
 refine OT.value hp fun M N a w hf=>?_;subst l2;obtain⟨⟨ii,r0,x0,d2,v1⟩,_⟩:=x1 u _ hu
 have t0:P.underlying t=co (.slice u):=by
  have:=(x1 t _ ht).2.1;rw[hk]at this;exact this.1
 have p1:=aG hf.2.1 x;rw[hx]at p1;have z1:=aG hf.2.1 y;rw[i2]at z1;obtain⟨R,ao,c,p2,e0⟩:=hy.ok hf z1;have C: ∀v w',(Builtin.append_ #[t,t] o.type #[a.eval x,a.eval y]).run P w= .ok v w'->(execOp a.eval o).run P w= .ok (.value v) w':=by
  intro v w' h;simp only[execOp,ho,resolve];simp[invoke,builtin,h]
 rw[p2]at C;have s2:i<s.nx:=hf.1.used i _ hi;have z0:s.nx≠i:=by omega
 have f2:=hf.1.obj i _ hi;have c0:(len+news.length)*ii.bytes<=140737488355328:=by rw[d2];exact hb
 have i0: ∀(I vs:List Value) (a0:Nat),I.length=es.length*A.size->vs.length=news.length*A.size->(∀(k:Nat) (e:List PV) (j:Nat) (p:PV),es[k]? =co e->e[j]? =co p->VR M N (· <s.nx) p (I.getD (k*A.size+j) undef))->
   (∀(k:Nat) (e:List PV),es[k]? =co e->e.length=A.size)->(∀(j:Nat) (p:PV),news.flatten[j]? =co p->VR M N (· <s.nx) p (vs.getD j undef))->len+news.length<=a0->a0<=maxLen->0<len+news.length->
   ∀z:Array Value,z=I.toArray++vs.toArray++Builtin.zeroCells A.zero.cells (a0-(len+news.length))->
   ∃M' N',Ext M N (· <s.nx) s.h w M' N' (· <(oP s i A.size es news).nx) (oP s i A.size es news).h (w.drew.alloc (.cells z u))∧Fits M' N' (oP s i A.size es news) nt a (w.drew.alloc (.cells z u))∧
    VR M' N' (· <(oP s i A.size es news).nx) (.sl s.nx 0 (len+news.length) A.size) (.slice (co ⟨w.heap.size,0,io⟩) (len+news.length) a0):=by
  intro I vs a0 l1 Y n2 t1 m2 m0 c2 n1 z r1;have g0:z.size=a0*A.size:=by
   rw[r1,QB,QB,size_zeroCells,hz];simp only[List.size_toArray,l1,Y,G];rw[<-PD,<-PD,Nat.add_sub_cancel' m0]
  obtain⟨N',h1,h2,h3,h4,h5⟩:=hf.1.drew.alloc (.cells z u) (.row A.size (es++news)) z.size (fun N' g1 g2 g3=>by
   refine .inr ⟨k2,z,u,by rw[g1];exact heap_alloc_new _ _,g2.symm,?_,fun k e B=>?_,fun k e j p B J=>?_⟩
   .rw[g0,OE,G];exact O3 _ m0
   .rcases PB k es.length with hk|hk
    .rw[OV hk]at B;exact t1 k e B
    .rw[OQ hk]at B;exact R _ e B
   .rcases PB k es.length with hk|hk
    .rw[OV hk]at B;have j1:j<A.size:=by rw[<-t1 k e B];exact(OB.1 J).1
     have q0:k*A.size+j<I.length:=by
      rw[l1];have:(k+1)*A.size<=es.length*A.size:=O3 _ hk;rw[PD]at this;omega
     have:=n2 k e j p B J;have e1:z.getD (k*A.size+j) undef=I.getD (k*A.size+j) undef:=by
      rw[r1,Oz,Array.append_assoc,Pc (by simpa using q0),OC];simp
     rw[e1];exact this.mono (.refl _) g3 (fun i hi=>by omega)
    .rw[OQ hk]at B;have j1:j<A.size:=by rw[<-R _ e B];exact(OB.1 J).1
     have k1:k-es.length<news.length:=(OB.1 B).1;have i1:=lS R _ e j p B J;have q0:(k-es.length)*A.size+j<vs.length:=by
      rw[Y];have:(k-es.length+1)*A.size<=news.length*A.size:=O3 _ k1;rw[PD]at this;omega
     have f0:k*A.size+j=I.length+((k-es.length)*A.size+j):=by
      rw[l1,Nat.sub_mul];have:es.length*A.size<=k*A.size:=O3 _ hk;omega
     have:=m2 _ p i1;have e1:z.getD (k*A.size+j) undef=vs.getD ((k-es.length)*A.size+j) undef:=by
      rw[r1,Oz,f0,Pc (by simp;omega),QX (by simp),OC];simp
     rw[e1];exact this.mono (.refl _) g3 (fun i hi=>by omega))
  have j2:=(h5.del i).swap (Ne.symm z0);have o2:=(((Ext.drew (M:=M) (N:=N) (U:=(· <s.nx)) (h:=s.h) (w:=w)).trans h4).del i).swap (Ne.symm z0);obtain⟨g1,g2⟩:=ma hf o2 j2;refine⟨M,N',g1,g2,?_⟩;rw[jy];have:=VR.sl (M:=M) (N:=N') (U:=(· <s.nx+1)) s.nx 0 (len+news.length) A.size a0 (by omega) n1 m0 c2 (by rw[h2,g0];simp);rw[h1,Qu]at this;exact this
 have o0: ∀vs:List Value,vs.length=news.flatten.length->vs.length=news.length*ii.size:=fun vs h=>by rw[h,gV R,x0]
 generalize a.eval x=vx at p1 C;cases p1 with
 |lC _ _ hU=>
  have B:es=[]:=by simpa using G
  subst B;by_cases hm:news=[]
  .subst hm;have D:=ib (P:=P) (w:=w) t o.type u ii t0 r0 io 0 0 (OL _) ao c (.inl Z);obtain⟨h1,h2⟩:=hf.1.ET A.size;obtain⟨g1,g2⟩:=ma (es:=[]) (news:=[]) (i:=i) hf ((h1.del i).swap (Ne.symm z0)) ((h2.del i).swap (Ne.symm z0));exact⟨_,w,M,N,C _ _ D,g1,g2,.lC _ _ (by rw[jy];omega)⟩
  .obtain⟨b,b1,d1,b0⟩:=e0 hm;subst d1;obtain⟨vs,Y,a1,w0⟩:=ob (s:=s) b0;have w1:0<news.length:=PJ.2 hm;have D:=run_append_nil (P:=P) w t o.type u ii A.zero t0 r0 v1 ⟨b,b1,io⟩ news.length c vs (o0 vs Y) a1 w1 (by omega) (by simp only[Qa,O8]at c0;omega);obtain⟨M',N',g1,g2,g3⟩:=i0 [] vs (grownCap w news.length 0 u) (by simp) (by rw[Y,gV R]) (by simp) (by simp) w0 (by simpa using grownCap_ge w news.length 0 u) (grownCap_le_maxLen w _ _ _ (by simp only[maxLen];omega)) (by omega) _ Z;simp only[O8,Qh] at*
   exact⟨_,_,M',N',C _ _ D,by simpa using g1,by simpa using g2,by simpa using g3⟩
 |sl _ _ _ _ a0 hU h0 hl hc hext=>
  rcases f2 with rfl|⟨hsz0,cur,T,q1,q2,q3,q4,q5⟩
  .simp at G;omega
  have k0:(AO.row A.size es).real=is:=by cases es with
   |nil=>simp at G;omega
   |cons=>rfl
  rw[Qu]at C;have n0:cur.size=a0*A.size:=by rw[q2,<-hext,O8]
  by_cases hm:news=[]
  .subst hm;have D:=ib (P:=P) (w:=w) t o.type u ii t0 r0 (co ⟨N.az i,0,io⟩) len a0 hl ao c (.inr ⟨_,_,rfl⟩)
   obtain⟨h1,h2⟩:=hf.1.move hi k0 w (.row A.size (es++ [])) Z Z Z Z (fun _ _=>rfl) (by
    rw[Pw]
    exact .inr ⟨hsz0,cur,T,by simpa using q1,by simpa using q2,q3,q4,fun k e j p B J=>(q5 k e j p B J).mono (.refl _) (N.eE _ _ _) (fun i hi=>by omega)⟩)
   obtain⟨g1,g2⟩:=ma (es:=es) (news:=[]) (i:=i) hf h1 h2;refine⟨_,w,M,_,C _ _ D,g1,g2,?_⟩;have:=VR.sl (M:=M) (N:=N.with s.nx (N.az i) (N.ext i)) (U:=(· <s.nx+1)) s.nx 0 len A.size a0 (by omega) h0 hl hc (by simpa using hext);rw[jy];simpa using this
  .obtain⟨b,b1,d1,b0⟩:=e0 hm;subst d1;obtain⟨vs,Y,a1,w0⟩:=ob (s:=s) b0;have w1:0<news.length:=PJ.2 hm;have p0:vs.length=news.length*A.size:=by rw[Y,gV R]
   have s0: ∀(j:Nat) (v:Value),(cur.toList.take (len*A.size))[j]? =co v->w.cell? ((⟨N.az i,0,io⟩:Addr).add j)=co v:=by
    intro j v hv;rw[Pn]at hv;split at hv
    .rw[di,O8];simp only[World.cell?,q1];simpa using hv
    .cases hv
   have t2:len*A.size<=cur.size:=by rw[n0];exact O3 _ hl
   have j0: ∀(k:Nat) (e:List PV) (j:Nat) (p:PV),es[k]? =co e->e[j]? =co p->k*A.size+j<len*A.size:=by
    intro k e j p B J;have hk:k<len:=by rw[<-G];exact(OB.1 B).1
    have j1:j<A.size:=by rw[<-q4 k e B];exact(OB.1 J).1
    have:(k+1)*A.size<=len*A.size:=O3 _ hk;rw[PD]at this;omega
   by_cases d0:len+news.length<=a0
   .have f1:len*A.size+vs.length<=cur.size:=by rw[p0,<-PD,n0];exact O3 _ d0
    have v0: ∀v∈vs,v.oneCell'=is:=by
     intro v hv;obtain⟨j,J⟩:=Po hv;have e2:j<news.flatten.length:=by rw[<-Y];exact(OB.1 J).1
     have hp:=OD e2;obtain⟨k,e,i',h1,h2,_⟩:=j9 R j _ hp;have:=(w0 j _ hp).one (gr (m1 e (Pe h1)) i' _ h2);rw[OC,J]at this;exact this
    have D:=jQ (P:=P) (w:=w) t o.type u ii t0 r0 T (N.az i) len a0 cur q1 ⟨b,b1,io⟩ news.length c vs (o0 vs Y) a1 v0 d0 (by rw[x0];exact f1);rw[x0]at D;generalize hL:(cur.toList.take (len*A.size)++vs++cur.toList.drop (len*A.size+vs.length)).toArray=L at D;have s1:L.size=cur.size:=by rw[<-hL];simp;omega
    have o1:=setRow_heap w (N.az i) cur L T (0,0) q1;have b2: ∀j,j<len*A.size->L.getD j undef=cur.getD j undef:=by
     intro j J;rw[<-hL,Oz,Oz];simp only[Pt];rw[O0,OV (by simp;omega),Pn,am J,O6]
    have a2: ∀j,j<vs.length->L.getD (len*A.size+j) undef=vs.getD j undef:=by
     intro j J;rw[<-hL,Oz,OC];simp only[Pt];rw[OV (by simp;omega),OQ (by simp;omega)];congr 2;simp;omega
    obtain⟨h1,h2⟩:=hf.1.move hi k0 (w.setRow (N.az i) L) (.row A.size (es++news)) Z Z Z (by simp) (fun b hb=>by
      simp only[World.setRow,Pd]
      rw[be (fun e=>hb e.symm)]) (by
     refine .inr ⟨hsz0,L,T,by simpa using o1,by rw[s1];simpa using q2,?_,fun k e B=>?_,fun k e j p B J=>?_⟩
     .rw[s1,n0,OE,G];exact O3 _ d0
     .rcases PB k es.length with hk|hk
      .rw[OV hk]at B;exact q4 k e B
      .rw[OQ hk]at B;exact R _ e B
     .rcases PB k es.length with hk|hk
      .rw[OV hk]at B;rw[b2 _ (j0 k e j p B J)];exact(q5 k e j p B J).mono (.refl _) (N.eE _ _ _) (fun i hi=>by omega)
      .rw[OQ hk]at B;have j1:j<A.size:=by rw[<-R _ e B];exact(OB.1 J).1
       have k1:k-es.length<news.length:=(OB.1 B).1;have i1:=lS R _ e j p B J;have q0:(k-es.length)*A.size+j<vs.length:=by
        rw[p0];have:(k-es.length+1)*A.size<=news.length*A.size:=O3 _ k1;rw[PD]at this;omega
       have f0:k*A.size+j=len*A.size+((k-es.length)*A.size+j):=by
        rw[<-G,Nat.sub_mul];have:es.length*A.size<=k*A.size:=O3 _ hk;omega
       rw[f0,a2 _ q0]
       exact(w0 _ p i1).mono (.refl _) (N.eE _ _ _) (fun i hi=>by omega))
    obtain⟨g1,g2⟩:=ma (es:=es) (news:=news) (i:=i) hf h1 h2;refine⟨_,_,M,_,C _ _ D,g1,g2,?_⟩;have:=VR.sl (M:=M) (N:=N.with s.nx (N.az i) (N.ext i)) (U:=(· <s.nx+1)) s.nx 0 (len+news.length) A.size a0 (by omega) (by omega) d0 hc (by simpa using hext);rw[jy];simpa using this
   .have D:=run_append_grow (P:=P) w t o.type u ii A.zero t0 r0 v1 ⟨N.az i,0,io⟩ len a0 (cur.toList.take (len*A.size)) (by rw[x0];simp;omega) s0 ⟨b,b1,io⟩ news.length c vs (o0 vs Y) a1 (by omega) (by omega)
     (growslice_fits (by omega) c0)
    obtain⟨M',N',g1,g2,g3⟩:=i0 (cur.toList.take (len*A.size)) vs (grownCap w (len+news.length) a0 u) (by rw[G];simp;omega) p0 (fun k e j p B J=>by
      have:=q5 k e j p B J;have q0:=j0 k e j p B J;rw[OC,Pn,am q0,O6]
      rw[Oz]at this;exact this) q4 w0 (grownCap_ge w _ _ _) (grownCap_le_maxLen w _ _ _ (by simp only[maxLen];omega)) (by omega) _ Z
    exact⟨_,_,M',N',C _ _ D,g1,g2,g3⟩
def J6(h:AH)(sz:Nat):PV->Option (List (List PV))
 | .iv (.cp sz' n el)=>match O2 sz' sz with
  |true=>co ((O9 n).map fun k=>(el k).map .iv)
  |false=>io
 | .iv (.v (.slice io 0 0))=>co []
 | .sl j off n sz'=>match O2 sz' sz,h.get j with
  |true,co (.row sz2 fs)=>match O2 sz2 sz,Qx (off+n) fs.length with
   |true,is=>co ((fs.drop off).take n)
   |_,_=>io
  |_,_=>io
 |_=>io
theorem gy{h:AH}{sz:Nat}{p:PV}{news:List (List PV)}(hs:J6 h sz p=co news):Src h sz p news:=by
 unfold J6 at hs;split at hs
 .split at hs
  .rename_i hb;simp only[OA]at hs;have:=OU hb;subst this;subst hs;exact .cp _ _
  .cases hs
 .simp only[OA]at hs;subst hs;exact .nil
 .split at hs
  .rename_i b y;split at hs
   .rename_i j u;simp only[OA]at hs;have h1:=OU b;have x:=OU j;subst h1;subst x;subst hs;exact .row _ _ _ _ y (Oy u)
   .cases hs
  .cases hs
 .cases hs
def allOnes:List (List PV)->Bool
 | []=>is
 |e::r=>match ew e with
  |true=>allOnes r
  |false=>jp
theorem jb: ∀{l:List (List PV)},allOnes l=is-> ∀e∈l,ew e=is
 | [],_,e,h=>by cases h
 |c::l,h,e,he=>by
  simp only[allOnes]at h;split at h
  .rename_i b;rcases OP.1 he with rfl|he
   .exact b
   .exact jb h e he
  .cases h
def rn(s:AS)(t sz:Nat):AS:=match s with|⟨f,h,n⟩=>⟨(t,.sl n 0 0 sz)::f,(n,co (.row sz []))::h,n+1⟩
theorem ES{o:Oper}{R:AS->Prop}{t sz:Nat}(y:s.f.get t= .iv (.v (.slice io 0 0)))(h:OT P nt o (rn s t sz) R):OT P nt o s R:=by
 intro M N a w b K Z hk;obtain⟨Y,sh,sn⟩:=s;obtain⟨h1,D⟩:=b.1.ET sz;have u:Fits M N (rn ⟨Y,sh,sn⟩ t sz) nt a w:=by
  refine⟨D,fun k=>?_,b.2.2⟩;simp only[rn];rw[AF.au];split
  .rename_i x;subst x;have:=b.2.1 k;simp only at y this;rw[y]at this;generalize a.tmps.getD k undef=v at this;cases this with
   |iv _ _ h=>cases h with
    |v=>exact .lC _ _ (Qc _)
  .exact(b.2.1 k).mono (.refl _) (.refl _ _) (fun i G=>PY G)
 exact h M N a w u K Z fun A B s' C w' J j I=>hk A B s' C w' (h1.trans J) j I
def yt(s:AS)(op:Op):Option (Nat×TypeId):=
 match op with
 | .call ⟨.builtin .append,args,tys⟩=>match args.toList,tys.toList with
  | [.tmp t0,_],[t,_]=>match s.f.get t0 with
   | .iv (.v (.slice io 0 0))=>co (t0,t)
   |_=>io
  |_,_=>io
 |_=>io
theorem Bm{op:Op}{t0:Nat}{t:TypeId}(h:yt s op=co (t0,t)):s.f.get t0= .iv (.v (.slice io 0 0)):=by
 unfold yt at h;split at h
 .split at h
  .split at h
   .rename_i b;simp only[OA,OK]at h;rw[<-h.1];exact b
   .cases h
  .cases h
 .cases h
end
end
section
section
variable {kc:KC} {V:Type} {M:Mem} {e:V->IV} {m:List (kc.K×V)} {ents:Array MapEntry} {clock:Nat}
theorem ij.yL(h:ij M kc e m ents clock){j:Nat}(hj:j<ents.size):ents.getD j ci=ents[j]:=by simp[Oz,hj]
theorem ij.set(h:ij M kc e m ents clock){i:Nat}{k:kc.K}{v:V}{y:Value}(hv:IR M (e v) y):ij M kc e (m.set i (k,v)) (ents.modify i fun x=>{x with key:=kc.ek k,val:=y}) clock:=by
 have hb: ∀(j:Nat) (f:MapEntry),(ents.modify i fun x=>{x with key:=kc.ek k,val:=y})[j]? =co f-> ∃g,ents[j]? =co g∧g.born=f.born:=by
  intro j f u;rw[Pd]at u;split at u
  .obtain⟨g,I,rfl⟩:=OJ.1 u;exact⟨g,I,rfl⟩
  .exact⟨f,u,rfl⟩
 have J: ∀(j:Nat) (x:kc.K×V),(m.set i (k,v))[j]? =co x->(j=i∧x=(k,v)∧i<m.length)∨(j≠i∧m[j]? =co x):=by
  intro j x b;rw[Qe]at b;split at b
  .rename_i B;split at b
   .simp only[OA]at b;exact .inl ⟨B.symm,b.symm,by assumption⟩
   .cases b
  .rename_i B;exact .inr ⟨fun e=>B e.symm,b⟩
 refine⟨by simp[h.size],fun j x b=>?_,fun j x b=>?_,fun j l f g u I G=>?_,fun j f u=>?_⟩
 .rcases J j x b with⟨rfl,rfl,C⟩|⟨h1,A⟩
  .have:j<ents.size:=by rw[h.size];exact C
   rw[Oz,Pd,am Z,O4 this];rfl
  .have:=h.key j x A;rw[Oz,Pd,be (fun e=>h1 e.symm),<-Oz];exact this
 .rcases J j x b with⟨rfl,rfl,C⟩|⟨h1,A⟩
  .have:j<ents.size:=by rw[h.size];exact C
   rw[Oz,Pd,am Z,O4 this];exact hv
  .have:=h.val j x A;rw[Oz,Pd,be (fun e=>h1 e.symm),<-Oz];exact this
 .obtain⟨D,h1,A⟩:=hb j f u;obtain⟨R,Y,h4⟩:=hb l g I;exact h.inj j l D R h1 Y (by rw[A,h4,G])
 .obtain⟨D,h1,A⟩:=hb j f u;rw[<-A];exact h.lt j D h1
theorem ij.push(h:ij M kc e m ents clock){k:kc.K}{v:V}{y:Value}(Y:IR M (e v) y):ij M kc e (m++ [(k,v)]) (ents.push {key:=kc.ek k,val:=y,born:=clock}) (clock+1):=by
 have D: ∀(j:Nat) (x:kc.K×V),(m++ [(k,v)])[j]? =co x->(j=ents.size∧x=(k,v))∨(j<ents.size∧m[j]? =co x):=by
  intro j x u;rw[h.size];rcases PB j m.length with hj|hj
  .rw[OV hj]at u;exact .inr ⟨hj,u⟩
  .rw[OQ hj]at u;have G:j-m.length=0:=by
    rcases Nat.eq_zero_or_pos (j-m.length) with h1|h1
    .exact h1
    .rw[List.getElem?_eq_none (by simp;omega)]at u;cases u
   rw[G]at u;exact .inl ⟨by omega,by simpa using u.symm⟩
 have hb: ∀(j:Nat) (f:MapEntry),(ents.push {key:=kc.ek k,val:=y,born:=clock})[j]? =co f->(j=ents.size∧f.born=clock)∨(j<ents.size∧ents[j]? =co f∧f.born<clock):=by
  intro j f b;rw[QI]at b;split at b
  .rename_i hj;simp only[OA]at b;subst b;exact .inl ⟨hj,rfl⟩
  .exact .inr ⟨(Pv.1 b).1,b,h.lt j f b⟩
 refine⟨by simp[h.size],fun j x u=>?_,fun j x u=>?_,fun j l f g b R B=>?_,fun j f b=>?_⟩
 .rcases D j x u with⟨rfl,rfl⟩|⟨h1,A⟩
  .simp[Oz]
  .have:=h.key j x A;rw[Oz,QI,be (by omega),<-Oz];exact this
 .rcases D j x u with⟨rfl,rfl⟩|⟨h1,A⟩
  .simpa[Oz]using Y
  .have:=h.val j x A;rw[Oz,QI,be (by omega),<-Oz];exact this
 .rcases hb j f b with⟨h1,A⟩|⟨h1,A,I⟩<;>rcases hb l g R with⟨J,C⟩|⟨J,C,h6⟩
  .omega
  .omega
  .omega
  .exact h.inj j l f g A C B
 .rcases hb j f b with⟨h1,A⟩|⟨h1,A,I⟩<;>omega
theorem ij.erase(h:ij M kc e m ents clock){i:Nat}(hi:i<m.length):ij M kc e (m.eraseIdx i) (ents.eraseIdxIfInBounds i) clock:=by
 have C:i<ents.size:=by rw[h.size];exact hi
 have D: ∀j,(ents.eraseIdxIfInBounds i)[j]? =if j<i then ents[j]? else ents[j+1]? :=by
  intro j;simp only[RA,C,dif_pos];rw[Array.getElem?_eraseIdx]
 have G: ∀j,(m.eraseIdx i)[j]? =if j<i then m[j]? else m[j+1]? :=fun j=>List.getElem?_eraseIdx;refine⟨?_,fun j x A=>?_,fun j x A=>?_,fun j l f g u b y=>?_,fun j f u=>?_⟩
 .simp only[RA,C,dif_pos,Array.size_eraseIdx,List.length_eraseIdx,hi,if_true,h.size]
 .rw[G]at A;rw[Oz,D];split at A
  .rename_i B;rw[am B,<-Oz];exact h.key j x A
  .rename_i B;rw[be B,<-Oz];exact h.key _ x A
 .rw[G]at A;rw[Oz,D];split at A
  .rename_i B;rw[am B,<-Oz];exact h.val j x A
  .rename_i B;rw[be B,<-Oz];exact h.val _ x A
 .rw[D]at u b;split at u<;>split at b
  .exact h.inj _ _ f g u b y
  .have:=h.inj _ _ f g u b y;omega
  .have:=h.inj _ _ f g u b y;omega
  .have:=h.inj _ _ f g u b y;omega
 .rw[D]at u;split at u<;>exact h.lt _ f u
theorem vc(kc:KC)(k:kc.K):Instr.sameBits 10000 (kc.ek k) (kc.ek k)=is:=by
 have hs: ∀(n:Nat) (a:ByteArray),Instr.sameBits n (.string a) (.string a)=is:=by
  intro n a;cases n<;>(simp only[Instr.sameBits];rw[beq_toListBytes,rA];simp)
 have b: ∀(n:Nat) (q:IntKind) (a:Int),Instr.sameBits n (.int q a) (.int q a)=is:=by
  intro n q a;cases n<;>simp[Instr.sameBits]
 cases kc with
 |str=>exact hs _ _
 |int q=>exact b _ _ _
 |si q=>
  simp only[KC.ek];show((#[Value.string k.1,.int q k.2].size== #[Value.string k.1,.int q k.2].size)&&(Instr.sameBits 9999 (.string k.1) (.string k.1)&&(Instr.sameBits 9999 (.int q k.2) (.int q k.2)&&is)))=is;rw[hs,b];rfl
 |fl s=>
  have j: ∀(t:FS) (l:List Value),ta t l->(l.zip l).all (fun(x:Value×Value)=>Instr.sameBits 9999 x.1 x.2)=is:=by
   intro t
   induction t with
   |nil=>intro l h;match l,h with
    | [],_=>rfl
   |cons o t ih=>intro l h;match l,h with
    |v::l,h=>
     rw[List.zip_cons_cons,RB,ih l h.2,Bool.and_true];cases o with
     |none=>obtain⟨a,rfl⟩:=h.1;exact hs _ _
     |some q=>obtain⟨n,rfl⟩:=h.1;exact b _ _ _
  simp only[KC.ek];show(((FK.vs s k).toArray.size==(FK.vs s k).toArray.size)&&(((FK.vs s k).toArray.toList.zip (FK.vs s k).toArray.toList).all fun(x:Value×Value)=>Instr.sameBits 9999 x.1 x.2))=is;rw[List.toList_toArray,j s _ (jK s k)];simp
end
def Jj(ty:Ty)(s:AS):Op->Option (Prop×AS)
 | .mapUpdate t m k x=>match ev s.f m with
  | .mp i=>match s.h.get i with
   |some (.map kc e z zv dv mm)=>match ty t with
    |some ⟨.aJ (.map kt _),_,_,_,_⟩=>match db ty kt with
     |some kc'=>match kw (kc'=kc),kc.dk (ev s.f k) with
      |true,co kk=>match s with
       |⟨f,h,n⟩=>sA (ev f x) fun p=>co (an p (.iv (e (dv p))),⟨f,(i,co (.map kc e z zv dv (cq kc mm kk (dv p))))::h,n⟩)
      |_,_=>io
     |none=>io
    |_=>io
   |_=>io
  |_=>io
 | .call ⟨.builtin .delete,args,tys⟩=>match args.toList,tys.toList with
  | [m,k],[t,_]=>match ev s.f m with
   | .mp i=>match s.h.get i with
    |some (.map kc e z zv dv mm)=>match ty t with
     |some ⟨.aJ (.map kt _),_,_,_,_⟩=>match db ty kt with
      |some kc'=>match kw (kc'=kc),kc.dk (ev s.f k) with
       |true,co kk=>match s with
        |⟨f,h,n⟩=>co (True,⟨f,(i,co (.map kc e z zv dv (jh kc mm kk)))::h,n⟩)
       |_,_=>io
      |none=>io
     |_=>io
    |_=>io
   |_=>io
  |_,_=>io
 |_=>io
section
variable {P:Program} {ty:Ty} {nt:NT} {s:AS} {M:Mem} {N:Nm} {w:World}
def lD(w:World)(b:Nat)(o:Obj):World:={w with heap:=w.heap.setIfInBounds b o}
theorem qd{nx:Nat}{h:AH}(hr:Rel M N (· <nx) h w){i:Nat}{kc:KC}{V:Type}{e:V->IV}{z:V}{B:Value}{x:PV->V}{G A:List (kc.K×V)}(hi:h.get i=co (.map kc e z B x G)){u:Array MapEntry}{j:Nat}
  (hm:ij M kc e A u j):Ext M N (· <nx) h w M N (· <nx) ((i,co (.map kc e z B x A))::h) (lD w (N.az i) (.map u j))∧Rel M N (· <nx) ((i,co (.map kc e z B x A))::h) (lD w (N.az i) (.map u j)):=by
 have C:=hr.obj i _ hi;have y:=OR.lt C Z;obtain⟨ents,clock,h1,I,D⟩:=C;refine hr.write hi Z _ _ Z Z Z (by simp[lD]) (fun b hb=>?_) ⟨u,j,?_,hm,D⟩
 .show(w.heap.setIfInBounds _ _)[b]? =_;rw[O5,be (fun e=>hb e.symm)]
 .show(w.heap.setIfInBounds _ _)[_]? =_;rw[O5,am Z,am y]
theorem gE{r:Nat}{es:Array MapEntry}{clock:Nat}(o:Obj)(hb:w.heap[r]? =co (.map es clock)):(setObj r o).run P w= .ok () (lD w r o):=by
 simp[setObj,Sem.run,hb,lD]
theorem EW(J:bn P ty){o:Oper}{C:Prop}{s1 s':AS}(h:Jj ty s o.op=co (C,s1))(hC:C)(hp:putDst nt o .any s1=co s'):OT P nt o s (fun t=>t=s'):=by
 unfold Jj at h;split at h
 .rename_i t m k x ho;split at h
  .rename_i i Y;split at h
   .rename_i V kc e z zv dv mm hi;split at h
    .rename_i kt et _ _ _ _ he;have hu:=(J _ _ he).2.1.1;split at h
     .rename_i b c0;split at h
      .rename_i D hd d0;have hd:=of_decide_eq_true hd;subst hd;obtain⟨f,hh,n⟩:=s;simp only[c5,OA,OK]at h;obtain⟨rfl,rfl⟩:=h;refine OT.skip hp fun M N a w I=>?_;have e0:=Ap d0 (aG I.2.1 k);have G:=aG I.2.1 m;simp only at Y;rw[Y]at G
       have k0:IR M (e (dv (ev f x))) (a.eval x):=by
        have:=hC M N (· <n) _ (aG I.2.1 x);generalize a.eval x=y at this;cases this with
        |iv _ _ h=>exact h
       obtain⟨ents,clock,h1,h2,h3⟩:=I.1.obj i _ hi;have R:=js (P:=P) (w:=w) J c0 D jp 9994;have B:=kP (P:=P) (w:=w) J c0 D h2.keys;have hg:(getObj (N.az i)).run P w= .ok (.map ents clock) w:=by simp[getObj,Sem.run,h1]
       have a0: ∀A u,ij M b e (cq b mm D (dv (ev f x))) A u->(Instr.mapUpdate t (.map (co (N.az i))) (b.ek D) (a.eval x)).run P w= .ok () (lD w (N.az i) (.map A u))->
         ∃w' M' N',(execOp a.eval o).run P w= .ok .skip w'∧Ext M N (· <n) hh w M' N' (· <n) ((i,co (.map b e z zv dv (cq b mm D (dv (ev f x)))))::hh) w'∧
          Fits M' N' ⟨f,(i,co (.map b e z zv dv (cq b mm D (dv (ev f x)))))::hh,n⟩ nt a w':=by
        intro A u g1 g2;obtain⟨g3,g4⟩:=qd I.1 hi g1;refine⟨_,M,N,?_,g3,g4,I.2.1,I.2.2⟩;have f0:a.eval m= .map (co (N.az i)):=by
         generalize a.eval m=y at G;cases G;rfl
        simp only[execOp,ho,f0,e0];simp[g2]
       cases hfi:iW b mm D with
       |none=>
        obtain⟨_,_,g3,_⟩:=mw hfi;rw[hfi]at B;refine a0 _ _ (by rw[g3];exact h2.push k0) ?_;simp[Instr.mapUpdate,run_underlying hu,hg,R,B,gE (P:=P) _ h1]
       |some j=>
        obtain⟨v,g0,_,_,g3,_⟩:=kg hfi;rw[hfi]at B;refine a0 _ _ (by rw[g3];exact h2.set k0) ?_;have hj:j<ents.size:=by rw[h2.size];exact(OB.1 g0).1
        have j0:=h2.key j _ g0;rw[h2.yL hj]at j0;have n0:(Instr.keyThatStays (b.ek D) (b.ek D)).run P w= .ok (b.ek D) w:=by simp[Instr.keyThatStays,vc]
        simp[Instr.mapUpdate,run_underlying hu,hg,R,B,hj,j0,n0,gE (P:=P) _ h1]
      .cases h
     .cases h
    .cases h
   .cases h
  .cases h
 .rename_i args m0 ho;split at h
  .rename_i m k t t' b0 i0;have ha:args= #[m,k]:=by rw[<-P1 (xs:=args),b0]
   have ht:m0= #[t,t']:=by rw[<-P1 (xs:=m0),i0]
   subst ha ht;split at h
   .rename_i i Y;split at h
    .rename_i V kc e z zv dv mm hi;split at h
     .rename_i kt et _ _ _ _ he;have hu:=(J _ _ he).2.1.1;split at h
      .rename_i b c0;split at h
       .rename_i D hd d0;have hd:=of_decide_eq_true hd;subst hd;obtain⟨f,hh,n⟩:=s;simp only[OA,OK]at h;obtain⟨rfl,rfl⟩:=h;refine OT.value hp fun M N a w I=>?_;have e0:=Ap d0 (aG I.2.1 k);have G:=aG I.2.1 m;simp only at Y;rw[Y]at G;obtain⟨ents,clock,h1,h2,h3⟩:=I.1.obj i _ hi;have R:=js (P:=P) (w:=w) J c0 D ents.isEmpty 9994;have B:=kP (P:=P) (w:=w) J c0 D h2.keys;have hg:(getObj (N.az i)).run P w= .ok (.map ents clock) w:=by simp[getObj,Sem.run,h1]
        have a0: ∀A u,ij M b e (jh b mm D) A u->(Builtin.delete_ #[t,t'] o.type #[.map (co (N.az i)),b.ek D]).run P w= .ok (.tuple #[]) (lD w (N.az i) (.map A u))->
          ∃x w' M' N',(execOp a.eval o).run P w= .ok (.value x) w'∧Ext M N (· <n) hh w M' N' (· <n) ((i,co (.map b e z zv dv (jh b mm D)))::hh) w'∧
           Fits M' N' ⟨f,(i,co (.map b e z zv dv (jh b mm D)))::hh,n⟩ nt a w'∧VR M' N' (· <n) .any x:=by
         intro A u g1 g2;obtain⟨g3,g4⟩:=qd I.1 hi g1;refine⟨.tuple #[],_,M,N,?_,g3,⟨g4,I.2.1,I.2.2⟩,.any _⟩;have f0:a.eval m= .map (co (N.az i)):=by
          generalize a.eval m=y at G;cases G;rfl
         simp only[execOp,ho,resolve];simp[invoke,builtin,f0,e0,g2]
        cases hfi:iW b mm D with
        |none=>
         obtain⟨_,_,_,g3⟩:=mw hfi;rw[hfi]at B;refine a0 _ _ (by rw[g3];exact h2) ?_;simp[Builtin.delete_,run_underlying hu,hg,R,B,gE (P:=P) _ h1]
        |some j=>
         obtain⟨v,g0,_,_,_,g3⟩:=kg hfi;rw[hfi]at B;refine a0 _ _ (by rw[g3];exact h2.erase (OB.1 g0).1) ?_;simp[Builtin.delete_,run_underlying hu,hg,R,B,gE (P:=P) _ h1]
       .cases h
      .cases h
     .cases h
    .cases h
   .cases h
  .cases h
 .cases h
end
section
variable {P:Program} {ty:Ty} {nt:NT} {s:AS} {Q:AQ} {k:List KI}
def Nj(nt:NT)(o:Oper)(s:AS)(i:Nat)(kc:KC){V:Type}(e:V->IV)(m:List (kc.K×V))(vs:List Nat)(t:AS):Prop:=
 ((∀j,j<m.length->j∈vs)∧putDst nt o (.bh [.kb jp]) s=co t)∨
 ∃j x,m[j]? =co x∧j∉vs∧putDst nt o (.bh [.kb is,kc.pk x.1,(e x.2).pv]) ⟨s.f,(i,co (.bB kc e m (j::vs) (co x)))::s.h,s.nx⟩=co t
theorem GH{o:Oper}{it:Operand}(ho:o.op= .next it jp){i:Nat}(s0:ev s.f it= .ptr i 0){kc:KC}{V:Type}{e:V->IV}{m:List (kc.K×V)}{vs:List Nat}{r0:Option (kc.K×V)}
  (hi:s.h.get i=co (.bB kc e m vs r0)) {d:Nat} (hd:o.dst=co d) (hlt:d<nt):OT P nt o s (Nj nt o s i kc e m vs):=by
 intro M N a w hf K Z hk;have hx:=aG hf.2.1 it;rw[s0]at hx;have i0:=hf.1.obj i _ hi;have c0:N.az i<w.heap.size:=OR.lt i0 rfl;have d0:a.eval it= .pointer (co ⟨N.az i,0,io⟩):=by
  generalize a.eval it=y at hx;cases hx;rfl
 have J: ∀p s1,∃t,putDst nt o p s1=co t∧t={s1 with f:=(d,p)::s1.f}:=by
  intro p s1;have hb:O1 d nt=is:=Pu hlt;obtain⟨f,h,n⟩:=s1;exact⟨_,by simp only[putDst,hd,hb,cond_true,c5],rfl⟩
 rcases i0 with⟨rfl,rfl,rfl,h0⟩|⟨b,ents,clock,u,h1,h2,G,h4,h5,h6,h7⟩
 .have B:(execOp a.eval o).run P w= .ok (.value (.tuple #[.bool jp])) w:=by
   simp only[execOp,ho,d0];refine aW ?_;simp only[Instr.next,getObj,Sem.run_bind,Sem.run,h0,Result.andThen];rfl
  unfold Oper.wp;rw[B];simp only[Oper.upon];obtain⟨t,ht,C⟩:=J (.bh [.kb jp]) s
  refine hk M N t _ w (by rw[C];exact .refl _ _ _ _ _) (by
   rw[C,hd]
   exact hf.put d _ _ hlt (.bh _ _ rfl fun j p D=>by
    match j with
    |0=>simp at D;subst D;exact .kb _
    |j+1=>simp at D)) (.inl ⟨fun j I=>absurd I (QA _),ht⟩)
 have hb:w.heap[b]? =co (.map ents clock):=hf.1.dR _ _ h2;have z0: ∀j,j<ents.size->ents.getD j ci=ents[j]! :=fun j I=>by simp[Oz,I,getElem!_pos]
 have g0: ∀x∈ents.toList,x.born<clock:=by
  intro x hx;obtain⟨j,I⟩:=Po hx;exact G.lt j x (by simpa using I)
 unfold Oper.wp;rcases run_next_at (P:=P) w o.type (N.az i) b clock clock u ents clock h1 hb g0 (OL _) with⟨g1,g2⟩|⟨x,q0,Y,p0,g2⟩
 .have B:(execOp a.eval o).run P w= .ok (.value (.tuple #[.bool jp])) w:=by
   simp only[execOp,ho,d0];exact aW g2
  rw[B];simp only[Oper.upon];obtain⟨t,ht,C⟩:=J (.bh [.kb jp]) s
  refine hk M N t _ w (by rw[C];exact .refl _ _ _ _ _) (by
   rw[C,hd]
   exact hf.put d _ _ hlt (.bh _ _ rfl fun j p D=>by
    match j with
    |0=>simp at D;subst D;exact .kb _
    |j+1=>simp at D)) (.inl ⟨fun j I=>?_,ht⟩)
  have t0:j<ents.size:=by rw[G.size];exact I
  have f0:(ents[j]).born∈u:=by
   refine Decidable.byContradiction fun hn=>?_
   have:ents[j]∈leftOf ents u:=by
    simp only[leftOf,Rm];exact⟨by simp,by simpa using hn⟩
   rw[P6 g1]at this;simp at this
  have:(ents[j]).born∈u.toList:=by simpa using f0
  rw[h4,Pg]at this;obtain⟨q,hq,n0⟩:=this;have o0:q∈vs:=by simpa using hq
  have m0:q<ents.size:=by rw[G.size];exact h5 q o0
  rw[G.yL m0]at n0;have:=G.inj q j ents[q] ents[j] (by simp[m0]) (by simp[t0]) n0;rw[<-this];exact o0
 .have B:(execOp a.eval o).run P w= .ok (.value (.tuple #[.bool is,x.key,x.val])) (lD Y (N.az i) (.mapIter (co b) clock (u.push x.born) clock)):=by
   simp only[execOp,ho,d0];rw[Sem.run_bind,g2];rfl
  rw[B];simp only[Oper.upon];simp only[leftOf,Array.mem_toList_iff,Rm]at q0;obtain⟨w0,x0⟩:=q0;obtain⟨j,I,e0⟩:=Array.getElem_of_mem w0;have j0:j<m.length:=by rw[<-G.size];exact I
  have R:m[j]? =co m[j]:=OD j0;have k0:j∉vs:=by
   intro hv;have:(ents[j]).born∈u.toList:=by
    rw[h4,Pg];exact⟨j,by simpa using hv,by rw[G.yL I]⟩
   rw[e0]at this;have:x.born∈u:=by simpa using this
   simp[this]at x0
  obtain⟨t,ht,C⟩:=J (.bh [.kb is,kc.pk m[j].1,(e m[j].2).pv]) ⟨s.f,(i,co (.bB kc e m (j::vs) (co m[j])))::s.h,s.nx⟩;have A:Y.heap=w.heap∧Y.os=w.os∧Y.tape=w.tape∧Y.output=w.output:=by
   rcases p0 with rfl|rfl<;>exact⟨rfl,rfl,rfl,rfl⟩
  have v0:OR M N (· <s.nx) (lD Y (N.az i) (.mapIter (co b) clock (u.push x.born) clock)) i (.bB kc e m (j::vs) (co m[j])):=by
   refine .inr ⟨b,ents,clock,u.push x.born,?_,h2,G,?_,?_,?_,?_⟩
   .show(Y.heap.setIfInBounds _ _)[_]? =_;rw[O5,am rfl,A.1,am c0]
   .simp only[Array.toList_push,h4,List.reverse_cons,OX,OZ,P9];rw[G.yL I,e0]
   .intro q hq;rcases OP.1 hq with rfl|hq
    .exact j0
    .exact h5 q hq
   .exact Pf.2 ⟨k0,h6⟩
   .intro y hy;simp only[OA]at hy;subst hy;exact⟨j,vs,rfl,R⟩
  obtain⟨q1,q2⟩:=hf.1.write hi rfl (lD Y (N.az i) (.mapIter (co b) clock (u.push x.born) clock)) _ A.2.1 A.2.2.1 A.2.2.2 (by simp[lD,A.1]) (fun c hc=>by
   show(Y.heap.setIfInBounds _ _)[c]? =_
   rw[O5,be (fun e=>hc e.symm),A.1]) v0 (p0.elim (fun e=>e▸OL _) fun e=>e▸Qv _)
  have a0:=G.key j _ R;have b0:=G.val j _ R;rw[G.yL I,e0]at a0 b0
  refine hk M N t _ _ (by rw[C];exact q1) (by
   rw[C,hd];refine Fits.put (s:=⟨s.f,(i,co (.bB kc e m (j::vs) (co m[j])))::s.h,s.nx⟩) ⟨q2,hf.2⟩ d _ _ hlt (.bh _ _ rfl fun q p D=>?_)
   match q with
   |0=>simp at D;subst D;exact .kb _
   |1=>simp at D;subst D;simp only[Oz];simp;rw[a0];exact ue kc _
   |2=>simp at D;subst D;exact tZ b0
   |q+3=>simp at D) (.inr ⟨j,m[j],R,k0,ht⟩)
theorem dd{all rest:List Oper}{o:Oper}{y:Operand}{i:Nat}{kc:KC}{V:Type}{e:V->IV}{m:List (kc.K×V)}{vs:List Nat}{b:Option (kc.K×V)}{d:Nat}
  (ho:o.op= .next y jp) (hg:o.guard=io) (u:ev s.f y= .ptr i 0) (hi:s.h.get i=co (.bB kc e m vs b)) (hd:o.dst=co d) (hlt:d<nt)
  (h1:(∀j,j<m.length->j∈vs)->GO P nt (.ops all rest::k) Q ⟨(d,.bh [.kb jp])::s.f,s.h,s.nx⟩)
  (A: ∀j x,m[j]? =co x->j∉vs->GO P nt (.ops all rest::k) Q ⟨(d,.bh [.kb is,kc.pk x.1,(e x.2).pv])::s.f,(i,co (.bB kc e m (j::vs) (co x)))::s.h,s.nx⟩):
  GO P nt (.ops all (o::rest)::k) Q s:=by
 refine cG hg (GH ho u hi hd hlt) fun t B=>?_;have hb:O1 d nt=is:=Pu hlt;rcases B with⟨g1,g2⟩|⟨j,x,g1,g2,g3⟩
 .obtain⟨f,h,n⟩:=s;simp only[putDst,hd,hb,cond_true,c5,OA]at g2;subst g2;exact h1 g1
 .simp only[putDst,hd,hb,cond_true,c5,OA]at g3;subst g3;exact A j x g1 g2
mutual
def PV.eR(i:Nat)(x:IV):PV->PV
 | .iv x=> .iv x
 | .agg cs=> .agg (sy i x cs)
 | .bh cs=> .bh (sy i x cs)
 | .sl j off len sz'=> .sl j off len sz'
 | .ptr j o=> .ptr j o
 | .cD j a b c=> .cD j a b c
 | .dY z j=> .dY z j
 | .mA j o n=> .mA j o n
 | .mp j=>bif O2 j i then .iv x else .mp j
 | .bX fn a b=> .bX fn a b
 | .kb b=> .kb b
 | .any=> .any
def sy(i:Nat)(x:IV):List PV->List PV
 | []=> []
 |p::r=>PV.eR i x p::sy i x r
end
theorem fX(i:Nat)(x:IV): ∀l:List PV,sy i x l=l.map (PV.eR i x)
 | []=>rfl
 |p::r=>by simp[sy,fX i x r]
theorem Hi{M:Mem}{N:Nm}{n:Nat}{h:AH}{w:World}(hr:Rel M N (· <n) h w){i:Nat}{kc:KC}{V:Type}{e:V->IV}{z:V}{zv:Value}{dv:PV->V}{m:List (kc.K×V)}(hi:h.get i=co (.map kc e z zv dv m)):
  ∃B,Ext M N (· <n) h w B N (· <n) ((i,io)::h) w∧Rel B N (· <n) ((i,io)::h) w∧M.le B∧
   ∀p x,VR M N (· <n) p x->VR B N (· <n) (p.eR i (.dJ kc e z zv m)) x:=by
 have I:=hr.dD i _ hi Z;obtain⟨ents,clock,h1,C,h3⟩:=hr.obj i _ hi
 let B:Mem:=M.set (N.az i) (.map ents clock) I
 have hM:M.le B:=fun b d hb=>by
  simp only[B,Mem.set];by_cases u:b=N.az i
  .rw[u,I]at hb;cases hb
  .rw[be u];exact hb
 have hnew: ∀b d,M b=io->B b=co d->b=N.az i:=fun b d h1 C=>by
  simp only[B,Mem.set]at C;by_cases u:b=N.az i
  .exact u
  .rw[be u,h1]at C;cases C
 refine⟨B,?_,?_,hM,fun p x Y=>?_⟩
 .exact⟨rfl,rfl,⟨rfl,OL _⟩,OL _,fun _ _ _=>rfl,hM,fun b d h1 C=> .inr ⟨i,_,hi,rfl,(hnew b d h1 C).symm⟩,.refl _ _,fun _ h=>h,fun j o A R=> .inr ⟨j,o,(aZ j o A).2,R,rfl⟩⟩
 .refine⟨fun b d hb=>?_,fun j o A=>hr.used j o (aZ j o A).2,fun j o A D=>?_,fun j o A=>?_,fun j k o p A hk=>hr.inj j k o p (aZ j o A).2 (aZ k p hk).2⟩
  .simp only[B,Mem.set]at hb;by_cases u:b=N.az i
   .rw[am u]at hb;cases hb;rw[u];exact h1
   .rw[be u]at hb;exact hr.dR b d hb
  .obtain⟨g1,g2⟩:=aZ j o A;simp only[B,Mem.set];rw[be fun e=>g1 (hr.inj j i o _ g2 hi D Z e)];exact hr.dD j o g2 D
  .obtain⟨g1,g2⟩:=aZ j o A;exact(hr.obj j o g2).mono hM (.refl _ _) (fun _ h=>h) (hr.used j o g2) Z
 .induction Y with
  |iv x y h=>exact .iv _ _ (h.mono hM)
  |agg cs ys hl _ ih=>
   refine .agg _ _ (by simpa[fX]using hl) fun j q J=>?_;rw[fX,OH,OJ]at J;obtain⟨q0,G,rfl⟩:=J
   exact ih j q0 G
  |bh cs ys hl _ ih=>
   refine .bh _ _ (by simpa[fX]using hl) fun j q J=>?_;rw[fX,OH,OJ]at J;obtain⟨q0,G,rfl⟩:=J
   exact ih j q0 G
  |ptr i off h=>exact .ptr _ _ h
  |cD i sz k off h=>exact .cD _ _ _ _ h
  |dY z i h=>exact .dY _ _ h
  |mA i o n h=>exact .mA _ _ _ h
  |sl j off len sz' cap h h0 hl hc he=>exact .sl _ _ _ _ _ h h0 hl hc he
  |lC j sz' h=>exact .lC _ _ h
  |sle j sz' cap h hc he=>exact .sle _ _ _ h hc he
  |mp j h=>
   simp only[PV.eR];cases hb:O2 j i with
   |true=>
    have A:=OU hb;subst A;exact .iv _ _ (.dJ _ _ _ _ _ _ ents clock (by simp[B,Mem.set]) C.size C.key (fun j x Y=>(C.val j x Y).mono hM) (h3.mono hM) C.inj C.lt)
   |false=>exact .mp _ h
  |bX fn first caps f' c' h1 C hr1 hr2 _ _=>exact .bX _ _ _ _ _ h1 C (fun j p A=>(hr1 j p A).mono hM (.refl _ _) (fun _ h=>h)) (fun j p A=>(hr2 j p A).mono hM (.refl _ _) (fun _ h=>h))
  |kb b=>exact .kb _
  |any x=>exact .any _
def AO.eR(i:Nat)(x:IV):AO->AO
 | .cells cs T=> .cells (sy i x cs) T
 | .row sz es=> .row sz (es.map (sy i x))
 | .bf l T=> .bf l T
 | .eC=> .eC
 | .map kc e z zv dv m=> .map kc e z zv dv m
 | .bB kc e m vs c=> .bB kc e m vs c
 | .c9 s p=> .c9 s p
 | .gi kc e z zv dv m bs c=> .gi kc e z zv dv m bs c
 | .dB q c l=> .dB q c l
def AH.eR(i:Nat)(x:IV):AH->AH
 | []=> []
 |(k,io)::r=>(k,io)::AH.eR i x r
 |(k,co o)::r=>(k,co (o.eR i x))::AH.eR i x r
theorem AH.iT(i:Nat)(x:IV): ∀(h:AH) (j:Nat),(AH.eR i x h).get j=(h.get j).map (AO.eR i x)
 | [],_=>rfl
 |(k,io)::r,j=>by
  simp only[AH.eR,AH.au,AH.iT i x r j];split<;>rfl
 |(k,co o)::r,j=>by
  simp only[AH.eR,AH.au,AH.iT i x r j];split<;>rfl
theorem AO.pC(i:Nat)(x:IV)(o:AO):(o.eR i x).real=o.real:=by
 cases o with
 |row sz es=>cases es<;>rfl
 |bf l T=>cases l<;>rfl
 |_=>rfl
theorem oG{M:Mem}{N:Nm}{n:Nat}{h:AH}{w:World}(hr:Rel M N (· <n) h w){i:Nat}{kc:KC}{V:Type}{e:V->IV}{z:V}{D:Value}{dv:PV->V}{m:List (kc.K×V)}(hi:h.get i=co (.map kc e z D dv m)):
  ∃B,Ext M N (· <n) h w B N (· <n) ((i,io)::h.eR i (.dJ kc e z D m)) w∧Rel B N (· <n) ((i,io)::h.eR i (.dJ kc e z D m)) w∧M.le B∧
   ∀p x,VR M N (· <n) p x->VR B N (· <n) (p.eR i (.dJ kc e z D m)) x:=by
 obtain⟨B,h1,b,h3,Y⟩:=Hi hr hi;have C: ∀j o,AH.get ((i,io)::h.eR i (.dJ kc e z D m)) j=co o-> ∃p,AH.get ((i,io)::h) j=co p∧h.get j=co p∧o=p.eR i (.dJ kc e z D m):=by
  intro j o u;obtain⟨g1,g2⟩:=aZ j o u;rw[AH.iT,OJ]at g2;obtain⟨p,g3,g4⟩:=g2;exact⟨p,by rw[AH.au,be g1];exact g3,g3,g4.symm⟩
 refine⟨B,⟨h1.os,h1.tape,h1.output,h1.size,h1.dc,h1.mO,h1.fO,h1.nm,h1.ule,fun j o u y=>?_⟩,⟨b.dR,fun j o u=>?_,fun j o u y=>?_,fun j o u=>?_,fun j k o p u hk ho hp=>?_⟩,h3,Y⟩
 .obtain⟨p,g1,_,rfl⟩:=C j o u;rw[AO.pC]at y;exact h1.ff j p g1 y
 .obtain⟨p,g1,_,rfl⟩:=C j o u;exact b.used j p g1
 .obtain⟨p,g1,_,rfl⟩:=C j o u;rw[AO.pC]at y;exact b.dD j p g1 y
 .obtain⟨p,g1,g2,rfl⟩:=C j o u;have I:=hr.obj j p g2;cases p with
  |cells cs T0=>
   obtain⟨c,T,q1,q2,q3,q4,q5⟩:=I;refine⟨c,T,q1,q2,by simpa[fX]using q3,fun k q J=>?_,q5⟩;rw[fX,OH,OJ]at J;obtain⟨q0,b0,rfl⟩:=J;exact Y _ _ (q4 k q0 b0)
  |row sz es=>
   rcases I with rfl|⟨q0,c,T,q1,q2,q3,q4,q5⟩
   .exact .inl Z
   refine .inr ⟨q0,c,T,q1,q2,by simpa using q3,fun k e G=>?_,fun k e j q G J=>?_⟩
   .rw[OH,OJ]at G;obtain⟨R,A,rfl⟩:=G;rw[fX,O7];exact q4 k R A
   .rw[OH,OJ]at G;obtain⟨R,A,rfl⟩:=G;rw[fX,OH,OJ]at J;obtain⟨q',a0,rfl⟩:=J;exact Y _ _ (q5 k R j q' A a0)
  |bf=>exact b.obj j _ g1
  |eC=>exact b.obj j _ g1
  |map=>exact b.obj j _ g1
  |bB=>exact b.obj j _ g1
  |c9=>exact b.obj j _ g1
  |gi=>exact b.obj j _ g1
  |dB=>exact b.obj j _ g1
 .obtain⟨o',g1,_,rfl⟩:=C j o u;obtain⟨p',g2,_,rfl⟩:=C k p hk;rw[AO.pC]at ho hp;exact b.inj j k o' p' g1 g2 ho hp
def AF.eR(i:Nat)(x:IV):AF->AF
 | []=> []
 |(d,p)::r=>(d,p.eR i x)::AF.eR i x r
theorem AF.iT(i:Nat)(x:IV): ∀(f:AF) (d:Nat),(AF.eR i x f).get d=(f.get d).eR i x
 | [],_=>rfl
 |(k,p)::r,d=>by
  simp only[AF.eR,AF.au,AF.iT i x r d];split<;>rfl
theorem Ha{c:Code}(i:Nat){kc:KC}{V:Type}{e:V->IV}{z:V}{b:Value}{G:PV->V}{m:List (kc.K×V)}(hi:s.h.get i=co (.map kc e z b G m))
  (h:GO P nt (.code c::k) Q ⟨s.f.eR i (.dJ kc e z b m),(i,io)::s.h.eR i (.dJ kc e z b m),s.nx⟩):GO P nt (.code c::k) Q s:=by
 intro M N a w j;obtain⟨B,h1,I,Y,J⟩:=oG j.1 hi
 have u:Fits B N ⟨s.f.eR i (.dJ kc e z b m),(i,io)::s.h.eR i (.dJ kc e z b m),s.nx⟩ nt a w:=⟨I,fun d=>by
  rw[AF.iT];exact J _ _ (j.2.1 d),j.2.2⟩
 exact AW.then h u fun e a2 w2 C D R A x y=>⟨C,D,R,h1.trans A,x,y⟩
end
def Ko(ty:Ty)(s:AS):Op->Option (PV×AS)
 | .range t x=>match ev s.f x with
  | .mp i=>match s.h.get i with
   |some (.map kc e z zv _ m)=>match ty t with
    |some ⟨.aJ (.map _ _),_,_,_,_⟩=>match s with
     |⟨f,h,n⟩=>co (.ptr n 0,⟨f.eR i (.dJ kc e z zv m),(n,co (.bB kc e m [] io))::(i,io)::h.eR i (.dJ kc e z zv m),n+1⟩)
    |_=>io
   |_=>io
  |_=>io
 |_=>io
theorem Gn{P:Program}{ty:Ty}{nt:NT}{s:AS}(J:bn P ty){o:Oper}{p:PV}{s1 s':AS}(h:Ko ty s o.op=co (p,s1))(hp:putDst nt o p s1=co s'):OT P nt o s (fun t=>t=s'):=by
 unfold Ko at h;split at h
 .rename_i t x ho;split at h
  .rename_i i C;split at h
   .rename_i V kc e z zv dv m B;split at h
    .rename_i kt et _ _ _ _ he;have hu:=(J _ _ he).2.1.1;obtain⟨f,hh,n⟩:=s;simp only[OA,OK]at h;obtain⟨rfl,rfl⟩:=h;refine OT.value hp fun M N a w A=>?_;have R:=aG A.2.1 x;simp only at C B;rw[C]at R;obtain⟨ents,clock,g1,g2,g3⟩:=A.1.obj i _ B;obtain⟨G,h1,Y,h3,h4⟩:=oG A.1 B;have j:VR G N (· <n) ((PV.mp i).eR i (.dJ kc e z zv m)) (.map (co (N.az i))):=h4 _ _ (.mp i (A.1.used i _ B));have hb:O2 i i=is:=by simp
     simp only[PV.eR,hb,cond_true]at j;cases j with
     |iv _ _ j=>cases j with
      |dJ _ _ _ _ _ b ents' clock' hb' hs hk hv' hz hi' hc=>
       obtain⟨I,q1,q2,q3,q4,q5⟩:=Y.alloc (.mapIter (co (N.az i)) clock' #[] clock') (.bB kc e m [] io) 0 (fun I r1 r2 r3=>
        .inr ⟨N.az i,ents',clock', #[],by rw[r1];exact heap_alloc_new w _,hb',⟨hs,hk,hv',hi',hc⟩,rfl,by simp,Pk,by simp⟩)
       have u:w.heap[N.az i]? =co (.map ents' clock'):=Y.dR _ _ hb';have D:a.eval x= .map (co (N.az i)):=by
        generalize a.eval x=y at R;cases R;rfl
       refine⟨.pointer (co ⟨w.heap.size,0,io⟩),_,G,I,?_,h1.trans q4,⟨q5,fun d=>?_,A.2.2⟩,?_⟩
       .simp only[execOp,ho,D];simp[Instr.range,run_underlying hu,getObj,Sem.run,u,Result.andThen]
       .rw[AF.iT];exact(h4 _ _ (A.2.1 d)).mono (.refl _) q3 (fun i B=>PY B)
       .have:=VR.ptr (M:=G) (N:=I) (U:=(· <n+1)) n 0 (by omega);rw[q1]at this;exact this
    .cases h
   .cases h
  .cases h
 .cases h
def J5(h:AH)(sz:Nat):PV->Option (List (List PV)×Nat×Prop)
 | .iv (.cp sz' n el)=>match O2 sz' sz with
  |true=>co ((O9 n).map fun k=>(el k).map .iv,n,True)
  |false=>io
 | .iv (.v (.slice io 0 0))=>co ([],0,True)
 | .sl j off n sz'=>match O2 sz' sz,h.get j with
  |true,co (.row sz2 fs)=>match O2 sz2 sz with
   |true=>co ((fs.drop off).take n,n,off+n<=fs.length)
   |_=>io
  |_,_=>io
 |_=>io
theorem F6{h:AH}{sz n:Nat}{p:PV}{news:List (List PV)}{C:Prop}(hs:J5 h sz p=co (news,n,C))(hC:C):Src h sz p news∧news.length=n:=by
 unfold J5 at hs;split at hs
 .split at hs
  .rename_i hb;simp only[OA,OK]at hs;have:=OU hb;obtain⟨rfl,rfl,rfl⟩:=hs;subst this;exact⟨.cp _ _,by simp⟩
  .cases hs
 .simp only[OA,OK]at hs;obtain⟨rfl,rfl,rfl⟩:=hs;exact⟨.nil,rfl⟩
 .split at hs
  .rename_i b x;split at hs
   .rename_i j;simp only[OA,OK]at hs;have h1:=OU b;have u:=OU j;subst h1;subst u;obtain⟨rfl,rfl,rfl⟩:=hs;exact⟨.row _ _ _ _ x hC,by simp;omega⟩
   .cases hs
  .cases hs
 .cases hs
def HC(ty:Ty)(s:AS)(op:Op):Option (Prop×PV×AS):=
 match op with
 | .call ⟨.builtin .append,args,tys⟩=>match args.toList,tys.toList with
  | [x,y],[t,t']=>match O2 t' t,ty t with
   |true,co ⟨.aJ (.slice u),_,_,_,_⟩=>match ty u with
    |some ⟨_,esz,eby,ez,_⟩=>match O2 ez.cells.size esz,O1 0 esz,ev s.f x with
     |true,is,.sl i 0 len sz=>match O2 esz sz,s.h.get i with
      |true,co (.row sz' es)=>match O2 sz' sz,J5 s.h sz (ev s.f y) with
       |true,co (news,n,C)=>match s with
        |⟨f,h,nx⟩=>co (es.length=len∧C∧allOnes news=is∧(len+n)*eby<=140737488355328∧len+n<=140737488355328,.sl nx 0 (len+n) sz,⟨f,(nx,co (.row sz (es++news)))::(i,io)::h,nx+1⟩)
       |_,_=>io
      |_,_=>io
     |_,_,_=>io
    |none=>io
   |_,_=>io
  |_,_=>io
 |_=>io
section
variable {P:Program} {ty:Ty} {nt:NT} {s:AS}
theorem Ay(b0:bn P ty){o:Oper}{p:PV}{C:Prop}{s1 s':AS}(h:HC ty s o.op=co (C,p,s1))(hC:C)(hp:putDst nt o p s1=co s'):OT P nt o s (fun t=>t=s'):=by
 unfold HC at h;split at h
 .rename_i args j ho;split at h
  .rename_i x y t A ha ht;split at h
   .rename_i u _ _ _ _ G he;split at h
    .rename_i ek d0 D ez c0 hu;split at h
     .rename_i i len sz I J hx;split at h
      .rename_i f0 es R hi;split at h
       .rename_i b n C' Y hs;have h:co (es.length=len∧C'∧allOnes b=is∧(len+n)*D<=140737488355328∧len+n<=140737488355328,PV.sl s.nx 0 (len+n) sz,oP s i sz es b)=co (C,p,s1):=by
         rw[<-h];cases s;rfl
        simp only[OA,OK]at h;obtain⟨rfl,rfl,rfl⟩:=h;have e0:=OU G;have e4:=OU Y;have B:=OU R;subst e0;subst e4;have a0:o.op= .call ⟨.builtin .append, #[x,y], #[A,A]⟩:=by
         rw[ho];have h1:args= #[x,y]:=by rw[<-P1 (xs:=args),ha]
         have h2:j= #[A,A]:=by rw[<-P1 (xs:=j),ht]
         rw[h1,h2]
        obtain⟨g1,g2,g3,g4,g5⟩:=hC;obtain⟨g6,g7⟩:=F6 hs g2;subst g7;exact La b0 a0 he Z hu hx hi g1 B (by rw[OU I,B]) (by rw[<-B];exact Oy J) Z g6 (jb g3) g4 g5 hp
       .cases h
      .cases h
     .cases h
    .cases h
   .cases h
  .cases h
 .cases h
def EE(ty:Ty)(s:AS)(op:Op):Option (Prop×PV×AS):=
 match HC ty s op with
 |some r=>co r
 |none=>match yt s op with
  |some (t0,t)=>match ty t with
   |some ⟨.aJ (.slice u),_,_,_,_⟩=>match ty u with
    |some ⟨_,esz,_,_,_⟩=>HC ty (rn s t0 esz) op
    |none=>io
   |_=>io
  |none=>io
theorem ED(b:bn P ty){o:Oper}{p:PV}{C:Prop}{s1 s':AS}(h:EE ty s o.op=co (C,p,s1))(hC:C)(hp:putDst nt o p s1=co s'):OT P nt o s (fun t=>t=s'):=by
 unfold EE at h;split at h
 .rename_i r u;simp only[OA]at h;subst h;exact Ay b u hC hp
 .split at h
  .rename_i t0 t j;split at h
   .split at h
    .exact ES (Bm j) (Ay b h hC hp)
    .cases h
   .cases h
  .cases h
def Nn(ty:Ty)(s:AS)(op:Op):Option (Prop×PV×AS):=
 match Jj ty s op with
 |some (C,s1)=>co (C,.any,s1)
 |none=>match Ko ty s op with
  |some (p,s1)=>co (True,p,s1)
  |none=>EE ty s op
theorem B0(b:bn P ty){o:Oper}{p:PV}{C:Prop}{s1 s':AS}(h:Nn ty s o.op=co (C,p,s1))(hC:C)(hp:putDst nt o p s1=co s'):OT P nt o s (fun t=>t=s'):=by
 unfold Nn at h;split at h
 .rename_i x u hu;simp only[OA,OK]at h;obtain⟨rfl,rfl,rfl⟩:=h;exact EW b hu hC hp
 .split at h
  .rename_i y u j;simp only[OA,OK]at h;obtain⟨rfl,rfl,rfl⟩:=h;exact Gn b j hp
  .exact ED b h hC hp
end
end
end Go.Al
