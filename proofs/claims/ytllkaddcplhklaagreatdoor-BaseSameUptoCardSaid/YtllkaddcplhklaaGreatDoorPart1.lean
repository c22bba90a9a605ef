/-
  What the proofs of the claims need: part 1 of 5.
-/
import GoSem.Core.World
import Derived.Calls
import Derived.Laws.AppendOwn
import Derived.Below
import Derived.Laws.Cells
import Derived.Laws.Entries
import Derived.Laws.StructEq
import Derived.ChangeKeysEq
import Derived.WideLaws
import Derived.Tactics
import Derived.IntWalk
import Derived.WideShapes
import Derived.Lib.Strings
import Derived.MapKept
import Derived.Maps.RangeRun
import Derived.Still
import Derived.Scope
import Derived.Laws.CopyRow
import Derived.Laws.Append
open Array renaming eq_empty_of_size_eq_zero→Qw,eraseIdxIfInBounds→Sp,getD_eq_getD_getElem?→Pg,getElem?_append_left→P1,getElem?_append_right→RS,getElem?_eq_getElem→PR,getElem?_eq_none→RK,getElem?_eq_some_iff→Qr,getElem?_map→RI,getElem?_modify→PZ,getElem?_push→RE,getElem?_setIfInBounds→PM,getElem?_toList→PN,length_toList→Rt,mapM_eq_mapM_toList→Si,mem_filter→Sa,range→Sk,replicate→Rx,size_append→RA,toArray_toList→QW,toList_append→R0,toList_inj→Sr
open Bool renaming and_eq_true→Qc,eq_false_iff→RR,eq_iff_iff→QJ,false_eq_true→Q7,false_or→Rm,not_eq_true'→Qp,not_true→RO,or_eq_true→Ry
open Classical renaming choose→RY,choose_spec→Rh
open Int renaming toNat_of_nonneg→RZ
open List.Pairwise renaming nil→R7
open List renaming all_cons→Sq,all_eq_true→P4,any_eq_true→Qz,append_assoc→PH,append_inj→S0,append_nil→Qm,cons_append→QN,flatten_cons→Sl,foldl_cons→Qd,forIn_cons→S1,getD_cons_zero→Rs,getD_eq_getElem?_getD→Pk,getElem?_append_left→PD,getElem?_append_right→PB,getElem?_cons_succ→R5,getElem?_drop→Qj,getElem?_eq_getElem→Pl,getElem?_eq_some_iff→Pj,getElem?_map→Pp,getElem?_of_mem→P9,getElem?_set→Rb,getElem?_take→P8,getElem?_toArray→Qg,getElem_mem→P3,headD_cons→Se,length_append→Pn,length_cons→PX,length_map→PS,length_nil→Q6,length_pos_iff→Qv,length_take→Qy,map_append→PF,map_cons→Py,map_nil→Qb,mem_append_left→P2,mem_cons→Px,mem_cons_of_mem→Pu,mem_cons_self→Pv,mem_filter→PU,mem_map→PW,mem_of_getElem?→PY,mem_singleton→Pw,nil_append→Rc,nodup_cons→P0,nodup_nil→P6,pairwise_cons→P5,pairwise_iff_getElem→Qu,range→PT,range'_succ→SR
open List.cons renaming injEq→Sx
open Nat renaming add_assoc→QY,add_mul→Qo,add_zero→Rl,beq→PJ,ble→Rw,ble_eq_true_of_le→Qh,blt→PI,eq_of_beq_eq_true→PC,le_of_ble_eq_true→Pf,le_of_not_lt→Rj,le_refl→Ps,le_succ→QO,le_trans→Qa,lt_of_lt_of_le→Ri,lt_or_ge→Ql,lt_succ_of_lt→QR,lt_succ_self→Q9,lt_trichotomy→Rz,mul_le_mul_right→PL,ne_of_lt→Su,not_lt_zero→Rr,sub_zero→RX,succ_mul→QZ,zero_add→PO,zero_le→PA,zero_mul→Ru
open Option renaming getD_some→Qf,map_eq_none_iff→RJ,map_eq_some_iff→Pr,map_map→SE,map_none→RN,map_some→Qt
open Option.some renaming inj→P7,injEq→Ph
open Prod renaming fst→Qi
open Prod.mk renaming injEq→Pt
set_option maxRecDepth 100000
open Bool renaming false→kw,true→jp
open Decidable renaming decide→lc
open Inhabited renaming default→co
open Option renaming none→is,some→io
namespace Go
theorem Z.{u}{α:Sort u}{a:α}:a=a:=rfl
theorem ac:True:=trivial
theorem am.{u}{c:Prop}{h:Decidable c}(hc:c){α:Sort u}{t e:α}:(@ite α c h t e)=t:=if_pos hc
theorem be.{u}{c:Prop}{h:Decidable c}(hc:¬c){α:Sort u}{t e:α}:(@ite α c h t e)=e:=if_neg hc
end Go
namespace Go.Al
section
def nT:List Int:=[1,10,100,1000,10000,100000,1000000,10000000,100000000,1000000000,10000000000,100000000000,1000000000000,10000000000000,100000000000000,1000000000000000,10000000000000000,100000000000000000,1000000000000000000,10000000000000000000]
def LL:Nat->Option (Array Value)
 |1=>io (nT.map fun z=>Value.int .u64 z).toArray
 |_=>is
abbrev FS:=List (Option IntKind)
@[reducible] def FK:FS->Type
 | []=>Unit
 |none::r=>ByteArray×FK r
 |some _::r=>Int×FK r
instance FK.Oh:(s:FS)->DecidableEq (FK s)
 | []=>inferInstanceAs (DecidableEq Unit)
 |none::r=>have:=FK.Oh r;inferInstanceAs (DecidableEq (ByteArray×FK r))
 |some _::r=>have:=FK.Oh r;inferInstanceAs (DecidableEq (Int×FK r))
def FK.vs:(s:FS)->FK s->List Value
 | [],_=> []
 |none::r,k=> .string k.1::FK.vs r k.2
 |some q::r,k=> .int q k.1::FK.vs r k.2
inductive KC where
 |str
 |int (k:IntKind)
 |si (k:IntKind)
 |fl (s:FS)
 deriving DecidableEq
@[reducible] def KC.K:KC->Type
 | .str=>ByteArray
 | .int _=>Int
 | .si _=>ByteArray×Int
 | .fl s=>FK s
instance KC.Oh:(c:KC)->DecidableEq c.K
 | .str=>inferInstanceAs (DecidableEq ByteArray)
 | .int _=>inferInstanceAs (DecidableEq Int)
 | .si _=>inferInstanceAs (DecidableEq (ByteArray×Int))
 | .fl s=>FK.Oh s
def KC.ek:(c:KC)->c.K->Value
 | .str,s=> .string s
 | .int k,n=> .int k n
 | .si k,x=> .agg #[.string x.1,.int k x.2]
 | .fl s,x=> .agg (FK.vs s x).toArray
inductive IV:Type 1 where
 |v (x:Value)
 |ct (sz n:Nat) (el:Nat->List IV)
 |jv (cs:List IV)
 |agg (cs:List IV)
 |dQ {V:Type} (kc:KC) (ev:V->IV) (z:V) (zv:Value) (m:List (kc.K×V))
inductive PV:Type 1 where
 |iv (x:IV)
 |agg (cs:List PV)
 |bq (cs:List PV)
 |ptr (i off:Nat)
 |cL (i sz k off:Nat)
 |ej (z:Bool) (i:Nat)
 |mP (i off n:Nat)
 |sl (i off len sz:Nat)
 |mp (i:Nat)
 |b5 (fn:Fn) (first caps:List PV)
 |kb (b:Bool)
 |any
inductive AO:Type 1 where
 |cells (cs:List PV) (T:Option TypeId:=is)
 |row (sz:Nat) (es:List (List PV))
 |bp (l:List UInt8) (T:TypeId)
 |ff
 |map {V:Type} (kc:KC) (ev:V->IV) (z:V) (zv:Value) (dv:PV->V) (m:List (kc.K×V))
 |bI {V:Type} (kc:KC) (ev:V->IV) (m:List (kc.K×V)) (vs:List Nat) (cur:Option (kc.K×V))
 |dJ (s:ByteArray) (pos:Nat)
 |gI {V:Type} (kc:KC) (ev:V->IV) (z:V) (zv:Value) (dv:PV->V) (m:List (kc.K×V)) (bs:List Nat) (clock:Nat)
 |dO (mp:PV) (clock:Nat) (seen:List Nat)
inductive MB where
 |cells (c:Array Value)
 |map (ents:Array MapEntry) (clock:Nat)
structure Mem where
 fn:Nat->Option MB
 Ie: ∀b c,LL b=io c->fn b=io (.cells c)
instance:CoeFun Mem (fun _=>Nat->Option MB):=⟨Mem.fn⟩
def Mem.base:Mem:=⟨fun b=>(LL b).map .cells,fun b c h=>by rw[h];rfl⟩
def xb(a:Option TypeId)(T:TypeId):Prop:= ∀t,a=io t->T=t
theorem xb.none(T:TypeId):xb is T:=fun _ h=>nomatch h
def Mem.cell(M:Mem)(b o:Nat):Option Value:=match M b with|some (.cells c)=>c[o]? |_=>is
def Mem.set(M:Mem)(b:Nat)(c:MB)(h:M b=is):Mem:=
 ⟨fun x=>if x=b then io c else M x,fun x d j=>by
  rw[be fun e=>by have:=M.Ie x d j;rw[e]at this;exact absurd (this.symm.trans h) (by simp)]
  exact M.Ie x d j⟩
def MB.Cp(w:World)(b:Nat):MB->Prop
 | .cells c=> ∃T j,w.heap[b]? =io (.cells c T j)
 | .map es cl=>w.heap[b]? =io (.map es cl)
theorem MB.Cp.lt{w:World}{b:Nat}{m:MB}(h:m.Cp w b):b<w.heap.size:=by
 cases m with
 |cells c=>obtain⟨T,j,h1⟩:=h;exact(Qr.1 h1).1
 |map es cl=>exact(Qr.1 h).1
theorem MB.Cp.mono{w j:World}{b:Nat}{m:MB}(h:m.Cp w b)(e:j.heap[b]? =w.heap[b]?):m.Cp j b:=by
 cases m with
 |cells c=>obtain⟨T,u,h1⟩:=h;exact⟨T,u,e.trans h1⟩
 |map es cl=>exact e.trans h
structure Nm where
 az:Nat->Nat
 ext:Nat->Nat
inductive IR (M:Mem):IV->Value->Prop
 |v (x:Value):IR M (.v x) x
 |fp (sz:Nat) (el:Nat->List IV) (a:Option Addr) (cap:Nat):IR M (.ct sz 0 el) (.slice a 0 cap)
 | ct (sz n:Nat) (el:Nat->List IV) (b off cap:Nat) (hn:n<=cap) (hc:cap<=maxLen) (hl: ∀k,k<n->(el k).length=sz)
   (hm: ∀k j,k<n->j<sz->(M.cell b (off+k*sz+j)).isSome=jp)
   (hr: ∀k j p,k<n->(el k)[j]? =io p->IR M p ((M.cell b (off+k*sz+j)).getD undef)):
   IR M (.ct sz n el) (.slice (io ⟨b,off,is⟩) n cap)
 | jv (cs:List IV) (b off:Nat) (hm: ∀j,j<cs.length->(M.cell b (off+j)).isSome=jp)
   (hr: ∀j p,cs[j]? =io p->IR M p ((M.cell b (off+j)).getD undef)):IR M (.jv cs) (.pointer (io ⟨b,off,is⟩))
 |agg (cs:List IV) (ys:Array Value) (hl:cs.length=ys.size) (hr: ∀j p,cs[j]? =io p->IR M p (ys.getD j undef)):IR M (.agg cs) (.agg ys)
 | dQ {V:Type} (kc:KC) (ev:V->IV) (z:V) (zv:Value) (m:List (kc.K×V)) (b:Nat) (ents:Array MapEntry) (clock:Nat) (hb:M b=io (.map ents clock)) (hs:ents.size=m.length)
   (hk: ∀(j:Nat) (x:kc.K×V),m[j]? =io x->(ents.getD j co).key=kc.ek x.1) (hv: ∀(j:Nat) (x:kc.K×V),m[j]? =io x->IR M (ev x.2) (ents.getD j co).val) (hz:IR M (ev z) zv)
   (hi: ∀(j k:Nat) (e f:MapEntry),ents[j]? =io e->ents[k]? =io f->e.born=f.born->j=k) (hc: ∀(j:Nat) (e:MapEntry),ents[j]? =io e->e.born<clock):IR M (.dQ kc ev z zv m) (.map (io b))
inductive VR (M:Mem) (N:Nm) (U:Nat->Prop):PV->Value->Prop
 |iv (x:IV) (y:Value) (h:IR M x y):VR M N U (.iv x) y
 |agg (cs:List PV) (ys:Array Value) (hl:cs.length=ys.size) (hr: ∀j p,cs[j]? =io p->VR M N U p (ys.getD j undef)):VR M N U (.agg cs) (.agg ys)
 |bq (cs:List PV) (ys:Array Value) (hl:cs.length=ys.size) (hr: ∀j p,cs[j]? =io p->VR M N U p (ys.getD j undef)):VR M N U (.bq cs) (.tuple ys)
 |ptr (i off:Nat) (h:U i):VR M N U (.ptr i off) (.pointer (io ⟨N.az i,off,is⟩))
 |cL (i sz k off:Nat) (h:U i):VR M N U (.cL i sz k off) (.pointer (io ⟨N.az i,k*sz+off,is⟩))
 |ej (z:Bool) (i:Nat) (h:U i):VR M N U (.ej z i) (.pointer (bif z then is else io ⟨N.az i,0,is⟩))
 |mP (i off n:Nat) (h:U i):VR M N U (.mP i off n) (.slice (io ⟨N.az i,off,is⟩) n n)
 |sl (i off len sz cap:Nat) (h:U i) (h0:0<len) (hl:len<=cap) (hc:cap<=maxLen) (he:(off+cap)*sz=N.ext i):VR M N U (.sl i off len sz) (.slice (io ⟨N.az i,off*sz,is⟩) len cap)
 |lR (i sz:Nat) (h:U i):VR M N U (.sl i 0 0 sz) (.slice is 0 0)
 |sle (i sz cap:Nat) (h:U i) (hc:cap<=maxLen) (he:cap*sz=N.ext i):VR M N U (.sl i 1 0 sz) (.slice (io ⟨N.az i,0,is⟩) 0 cap)
 |mp (i:Nat) (h:U i):VR M N U (.mp i) (.map (io (N.az i)))
 | b5 (fn:Fn) (first caps:List PV) (f' c':Array Value) (h1:first.length=f'.size) (h2:caps.length=c'.size)
   (hr1: ∀j p,first[j]? =io p->VR M N U p (f'.getD j undef)) (hr2: ∀j p,caps[j]? =io p->VR M N U p (c'.getD j undef)):VR M N U (.b5 fn first caps) (.func fn f' c')
 |kb (b:Bool):VR M N U (.kb b) (.bool b)
 |any (x:Value):VR M N U .any x
def Mem.le(M j:Mem):Prop:= ∀b c,M b=io c->j b=io c
theorem Mem.le.refl(M:Mem):M.le M:=fun _ _ h=>h
theorem Mem.le.trans{A B C:Mem}(h:A.le B)(k:B.le C):A.le C:=fun b c e=>k b c (h b c e)
theorem Mem.le.cell{M j:Mem}(h:M.le j){b o:Nat}{v:Value}(hc:M.cell b o=io v):j.cell b o=io v:=by
 unfold Mem.cell at*
 cases hb:M b with
 |none=>simp[hb]at hc
 |some c=>rw[hb]at hc;rw[h b c hb];exact hc
theorem Mem.le.isSome{M j:Mem}(h:M.le j){b o:Nat}(hc:(M.cell b o).isSome=jp):(j.cell b o).isSome=jp∧(j.cell b o).getD undef=(M.cell b o).getD undef:=by
 cases hv:M.cell b o with
 |none=>simp[hv]at hc
 |some v=>rw[h.cell hv];simp
theorem IR.mono{M A:Mem}(hM:M.le A){p:IV}{x:Value}(h:IR M p x):IR A p x:=by
 induction h with
 |v x=>exact .v x
 |fp sz el a cap=>exact .fp sz el a cap
 |ct sz n el b off cap hn hc hl hm hr ih=>
  refine .ct sz n el b off cap hn hc hl (fun k j hk u=>(hM.isSome (hm k j hk u)).1) (fun k j p hk y=>?_);have u:j<sz:=by rw[<-hl k hk];exact(Pj.1 y).1
  rw[(hM.isSome (hm k j hk u)).2];exact ih k j p hk y
 |jv cs b off hm hr ih=>
  refine .jv cs b off (fun j u=>(hM.isSome (hm j u)).1) (fun j p y=>?_);have u:j<cs.length:=(Pj.1 y).1;rw[(hM.isSome (hm j u)).2];exact ih j p y
 |agg cs ys hl hr ih=>exact .agg cs ys hl ih
 |dQ kc ev z zv m b ents clock hb hs hk hv hz hi hc ihv ihz=>exact .dQ kc ev z zv m b ents clock (hM _ _ hb) hs hk ihv ihz hi hc
structure iB {V:Type} (M:Mem) (kc:KC) (ev:V->IV) (m:List (kc.K×V)) (ents:Array MapEntry) (clock:Nat):Prop where
 size:ents.size=m.length
 key: ∀(j:Nat) (x:kc.K×V),m[j]? =io x->(ents.getD j co).key=kc.ek x.1
 val: ∀(j:Nat) (x:kc.K×V),m[j]? =io x->IR M (ev x.2) (ents.getD j co).val
 inj: ∀(j k:Nat) (e f:MapEntry),ents[j]? =io e->ents[k]? =io f->e.born=f.born->j=k
 lt: ∀(j:Nat) (e:MapEntry),ents[j]? =io e->e.born<clock
theorem iB.mono{V:Type}{M b:Mem}(hM:M.le b){kc:KC}{ev:V->IV}{m:List (kc.K×V)}{ents:Array MapEntry}{clock:Nat}(h:iB M kc ev m ents clock):iB b kc ev m ents clock:=
 ⟨h.size,h.key,fun j x u=>(h.val j x u).mono hM,h.inj,h.lt⟩
structure Nm.agree (N N':Nm) (U:Nat->Prop):Prop where
 az: ∀i,U i->N'.az i=N.az i
 ext: ∀i,U i->N'.ext i=N.ext i
theorem Nm.agree.refl(N:Nm)(U:Nat->Prop):N.agree N U:=⟨fun _ _=>rfl,fun _ _=>rfl⟩
theorem VR.mono{M A:Mem}{N B:Nm}{U C:Nat->Prop}(hM:M.le A)(j:N.agree B U)(u: ∀i,U i->C i){p:PV}{x:Value}(h:VR M N U p x):VR A B C p x:=by
 induction h with
 |iv x y h=>exact .iv x y (h.mono hM)
 |agg cs ys hl hr ih=>exact .agg cs ys hl ih
 |bq cs ys hl hr ih=>exact .bq cs ys hl ih
 |ptr i off h=>rw[<-j.az i h];exact .ptr i off (u i h)
 |cL i sz k off h=>rw[<-j.az i h];exact .cL i sz k off (u i h)
 |ej z i h=>rw[<-j.az i h];exact .ej z i (u i h)
 |mP i off n h=>rw[<-j.az i h];exact .mP i off n (u i h)
 |sl i off len sz cap h h0 hl hc he=>rw[<-j.az i h];exact .sl i off len sz cap (u i h) h0 hl hc (by rw[j.ext i h];exact he)
 |lR i sz h=>exact .lR i sz (u i h)
 |sle i sz cap h hc he=>rw[<-j.az i h];exact .sle i sz cap (u i h) hc (by rw[j.ext i h];exact he)
 |mp i h=>rw[<-j.az i h];exact .mp i (u i h)
 |b5 fn first caps f' c' h1 h2 hr1 hr2 ih1 ih2=>exact .b5 fn first caps f' c' h1 h2 ih1 ih2
 |kb b=>exact .kb b
 |any x=>exact .any x
abbrev AH:=List (Nat×Option AO)
def AH.get:AH->Nat->Option AO
 | [],_=>is
 |(i,o)::r,k=>bif PJ k i then o else AH.get r k
abbrev AF:=List (Nat×PV)
def AF.get:AF->Nat->PV
 | [],_=> .any
 |(i,p)::r,k=>bif PJ k i then p else AF.get r k
theorem AF.ay(i:Nat)(p:PV)(r:AF)(k:Nat):AF.get ((i,p)::r) k=if k=i then p else AF.get r k:=by
 by_cases h:k=i
 .subst h;simp[AF.get]
 .have:PJ k i=kw:=RR.2 (fun e=>h (PC e));simp[AF.get,this,h]
theorem AH.ay(i:Nat)(o:Option AO)(r:AH)(k:Nat):AH.get ((i,o)::r) k=if k=i then o else AH.get r k:=by
 by_cases h:k=i
 .subst h;simp[AH.get]
 .have:PJ k i=kw:=RR.2 (fun e=>h (PC e));simp[AH.get,this,h]
def OR(M:Mem)(N:Nm)(U:Nat->Prop)(w:World)(i:Nat):AO->Prop
 | .cells cs T0=> ∃c T,w.heap[N.az i]? =io (.cells c T (0,0))∧c.size=N.ext i∧cs.length=c.size∧(∀j p,cs[j]? =io p->VR M N U p (c.getD j undef))∧xb T0 T
 | .row sz es=>es=[]∨0<sz∧ ∃c T,w.heap[N.az i]? =io (.cells c T (0,0))∧c.size=N.ext i∧es.length*sz<=c.size∧(∀(k:Nat) (e:List PV),es[k]? =io e->e.length=sz)∧
   ∀(k:Nat) (e:List PV) (j:Nat) (p:PV),es[k]? =io e->e[j]? =io p->VR M N U p (c.getD (k*sz+j) undef)
 | .bp l T=>l=[]∨ ∃c,w.heap[N.az i]? =io (.cells c T (0,0))∧c.size=N.ext i∧l.length<=c.size∧ ∀(j:Nat) (x:UInt8),l[j]? =io x->c.getD j undef= .int .u8 (x.toNat:Int)
 | .ff=>w.heap[N.az i]? =io (.map #[] 0)
 | .map kc ev z zv _ m=> ∃(ents:Array MapEntry) (clock:Nat),w.heap[N.az i]? =io (.map ents clock)∧iB M kc ev m ents clock∧IR M (ev z) zv
 | .bI kc ev m vs cur=>(m=[]∧vs=[]∧cur=is∧w.heap[N.az i]? =io (.mapIter is 0 #[] 0))∨ ∃(b:Nat) (ents:Array MapEntry) (clock:Nat) (u:Array Nat),w.heap[N.az i]? =io (.mapIter (io b) clock u clock)∧M b=io (.map ents clock)∧iB M kc ev m ents clock∧
   u.toList=vs.reverse.map (fun j=>(ents.getD j co).born)∧(∀j∈vs,j<m.length)∧vs.Nodup∧ ∀x,cur=io x-> ∃j r,vs=j::r∧m[j]? =io x
 | .dJ s pos=>w.heap[N.az i]? =io (.stringIter s pos)
 | .gI kc ev z zv _ m bs clock=> ∃ents:Array MapEntry,w.heap[N.az i]? =io (.map ents clock)∧iB M kc ev m ents clock∧IR M (ev z) zv∧ents.toList.map MapEntry.born=bs
 | .dO mp clock u=> ∃b,VR M N U mp (.map (io b))∧w.heap[N.az i]? =io (.mapIter (io b) clock u.toArray clock)
def AO.real:AO->Bool
 | .row _ []=>kw
 | .bp [] _=>kw
 |_=>jp
structure Rel (M:Mem) (N:Nm) (U:Nat->Prop) (h:AH) (w:World):Prop where
 dZ: ∀b c,M b=io c->c.Cp w b
 used: ∀i o,h.get i=io o->U i
 dM: ∀i o,h.get i=io o->o.real=jp->M (N.az i)=is
 obj: ∀i o,h.get i=io o->OR M N U w i o
 inj: ∀i j o p,h.get i=io o->h.get j=io p->o.real=jp->p.real=jp->N.az i=N.az j->i=j
theorem OR.lt{M:Mem}{N:Nm}{U:Nat->Prop}{w:World}{i:Nat}{o:AO}(h:OR M N U w i o)(j:o.real=jp):N.az i<w.heap.size:=by
 have key: ∀x,w.heap[N.az i]? =io x->N.az i<w.heap.size:=fun x u=>(Qr.1 u).1
 cases o with
 |cells cs T0=>obtain⟨c,T,h1,_⟩:=h;exact key _ h1
 |row sz es=>
  rcases h with rfl|⟨_,c,T,h1,_⟩
  .cases j
  .exact key _ h1
 |bp l T=>
  rcases h with rfl|⟨c,h1,_⟩
  .cases j
  .exact key _ h1
 |ff=>exact key _ h
 |map kc ev z zv dv m=>obtain⟨e,cl,h1,_⟩:=h;exact key _ h1
 |bI kc ev m l cu=>rcases h with⟨_,_,_,h1⟩|⟨b,e,cl,y,h1,_⟩<;>exact key _ h1
 |dJ s p=>exact key _ h
 |gI kc ev z zv dv m bs clock=>obtain⟨e,h1,_⟩:=h;exact key _ h1
 |dO mp clock seen=>obtain⟨b,_,h1⟩:=h;exact key _ h1
theorem OR.mono{M J:Mem}{N B:Nm}{U R:Nat->Prop}{w C:World}{i:Nat}{o:AO}(hM:M.le J)(u:N.agree B U)(G: ∀i,U i->R i)(hi:U i)(hb:C.heap[N.az i]? =w.heap[N.az i]?)
  (h:OR M N U w i o):OR J B R C i o:=by
 cases o with
 |cells cs T0=>
  obtain⟨c,T,h1,x,y,A,D⟩:=h;exact⟨c,T,by rw[u.az i hi,hb,h1],by rw[u.ext i hi,x],y,fun j p I=>(A j p I).mono hM u G,D⟩
 |row sz es=>
  rcases h with h|⟨Y,c,T,h1,x,y,A,D⟩
  .exact .inl h
  exact .inr ⟨Y,c,T,by rw[u.az i hi,hb,h1],by rw[u.ext i hi,x],y,A,fun k e j p he I=>(D k e j p he I).mono hM u G⟩
 |bp l T=>
  rcases h with h|⟨c,h1,x,y,A⟩
  .exact .inl h
  exact .inr ⟨c,by rw[u.az i hi,hb,h1],by rw[u.ext i hi,x],y,A⟩
 |ff=>show C.heap[B.az i]? =_;rw[u.az i hi,hb];exact h
 |map kc ev z zv dv m=>
  obtain⟨e,cl,h1,x,y⟩:=h;exact⟨e,cl,by rw[u.az i hi,hb,h1],x.mono hM,y.mono hM⟩
 |bI kc ev m l cu=>
  rcases h with⟨h1,x,y,A⟩|⟨b,e,cl,se,h1,x,y,A⟩
  .exact .inl ⟨h1,x,y,by rw[u.az i hi,hb,A]⟩
  .exact .inr ⟨b,e,cl,se,by rw[u.az i hi,hb,h1],hM _ _ x,y.mono hM,A⟩
 |dJ s p=>show C.heap[B.az i]? =_;rw[u.az i hi,hb];exact h
 |gI kc ev z zv dv m bs clock=>
  obtain⟨e,h1,x,y,A⟩:=h;exact⟨e,by rw[u.az i hi,hb,h1],x.mono hM,y.mono hM,A⟩
 |dO mp clock seen=>
  obtain⟨b,h1,x⟩:=h;exact⟨b,h1.mono hM u G,by rw[u.az i hi,hb,x]⟩
structure qV (w w':World):Prop where
 out:w'.output=w.output
 drawn:w.drawn<=w'.drawn
theorem qV.refl(w:World):qV w w:=⟨rfl,Ps _⟩
theorem qV.trans{w j u:World}(b:qV j u)(a:qV w j):qV w u:=⟨b.out.trans a.out,Qa a.drawn b.drawn⟩
structure Ext (M:Mem) (N:Nm) (U:Nat->Prop) (h:AH) (w:World) (M':Mem) (N':Nm) (U':Nat->Prop) (h':AH) (w':World):Prop where
 os:w'.os=w.os
 tape:w'.tape=w.tape
 output:qV w w'
 size:w.heap.size<=w'.heap.size
 fN: ∀b,b<w.heap.size->(∀i o,h.get i=io o->o.real=jp->N.az i≠b)->w'.heap[b]? =w.heap[b]?
 ov:M.le M'
 gx: ∀b c,M b=is->M' b=io c->w.heap.size<=b∨ ∃i o,h.get i=io o∧o.real=jp∧N.az i=b
 nm:N.agree N' U
 ule: ∀i,U i->U' i
 fK: ∀i o,h'.get i=io o->o.real=jp->w.heap.size<=N'.az i∨ ∃j p,h.get j=io p∧p.real=jp∧N.az j=N'.az i
theorem Ext.refl(M:Mem)(N:Nm)(U:Nat->Prop)(h:AH)(w:World):Ext M N U h w M N U h w:=
 ⟨rfl,rfl,⟨rfl,Ps _⟩,Ps _,fun _ _ _=>rfl,.refl _,fun b c h1 j=>by simp[h1]at j,.refl _ _,fun _ h=>h,fun i o u x=> .inr ⟨i,o,u,x,rfl⟩⟩
theorem Ext.trans{M G I:Mem}{N J R:Nm}{U Y U2:Nat->Prop}{h h1 h2:AH}{w w1 w2:World}
  (a:Ext M N U h w G J Y h1 w1) (b:Ext G J Y h1 w1 I R U2 h2 w2):Ext M N U h w I R U2 h2 w2 where
 os:=b.os.trans a.os
 tape:=b.tape.trans a.tape
 output:=b.output.trans a.output
 size:=Qa a.size b.size
 fN:=fun k hk hn=>by
  rw[b.fN k (Ri hk a.size) (fun i o u x he=>?_),a.fN k hk hn];rcases a.fK i o u x with y|⟨j,p,y,D,A⟩
  .omega
  .exact hn j p y D (A.trans he)
 ov:=a.ov.trans b.ov
 gx:=fun k c y A=>by
  cases B:G k with
  |some c'=>exact a.gx k c' y B
  |none=>
   rcases b.gx k c B A with C|⟨i,o,C,x,h7⟩
   .exact .inl (Qa a.size C)
   .rcases a.fK i o C x with h8|⟨j,p,h8,D,h9⟩
    .exact .inl (by omega)
    .exact .inr ⟨j,p,h8,D,h9.trans h7⟩
 nm:=⟨fun i u=>(b.nm.az i (a.ule i u)).trans (a.nm.az i u),fun i u=>(b.nm.ext i (a.ule i u)).trans (a.nm.ext i u)⟩
 ule:=fun i u=>b.ule i (a.ule i u)
 fK:=fun i o u x=>by
  rcases b.fK i o u x with y|⟨j,p,y,D,A⟩
  .exact .inl (Qa a.size y)
  .rcases a.fK j p y D with B|⟨k,q,B,hq,C⟩
   .exact .inl (by omega)
   .exact .inr ⟨k,q,B,hq,C.trans A⟩
def ah(p q:PV):Prop:= ∀(M:Mem) (N:Nm) (U:Nat->Prop) (x:Value),VR M N U p x->VR M N U q x
def jy(p q:IV):Prop:= ∀(M:Mem) (x:Value),IR M p x->IR M q x
theorem ah.refl(p:PV):ah p p:=fun _ _ _ _ h=>h
theorem wU(w:World)(o:Obj)(i:Nat)(h:i<w.heap.size):(w.alloc o).heap[i]? =w.heap[i]? :=by
 show(w.heap.push o)[i]? =_;rw[RE,be (by omega)]
def FR(M:Mem)(N:Nm)(U:Nat->Prop)(f:AF)(t:Array Value):Prop:= ∀k,VR M N U (f.get k) (t.getD k undef)
theorem FR.mono{M b:Mem}{N j:Nm}{U u:Nat->Prop}{f:AF}{t:Array Value}(hM:M.le b)(x:N.agree j U)(y: ∀i,U i->u i)(h:FR M N U f t):FR b j u f t:=fun k=>(h k).mono hM x y
theorem FR.ext{M b:Mem}{N j:Nm}{U u:Nat->Prop}{h x:AH}{w y:World}{f:AF}{t:Array Value}(e:Ext M N U h w b j u x y)(hf:FR M N U f t):FR b j u f t:=hf.mono e.ov e.nm e.ule
theorem FR.put{M:Mem}{N:Nm}{U:Nat->Prop}{f:AF}{t:Array Value}(h:FR M N U f t)(d:Nat)(p:PV)(x:Value)(hd:d<t.size)(hp:VR M N U p x):FR M N U ((d,p)::f) (t.setIfInBounds d x):=by
 intro k;rw[AF.ay];by_cases hk:k=d
 .subst hk;simp[Pg,hd,hp]
 .rw[be hk];have:=h k;simp only[Pg,PM]at this ⊢;rw[be (fun e=>hk e.symm)];exact this
inductive TK where
  |aM (d:TypeDesc)
  |cM (fs:List (Nat×TypeId))
  |arr (n:Nat) (e:TypeId)
structure bE where
  k:TK
  size:Nat
  bytes:Nat
  zero:Value
  eq:Bool
abbrev Ty:=Nat->Option bE
def uM:TypeDesc->Bool
  | .struct _=>kw
  | .array _ _=>kw
  |_=>jp
def FJ(P:Program)(t:TypeId):TK->Prop
  | .aM d=>P.underlying t=io d∧uM d=jp
  | .cM fs=> ∃F,P.underlying t=io (.struct F)∧F.toList.map (fun f=>(f.offset,f.type))=fs
  | .arr n e=>P.underlying t=io (.array n e)
def N9(P:Program)(t:TypeId):Prop:=P.stoodInHeld t=kw∧P.eqGuardType P.depth t=kw∧ ∀f∈(P.fieldsOf t).toList,f.name≠ "_"
def aj(P:Program)(t:TypeId)(e:bE):Prop:=
  (∃i,P.info? t=io i∧i.size=e.size∧i.bytes=e.bytes∧i.zero=io e.zero)∧FJ P t e.k∧(e.eq=jp->N9 P t)
def bx(P:Program)(ty:Ty):Prop:= ∀t e,ty t=io e->aj P t e
section
variable {P:Program} {w:World}
theorem aL{t:TypeId}{e:bE}(h:aj P t e):(sizeOf t).run P w= .ok e.size w:=by
  obtain⟨⟨i,b,hs,_⟩,_⟩:=h;simp[sizeOf,run_typeInfo w b,hs]
theorem c5{t:TypeId}{e:bE}(h:aj P t e):(zeroValue t).run P w= .ok e.zero w:=by
  obtain⟨⟨i,b,hs,hb,j⟩,_⟩:=h;simp[zeroValue,run_typeInfo w b,j]
def TK.agg:TK->Bool
  | .aM _=>kw
  |_=>jp
theorem eK{t:TypeId}{e:bE}(h:aj P t e):(isAgg t).run P w= .ok e.k.agg w:=by
  obtain⟨_,hk,_⟩:=h;cases hek:e.k with
  | aM d=>
    rw[hek]at hk;obtain⟨h1,b⟩:=hk;simp only[isAgg,Sem.run_bind,run_underlying h1,Result.andThen_ok];cases d<;>simp_all [uM,TK.agg]
  | cM fs=>
    rw[hek]at hk;obtain⟨F,h1,_⟩:=hk;simp[isAgg,run_underlying h1,TK.agg]
  | arr n el=>
    rw[hek]at hk;simp only[FJ]at hk;simp[isAgg,run_underlying hk,TK.agg]
end
structure AS where
  f:AF
  h:AH
  nx:Nat
def Fits(M:Mem)(N:Nm)(s:AS)(nt:Nat)(a:Act)(w:World):Prop:=
  Rel M N (· <s.nx) s.h w∧FR M N (· <s.nx) s.f a.tmps∧a.defers=[]∧a.tmps.size=nt
def ofV:Value->PV
  | .agg cs=> .agg (cs.toList.map fun v=> .iv (.v v))
  | .bool b=> .kb b
  |v=> .iv (.v v)
def ev(f:AF):Operand->PV
  | .tmp t=>f.get t
  | .const v=>ofV v
  | .global _=> .any
  | .func g=> .b5 (.func g) [] []
theorem Lw{M:Mem}{N:Nm}{U:Nat->Prop}(v:Value):VR M N U (ofV v) v:=by
  cases v<;>first
    |exact .iv _ _ (.v _)
    |exact .kb _
    | (refine .agg _ _ (by simp) (fun j p u=>?_)
       rw[Pp,Pr]at u;obtain⟨x,A,rfl⟩:=u;rename_i y;have b:y[j]? =io x:=by simpa using A
       rw[Pg,b]
       exact .iv _ _ (.v _))
theorem aH{M:Mem}{N:Nm}{U:Nat->Prop}{f:AF}{a:Act}(h:FR M N U f a.tmps)(x:Operand):VR M N U (ev f x) (a.eval x):=by
  cases x with
  |tmp t=>exact h t
  |const v=>exact Lw v
  |global g=>exact .any _
  |func g=>exact .b5 _ _ _ _ _ Z Z (by simp) (by simp)
def j6(cs:List PV)(off n:Nat):Option (List PV):=let l:=(cs.drop off).take n;bif PJ l.length n then io l else is
def ta{α:Type _}(p:PV)(k:PV->α):α:=
  match p with
  | .iv x=>k (.iv x)
  | .agg cs=>k (.agg cs)
  | .bq cs=>k (.bq cs)
  | .ptr i o=>k (.ptr i o)
  | .cL i sz a o=>k (.cL i sz a o)
  | .ej z i=>k (.ej z i)
  | .mP i o n=>k (.mP i o n)
  | .sl i o n sz=>k (.sl i o n sz)
  | .mp i=>k (.mp i)
  | .b5 fn a b=>k (.b5 fn a b)
  | .kb b=>k (.kb b)
  | .any=>k .any
theorem dc{α:Type _}(p:PV)(k:PV->α):ta p k=k p:=by cases p<;>rfl
def force{α:Type _}:List PV->(List PV->α)->α
  | [],k=>k []
  |x::r,k=>ta x fun j=>force r fun b=>k (j::b)
theorem force_eq{α:Type _}: ∀(l:List PV) (k:List PV->α),force l k=k l
  | [],_=>rfl
  |x::r,k=>by simp only[force,dc];rw[force_eq r]
def PV.one:PV->Bool
  | .iv (.v (.agg _))=>kw
  | .iv (.v (.tuple _))=>kw
  | .iv (.agg _)=>kw
  | .iv _=>jp
  | .agg _=>kw
  | .bq _=>kw
  | .any=>kw
  |_=>jp
def PV.cells:PV->Option (List PV)
  | .agg cs=>io cs
  | p=>match p.one with
    |true=>io [p]
    |false=>is
def eB:List PV->Bool
  | []=>jp
  | p::r=>match p.one with
    |true=>eB r
    |false=>kw
def setCells:List PV->Nat->List PV->List PV
  | [],_,_=> []
  |c::cs,0,[]=>c::cs
  |_::cs,0,x::xs=>x::setCells cs 0 xs
  |c::cs,n+1,xs=>c::setCells cs n xs
theorem cO: ∀(cs:List PV) (n:Nat) (xs:List PV),(setCells cs n xs).length=cs.length
  | [],_,_=>rfl
  |c::cs,0,[]=>rfl
  |_::cs,0,x::xs=>by simp[setCells,cO cs 0 xs]
  |c::cs,n+1,xs=>by simp[setCells,cO cs n xs]
theorem gd: ∀(cs:List PV) (n:Nat) (xs:List PV) (j:Nat) (p:PV),(setCells cs n xs)[j]? =io p->(n<=j∧xs[j-n]? =io p)∨((j<n∨n+xs.length<=j)∧cs[j]? =io p)
  | [],_,_,j,p,h=>by simp[setCells]at h
  |c::cs,0,[],j,p,h=> .inr ⟨.inr (by simp),h⟩
  | c::cs,0,x::xs,j,p,h=>by
    simp only[setCells]at h;cases j with
    |zero=>exact .inl ⟨Ps _,by simpa using h⟩
    | succ j=>
      rcases gd cs 0 xs j p (by simpa using h) with⟨_,h1⟩|⟨h1,b⟩
      · exact .inl ⟨PA _,by simpa using h1⟩
      · exact .inr ⟨by simp at h1 ⊢;omega,by simpa using b⟩
  | c::cs,n+1,xs,j,p,h=>by
    simp only[setCells]at h;cases j with
    |zero=>exact .inr ⟨.inl (by omega),by simpa using h⟩
    | succ j=>
      rcases gd cs n xs j p (by simpa using h) with⟨h1,b⟩|⟨h1,b⟩
      · exact .inl ⟨by omega,by rw[show j+1-(n+1)=j-n by omega];exact b⟩
      · exact .inr ⟨by omega,by simpa using b⟩
def aK(v:Value):List PV:=v.cells.toList.map fun x=> .iv (.v x)
def nr(b:Nat->Option (Nat×Nat)):List PV->List (Nat×PV)->Option (List PV)
  |cs,[]=>io cs
  | cs,(i,p)::r=>match b i with
    | some (off,size)=>match p.cells with
      | some l=>match PJ l.length size,Rw (off+l.length) cs.length with
        |true,jp=>force (setCells cs off l) fun j=>nr b j r
        |_,_=>is
      |none=>is
    |none=>is
def ja:List PV->Option PV
  | []=>is
  |p::_=>io p
def behind(h:AH):PV->Option (List PV)
  | .ptr i off=>match h.get i with
    |some (.cells cs _)=>io (cs.drop off)
    |_=>is
  | .cL i sz k off=>match h.get i with
    | some (.row sz' es)=>match PJ sz' sz,es[k]? with
      |true,io e=>io (e.drop off)
      |_,_=>is
    |_=>is
  | .iv (.jv cs)=>io (cs.map .iv)
  |_=>is
def fI(e:bE)(cs:List PV):Option PV:=
  match e.k.agg with
  | true=>match j6 cs 0 e.size with
    |some l=>force l fun b=>io (.agg b)
    |none=>is
  |false=>ja cs
def rI(e:bE)(k:Nat):Option (Nat×TypeId):=
  match e.k with
  | .cM fs=>fs[k]?
  |_=>is
def oK(ty:Ty):List (Nat×TypeId)->Option (List (Nat×Nat))
  | []=>io []
  | (off,u)::r=>match ty u with
    | some e=>match oK ty r with
      |some l=>io ((off,e.size)::l)
      |none=>is
    |none=>is
def nS(n:Nat):PV->Option PV
  | .ptr i off=>io (.ptr i (off+n))
  | .cL i sz k off=>io (.cL i sz k (off+n))
  | .iv (.jv cs)=>io (.iv (.jv (cs.drop n)))
  |_=>is
abbrev PV.bool(b:Bool):PV:= .iv (.v (.bool b))
abbrev PV.int(n:Int):PV:= .iv (.v (.int .i64 n))
abbrev PV.str(s:ByteArray):PV:= .iv (.v (.string s))
def o7(n:Int):Prop:= -9223372036854775808<=n∧n<=9223372036854775807
def A7(op:BinOp)(k:IntKind)(a b:Int):Option (PV×Prop):=
  match op,k with
  | .add,.i64=>io (.int (a+b),o7 (a+b))
  | .sub,.i64=>io (.int (a-b),o7 (a-b))
  | .mul,.i64=>io (.int (a*b),o7 (a*b))
  | .rem,.i64=>io (.int (Int.tmod a b),¬b=0)
  | .quo,.i64=>io (.int (Int.tdiv a b),¬b=0∧o7 (Int.tdiv a b))
  | .add,k=>io (.iv (.v (.int k (k.wrap (a+b)))),True)
  | .sub,k=>io (.iv (.v (.int k (k.wrap (a-b)))),True)
  | .mul,k=>io (.iv (.v (.int k (k.wrap (a*b)))),True)
  | .quo,k=>io (.iv (.v (.int k (k.wrap (Int.tdiv a b)))),¬b=0)
  | .rem,k=>io (.iv (.v (.int k (Int.tmod a b))),¬b=0)
  | .eql,_=>io (.bool (lc (a=b)),True)
  | .neq,_=>io (.bool (!lc (a=b)),True)
  | .lss,_=>io (.bool (lc (a<b)),True)
  | .leq,_=>io (.bool (lc (a<=b)),True)
  | .gtr,_=>io (.bool (lc (a>b)),True)
  | .geq,_=>io (.bool (lc (a>=b)),True)
  | .and,k=>io (.iv (.v (.int k (k.wrap ((BitVec.ofInt k.bits a&&&BitVec.ofInt k.bits b).toNat:Int)))),True)
  | .or,k=>io (.iv (.v (.int k (k.wrap ((BitVec.ofInt k.bits a|||BitVec.ofInt k.bits b).toNat:Int)))),True)
  | .xor,k=>io (.iv (.v (.int k (k.wrap ((BitVec.ofInt k.bits a ^^^ BitVec.ofInt k.bits b).toNat:Int)))),True)
  |_,_=>is
def qq(op:BinOp)(k:IntKind)(a b:Int):Option (PV×Prop):=
  match op with
  | .shr=>match lc (0<=b) with
    |true=>io (.iv (.v (.int k (a.fdiv (2 ^ min b.toNat k.bits)))),True)
    |false=>is
  | .shl=>match lc (0<=b) with
    |true=>io (.iv (.v (.int k (k.wrap (a*2 ^ min b.toNat k.bits)))),True)
    |false=>is
  |_=>is
def zs(op:BinOp)(k:IntKind)(a b:Int):Option (PV×Prop):=
  match op with
  | .shr=>qq .shr k a b
  | .shl=>qq .shl k a b
  |op=>A7 op k a b
def An(op:BinOp)(a b:ByteArray):Option (PV×Prop):=
  match op with
  | .eql=>io (.bool (lc (a=b)),True)
  | .neq=>io (.bool (!lc (a=b)),True)
  | .add=>io (.str (a++b),a.size+b.size<=9223372036854775807)
  | .lss=>io (.bool (Op.bytesLess a.toList b.toList),True)
  | .gtr=>io (.bool (!(Op.bytesLess a.toList b.toList||decide (a=b))),True)
  | .leq=>io (.bool (Op.bytesLess a.toList b.toList||decide (a=b)),True)
  | .geq=>io (.bool (!(Op.bytesLess a.toList b.toList)),True)
  |_=>is
def my(ty:Ty)(t:TypeId)(op:BinOp)(a b:Bool):Option (PV×Prop):=
  match ty t with
  | some ⟨.aM .bool,_,_,_,_⟩=>match op with
    | .eql=>io (.bool (a==b),True)
    | .neq=>io (.bool (!(a==b)),True)
    |_=>is
  |_=>is
def Ez:TypeDesc->Bool
  | .pointer _=>jp
  |_=>kw
def LH:TypeDesc->Bool
  | .map _ _=>jp
  |_=>kw
def H0:TypeDesc->Bool
  | .func _ _ _=>jp
  |_=>kw
def sH(ty:Ty)(t:TypeId)(wd:TypeDesc->Bool)(op:BinOp)(b:Bool):Option (PV×Prop):=
  match ty t with
  | some ⟨.aM d,_,_,_,_⟩=>match wd d,op with
    |true,.eql=>io (.bool b,True)
    |true,.neq=>io (.bool (!b),True)
    |_,_=>is
  |_=>is
def wO(ty:Ty)(t:TypeId)(op:BinOp)(x y:PV):Option (PV×Prop):=
  match x,y with
  | .iv (.v (.int j a)),.iv (.v (.int k b))=>if j=k then zs op j a b else qq op j a b
  | .iv (.v (.string a)),.iv (.v (.string b))=>An op a b
  | .iv (.v (.bool a)),y=>match y with
    | .iv (.v (.bool b))=>my ty t op a b
    | .kb b=>my ty t op a b
    |_=>is
  | .kb a,y=>match y with
    | .iv (.v (.bool b))=>my ty t op a b
    | .kb b=>my ty t op a b
    |_=>is
  | .ptr _ _,.iv (.v (.pointer is))=>sH ty t Ez op kw
  | .iv (.v (.pointer is)),.iv (.v (.pointer is))=>sH ty t Ez op jp
  | .mp _,.iv (.v (.map is))=>sH ty t LH op kw
  | .b5 _ _ _,.iv (.v .nilFunc)=>sH ty t H0 op kw
  |_,_=>is
def ub:PV->Option (PV×Prop)
  | .iv (.ct _ n _)=>io (.int n,True)
  | .iv (.v (.slice is 0 0))=>io (.int 0,True)
  | .iv (.v (.string s))=>io (.int s.size,True)
  | .sl _ _ len _=>io (.int len,True)
  |_=>is
def iZ(x:PV)(i:Int):Option (PV×Prop):=
  match x with
  | .iv (.ct _ n el)=>io (.iv (.jv (el i.toNat)),0<=i∧i<n)
  | .sl j off len sz=>io (.cL j sz (off+i.toNat) 0,0<=i∧i<len)
  |_=>is
def FK.rd:(s:FS)->List PV->Option (FK s)
  | [],cs=>match cs with
    | []=>io ()
    |_=>is
  | none::r,cs=>match cs with
    | .iv (.v (.string a))::cs=>match FK.rd r cs with
      |some k=>io (a,k)
      |none=>is
    |_=>is
  | some q::r,cs=>match cs with
    | .iv (.v (.int j n))::cs=>match lc (j=q),FK.rd r cs with
      |true,io k=>io (n,k)
      |_,_=>is
    |_=>is
def KC.pk:(c:KC)->c.K->PV
  | .str,s=> .iv (.v (.string s))
  | .int k,n=> .iv (.v (.int k n))
  | .si k,x=> .agg [.iv (.v (.string x.1)),.iv (.v (.int k x.2))]
  | .fl s,x=> .agg ((FK.vs s x).map fun v=> .iv (.v v))
def KC.dk:(c:KC)->PV->Option c.K
  | .str,p=>match p with
    | .iv (.v (.string s))=>io s
    |_=>is
  | .int k,p=>match p with
    | .iv (.v (.int j n))=>if j=k then io n else is
    |_=>is
  | .si k,p=>match p with
    | .agg [.iv (.v (.string s)),.iv (.v (.int j n))]=>if j=k then io (s,n) else is
    |_=>is
  | .fl s,p=>match p with
    | .agg cs=>FK.rd s cs
    |_=>is
def og(f:TypeId->Option FS):List (Nat×TypeId)->Nat->Option FS
  | [],_=>io []
  | (off,u)::r,at_=>match PJ off at_,f u with
    | true,io s=>match og f r (at_+s.length) with
      |some q=>io (s++q)
      |none=>is
    |_,_=>is
def y2(s:FS):Nat->FS
  |0=> []
  |n+1=>s++y2 s n
def tc(ty:Ty):Nat->TypeId->Option FS
  |0,_=>is
  | d+1,t=>match ty t with
    |some ⟨.aM .string,1,_,_,_⟩=>io [is]
    |some ⟨.aM (.int q),1,_,_,_⟩=>io [io q]
    | some ⟨.cM fs,n,_,_,jp⟩=>match og (tc ty d) fs 0 with
      | some s=>match PJ s.length n with
        |true=>io s
        |false=>is
      |none=>is
    | some ⟨.arr n e,m,_,_,_⟩=>match tc ty d e with
      | some s=>match PJ (n*s.length) m with
        |true=>io (y2 s n)
        |false=>is
      |none=>is
    |_=>is
def di(ty:Ty)(j:TypeId):Option KC:=
  match ty j with
  |some ⟨.aM .string,_,_,_,_⟩=>io .str
  |some ⟨.aM (.int k),_,_,_,_⟩=>io (.int k)
  | some ⟨.cM [(0,a),(1,b)],_,_,_,jp⟩=>match ty a,ty b with
    |some ⟨.aM .string,1,_,_,_⟩,io ⟨.aM (.int k),1,_,_,_⟩=>io (.si k)
    |_,_=>is
  | some ⟨.cM _,_,_,_,jp⟩=>match tc ty 6 j with
    |some s=>io (.fl s)
    |none=>is
  |_=>is
section
variable (kc:KC) {V:Type}
def dt:List (kc.K×V)->kc.K->V->V
  | [],_,z=>z
  |(a,b)::r,k,z=>if a=k then b else dt r k z
def cU:List (kc.K×V)->kc.K->Bool
  | [],_=>kw
  |(a,_)::r,k=>if a=k then jp else cU r k
def cA:List (kc.K×V)->kc.K->V->List (kc.K×V)
  | [],k,v=> [(k,v)]
  |(a,b)::r,k,v=>if a=k then(k,v)::r else(a,b)::cA r k v
def jw:List (kc.K×V)->kc.K->List (kc.K×V)
  | [],_=> []
  |(a,b)::r,k=>if a=k then r else(a,b)::jw r k
end
def Aj:Value->Value->Bool
  | .int j a,.int k b=>lc (j=k)&&lc (a=b)
  | .string a,.string b=>lc (a=b)
  | .bool a,.bool b=>a==b
  | .slice is 0 0,.slice is 0 0=>jp
  | .map is,.map is=>jp
  |_,_=>kw
def ur:List Value->List Value->Bool
  | [],[]=>jp
  |a::r,b::q=>Aj a b&&ur r q
  |_,_=>kw
def Kg:Value->Value->Bool
  | .agg a,.agg b=>ur a.toList b.toList
  |a,b=>Aj a b
def IV.pv:IV->PV
  | .agg cs=> .agg (cs.map .iv)
  |x=> .iv x
def sN(ty:Ty)(t:TypeId)(ok:Bool)(kc:KC){V:Type}(e:V->IV)(z:V)(b:Value)(m:List (kc.K×V))(key:PV):Option (PV×Prop):=
  match ty t with
  | some ⟨.aM (.map kt et),_,_,_,_⟩=>match di ty kt,ty et with
    | some kc',io ee=>match lc (kc'=kc),Kg ee.zero b,kc.dk key with
      | true,jp,io k=>match ok with
        |true=>io (.bq [(e (dt kc m k z)).pv,.iv (.v (.bool (cU kc m k)))],True)
        |false=>io ((e (dt kc m k z)).pv,True)
      |_,_,_=>is
    |_,_=>is
  |_=>is
def CF(f:TypeId->PV->PV->Option Bool)(ty:Ty):List (Nat×TypeId)->List PV->List PV->Option Bool
  | [],_,_=>io jp
  | (off,u)::r,cs,ds=>match ty u with
    | some eu=>match fI eu (cs.drop off),fI eu (ds.drop off) with
      | some a,io b=>match f u a b,CF f ty r cs ds with
        |some x,io y=>io (x&&y)
        |_,_=>is
      |_,_=>is
    |none=>is
def CG(ty:Ty):Nat->TypeId->PV->PV->Option Bool
  |0,_,_,_=>is
  | d+1,t,p,q=>match ty t with
    | some ⟨.aM (.int _),_,_,_,_⟩=>match p,q with
      | .iv (.v (.int j a)),.iv (.v (.int k b))=>if j=k then io (lc (a=b)) else is
      |_,_=>is
    | some ⟨.aM .string,_,_,_,_⟩=>match p,q with
      | .iv (.v (.string a)),.iv (.v (.string b))=>io (lc (a=b))
      |_,_=>is
    | some ⟨.aM .bool,_,_,_,_⟩=>match p,q with
      | .iv (.v (.bool a)),.iv (.v (.bool b))=>io (a==b)
      |_,_=>is
    | some ⟨.cM fs,_,_,_,jp⟩=>match p,q with
      | .agg cs,.agg ds=>CF (CG ty d) ty fs cs ds
      |_,_=>is
    |_=>is
def BF(ty:Ty)(t:TypeId)(op:BinOp)(p q:PV):Option (PV×Prop):=
  match op with
  | .eql=>match CG ty 10 t p q with
    |some b=>io (.bool b,True)
    |none=>is
  | .neq=>match CG ty 10 t p q with
    |some b=>io (.bool (!b),True)
    |none=>is
  |_=>is
def gz(ty:Ty)(s:AS):Op->Option (PV×Prop)
  | .move x=>io (ev s.f x,True)
  | .assign x=>io (ev s.f x,True)
  | .pick c a b=>match ev s.f c with
    | .kb jp=>io (ev s.f a,True)
    | .kb kw=>io (ev s.f b,True)
    |_=>is
  | .load t x=>match ty t with
    | some e=>match behind s.h (ev s.f x) with
      | some cs=>match fI e cs with
        |some p=>io (p,True)
        |none=>is
      |none=>is
    |none=>is
  | .nilCheck x=>match ev s.f x with
    | .ptr i o=>io (.ptr i o,True)
    | .cL i sz k o=>io (.cL i sz k o,True)
    | .iv (.jv cs)=>io (.iv (.jv cs),True)
    | .b5 (.func g) a b=>io (.b5 (.func g) a b,True)
    |_=>is
  | .binOp op t x y _=>match ev s.f x,ev s.f y with
    | .agg cs,.agg ds=>BF ty t op (.agg cs) (.agg ds)
    |p,q=>wO ty t op p q
  | .lookup t x i ok=>match ev s.f x with
    | .iv (.dQ kc e z zv m)=>sN ty t ok kc e z zv m (ev s.f i)
    | .mp j=>match s.h.get j with
      |some (.map kc e z zv _ m)=>sN ty t ok kc e z zv m (ev s.f i)
      |_=>is
    |_=>is
  | .entry it=>match ev s.f it with
    | .ptr i 0=>match s.h.get i with
      |some (.bI kc e _ _ (io x))=>io (.bq [kc.pk x.1,(e x.2).pv],True)
      |_=>is
    |_=>is
  | .unOp .not _ x=>match ev s.f x with
    | .kb jp=>io (.kb kw,True)
    | .kb kw=>io (.kb jp,True)
    | .iv (.v (.bool b))=>io (.bool (!b),True)
    |_=>is
  | .fieldAddr t x k=>match ty t with
    | some e=>match rI e k with
      | some (off,u)=>match ty u with
        | some eu=>match eu.size with
          |0=>is
          | _+1=>match nS off (ev s.f x) with
            |some p=>io (p,True)
            |none=>is
        |none=>is
      |none=>is
    |none=>is
  | .field t x k=>match ty t with
    | some e=>match rI e k with
      | some (off,u)=>match ty u with
        | some eu=>match ev s.f x with
          | .agg cs=>match fI eu (cs.drop off) with
            |some p=>io (p,True)
            |none=>is
          |_=>is
        |none=>is
      |none=>is
    |none=>is
  | .indexAddr t x i=>match ty t with
    | some ⟨.aM (.slice u),_,_,_,_⟩=>match ty u with
      | some eu=>match ev s.f i with
        | .iv (.v (.int _ n))=>match ev s.f x with
          | .iv (.ct sz m el)=>bif PJ sz eu.size then iZ (.iv (.ct sz m el)) n else is
          | .sl j off len sz=>bif PJ sz eu.size then iZ (.sl j off len sz) n else is
          |_=>is
        |_=>is
      |none=>is
    | some ⟨.arr len u,_,_,_,_⟩=>match ty u with
      | some eu=>match ev s.f i with
        | .iv (.v (.int _ n))=>match ev s.f x with
          | .ptr j off=>io (.ptr j (off+n.toNat*eu.size),0<=n∧n<len)
          |_=>is
        |_=>is
      |none=>is
    |_=>is
  | .index t x i=>match ty t with
    | some ⟨.aM .string,_,_,_,_⟩=>match ev s.f i with
      | .iv (.v (.int _ n))=>match ev s.f x with
        | .iv (.v (.string b))=>io (.iv (.v (.int .u8 ((b.data.toList.getD n.toNat 0).toNat:Int))),0<=n∧n<b.size)
        |_=>is
      |_=>is
    |_=>is
  | .slice t x (io lo) (io hi) is=>match ty t with
    | some ⟨.aM (.slice u),_,_,_,_⟩=>match ty u with
      | some eu=>match ev s.f lo with
        | .iv (.v (.int _ a))=>match ev s.f hi with
          | .iv (.v (.int _ b))=>match ev s.f x with
            | .iv (.ct sz m el)=>bif PJ sz eu.size then io (.iv (.ct sz (b.toNat-a.toNat) (fun k=>el (a.toNat+k))),0<=a∧a<=b∧b<=m) else is
            |_=>is
          |_=>is
        |_=>is
      |none=>is
    | some ⟨.aM .string,_,_,_,_⟩=>match ev s.f lo with
      | .iv (.v (.int _ a))=>match ev s.f hi with
        | .iv (.v (.int _ b))=>match ev s.f x with
          | .iv (.v (.string y))=>io (.iv (.v (.string (y.extract a.toNat b.toNat))),0<=a∧a<=b∧b<=y.size)
          |_=>is
        |_=>is
      |_=>is
    |_=>is
  | .slice t x (io lo) is is=>match ty t with
    | some ⟨.aM (.slice u),_,_,_,_⟩=>match ty u with
      | some eu=>match ev s.f lo with
        | .iv (.v (.int _ a))=>match ev s.f x with
          | .iv (.ct sz m el)=>bif PJ sz eu.size then io (.iv (.ct sz (m-a.toNat) (fun k=>el (a.toNat+k))),0<=a∧a<=m) else is
          |_=>is
        |_=>is
      |none=>is
    |_=>is
  | .slice t x is (io hi) (io mx)=>match ty t with
    | some ⟨.aM (.slice u),_,_,_,_⟩=>match ty u with
      | some eu=>match ev s.f hi with
        | .iv (.v (.int _ b))=>match ev s.f mx with
          | .iv (.v (.int _ c))=>match ev s.f x with
            | .iv (.ct sz m el)=>bif PJ sz eu.size then io (.iv (.ct sz b.toNat el),0<=b∧b<=c∧c<=m) else is
            |_=>is
          |_=>is
        |_=>is
      |none=>is
    |_=>is
  | .convert t t' x=>match ty t with
    | some ⟨.aM (.int _),_,_,_,_⟩=>match ty t' with
      | some ⟨.aM (.int k),_,_,_,_⟩=>match ev s.f x with
        | .iv (.v (.int _ n))=>io (.iv (.v (.int k (k.wrap n))),True)
        |_=>is
      |_=>is
    |_=>is
  | .build t parts=>match ty t with
    | some e=>match e.k with
      | .cM fs=>match oK ty fs with
        | some pl=>match nr (pl[·]?) (aK e.zero) (parts.toList.map fun x=>(x.1,ev s.f x.2)) with
          |some cs=>force cs fun A=>io (.agg A,True)
          |none=>is
        |none=>is
      | .arr _ u=>match ty u with
        | some eu=>match nr (fun i=>io (i*eu.size,eu.size)) (aK e.zero) (parts.toList.map fun x=>(x.1,ev s.f x.2)) with
          |some cs=>force cs fun A=>io (.agg A,True)
          |none=>is
        |none=>is
      |_=>is
    |none=>is
  | .extract x k=>match ev s.f x with
    | .bq cs=>match cs[k]? with
      |some p=>io (p,True)
      |none=>is
    |_=>is
  | .makeFunc fn first caps=>force (first.toList.map (ev s.f)) fun a=>force (caps.toList.map (ev s.f)) fun b=>io (.b5 fn a b,True)
  | .call ⟨.builtin .len,args,argTypes⟩=>match args.toList,argTypes.toList with
    | [x],[t]=>match ty t with
      | some ⟨.aM (.slice _),_,_,_,_⟩=>match ev s.f x with
        | .iv (.ct sz n el)=>ub (.iv (.ct sz n el))
        | .sl i off len sz=>ub (.sl i off len sz)
        | .iv (.v (.slice is 0 0))=>ub (.iv (.v (.slice is 0 0)))
        |_=>is
      | some ⟨.aM .string,_,_,_,_⟩=>match ev s.f x with
        | .iv (.v (.string b))=>ub (.iv (.v (.string b)))
        |_=>is
      | some ⟨.aM (.map _ _),_,_,_,_⟩=>match ev s.f x with
        | .iv (.dQ _ _ _ _ m)=>io (.int m.length,True)
        | .mp j=>match s.h.get j with
          |some (.map _ _ _ _ _ m)=>io (.int m.length,True)
          |_=>is
        |_=>is
      |_=>is
    |_,_=>is
  | .call ⟨.builtin .max,args,_⟩=>match args.toList with
    | [x,y]=>match ev s.f x,ev s.f y with
      | .iv (.v (.int k a)),.iv (.v (.int _ b))=>io (.iv (.v (.int k (max a b))),True)
      |_,_=>is
    |_=>is
  | .call ⟨.builtin .min,args,_⟩=>match args.toList with
    | [x,y]=>match ev s.f x,ev s.f y with
      | .iv (.v (.int k a)),.iv (.v (.int _ b))=>io (.iv (.v (.int k (min a b))),True)
      |_,_=>is
    |_=>is
  |_=>is
inductive TT where
  |leaf
  |node (l:TT) (k:Nat) (e:bE) (r:TT)
def TT.find:TT->Nat->Option bE
  | .leaf,_=>is
  | .node l k e r,t=>bif PJ t k then io e else bif PI t k then l.find t else r.find t
def TT.On(p:Nat->bE->Prop):TT->Prop
  | .leaf=>True
  | .node l k e r=>p k e∧l.On p∧r.On p
theorem TT.td{p:Nat->bE->Prop}: ∀{x:TT},x.On p-> ∀t e,x.find t=io e->p t e
  | .leaf,_,t,e,h=>by simp[TT.find]at h
  | .node l k e0 r,ha,t,e,h=>by
    simp only[TT.find]at h;cases hb:PJ t k with
    | true=>
      simp only[hb,cond_true,Ph]at h;subst h;rw[PC hb];exact ha.1
    | false=>
      simp only[hb,cond_false]at h;cases hl:PI t k with
      |true=>simp only[hl,cond_true]at h;exact TT.td ha.2.1 t e h
      |false=>simp only[hl,cond_false]at h;exact TT.td ha.2.2 t e h
theorem ad{P:Program}{t:TypeId}{e:bE}(h:(P.info? t).map (fun i=>(i.size,i.bytes,i.zero))=io (e.size,e.bytes,io e.zero)): ∃i,P.info? t=io i∧i.size=e.size∧i.bytes=e.bytes∧i.zero=io e.zero:=by
  rw[Pr]at h;obtain⟨i,h1,b⟩:=h;simp only[Pt]at b;exact⟨i,h1,b.1,b.2.1,b.2.2⟩
theorem VR.one{M:Mem}{N:Nm}{U:Nat->Prop}{p:PV}{x:Value}(h:VR M N U p x)(ho:p.one=jp):x.oneCell'=jp:=by
  cases h with
  | iv y x hi=>
    cases hi with
    |v x=>cases x<;>first|rfl|(simp[PV.one]at ho)
    |agg=>simp[PV.one]at ho
    |_=>rfl
  |agg=>simp[PV.one]at ho
  |bq=>simp[PV.one]at ho
  |any=>simp[PV.one]at ho
  |_=>rfl
section
variable {M:Mem} {N:Nm}
theorem VR.iN{U:Nat->Prop}{cs:List PV}{x:Value}(h:VR M N U (.agg cs) x): ∃b:Array Value,x= .agg b∧cs.length=b.size∧ ∀j p,cs[j]? =io p->VR M N U p (b.getD j undef):=by
  cases h with
  |agg _ b hl hr=>exact⟨b,rfl,hl,hr⟩
theorem mv{U:Nat->Prop}{p:PV}{x:Value}{cs:List PV}(h:VR M N U p x)(hc:p.cells=io cs):cs.length=x.cells.size∧ ∀j q,cs[j]? =io q->VR M N U q (x.cells.getD j undef):=by
  have one:p.one=jp->cs=[p]->cs.length=x.cells.size∧ ∀j q,cs[j]? =io q->VR M N U q (x.cells.getD j undef):=by
    intro u b;subst b;have h1:=h.one u;have B:x.cells= #[x]:=by cases x<;>first|rfl|(simp[Value.oneCell']at h1)
    rw[B];refine⟨rfl,fun j q y=>?_⟩;cases j with
    |zero=>simp at y;subst y;exact h
    |succ j=>simp at y
  cases p with
  | agg l=>
    simp only[PV.cells,Ph]at hc;subst hc;obtain⟨C,rfl,hl,A⟩:=h.iN;exact⟨hl,A⟩
  | _=>
    simp only[PV.cells]at hc;split at hc
    · rename_i u
      simp only[Ph]at hc;exact one u hc.symm
    · cases hc
theorem gJ: ∀{cs:List PV},eB cs=jp-> ∀(j:Nat) (p:PV),cs[j]? =io p->p.one=jp
  | [],_,j,p,h=>by simp at h
  | c::cs,h,j,p,hj=>by
    simp only[eB]at h;split at h
    · rename_i b
      cases j with
      |zero=>simp at hj;subst hj;exact b
      |succ j=>exact gJ h j p (by simpa using hj)
    · cases h
theorem ew{U:Nat->Prop}(v:Value):(aK v).length=v.cells.size∧ ∀j p,(aK v)[j]? =io p->VR M N U p (v.cells.getD j undef):=by
  refine⟨by simp[aK],fun j p b=>?_⟩;simp only[aK]at b;rw[Pp,Pr]at b;obtain⟨x,y,rfl⟩:=b;have u:v.cells[j]? =io x:=by simpa using y
  rw[Pg,u];exact .iv _ _ (.v _)
theorem vh: ∀(l:List Value) (k off:Nat) (cs:Array Value),off+k+l.length<=cs.size->
    ((l.zipIdx k).foldl (fun cs x=>cs.setIfInBounds (off+x.2) x.1) cs).size=cs.size∧
    ∀j,((l.zipIdx k).foldl (fun cs x=>cs.setIfInBounds (off+x.2) x.1) cs)[j]? =if off+k<=j∧j<off+k+l.length then l[j-(off+k)]? else cs[j]?
  | [],k,off,cs,_=>⟨rfl,fun j=>by simp;omega⟩
  | v::l,k,off,cs,h=>by
    simp only[List.zipIdx_cons,Qd];simp only[PX]at h;obtain⟨h1,y⟩:=vh l (k+1) off (cs.setIfInBounds (off+k) v) (by simp;omega);refine⟨by rw[h1];simp,fun j=>?_⟩;rw[y j];simp only[PX];by_cases u:off+(k+1)<=j∧j<off+(k+1)+l.length
    · rw[am u,am (by omega),show j-(off+k)=(j-(off+(k+1)))+1 by omega,R5]
    · rw[be u]
      by_cases b:j=off+k
      · subst b
        have hb:off+k<cs.size:=by omega
        rw[am (by omega),Nat.sub_self];simp[hb]
      · rw[be (by omega),PM,be (fun e=>b e.symm)]
def Pb(M:Mem)(N:Nm)(U:Nat->Prop)(cs:List PV)(ys:Array Value):Prop:=cs.length=ys.size∧ ∀j p,cs[j]? =io p->VR M N U p (ys.getD j undef)
theorem o9{u:Nat->Option (Nat×Nat)}: ∀{j:List (Nat×PV)} {cs b:List PV},nr u cs j=io b->b.length=cs.length
  | [],cs,b,h=>by simp only[nr,Ph]at h;rw[h]
  | (i,p)::r,cs,b,h=>by
    simp only[nr]at h;split at h
    · split at h
      · split at h
        · rw[force_eq]at h
          rw[o9 h,cO]
        · cases h
      · cases h
    · cases h
theorem o8{U:Nat->Prop}{u:Nat->Option (Nat×Nat)}: ∀{b:List (Nat×PV)} {w5:List (Nat×Value)} {cs A:List PV} {ys:Array Value},
    nr u cs b=io A->b.length=w5.length->(∀(j:Nat) (x:Nat×PV) (y:Nat×Value),b[j]? =io x->w5[j]? =io y->x.1=y.1∧VR M N U x.2 y.2)->Pb M N U cs ys->
    ∃B,Instr.fill u ys w5=io B∧Pb M N U A B
  | [],[],cs,A,ys,h,_,_,hv=>by
    simp only[nr,Ph]at h;subst h;exact⟨ys,rfl,hv⟩
  | (i,p)::r,(i',v)::vr,cs,A,ys,h,hl,hp,hv=>by
    obtain⟨h1,h2⟩:=hp 0 _ _ Z Z;simp only at h1 h2;subst h1;simp only[nr]at h;split at h
    · rename_i a0 size b0
      split at h
      · rename_i l Y
        split at h
        · rename_i J R
          rw[force_eq]at h;obtain⟨g1,g2⟩:=mv h2 Y;have c0:v.cells.size=size:=by rw[<-g1];exact PC J
          have G:a0+v.cells.size<=ys.size:=by rw[<-g1,<-hv.1];exact Pf R
          obtain⟨k1,k2⟩:=vh v.cells.toList 0 a0 ys (by simpa using G);have C:v.cells.zipIdx.foldl (fun cs x=>cs.setIfInBounds (a0+x.2) x.1) ys=(v.cells.toList.zipIdx 0).foldl (fun cs x=>cs.setIfInBounds (a0+x.2) x.1) ys:=by
            rw[<-Array.foldl_toList,Array.toList_zipIdx]
          have d0:Pb M N U (setCells cs a0 l) (v.cells.zipIdx.foldl (fun cs x=>cs.setIfInBounds (a0+x.2) x.1) ys):=by
            rw[C];refine⟨by rw[cO,k1];exact hv.1,fun j q hq=>?_⟩;rw[Pg,k2 j];rcases gd cs a0 l j q hq with⟨I,D⟩|⟨I,D⟩
            · have e0:j-a0<l.length:=(Pj.1 D).1
              rw[am (by simp;omega)];have:=g2 _ q D;rw[Pg]at this;simpa using this
            · rw[be (by simp;omega)]
              have:=hv.2 j q D;rw[Pg]at this;exact this
          obtain⟨B,I,D⟩:=o8 h (by simpa using hl) (fun j x y hx hy=>hp (j+1) x y (by simpa using hx) (by simpa using hy)) d0;refine⟨B,?_,D⟩;simp only[Instr.fill,b0];rw[be (by simp[c0];omega)];exact I
        · cases h
      · cases h
    · cases h
end
section
variable {P:Program} {M:Mem} {N:Nm} {U:Nat->Prop} {h:AH} {w:World}
theorem Rel.JX(hr:Rel M N U h w){b o:Nat}{v:Value}(hc:M.cell b o=io v):w.cell? ⟨b,o,is⟩=io v:=by
  unfold Mem.cell at hc;cases hb:M b with
  |none=>simp[hb]at hc
  | some c=>
    cases c with
    |map es cl=>simp[hb]at hc
    | cells c=>
      obtain⟨T,u,j⟩:=hr.dZ b _ hb;rw[hb]at hc;simp only[World.cell?,j];simpa using hc
theorem IR.zr{cs:List IV}{x:Value}(hr:Rel M N U h w)(hp:IR M (.jv cs) x):
    ∃b a0,x= .pointer (io ⟨b,a0,is⟩)∧ ∀j q,cs[j]? =io q-> ∃y,w.cell? ⟨b,a0+j,is⟩=io y∧IR M q y:=by
  cases hp with
  | jv _ b a0 hm hq=>
    refine⟨b,a0,rfl,fun j q B=>?_⟩;have u:j<cs.length:=(Pj.1 B).1;have h1:=hm j u;cases hv:M.cell b (a0+j) with
    |none=>simp[hv]at h1
    | some y=>
      have A:=hq j q B;rw[hv]at A;exact⟨y,hr.JX hv,A⟩
theorem vz{p:PV}{x:Value}{cs:List PV}(hr:Rel M N U h w)(hp:VR M N U p x)(hb:behind h p=io cs):
    ∃b a0,x= .pointer (io ⟨b,a0,is⟩)∧ ∀j q,cs[j]? =io q-> ∃y,w.cell? ⟨b,a0+j,is⟩=io y∧VR M N U q y:=by
  cases p with
  | ptr i a0=>
    cases hp with
    | ptr _ _ hU=>
      simp only[behind]at hb;cases ho:h.get i with
      |none=>simp[ho]at hb
      | some o=>
        cases o with
        | cells cs0 T0=>
          simp only[ho,Ph]at hb;subst hb;obtain⟨c,T,h1,h2,R,C,Y⟩:=hr.obj i _ ho;refine⟨N.az i,a0,rfl,fun j q u=>?_⟩;rw[Qj]at u;have A:a0+j<c.size:=by rw[<-R];exact(Pj.1 u).1
          refine⟨c.getD (a0+j) undef,?_,C _ _ u⟩;simp[World.cell?,h1,Pg,A]
        |_=>simp[ho]at hb
  | cL i sz k a0=>
    cases hp with
    | cL _ _ _ _ hU=>
      simp only[behind]at hb;cases ho:h.get i with
      |none=>simp[ho]at hb
      | some o=>
        cases o with
        | row sz' es=>
          simp only[ho]at hb;split at hb
          · rename_i e D B
            simp only[Ph]at hb;have:=PC D;subst this;subst hb;rcases hr.obj i _ ho with J|⟨J,c,T,h1,h2,R,C,Y⟩
            · subst J;simp at B
            refine⟨N.az i,k*sz'+a0,rfl,fun j q u=>?_⟩;rw[Qj]at u;have b0:a0+j<sz':=by rw[<-C k e B];exact(Pj.1 u).1
            have hk:k<es.length:=(Pj.1 B).1;have I:(k+1)*sz'<=es.length*sz':=PL _ hk;rw[QZ]at I;have A:k*sz'+a0+j<c.size:=by omega
            refine⟨c.getD (k*sz'+a0+j) undef,?_,?_⟩
            · simp[World.cell?,h1,Pg,A]
            · rw[QY];exact Y k e _ q B u
          · cases hb
        |_=>simp[ho]at hb
  | iv x=>
    cases x with
    | jv cs0=>
      cases hp with
      | iv _ _ hi=>
        simp only[behind,Ph]at hb;subst hb;obtain⟨b,a0,rfl,hc⟩:=hi.zr hr;refine⟨b,a0,rfl,fun j q u=>?_⟩;rw[Pp,Pr]at u;obtain⟨q0,G,rfl⟩:=u;obtain⟨y,hy,hq⟩:=hc j q0 G;exact⟨y,hy,.iv _ _ hq⟩
    |_=>simp[behind]at hb
  |_=>simp[behind]at hb
theorem lQ{cs l:List PV}{off n:Nat}(hh:j6 cs off n=io l):l.length=n∧ ∀j q,l[j]? =io q->cs[off+j]? =io q∧j<n:=by
  unfold j6 at hh;cases hb:PJ ((cs.drop off).take n).length n with
  |false=>simp only[hb,cond_false]at hh;cases hh
  | true=>
    simp only[hb,cond_true,Ph]at hh;subst hh;have hl:=PC hb;refine⟨hl,fun j q u=>?_⟩;have b:j<n:=by rw[<-hl];exact(Pj.1 u).1
    rw[P8,am b,Qj]at u;exact⟨u,b⟩
theorem np{cs:List PV}{p:PV}(hh:ja cs=io p):cs[0]? =io p:=by
  cases cs with
  |nil=>simp[ja]at hh
  |cons a r=>simpa[ja]using hh
theorem dr(b off j:Nat):(⟨b,off,is⟩:Addr).add j=⟨b,off+j,is⟩:=by
  unfold Addr.add;split
  · subst_vars;rfl
  · rfl
theorem qv{t:TypeId}{e:bE}(he:aj P t e){cs:List PV}{b off:Nat}(hc: ∀j q,cs[j]? =io q-> ∃y,w.cell? ⟨b,off+j,is⟩=io y∧VR M N U q y)
    {p:PV} (hp:fI e cs=io p): ∃y,(loadVar t ⟨b,off,is⟩).run P w= .ok y w∧VR M N U p y:=by
  unfold fI at hp;cases hk:e.k.agg with
  | true=>
    simp only[hk]at hp;cases ht:j6 cs 0 e.size with
    |none=>simp[ht]at hp
    | some l=>
      simp only[ht,force_eq,Ph]at hp;subst hp;obtain⟨hl,C⟩:=lQ ht;have u: ∀j,j<e.size->w.cell? ((⟨b,off,is⟩:Addr).add j)=io (((w.cell? ⟨b,off+j,is⟩)).getD undef):=by
        intro j I;have A:l[j]? =io (l[j]'(by omega)):=Pl (by omega);obtain⟨y,x,_⟩:=hc j _ (by simpa using(C j _ A).1);rw[dr,x];rfl
      refine⟨.agg (((PT e.size).map fun j=>(w.cell? ⟨b,off+j,is⟩).getD undef).toArray),?_,?_⟩
      · have:=run_loadCells (P:=P) w ⟨b,off,is⟩ e.size (fun j=>(w.cell? ⟨b,off+j,is⟩).getD undef) u
        simp[loadVar,eK he,hk,aL he,this]
      · refine .agg _ _ (by simp[hl]) (fun j q J=>?_)
        obtain⟨h1,D⟩:=C j q J;obtain⟨y,x,B⟩:=hc j q (by simpa using h1);have G:(((PT e.size).map fun j=>(w.cell? ⟨b,off+j,is⟩).getD undef).toArray).getD j undef=y:=by
          simp[Pg,D,x]
        rw[G];exact B
  | false=>
    simp only[hk]at hp;obtain⟨y,x,B⟩:=hc 0 p (np hp);refine⟨y,?_,B⟩;simp only[loadVar,Sem.run_bind,eK he,Result.andThen_ok,hk,Q7,if_false];simp only[Rl]at x;simp[x]
theorem gW{t:TypeId}{e:bE}(he:aj P t e){cs:List PV}{ys:Array Value}{off:Nat}(hl:cs.length=ys.size)(hc: ∀j q,cs[j]? =io q->VR M N U q (ys.getD j undef))
    {p:PV} (hp:fI e (cs.drop off)=io p): ∃y,(part t ys off).run P w= .ok y w∧VR M N U p y:=by
  unfold fI at hp;cases hk:e.k.agg with
  | true=>
    simp only[hk]at hp;cases ht:j6 (cs.drop off) 0 e.size with
    |none=>simp[ht]at hp
    | some l=>
      simp only[ht,force_eq,Ph]at hp;subst hp;obtain⟨A,C⟩:=lQ ht;refine⟨.agg (ys.extract off (off+e.size)),by simp[part,eK he,hk,aL he],.agg _ _ ?_ (fun j q D=>?_)⟩
      · rw[A,Array.size_extract]
        by_cases u:e.size=0
        · omega
        · have b:l[e.size-1]? =io (l[e.size-1]'(by omega)):=Pl (by omega)
          have:=(C _ _ b).1;rw[Qj]at this;have:=(Pj.1 this).1;omega
      · obtain⟨h1,I⟩:=C j q D
        rw[Qj]at h1;have x:=hc _ _ h1;have B:off+(0+j)<cs.length:=(Pj.1 h1).1;have:(ys.extract off (off+e.size)).getD j undef=ys.getD (off+(0+j)) undef:=by
          simp only[Pg,Array.getElem?_extract,PO];rw[am (by omega)]
        rw[this];exact x
  | false=>
    simp only[hk]at hp;have u:=np hp;rw[Qj]at u;have x:=hc _ _ u;have B:off+0<cs.length:=(Pj.1 u).1;refine⟨ys.getD (off+0) undef,?_,x⟩;have G:ys[off]? =io (ys.getD off undef):=by
      simp[Pg,show off<ys.size by omega]
    simp only[part,Sem.run_bind,eK he,Result.andThen_ok,hk,Q7,if_false,G];rfl
theorem r7(a b:ByteArray):(a.toList==b.toList)=lc (a=b):=by
  rw[Lib.toList_data,Lib.toList_data,QJ];simp only[beq_iff_eq,decide_eq_true_eq];exact⟨fun h=>WideShapes.bytes_inj h,fun h=>by rw[h]⟩
theorem EA{t:TypeId}{op:BinOp}{k:IntKind}{a b:Int}{p:PV}{C:Prop}(h:A7 op k a b=io (p,C))(hC:C): ∃x,(binOp op t (.int k a) (.int k b)).run P w= .ok x w∧VR M N U p x:=by
  have u: ∀n:Int,o7 n->IntKind.i64.wrap n=n:=fun n y=>IntWalk.i64_in n y;unfold A7 at h;split at h
  all_goals first
    |cases h;done
    | (simp only[Ph,Pt]at h
       obtain⟨rfl,rfl⟩:=h;refine⟨_,?_,.iv _ _ (.v _)⟩
       first
       |(simp[binOp,Op.intCmp];done)
       |rfl
       |(simp[binOp,Op.intCmp];rfl)
       |(have j:=u _ hC;simp[binOp,Op.intArith,j];done)
       |(simp[binOp,Op.intDiv,hC];done)
       |(have j:=u _ hC.2;simp[binOp,Op.intDiv,hC.1,j];done))
theorem sc{t:TypeId}{op:BinOp}{k j:IntKind}{a b:Int}{p:PV}{C:Prop}(h:qq op k a b=io (p,C)): ∃x,(binOp op t (.int k a) (.int j b)).run P w= .ok x w∧VR M N U p x:=by
  unfold qq at h;split at h
  case h_3=>cases h
  all_goals
    split at h
    · rename_i hb
      simp only[Ph,Pt]at h;obtain⟨rfl,rfl⟩:=h;have u: ¬b<0:=by have:=of_decide_eq_true hb;omega
      refine⟨_,?_,.iv _ _ (.v _)⟩;simp only[binOp,Op.shift,be u];rfl
    · cases h
theorem Dl{t:TypeId}{op:BinOp}{a b:ByteArray}{p:PV}{C:Prop}(h:An op a b=io (p,C))(hC:C): ∃x,(binOp op t (.string a) (.string b)).run P w= .ok x w∧VR M N U p x:=by
  unfold An at h;split at h
  all_goals first
    |cases h;done
    | (simp only[Ph,Pt]at h
       obtain⟨rfl,rfl⟩:=h;refine⟨_,?_,.iv _ _ (.v _)⟩
       first
       |(simp[binOp,Op.stringOp,<-r7];done)
       | (have j: ¬(((a.size+b.size:Nat):Int)>IntKind.i64.max):=by(have:IntKind.i64.max=9223372036854775807:=by decide);rw[this];omega
          simp only[binOp,Op.stringOp,be j];rfl))
theorem cW{op:BinOp}{t:TypeId}{x y:Operand}{a b:Value}(h1:a≠ .nilIface)(u: ∀j,a≠ .agg j):(eqGuard op t x y a b).run P w= .ok () w:=by
  unfold eqGuard;cases op<;>cases a<;>first|rfl|exact absurd Z h1|exact absurd Z (u _)
theorem wH{t:TypeId}(hu:P.underlying t=io .bool)(d:Nat)(a b:Bool):(Op.equalIn (d+1) t (.bool a) (.bool b)).run P w= .ok (a==b) w:=by
  simp[Op.equalIn,run_underlying hu]
theorem ti{t:TypeId}(hu:P.underlying t=io .bool)(a b:Bool):(Op.equal t (.bool a) (.bool b)).run P w= .ok (a==b) w:=
  wH hu 9999 a b
theorem tx{t:TypeId}(hu:P.underlying t=io .bool)(a b:Bool):(binOp .eql t (.bool a) (.bool b)).run P w= .ok (.bool (a==b)) w:=by
  show(Op.equal t (.bool a) (.bool b)>>=fun r=>(pure (.bool r):Sem Value)).run P w=_;rw[Sem.run_bind,ti hu];rfl
theorem tw{t:TypeId}(hu:P.underlying t=io .bool)(a b:Bool):(binOp .neq t (.bool a) (.bool b)).run P w= .ok (.bool (!(a==b))) w:=by
  show(Op.equal t (.bool a) (.bool b)>>=fun r=>(pure (.bool (!r)):Sem Value)).run P w=_;rw[Sem.run_bind,ti hu];rfl
theorem mN{ty:Ty}(j:bx P ty){t:TypeId}{op:BinOp}{a b:Bool}{r:PV}{C:Prop}{u v:Operand}(h:my ty t op a b=io (r,C)):
    ∃z,(do eqGuard op t u v (.bool a) (.bool b);binOp op t (.bool a) (.bool b):Sem Value).run P w= .ok z w∧VR M N U r z:=by
  unfold my at h;split at h
  · rename_i x
    have hu:P.underlying t=io .bool:=(j t _ x).2.1.1;split at h
    all_goals first
      |cases h;done
      | (simp only[Ph,Pt]at h
         obtain⟨rfl,rfl⟩:=h;refine⟨_,?_,.iv _ _ (.v _)⟩;rw[Sem.run_bind,cW (by simp) (by simp)]
         first|exact tx hu _ _|exact tw hu _ _)
  · cases h
theorem oO{ty:Ty}(j:bx P ty){t:TypeId}{wd:TypeDesc->Bool}{op:BinOp}{b:Bool}{r:PV}{C:Prop}{u v:Operand}{x y:Value}(h:sH ty t wd op b=io (r,C))(h1:x≠ .nilIface)(B: ∀G,x≠ .agg G)
    (he:binOp .eql t x y=(Op.equal t x y>>=fun r=>(pure (.bool r):Sem Value))) (hn:binOp .neq t x y=(Op.equal t x y>>=fun r=>(pure (.bool (!r)):Sem Value)))
    (D: ∀d,wd d=jp->P.underlying t=io d->(Op.equal t x y).run P w= .ok b w):
    ∃z,(do eqGuard op t u v x y;binOp op t x y:Sem Value).run P w= .ok z w∧VR M N U r z:=by
  unfold sH at h;split at h
  · rename_i d _ _ _ _ I
    have hu:P.underlying t=io d:=(j t _ I).2.1.1;split at h
    · rename_i A
      simp only[Ph,Pt]at h;obtain⟨rfl,rfl⟩:=h;refine⟨.bool b,?_,.iv _ _ (.v _)⟩;rw[Sem.run_bind,cW h1 B,Result.andThen_ok,he,Sem.run_bind,D d A hu];rfl
    · rename_i A
      simp only[Ph,Pt]at h;obtain⟨rfl,rfl⟩:=h;refine⟨.bool (!b),?_,.iv _ _ (.v _)⟩;rw[Sem.run_bind,cW h1 B,Result.andThen_ok,hn,Sem.run_bind,D d A hu];rfl
    · cases h
  · cases h
theorem ra{t e:TypeId}(hu:P.underlying t=io (.pointer e))(d:Nat)(a:Addr):(Op.equalIn (d+1) t (.pointer (io a)) (.pointer is)).run P w= .ok kw w:=by
  simp[Op.equalIn,run_underlying hu]
theorem ud{t e:TypeId}(hu:P.underlying t=io (.pointer e))(a:Addr):(Op.equal t (.pointer (io a)) (.pointer is)).run P w= .ok kw w:=ra hu 9999 a
theorem rb{t e:TypeId}(hu:P.underlying t=io (.pointer e))(d:Nat):(Op.equalIn (d+1) t (.pointer is) (.pointer is)).run P w= .ok jp w:=by
  simp[Op.equalIn,run_underlying hu]
theorem ue{t e:TypeId}(hu:P.underlying t=io (.pointer e)):(Op.equal t (.pointer is) (.pointer is)).run P w= .ok jp w:=rb hu 9999
theorem re{t k e:TypeId}(hu:P.underlying t=io (.map k e))(d:Nat)(a:Nat):(Op.equalIn (d+1) t (.map (io a)) (.map is)).run P w= .ok kw w:=by
  simp[Op.equalIn,run_underlying hu]
theorem uf{t k e:TypeId}(hu:P.underlying t=io (.map k e))(a:Nat):(Op.equal t (.map (io a)) (.map is)).run P w= .ok kw w:=re hu 9999 a
theorem p5{t:TypeId}{p q:Array TypeId}{b:Bool}(hu:P.underlying t=io (.func p q b))(d:Nat)(f:Fn)(x y:Array Value):(Op.equalIn (d+1) t (.func f x y) .nilFunc).run P w= .ok kw w:=by
  simp[Op.equalIn,run_underlying hu]
theorem th{t:TypeId}{p q:Array TypeId}{b:Bool}(hu:P.underlying t=io (.func p q b))(f:Fn)(x y:Array Value):(Op.equal t (.func f x y) .nilFunc).run P w= .ok kw w:=p5 hu 9999 f x y
theorem CO{ty:Ty}(A:bx P ty){t:TypeId}{op:BinOp}{p q:PV}{r:PV}{C:Prop}{u v:Operand}{x y:Value}(h:wO ty t op p q=io (r,C))(hC:C)(j:VR M N U p x)(b:VR M N U q y):
    ∃z,(do eqGuard op t u v x y;binOp op t x y:Sem Value).run P w= .ok z w∧VR M N U r z:=by
  unfold wO at h;split at h
  · cases j with
    | iv _ _ j=>cases j with
      | v=>
        cases b with
        | iv _ _ b=>cases b with
          | v=>
            split at h
            · rename_i G
              subst G;unfold zs at h;split at h
              · obtain⟨z,D,B⟩:=sc (P:=P) (M:=M) (N:=N) (U:=U) (w:=w) (t:=t) h
                exact⟨z,by rw[Sem.run_bind,cW (by simp) (by simp)];exact D,B⟩
              · obtain⟨z,D,B⟩:=sc (P:=P) (M:=M) (N:=N) (U:=U) (w:=w) (t:=t) h
                exact⟨z,by rw[Sem.run_bind,cW (by simp) (by simp)];exact D,B⟩
              obtain⟨z,D,B⟩:=EA (P:=P) (M:=M) (N:=N) (U:=U) (w:=w) (t:=t) h hC;exact⟨z,by rw[Sem.run_bind,cW (by simp) (by simp)];exact D,B⟩
            · obtain⟨z,D,B⟩:=sc (P:=P) (M:=M) (N:=N) (U:=U) (w:=w) (t:=t) h
              exact⟨z,by rw[Sem.run_bind,cW (by simp) (by simp)];exact D,B⟩
  · cases j with
    | iv _ _ j=>cases j with
      | v=>
        cases b with
        | iv _ _ b=>cases b with
          | v=>
            obtain⟨z,D,B⟩:=Dl (P:=P) (M:=M) (N:=N) (U:=U) (w:=w) (t:=t) h hC;exact⟨z,by rw[Sem.run_bind,cW (by simp) (by simp)];exact D,B⟩
  · split at h
    · cases j with
      | iv _ _ j=>cases j with
        | v=>
          cases b with
          | iv _ _ b=>cases b with
            |v=>exact mN A h
    · cases j with
      | iv _ _ j=>cases j with
        | v=>
          cases b with
          |kb=>exact mN A h
    · cases h
  · split at h
    · cases j with
      | kb=>
        cases b with
        | iv _ _ b=>cases b with
          |v=>exact mN A h
    · cases j with
      | kb=>
        cases b with
        |kb=>exact mN A h
    · cases h
  · cases j with
    | ptr i off hU=>
      cases b with
      | iv _ _ b=>cases b with
        | v=>
          refine oO A h (by simp) (by simp) Z Z fun d hd hu=>?_;cases d<;>first|(cases hd;done)|exact ud hu _
  · cases j with
    | iv _ _ j=>cases j with
      | v=>cases b with
        | iv _ _ b=>cases b with
          | v=>
            refine oO A h (by simp) (by simp) Z Z fun d hd hu=>?_;cases d<;>first|(cases hd;done)|exact ue hu
  · cases j with
    | mp i hU=>
      cases b with
      | iv _ _ b=>cases b with
        | v=>
          refine oO A h (by simp) (by simp) Z Z fun d hd hu=>?_;cases d<;>first|(cases hd;done)|exact uf hu _
  · cases j with
    | b5=>
      cases b with
      | iv _ _ b=>cases b with
        | v=>
          refine oO A h (by simp) (by simp) Z Z fun d hd hu=>?_;cases d<;>first|(cases hd;done)|exact th hu _ _ _
  · cases h
theorem Er{f:AF}{a:Act}(hf:FR M N U f a.tmps)(xs:Array Operand):(xs.toList.map (ev f)).length=(xs.map a.eval).size∧ ∀j p,(xs.toList.map (ev f))[j]? =io p->VR M N U p ((xs.map a.eval).getD j undef):=by
  refine⟨by simp,fun j p u=>?_⟩;rw[Pp,Pr]at u;obtain⟨x,y,rfl⟩:=u;have b:xs[j]? =io x:=by simpa using y
  rw[Pg,RI,b];exact aH hf x
theorem pb{t:TypeId}{e:bE}(he:aj P t e){k off:Nat}{u:TypeId}(hf:rI e k=io (off,u)): ∃(F:Array Field) (fd:Field),P.underlying t=io (.struct F)∧F[k]? =io fd∧fd.offset=off∧fd.type=u:=by
  unfold rI at hf;cases hk:e.k with
  | cM fs=>
    simp only[hk]at hf;obtain⟨_,j,_⟩:=he;rw[hk]at j;obtain⟨F,x,y⟩:=j;rw[<-y,Pp,Pr]at hf;obtain⟨fd,A,b⟩:=hf;simp only[Pt]at b;exact⟨F,fd,x,by simpa using A,b.1,b.2⟩
  |_=>simp[hk]at hf
theorem B9{n:Nat}{p q:PV}{x:Value}(B:VR M N U p x)(h:nS n p=io q): ∃b o,x= .pointer (io ⟨b,o,is⟩)∧VR M N U q (.pointer (io ⟨b,o+n,is⟩)):=by
  cases B with
  |ptr i off hU=>simp only[nS,Ph]at h;subst h;exact⟨_,_,rfl,.ptr _ _ hU⟩
  |cL i sz k off hU=>simp only[nS,Ph]at h;subst h;exact⟨_,_,rfl,by rw[QY];exact .cL _ _ _ _ hU⟩
  | iv y _ hi=>
    cases hi with
    | jv cs b off hm hr=>
      simp only[nS,Ph]at h;subst h;refine⟨b,off,rfl,.iv _ _ (.jv _ _ _ (fun j A=>?_) (fun j p u=>?_))⟩
      · rw[List.length_drop]at A
        rw[QY];exact hm (n+j) (by omega)
      · rw[Qj]at u
        rw[QY];exact hr (n+j) p u
    |_=>simp[nS]at h
  |_=>simp[nS]at h
theorem nn{t u:TypeId}{A:bE}(hu:P.underlying t=io (.slice u))(B:aj P u A){p q:PV}{k:IntKind}{n:Int}{C:Prop}{x:Value}(J:VR M N U p x)
    (G:(∃m D,p= .iv (.ct A.size m D))∨ ∃i a0 len,p= .sl i a0 len A.size) (h:iZ p n=io (q,C)) (hC:C): ∃y,(Instr.indexAt t x (.int k n)).run P w= .ok y w∧VR M N U q y:=by
  rcases G with⟨m,D,rfl⟩|⟨i,a0,len,rfl⟩
  · simp only[iZ,Ph,Pt]at h
    obtain⟨rfl,rfl⟩:=h;cases J with
    | iv _ _ hi=>
      cases hi with
      |fp sz D a cap=>omega
      | ct sz m D b a0 cap hn hc hl hm hr=>
        refine⟨.pointer (io ⟨b,a0+n.toNat*A.size,is⟩),?_,.iv _ _ (.jv _ _ _ (fun j I=>?_) (fun j p R=>hr n.toNat j p (by omega) R))⟩
        · simp only[Instr.indexAt,asIntOf]
          simp[run_underlying hu,hC.1,hC.2,aL B,dr]
        · rw[hl n.toNat (by omega)]at I
          exact hm n.toNat j (by omega) I
  · simp only[iZ,Ph,Pt]at h
    obtain⟨rfl,rfl⟩:=h;cases J with
    |lR=>omega
    |sle=>omega
    | sl _ _ _ _ cap hU h0 hl hc he=>
      refine⟨.pointer (io ⟨N.az i,(a0+n.toNat)*A.size+0,is⟩),?_,.cL _ _ _ _ hU⟩;simp only[Instr.indexAt,asIntOf];simp[run_underlying hu,hC.1,hC.2,aL B,dr,Qo]
theorem BT{t u:TypeId}{A:bE}(hu:P.underlying t=io (.slice u))(B:aj P u A){m:Nat}{el:Nat->List IV}{ka kb:IntKind}{na nb:Int}{q:PV}{C:Prop}{x:Value}(Y:VR M N U (.iv (.ct A.size m el)) x)
    (h:io (PV.iv (.ct A.size (nb.toNat-na.toNat) (fun k=>el (na.toNat+k))),0<=na∧na<=nb∧nb<=m)=io (q,C)) (hC:C): ∃y,(Instr.sliceAt t x (io (.int ka na)) (io (.int kb nb)) is).run P w= .ok y w∧VR M N U q y:=by
  simp only[Ph,Pt]at h;obtain⟨rfl,rfl⟩:=h;obtain⟨I,h1,h2⟩:=hC;have hb:(nb.toNat:Int)=nb:=RZ (by omega);cases Y with
  | iv _ _ hi=>
    cases hi with
    | fp sz el a cap=>
      have D:na=0:=by omega
      have G:nb=0:=by omega
      subst D;subst G;refine⟨.slice (if cap=0 then a else a.map (·.add (0*A.size))) 0 cap,?_,.iv _ _ (.fp _ _ _ _)⟩;simp[Instr.sliceAt,Instr.slice,Instr.sliceBounds,Instr.sliceBound,asIntOf,run_underlying hu,aL B]
    | ct sz m el b off cap hn hc hl hm hr=>
      refine⟨.slice (if cap=na.toNat then io ⟨b,off,is⟩ else(io (⟨b,off,is⟩:Addr)).map (·.add (na.toNat*A.size))) (nb.toNat-na.toNat) (cap-na.toNat),?_,?_⟩
      · have g1:nb<=(cap:Int):=by omega
        have g2:na<=(nb.toNat:Int):=by omega
        simp[Instr.sliceAt,Instr.slice,Instr.sliceBounds,Instr.sliceBound,asIntOf,run_underlying hu,aL B,I,g1,(by omega:0<=nb)];intro hh;omega
      · by_cases hz:nb.toNat-na.toNat=0
        · rw[hz];exact .iv _ _ (.fp _ _ _ _)
        · rw[be (by omega),Qt,dr]
          refine .iv _ _ (IR.ct (sz:=A.size) (n:=nb.toNat-na.toNat) (el:=fun k=>el (na.toNat+k)) (b:=b) (off:=off+na.toNat*A.size) (cap:=cap-na.toNat) (by omega) (by omega) (fun k hk=>hl _ (by omega)) (fun k j hk J=>?_) (fun k j p hk R=>?_))
          · have:=hm (na.toNat+k) j (by omega) J
            rwa[Qo,<-QY]at this
          · have:=hr (na.toNat+k) j p (by omega) R
            rwa[Qo,<-QY]at this
theorem BS{t u:TypeId}{A:bE}(hu:P.underlying t=io (.slice u))(B:aj P u A){m:Nat}{el:Nat->List IV}{ka:IntKind}{na:Int}{q:PV}{C:Prop}{x:Value}(R:VR M N U (.iv (.ct A.size m el)) x)
    (h:io (PV.iv (.ct A.size (m-na.toNat) (fun k=>el (na.toNat+k))),0<=na∧na<=m)=io (q,C)) (hC:C): ∃y,(Instr.sliceAt t x (io (.int ka na)) is is).run P w= .ok y w∧VR M N U q y:=by
  simp only[Ph,Pt]at h;obtain⟨rfl,rfl⟩:=h;obtain⟨G,h1⟩:=hC;cases R with
  | iv _ _ hi=>
    cases hi with
    | fp sz el a cap=>
      have D:na=0:=by omega
      subst D;refine⟨.slice (if cap=0 then a else a.map (·.add (0*A.size))) 0 cap,?_,.iv _ _ (.fp _ _ _ _)⟩;simp[Instr.sliceAt,Instr.slice,Instr.sliceBounds,Instr.sliceBound,asIntOf,run_underlying hu,aL B]
    | ct sz m el b off cap hn hc hl hm hr=>
      refine⟨.slice (if cap=na.toNat then io ⟨b,off,is⟩ else(io (⟨b,off,is⟩:Addr)).map (·.add (na.toNat*A.size))) (m-na.toNat) (cap-na.toNat),?_,?_⟩
      · simp[Instr.sliceAt,Instr.slice,Instr.sliceBounds,Instr.sliceBound,asIntOf,run_underlying hu,aL B,G,h1]
      · by_cases Y:m-na.toNat=0
        · rw[Y];exact .iv _ _ (.fp _ _ _ _)
        · rw[be (by omega),Qt,dr]
          refine .iv _ _ (IR.ct (sz:=A.size) (n:=m-na.toNat) (el:=fun k=>el (na.toNat+k)) (b:=b) (off:=off+na.toNat*A.size) (cap:=cap-na.toNat) (by omega) (by omega) (fun k hk=>hl _ (by omega)) (fun k j hk I=>?_) (fun k j p hk J=>?_))
          · have:=hm (na.toNat+k) j (by omega) I
            rwa[Qo,<-QY]at this
          · have:=hr (na.toNat+k) j p (by omega) J
            rwa[Qo,<-QY]at this
theorem yR{t u:TypeId}{A:bE}(hu:P.underlying t=io (.slice u))(B:aj P u A){m:Nat}{el:Nat->List IV}{kb kc:IntKind}{nb nc:Int}{q:PV}{C:Prop}{x:Value}(hx:VR M N U (.iv (.ct A.size m el)) x)
    (h:io (PV.iv (.ct A.size nb.toNat el),0<=nb∧nb<=nc∧nc<=m)=io (q,C)) (hC:C): ∃y,(Instr.sliceAt t x is (io (.int kb nb)) (io (.int kc nc))).run P w= .ok y w∧VR M N U q y:=by
  simp only[Ph,Pt]at h;obtain⟨rfl,rfl⟩:=h;obtain⟨I,h1,h2⟩:=hC;have hb:(nb.toNat:Int)=nb:=RZ (by omega);have J:(nc.toNat:Int)=nc:=RZ (by omega);cases hx with
  | iv _ _ hi=>
    cases hi with
    | fp sz el a cap=>
      have D:nb=0:=by omega
      have G:nc=0:=by omega
      subst D;subst G;refine⟨.slice a 0 0,?_,.iv _ _ (.fp _ _ _ _)⟩;simp[Instr.sliceAt,Instr.slice,Instr.sliceBounds,Instr.sliceBound,asIntOf,run_underlying hu,aL B]
    | ct sz m el b off cap hn hc hl hm hr=>
      refine⟨.slice (if nc.toNat=0 then io ⟨b,off,is⟩ else(io (⟨b,off,is⟩:Addr)).map (·.add (0*A.size))) nb.toNat nc.toNat,?_,?_⟩
      · have g1:nc<=(cap:Int):=by omega
        have g2:nb<=(nc.toNat:Int):=by omega
        simp[Instr.sliceAt,Instr.slice,Instr.sliceBounds,Instr.sliceBound,asIntOf,run_underlying hu,aL B,I,g1,(by omega:0<=nc)];intro hh;omega
      · by_cases hz:nb.toNat=0
        · rw[hz];exact .iv _ _ (.fp _ _ _ _)
        · rw[be (by omega),Qt,dr,Ru,Rl]
          exact .iv _ _ (IR.ct (sz:=A.size) (n:=nb.toNat) (el:=el) (b:=b) (off:=off) (cap:=nc.toNat) (by omega) (by omega) (fun k hk=>hl _ (by omega)) (fun k j hk R=>hm k j (by omega) R) (fun k j p hk Y=>hr k j p (by omega) Y))
theorem xf{t:TypeId}(hu:P.underlying t=io .string){b:ByteArray}{ka kb:IntKind}{na nb:Int}(hC:0<=na∧na<=nb∧nb<=b.size):
    (Instr.sliceAt t (.string b) (io (.int ka na)) (io (.int kb nb)) is).run P w= .ok (.string (b.extract na.toNat nb.toNat)) w:=by
  obtain⟨j,h1,u⟩:=hC;have hb:(nb.toNat:Int)=nb:=RZ (by omega);have g2:na<=(nb.toNat:Int):=by omega
  simp[Instr.sliceAt,Instr.slice,Instr.sliceBounds,Instr.sliceBound,asIntOf,run_underlying hu,j,u,(by omega:0<=nb)];intro hh;omega
end
end
end Go.Al
namespace Go.Al
open Go.MapKept
section
section
variable {P:Program} {ty:Ty} {M:Mem} {N:Nm} {U:Nat->Prop} {w:World}
theorem fV{t:TypeId}{F:Array Field}(h:P.underlying t=io (.struct F)):P.fieldsOf t=F:=by
  simp[Program.fieldsOf,h]
theorem cj {t:TypeId} {F:Array Field} (h:P.underlying t=io (.struct F)) (h1:P.stoodInHeld t=kw) (j:P.eqGuardType P.depth t=kw) (u:(F.toList.all fun f=>f.name != "_")=jp):N9 P t:=
  ⟨h1,j,fun f b=>by
    rw[fV h]at b;have:=P4.1 u f b
    simpa using this⟩
theorem Bp(j:bx P ty){f:TypeId->PV->PV->Option Bool}{D:Nat}(hf: ∀u p q b,f u p q=io b-> ∀x y,VR M N U p x->VR M N U q y->(Op.equalIn D u x y).run P w= .ok b w)
    {cs ds:List PV} {xs ys:Array Value} (hx:VR M N U (.agg cs) (.agg xs)) (hy:VR M N U (.agg ds) (.agg ys)):
    ∀(F:List Field) (b:Bool),(∀g∈F,g.name≠ "_")->CF f ty (F.map fun g=>(g.offset,g.type)) cs ds=io b->(Op.eqFields D xs ys F).run P w= .ok b w
  | [],b,_,h=>by simp only[Qb,CF,Ph]at h;subst h;simp[Op.eqFields]
  | g::F,b,hn,h=>by
    simp only[Py,CF]at h;split at h
    · rename_i eu A
      split at h
      · rename_i p q hp hq
        split at h
        · rename_i b1 b2 h1 h2
          simp only[Ph]at h;subst h;obtain⟨_,B,C,G⟩:=hx.iN;cases B;obtain⟨_,R,Y,a0⟩:=hy.iN;cases R;obtain⟨x,I,J⟩:=gW (P:=P) (w:=w) (j _ _ A) C G hp;obtain⟨y,b0,c0⟩:=gW (P:=P) (w:=w) (j _ _ A) Y a0 hq;have h3:=hf _ _ _ _ h1 x y J c0;have h4:=Bp j hf hx hy F b2 (fun g hg=>hn g (Pu _ hg)) h2;simp only[Op.eqFields,am (hn g Pv),Sem.run_bind,I,b0,h3,Result.andThen_ok];cases b1 with
          |false=>simp
          |true=>simpa using h4
        · cases h
      · cases h
    · cases h
theorem zQ(j:bx P ty): ∀(d:Nat) (t:TypeId) (p q:PV) (b:Bool),CG ty d t p q=io b-> ∀x y,VR M N U p x->VR M N U q y-> ∀m,(Op.equalIn (d+m) t x y).run P w= .ok b w
  |0,_,_,_,_,h,_,_,_,_,_=>by simp[CG]at h
  | d+1,t,p,q,b,h,x,y,A,B,m=>by
    rw[show d+1+m=(d+m)+1 by omega];simp only[CG]at h;split at h
    · rename_i k _ _ _ _ C
      have hu:=(j t _ C).2.1.1;split at h
      · split at h
        · simp only[Ph]at h
          subst h;cases A with
          | iv _ _ A => cases A
                        cases B with
                        | iv _ _ B => cases B
                                      rename_i e;subst e;rw[run_equalIn_int _ _ _ _ _ _ _ hu];congr 1
        · cases h
      · cases h
    · rename_i _ _ _ _ C
      have hu:=(j t _ C).2.1.1;split at h
      · simp only[Ph]at h
        subst h;cases A with
        | iv _ _ A => cases A
                      cases B with
                      | iv _ _ B => cases B
                                    rw[run_equalIn_string _ _ _ _ _ hu,r7]
      · cases h
    · rename_i _ _ _ _ C
      have hu:=(j t _ C).2.1.1;split at h
      · simp only[Ph]at h
        subst h;cases A with
        | iv _ _ A => cases A
                      cases B with
                      |iv _ _ B=>cases B;rw[run_equalIn_bool' _ _ _ _ _ hu]
      · cases h
    · rename_i Y _ _ _ C
      obtain⟨_,⟨F,hu,hF⟩,J⟩:=j t _ C;obtain⟨I,R,G⟩:=J Z;split at h
      · obtain⟨xs,rfl,_,_⟩:=A.iN
        obtain⟨ys,rfl,_,_⟩:=B.iN;have D:=fV hu;rw[run_equalIn_struct _ _ _ _ _ (by rw[D];exact hu) I,D];rw[D]at G;refine Bp j (f:=CG ty d) (fun u p q b hb x y A B=>zQ j d u p q b hb x y A B m) A B _ _ G ?_;rw[hF];exact h
      · cases h
    · cases h
theorem FH(B:bx P ty){t:TypeId}{op:BinOp}{cs D:List PV}{r:PV}{C:Prop}{u v:Operand}{x y:Value}(h:BF ty t op (.agg cs) (.agg D)=io (r,C))(I:VR M N U (.agg cs) x)(J:VR M N U (.agg D) y):
    C∧ ∃z,(do eqGuard op t u v x y;binOp op t x y:Sem Value).run P w= .ok z w∧VR M N U r z:=by
  have key: ∀b,CG ty 10 t (.agg cs) (.agg D)=io b-> ∃j A,x= .agg j∧y= .agg A∧P.eqGuardType P.depth t=kw∧(Op.equalIn 10000 t (.agg j) (.agg A)).run P w= .ok b w:=by
    intro b hb;have h1:=zQ (P:=P) (w:=w) B 10 t _ _ b hb x y I J 9990;obtain⟨j,rfl,_,_⟩:=I.iN;obtain⟨A,rfl,_,_⟩:=J.iN;refine⟨j,A,rfl,rfl,?_,h1⟩;simp only[CG]at hb;split at hb
    · cases hb
    · cases hb
    · cases hb
    · rename_i R
      exact((B t _ R).2.2 Z).2.1
    · cases hb
  unfold BF at h;split at h
  · split at h
    · rename_i b hb
      simp only[Ph,Pt]at h;obtain⟨rfl,rfl⟩:=h;obtain⟨j,A,rfl,rfl,h1,G⟩:=key b hb;refine⟨ac,.bool b,?_,.iv _ _ (.v _)⟩;rw[Sem.run_bind,run_eqGuard_agg _ _ _ _ _ _ _ h1,Result.andThen_ok,run_eql_struct,G];rfl
    · cases h
  · split at h
    · rename_i b hb
      simp only[Ph,Pt]at h;obtain⟨rfl,rfl⟩:=h;obtain⟨j,A,rfl,rfl,h1,G⟩:=key b hb;refine⟨ac,.bool (!b),?_,.iv _ _ (.v _)⟩;rw[Sem.run_bind,run_eqGuard_agg _ _ _ _ _ _ _ h1,Result.andThen_ok,run_neq_struct,G];rfl
    · cases h
  · cases h
theorem uN(kc:KC)(k:kc.K):VR M N U (kc.pk k) (kc.ek k):=by
  cases kc with
  |str=>exact .iv _ _ (.v _)
  |int k=>exact .iv _ _ (.v _)
  | si j=>
    refine .agg _ _ (by rfl) fun i p b=>?_
    match i with
    |0=>simp at b;subst b;exact .iv _ _ (.v _)
    |1=>simp at b;subst b;exact .iv _ _ (.v _)
    |i+2=>simp at b
  | fl s=>
    refine .agg _ _ (by simp) fun i p b=>?_;rw[Pp,Pr]at b;obtain⟨v,u,rfl⟩:=b;have:((FK.vs s k).toArray).getD i undef=v:=by simp[Pg,u]
    rw[this];exact .iv _ _ (.v _)
theorem D0: ∀{s:FS} {cs:List PV} {k:FK s} {ys:List Value},FK.rd s cs=io k->cs.length=ys.length->(∀j q,cs[j]? =io q->VR M N U q (ys.getD j undef))->ys=FK.vs s k
  | [],cs,k,ys,h,hl,hr=>by
    unfold FK.rd at h;split at h
    · match ys,hl with
      | [],_=>rfl
    · cases h
  | none::r,cs,k,ys,h,hl,hr=>by
    unfold FK.rd at h;split at h
    · rename_i a x
      split at h
      · rename_i A hk
        simp only[Ph]at h;subst h
        match ys,hl with
        | y::ys,hl=>
          have b:=hr 0 _ Z;have h1:=D0 hk (by simpa using hl) fun j q u=>by simpa using hr (j+1) q (by simpa using u)
          rw[Rs]at b;cases b with
          |iv _ _ b=>cases b;simp only[FK.vs,h1]
      · cases h
    · cases h
  | some q::r,cs,k,ys,h,hl,hr=>by
    unfold FK.rd at h;split at h
    · rename_i j n x
      split at h
      · rename_i A u hk
        have u:=of_decide_eq_true u;subst u;simp only[Ph]at h;subst h
        match ys,hl with
        | y::ys,hl=>
          have b:=hr 0 _ Z;have h1:=D0 hk (by simpa using hl) fun j q u=>by simpa using hr (j+1) q (by simpa using u)
          rw[Rs]at b;cases b with
          |iv _ _ b=>cases b;simp only[FK.vs,h1]
      · cases h
    · cases h
theorem Bt{kc:KC}{p:PV}{k:kc.K}{x:Value}(h:kc.dk p=io k)(u:VR M N U p x):x=kc.ek k:=by
  cases kc with
  | str=>
    simp only[KC.dk]at h;split at h
    · simp only[Ph]at h
      subst h;cases u with
      |iv _ _ u=>cases u;rfl
    · cases h
  | int j=>
    simp only[KC.dk]at h;split at h
    · split at h
      · rename_i e
        subst e;simp only[Ph]at h;subst h;cases u with
        |iv _ _ u=>cases u;rfl
      · cases h
    · cases h
  | si j=>
    simp only[KC.dk]at h;split at h
    · split at h
      · rename_i e
        subst e;simp only[Ph]at h;subst h;obtain⟨ys,rfl,h1,y⟩:=u.iN;have g0:=y 0 _ Z;have g1:=y 1 _ Z;obtain⟨ys⟩:=ys
        match ys,h1 with
        | [a,b],_=>
          simp at g0 g1;cases g0 with
          | iv _ _ g0=>
            cases g1 with
            |iv _ _ g1=>cases g0;cases g1;rfl
      · cases h
    · cases h
  | fl s=>
    simp only[KC.dk]at h;split at h
    · obtain⟨ys,rfl,h1,y⟩:=u.iN
      have:=D0 (ys:=ys.toList) h (by simpa using h1) fun j q A=>by
        have:=y j q A;rwa[Pg,<-PN,<-Pk]at this
      show Value.agg ys=Value.agg (FK.vs s k).toArray;rw[<-this]
    · cases h
theorem qG{j:TypeId}(b:bx P ty)(h:di ty j=io .str):P.underlying j=io .string:=by
  unfold di at h;split at h
  · rename_i u;exact(b _ _ u).2.1.1
  · cases h
  · split at h<;>cases h
  · split at h<;>cases h
  · cases h
theorem qH{j:TypeId}{k:IntKind}(b:bx P ty)(h:di ty j=io (.int k)):P.underlying j=io (.int k):=by
  unfold di at h;split at h
  · cases h
  · rename_i u;simp only[Ph,KC.int.injEq]at h;subst h;exact(b _ _ u).2.1.1
  · split at h<;>cases h
  · split at h<;>cases h
  · cases h
def okV:Option IntKind->Value->Prop
  |none,v=> ∃a,v= .string a
  |some q,v=> ∃n,v= .int q n
def tP:FS->List Value->Prop
  | [],[]=>True
  |o::s,v::l=>okV o v∧tP s l
  |_,_=>False
theorem tP.length: ∀{s:FS} {l:List Value},tP s l->l.length=s.length
  | [],[],_=>rfl
  |_::s,_::l,h=>by simp[tP.length h.2]
  | [],_::_,h=>h.elim
  |_::_,[],h=>h.elim
theorem tP.split: ∀{s q:FS} {l:List Value},tP (s++q) l-> ∃a b,l=a++b∧tP s a∧tP q b
  | [],_,l,h=>⟨[],l,rfl,ac,h⟩
  | o::s,q,v::l,h=>by
    obtain⟨a,b,h1,j,u⟩:=tP.split (s:=s) h.2;exact⟨v::a,b,by rw[h1];rfl,⟨h.1,j⟩,u⟩
  |_::_,_,[],h=>h.elim
theorem j4: ∀(s:FS) (k:FK s),tP s (FK.vs s k)
  | [],_=>trivial
  |none::r,k=>⟨⟨_,rfl⟩,j4 r k.2⟩
  |some q::r,k=>⟨⟨_,rfl⟩,j4 r k.2⟩
theorem yK: ∀{s:FS} {a b:FK s},FK.vs s a=FK.vs s b->a=b
  | [],_,_,_=>rfl
  | none::r,a,b,h=>by
    simp only[FK.vs,Sx,Value.string.injEq]at h;exact Prod.ext h.1 (yK h.2)
  | some q::r,a,b,h=>by
    simp only[FK.vs,Sx,Value.int.injEq,true_and]at h;exact Prod.ext h.1 (yK h.2)
def En(e:bE)(l:List Value):Value:=match e.k.agg with
  |true=> .agg l.toArray
  |false=>l.headD undef
theorem iP{u:TypeId}{e:bE}(he:aj P u e)(hn:e.k.agg=kw->e.size=1)(a0 a b:List Value)(ha:a.length=e.size):(part u (a0++(a++b)).toArray a0.length).run P w= .ok (En e a) w:=by
  cases hk:e.k.agg with
  | true=>
    have:(a0++(a++b)).toArray.extract a0.length (a0.length+e.size)=a.toArray:=by
      apply Array.ext';rw[<-ha];simp
    simp only[part,eK he,hk,aL he,En,this,Sem.run_bind,Result.andThen_ok,if_true,Sem.run_pure]
  | false=>
    have h1:=hn hk
    match a,ha with
    | [],h=>rw[h1]at h;cases h
    | [v],_=>simp[part,eK he,hk,En]
    |_::_::_,h=>rw[h1]at h;simp at h
def wW(P:Program)(ty:Ty)(d:Nat)(t:TypeId)(s:FS):Prop:=
  ∃e,ty t=io e∧e.size=s.length∧(e.k.agg=kw->e.size=1)∧(∀(w:World) a b,tP s a->tP s b-> ∀D,∃r:Bool,(Op.equalIn (d+D) t (En e a) (En e b)).run P w= .ok r w∧(r=jp↔a=b))∧ ∀(w:World) a,tP s a-> ∀j D,(Instr.checkKey j (d+D) t (En e a)).run P w= .ok () w
theorem vk(A:bx P ty){f:TypeId->Option FS}{d:Nat}(hf: ∀u s,f u=io s->wW P ty d u s)(D:Nat): ∀(F:List Field) (q:FS) (j x a b:List Value),j.length=x.length->(∀g∈F,g.name≠ "_")->og f (F.map fun g=>(g.offset,g.type)) j.length=io q->tP q a->tP q b->
    ∃r:Bool,(Op.eqFields (d+D) (j++a).toArray (x++b).toArray F).run P w= .ok r w∧(r=jp↔a=b)
  | [],q,_,_,a,b,_,_,h,ha,hb=>by
    simp only[Qb,og,Ph]at h;subst h
    match a,b,ha,hb with
    | [],[],_,_=>exact⟨jp,by simp[Op.eqFields],by simp⟩
  | g::F,q,j,x,a,b,hp,hn,h,ha,hb=>by
    simp only[Py,og]at h;split at h
    · rename_i s ho hs
      have ho:=PC ho;split at h
      · rename_i q' hq
        simp only[Ph]at h;subst h;obtain⟨B,a2,rfl,G,R⟩:=ha.split;obtain⟨C,J,rfl,I,Y⟩:=hb.split;obtain⟨e,he,b0,y,a0,_⟩:=hf _ _ hs;have la:=G.length;have lb:=I.length;have p1:=iP (P:=P) (w:=w) (A _ _ he) y j B a2 (by omega);have p2:=iP (P:=P) (w:=w) (A _ _ he) y x C J (by omega);obtain⟨r2,ih,i2⟩:=vk A hf D F q' (j++B) (x++C) a2 J (by simp[hp,la,lb]) (fun g hg=>hn g (Pu _ hg)) (by rw[Pn,la];exact hq) R Y;simp only[PH]at ih;simp only[Op.eqFields,am (hn g Pv),Sem.run_bind,ho,p1,Result.andThen_ok];rw[hp,p2];obtain⟨r1,j1,j2⟩:=a0 w B C G I D;simp only[Result.andThen_ok,j1];have hd:B++a2=C++J↔B=C∧a2=J:=⟨fun h=>S0 h (by omega),fun h=>by rw[h.1,h.2]⟩
        cases r1 with
        |true=>exact⟨r2,by simpa using ih,by rw[hd,i2];exact⟨fun h=>⟨j2.1 Z,h⟩,fun h=>h.2⟩⟩
        |false=>exact⟨kw,by simp,by rw[hd];exact⟨(fun h=>nomatch h),fun h=>j2.2 h.1⟩⟩
      · cases h
    · cases h
theorem vj(B:bx P ty){d:Nat}{u:TypeId}{s:FS}(hf:wW P ty d u s)(D c:Nat)(hc:c=s.length): ∀(m j:Nat) (x y a b:List Value),x.length=j*c->y.length=j*c->tP (y2 s m) a->tP (y2 s m) b->
    ∃r:Bool,(Op.eqItems (d+D) u c (x++a).toArray (y++b).toArray (List.range' j m)).run P w= .ok r w∧(r=jp↔a=b)
  | 0,j,_,_,a,b,_,_,ha,hb=>by
    match a,b,ha,hb with
    | [],[],_,_=>exact⟨jp,by simp[Op.eqItems],by simp⟩
  | m+1,j,x,y,a,b,h1,h2,ha,hb=>by
    obtain⟨C,a2,rfl,I,Y⟩:=tP.split ha;obtain⟨G,R,rfl,J,a0⟩:=tP.split hb;obtain⟨e,he,c0,A,b0,_⟩:=id hf;have la:=I.length;have lb:=J.length;have p1:=iP (P:=P) (w:=w) (B _ _ he) A x C a2 (by omega);have p2:=iP (P:=P) (w:=w) (B _ _ he) A y G R (by omega);obtain⟨r2,ih,i2⟩:=vj B hf D c hc m (j+1) (x++C) (y++G) a2 R (by rw[Pn,h1,la,QZ,hc]) (by rw[Pn,h2,lb,QZ,hc]) Y a0;simp only[PH]at ih;rw[SR];rw[h1]at p1;rw[h2]at p2;obtain⟨r1,j1,j2⟩:=b0 w C G I J D;simp only[Op.eqItems,Sem.run_bind,p1,p2,Result.andThen_ok,j1];have hd:C++a2=G++R↔C=G∧a2=R:=⟨fun h=>S0 h (by omega),fun h=>by rw[h.1,h.2]⟩
    cases r1 with
    |true=>exact⟨r2,by simpa using ih,by rw[hd,i2];exact⟨fun h=>⟨j2.1 Z,h⟩,fun h=>h.2⟩⟩
    |false=>exact⟨kw,by simp,by rw[hd];exact⟨(fun h=>nomatch h),fun h=>j2.2 h.1⟩⟩
theorem z6(b:bx P ty){u:TypeId}{e:bE}(he:ty u=io e): ∃i,P.info? u=io i∧P.cellsOf u=e.size:=by
  obtain⟨⟨i,j,hs,_⟩,_⟩:=b _ _ he;exact⟨i,j,by simp[Program.cellsOf,j,hs]⟩
theorem wG(A:bx P ty): ∀(d:Nat) (t:TypeId) (s:FS),tc ty d t=io s->wW P ty d t s
  |0,_,_,h=>by simp[tc]at h
  | d+1,t,s,h=>by
    have key:=fun u s=>wG A d u s;unfold tc at h;split at h
    · rename_i _ _ _ C
      simp only[Ph]at h;subst h;have hu:=(A _ _ C).2.1.1;refine⟨_,C,rfl,fun _=>rfl,fun w a b G hb D=>?_,fun w a G em D=>?_⟩
      · match a,b,G,hb with
        | [_],[_],⟨⟨x,rfl⟩,_⟩,⟨⟨y,rfl⟩,_⟩=>
          simp only[En,TK.agg,Se];rw[show d+1+D=(d+D)+1 by omega,run_equalIn_string _ _ _ _ _ hu,r7];exact⟨_,rfl,by simp⟩
      · match a,G with
        | [_],⟨⟨x,rfl⟩,_⟩=>
          simp only[En,TK.agg,Se];rw[show d+1+D=(d+D)+1 by omega];exact run_checkKey hu (by simp[IsKey]) _ _
    · rename_i q _ _ _ C
      simp only[Ph]at h;subst h;have hu:=(A _ _ C).2.1.1;refine⟨_,C,rfl,fun _=>rfl,fun w a b G hb D=>?_,fun w a G em D=>?_⟩
      · match a,b,G,hb with
        | [_],[_],⟨⟨x,rfl⟩,_⟩,⟨⟨y,rfl⟩,_⟩=>
          simp only[En,TK.agg,Se];rw[show d+1+D=(d+D)+1 by omega,run_equalIn_int _ _ _ _ _ _ _ hu];exact⟨_,rfl,by simp⟩
      · match a,G with
        | [_],⟨⟨x,rfl⟩,_⟩=>
          simp only[En,TK.agg,Se];rw[show d+1+D=(d+D)+1 by omega];exact run_checkKey hu (by simp[IsKey]) _ _
    · rename_i fs n _ _ C
      split at h
      · rename_i s' hs
        split at h
        · rename_i J
          simp only[Ph]at h;subst h;have hl:=PC J;obtain⟨F,h1,h2⟩:=(A _ _ C).2.1;obtain⟨q1,_,q3⟩:=(A _ _ C).2.2 Z;rw[fV h1]at q3;refine⟨_,C,hl.symm,(fun h=>nomatch h),fun w a b G hb D=>?_,fun w a G em D=>?_⟩
          · have h3:=vk (w:=w) A key D F.toList s' [] [] a b Z q3 (by rw[h2];exact hs) G hb
            simp only[Rc]at h3;show∃r:Bool,(Op.equalIn (d+1+D) t (.agg a.toArray) (.agg b.toArray)).run P w= .ok r w∧_;rw[show d+1+D=(d+D)+1 by omega,run_equalIn_struct w (d+D) t _ _ (by rw[fV h1];exact h1) q1,fV h1];exact h3
          · show(Instr.checkKey em (d+1+D) t (.agg a.toArray)).run P w=_
            rw[show d+1+D=(d+D)+1 by omega,Instr.checkKey];simp only[Sem.run_bind,run_underlying h1,Result.andThen_ok];rw[<-Array.forIn_toList];obtain⟨a0,hp⟩: ∃a0:List Value,a0=[]:=⟨[],rfl⟩
            rw[show a.toArray=(a0++a).toArray by rw[hp];rfl];have B:og (tc ty d) (F.toList.map fun g=>(g.offset,g.type)) a0.length=io s':=by rw[h2,hp];exact hs
            clear hs hp h2 h1 hl J C;generalize F.toList=L at B q3
            induction L generalizing a0 a s' with
            |nil=>simp
            | cons g L Y=>
              simp only[Py,og]at B;split at B
              · rename_i s1 ho k0
                have ho:=PC ho;split at B
                · rename_i q' hq
                  simp only[Ph]at B;subst B;obtain⟨a1,a2,rfl,I,c0⟩:=tP.split G;obtain⟨e,C,f0,R,_,d0⟩:=key _ _ k0;have la:=I.length;have p1:=iP (P:=P) (w:=w) (A _ _ C) R a0 a1 a2 (by omega);have Y:=Y q' a2 c0 (a0++a1) (by rw[Pn,la];exact hq) (fun g hg=>q3 g (Pu _ hg));simp only[PH]at Y;simp only[S1,Sem.run_bind,ho,q3 g Pv,ne_eq,not_false_eq_true,if_true,Result.andThen_ok,p1,d0 w a1 I em D,Sem.run_pure];exact Y
                · cases B
              · cases B
        · cases h
      · cases h
    · rename_i n u m _ _ _ C
      split at h
      · rename_i s' hs
        split at h
        · rename_i J
          simp only[Ph]at h;subst h;have hl:=PC J;have h1:P.underlying t=io (.array n u):=(A _ _ C).2.1;have hf:=key u s' hs;obtain⟨e,b0,f0,_,_,_⟩:=id hf;obtain⟨i,hi,i0⟩:=z6 A b0;have e0: ∀n,(y2 s' n).length=n*s'.length:=fun n=>by
            induction n with
            |zero=>simp[y2]
            |succ n Y=>simp only[y2,Pn,Y,QZ];omega
          refine⟨_,C,by rw[e0];exact hl.symm,(fun h=>nomatch h),fun w a b G hb D=>?_,fun w a G em D=>?_⟩
          · have h3:=vj (w:=w) A hf D (P.cellsOf u) (by rw[i0,f0]) n 0 [] [] a b (by simp) (by simp) G hb
            simp only[Rc]at h3;show∃r:Bool,(Op.equalIn (d+1+D) t (.agg a.toArray) (.agg b.toArray)).run P w= .ok r w∧_;rw[show d+1+D=(d+D)+1 by omega,run_equalIn_array w (d+D) _ _ h1 hi,List.range_eq_range'];exact h3
          · show(Instr.checkKey em (d+1+D) t (.agg a.toArray)).run P w=_
            rw[show d+1+D=(d+D)+1 by omega,Instr.checkKey];simp only[Sem.run_bind,run_underlying h1,Result.andThen_ok];simp only[Std.Legacy.Range.forIn_eq_forIn_range',Std.Legacy.Range.size,RX,Nat.add_one_sub_one,Nat.div_one];obtain⟨e',j0,m0,R,_,d0⟩:=id hf;have:e'=e:=P7 (j0.symm.trans b0);subst this;obtain⟨a0,hp,g0⟩: ∃a0:List Value,a0.length=0*e'.size∧a.toArray=(a0++a).toArray:=⟨[],by simp,rfl⟩
            rw[g0];clear g0;clear hl J h1 C;generalize 0=j at hp ⊢
            induction n generalizing j a0 a with
            |zero=>simp
            | succ n Y=>
              obtain⟨a1,a2,rfl,I,c0⟩:=tP.split G;have la:=I.length;have p1:=iP (P:=P) (w:=w) (A _ _ b0) R a0 a1 a2 (by omega);have Y:=Y a2 c0 (a0++a1) (j+1) (by rw[Pn,hp,la,QZ,f0]);simp only[PH]at Y;rw[SR];rw[hp]at p1;simp only[S1,Sem.run_bind,aL (A _ _ b0),Result.andThen_ok,p1,d0 w a1 I em D,Sem.run_pure];exact Y
        · cases h
      · cases h
    · cases h
theorem EW{j:TypeId}{s:FS}(b:bx P ty)(h:di ty j=io (.fl s)):(∃F,P.underlying j=io (.struct F))∧ ∃e,e.k.agg=jp∧wW P ty 6 j s∧ty j=io e:=by
  unfold di at h;split at h
  · cases h
  · cases h
  · split at h<;>cases h
  · rename_i u
    split at h
    · rename_i s' hs
      simp only[Ph,KC.fl.injEq]at h;subst h;obtain⟨F,h1,_⟩:=(b _ _ u).2.1;exact⟨⟨F,h1⟩,_,rfl,wG b 6 j s' hs,u⟩
    · cases h
  · cases h
theorem yu{kc:KC}{u:TypeId}(x:bx P ty)(h:di ty u=io kc)(a b:kc.K):(Op.equal u (kc.ek a) (kc.ek b)).run P w= .ok (lc (a=b)) w:=by
  have key: ∀(r:Bool),CG ty 10 u (kc.pk a) (kc.pk b)=io r->(Op.equal u (kc.ek a) (kc.ek b)).run P w= .ok r w:=fun r D=>
    zQ (M:=Mem.base) (N:=⟨fun _=>0,fun _=>0⟩) (U:=fun _=>True) x 10 u _ _ r D _ _ (uN kc a) (uN kc b) 9990
  unfold di at h;split at h
  · rename_i j
    simp only[Ph]at h;subst h;refine key _ ?_;simp[CG,j,KC.pk]
  · rename_i j
    simp only[Ph]at h;subst h;refine key _ ?_;simp[CG,j,KC.pk]
  · rename_i j
    split at h
    · rename_i C hb
      simp only[Ph]at h;subst h;refine key _ ?_;obtain⟨I,a2⟩:=a;obtain⟨J,R⟩:=b;simp[CG,CF,j,C,hb,KC.pk,fI,TK.agg,ja]
    · cases h
  · rename_i Y j
    split at h
    · rename_i s hs
      simp only[Ph]at h;subst h;obtain⟨e,y,G,_,A,_⟩:=wG x 6 u s hs;have:e=_:=P7 (y.symm.trans j);subst this;obtain⟨r,h1,B⟩:=A w (FK.vs s a) (FK.vs s b) (j4 s a) (j4 s b) 9994;have hd:r=lc (a=b):=by
        rw[QJ,B,decide_eq_true_iff];exact⟨yK,fun h=>by rw[h]⟩
      rw[<-hd];exact h1
    · cases h
  · cases h
def ji(kc:KC){V:Type}:List (kc.K×V)->kc.K->Option Nat
  | [],_=>is
  |(a,_)::r,k=>if a=k then io 0 else(ji kc r k).map (· +1)
section
variable {kc:KC} {V:Type}
theorem kE: ∀{m:List (kc.K×V)} {k:kc.K} {i:Nat},ji kc m k=io i-> ∃v,m[i]? =io (k,v)∧(∀z,dt kc m k z=v)∧cU kc m k=jp∧(∀u,cA kc m k u=m.set i (k,u))∧jw kc m k=m.eraseIdx i
  | [],_,_,h=>by simp[ji]at h
  | (a,b)::r,k,i,h=>by
    simp only[ji]at h;split at h
    · rename_i e
      simp only[Ph]at h;subst h;subst e;exact⟨b,rfl,fun z=>by simp[dt],by simp[cU],fun u=>by simp[cA],by simp[jw]⟩
    · rename_i e
      obtain⟨j,C,rfl⟩:=Pr.1 h;obtain⟨v,h1,x,y,A,B⟩:=kE C;exact⟨v,by simpa using h1,fun z=>by simp[dt,e,x],by simp[cU,e,y],fun u=>by simp[cA,e,A],by simp[jw,e,B]⟩
theorem mM: ∀{m:List (kc.K×V)} {k:kc.K},ji kc m k=is->(∀z,dt kc m k z=z)∧cU kc m k=kw∧(∀j,cA kc m k j=m++ [(k,j)])∧jw kc m k=m
  | [],_,_=>⟨fun z=>rfl,rfl,fun v=>rfl,rfl⟩
  | (a,b)::r,k,h=>by
    simp only[ji]at h;split at h
    · cases h
    · rename_i e
      obtain⟨u,x,y,A⟩:=mM (RJ.1 h);exact⟨fun z=>by simp[dt,e,u],by simp[cU,e,x],fun j=>by simp[cA,e,y],by simp[jw,e,A]⟩
def tK(kc:KC){V:Type}:List MapEntry->List (kc.K×V)->Prop
  | [],[]=>True
  |e::r,x::m=>e.key=kc.ek x.1∧tK kc r m
  |_,_=>False
theorem ye: ∀{es:List MapEntry} {m:List (kc.K×V)},es.length=m.length->(∀(j:Nat) (x:kc.K×V),m[j]? =io x->(es.getD j co).key=kc.ek x.1)->tK kc es m
  | [],[],_,_=>trivial
  |e::r,x::m,hl,h=>⟨by simpa using h 0 x Z,ye (by simpa using hl) fun j x b=>by simpa using h (j+1) x (by simpa using b)⟩
  | [],_::_,hl,_=>by simp at hl
  |_::_,[],hl,_=>by simp at hl
theorem qK: ∀{es:List MapEntry} {m:List ((KC.str).K×V)} {k:ByteArray} (i:Nat),tK .str es m->Instr.findNow .string (.string k) es i=io ((ji .str m k).map fun j=>(i+j,(es.getD j co).val))
  | [],[],_,_,_=>rfl
  | e::r,(a,b)::m,k,i,h=>by
    obtain⟨h1,u⟩:=h;simp only[KC.ek]at h1;simp only[Instr.findNow,h1,Instr.sameNow,ji];rw[beq_toListBytes,r7];by_cases hk:a=k
    · subst hk;simp
    · have hb:lc (k=a)=kw:=by simpa using fun e=>hk e.symm
      rw[hb,be hk,qK (i+1) u];simp only[SE,Ph];congr 1
      funext j
      simp;omega
  | [],_::_,_,_,h=>h.elim
  |_::_,[],_,_,h=>h.elim
theorem qL{q:IntKind}: ∀{es:List MapEntry} {m:List ((KC.int q).K×V)} {k:Int} (i:Nat),tK (.int q) es m->Instr.findNow (.int q) (.int q k) es i=io ((ji (.int q) m k).map fun j=>(i+j,(es.getD j co).val))
  | [],[],_,_,_=>rfl
  | e::r,(a,b)::m,k,i,h=>by
    obtain⟨h1,u⟩:=h;simp only[KC.ek]at h1;simp only[Instr.findNow,h1,Instr.sameNow,ji,if_true];by_cases hk:a=k
    · subst hk;simp
    · have: ¬k=a:=fun e=>hk e.symm
      have hb:(k==a)=kw:=by simpa using this
      rw[hb,be hk,qL (i+1) u];simp only[SE,Ph];congr 1
      funext j
      simp;omega
  | [],_::_,_,_,h=>h.elim
  |_::_,[],_,_,h=>h.elim
theorem nq{y:TypeId}(x:bx P ty)(hk:di ty y=io kc): ∀{es:List MapEntry} {m:List (kc.K×V)} {k:kc.K} (i:Nat),tK kc es m->
    (Instr.findAsking y (kc.ek k) es i).run P w= .ok ((ji kc m k).map fun j=>(i+j,(es.getD j co).val)) w
  | [],[],_,_,_=>by simp[Instr.findAsking,ji]
  | e::r,(a,b)::m,k,i,h=>by
    obtain⟨h1,A⟩:=h;simp only[Instr.findAsking,h1,Sem.run_bind,yu (P:=P) (w:=w) x hk,Result.andThen_ok,ji];by_cases u:a=k
    · subst u;simp
    · have: ¬k=a:=fun e=>u e.symm
      rw[be u];simp only[this,decide_false,Q7,if_false,nq x hk (i+1) A,SE];congr 2
      funext j
      simp;omega
  | [],_::_,_,_,h=>h.elim
  |_::_,[],_,_,h=>h.elim
theorem lk{A:TypeId}(b:bx P ty)(hk:di ty A=io kc){es:List MapEntry}{m:List (kc.K×V)}(k:kc.K)(h:tK kc es m):
    (Instr.findKey A (kc.ek k) es).run P w= .ok ((ji kc m k).map fun j=>(j,(es.getD j co).val)) w:=by
  have hu: ∃d,P.underlying A=io d:=by
    unfold di at hk;split at hk
    · rename_i x;exact⟨_,(b _ _ x).2.1.1⟩
    · rename_i x;exact⟨_,(b _ _ x).2.1.1⟩
    · rename_i x;obtain⟨F,h1,_⟩:=(b _ _ x).2.1;exact⟨_,h1⟩
    · rename_i x;obtain⟨F,h1,_⟩:=(b _ _ x).2.1;exact⟨_,h1⟩
    · cases hk
  obtain⟨d,hd⟩:=hu;unfold Instr.findKey;rw[Sem.run_bind,run_underlying hd,Result.andThen_ok];have u:=nq (P:=P) (w:=w) b hk (k:=k) 0 h;simp only[PO]at u;cases kc with
  | str=>
    have:=qG b hk;rw[hd]at this;cases this;simp only[KC.ek,qK 0 h,PO];rfl
  | int q=>
    have:=qH b hk;rw[hd]at this;cases this;simp only[KC.ek,qL 0 h,PO];rfl
  | si q=>
    cases es with
    | nil=>
      cases m with
      |nil=>simp[Instr.findNow,ji]
      |cons=>exact h.elim
    | cons e r=>
      have y:Instr.findNow d (KC.ek (.si q) k) (e::r) 0=is:=by
        simp only[Instr.findNow,KC.ek];have:Instr.sameNow d (.agg #[.string k.1,.int q k.2]) e.key=is:=by cases d<;>rfl
        rw[this]
      rw[y];exact u
  | fl s=>
    cases es with
    | nil=>
      cases m with
      |nil=>simp[Instr.findNow,ji]
      |cons=>exact h.elim
    | cons e r=>
      have y:Instr.findNow d (KC.ek (.fl s) k) (e::r) 0=is:=by
        simp only[Instr.findNow,KC.ek];have:Instr.sameNow d (.agg (FK.vs s k).toArray) e.key=is:=by cases d<;>rfl
        rw[this]
      rw[y];exact u
theorem iB.keys{V:Type}{e:V->IV}{m:List (kc.K×V)}{ents:Array MapEntry}{clock:Nat}(h:iB M kc e m ents clock):tK kc ents.toList m:=
  ye (by simpa using h.size) fun j x b=>by
    have:=h.key j x b;rwa[Pg,<-PN,<-Pk]at this
theorem iB.Oq{V:Type}{e:V->IV}{m:List (kc.K×V)}{ents:Array MapEntry}{clock:Nat}(h:iB M kc e m ents clock){j:Nat}{x:kc.K×V}(hj:m[j]? =io x):IR M (e x.2) (ents.toList.getD j co).val:=by
  have:=h.val j x hj;rwa[Pg,<-PN,<-Pk]at this
theorem uI{i:IV}{x:Value}(h:IR M i x):VR M N U i.pv x:=by
  cases h with
  | agg cs ys hl hr=>
    refine .agg _ _ (by simpa using hl) fun j p b=>?_;rw[Pp,Pr]at b;obtain⟨q,u,rfl⟩:=b
    exact .iv _ _ (hr j q u)
  |v x=>exact .iv _ _ (.v x)
  |fp=>exact .iv _ _ (.fp _ _ _ _)
  |ct _ _ _ _ _ _ h1 h2 h3 h4 h5=>exact .iv _ _ (.ct _ _ _ _ _ _ h1 h2 h3 h4 h5)
  |jv _ _ _ h1 h2=>exact .iv _ _ (.jv _ _ _ h1 h2)
  |dQ _ _ _ _ _ _ _ _ h1 h2 h3 h4 h5 h6 h7=>exact .iv _ _ (.dQ _ _ _ _ _ _ _ _ h1 h2 h3 h4 h5 h6 h7)
theorem jH{kt:TypeId}(u:bx P ty)(hk:di ty kt=io kc)(k:kc.K)(b:Bool)(n:Nat):(Instr.checkKey b (n+6) kt (kc.ek k)).run P w= .ok () w:=by
  cases kc with
  |str=>exact run_checkKey (qG u hk) (by simp[KC.ek,IsKey]) _ _
  |int q=>exact run_checkKey (qH u hk) (by simp[KC.ek,IsKey]) _ _
  | si q=>
    unfold di at hk;split at hk
    · cases hk
    · cases hk
    · rename_i a c _ _ _ I
      split at hk
      · rename_i _ _ _ _ B _ _ _ G hc
        simp only[Ph,KC.si.injEq]at hk;have Y:B=q:=hk;subst Y;obtain⟨F,h1,A⟩:=(u _ _ I).2.1;have D:=((u _ _ I).2.2 Z).2.2;rw[fV h1]at D;have c0:=(u _ _ G).2.1.1;have d0:=(u _ _ hc).2.1.1;have a0:(part a #[.string k.1,.int B k.2] 0).run P w= .ok (.string k.1) w:=by
          have:=gW (P:=P) (w:=w) (M:=Mem.base) (N:=⟨fun _=>0,fun _=>0⟩) (U:=fun _=>True) (off:=0) (cs:=[.iv (.v (.string k.1)),.iv (.v (.int B k.2))]) (ys:= #[.string k.1,.int B k.2]) (u _ _ G) Z
            (fun j p x=>by match j with
              |0=>simp at x;subst x;exact .iv _ _ (.v _)
              |1=>simp at x;subst x;exact .iv _ _ (.v _)
              |j+2=>simp at x) (p:= .iv (.v (.string k.1))) (by simp[fI,TK.agg,ja])
          obtain⟨y,hy,C⟩:=this;cases C with
          |iv _ _ C=>cases C;exact hy
        have b0:(part c #[.string k.1,.int B k.2] 1).run P w= .ok (.int B k.2) w:=by
          have:=gW (P:=P) (w:=w) (M:=Mem.base) (N:=⟨fun _=>0,fun _=>0⟩) (U:=fun _=>True) (off:=1) (cs:=[.iv (.v (.string k.1)),.iv (.v (.int B k.2))]) (ys:= #[.string k.1,.int B k.2]) (u _ _ hc) Z
            (fun j p x=>by match j with
              |0=>simp at x;subst x;exact .iv _ _ (.v _)
              |1=>simp at x;subst x;exact .iv _ _ (.v _)
              |j+2=>simp at x) (p:= .iv (.v (.int B k.2))) (by simp[fI,TK.agg,ja])
          obtain⟨y,hy,C⟩:=this;cases C with
          |iv _ _ C=>cases C;exact hy
        obtain⟨F⟩:=F
        match F,A,D with
        | [],A,_=>simp at A
        | [_],A,_=>simp at A
        |_::_::_::_,A,_=>simp at A
        | [f,g],A,D=>
          simp at A;obtain⟨⟨h3,h4⟩,h5,h6⟩:=A;have hf:=D f (by simp);have hg:=D g (by simp);have ca:=run_checkKey (w:=w) c0 (k:= .string k.1) (by simp[IsKey]) b (n+4);have cc:=run_checkKey (w:=w) d0 (k:= .int B k.2) (by simp[IsKey]) b (n+4);unfold Instr.checkKey;simp[KC.ek,run_underlying h1,hf,hg,h3,h4,h5,h6,a0,b0,ca,cc]
      · cases hk
    · split at hk<;>cases hk
    · cases hk
  | fl s=>
    obtain⟨_,e,G,⟨e',R,_,_,_,J⟩,I⟩:=EW u hk;have:e'=e:=P7 (R.symm.trans I);subst this;have:=J w (FK.vs s k) (j4 s k) b n;rw[Nat.add_comm 6 n]at this;unfold En at this;rw[G]at this;exact this
theorem w7{a b:Value}(h:Aj a b=jp):a=b:=by
  unfold Aj at h;split at h<;>simp_all
theorem w6: ∀{a b:List Value},ur a b=jp->a=b
  | [],[],_=>rfl
  | x::r,y::q,h=>by
    simp only[ur,Qc]at h;rw[w7 h.1,w6 h.2]
  | [],_::_,h=>by simp[ur]at h
  |_::_,[],h=>by simp[ur]at h
theorem FV{a b:Value}(h:Kg a b=jp):a=b:=by
  unfold Kg at h;split at h
  · have:=w6 h
    congr 1;exact Sr.1 this
  · exact w7 h
theorem x8(u:bx P ty){t:TypeId}{ok:Bool}{V:Type}{e:V->IV}{z:V}{zv:Value}{m:List (kc.K×V)}{key p:PV}{C:Prop}(h:sN ty t ok kc e z zv m key=io (p,C)){r:Nat}{ents:Array MapEntry}{clock:Nat}
    (hb:w.heap[r]? =io (.map ents clock)) (hm:iB M kc e m ents clock) (hz:IR M (e z) zv) {k:Value} (hk:VR M N U key k):
    C∧ ∃x,(Instr.lookup t (.map (io r)) k ok).run P w= .ok x w∧VR M N U p x:=by
  unfold sN at h;split at h
  · rename_i kt et _ _ _ _ he
    have hu:=(u _ _ he).2.1.1;split at h
    · rename_i y ee B R
      split at h
      · rename_i k0 hd hv J
        have hd:=of_decide_eq_true hd;subst hd;have Y:=Bt J hk;subst Y;have hv:=FV hv;have b:=lk (P:=P) (w:=w) u B k0 hm.keys;have A:=jH (P:=P) (w:=w) u B k0 ents.isEmpty 9994;have a0:=c5 (P:=P) (w:=w) (u _ _ R);have hg:(getObj r).run P w= .ok (.map ents clock) w:=by simp[getObj,Sem.run,hb]
        have G: ∃v I,(Instr.lookup t (.map (io r)) (y.ek k0) ok).run P w= .ok (if ok then .tuple #[v,.bool I] else v) w∧I=cU y m k0∧IR M (e (dt y m k0 z)) v:=by
          cases hfi:ji y m k0 with
          | none=>
            obtain⟨g1,g2,_⟩:=mM hfi;rw[hfi]at b;refine⟨ee.zero,kw,?_,by rw[g2],by rw[g1,hv];exact hz⟩;simp[Instr.lookup,run_underlying hu,hg,A,b,a0]
          | some i=>
            obtain⟨v,g0,g1,g2,_⟩:=kE hfi;rw[hfi]at b;refine⟨(ents.toList.getD i co).val,jp,?_,by rw[g2],by rw[g1];exact hm.Oq g0⟩;simp[Instr.lookup,run_underlying hu,hg,A,b]
        obtain⟨v,I,h1,h2,h3⟩:=G;split at h
        · simp only[Ph,Pt]at h
          obtain⟨rfl,rfl⟩:=h;refine⟨ac,_,h1,.bq _ _ Z fun j q D=>?_⟩
          match j with
          |0=>simp at D;subst D;exact uI h3
          |1=>simp at D;subst D;subst h2;exact .iv _ _ (.v _)
          |j+2=>simp at D
        · simp only[Ph,Pt]at h
          obtain⟨rfl,rfl⟩:=h;exact⟨ac,_,h1,uI h3⟩
      · cases h
    · cases h
  · cases h
end
end
section
variable {P:Program} {ty:Ty} {M:Mem} {N:Nm} {w:World} {nt:Nat} {s:AS} {a:Act}
theorem aW{x:Value}{m:Sem Value}(h:m.run P w= .ok x w):(do pure (.value (<-m)):Sem Next).run P w= .ok (.value x) w:=by
  rw[Sem.run_bind,h];rfl
theorem pE(D:bx P ty)(hf:Fits M N s nt a w){o:Oper}{p:PV}{C:Prop}(h:gz ty s o.op=io (p,C))(hC:C):
    ∃x,(execOp a.eval o).run P w= .ok (.value x) w∧VR M N (· <s.nx) p x:=by
  obtain⟨e0,B,_,_⟩:=hf;cases ho:o.op with
  | move x=>
    rw[ho]at h;simp only[gz,Ph,Pt]at h;obtain⟨rfl,rfl⟩:=h;exact⟨_,by simp only[execOp,ho];rfl,aH B x⟩
  | assign x=>
    rw[ho]at h;simp only[gz,Ph,Pt]at h;obtain⟨rfl,rfl⟩:=h;exact⟨_,by simp only[execOp,ho];rfl,aH B x⟩
  | pick c x y=>
    rw[ho]at h;simp only[gz]at h;have hc:=aH B c;split at h
    · rename_i J
      rw[J]at hc;simp only[Ph,Pt]at h;obtain⟨rfl,rfl⟩:=h;generalize R:a.eval c=v at hc;cases hc with
      |kb=>exact⟨_,by simp only[execOp,ho,R];simp[asBool],aH B x⟩
    · rename_i J
      rw[J]at hc;simp only[Ph,Pt]at h;obtain⟨rfl,rfl⟩:=h;generalize R:a.eval c=v at hc;cases hc with
      |kb=>exact⟨_,by simp only[execOp,ho,R];simp[asBool],aH B y⟩
    · cases h
  | load t x=>
    rw[ho]at h;simp only[gz]at h;split at h
    · rename_i e J
      split at h
      · rename_i cs hb
        split at h
        · rename_i q hq
          simp only[Ph,Pt]at h;obtain⟨rfl,rfl⟩:=h;obtain⟨b,o0,A,r0⟩:=vz e0 (aH B x) hb;obtain⟨y,hy,R⟩:=qv (P:=P) (D t e J) r0 hq;exact⟨y,by simp only[execOp,ho];exact aW (by rw[A];simpa[Instr.loadAt,Instr.sureAddr]using hy),R⟩
        · cases h
      · cases h
    · cases h
  | nilCheck x=>
    rw[ho]at h;simp only[gz]at h;have A:=aH B x;split at h
    all_goals first
      |cases h;done
      | (rename_i J
         simp only[Ph,Pt]at h;obtain⟨rfl,rfl⟩:=h;rw[J]at A;refine⟨_,?_,A⟩;generalize R:a.eval x=v at A
         first
         |(cases A;simp only[execOp,ho,R];rfl)
         | (cases A with
            |iv _ _ A=>cases A;simp only[execOp,ho,R];rfl))
  | binOp op t x y t'=>
    rw[ho]at h;simp only[gz]at h;split at h
    · rename_i cs ds k0 w1
      have h1:=aH B x;have h2:=aH B y;rw[k0]at h1;rw[w1]at h2;obtain⟨_,z,hz,R⟩:=FH (P:=P) (w:=w) D (u:=x) (v:=y) h h1 h2;exact⟨z,by simp only[execOp,ho];exact aW hz,R⟩
    · obtain⟨z,hz,R⟩:=CO (P:=P) (w:=w) D (u:=x) (v:=y) h hC (aH B x) (aH B y)
      exact⟨z,by simp only[execOp,ho];exact aW hz,R⟩
  | unOp op t x=>
    rw[ho]at h;cases op with
    | not=>
      simp only[gz]at h;have A:=aH B x;split at h
      · rename_i J
        simp only[Ph,Pt]at h;obtain⟨rfl,rfl⟩:=h;rw[J]at A;generalize R:a.eval x=v at A;cases A with
        |kb=>exact⟨_,by simp only[execOp,ho,R];exact aW Z,.kb _⟩
      · rename_i J
        simp only[Ph,Pt]at h;obtain⟨rfl,rfl⟩:=h;rw[J]at A;generalize R:a.eval x=v at A;cases A with
        |kb=>exact⟨_,by simp only[execOp,ho,R];exact aW Z,.kb _⟩
      · rename_i J
        simp only[Ph,Pt]at h;obtain⟨rfl,rfl⟩:=h;rw[J]at A;cases A with
        | iv _ _ A=>generalize R:a.eval x=v at A;cases A with
          |v=>exact⟨_,by simp only[execOp,ho,R];exact aW Z,.iv _ _ (.v _)⟩
      · cases h
    |_=>simp[gz]at h
  | fieldAddr t x k=>
    rw[ho]at h;simp only[gz]at h;split at h
    · rename_i e J
      split at h
      · rename_i o0 u k1
        split at h
        · rename_i eu c0
          split at h
          · cases h
          · rename_i n hn
            split at h
            · rename_i q hq
              simp only[Ph,Pt]at h;obtain⟨rfl,rfl⟩:=h;obtain⟨F,fd,h1,h2,rfl,rfl⟩:=pb (D t e J) k1;obtain⟨b,o',A,R⟩:=B9 (aH B x) hq;refine⟨_,?_,R⟩;simp only[execOp,ho,A];refine aW ?_;have hs:=aL (w:=w) (D _ _ c0);simp[Instr.fieldAt,run_underlying h1,h2,Instr.sureAddr,fieldPlace,hs,hn,dr]
            · cases h
        · cases h
      · cases h
    · cases h
  | field t x k=>
    rw[ho]at h;simp only[gz]at h;split at h
    · rename_i e J
      split at h
      · rename_i o0 u k1
        split at h
        · rename_i eu c0
          split at h
          · rename_i cs k0
            split at h
            · rename_i q hq
              simp only[Ph,Pt]at h;obtain⟨rfl,rfl⟩:=h;obtain⟨F,fd,h1,h2,rfl,rfl⟩:=pb (D t e J) k1;have A:=aH B x;rw[k0]at A;generalize R:a.eval x=v at A;cases A with
              | agg _ ys hl hr=>
                obtain⟨y,hy,k2⟩:=gW (P:=P) (w:=w) (D _ _ c0) hl hr hq;refine⟨y,?_,k2⟩;simp only[execOp,ho,R];refine aW ?_;simp[Instr.field,run_underlying h1,h2,asAgg,hy]
            · cases h
          · cases h
        · cases h
      · cases h
    · cases h
  | indexAddr t x i=>
    rw[ho]at h;simp only[gz]at h;split at h
    · rename_i u sz i0 z _ J
      have hu:P.underlying t=io (.slice u):=(D t _ J).2.1.1;split at h
      · rename_i eu c0
        split at h
        · rename_i k n hn
          have G:=aH B i;rw[hn]at G;have j0:a.eval i= .int k n:=by
            generalize a.eval i=v at G;cases G with
            | iv _ _ G=>cases G with
              |v=>rfl
          split at h
          · rename_i g0 m el A
            cases hb:PJ g0 eu.size with
            |false=>simp only[hb,cond_false]at h;cases h
            | true=>
              simp only[hb,cond_true]at h;have hs:=PC hb;subst hs;have I:=aH B x;rw[A]at I;obtain⟨y,hy,R⟩:=nn (P:=P) (k:=k) hu (D _ _ c0) I (.inl ⟨m,el,rfl⟩) h hC;exact⟨y,by simp only[execOp,ho,j0];exact aW hy,R⟩
          · rename_i j o0 len g0 A
            cases hb:PJ g0 eu.size with
            |false=>simp only[hb,cond_false]at h;cases h
            | true=>
              simp only[hb,cond_true]at h;have hs:=PC hb;subst hs;have I:=aH B x;rw[A]at I;obtain⟨y,hy,R⟩:=nn (P:=P) (k:=k) hu (D _ _ c0) I (.inr ⟨j,o0,len,rfl⟩) h hC;exact⟨y,by simp only[execOp,ho,j0];exact aW hy,R⟩
          · cases h
        · cases h
      · cases h
    · rename_i len u sz i0 z _ J
      have hu:P.underlying t=io (.array len u):=(D t _ J).2.1;split at h
      · rename_i eu c0
        split at h
        · rename_i k n hn
          have G:=aH B i;rw[hn]at G;have j0:a.eval i= .int k n:=by
            generalize a.eval i=v at G;cases G with
            | iv _ _ G=>cases G with
              |v=>rfl
          split at h
          · rename_i j o0 A
            simp only[Ph,Pt]at h;obtain⟨rfl,rfl⟩:=h;have I:=aH B x;rw[A]at I;generalize R:a.eval x=v at I;cases I with
            | ptr _ _ hU=>
              refine⟨.pointer (io ⟨N.az j,o0+n.toNat*eu.size,is⟩),?_,.ptr _ _ hU⟩;simp only[execOp,ho,j0,R];refine aW ?_;simp only[Instr.indexAt,asIntOf];simp[run_underlying hu,hC.1,hC.2,aL (D _ _ c0),dr,Instr.sureAddr]
          · cases h
        · cases h
      · cases h
    · cases h
  | slice t x lo G mx=>
    rw[ho]at h;have d0: ∀(o:Operand) (k:IntKind) (n:Int),ev s.f o= .iv (.v (.int k n))->a.eval o= .int k n:=fun o k n J=>by
      have G:=aH B o;rw[J]at G;generalize a.eval o=v at G;cases G with
      | iv _ _ G=>cases G with
        |v=>rfl
    cases lo with
    | none=>
      cases G with
      |none=>simp only[gz]at h;cases h
      |some G=>
      cases mx with
      |none=>simp only[gz]at h;cases h
      |some mx=>
      simp only[gz]at h;split at h
      · rename_i u sz i0 z _ J
        have hu:P.underlying t=io (.slice u):=(D t _ J).2.1.1;split at h
        · rename_i eu c0
          split at h
          · rename_i kb nb a1
            split at h
            · rename_i kc nc d2
              split at h
              · rename_i g0 m el A
                cases hb:PJ g0 eu.size with
                |false=>simp only[hb,cond_false]at h;cases h
                | true=>
                  simp only[hb,cond_true]at h;have hs:=PC hb;subst hs;have I:=aH B x;rw[A]at I;have w0:=d0 G _ _ a1;have b2:=d0 mx _ _ d2;obtain⟨y,hy,R⟩:=yR (P:=P) (w:=w) (M:=M) (N:=N) (U:=(· <s.nx)) (kb:=kb) (kc:=kc) (nb:=nb) (nc:=nc) hu (D _ _ c0) I h hC;exact⟨y,by simp only[execOp,ho,w0,b2,Qt,RN];exact aW hy,R⟩
              · cases h
            · cases h
          · cases h
        · cases h
      · cases h
    |some lo=>
    cases G with
    | none=>
      cases mx with
      |some mx=>simp only[gz]at h;cases h
      |none=>
      simp only[gz]at h;split at h
      · rename_i u sz i0 z _ J
        have hu:P.underlying t=io (.slice u):=(D t _ J).2.1.1;split at h
        · rename_i eu c0
          split at h
          · rename_i ka na x0
            split at h
            · rename_i g0 m el A
              cases hb:PJ g0 eu.size with
              |false=>simp only[hb,cond_false]at h;cases h
              | true=>
                simp only[hb,cond_true]at h;have hs:=PC hb;subst hs;have I:=aH B x;rw[A]at I;have v0:=d0 lo _ _ x0;obtain⟨y,hy,R⟩:=BS (P:=P) (w:=w) (M:=M) (N:=N) (U:=(· <s.nx)) (ka:=ka) (na:=na) hu (D _ _ c0) I h hC;exact⟨y,by simp only[execOp,ho,v0,Qt,RN];exact aW hy,R⟩
            · cases h
          · cases h
        · cases h
      · cases h
    |some G=>
    cases mx with
    |some mx=>simp only[gz]at h;cases h
    |none=>
    simp only[gz]at h;split at h
    · rename_i u sz i0 z _ J
      have hu:P.underlying t=io (.slice u):=(D t _ J).2.1.1;split at h
      · rename_i eu c0
        split at h
        · rename_i ka na x0
          split at h
          · rename_i kb nb a1
            split at h
            · rename_i g0 m el A
              cases hb:PJ g0 eu.size with
              |false=>simp only[hb,cond_false]at h;cases h
              | true=>
                simp only[hb,cond_true]at h;have hs:=PC hb;subst hs;have I:=aH B x;rw[A]at I;have v0:=d0 lo _ _ x0;have w0:=d0 G _ _ a1;obtain⟨y,hy,R⟩:=BT (P:=P) (w:=w) (M:=M) (N:=N) (U:=(· <s.nx)) (ka:=ka) (kb:=kb) (na:=na) (nb:=nb) hu (D _ _ c0) I h hC;exact⟨y,by simp only[execOp,ho,v0,w0,Qt,RN];exact aW hy,R⟩
            · cases h
          · cases h
        · cases h
      · cases h
    · rename_i sz i0 z _ J
      have hu:P.underlying t=io .string:=(D t _ J).2.1.1;split at h
      · rename_i ka na x0
        split at h
        · rename_i kb nb a1
          split at h
          · rename_i b A
            simp only[Ph,Pt]at h;obtain⟨rfl,rfl⟩:=h;have I:=aH B x;rw[A]at I;have o1:a.eval x= .string b:=by
              generalize a.eval x=v at I;cases I with
              | iv _ _ G=>cases G with
                |v=>rfl
            have v0:=d0 lo _ _ x0;have w0:=d0 G _ _ a1;refine⟨.string (b.extract na.toNat nb.toNat),?_,.iv _ _ (.v _)⟩;simp only[execOp,ho,v0,w0,o1,Qt,RN];exact aW (xf hu hC)
          · cases h
        · cases h
      · cases h
    · cases h
  | convert t t' x=>
    rw[ho]at h;simp only[gz]at h;split at h
    · rename_i q0 o2 l2 z0 _ z1
      have j2:P.underlying t=io (.int q0):=(D t _ z1).2.1.1;split at h
      · rename_i k sz i0 z _ J
        have hu:P.underlying t'=io (.int k):=(D t' _ J).2.1.1;split at h
        · rename_i q n hn
          simp only[Ph,Pt]at h;obtain⟨rfl,rfl⟩:=h;have G:=aH B x;rw[hn]at G;have j0:a.eval x= .int q n:=by
            generalize a.eval x=v at G;cases G with
            | iv _ _ G=>cases G with
              |v=>rfl
          refine⟨_,?_,.iv _ _ (.v _)⟩;simp only[execOp,ho,j0];refine aW ?_;simp[convert,run_underlying j2,run_underlying hu,Conv.intToInt]
        · cases h
      · cases h
    · cases h
  | index t x i=>
    rw[ho]at h;simp only[gz]at h;split at h
    · rename_i sz i0 z _ J
      have hu:P.underlying t=io .string:=(D t _ J).2.1.1;split at h
      · rename_i k n hn
        split at h
        · rename_i b A
          simp only[Ph,Pt]at h;obtain⟨rfl,rfl⟩:=h;have G:=aH B i;rw[hn]at G;have j0:a.eval i= .int k n:=by
            generalize a.eval i=v at G;cases G with
            | iv _ _ G=>cases G with
              |v=>rfl
          have I:=aH B x;rw[A]at I;have o1:a.eval x= .string b:=by
            generalize a.eval x=v at I;cases I with
            | iv _ _ G=>cases G with
              |v=>rfl
          refine⟨_,?_,.iv _ _ (.v _)⟩;simp only[execOp,ho,j0,o1];refine aW ?_;have j1:n.toNat<b.size:=by omega
          have hg:b[n.toNat]? =io (b.data.toList.getD n.toNat 0):=by
            rw[getElem?_pos b n.toNat j1];have h0:n.toNat<b.data.size:=j1;have h1:b.data.toList.getD n.toNat 0=b.data[n.toNat]:=by
              rw[Pk,PN,PR h0];rfl
            rw[h1];rfl
          simp only[Instr.index,asIntOf];simp[run_underlying hu,hC.1,hg]
        · cases h
      · cases h
    · cases h
  | build t parts=>
    rw[ho]at h;simp only[gz]at h;split at h
    · rename_i e J
      split at h
      · rename_i fs hk
        split at h
        · rename_i pl i2
          split at h
          · rename_i cs k0
            rw[force_eq]at h;simp only[Ph,Pt]at h;obtain⟨rfl,rfl⟩:=h;have f0:=D t e J;have m0:=f0.2.1;rw[hk]at m0;obtain⟨F,h1,h2⟩:=m0;have hz:=c5 (w:=w) f0
            obtain⟨r1,h3,h4⟩:=o8 (M:=M) (N:=N) (U:=(· <s.nx)) (w5:=(parts.map fun x=>(x.1,a.eval x.2)).toList) k0 (by simp) (fun j x y A hy=>by
              rw[Pp,Pr]at A;obtain⟨z,hz,rfl⟩:=A;have p1:parts[j]? =io z:=by simpa using hz
              have:io (z.1,a.eval z.2)=io y:=by rw[<-hy];simp[p1]
              simp only[Ph]at this;subst this
              exact⟨rfl,aH B z.2⟩) (ew e.zero)
            refine⟨.agg r1,?_,.agg _ _ h4.1 h4.2⟩;simp only[execOp,ho];refine aW ?_;have l1: ∀(fl:List Field) (pl:List (Nat×Nat)),oK ty (fl.map fun f=>(f.offset,f.type))=io pl->(fl.mapM (fun f=>do pure (f.offset,<-sizeOf f.type):Field->Sem (Nat×Nat))).run P w= .ok pl w:=by
              intro fl
              induction fl with
              |nil=>intro pl hp;simp only[Qb,oK,Ph]at hp;subst hp;rfl
              | cons f fl ih=>
                intro pl hp;simp only[Py,oK]at hp;split at hp
                · rename_i e' x1
                  split at hp
                  · rename_i l hl
                    simp only[Ph]at hp;subst hp;rw[List.mapM_cons,Sem.run_bind,Sem.run_bind,aL (D _ _ x1),Result.andThen_ok,Sem.run_pure,Result.andThen_ok,Sem.run_bind,ih l hl];rfl
                  · cases hp
                · cases hp
            have hm:=l1 F.toList pl (by rw[h2];exact i2);have c2:(F.mapM (fun f=>do pure (f.offset,<-sizeOf f.type):Field->Sem (Nat×Nat))).run P w= .ok pl.toArray w:=by
              rw[Si,Sem.run_map,hm];rfl
            have n0:(fun(i:Nat)=>pl.toArray[i]?)=(fun(i:Nat)=>pl[i]?):=by funext i;simp
            simp only[Instr.build,Sem.run_bind,hz,Result.andThen_ok,run_underlying h1,c2];rw[n0,h3];rfl
          · cases h
        · cases h
      · rename_i n u hk
        split at h
        · rename_i eu c0
          split at h
          · rename_i cs k0
            rw[force_eq]at h;simp only[Ph,Pt]at h;obtain⟨rfl,rfl⟩:=h;have f0:=D t e J;have m0:=f0.2.1;rw[hk]at m0;have hz:=c5 (w:=w) f0
            obtain⟨r1,h3,h4⟩:=o8 (M:=M) (N:=N) (U:=(· <s.nx)) (w5:=(parts.map fun x=>(x.1,a.eval x.2)).toList) k0 (by simp) (fun j x y A hy=>by
              rw[Pp,Pr]at A;obtain⟨z,hz,rfl⟩:=A;have p1:parts[j]? =io z:=by simpa using hz
              have:io (z.1,a.eval z.2)=io y:=by rw[<-hy];simp[p1]
              simp only[Ph]at this;subst this
              exact⟨rfl,aH B z.2⟩) (ew e.zero)
            refine⟨.agg r1,?_,.agg _ _ h4.1 h4.2⟩;simp only[execOp,ho];refine aW ?_;simp only[Instr.build,Sem.run_bind,hz,Result.andThen_ok,run_underlying m0,aL (D _ _ c0)];rw[h3];rfl
          · cases h
        · cases h
      · cases h
    · cases h
  | extract x k=>
    rw[ho]at h;simp only[gz]at h;split at h
    · rename_i cs k0
      split at h
      · rename_i q hq
        simp only[Ph,Pt]at h;obtain⟨rfl,rfl⟩:=h;have A:=aH B x;rw[k0]at A;generalize R:a.eval x=v at A;cases A with
        | bq _ ys hl hr=>
          have j1:k<ys.size:=by rw[<-hl];exact(Pj.1 hq).1
          refine⟨ys.getD k undef,?_,hr _ _ hq⟩;simp only[execOp,ho,R];refine aW ?_;simp[Instr.extract,Pg,j1]
      · cases h
    · cases h
  | makeFunc fn first caps=>
    rw[ho]at h;simp only[gz,force_eq,Ph,Pt]at h;obtain⟨rfl,rfl⟩:=h;have h1:=Er B first;have h2:=Er B caps;exact⟨_,by simp only[execOp,ho];exact aW Z,.b5 _ _ _ _ _ h1.1 h2.1 h1.2 h2.2⟩
  | call c=>
    obtain⟨callee,args,a0⟩:=c;rw[ho]at h;cases callee with
    | builtin b=>
      cases b with
      | len=>
        simp only[gz]at h;split at h
        · rename_i x t t1 n2
          have b0:args= #[x]:=by cases args;simp_all
          have n1:a0= #[t]:=by cases a0;simp_all
          subst b0 n1;have A:=aH B x;have p0: ∀v,(Builtin.len_ #[t] o.type #[a.eval x]).run P w= .ok v w->(execOp a.eval o).run P w= .ok (.value v) w:=by
            intro v R;simp only[execOp,ho,resolve];simp[invoke,builtin,R]
          split at h
          · rename_i u sz i0 z _ J
            have hu:P.underlying t=io (.slice u):=(D t _ J).2.1.1;split at h
            · rename_i g0 n el Y
              rw[Y]at A;simp only[ub,Ph,Pt]at h;obtain⟨rfl,rfl⟩:=h;refine⟨.int .i64 n,p0 _ ?_,.iv _ _ (.v _)⟩;generalize a.eval x=v at A;cases A with
              |iv _ _ G=>cases G<;>simp[Builtin.len_,run_underlying hu,goInt]
            · rename_i i o0 len g0 Y
              rw[Y]at A;simp only[ub,Ph,Pt]at h;obtain⟨rfl,rfl⟩:=h;refine⟨.int .i64 len,p0 _ ?_,.iv _ _ (.v _)⟩;generalize a.eval x=v at A;cases A<;>(simp[Builtin.len_,run_underlying hu,goInt];done)
            · rename_i Y
              rw[Y]at A;simp only[ub,Ph,Pt]at h;obtain⟨rfl,rfl⟩:=h;refine⟨.int .i64 0,p0 _ ?_,.iv _ _ (.v _)⟩;generalize a.eval x=v at A;cases A with
              |iv _ _ G=>cases G;simp[Builtin.len_,run_underlying hu,goInt]
            · cases h
          · rename_i sz i0 z _ J
            have hu:P.underlying t=io .string:=(D t _ J).2.1.1;split at h
            · rename_i b Y
              rw[Y]at A;simp only[ub,Ph,Pt]at h;obtain⟨rfl,rfl⟩:=h;refine⟨.int .i64 b.size,p0 _ ?_,.iv _ _ (.v _)⟩;generalize a.eval x=v at A;cases A with
              |iv _ _ G=>cases G;simp[Builtin.len_,run_underlying hu,goInt]
            · cases h
          · rename_i kt et sz i0 z _ J
            have hu:P.underlying t=io (.map kt et):=(D t _ J).2.1.1;have s0: ∀{r:Nat} {ents:Array MapEntry} {clock n:Nat},w.heap[r]? =io (.map ents clock)->ents.size=n->(Builtin.len_ #[t] o.type #[.map (io r)]).run P w= .ok (.int .i64 n) w:=by
              intro r ents clock n h1 h2;simp[Builtin.len_,run_underlying hu,goInt,getObj,Sem.run,h1,h2,Result.andThen]
            split at h
            · rename_i V f1 i1 z' s1 m' Y
              rw[Y]at A;simp only[Ph,Pt]at h;obtain⟨rfl,rfl⟩:=h;refine⟨.int .i64 m'.length,p0 _ ?_,.iv _ _ (.v _)⟩;generalize a.eval x=v at A;cases A with
              | iv _ _ G=>cases G with
                |dQ _ _ _ _ _ b ents clock hb hs=>exact s0 (e0.dZ _ _ hb) hs
            · rename_i j Y
              rw[Y]at A;split at h
              · rename_i V f1 i1 z' s1 v1 m' hg
                simp only[Ph,Pt]at h;obtain⟨rfl,rfl⟩:=h;refine⟨.int .i64 m'.length,p0 _ ?_,.iv _ _ (.v _)⟩;obtain⟨ents,clock,h1,h2,h3⟩:=e0.obj _ _ hg;generalize a.eval x=v at A;cases A with
                |mp=>exact s0 h1 h2.size
              · cases h
            · cases h
          · cases h
        · cases h
      | max=>
        simp only[gz]at h;split at h
        · rename_i x y t1
          have b0:args= #[x,y]:=by cases args;simp_all
          subst b0;split at h
          · rename_i k n j m hn hm
            simp only[Ph,Pt]at h;obtain⟨rfl,rfl⟩:=h;have h1:=aH B x;have h2:=aH B y;rw[hn]at h1;rw[hm]at h2;have e1:a.eval x= .int k n:=by
              generalize a.eval x=v at h1;cases h1 with
              | iv _ _ G=>cases G with
                |v=>rfl
            have e2:a.eval y= .int j m:=by
              generalize a.eval y=v at h2;cases h2 with
              | iv _ _ G=>cases G with
                |v=>rfl
            have e3:(if m>n then m else n)=max n m:=by split<;>omega
            refine⟨.int k (max n m),?_,.iv _ _ (.v _)⟩;simp only[execOp,ho,resolve];simp[invoke,builtin,Builtin.max_,Builtin.max2,e1,e2,<-e3]
          · cases h
        · cases h
      | min=>
        simp only[gz]at h;split at h
        · rename_i x y t1
          have b0:args= #[x,y]:=by cases args;simp_all
          subst b0;split at h
          · rename_i k n j m hn hm
            simp only[Ph,Pt]at h;obtain⟨rfl,rfl⟩:=h;have h1:=aH B x;have h2:=aH B y;rw[hn]at h1;rw[hm]at h2;have e1:a.eval x= .int k n:=by
              generalize a.eval x=v at h1;cases h1 with
              | iv _ _ G=>cases G with
                |v=>rfl
            have e2:a.eval y= .int j m:=by
              generalize a.eval y=v at h2;cases h2 with
              | iv _ _ G=>cases G with
                |v=>rfl
            have e3:(if m<n then m else n)=min n m:=by split<;>omega
            refine⟨.int k (min n m),?_,.iv _ _ (.v _)⟩;simp only[execOp,ho,resolve];simp[invoke,builtin,Builtin.min_,Builtin.min2,e1,e2,<-e3]
          · cases h
        · cases h
      |_=>simp[gz]at h
    |_=>simp[gz]at h
  | lookup t x i ok=>
    rw[ho]at h;simp only[gz]at h;have A:=aH B x;have G:=aH B i;split at h
    · rename_i V f1 i1 z' s1 m' Y
      rw[Y]at A;generalize R:a.eval x=v at A;cases A with
      | iv _ _ hxi=>cases hxi with
        | dQ _ _ _ _ _ b ents clock hb hs m0 hv' hz j0 hc=>
          obtain⟨_,y,h1,h2⟩:=x8 (P:=P) D h (e0.dZ _ _ hb) ⟨hs,m0,hv',j0,hc⟩ hz G;exact⟨y,by simp only[execOp,ho,R];exact aW h1,h2⟩
    · rename_i j Y
      rw[Y]at A;split at h
      · rename_i V f1 i1 z' s1 v1 m' hg
        obtain⟨ents,clock,h1,h2,h3⟩:=e0.obj _ _ hg;generalize R:a.eval x=v at A;cases A with
        | mp=>
          obtain⟨_,y,g1,g2⟩:=x8 (P:=P) D h h1 h2 h3 G;exact⟨y,by simp only[execOp,ho,R];exact aW g1,g2⟩
      · cases h
    · cases h
  | entry it=>
    rw[ho]at h;simp only[gz]at h;have A:=aH B it;split at h
    · rename_i i Y
      rw[Y]at A;split at h
      · rename_i V f1 i1 m' vs x' hg
        simp only[Ph,Pt]at h;obtain⟨rfl,rfl⟩:=h;obtain⟨b,ents,clock,q1,h1,h2,h3,h4,h5,h6,h7⟩:=(e0.obj _ _ hg).resolve_left fun hh=>nomatch hh.2.2.1;obtain⟨j,r,rfl,h8⟩:=h7 x' Z;generalize R:a.eval it=v at A
        cases A with
        | ptr=>
          have hj:j<ents.size:=by rw[h3.size];exact(Pj.1 h8).1
          have a2:ents.getD j co=ents[j]:=by simp[Pg,hj]
          have b1:q1=(r.reverse.map fun j=>(ents.getD j co).born).toArray.push (ents[j]).born:=by
            apply Sr.1;rw[h4];simp[hj]
          rw[b1]at h1;have f2:(ents.toList.map (·.born)).Nodup:=by
            rw[List.nodup_iff_pairwise_ne,Qu];intro p q hp hq m2 J;simp at hp hq J;have:=h3.inj p q ents[p] ents[q] (by simp[hp]) (by simp[hq]) J;omega
          have m1:=run_entry_at (P:=P) w (N.az i) b clock _ ents clock ents[j] h1 (e0.dZ _ _ h2) (by simp) f2;refine⟨_,by simp only[execOp,ho,R];exact aW m1,.bq _ _ Z fun q p hp=>?_⟩;have t0:=h3.key j _ h8;have d1:=h3.val j _ h8;rw[a2]at t0 d1
          match q with
          |0=>simp at hp;subst hp;simp only[Pg];simp;rw[t0];exact uN f1 _
          |1=>simp at hp;subst hp;exact uI d1
          |q+2=>simp at hp
      · cases h
    · cases h
  |_=>rw[ho]at h;simp[gz]at h
end
abbrev AQ:=Exit->AS->Prop
def lK(nt:Nat)(M:Mem)(N:Nm)(s:AS)(w:World)(Q:AQ):Exit->Act->World->Prop:=fun e x u=>
 ∃b j s',Ext M N (· <s.nx) s.h w b j (· <s'.nx) s'.h u∧Fits b j s' nt x u∧Q e s'
theorem lK.later{nt:Nat}{M b:Mem}{N j:Nm}{s s':AS}{w u:World}{Q:AQ}{e:Exit}{a:Act}{y:World}
  (x:Ext M N (· <s.nx) s.h w b j (· <s'.nx) s'.h u) (h:lK nt b j s' u Q e a y):lK nt M N s w Q e a y:=by
 obtain⟨A,B,G,h1,C,D⟩:=h;exact⟨A,B,G,x.trans h1,C,D⟩
theorem lK.now{nt:Nat}{M:Mem}{N:Nm}{s:AS}{w:World}{Q:AQ}{e:Exit}{a:Act}(hf:Fits M N s nt a w)(h:Q e s):lK nt M N s w Q e a w:=
 ⟨M,N,s,.refl _ _ _ _ _,hf,h⟩
def AW(P:Program)(nt:Nat)(c:Code)(Q:AQ)(s:AS):Prop:= ∀M N a w,Fits M N s nt a w->c.wp P (lK nt M N s w Q) a w
def AL(P:Program)(nt:Nat)(all rest:List Oper)(Q:AQ)(s:AS):Prop:= ∀M N a w,Fits M N s nt a w->wpList P all.toArray (lK nt M N s w Q) rest a w
def SL(P:Program)(nt:Nat)(all rest:List Oper)(Q:AQ)(s:AS):Prop:= ∀M N a w,Fits M N s nt a w->
 wpStill P all.toArray w (fun b=> ∃s',s'.h=s.h∧s'.nx=s.nx∧Fits M N s' nt b w∧Q .normal s') rest a
def waits(o:Oper)(i:Nat):Bool:=o.after.toList.any fun e=>Region.binds .any e&&PJ e.on i
def looks(all:List Oper)(o x:Oper):Bool:=match x.dst with
 |some d=>(o.looksAt all.toArray).contains d
 |none=>kw
def gr:Nat->List Oper->Bool
 |_,[]=>jp
 |n,o::r=>(o.after.toList.all fun e=>!Region.binds .any e||PI e.on n)&&gr (n+1) r
structure Bs where
 M:Mem
 N:Nm
 n:Nat
 h:AH
 w:World
def Bs.ext(B:Bs)(M:Mem)(N:Nm)(s:AS)(w:World):Prop:=Ext B.M B.N (· <B.n) B.h B.w M N (· <s.nx) s.h w
def Kb(nt:Nat)(B:Bs)(Q:AQ):Exit->Act->World->Prop:=fun e x u=> ∃b j s',B.ext b j s' u∧Fits b j s' nt x u∧Q e s'
def aO(o:Oper):Bool:=match o.op with
 | .alloc _=>jp
 |_=>kw
def ny(P:Program)(M:Mem)(N:Nm)(s:AS)(B:Bs)(a:Act)(w:World)(o:Oper)(az:Nat):Prop:=
 ∃t v d,o.op= .alloc t∧(∀w,(zeroValue t).run P w= .ok v w)∧o.dst=io d∧a.tmps[d]? =io (.pointer (io ⟨az,0,is⟩))∧w.heap[az]? =io (.cells v.cells t (0,0))∧M az=is∧
  (∀i o,s.h.get i=io o->o.real=jp->N.az i≠az)∧B.w.heap.size<=az
structure lC (P:Program) (nt:Nat) (all:List Oper) (todo pend:List (Nat×Oper)) (B:Bs) (M:Mem) (N:Nm) (s:AS) (listed:Array Bool) (a:Act) (w:World):Prop where
 size:listed.size=all.length
 tl: ∀x∈todo,all[x.1]? =io x.2
 pl: ∀x∈pend,all[x.1]? =io x.2
 dj: ∀x∈pend,∀y∈todo,y.1≠x.1
 Im: ∀i o,all[i]? =io o->listed.getD i jp=kw->(i,o)∈todo∨(i,o)∈pend
 pw:pend.Pairwise fun x y=>looks all y.2 x.2=kw∧ ∀d,x.2.dst=io d->y.2.dst≠io d
 pp: ∀x∈pend,∀y∈pend,waits y.2 x.1=jp∨looks all y.2 x.2=kw
 pa: ∀y∈pend,∀x∈todo,aO x.2=jp->waits y.2 x.1=kw
 er: ∃bl:Nat->Nat,(∀x∈todo,listed.getD x.1 jp=jp->ny P M N s B a w x.2 (bl x.1))∧ ∀x∈todo,∀y∈todo,listed.getD x.1 jp=jp->listed.getD y.1 jp=jp->x.1≠y.1->bl x.1≠bl y.1
 ap: ∃b:Act,Fits M N s nt b w∧a.tmps.size=b.tmps.size∧a.defers=b.defers∧
  (∀d,(∀x∈pend,listed.getD x.1 jp=kw->x.2.dst≠io d)->(∀x∈todo,listed.getD x.1 jp=jp->x.2.dst≠io d)->a.tmps[d]? =b.tmps[d]?)∧
  (∀x∈pend,listed.getD x.1 jp=kw-> ∃v,YieldsAt P all.toArray w x.2 v b∧b.put x.2.dst v=b)
def im(P:Program)(nt:Nat)(all:List Oper):Prop:= ∀i o,all[i]? =io o->aO o=jp->
 o.guard=is∧(∃d,o.dst=io d∧d<nt)∧(∃t v,o.op= .alloc t∧ ∀w,(zeroValue t).run P w= .ok v w)∧(∀k,waits o k=kw)∧
 ∀k q,all[k]? =io q->k≠i->(waits q i=jp∨looks all q o=kw)∧ ∀d,o.dst=io d->q.dst≠io d
def DL(P:Program)(nt:Nat)(all:List Oper)(todo pend:List (Nat×Oper))(Q:AQ)(s:AS):Prop:=
 Region.noSelect all.toArray=jp->gr 0 all=jp->im P nt all-> ∀B M N listed a w b,B.ext M N s w->lC P nt all todo pend B M N s listed a w->listed.toList.count kw<=b->wpAny P .any all.toArray (Kb nt B Q) b listed a w
def putDst(nt:Nat)(o:Oper)(p:PV)(s:AS):Option AS:=
 match o.dst with
 |none=>io s
 |some d=>bif PI d nt then(match s with|⟨f,h,n⟩=>ta p fun b=>io ⟨(d,b)::f,h,n⟩) else is
theorem eQ{nt:Nat}{o:Oper}{p:PV}{s s':AS}(h:putDst nt o p s=io s')(hd:o.dst=is):s'=s:=by
 simp only[putDst,hd,Ph]at h;exact h.symm
theorem eP{nt:Nat}{o:Oper}{p:PV}{s s':AS}(h:putDst nt o p s=io s'){d:Nat}(hd:o.dst=io d):d<nt∧s'={s with f:=(d,p)::s.f}:=by
 simp only[putDst,hd]at h;cases hb:PI d nt with
 |false=>simp[hb]at h
 |true=>
  obtain⟨f,hh,n⟩:=s;simp only[hb,cond_true,dc,Ph]at h;exact⟨Pf hb,h.symm⟩
def eE(P:Program)(nt:Nat)(all:List Oper)(s:AS)(o:Oper):Prop:=
 ∀M N b w,Fits M N s nt b w-> ∃v,YieldsAt P all.toArray w o v b∧Fits M N s nt (b.put o.dst v) w
def aZ(pend:List (Nat×Oper))(o:Oper):List (Nat×Oper):=pend.filter fun x=>!waits o x.1
def UA(P:Program)(nt:Nat)(b:Code)(Q:AQ):Nat->AS->Prop
 |0,_=>False
 |n+1,s=>AW P nt b (fun e s'=>match e with| .normal=>UA P nt b Q n s'|e=>Q e s') s
inductive KI where
 |code (c:Code)
 |az (id:Nat)
 |ops (all rest:List Oper)
 |lp (R:AS->Prop)
 |qW (all rest:List Oper)
 |bW (all:List Oper) (todo pend:List (Nat×Oper))
 |BI (b:Code) (n:Nat)
 |CU
 |Ih (nt:Nat) (f:AF) (res:AS->Option PV) (o:Oper) (all rest:List Oper)
 |Ii (nt:Nat) (f:AF) (res:AS->Option PV) (j:Nat) (o:Oper) (all:List Oper) (todo pend:List (Nat×Oper))
def kp(P:Program):Nat->List KI->AQ->AQ
 |_,[],Q=>Q
 |nt,.code c::k,Q=>fun e s=>match e with| .normal=>AW P nt c (kp P nt k Q) s|e=>kp P nt k Q e s
 |nt,.ops all rest::k,Q=>fun e s=>match e with| .normal=>AL P nt all rest (kp P nt k Q) s|e=>kp P nt k Q e s
 |nt,.qW all rest::k,Q=>fun e s=>match e with| .normal=>SL P nt all rest (kp P nt k Q) s|e=>kp P nt k Q e s
 |nt,.bW all todo pend::k,Q=>fun e s=>match e with| .normal=>DL P nt all todo pend (kp P nt k Q) s|e=>kp P nt k Q e s
 |nt,.lp R::k,Q=>fun e s=>match e with| .normal=>R s|e=>kp P nt k Q e s
 |nt,.az id::k,Q=>fun e s=>match e with| .exit j=>if j=id then kp P nt k Q .normal s else kp P nt k Q (.exit j) s|e=>kp P nt k Q e s
 |nt,.BI b n::k,Q=>fun e s=>match e with| .normal=>UA P nt b (kp P nt k Q) n s|e=>kp P nt k Q e s
 |nt,.CU::k,Q=>fun e s=>match e with| .goto _=>False|e=>kp P nt k Q e s
 |_,.Ih nt f res o all rest::k,Q=>fun e s=>(e= .normal∨e= .ret)∧ ∃r s',res s=io r∧putDst nt o r ⟨f,s.h,s.nx⟩=io s'∧AL P nt all rest (kp P nt k Q) s'
 | _,.Ii nt f res j o all todo pend::k,Q=>fun e s=>(e= .normal∨e= .ret)∧ ∃r s',res s=io r∧putDst nt o r ⟨f,s.h,s.nx⟩=io s'∧
   (∀x∈aZ pend o,eE P nt all s' x.2)∧DL P nt all (todo.filter fun x=>!PJ x.1 j) (aZ pend o) (kp P nt k Q) s'
def GO(P:Program)(nt:Nat)(k:List KI)(Q:AQ)(s:AS):Prop:=kp P nt k Q .normal s
section
variable {P:Program} {nt:Nat} {Q:AQ} {k:List KI} {s:AS}
theorem AW.then{c:Code}{R:AQ}(h:AW P nt c R s){M:Mem}{N:Nm}{a:Act}{w:World}(hf:Fits M N s nt a w){Z:Exit->Act->World->Prop}
  (y: ∀e x b j u s',Ext M N (· <s.nx) s.h w j u (· <s'.nx) s'.h b->Fits j u s' nt x b->R e s'->Z e x b):c.wp P Z a w:=
 wp_mono (h M N a w hf) fun e x b ⟨j,u,s',h1,h2,h3⟩=>y e x b j u s' h1 h2 h3
theorem go_skip(h:GO P nt k Q s):GO P nt (.code .skip::k) Q s:=fun _ _ _ _ b=>wp_skip (.now b h)
theorem EJ{l:Nat}(h:GO P nt k Q s):GO P nt (.code (.label l)::k) Q s:=fun _ _ _ _ b=>wp_label (.now b h)
theorem go_ret(h:kp P nt k Q .ret s):GO P nt (.code .ret::k) Q s:=fun _ _ _ _ b=>wp_ret (.now b h)
theorem H8{id:Nat}(h:kp P nt k Q (.exit id) s):GO P nt (.code (.exit id)::k) Q s:=fun _ _ _ _ b=>wp_exit (.now b h)
theorem EH{c:Code}(h:GO P nt (.code c:: .CU::k) Q s):GO P nt (.code (.scope c)::k) Q s:=by
 intro M N a w y;refine wp_scope_straight (AW.then h y fun e B C u x s' A b j=>?_);cases e with
 |goto l=>exact j
 |_=>exact⟨u,x,s',A,b,j⟩
theorem LP{id:Nat}(h:GO P nt k Q s):GO P nt (.az id::k) Q s:=h
theorem LM{x y:Code}(h:GO P nt (.code x:: .code y::k) Q s):GO P nt (.code (.seq x y)::k) Q s:=by
 intro M N a w R;refine wp_seq (AW.then h R fun e a' w' D I s' C b B=>?_);cases e with
 |normal=>exact AW.then B b fun e a2 w2 G J Y A j u=>⟨G,J,Y,C.trans A,j,u⟩
 |_=>exact⟨D,I,s',C,b,B⟩
theorem EN{id:Nat}{x:Code}(h:GO P nt (.code x:: .az id::k) Q s):GO P nt (.code (.block id x)::k) Q s:=by
 intro M N a w D;refine wp_block (AW.then h D fun e G I y A s' C b u=>?_);cases e with
 |exit j=>
  simp only[kp]at u;simp only[Exit.inBlock];split
  .rename_i B;rw[am B]at u;exact⟨y,A,s',C,b,u⟩
  .rename_i B;rw[be B]at u;exact⟨y,A,s',C,b,u⟩
 |_=>exact⟨y,A,s',C,b,u⟩
theorem go_region{id:Nat}{ops:Array Oper}(h:GO P nt (.ops ops.toList ops.toList::k) Q s):GO P nt (.code (.region id ops kw)::k) Q s:=by
 intro M N a w b;refine wp_region_list ?_;have:=h M N a w b;simpa using this
theorem zx{all:List Oper}(h:GO P nt k Q s):GO P nt (.ops all []::k) Q s:=fun _ _ _ _ b=>wpList_nil (lK.now b h)
theorem Fits.bool{M:Mem}{N:Nm}{a:Act}{w:World}(hf:Fits M N s nt a w){c:Operand}{t:Bool}(hc:ev s.f c= .iv (.v (.bool t))):a.eval c= .bool t:=by
 have h:=aH hf.2.1 c;rw[hc]at h;generalize a.eval c=v at h;cases h with
 |iv _ _ h=>cases h with
  |v=>rfl
theorem Fits.put{M:Mem}{N:Nm}{a:Act}{w:World}(hf:Fits M N s nt a w)(d:Nat)(p:PV)(x:Value)(hd:d<nt)(hp:VR M N (· <s.nx) p x):Fits M N {s with f:=(d,p)::s.f} nt (a.put (io d) x) w:=
 ⟨hf.1,hf.2.1.put d p x (by rw[hf.2.2.2];exact hd) hp,hf.2.2.1,by simp[Act.put,hf.2.2.2]⟩
def setBool(s:AS)(c:Operand)(t:Bool):AS:=
 match c with
 | .tmp d=>match s with
  |⟨f,h,n⟩=>⟨(d,.kb t)::f,h,n⟩
 |_=>s
theorem Fits.setBool{M:Mem}{N:Nm}{a:Act}{w:World}(hf:Fits M N s nt a w){c:Operand}{t:Bool}(hc:ev s.f c= .iv (.v (.bool t))):Fits M N (setBool s c t) nt a w:=by
 cases c with
 |tmp d=>
  refine⟨hf.1,fun j=>?_,hf.2.2⟩;simp only[Al.setBool,AF.ay];split
  .rename_i b;subst b;have:=hf.bool (c:= .tmp j) hc;simp only[Act.eval]at this;rw[this];exact .kb _
  .exact hf.2.1 j
 |_=>exact hf
theorem s6{c:Operand}{x y:Code}{t:Bool}(hc:ev s.f c= .kb t)(h:GO P nt (.code (bif t then x else y)::k) Q s):GO P nt (.code (.cond c x y)::k) Q s:=by
 intro M N a w b;have hb:a.eval c= .bool t:=by
  have:=aH b.2.1 c;rw[hc]at this;generalize a.eval c=v at this;cases this;rfl
 refine wp_cond hb ?_;cases t
 .exact h M N a w b
 .exact h M N a w b
theorem Ib{c:Operand}{x y:Code}{t:Bool}(hc:ev s.f c= .iv (.v (.bool t)))(h1:t=jp->GO P nt (.code x::k) Q (setBool s c jp))(J:t=kw->GO P nt (.code y::k) Q (setBool s c kw)):
  GO P nt (.code (.cond c x y)::k) Q s:=by
 intro M N a w I;have A:=I.setBool hc;refine wp_cond_split (I.bool hc) (fun D=>?_) (fun D=>?_)
 .subst D;exact AW.then (h1 Z) A fun e a2 R B C G u b j=>⟨B,C,G,by cases c<;>exact u,b,j⟩
 .subst D;exact AW.then (J Z) A fun e a2 R B C G u b j=>⟨B,C,G,by cases c<;>exact u,b,j⟩
theorem oT{Q b:Exit->Act->World->Prop}(j: ∀e a w,Q e a w->b e a w)(h:LetsOut Q):LetsOut b:=let ⟨a,w,x⟩:=h;⟨a,w,j _ _ _ x⟩
theorem xS{o:Oper}{a:Act}{w:World}{K K':Act->World->Prop}{Q u:Exit->Act->World->Prop}(h: ∀a w,K a w->K' a w)(j: ∀e a w,Q e a w->u e a w)(hh:o.wp P a w K Q):o.wp P a w K' u:=by
 unfold Oper.wp at*
 generalize(execOp a.eval o).run P w=r at*
 cases r with
 |ok n w'=>
  cases n<;>simp only[Oper.upon]at hh ⊢ <;>
   first
    |exact h _ _ hh
    |exact Calls.mono hh (fun e y b=>by cases e<;>first|exact h _ _ b|exact oT j b|exact j _ _ _ b)
    |exact Rows.mono hh (fun _ _ b=>h _ _ b)
 |halt x w'=>cases x<;>simp only[Oper.upon]at hh ⊢ <;>exact j _ _ _ hh
theorem eG{ops:Array Oper}{Q u:Exit->Act->World->Prop}(b: ∀e a w,Q e a w->u e a w): ∀(l:List Oper) (a:Act) (w:World),wpList P ops Q l a w->wpList P ops u l a w
 | [],_,_,h=>b _ _ _ h
 |o::r,a,w,h=>by
  unfold wpList at*
  split
  .rename_i j;rw[am j]at h;exact h.imp (xS (eG b r) b) (fun⟨h1,h2⟩=>⟨h1,oT b h2⟩)
  .rename_i j;rw[be j]at h;exact eG b r _ _ h
theorem AL.later{all rest:List Oper}(h:AL P nt all rest Q s){M b:Mem}{N j:Nm}{s0:AS}{a:Act}{w u:World}(x:Ext b j (· <s0.nx) s0.h u M N (· <s.nx) s.h w)(hf:Fits M N s nt a w):
  wpList P all.toArray (lK nt b j s0 u Q) rest a w:=
 eG (fun _ _ _=>lK.later x) rest a w (h M N a w hf)
def OT(P:Program)(nt:Nat)(o:Oper)(s:AS)(R:AS->Prop):Prop:=
 ∀M N a w,Fits M N s nt a w-> ∀(K:Act->World->Prop) (Q:Exit->Act->World->Prop),
  (∀j u s' x b,Ext M N (· <s.nx) s.h w j u (· <s'.nx) s'.h b->Fits j u s' nt x b->R s'->K x b)->o.wp P a w K Q
theorem fR{o:Oper}(h:o.guard=is)(y:Nat->Option Bool):Region.wanted o y=jp:=by simp[Region.wanted,h]
theorem cz{all rest:List Oper}{o:Oper}{R:AS->Prop}(hg:o.guard=is)(ho:OT P nt o s R)(h: ∀s',R s'->GO P nt (.ops all rest::k) Q s'):GO P nt (.ops all (o::rest)::k) Q s:=by
 intro M N a w j;unfold wpList;rw[am (fR hg _)];refine .inl (ho M N a w j _ _ fun y A s' B C x b u=>?_);exact AL.later (h s' u) x b
def guardOf(all:List Oper)(f:AF)(j:Nat):Option (Nat×PV):=
 match all[j]? with
 |some o=>match o.dst with
  |some d=>io (d,f.get d)
  |none=>is
 |none=>is
theorem Fits.yielded{M:Mem}{N:Nm}{a:Act}{w:World}(hf:Fits M N s nt a w){all:List Oper}{j d:Nat}{t:Bool}(hg:guardOf all s.f j=io (d,.iv (.v (.bool t))))(hd:d<nt):Go.yielded all.toArray a.tmps j=io t:=by
 unfold guardOf at hg;cases ho:all[j]? with
 |none=>simp[ho]at hg
 |some o=>
  cases hod:o.dst with
  |none=>simp[ho,hod]at hg
  |some d'=>
   simp only[ho,hod,Ph,Pt]at hg;obtain⟨rfl,A⟩:=hg;have h1:=hf.2.1 d';rw[A]at h1;have b:d'<a.tmps.size:=by rw[hf.2.2.2];exact hd
   have u:a.tmps[d']? =io (a.tmps.getD d' undef):=by simp[Pg,b]
   have x:a.tmps.getD d' undef= .bool t:=by
    generalize a.tmps.getD d' undef=v at h1;cases h1 with
    |iv _ _ h=>cases h with
     |v=>rfl
   have y:all.toArray[j]? =io o:=by simpa using ho
   simp[Go.yielded,y,hod,u,x]
def fG(o:Oper)(s:AS):AS:=
 match o.dst with
 |some e=>match s with
  |⟨f,h,n⟩=>⟨(e,.iv (.v (.tuple #[])))::f,h,n⟩
 |none=>s
theorem Fits.skip{M:Mem}{N:Nm}{a:Act}{w:World}(hf:Fits M N s nt a w)(o:Oper):Fits M N (fG o s) nt (a.put o.dst undef) w:=by
 unfold fG;cases o.dst with
 |none=>exact hf
 |some e=>
  refine⟨hf.1,fun i=>?_,hf.2.2.1,by simp[Act.put,hf.2.2.2]⟩;simp only[AF.ay];by_cases b:i=e
  .rw[am b];subst b;have:(a.put (io i) undef).tmps.getD i undef=undef:=by
    simp only[Act.put,Pg,PM,if_true];split<;>rfl
   rw[this];exact .iv _ _ (.v _)
  .rw[be b];have:=hf.2.1 i;simp only[Act.put,Pg,PM]at this ⊢;rw[be (fun e=>b e.symm)];exact this
theorem gT(o:Oper)(s:AS):(fG o s).h=s.h∧(fG o s).nx=s.nx:=by unfold fG;cases o.dst<;>exact⟨rfl,rfl⟩
theorem iG(c:Operand)(t:Bool)(s:AS):(setBool s c t).h=s.h∧(setBool s c t).nx=s.nx:=by cases c<;>exact⟨rfl,rfl⟩
theorem AL.same{all rest:List Oper}{s':AS}(h:AL P nt all rest Q s')(e:s'.h=s.h∧s'.nx=s.nx){M:Mem}{N:Nm}{a:Act}{w:World}(hf:Fits M N s' nt a w):
  wpList P all.toArray (lK nt M N s w Q) rest a w:=by
 have:=h M N a w hf;refine eG (fun j b u ⟨M2,N2,s2,h1,h2,h3⟩=>⟨M2,N2,s2,?_,h2,h3⟩) rest a w this;rw[e.1,e.2]at h1;exact h1
theorem Fits.rQ{M:Mem}{N:Nm}{a:Act}{w:World}(hf:Fits M N s nt a w){all:List Oper}{j d:Nat}{t:Bool}(hg:guardOf all s.f j=io (d,.kb t))(hd:d<nt):Go.yielded all.toArray a.tmps j=io t:=by
 unfold guardOf at hg;cases ho:all[j]? with
 |none=>simp[ho]at hg
 |some o=>
  cases hod:o.dst with
  |none=>simp[ho,hod]at hg
  |some d'=>
   simp only[ho,hod,Ph,Pt]at hg;obtain⟨rfl,A⟩:=hg;have h1:=hf.2.1 d';rw[A]at h1;have b:d'<a.tmps.size:=by rw[hf.2.2.2];exact hd
   have u:a.tmps[d']? =io (a.tmps.getD d' undef):=by simp[Pg,b]
   have x:a.tmps.getD d' undef= .bool t:=by
    generalize a.tmps.getD d' undef=v at h1;cases h1;rfl
   have y:all.toArray[j]? =io o:=by simpa using ho
   simp[Go.yielded,y,hod,u,x]
theorem Fits.rP{M:Mem}{N:Nm}{a:Act}{w:World}(hf:Fits M N s nt a w){all:List Oper}{j d:Nat}{vs:Array Value}(hg:guardOf all s.f j=io (d,.iv (.v (.tuple vs)))):Go.yielded all.toArray a.tmps j=is:=by
 unfold guardOf at hg;cases ho:all[j]? with
 |none=>simp[ho]at hg
 |some o=>
  cases hod:o.dst with
  |none=>simp[ho,hod]at hg
  |some d'=>
   simp only[ho,hod,Ph,Pt]at hg;obtain⟨rfl,x⟩:=hg;have h1:=hf.2.1 d';rw[x]at h1;have b:a.tmps.getD d' undef= .tuple vs:=by
    generalize a.tmps.getD d' undef=v at h1;cases h1 with
    |iv _ _ h=>cases h with
     |v=>rfl
   have u:all.toArray[j]? =io o:=by simpa using ho
   rw[Pg]at b;cases h5:a.tmps[d']? with
   |none=>simp[Go.yielded,u,hod,h5]
   |some v=>
    rw[h5]at b;simp only[Qf]at b;subst b;simp[Go.yielded,u,hod,h5]
theorem ym{all rest:List Oper}{o:Oper}{j d:Nat}{b:Bool}{vs:Array Value}(hg:o.guard=io (j,b))(A:guardOf all s.f j=io (d,.iv (.v (.tuple vs))))(h:GO P nt (.ops all rest::k) Q (fG o s)):GO P nt (.ops all (o::rest)::k) Q s:=by
 intro M N a w x;have u:=x.rP A;unfold wpList;have y:Region.wanted o (Go.yielded all.toArray a.tmps)=kw:=by simp[Region.wanted,hg,u]
 rw[y,be (by simp)];exact AL.same (s:=s) h (gT _ _) (x.skip o)
theorem yn{all rest:List Oper}{o:Oper}{j d:Nat}{b t:Bool}(hg:o.guard=io (j,b))(B:guardOf all s.f j=io (d,.kb t))(hd:d<nt)
  (h:GO P nt (.ops all (bif t==b then{o with guard:=is}::rest else rest)::k) Q (bif t==b then s else fG o s)):GO P nt (.ops all (o::rest)::k) Q s:=by
 intro M N a w y;have u:=y.rQ B hd;unfold wpList;by_cases x:t=b
 .have A:Region.wanted o (Go.yielded all.toArray a.tmps)=jp:=by simp[Region.wanted,hg,u,x]
  have hb:(t==b)=jp:=by simp[x]
  rw[am A];rw[hb]at h;have:=h M N a w y;simp only[cond_true]at this;unfold wpList at this;rw[am (fR Z _)]at this;exact this
 .have A:Region.wanted o (Go.yielded all.toArray a.tmps)=kw:=by simp[Region.wanted,hg,u,x]
  have hb:(t==b)=kw:=by simp[x]
  rw[A,be (by simp)];rw[hb]at h;exact AL.same (s:=s) h (gT _ _) (y.skip o)
theorem EK{all rest:List Oper}{o:Oper}{j d:Nat}{b t:Bool}(hg:o.guard=io (j,b))(x:guardOf all s.f j=io (d,.iv (.v (.bool t))))(hd:d<nt)
  (h1:t=b->GO P nt (.ops all ({o with guard:=is}::rest)::k) Q (setBool s (.tmp d) b)) (I:t=!b->GO P nt (.ops all rest::k) Q (fG o (setBool s (.tmp d) (!b)))):
  GO P nt (.ops all (o::rest)::k) Q s:=by
 intro M N a w G;have A:=G.yielded x hd;have C:ev s.f (.tmp d)= .iv (.v (.bool t)):=by
  unfold guardOf at x;cases ho:all[j]? with
  |none=>simp[ho]at x
  |some o'=>
   cases hod:o'.dst with
   |none=>simp[ho,hod]at x
   |some d'=>
    simp only[ho,hod,Ph,Pt]at x;obtain⟨rfl,J⟩:=x;exact J
 have u:=G.setBool C;unfold wpList;by_cases B:t=b
 .have D:Region.wanted o (Go.yielded all.toArray a.tmps)=jp:=by simp[Region.wanted,hg,A,B]
  rw[am D];rw[B]at u;have:=AL.same (s:=s) (h1 B) (iG _ _ _) u;unfold wpList at this;rw[am (fR Z _)]at this;exact this
 .have D:Region.wanted o (Go.yielded all.toArray a.tmps)=kw:=by simp[Region.wanted,hg,A,B]
  have y:t=!b:=by cases t<;>cases b<;>simp_all
  rw[D,be (by simp)];rw[y]at u;exact AL.same (s:=s) (I y) ⟨(gT _ _).1.trans (iG _ _ _).1,(gT _ _).2.trans (iG _ _ _).2⟩ (u.skip o)
end
section
variable {P:Program} {nt:Nat} {Q:AQ} {k:List KI} {s:AS}
theorem Rel.drew{M:Mem}{N:Nm}{U:Nat->Prop}{h:AH}{w:World}(hr:Rel M N U h w):Rel M N U h {w with drawn:=w.drawn+1}:=
 ⟨hr.dZ,hr.used,hr.dM,fun i o b=>(hr.obj i o b).mono (.refl _) (.refl _ _) (fun _ h=>h) (hr.used i o b) Z,hr.inj⟩
theorem Fits.drew{M:Mem}{N:Nm}{a:Act}{w:World}(hf:Fits M N s nt a w):Fits M N s nt a {w with drawn:=w.drawn+1}:=⟨hf.1.drew,hf.2⟩
theorem Ext.drew{M:Mem}{N:Nm}{U:Nat->Prop}{h:AH}{w:World}:Ext M N U h w M N U h {w with drawn:=w.drawn+1}:=
 ⟨rfl,rfl,⟨rfl,QO _⟩,Ps _,fun _ _ _=>rfl,.refl _,fun b c h1 u=>by simp[h1]at u,.refl _ _,fun _ h=>h,fun i o x j=> .inr ⟨i,o,x,j,rfl⟩⟩
end
section
variable {P:Program} {M:Mem} {N:Nm} {w:World} {n:Nat} {h:AH}
def Nm.with(N:Nm)(n b e:Nat):Nm:={az:=fun i=>if i=n then b else N.az i,ext:=fun i=>if i=n then e else N.ext i}
theorem Nm.eH(N:Nm)(n b e:Nat):N.agree (N.with n b e) (· <n):=
 ⟨fun i j=>by simp[Nm.with,Su j],fun i j=>by simp[Nm.with,Su j]⟩
@[simp] theorem Nm.C4(N:Nm)(n b e:Nat):(N.with n b e).az n=b:=by simp[Nm.with]
@[simp] theorem Nm.Mh(N:Nm)(n b e:Nat):(N.with n b e).ext n=e:=by simp[Nm.with]
theorem Rel.lt(hr:Rel M N (· <n) h w){i:Nat}{o:AO}(hi:h.get i=io o)(b:o.real=jp):N.az i<w.heap.size:=(hr.obj i o hi).lt b
theorem Rel.xV(hr:Rel M N (· <n) h w):M w.heap.size=is:=by
 cases hm:M w.heap.size with
 |none=>rfl
 |some c=>have:=(hr.dZ _ _ hm).lt;omega
theorem Rel.alloc(hr:Rel M N (· <n) h w)(obj:Obj)(o:AO)(e:Nat)(ho: ∀C,C.az n=w.heap.size->C.ext n=e->N.agree C (· <n)->OR M C (· <n+1) (w.alloc obj) n o):
  ∃C,C.az n=w.heap.size∧C.ext n=e∧N.agree C (· <n)∧Ext M N (· <n) h w M C (· <n+1) ((n,io o)::h) (w.alloc obj)∧Rel M C (· <n+1) ((n,io o)::h) (w.alloc obj):=by
 have D:=N.eH n w.heap.size e;have u: ∀i p,AH.get ((n,io o)::h) i=io p->(i=n∧p=o)∨(i<n∧h.get i=io p):=by
  intro i p x;rw[AH.ay]at x;split at x
  .rename_i G;exact .inl ⟨G,by simpa using x.symm⟩
  .exact .inr ⟨hr.used i p x,x⟩
 refine⟨N.with n w.heap.size e,by simp,by simp,D,?_,?_⟩
 .refine⟨rfl,rfl,⟨rfl,Ps _⟩,by simp,fun b hb _=>wU w obj b hb,.refl _,fun b c h1 B=>by simp[h1]at B,D,fun i x=>by omega,fun i p x y=>?_⟩;rcases u i p x with⟨rfl,rfl⟩|⟨h1,B⟩
  .exact .inl (by simp)
  .exact .inr ⟨i,p,B,y,(D.az i h1).symm⟩
 .refine⟨fun b c hb=>?_,fun i p x=>?_,fun i p x y=>?_,fun i p x=>?_,fun i j p q x hj R Y A=>?_⟩
  .exact(hr.dZ b c hb).mono (wU w obj b (hr.dZ b c hb).lt)
  .rcases u i p x with⟨rfl,rfl⟩|⟨h1,B⟩<;>omega
  .rcases u i p x with⟨rfl,rfl⟩|⟨h1,B⟩
   .simpa using hr.xV
   .rw[D.az i h1];exact hr.dM i p B y
  .rcases u i p x with⟨rfl,rfl⟩|⟨h1,B⟩
   .exact ho _ (by simp) (by simp) D
   .cases y:p.real with
    |true=>exact(hr.obj i p B).mono (.refl _) D (fun i x=>by omega) h1 (wU w obj _ (hr.lt B y))
    |false=>
     cases p with
     |row sz es=>cases es with
      |nil=>exact .inl Z
      |cons=>cases y
     |bp l T=>cases l with
      |nil=>exact .inl Z
      |cons=>cases y
     |_=>cases y
  .rcases u i p x with⟨rfl,rfl⟩|⟨h1,B⟩<;>rcases u j q hj with⟨rfl,rfl⟩|⟨I,J⟩
   .rfl
   .rw[D.az j I]at A;simp at A;have:=hr.lt J Y;omega
   .rw[D.az i h1]at A;simp at A;have:=hr.lt B R;omega
   .rw[D.az i h1,D.az j I]at A;exact hr.inj i j p q B J R Y A
theorem Rel.FU(hr:Rel M N (· <n) h w)(sz:Nat):Ext M N (· <n) h w M N (· <n+1) ((n,io (.row sz []))::h) w∧Rel M N (· <n+1) ((n,io (.row sz []))::h) w:=by
 have u: ∀i p,AH.get ((n,io (.row sz []))::h) i=io p->(i=n∧p= .row sz [])∨(i<n∧h.get i=io p):=by
  intro i p x;rw[AH.ay]at x;split at x
  .rename_i C;exact .inl ⟨C,by simpa using x.symm⟩
  .exact .inr ⟨hr.used i p x,x⟩
 refine⟨⟨rfl,rfl,⟨rfl,Ps _⟩,Ps _,fun _ _ _=>rfl,.refl _,fun b c h1 A=>by simp[h1]at A,.refl _ _,fun i x=>by omega,fun i p x y=>?_⟩,⟨hr.dZ,fun i p x=>?_,fun i p x y=>?_,fun i p x=>?_,fun i j p q x J D G B=>?_⟩⟩
 .rcases u i p x with⟨rfl,rfl⟩|⟨h1,A⟩
  .cases y
  .exact .inr ⟨i,p,A,y,rfl⟩
 .rcases u i p x with⟨rfl,rfl⟩|⟨h1,A⟩<;>omega
 .rcases u i p x with⟨rfl,rfl⟩|⟨h1,A⟩
  .cases y
  .exact hr.dM i p A y
 .rcases u i p x with⟨rfl,rfl⟩|⟨h1,A⟩
  .exact .inl Z
  .exact(hr.obj i p A).mono (.refl _) (.refl _ _) (fun i x=>by omega) h1 Z
 .rcases u i p x with⟨rfl,rfl⟩|⟨h1,A⟩<;>rcases u j q J with⟨rfl,rfl⟩|⟨R,I⟩
  .rfl
  .cases D
  .cases G
  .exact hr.inj i j p q A I D G B
theorem Rel.write(hr:Rel M N (· <n) h w){i:Nat}{o0:AO}(hi:h.get i=io o0)(h0:o0.real=jp)(B:World)(o:AO)(Y:B.os=w.os)(G:B.tape=w.tape)(I:B.output=w.output)(a0:B.heap.size=w.heap.size)
  (hk: ∀b,b≠N.az i->B.heap[b]? =w.heap[b]?) (ho:OR M N (· <n) B i o) (hd:w.drawn<=B.drawn:=by first|exact Ps _|exact QO _):
  Ext M N (· <n) h w M N (· <n) ((i,io o)::h) B∧Rel M N (· <n) ((i,io o)::h) B:=by
 have u: ∀j p,AH.get ((i,io o)::h) j=io p->(j=i∧p=o)∨(j≠i∧h.get j=io p):=by
  intro j p A;rw[AH.ay]at A;split at A
  .rename_i C;exact .inl ⟨C,by simpa using A.symm⟩
  .rename_i C;exact .inr ⟨C,A⟩
 refine⟨⟨Y,G,⟨I,hd⟩,by omega,fun b hb hn=>hk b (fun e=>hn i o0 hi h0 e.symm),.refl _,fun b c h1 y=>by simp[h1]at y,.refl _ _,fun _ h=>h,fun j p A x=>?_⟩,?_⟩
 .rcases u j p A with⟨rfl,rfl⟩|⟨h1,y⟩
  .exact .inr ⟨j,o0,hi,h0,rfl⟩
  .exact .inr ⟨j,p,y,x,rfl⟩
 .refine⟨fun b c hb=>?_,fun j p A=>?_,fun j p A x=>?_,fun j p A=>?_,fun j k p q A J hp hq D=>?_⟩
  .have R:b≠N.az i:=fun e=>by
    have:=hr.dM i o0 hi h0;rw[<-e,hb]at this;simp at this
   exact(hr.dZ b c hb).mono (hk b R)
  .rcases u j p A with⟨rfl,rfl⟩|⟨h1,y⟩
   .exact hr.used j o0 hi
   .exact hr.used j p y
  .rcases u j p A with⟨rfl,rfl⟩|⟨h1,y⟩
   .exact hr.dM j o0 hi h0
   .exact hr.dM j p y x
  .rcases u j p A with⟨rfl,rfl⟩|⟨h1,y⟩
   .exact ho
   .cases x:p.real with
    |true=>exact(hr.obj j p y).mono (.refl _) (.refl _ _) (fun _ h=>h) (hr.used j p y) (hk _ (fun e=>h1 (hr.inj j i p o0 y hi x h0 e)))
    |false=>
     cases p with
     |row sz es=>cases es with
      |nil=>exact .inl Z
      |cons=>cases x
     |bp l T=>cases l with
      |nil=>exact .inl Z
      |cons=>cases x
     |_=>cases x
  .rcases u j p A with⟨rfl,rfl⟩|⟨h1,y⟩<;>rcases u k q J with⟨rfl,rfl⟩|⟨h3,h4⟩
   .rfl
   .exact hr.inj _ _ _ _ hi h4 h0 hq D
   .exact hr.inj _ _ _ _ y hi hp h0 D
   .exact hr.inj _ _ _ _ y h4 hp hq D
end
def yP(ty:Ty)(s:AS)(t:TypeId)(p x:PV):Option AS:=
 match ty t with
 |some e=>match x.cells with
  |some xs=>match PJ xs.length e.size,eB xs with
   |true,jp=>match p with
    | .ptr i off=>match s.h.get i with
     |some (.cells cs T0)=>match Rw (off+xs.length) cs.length with
      |true=>match s with
       |⟨f,h,n⟩=>force (setCells cs off xs) fun b=>io ⟨f,(i,io (.cells b T0))::h,n⟩
      |false=>is
     |_=>is
    |_=>is
   |_,_=>is
  |none=>is
 |none=>is
def newObj(s:AS)(o:AO):AS:=match s with|⟨f,h,n⟩=>⟨f,(n,io o)::h,n+1⟩
def nw(s:AS)(g:Nat->PV)(o:AO):Option (PV×AS):=match s with|⟨f,h,n⟩=>io (g n,⟨f,(n,io o)::h,n+1⟩)
theorem sB(s:AS)(g:Nat->PV)(o:AO):nw s g o=io (g s.nx,newObj s o):=by cases s;rfl
def vT:Nat->List PV->List PV
 |0,_=> []
 |n+1,l=>l++vT n l
theorem jB: ∀(n:Nat) (l:List PV),(vT n l).length=n*l.length
 |0,l=>by simp[vT]
 |n+1,l=>by simp[vT,jB n l,QZ,Nat.add_comm]
theorem xy: ∀(n:Nat) (l:List PV) (j:Nat) (p:PV),(vT n l)[j]? =io p->l[j % l.length]? =io p
 |0,l,j,p,h=>by simp[vT]at h
 |n+1,l,j,p,h=>by
  simp only[vT]at h;rcases Ql j l.length with hj|hj
  .rw[PD hj]at h;rw[Nat.mod_eq_of_lt hj];exact h
  .rw[PB hj]at h;have:=xy n l _ p h;rwa[Nat.mod_eq_sub_mod hj]
def lu(sz:Nat):Nat->List PV->List (List PV)
 |0,_=> []
 |n+1,cs=>cs.take sz::lu sz n (cs.drop sz)
def wK{α:Type _}(sz:Nat):Nat->List PV->(List (List PV)->α)->α
 |0,_,k=>k []
 |n+1,cs,k=>force (cs.take sz) fun c=>force (cs.drop sz) fun d=>wK sz n d fun r=>k (c::r)
theorem vq{α:Type _}(sz:Nat): ∀(n:Nat) (cs:List PV) (k:List (List PV)->α),wK sz n cs k=k (lu sz n cs)
 |0,_,_=>rfl
 |n+1,cs,k=>by simp only[wK,force_eq,vq sz n,lu]
theorem nv(sz:Nat): ∀(n:Nat) (cs:List PV),(lu sz n cs).length=n
 |0,_=>rfl
 |n+1,cs=>by simp[lu,nv sz n]
theorem lr(sz:Nat): ∀(n:Nat) (cs:List PV) (k:Nat) (e:List PV),cs.length=n*sz->(lu sz n cs)[k]? =io e->e.length=sz∧ ∀j,j<sz->e[j]? =cs[k*sz+j]?
 |0,cs,k,e,_,h=>by simp[lu]at h
 |n+1,cs,k,e,hl,h=>by
  simp only[lu]at h;rw[QZ]at hl;cases k with
  |zero=>
   simp at h;subst h;refine⟨by simp;omega,fun j b=>by simp[b]⟩
  |succ k=>
   obtain⟨h1,u⟩:=lr sz n (cs.drop sz) k e (by simp;omega) (by simpa using h);refine⟨h1,fun j b=>?_⟩;rw[u j b,Qj,QZ];congr 1;omega
def JR(ty:Ty)(e:bE):Bool:=
 match e.k with
 | .cM ((0,u)::_)=>match ty u with
  |some ⟨.cM ((0,q)::_),_,_,_,_⟩=>match ty q with
   |some ⟨.aM (.pointer v),_,_,_,_⟩=>PJ u v
   |_=>kw
  |_=>kw
 |_=>kw
def M4(ty:Ty)(t:TypeId):Bool:=
 match ty t with
 |some e=>JR ty e
 |none=>kw
def Em(ty:Ty)(s:AS):Op->Option (PV×AS)
 | .alloc t=>match ty t with
  |some e=>match JR ty e with
   |true=>force (aK e.zero) fun b=>nw s (fun n=> .ptr n 0) (.cells b (io t))
   |false=>force (aK e.zero) fun b=>nw s (fun n=> .ptr n 0) (.cells b)
  |none=>is
 | .box t x=>match(ev s.f x).cells with
  |some b=>match eB b with
   |true=>match M4 ty t with
    |true=>force b fun j=>nw s (fun n=> .ptr n 0) (.cells j (io t))
    |false=>force b fun j=>nw s (fun n=> .ptr n 0) (.cells j)
   |false=>is
  |none=>is
 | .store t a x=>match yP ty s t (ev s.f a) (ev s.f x) with
  |some s'=>io (.any,s')
  |none=>is
 | .makeMap _ is=>nw s (fun n=> .mp n) .ff
 | .makeMap t (io r)=>match ev s.f r,ty t with
  | .iv (.v (.int _ _)),io ⟨.aM (.map _ _),_,_,_,_⟩=>nw s (fun n=> .mp n) .ff
  |_,_=>is
 | .range t x=>match ev s.f x,ty t with
  | .iv (.dQ kc e _ _ m),io ⟨.aM (.map _ _),_,_,_,_⟩=>nw s (fun n=> .ptr n 0) (.bI kc e m [] is)
  |_,_=>is
 | .buildSlice t len parts=>match ty t with
  |some e=>match e.k with
   | .aM (.slice u)=>match ty u with
    |some eu=>match PJ eu.zero.cells.size eu.size,PI 0 (len*eu.size),Rw (len*eu.size) 16777216 with
     |true,jp,jp=>match nr (fun i=>io (i*eu.size,eu.size)) (vT len (aK eu.zero)) (parts.toList.map fun x=>(x.1,ev s.f x.2)) with
      |some b=>wK eu.size len b fun es=>nw s (fun n=> .sl n 0 len eu.size) (.row eu.size es)
      |none=>is
     |_,_,_=>is
    |none=>is
   |_=>is
  |none=>is
 |_=>is
section
variable {P:Program} {ty:Ty} {nt:Nat} {s:AS}
theorem dB{M:Mem}{N:Nm}{a:Act}{w:World}(hf:Fits M N s nt a w){obj:Obj}{o:AO}{b:Nm}(j:Ext M N (· <s.nx) s.h w M b (· <s.nx+1) ((s.nx,io o)::s.h) (w.alloc obj))
  (hr:Rel M b (· <s.nx+1) ((s.nx,io o)::s.h) (w.alloc obj)):Fits M b (newObj s o) nt a (w.alloc obj):=
 ⟨hr,hf.2.1.ext j,hf.2.2⟩
theorem OT.value{o:Oper}{s1 s':AS}{p:PV}(hp:putDst nt o p s1=io s')
  (h: ∀M N a w,Fits M N s nt a w-> ∃x u b j,(execOp a.eval o).run P w= .ok (.value x) u∧Ext M N (· <s.nx) s.h w b j (· <s1.nx) s1.h u∧Fits b j s1 nt a u∧VR b j (· <s1.nx) p x):OT P nt o s (fun t=>t=s'):=by
 intro M N a w B K Z hk;obtain⟨x,u,b,j,D,A,y,C⟩:=h M N a w B;unfold Oper.wp;rw[D];simp only[Oper.upon];cases hd:o.dst with
 |none=>
  have:=eQ hp hd;subst this;exact hk b j s' _ u A y rfl
 |some d=>
  obtain⟨h1,rfl⟩:=eP hp hd;exact hk b j {s1 with f:=(d,p)::s1.f} _ u A (y.put d p x h1 C) rfl
theorem OT.skip{o:Oper}{s1 s':AS}(hp:putDst nt o .any s1=io s')
  (h: ∀M N a w,Fits M N s nt a w-> ∃b j u,(execOp a.eval o).run P w= .ok .skip b∧Ext M N (· <s.nx) s.h w j u (· <s1.nx) s1.h b∧Fits j u s1 nt a b):OT P nt o s (fun t=>t=s'):=by
 intro M N a w A K Z hk;obtain⟨b,j,u,B,y,x⟩:=h M N a w A;unfold Oper.wp;rw[B];simp only[Oper.upon];cases hd:o.dst with
 |none=>
  have:=eQ hp hd;subst this;exact hk j u s' _ b y x rfl
 |some d=>
  obtain⟨h1,rfl⟩:=eP hp hd;exact hk j u {s1 with f:=(d,.any)::s1.f} _ b y (x.put d .any undef h1 (.any _)) rfl
theorem BO(f0:bx P ty){t:TypeId}{p x:PV}{s1:AS}(h:yP ty s t p x=io s1){M:Mem}{N:Nm}{a:Act}{w:World}(hf:Fits M N s nt a w){u y:Value}(hu:VR M N (· <s.nx) p u)(hy:VR M N (· <s.nx) x y):
  ∃w',(Instr.storeAt t u y).run P w= .ok () w'∧Ext M N (· <s.nx) s.h w M N (· <s1.nx) s1.h w'∧Fits M N s1 nt a w':=by
 unfold yP at h;split at h
 .rename_i e he;split at h
  .rename_i C i0;split at h
   .rename_i h1 h2;split at h
    .rename_i i a0;split at h
     .rename_i cs T0 A;split at h
      .rename_i c0;obtain⟨sf,sh,sn⟩:=s;simp only[force_eq,Ph]at h;subst h;simp only at A;cases hu with
       |ptr _ _ hU=>
        obtain⟨hl,hv⟩:=mv hy i0;have e0:y.cells.size=e.size:=by rw[<-hl];exact PC h1
        obtain⟨c,T,g1,g2,g3,g4,g5⟩:=hf.1.obj i _ A;have d0:a0+C.length<=c.size:=by rw[<-g3];exact Pf c0
        have J: ∀v∈y.cells.toList,v.oneCell'=jp:=by
         intro v g0;obtain⟨j,hj⟩:=P9 g0;have D:j<y.cells.toList.length:=(Pj.1 hj).1;have G:C[j]? =io (C[j]'(by simp at D;omega)):=Pl _;have:=(hv j _ G).one (gJ h2 j _ G);rw[Pg]at this;have b0:y.cells[j]? =io v:=by simpa using hj
         rw[b0]at this;exact this
        have Y:=run_storeCells_at P (N.az i) a0 T y.cells.toList 0 c w g1 (by simp;omega) J;refine⟨w.setRow (N.az i) (c.toList.take (a0+0)++y.cells.toList++c.toList.drop (a0+0+y.cells.toList.length)).toArray,?_,?_⟩
        .have B:=aL (w:=w) (f0 t e he);simp only[Instr.storeAt,Instr.sureAddr,pure_bind,storeVar,Sem.run_bind,B,Result.andThen_ok,e0,ne_eq,not_true_eq_false,if_false,Y]
        .have R:=setRow_heap w (N.az i) c (c.toList.take (a0+0)++y.cells.toList++c.toList.drop (a0+0+y.cells.toList.length)).toArray T (0,0) g1;have I: ∀b,b≠N.az i->(w.setRow (N.az i) (c.toList.take (a0+0)++y.cells.toList++c.toList.drop (a0+0+y.cells.toList.length)).toArray).heap[b]? =w.heap[b]? :=by
          intro b hb;simp only[World.setRow,PZ];rw[be (fun e=>hb e.symm)]
         have:=hf.1.write A Z (w.setRow (N.az i) (c.toList.take (a0+0)++y.cells.toList++c.toList.drop (a0+0+y.cells.toList.length)).toArray) (.cells (setCells cs a0 C) T0) Z Z Z (by simp) I
          ⟨_,T,R,by simp;omega,by rw[cO];simp;omega,fun j q hq=>?_,g5⟩
         .exact⟨this.1,this.2,hf.2.1,hf.2.2⟩
         .rcases gd cs a0 C j q hq with⟨k1,k2⟩|⟨k1,k2⟩
          .have:=hv _ _ k2;have D:j-a0<C.length:=(Pj.1 k2).1;rw[Pg]at this ⊢;have e1:(c.toList.take (a0+0)++y.cells.toList++c.toList.drop (a0+0+y.cells.toList.length)).toArray[j]? =y.cells[j-a0]? :=by
            simp only[Qg];rw[PD (by simp;omega),PB (by simp;omega)];simp only[Qy,Rt,PN];congr 1;omega
           rw[e1];exact this
          .have:=g4 _ _ k2;rw[Pg]at this ⊢;have e1:(c.toList.take (a0+0)++y.cells.toList++c.toList.drop (a0+0+y.cells.toList.length)).toArray[j]? =c[j]? :=by
            simp only[Qg];rcases k1 with k1|k1
            .rw[PH,PD (by simp;omega),P8,am (by omega),PN]
            .rw[PB (by simp;omega),Qj,PN];congr 1;simp;omega
           rw[e1];exact this
      .cases h
     .cases h
    .cases h
   .cases h
  .cases h
 .cases h
theorem El(G:bx P ty){o:Oper}{p:PV}{s1 s':AS}(h:Em ty s o.op=io (p,s1))(hp:putDst nt o p s1=io s'):OT P nt o s (fun t=>t=s'):=by
 cases ho:o.op with
 |alloc t=>
  rw[ho]at h;simp only[Em,sB]at h;split at h
  .rename_i e he;obtain⟨R,f0,h⟩: ∃R,xb R t∧io (PV.ptr s.nx 0,newObj s (.cells (aK e.zero) R))=io (p,s1):=by
    split at h
    .exact⟨io t,fun x J=>by cases J;rfl,by rw[<-h,force_eq]⟩
    .exact⟨is,.none _,by rw[<-h,force_eq]⟩
   simp only[Ph,Pt]at h;obtain⟨rfl,rfl⟩:=h;refine OT.value hp fun M N a w C=>?_
   obtain⟨B,h1,h2,h3,D,I⟩:=C.1.alloc (.cells e.zero.cells t) (.cells (aK e.zero) R) e.zero.cells.size (fun B g1 g2 g3=>
    ⟨e.zero.cells,t,by rw[g1];exact heap_alloc_new w _,g2.symm,(ew (M:=M) (N:=B) (U:=(· <s.nx+1)) e.zero).1,(ew e.zero).2,f0⟩)
   refine⟨.pointer (io ⟨w.heap.size,0,is⟩),_,M,B,?_,D,dB C D I,?_⟩
   .simp only[execOp,ho];have hz:=c5 (w:=w) (G t e he);simp[Instr.alloc,hz,newVar,newRow]
   .have:=VR.ptr (M:=M) (N:=B) (U:=(· <s.nx+1)) s.nx 0 (by omega);rw[h1]at this;exact this
  .cases h
 |box t x=>
  rw[ho]at h;simp only[Em,sB]at h;split at h
  .rename_i cs c0;split at h
   .rename_i a1;obtain⟨R,f0,h⟩: ∃R,xb R t∧io (PV.ptr s.nx 0,newObj s (.cells cs R))=io (p,s1):=by
     split at h
     .exact⟨io t,fun x J=>by cases J;rfl,by rw[<-h,force_eq]⟩
     .exact⟨is,.none _,by rw[<-h,force_eq]⟩
    simp only[Ph,Pt]at h;obtain⟨rfl,rfl⟩:=h;refine OT.value hp fun M N a w C=>?_;obtain⟨hl,hv⟩:=mv (aH C.2.1 x) c0
    obtain⟨B,h1,h2,h3,D,I⟩:=C.1.alloc (.cells (a.eval x).cells t) (.cells cs R) (a.eval x).cells.size (fun B g1 g2 g3=>
     ⟨(a.eval x).cells,t,by rw[g1];exact heap_alloc_new w _,g2.symm,hl,fun j q hq=>(hv j q hq).mono (.refl _) g3 (fun i hi=>by omega),f0⟩)
    refine⟨.pointer (io ⟨w.heap.size,0,is⟩),_,M,B,?_,D,dB C D I,?_⟩
    .simp only[execOp,ho];simp[Instr.box,newVar,newRow]
    .have:=VR.ptr (M:=M) (N:=B) (U:=(· <s.nx+1)) s.nx 0 (by omega);rw[h1]at this;exact this
   .cases h
  .cases h
 |store t a x=>
  rw[ho]at h;simp only[Em,sB]at h;split at h
  .rename_i s2 hs;simp only[Ph,Pt]at h;obtain⟨rfl,rfl⟩:=h;refine OT.skip hp fun M N b w C=>?_;obtain⟨w',h1,h2,h3⟩:=BO (P:=P) G hs C (aH C.2.1 a) (aH C.2.1 x);refine⟨w',M,N,?_,h2,h3⟩;simp only[execOp,ho];simp[h1]
  .cases h
 |makeMap t r=>
  rw[ho]at h;cases r with
  |some r=>
   simp only[Em,sB]at h;split at h
   .rename_i q n _ _ _ _ _ _ hr he;have hu:=(G _ _ he).2.1.1;simp only[Ph,Pt]at h;obtain⟨rfl,rfl⟩:=h;refine OT.value hp fun M N a w C=>?_
    obtain⟨B,h1,h2,h3,D,I⟩:=C.1.alloc (.map #[] 0) .ff 0 (fun B g1 g2 g3=>
     (by rw[g1];exact heap_alloc_new w _:(w.alloc (.map #[] 0)).heap[B.az s.nx]? =_))
    have g0:=aH C.2.1 r;rw[hr]at g0;have b1:a.eval r= .int q n:=by
     generalize a.eval r=y at g0;cases g0 with
     |iv _ _ h=>cases h;rfl
    refine⟨.map (io w.heap.size),_,M,B,?_,D,dB C D I,?_⟩
    .simp only[execOp,ho];simp[Instr.makeMap,b1,run_underlying hu,asInt,asIntOf]
    .have:=VR.mp (M:=M) (N:=B) (U:=(· <s.nx+1)) s.nx (by omega);rw[h1]at this;exact this
   .cases h
  |none=>
   simp only[Em,sB,Ph,Pt]at h;obtain⟨rfl,rfl⟩:=h;refine OT.value hp fun M N a w C=>?_
   obtain⟨B,h1,h2,h3,D,I⟩:=C.1.alloc (.map #[] 0) .ff 0 (fun B g1 g2 g3=>
    (by rw[g1];exact heap_alloc_new w _:(w.alloc (.map #[] 0)).heap[B.az s.nx]? =_))
   refine⟨.map (io w.heap.size),_,M,B,?_,D,dB C D I,?_⟩
   .simp only[execOp,ho];simp[Instr.makeMap]
   .have:=VR.mp (M:=M) (N:=B) (U:=(· <s.nx+1)) s.nx (by omega);rw[h1]at this;exact this
 |range t x=>
  rw[ho]at h;simp only[Em,sB]at h;split at h
  .rename_i V kc e z zv m kt et _ _ _ _ s0 he;have hu:=(G _ _ he).2.1.1;simp only[Ph,Pt]at h;obtain⟨rfl,rfl⟩:=h;refine OT.value hp fun M N a w C=>?_;have J:=aH C.2.1 x;rw[s0]at J;generalize hv:a.eval x=y at J
   cases J with
   |iv _ _ hi=>cases hi with
    |dQ _ _ _ _ _ b ents clock hb hs hk hv' hz hi' hc=>
     obtain⟨B,h1,h2,h3,D,I⟩:=C.1.alloc (.mapIter (io b) clock #[] clock) (.bI kc e m [] is) 0 (fun B g1 g2 g3=>
      .inr ⟨b,ents,clock, #[],by rw[g1];exact heap_alloc_new w _,hb,⟨hs,hk,hv',hi',hc⟩,rfl,by simp,P6,by simp⟩)
     have a0:w.heap[b]? =io (.map ents clock):=C.1.dZ _ _ hb;refine⟨.pointer (io ⟨w.heap.size,0,is⟩),_,M,B,?_,D,dB C D I,?_⟩
     .simp only[execOp,ho,hv];simp[Instr.range,run_underlying hu,getObj,Sem.run,a0,Result.andThen]
     .have:=VR.ptr (M:=M) (N:=B) (U:=(· <s.nx+1)) s.nx 0 (by omega);rw[h1]at this;exact this
  .cases h
 |buildSlice t len parts=>
  rw[ho]at h;simp only[Em,sB]at h;split at h
  .rename_i e he;split at h
   .rename_i u hk;split at h
    .rename_i A k0;split at h
     .rename_i p0 q0 r0;split at h
      .rename_i cs c0;rw[vq]at h;simp only[Ph,Pt]at h;obtain⟨rfl,rfl⟩:=h;have j0:A.zero.cells.size=A.size:=PC p0;have n0:0<len*A.size:=Pf q0;have i1:len*A.size<=16777216:=Pf r0;have i0:0<A.size:=Nat.pos_of_ne_zero fun e=>by simp[e]at n0
       have w0:0<len:=Nat.pos_of_ne_zero fun e=>by simp[e]at n0
       have f1:len<=len*A.size:=Nat.le_mul_of_pos_right _ i0;have b0:=(G t e he).2.1;rw[hk]at b0;refine OT.value hp fun M N a w C=>?_;have d0:(aK A.zero).length=A.size:=by rw[(ew (M:=M) (N:=N) (U:=(· <s.nx)) A.zero).1,j0]
       obtain⟨e0,h3,D⟩:=o8 (M:=M) (N:=N) (U:=(· <s.nx)) (w5:=(parts.map fun x=>(x.1,a.eval x.2)).toList) (ys:=(Sk (len*A.size)).map (A.zero.cells[· % A.zero.cells.size]!)) c0 (by simp) (fun j x y J hy=>by
        rw[Pp,Pr]at J;obtain⟨z,hz,rfl⟩:=J;have e1:parts[j]? =io z:=by simpa using hz
        have:io (z.1,a.eval z.2)=io y:=by rw[<-hy];simp[e1]
        simp only[Ph]at this;subst this
        exact⟨rfl,aH C.2.1 z.2⟩) (by
        refine⟨by rw[jB,d0];simp,fun j p hj=>?_⟩;have I:=xy _ _ _ _ hj;have t0:j<len*A.size:=by
         have:=(Pj.1 hj).1;rwa[jB,d0]at this
        rw[d0]at I;have h6:=(ew (M:=M) (N:=N) (U:=(· <s.nx)) A.zero).2 _ _ I;have h7:((Sk (len*A.size)).map (A.zero.cells[· % A.zero.cells.size]!)).getD j undef=A.zero.cells.getD (j % A.size) undef:=by
         have hm:j % A.size<A.zero.cells.size:=by rw[j0];exact Nat.mod_lt _ i0
         have J:(Sk (len*A.size))[j]? =io j:=by simp[t0]
         rw[Pg,RI,J];simp only[Qt,Qf,j0];rw[Pg,getElem!_pos A.zero.cells (j % A.size) hm,PR hm];rfl
        rw[h7];exact h6)
       have Y:cs.length=len*A.size:=by
        have:(vT len (aK A.zero)).length=cs.length:=by
         have:=o9 c0;exact this.symm
        rw[<-this,jB,d0]
       have m0:e0.size=len*A.size:=by rw[<-D.1,Y]
       obtain⟨B,h1,h2,h8,h9,o0⟩:=C.1.alloc (.cells e0 u) (.row A.size (lu A.size len cs)) e0.size (fun B g1 g2 g3=>
        .inr ⟨i0,e0,u,by rw[g1];exact heap_alloc_new w _,g2.symm,by rw[nv,m0];exact Ps _,fun k e hk=>(lr _ _ _ _ _ Y hk).1,fun k e j p hk hj=>by
         have v0:j<A.size:=by rw[<-(lr _ _ _ _ _ Y hk).1];exact(Pj.1 hj).1
         have:=(lr _ _ _ _ _ Y hk).2 j v0;rw[hj]at this
         exact(D.2 _ _ this.symm).mono (.refl _) g3 (fun i hi=>by omega)⟩)
       refine⟨.slice (io ⟨w.heap.size,0,is⟩) len len,_,M,B,?_,h9,dB C h9 o0,?_⟩
       .simp only[execOp,ho];have hz:=c5 (w:=w) (G u A k0);have d1:=aL (w:=w) (G u A k0);have x0: ¬len*A.size=0:=by omega
        have z0: ¬len*A.size>2 ^ 24:=by omega
        simp only[Instr.buildSlice,Sem.run_bind,run_underlying b0.1,Result.andThen_ok,d1,be z0,be x0,hz,Sem.run_pure];rw[h3];simp[newRow]
       .have:=VR.sl (M:=M) (N:=B) (U:=(· <s.nx+1)) s.nx 0 len A.size len (by omega) w0 (Ps _) (by simp only[maxLen];omega) (by rw[h2,m0];simp);rw[h1,Ru]at this;exact this
      .cases h
     .cases h
    .cases h
   .cases h
  .cases h
 |_=>rw[ho]at h;simp[Em]at h
end
mutual
def PV.cv(σ:Nat->Nat):PV->PV
 | .iv x=> .iv x
 | .agg cs=> .agg (dy σ cs)
 | .bq cs=> .bq (dy σ cs)
 | .ptr i off=> .ptr (σ i) off
 | .cL i sz k off=> .cL (σ i) sz k off
 | .ej z i=> .ej z (σ i)
 | .mP i o n=> .mP (σ i) o n
 | .sl i off len sz=> .sl (σ i) off len sz
 | .mp i=> .mp (σ i)
 | .b5 fn first caps=> .b5 fn (dy σ first) (dy σ caps)
 | .kb b=> .kb b
 | .any=> .any
def dy(σ:Nat->Nat):List PV->List PV
 | []=> []
 |p::r=>PV.cv σ p::dy σ r
end
theorem bJ(σ:Nat->Nat): ∀l:List PV,dy σ l=l.map (PV.cv σ)
 | []=>rfl
 |p::r=>by simp[dy,bJ σ r]
def AO.cv(σ:Nat->Nat):AO->AO
 | .cells cs T=> .cells (dy σ cs) T
 | .row sz es=> .row sz (es.map (dy σ))
 | .bp l T=> .bp l T
 | .ff=> .ff
 | .map kc ev z zv dv m=> .map kc ev z zv dv m
 | .bI kc ev m l cu=> .bI kc ev m l cu
 | .dJ s p=> .dJ s p
 | .gI kc e z zv dv m bs c=> .gI kc e z zv dv m bs c
 | .dO q c l=> .dO (q.cv σ) c l
theorem AO.bV(σ:Nat->Nat)(o:AO):(o.cv σ).real=o.real:=by
 cases o with
 |row sz es=>cases es<;>rfl
 |bp l T=>cases l<;>rfl
 |_=>rfl
def vU(σ:Nat->Nat):AH->AH
 | []=> []
 |(i,is)::r=>(σ i,is)::vU σ r
 |(i,io o)::r=>(σ i,io (o.cv σ))::vU σ r
def Nm.comp(N:Nm)(σ:Nat->Nat):Nm:={az:=fun i=>N.az (σ i),ext:=fun i=>N.ext (σ i)}
section
variable {M:Mem} {N:Nm} {U:Nat->Prop} {σ:Nat->Nat}
theorem VR.cv{p:PV}{x:Value}(h:VR M (N.comp σ) (fun i=>U (σ i)) p x):VR M N U (p.cv σ) x:=by
 induction h with
 |iv x y h=>exact .iv x y h
 |agg cs ys hl hr ih=>
  refine .agg _ _ (by simpa[bJ]using hl) (fun j p u=>?_);rw[bJ,Pp,Pr]at u;obtain⟨q,A,rfl⟩:=u;exact ih j q A
 |bq cs ys hl hr ih=>
  refine .bq _ _ (by simpa[bJ]using hl) (fun j p u=>?_);rw[bJ,Pp,Pr]at u;obtain⟨q,A,rfl⟩:=u;exact ih j q A
 |ptr i off h=>exact .ptr _ _ h
 |cL i sz k off h=>exact .cL _ _ _ _ h
 |ej z i h=>exact .ej _ _ h
 |mP i o n h=>exact .mP _ _ _ h
 |sl i off len sz cap h h0 hl hc he=>exact .sl _ _ _ _ _ h h0 hl hc he
 |lR i sz h=>exact .lR _ _ h
 |sle i sz cap h hc he=>exact .sle _ _ _ h hc he
 |mp i h=>exact .mp _ h
 |b5 fn first caps f' c' h1 h2 hr1 hr2 ih1 ih2=>
  refine .b5 _ _ _ _ _ (by simpa[bJ]using h1) (by simpa[bJ]using h2) (fun j p u=>?_) (fun j p u=>?_)
  .rw[bJ,Pp,Pr]at u;obtain⟨q,A,rfl⟩:=u;exact ih1 j q A
  .rw[bJ,Pp,Pr]at u;obtain⟨q,A,rfl⟩:=u;exact ih2 j q A
 |kb b=>exact .kb b
 |any x=>exact .any x
theorem VR.ql: ∀{q:PV} {x:Value},VR M N U q x-> ∀{p:PV},q=p.cv σ->VR M (N.comp σ) (fun i=>U (σ i)) p x:=by
 intro q x h
 induction h with
 |iv x y h=>intro p u;cases p<;>simp[PV.cv]at u;subst u;exact .iv _ _ h
 |agg cs ys hl hr ih=>
  intro p u;cases p<;>simp[PV.cv]at u;subst u;refine .agg _ _ (by simpa[bJ]using hl) (fun j p A=>ih j (p.cv σ) (by rw[bJ,Pp,A];rfl) Z)
 |bq cs ys hl hr ih=>
  intro p u;cases p<;>simp[PV.cv]at u;subst u;refine .bq _ _ (by simpa[bJ]using hl) (fun j p A=>ih j (p.cv σ) (by rw[bJ,Pp,A];rfl) Z)
 |ptr i off h=>intro p u;cases p<;>simp[PV.cv]at u;obtain⟨rfl,rfl⟩:=u;exact VR.ptr (N:=N.comp σ) (U:=fun i=>U (σ i)) _ _ h
 |cL i sz k off h=>intro p u;cases p<;>simp[PV.cv]at u;obtain⟨rfl,rfl,rfl,rfl⟩:=u;exact VR.cL (N:=N.comp σ) (U:=fun i=>U (σ i)) _ _ _ _ h
 |ej z i h=>intro p u;cases p<;>simp[PV.cv]at u;obtain⟨rfl,rfl⟩:=u;exact VR.ej (N:=N.comp σ) (U:=fun i=>U (σ i)) _ _ h
 |mP i o n h=>intro p u;cases p<;>simp[PV.cv]at u;obtain⟨rfl,rfl,rfl⟩:=u;exact VR.mP (N:=N.comp σ) (U:=fun i=>U (σ i)) _ _ _ h
 |sl i off len sz cap h h0 hl hc he=>intro p u;cases p<;>simp[PV.cv]at u;obtain⟨rfl,rfl,rfl,rfl⟩:=u;exact VR.sl (N:=N.comp σ) (U:=fun i=>U (σ i)) _ _ _ _ _ h h0 hl hc he
 |lR i sz h=>intro p u;cases p<;>simp[PV.cv]at u;obtain⟨rfl,rfl,rfl,rfl⟩:=u;exact VR.lR (N:=N.comp σ) (U:=fun i=>U (σ i)) _ _ h
 |sle i sz cap h hc he=>intro p u;cases p<;>simp[PV.cv]at u;obtain⟨rfl,rfl,rfl,rfl⟩:=u;exact VR.sle (N:=N.comp σ) (U:=fun i=>U (σ i)) _ _ _ h hc he
 |mp i h=>intro p u;cases p<;>simp[PV.cv]at u;subst u;exact VR.mp (N:=N.comp σ) (U:=fun i=>U (σ i)) _ h
 |b5 fn first caps f' c' h1 h2 hr1 hr2 ih1 ih2=>
  intro p u;cases p<;>simp[PV.cv]at u;obtain⟨rfl,rfl,rfl⟩:=u;refine .b5 _ _ _ _ _ (by simpa[bJ]using h1) (by simpa[bJ]using h2) (fun j p A=>ih1 j (p.cv σ) (by rw[bJ,Pp,A];rfl) Z) (fun j p A=>ih2 j (p.cv σ) (by rw[bJ,Pp,A];rfl) Z)
 |kb b=>intro p u;cases p<;>simp[PV.cv]at u;subst u;exact .kb _
 |any x=>intro p u;cases p<;>simp[PV.cv]at u;exact .any _
theorem OR.cv{w:World}{i:Nat}{o:AO}(h:OR M (N.comp σ) (fun i=>U (σ i)) w i o):OR M N U w (σ i) (o.cv σ):=by
 cases o with
 |cells cs T0=>
  obtain⟨c,T,h1,x,C,D,G⟩:=h;refine⟨c,T,h1,x,by simpa[bJ]using C,fun j p A=>?_,G⟩;rw[bJ,Pp,Pr]at A;obtain⟨q,I,rfl⟩:=A;exact(D j q I).cv
 |row sz es=>
  rcases h with rfl|⟨h0,c,T,h1,x,C,D,G⟩
  .exact .inl Z
  refine .inr ⟨h0,c,T,h1,x,by simpa using C,fun k e y=>?_,fun k e j p y A=>?_⟩
  .rw[Pp,Pr]at y;obtain⟨B,u,rfl⟩:=y;rw[bJ,PS];exact D k B u
  .rw[Pp,Pr]at y;obtain⟨B,u,rfl⟩:=y;rw[bJ,Pp,Pr]at A;obtain⟨q,I,rfl⟩:=A;exact(G k B j q u I).cv
 |bp l T=>exact h
 |ff=>exact h
 |map kc ev z zv dv m=>exact h
 |bI kc ev m l cu=>exact h
 |dJ s p=>exact h
 |gI kc ev z zv dv m bs c=>exact h
 |dO q c l=>obtain⟨b,h1,x⟩:=h;exact⟨b,h1.cv,x⟩
theorem OR.ql{w:World}{i:Nat}{o:AO}(h:OR M N U w (σ i) (o.cv σ)):OR M (N.comp σ) (fun i=>U (σ i)) w i o:=by
 cases o with
 |cells cs T0=>
  obtain⟨c,T,h1,u,x,y,A⟩:=h;exact⟨c,T,h1,u,by simpa[bJ]using x,fun j p C=>(y j (p.cv σ) (by rw[bJ,Pp,C];rfl)).ql Z,A⟩
 |row sz es=>
  rcases h with h|⟨D,c,T,h1,u,x,y,A⟩
  .exact .inl (by simpa using h)
  refine .inr ⟨D,c,T,h1,u,by simpa using x,fun k e B=>?_,fun k e j p B C=>?_⟩
  .have:=y k (dy σ e) (by rw[Pp,B];rfl);simpa[bJ]using this
  .exact(A k (dy σ e) j (p.cv σ) (by rw[Pp,B];rfl) (by rw[bJ,Pp,C];rfl)).ql Z
 |bp l T=>exact h
 |ff=>exact h
 |map kc ev z zv dv m=>exact h
 |bI kc ev m l cu=>exact h
 |dJ s p=>exact h
 |gI kc ev z zv dv m bs c=>exact h
 |dO q c l=>obtain⟨b,h1,u⟩:=h;exact⟨b,h1.ql Z,u⟩
end
def sig(L:List Nat)(n:Nat)(i:Nat):Nat:=bif PI i L.length then L.getD i 0 else n+(i-L.length)
theorem iu{L:List Nat}{n i:Nat}(h:i<L.length):sig L n i=L[i]:=by
 have:PI i L.length=jp:=Qh h;simp[sig,this,h]
theorem nL{L:List Nat}{n i:Nat}(h:L.length<=i):sig L n i=n+(i-L.length):=by
 have:PI i L.length=kw:=by
  cases hb:PI i L.length with
  |false=>rfl
  |true=>have:=Pf hb;omega
 simp[sig,this]
theorem su{σ:Nat->Nat}: ∀(h:AH) (j:Nat) (o:AO),(vU σ h).get j=io o->(∀i k,i∈h.map Qi->σ i=σ k->i=k)-> ∃i p,j=σ i∧h.get i=io p∧o=p.cv σ
 | [],j,o,hj,_=>by simp[vU,AH.get]at hj
 |(i,is)::r,j,o,hj,hi=>by
  simp only[vU]at hj;rw[AH.ay]at hj;split at hj
  .cases hj
  .rename_i u;obtain⟨k,p,h1,x,y⟩:=su r j o hj (fun a b A=>hi a b (Pu _ A));refine⟨k,p,h1,?_,y⟩;rw[AH.ay,be (fun e=>u (by rw[h1,e]))];exact x
 |(i,io q)::r,j,o,hj,hi=>by
  simp only[vU]at hj;rw[AH.ay]at hj;split at hj
  .rename_i B;exact⟨i,q,B,by rw[AH.ay,am Z],by simpa using hj.symm⟩
  .rename_i u;obtain⟨k,p,h1,x,y⟩:=su r j o hj (fun a b A=>hi a b (Pu _ A));refine⟨k,p,h1,?_,y⟩;rw[AH.ay,be (fun e=>u (by rw[h1,e]))];exact x
def c8:Nat->List AO->AH
 |_,[]=> []
 |n,o::r=>(n,io o)::c8 (n+1) r
theorem pU: ∀(os:List AO) (n i:Nat),(c8 n os).get i=if n<=i then os[i-n]? else is
 | [],n,i=>by simp[c8,AH.get]
 |o::r,n,i=>by
  simp only[c8];rw[AH.ay,pU r (n+1) i];by_cases h:i=n
  .subst h;simp
  .by_cases b:n<=i
   .rw[be h,am (by omega),am b,show i-n=(i-(n+1))+1 by omega];simp
   .rw[be h,be (by omega),be b]
def il(P:Program)(k:FuncId):Prop:= ∀(args:Array Value) (w:World),(callFunc k args).run P w= .ok (.enter k args) w
theorem bf {P:Program} {k:FuncId} {fn:Func} {c:Code} (hf:P.funcs[k]? =io fn) (hb:fn.body=io c) (hn:(fn.name== "runtime.NumGoroutine")=kw):il P k:=by
 intro args w;have b: ¬fn.name= "runtime.NumGoroutine" :=by simpa using hn
 simp[callFunc,program,Sem.run,hf,hb,b]
def Fn(P:Program)(k:FuncId)(args:List PV)(os:List AO)(R:PV->AH->Nat->Prop):Prop:=
 il P k∧ ∀M N w (vs:List Value),Rel M N (· <os.length) (c8 0 os) w->args.length=vs.length->(∀(j:Nat) (p:PV),args[j]? =io p->VR M N (· <os.length) p (vs.getD j undef))->
  Calls P k vs.toArray w fun e B=> ∃x u y r A b,e= .returned x∧R r A b∧Ext M N (· <os.length) (c8 0 os) w u y (· <b) A B∧Rel u y (· <b) A B∧VR u y (· <b) r x
def CH:List Nat->AH
 | []=> []
 |j::r=>(j,is)::CH r
def AH.keys:AH->List Nat
 | []=> []
 |(i,_)::r=>i::AH.keys r
theorem AH.get_append: ∀(a b:AH) (j:Nat),AH.get (a++b) j=if j∈a.keys then a.get j else b.get j
 | [],b,j=>by simp[AH.keys]
 |(i,o)::r,b,j=>by
  rw[QN,AH.ay,AH.ay,AH.get_append r b j];by_cases h:j=i
  .simp[h,AH.keys]
  .simp[h,AH.keys]
theorem vo: ∀L:List Nat,(CH L).keys=L
 | []=>rfl
 |j::r=>by simp[CH,AH.keys,vo r]
theorem yv: ∀(L:List Nat) (j:Nat),(CH L).get j=is
 | [],_=>rfl
 |i::r,j=>by rw[CH,AH.ay,yv r j];split<;>rfl
theorem Aq{L:List Nat}{n:Nat}(hnd:L.Nodup)(u: ∀j∈L,j<n): ∀i k,sig L n i=sig L n k->i=k:=by
 intro i k h;rcases Ql i L.length with hi|hi<;>rcases Ql k L.length with hk|hk
 .rw[iu hi,iu hk]at h;have x:=Qu.1 hnd;rcases Rz i k with b|he|hgt
  .exact absurd h (x i k hi hk b)
  .exact he
  .exact absurd h.symm (x k i hk hi hgt)
 .rw[iu hi,nL hk]at h;have:=u _ (P3 hi);omega
 .rw[nL hi,iu hk]at h;have:=u _ (P3 hk);omega
 .rw[nL hi,nL hk]at h;omega
section
variable {P:Program} {nt:Nat} {s:AS}
def aX(s:AS)(L:List Nat)(b:AH)(j:Nat):AS:={f:=s.f,h:=vU (sig L s.nx) b++(CH L++s.h),nx:=s.nx+(j-L.length)}
theorem Fn.calls{k:FuncId}{args:List PV}{os:List AO}{R:PV->AH->Nat->Prop}(hc:Fn P k args os R){L:List Nat}(hnd:L.Nodup)(hL: ∀j∈L,j<s.nx)
  (i0:L.map s.h.get=os.map fun o=>io (o.cv (sig L s.nx))) {M:Mem} {N:Nm} {w:World} (hr:Rel M N (· <s.nx) s.h w) {vs:List Value} (hl:args.length=vs.length)
  (hv: ∀(j:Nat) (p:PV),args[j]? =io p->VR M N (· <s.nx) (p.cv (sig L s.nx)) (vs.getD j undef)):
  Calls P k vs.toArray w fun e w'=> ∃x M' N' r h' n',e= .returned x∧R r h' n'∧Ext M N (· <s.nx) s.h w M' N' (· <(aX s L h' n').nx) (aX s L h' n').h w'∧
   Rel M' N' (· <(aX s L h' n').nx) (aX s L h' n').h w'∧VR M' N' (· <(aX s L h' n').nx) (r.cv (sig L s.nx)) x:=by
 have b0:L.length=os.length:=by simpa using congrArg List.length i0
 have hU:(fun i=>sig L s.nx i<s.nx)=(· <os.length):=by
  funext i
  apply propext;rcases Ql i L.length with hi|hi
  .rw[iu hi];exact⟨fun _=>by omega,fun _=>hL _ (P3 hi)⟩
  .rw[nL hi];omega
 have e0: ∀i (hi:i<L.length),s.h.get L[i]=(os[i]?).map (AO.cv (sig L s.nx)):=by
  intro i hi;have:=congrArg (fun l=>l[i]?) i0;simp only[Pp,Pl hi,Qt]at this;have I:os[i]? =io (os[i]'(by omega)):=Pl (by omega);rw[I]at this ⊢;simpa using this
 have A: ∀i o,(c8 0 os).get i=io o->i<L.length∧s.h.get (sig L s.nx i)=io (o.cv (sig L s.nx)):=by
  intro i o hi;rw[pU,am (PA _),RX]at hi;have c0:i<L.length:=by rw[b0];exact(Pj.1 hi).1
  refine⟨c0,?_⟩;rw[iu c0,e0 i c0,hi];rfl
 have g0:Rel M (N.comp (sig L s.nx)) (· <os.length) (c8 0 os) w:=by
  refine⟨hr.dZ,fun i o hi=>by rw[<-b0];exact(A i o hi).1,fun i o hi u=>hr.dM _ _ (A i o hi).2 ((AO.bV _ o).trans u),fun i o hi=>?_,fun i j o p hi B I hp C=>?_⟩
  .have:=OR.ql (hr.obj _ _ (A i o hi).2);rw[hU]at this;exact this
  .exact Aq hnd hL i j (hr.inj _ _ _ _ (A i o hi).2 (A j p B).2 ((AO.bV _ o).trans I) ((AO.bV _ p).trans hp) C)
 refine(hc.2 M (N.comp (sig L s.nx)) w vs g0 hl (fun j p hp=>by have:=(hv j p hp).ql Z;rw[hU]at this;exact this)).mono ?_;rintro e w' ⟨x,M',N',r,h',n',rfl,hR,hx,hr',hvr⟩;have k0:os.length<=n':=Rj fun c0=>by have:=hx.ule n' c0;omega
 let N2:Nm:={az:=fun j=>if j<s.nx then N.az j else N'.az (L.length+(j-s.nx)),ext:=fun j=>if j<s.nx then N.ext j else N'.ext (L.length+(j-s.nx))}
 have J:N.agree N2 (· <s.nx):=⟨fun i hi=>by simp[N2,hi],fun i hi=>by simp[N2,hi]⟩
 have Y: ∀i,N2.az (sig L s.nx i)=N'.az i∧N2.ext (sig L s.nx i)=N'.ext i:=by
  intro i;rcases Ql i L.length with hi|hi
  .have h1:sig L s.nx i<s.nx:=by rw[iu hi];exact hL _ (P3 hi)
   have y:=hx.nm.az i (by omega);have G:=hx.nm.ext i (by omega);simp only[Nm.comp]at y G;simp[N2,h1,y,G]
  .rw[nL hi];have h1: ¬s.nx+(i-L.length)<s.nx:=by omega
   have y:L.length+(s.nx+(i-L.length)-s.nx)=i:=by omega
   constructor<;>simp only[N2,be h1,y]
 have a0:N'.agree (N2.comp (sig L s.nx)) (· <n'):=⟨fun i _=>(Y i).1,fun i _=>(Y i).2⟩
 have d0: ∀i,i<n'->sig L s.nx i<s.nx+(n'-L.length):=by
  intro i hi;rcases Ql i L.length with h1|h1
  .rw[iu h1];have:=hL _ (P3 h1);omega
  .rw[nL h1];omega
 have D: ∀j o,(aX s L h' n').h.get j=io o->(∃i p,j=sig L s.nx i∧h'.get i=io p∧o=p.cv (sig L s.nx))∨(j∉L∧s.h.get j=io o):=by
  intro j o B;simp only[aX]at B;rw[AH.get_append]at B;split at B
  .exact .inl (su h' j o B (fun i k _ h=>Aq hnd hL i k h))
  .rw[AH.get_append]at B;split at B
   .rw[yv]at B;cases B
   .rename_i hd;rw[vo]at hd;exact .inr ⟨hd,B⟩
 have f0: ∀j o,j∉L->s.h.get j=io o->o.real=jp->w'.heap[N.az j]? =w.heap[N.az j]? :=by
  intro j o B I u;refine hx.fN _ (hr.lt I u) (fun i p hi hp he=>?_);obtain⟨h1,y⟩:=A i p hi;have:=hr.inj _ _ _ _ y I ((AO.bV _ p).trans hp) u he;rw[iu h1]at this;exact B (this▸P3 h1)
 refine⟨x,M',N2,r,h',n',rfl,hR,?_,?_,?_⟩
 .refine⟨hx.os,hx.tape,hx.output,hx.size,fun b hb j0=>hx.fN b hb (fun i o hi I he=>j0 _ _ (A i o hi).2 ((AO.bV _ o).trans I) he),hx.ov,fun b c h1 y=>?_,J,fun i hi=>by simp only[aX];omega,fun j o B u=>?_⟩
  .rcases hx.gx b c h1 y with G|⟨i,o,G,I,h4⟩
   .exact .inl G
   .exact .inr ⟨_,_,(A i o G).2,(AO.bV _ o).trans I,h4⟩
  .rcases D j o B with⟨i,p,rfl,h1,rfl⟩|⟨h1,y⟩
   .rw[AO.bV]at u;rw[(Y i).1];rcases hx.fK i p h1 u with G|⟨k,q,G,hq,h4⟩
    .exact .inl G
    .exact .inr ⟨_,_,(A k q G).2,(AO.bV _ q).trans hq,h4⟩
   .exact .inr ⟨j,o,y,u,(J.az j (hr.used j o y)).symm⟩
 .refine⟨hr'.dZ,fun j o B=>?_,fun j o B u=>?_,fun j o B=>?_,fun i j o p hi B I hp C=>?_⟩
  .rcases D j o B with⟨i,p,rfl,h1,rfl⟩|⟨h1,y⟩
   .exact d0 i (hr'.used i p h1)
   .have:=hr.used j o y;simp only[aX];omega
  .rcases D j o B with⟨i,p,rfl,h1,rfl⟩|⟨h1,y⟩
   .rw[AO.bV]at u;rw[(Y i).1];exact hr'.dM i p h1 u
   .rw[J.az j (hr.used j o y)];cases hm:M' (N.az j) with
    |none=>rfl
    |some c=>
     rcases hx.gx _ c (hr.dM j o y u) hm with G|⟨i,q,G,hq,h4⟩
     .have:=hr.lt y u;omega
     .obtain⟨h5,h6⟩:=A i q G;have:=hr.inj _ _ _ _ h6 y ((AO.bV _ q).trans hq) u h4;rw[iu h5]at this;exact absurd (this▸P3 h5) h1
  .rcases D j o B with⟨i,p,rfl,h1,rfl⟩|⟨h1,y⟩
   .refine OR.cv ?_;exact(hr'.obj i p h1).mono (.refl _) a0 (fun i hi=>d0 i hi) (hr'.used i p h1) Z
   .cases u:o.real with
    |true=>exact(hr.obj j o y).mono hx.ov J (fun i hi=>by simp only[aX];omega) (hr.used j o y) (f0 j o h1 y u)
    |false=>
     cases o with
     |row sz es=>cases es with
      |nil=>exact .inl Z
      |cons=>cases u
     |bp l T=>cases l with
      |nil=>exact .inl Z
      |cons=>cases u
     |_=>cases u
  .rcases D i o hi with⟨i',o',rfl,h1,rfl⟩|⟨h1,y⟩<;>rcases D j p B with⟨j',p',rfl,G,rfl⟩|⟨G,h4⟩
   .rw[AO.bV]at I hp;rw[(Y i').1,(Y j').1]at C;rw[hr'.inj i' j' o' p' h1 G I hp C]
   .rw[AO.bV]at I;rw[(Y i').1,J.az j (hr.used j p h4)]at C;rcases hx.fK i' o' h1 I with h5|⟨k,q,h5,hq,h6⟩
    .have:=hr.lt h4 hp;omega
    .obtain⟨h7,h8⟩:=A k q h5;have:=hr.inj _ _ _ _ h8 h4 ((AO.bV _ q).trans hq) hp (h6.trans C);rw[iu h7]at this;exact absurd (this▸P3 h7) G
   .rw[AO.bV]at hp;rw[J.az i (hr.used i o y),(Y j').1]at C;rcases hx.fK j' p' G hp with h5|⟨k,q,h5,hq,h6⟩
    .have:=hr.lt y I;omega
    .obtain⟨h7,h8⟩:=A k q h5;have:=hr.inj _ _ _ _ h8 y ((AO.bV _ q).trans hq) I (h6.trans C.symm);rw[iu h7]at this;exact absurd (this▸P3 h7) h1
   .rw[J.az i (hr.used i o y),J.az j (hr.used j p h4)]at C;exact hr.inj _ _ _ _ y h4 I hp C
 .exact VR.cv (hvr.mono (.refl _) a0 (fun i hi=>d0 i hi))
def PV.plain:PV->PV
 | .kb b=> .iv (.v (.bool b))
 |p=>p
theorem VR.plain{M:Mem}{N:Nm}{U:Nat->Prop}{p:PV}{x:Value}(h:VR M N U p x):VR M N U p.plain x:=by
 cases h with
 |kb=>exact .iv _ _ (.v _)
 |iv _ _ h1=>exact .iv _ _ h1
 |agg _ _ h1 h2=>exact .agg _ _ h1 h2
 |bq _ _ h1 h2=>exact .bq _ _ h1 h2
 |ptr _ _ h1=>exact .ptr _ _ h1
 |cL _ _ _ _ h1=>exact .cL _ _ _ _ h1
 |ej _ _ h1=>exact .ej _ _ h1
 |mP _ _ _ h1=>exact .mP _ _ _ h1
 |sl _ _ _ _ _ h1 h2 h3 h4 h5=>exact .sl _ _ _ _ _ h1 h2 h3 h4 h5
 |lR _ _ h1=>exact .lR _ _ h1
 |sle _ _ _ h1 h2 h3=>exact .sle _ _ _ h1 h2 h3
 |mp _ h1=>exact .mp _ h1
 |b5 _ _ _ _ _ h1 h2 h3 h4=>exact .b5 _ _ _ _ _ h1 h2 h3 h4
 |any=>exact .any _
def bM(f:AF)(c:Call):Option (FuncId×List PV):=
 match c.callee with
 | .value g=>match ev f g with
  | .b5 (.func k) first caps=>io (k,first++(c.args.toList.map (fun x=>(ev f x).plain)++caps))
  |_=>is
 |_=>is
theorem E2{M:Mem}{N:Nm}{a:Act}{w:World}(hf:Fits M N s nt a w){o:Oper}{c:Call}(ho:o.op= .call c){k:FuncId}{y:List PV}(ha:bM s.f c=io (k,y))(hc:il P k):
  ∃vs:List Value,(execOp a.eval o).run P w= .ok (.enter k vs.toArray) w∧y.length=vs.length∧ ∀(j:Nat) (p:PV),y[j]? =io p->VR M N (· <s.nx) p (vs.getD j undef):=by
 unfold bM at ha;obtain⟨callee,b,B⟩:=c;cases callee with
 |value g=>
  simp only at ha;have C:=aH hf.2.1 g;split at ha
  .rename_i k' first caps hev;simp only[Ph,Pt]at ha;obtain⟨rfl,rfl⟩:=ha;rw[hev]at C;generalize R:a.eval g=v at C;cases C with
   |b5 _ _ _ f' c' h1 h2 hr1 hr2=>
    have I:(b.toList.map (fun x=>(ev s.f x).plain)).length=(b.map a.eval).size∧ ∀j p,(b.toList.map (fun x=>(ev s.f x).plain))[j]? =io p->VR M N (· <s.nx) p ((b.map a.eval).getD j undef):=by
     refine⟨by simp,fun j p u=>?_⟩;rw[Pp,Pr]at u;obtain⟨x,Y,rfl⟩:=u;have G:b[j]? =io x:=by simpa using Y
     rw[Pg,RI,G];exact(aH hf.2.1 x).plain
    have A:(execOp a.eval o).run P w= .ok (.enter k' (f'++b.map a.eval++c')) w:=by
     simp only[execOp,ho,resolve,R,Deferred.ofValue,pure_bind,invoke];exact hc _ w
    have D: ∀(j:Nat) (p:PV),(first++(b.toList.map (fun x=>(ev s.f x).plain)++caps))[j]? =io p->VR M N (· <s.nx) p ((f'++b.map a.eval++c').toList.getD j undef):=by
     intro j p u;have J:(b.toList.map (fun x=>(ev s.f x).plain)).length=(b.map a.eval).size:=I.1;rw[Pk,R0,R0,PH];rcases Ql j first.length with hj|hj
     .rw[PD hj]at u;rw[PD (by simpa[<-h1]using hj)];have:=hr1 j p u;rw[Pg]at this;simpa using this
     .rw[PB hj]at u;rw[PB (by simpa[<-h1]using hj)];rcases Ql (j-first.length) (b.toList.map (fun x=>(ev s.f x).plain)).length with hj2|hj2
      .rw[PD hj2]at u;rw[PD (by simp[<-h1]at hj2 ⊢;omega)];have:=I.2 _ p u;rw[Pg]at this;simpa[<-h1]using this
      .rw[PB hj2]at u;rw[PB (by simp[<-h1]at hj2 ⊢;omega)];have:=hr2 _ p u;rw[Pg]at this;simpa[<-h1]using this
    refine⟨(f'++b.map a.eval++c').toList,by rw[QW];exact A,?_,D⟩;simp[<-h1,<-h2]
  .cases ha
 |_=>simp at ha
theorem lv{o:Oper}{c:Call}(ho:o.op= .call c){k:FuncId}{D:List PV}(ha:bM s.f c=io (k,D)){args:List PV}{os:List AO}{R:PV->AH->Nat->Prop}(hc:Fn P k args os R)
  {L:List Nat} (hnd:L.Nodup) (hL: ∀j∈L,j<s.nx) (c0:L.map s.h.get=os.map fun o=>io (o.cv (sig L s.nx))) (y:D=dy (sig L s.nx) args) {S:AS->Prop}
  (hS: ∀r B C,R r B C-> ∃s',putDst nt o (r.cv (sig L s.nx)) (aX s L B C)=io s'∧S s'):OT P nt o s S:=by
 intro M N a w G K Z hk;unfold bM at ha;obtain⟨callee,b,a0⟩:=c;cases callee with
 |value g=>
  simp only at ha;have hg:=aH G.2.1 g;split at ha
  .rename_i k' first caps hev;simp only[Ph,Pt]at ha;obtain⟨rfl,rfl⟩:=ha;rw[hev]at hg;generalize hv:a.eval g=v at hg;cases hg with
   |b5 _ _ _ f' c' h1 h2 hr1 hr2=>
    have hm:(b.toList.map (fun x=>(ev s.f x).plain)).length=(b.map a.eval).size∧ ∀j p,(b.toList.map (fun x=>(ev s.f x).plain))[j]? =io p->VR M N (· <s.nx) p ((b.map a.eval).getD j undef):=by
     refine⟨by simp,fun j p u=>?_⟩;rw[Pp,Pr]at u;obtain⟨x,hx,rfl⟩:=u;have e0:b[j]? =io x:=by simpa using hx
     rw[Pg,RI,e0];exact(aH G.2.1 x).plain
    have Y:(execOp a.eval o).run P w= .ok (.enter k' (f'++b.map a.eval++c')) w:=by
     simp only[execOp,ho,resolve,hv,Deferred.ofValue,pure_bind,invoke];exact hc.1 _ w
    unfold Oper.wp;rw[Y];simp only[Oper.upon];have d0: ∀(j:Nat) (p:PV),(first++(b.toList.map (fun x=>(ev s.f x).plain)++caps))[j]? =io p->VR M N (· <s.nx) p ((f'++b.map a.eval++c').toList.getD j undef):=by
     intro j p u;have f0:(b.toList.map (fun x=>(ev s.f x).plain)).length=(b.map a.eval).size:=hm.1;rw[Pk,R0,R0,PH];rcases Ql j first.length with hj|hj
     .rw[PD hj]at u;rw[PD (by simpa[<-h1]using hj)];have:=hr1 j p u;rw[Pg]at this;simpa using this
     .rw[PB hj]at u;rw[PB (by simpa[<-h1]using hj)];rcases Ql (j-first.length) (b.toList.map (fun x=>(ev s.f x).plain)).length with hj2|hj2
      .rw[PD hj2]at u;rw[PD (by simp[<-h1]at hj2 ⊢;omega)];have:=hm.2 _ p u;rw[Pg]at this;simpa[<-h1]using this
      .rw[PB hj2]at u;rw[PB (by simp[<-h1]at hj2 ⊢;omega)];have:=hr2 _ p u;rw[Pg]at this;simpa[<-h1]using this
    have J:args.length=(f'++b.map a.eval++c').toList.length:=by
     have:=congrArg List.length y;simp[bJ]at this;simp[<-h1,<-h2];omega
    have A:=hc.calls hnd hL c0 G.1 J (fun j p u=>by
     refine d0 j (p.cv (sig L s.nx)) ?_
     rw[y,bJ,Pp,u];rfl)
    rw[QW]at A;refine A.mono ?_;rintro e w' ⟨x,M',N',r,B,C,rfl,hR,hx,hr,hvr⟩;obtain⟨s',u,b0⟩:=hS r B C hR;have I:Fits M' N' (aX s L B C) nt a w':=⟨hr,G.2.1.ext hx,G.2.2⟩
    show K (a.put o.dst x) w';cases hd:o.dst with
    |none=>
     have:=eQ u hd;subst this;exact hk M' N' _ _ w' hx I b0
    |some d=>
     obtain⟨h1,rfl⟩:=eP u hd;exact hk M' N' {aX s L B C with f:=(d,r.cv (sig L s.nx))::(aX s L B C).f} _ w' hx (I.put d _ x h1 hvr) b0
  .cases ha
 |_=>simp at ha
def mB:Nat->List PV->AF
 |_,[]=> []
 |n,p::r=>(n,p)::mB (n+1) r
theorem tz: ∀(l:List PV) (n i:Nat),(mB n l).get i=if n<=i then l.getD (i-n) .any else .any
 | [],n,i=>by simp[mB,AF.get]
 |p::r,n,i=>by
  simp only[mB];rw[AF.ay,tz r (n+1) i];by_cases h:i=n
  .subst h;simp
  .by_cases b:n<=i
   .rw[be h,am (by omega),am b,show i-n=(i-(n+1))+1 by omega];simp
   .rw[be h,be (by omega),be b]
def vS(ty:Ty)(s:AS):ResultVar->Option PV
 | .tmp t=>match s.f.get t with
  | .kb b=>io (.iv (.v (.bool b)))
  |p=>io p
 | .cell a t=>match ty t with
  |some e=>match behind s.h (s.f.get a) with
   |some cs=>fI e cs
   |none=>is
  |none=>is
def pG(ty:Ty)(s:AS):List ResultVar->Option (List PV)
 | []=>io []
 |v::r=>match vS ty s v with
  |some p=>match pG ty s r with
   |some l=>io (p::l)
   |none=>is
  |none=>is
def iU(ty:Ty)(s:AS)(l:List ResultVar):Option PV:=
 match pG ty s l with
 |some [p]=>io p
 |some l=>io (.bq l)
 |none=>is
def nN(tmps:Array Value):ResultVar->Sem Value
 | .tmp t=>pure (tmps.getD t undef)
 | .cell a t=>do loadVar t (<-asAddr (tmps.getD a undef))
theorem B5{ty:Ty}(A:bx P ty){M:Mem}{N:Nm}{a:Act}{w:World}(hf:Fits M N s nt a w){v:ResultVar}{p:PV}(h:vS ty s v=io p):
  ∃x,(nN a.tmps v).run P w= .ok x w∧VR M N (· <s.nx) p x:=by
 cases v with
 |tmp t=>
  simp only[vS]at h;have:=hf.2.1 t;split at h
  .rename_i b hb;simp only[Ph]at h;subst h;rw[hb]at this;refine⟨_,rfl,?_⟩;show VR M N _ _ (a.tmps.getD t undef);generalize a.tmps.getD t undef=v at this;cases this;exact .iv _ _ (.v _)
  .simp only[Ph]at h;subst h;exact⟨_,rfl,this⟩
 |cell b t=>
  simp only[vS]at h;split at h
  .rename_i e B;split at h
   .rename_i J u;obtain⟨I,a0,D,j⟩:=vz hf.1 (hf.2.1 b) u;obtain⟨y,G,C⟩:=qv (P:=P) (A t e B) j h;refine⟨y,?_,C⟩;simp only[nN,D,asAddr,pure_bind];exact G
   .cases h
  .cases h
theorem uG{ty:Ty}(u:bx P ty){M:Mem}{N:Nm}{a:Act}{w:World}(hf:Fits M N s nt a w): ∀{l:List ResultVar} {y:List PV},pG ty s l=io y->
  ∃A:List Value,(l.mapM (nN a.tmps)).run P w= .ok A w∧y.length=A.length∧ ∀(j:Nat) (p:PV),y[j]? =io p->VR M N (· <s.nx) p (A.getD j undef)
 | [],y,h=>by
  simp only[pG,Ph]at h;subst h;exact⟨[],rfl,rfl,by simp⟩
 |v::r,y,h=>by
  simp only[pG]at h;split at h
  .rename_i p G;split at h
   .rename_i l hl;simp only[Ph]at h;subst h;obtain⟨x,J,I⟩:=B5 u hf G;obtain⟨A,D,b,C⟩:=uG u hf hl;refine⟨x::A,?_,by simp[b],fun j q B=>?_⟩
    .rw[List.mapM_cons,Sem.run_bind,J,Result.andThen_ok,Sem.run_bind,D];rfl
    .cases j with
     |zero=>simp at B;subst B;exact I
     |succ j=>simpa using C j q (by simpa using B)
   .cases h
  .cases h
theorem AD{ty:Ty}(G:bx P ty){M:Mem}{N:Nm}{a:Act}{w:World}(hf:Fits M N s nt a w){fn:Func}{l:List ResultVar}(hl:fn.results.toList=l){p:PV}(h:iU ty s l=io p):
  ∃x,(results fn a.tmps).run P w= .ok x w∧VR M N (· <s.nx) p x:=by
 unfold iU at h;have key: ∀C,pG ty s l=io C-> ∃u:List Value,(fn.results.mapM (nN a.tmps)).run P w= .ok u.toArray w∧C.length=u.length∧ ∀(j:Nat) (p:PV),C[j]? =io p->VR M N (· <s.nx) p (u.getD j undef):=by
  intro C B;obtain⟨u,h1,b,D⟩:=uG G hf B;refine⟨u,?_,b,D⟩;have e:fn.results.mapM (nN a.tmps)=(List.toArray<$>(fn.results.toList.mapM (nN a.tmps))):=by
   rw[Si]
  rw[e,hl,Sem.run_map,h1];rfl
 have y:results fn a.tmps=(do let vs<-fn.results.mapM (nN a.tmps);pure (if h:vs.size=1 then vs[0] else .tuple vs)):=by
  unfold results;rfl
 split at h
 .rename_i q J;simp only[Ph]at h;subst h;obtain⟨u,h1,b,D⟩:=key _ J
  match u,b with
  | [x],_=>
   refine⟨x,?_,by simpa using D 0 q Z⟩;rw[y,Sem.run_bind,h1];rfl
 .rename_i C A B;simp only[Ph]at h;subst h;obtain⟨u,h1,b,D⟩:=key _ B;refine⟨.tuple u.toArray,?_,.bq _ _ (by simpa using b) (fun j p I=>?_)⟩
  .rw[y,Sem.run_bind,h1,Result.andThen_ok];have: ¬u.toArray.size=1:=by
    intro e
    match C,A,b with
    | [q],A,_=>exact A q Z
    | [],_,b=>simp at b e;omega
    |_::_::_,_,b=>simp at b e;omega
   rw[dif_neg this];rfl
  .have:=D j p I;rw[Pg];rw[Pk]at this;simpa using this
 .cases h
theorem zB {ty:Ty} (Y:bx P ty) {k:FuncId} {fn:Func} {c:Code} (hf:P.funcs[k]? =io fn) (hb:fn.body=io c) (hn:(fn.name== "runtime.NumGoroutine")=kw) {nt:Nat} (d0:fn.ntmps=nt)
  {l:List ResultVar} (hl:fn.results.toList=l) {args:List PV} (c0:args.length<=nt) {os:List AO} {R:PV->AH->Nat->Prop}
  (h:GO P nt [.code c] (fun e s=>(e= .normal∨e= .ret)∧ ∃r,iU ty s l=io r∧R r s.h s.nx) ⟨mB 0 args,c8 0 os,os.length⟩):Fn P k args os R:=by
 refine⟨bf hf hb hn,fun M N w vs hr A hv=>?_⟩;refine calls_of_wp hf hb ?_;have y:Fits M N ⟨mB 0 args,c8 0 os,os.length⟩ nt {tmps:=vs.toArray++Rx (fn.ntmps-vs.toArray.size) undef,defers:=[]} w:=by
  refine⟨hr,fun i=>?_,rfl,by simp;omega⟩;rw[tz,am (PA _),RX,Pk];cases hi:args[i]? with
  |none=>exact .any _
  |some p=>
   have G:i<vs.length:=by rw[<-A];exact(Pj.1 hi).1
   have:=hv i p hi;have e:(vs.toArray++Rx (fn.ntmps-vs.toArray.size) undef).getD i undef=vs.getD i undef:=by
    rw[Pg,P1 (by simpa using G),Pk];simp
   simp only[Qf];rw[e];exact this
 refine AW.then h y fun e a' C j u s' hx b hq=>?_;simp only[kp]at hq;obtain⟨he,r,I,J⟩:=hq;obtain⟨x,a0,b0⟩:=AD Y b hl I
 have:a'.defers=[]∧ ∃v,(results fn a'.tmps).run P C= .ok v C∧(∃x j u r D B,Ending.returned v= .returned x∧R r D B∧Ext M N (· <os.length) (c8 0 os) w j u (· <B) D C∧Rel j u (· <B) D C∧VR j u (· <B) r x):=
  ⟨b.2.2.1,x,a0,x,j,u,r,s'.h,s'.nx,rfl,J,hx,b.1,b0⟩
 rcases he with rfl|rfl<;>exact this
end
theorem Cn{ops:Array Oper}{o:Oper}(hs: ∀u b,o.op≠ .select u b){a b:Act}(h: ∀d∈o.looksAt ops,a.tmps[d]? =b.tmps[d]?):
  execOp a.eval o=execOp b.eval o∧Region.wanted o (Go.yielded ops a.tmps)=Region.wanted o (Go.yielded ops b.tmps):=by
 constructor
 .refine execOp_congr o hs fun x y=>?_
  cases x with
  |tmp t=>
   have:=h t (P2 _ (List.mem_filterMap.2 ⟨.tmp t,by simpa using y,rfl⟩));simp only[Act.eval,Pg,this]
  |_=>rfl
 .unfold Region.wanted;cases hg:o.guard with
  |none=>rfl
  |some gw=>
   obtain⟨g,j⟩:=gw;have A:Go.yielded ops a.tmps g=Go.yielded ops b.tmps g:=by
    unfold Go.yielded;cases ht:(ops[g]?).bind (·.dst) with
    |none=>rfl
    |some t=>
     have:=h t (by simp[Oper.looksAt,hg,ht]);simp[this]
   simp only[A]
theorem jE{all:List Oper}{o x:Oper}(h:looks all o x=kw){d:Nat}(hd:x.dst=io d):d∉o.looksAt all.toArray:=by
 simp only[looks,hd]at h;simpa using h
theorem fF{o:Oper}{i:Nat}(h:waits o i=jp): ∃e∈o.after,Region.binds .any e=jp∧e.on=i:=by
 unfold waits at h;obtain⟨e,b,hb⟩:=Qz.1 h;simp only[Qc]at hb;exact⟨e,by simpa using b,hb.1,PC hb.2⟩
theorem ij: ∀(l:List Oper) (n i:Nat) (o:Oper),gr n l=jp->l[i]? =io o-> ∀e∈o.after,Region.binds .any e=jp->e.on<n+i
 | [],n,i,o,_,h=>by simp at h
 |c::l,n,i,o,hd,h=>by
  simp only[gr,Qc,P4]at hd;cases i with
  |zero=>
   simp at h;subst h;intro e b hb;have:=hd.1 e (by simpa using b);simp only[hb,RO,Rm]at this;exact Pf this
  |succ i=>
   have:=ij l (n+1) i o hd.2 (by simpa using h);intro e b hb;have:=this e b hb;omega
theorem count_set: ∀(l:List Bool) (i:Nat),l[i]? =io kw->(l.set i jp).count kw+1=l.count kw
 | [],i,h=>by simp at h
 |c::l,0,h=>by simp at h;subst h;simp
 |c::l,i+1,h=>by
  have:=count_set l i (by simpa using h);simp only[List.set_cons_succ,List.count_cons];omega
theorem dV{listed:Array Bool}{i:Nat}(h:listed.getD i jp=kw):(listed.setIfInBounds i jp).toList.count kw+1=listed.toList.count kw:=by
 have b:listed.toList[i]? =io kw:=by
  rw[Pg]at h;cases hc:listed[i]? with
  |none=>simp[hc]at h
  |some c=>simp[hc]at h;subst h;simpa using hc
 have:=count_set _ _ b;rw[Array.toList_setIfInBounds];exact this
theorem p6{listed:Array Bool}{i:Nat}(h:listed.getD i jp=kw):0<listed.toList.count kw:=by have:=dV h;omega
theorem eh{listed:Array Bool}{i k:Nat}(hi:i<listed.size):(listed.setIfInBounds i jp).getD k jp=if k=i then jp else listed.getD k jp:=by
 by_cases hk:k=i
 .subst hk;simp[Pg,hi]
 .rw[be hk,Pg,PM,be (fun e=>hk e.symm),Pg]
theorem dN{listed:Array Bool}{i:Nat}(h:listed.getD i jp=kw):i<listed.size:=by
 rcases Ql i listed.size with h'|h'
 .exact h'
 .simp[Pg,RK h']at h
theorem lx{listed:Array Bool}{i:Nat}(h:listed.getD i jp=kw):listed.getD i kw=kw:=by
 have:=dN h;rw[Pg] at*
 simpa[this]using h
theorem nR{all:List Oper}{listed:Array Bool}(y:listed.size=all.length)(hd:gr 0 all=jp)(hr:Region.ready .any all.toArray listed=[]): ∀i,listed.getD i jp=jp:=by
 intro i
 induction i using Nat.strongRecOn with
 |_ i ih=>
  cases hc:listed.getD i jp with
  |true=>rfl
  |false=>
   have A:=dN hc;have j:all[i]? =io (all[i]'(by omega)):=Pl (by omega);have:i∈Region.ready .any all.toArray listed:=by
    refine mem_ready.2 ⟨hc,_,(by rw[Qg];exact j),fun e u hb=>?_⟩;have x:=ij all 0 i _ hd j e u hb;have:=ih e.on (by omega);have b:e.on<listed.size:=by omega
    rw[Pg]at this ⊢;simpa[b]using this
   rw[hr]at this;cases this
section
variable {P:Program} {nt:Nat} {all:List Oper} {todo pend:List (Nat×Oper)} {M:Mem} {N:Nm} {s:AS} {listed:Array Bool} {a:Act} {w:World} {Q:AQ}
theorem ny.alloc{B:Bs}{o:Oper}{az:Nat}(h:ny P M N s B a w o az):aO o=jp:=by
 obtain⟨t,v,d,h1,_⟩:=h;simp[aO,h1]
theorem im.tM(b:im P nt all){i j:Nat}{o q:Oper}(hi:all[i]? =io o)(hj:all[j]? =io q)(ha:aO o=jp)(hw:waits q i=kw)(hne:j≠i):looks all q o=kw:=by
 rcases((b i o hi ha).2.2.2.2 j q hj hne).1 with h|h
 .rw[hw]at h;cases h
 .exact h
theorem lC.same{b:Act}(hb: ∀d,(∀x∈pend,listed.getD x.1 jp=kw->x.2.dst≠io d)->(∀x∈todo,listed.getD x.1 jp=jp->x.2.dst≠io d)->a.tmps[d]? =b.tmps[d]?)
  (hns:Region.noSelect all.toArray=jp) {i:Nat} {o:Oper} (ho:all[i]? =io o) (hr:i∈Region.ready .any all.toArray listed) (hp: ∀x∈pend,waits o x.1=jp∨looks all o x.2=kw)
  (D: ∀x∈todo,listed.getD x.1 jp=jp->looks all o x.2=kw):
  execOp a.eval o=execOp b.eval o∧Region.wanted o (Go.yielded all.toArray a.tmps)=Region.wanted o (Go.yielded all.toArray b.tmps):=by
 refine Cn (Region.noSelect_spec hns i o · · (by simpa using ho)) fun d hd=>hb d (fun x C hl u=>?_) (fun x C hl u=>jE (D x C hl) u hd);rcases hp x C with h|h
 .obtain⟨e,u,y,B⟩:=fF h;obtain⟨_,G,A,j⟩:=mem_ready.1 hr;have:G=o:=by have:=A.symm.trans (by simpa using ho:all.toArray[i]? =io o);exact P7 this
  subst this;have h1:=j e u y;rw[B,lx hl]at h1;cases h1
 .exact jE h u hd
theorem eN(a:Act)(a0:Option Tmp)(v:Value)(d:Nat):(a.put a0 v).tmps[d]? =if a0=io d∧d<a.tmps.size then io v else a.tmps[d]? :=by
 cases a0 with
 |none=>simp[Act.put]
 |some e=>
  simp only[Act.put,Ph];rw[PM];by_cases h:e=d
  .subst h;by_cases b:e<a.tmps.size
   .simp[b]
   .simp[b]
  .simp[h]
theorem gX(a:Act)(a0:Option Tmp)(v:Value):(a.put a0 v).tmps.size=a.tmps.size:=by cases a0<;>simp[Act.put]
theorem jD(a:Act)(a0:Option Tmp)(v:Value):(a.put a0 v).defers=a.defers:=by cases a0<;>rfl
theorem uJ(a:Act)(a0:Option Tmp)(v:Value):(a.put a0 v).put a0 v=a.put a0 v:=by cases a0<;>simp[Act.put]
theorem ny.put{B:Bs}{o:Oper}{az:Nat}(h:ny P M N s B a w o az){a0:Option Tmp}{v:Value}(hd: ∀d,o.dst=io d->a0≠io d):ny P M N s B (a.put a0 v) w o az:=by
 obtain⟨t,u,d,h1,j,b,x,y⟩:=h;refine⟨t,u,d,h1,j,b,?_,y⟩;rw[eN,be (fun A=>hd d b A.1)];exact x
theorem lC.take{B:Bs}(hi:lC P nt all todo pend B M N s listed a w)(hns:Region.noSelect all.toArray=jp)(d0:im P nt all){x:Nat×Oper}(C:x∈pend)(hr:x.1∈Region.ready .any all.toArray listed):
  ∃v,YieldsAt P all.toArray w x.2 v a∧lC P nt all todo pend B M N s (listed.setIfInBounds x.1 jp) (a.put x.2.dst v) w:=by
 obtain⟨b,hb,b0,k0,c0,G⟩:=hi.ap;obtain⟨bl,e0,m0⟩:=hi.er;have hl:=(mem_ready.1 hr).1;obtain⟨v,hv,a0⟩:=G x C hl;have I: ∀y∈todo,listed.getD y.1 jp=jp->looks all x.2 y.2=kw∧ ∀d,y.2.dst=io d->x.2.dst≠io d:=fun y j u=>by
  have J:=(e0 y j u).alloc;exact⟨d0.tM (hi.tl y j) (hi.pl x C) J (hi.pa x C y j J) (fun e=>hi.dj x C y j e.symm),((d0 _ _ (hi.tl y j) J).2.2.2.2 _ _ (hi.pl x C) (fun e=>hi.dj x C y j e.symm)).2⟩
 have A:=lC.same c0 hns (hi.pl x C) hr (fun y G=>hi.pp y G x C) (fun y j u=>(I y j u).1);have Y:=dN hl;have f0: ∀k,(listed.setIfInBounds x.1 jp).getD k jp=kw->k≠x.1∧listed.getD k jp=kw:=by
  intro k hk;rw[eh Y]at hk;split at hk
  .cases hk
  .rename_i h;exact⟨h,hk⟩
 have D: ∀y∈todo,(listed.setIfInBounds x.1 jp).getD y.1 jp=listed.getD y.1 jp:=fun y G=>by rw[eh Y,be (hi.dj x C y G)]
 refine⟨v,hv.of_same A.1 A.2,⟨by simp[hi.size],hi.tl,hi.pl,hi.dj,fun i o ho hu=>hi.Im i o ho (f0 i hu).2,hi.pw,hi.pp,hi.pa,⟨bl,fun y j u=>?_,fun y j z i0 h1 h2=>?_⟩,b,hb,by rw[gX,b0],by rw[jD,k0],fun d hd j0=>?_,fun y n0 hu=>?_⟩⟩
 .rw[D y j]at u;exact(e0 y j u).put (I y j u).2
 .rw[D y j]at h1;rw[D z i0]at h2;exact m0 y j z i0 h1 h2
 .rw[eN];split
  .rename_i h;rw[<-a0,eN,am ⟨h.1,by rw[<-b0];exact h.2⟩]
  .rename_i h;by_cases R:x.2.dst=io d
   .have h2: ¬d<a.tmps.size:=fun h3=>h ⟨R,h3⟩
    rw[RK (Rj h2),RK (by rw[<-b0];exact Rj h2)]
   .refine c0 d (fun y G hu he=>?_) (fun y j u=>j0 y j (by rw[D y j];exact u));by_cases g0:y.1=x.1
    .have h3:=hi.pl y G;rw[g0,hi.pl x C]at h3;rw[P7 h3]at R;exact R he
    .exact hd y G (by rw[eh Y,be g0];exact hu) he
 .exact G y n0 (f0 _ hu).2
theorem Rel.more{M:Mem}{N:Nm}{n:Nat}{h:AH}{w u:World}(hr:Rel M N (· <n) h w)(hk: ∀b,b<w.heap.size->u.heap[b]? =w.heap[b]?):Rel M N (· <n) h u:=by
 refine⟨fun b c hb=>?_,hr.used,hr.dM,fun i o j=>?_,hr.inj⟩
 .exact(hr.dZ b c hb).mono (hk b (hr.dZ b c hb).lt)
 .cases hre:o.real with
  |true=>exact(hr.obj i o j).mono (.refl _) (.refl _ _) (fun _ h=>h) (hr.used i o j) (hk _ (hr.lt j hre))
  |false=>
   cases o with
   |row sz es=>cases es with
    |nil=>exact .inl Z
    |cons=>cases hre
   |bp l T=>cases l with
    |nil=>exact .inl Z
    |cons=>cases hre
   |_=>cases hre
theorem zc{ops:Array Oper}(h: ∀i,listed.getD i jp=jp):Region.ready .any ops listed=[]:=by
 cases hr:Region.ready .any ops listed with
 |nil=>rfl
 |cons i r=>
  have:i∈Region.ready .any ops listed:=by rw[hr];simp
  have:=(mem_ready.1 this).1;rw[h i]at this;cases this
theorem lC.done{B:Bs}(hi:lC P nt all [] pend B M N s listed a w)(j: ∀i,listed.getD i jp=jp):Fits M N s nt a w:=by
 obtain⟨b,hb,C,u,y,_⟩:=hi.ap;have A:a.tmps=b.tmps:=Array.ext_getElem? fun d=>y d (fun x _ hu=>by rw[j]at hu;cases hu) (fun _ D=>(nomatch D));have:a=b:=by cases a;cases b;simp only at A u;subst A;subst u;rfl
 rw[this];exact hb
theorem LW(h:Q .normal s):DL P nt all [] pend Q s:=by
 intro C hd y B M N listed a w b I
 induction b generalizing listed a with
 |zero=>
  intro u Y;have j: ∀i,listed.getD i jp=jp:=fun i=>by
   cases hx:listed.getD i jp with
   |true=>rfl
   |false=>have:=p6 hx;omega
  exact⟨zc j,M,N,s,I,u.done j,h⟩
 |succ b ih=>
  intro u Y;refine⟨fun hr=>⟨M,N,s,I,u.done (nR u.size hd hr),h⟩,fun i x=>?_⟩;obtain⟨hu,o,J,_⟩:=mem_ready.1 x;have D:all[i]? =io o:=by simpa using J
  rcases u.Im i o D hu with hm|hm
  .cases hm
  .obtain⟨v,hv,A⟩:=u.take C y hm x;refine wpOp_of_stOp (K:=fun G=>G=a.put o.dst v) (fun G R=>?_) (hv.stOp J Z);subst R;exact ih _ _ A (by have:=dV hu;omega)
def uk(all:List Oper)(pend:List (Nat×Oper))(o:Oper):Bool:=
 !looks all o o&&pend.all fun y=>!looks all y.2 o&&(waits o y.1||!looks all o y.2)&&(match o.dst,y.2.dst with|some d,io e=>!PJ d e|_,_=>jp)
theorem lC.read{B:Bs}(hi:lC P nt all todo pend B M N s listed a w)(hns:Region.noSelect all.toArray=jp){i:Nat}{o:Oper}{s':AS}(C:(i,o)∈todo)(k0:aO o=kw)(p0: ∀x∈todo,waits o x.1=kw)(j:uk all pend o=jp)(he:s'.h=s.h∧s'.nx=s.nx)
  (hy: ∀M N b w,Fits M N s nt b w-> ∃v,YieldsAt P all.toArray w o v b∧Fits M N s' nt (b.put o.dst v) w):lC P nt all (todo.filter fun x=>!PJ x.1 i) ((i,o)::pend) B M N s' listed a w:=by
 have G: ∀x∈todo.filter fun x=>!PJ x.1 i,x∈todo∧x.1≠i:=fun x hx=>by
  obtain⟨h7,h8⟩:=PU.1 hx;exact⟨h7,fun e=>by simp[e]at h8⟩
 have h1: ∀x∈todo,x=(i,o)∨x∈todo.filter fun x=>!PJ x.1 i:=fun x hx=>by
  by_cases D:x.1=i
  .have I:=hi.tl x hx;rw[D,hi.tl _ C]at I;exact .inl (by obtain⟨x1,x2⟩:=x;simp only at D I;rw[D,P7 I])
  .exact .inr (PU.2 ⟨hx,by cases hb:PJ x.1 i with|false=>rfl|true=>exact absurd (PC hb) D⟩)
 simp only[uk,Qc,P4,Qp]at j;obtain⟨b,hb,m0,g0,b0,q0⟩:=hi.ap;obtain⟨bl,Y,j0⟩:=hi.er;have a0:listed.getD i jp=kw:=by
  cases hl:listed.getD i jp with
  |false=>rfl
  |true=>have:=(Y _ C hl).alloc;simp only at this;rw[k0]at this;cases this
 obtain⟨v,hv,hf⟩:=hy M N b w hb;refine⟨hi.size,fun x hx=>hi.tl x (G x hx).1,fun x hx=>?_,fun x hx y hy=>?_,fun k q hk hu=>?_,?_,fun x hx y hy=>?_,fun y hyp x hx c0=>?_,⟨bl,fun x hx hl=>?_,fun x hx y hy=>j0 x (G x hx).1 y (G y hy).1⟩,b.put o.dst v,hf,by rw[gX,m0],by rw[jD,g0],fun d J f0=>?_,fun x hx hu=>?_⟩
 .rcases Px.1 hx with rfl|hx
  .exact hi.tl _ C
  .exact hi.pl x hx
 .rcases Px.1 hx with rfl|hx
  .exact(G y hy).2
  .exact hi.dj x hx y (G y hy).1
 .rcases hi.Im k q hk hu with hm|hm
  .rcases h1 _ hm with e|hm
   .exact .inr (by rw[e];simp)
   .exact .inl hm
  .exact .inr (Pu _ hm)
 .refine P5.2 ⟨fun y hy=>⟨(j.2 y hy).1.1,fun d R i0=>?_⟩,hi.pw⟩;have:=(j.2 y hy).2;simp only at R;rw[R,i0]at this;simp at this
 .rcases Px.1 hx with rfl|hx<;>rcases Px.1 hy with rfl|hy
  .exact .inr j.1
  .exact .inr (j.2 y hy).1.1
  .have:=(j.2 x hx).1.2;simpa using this
  .exact hi.pp x hx y hy
 .rcases Px.1 hyp with rfl|hyp
  .exact p0 x (G x hx).1
  .exact hi.pa y hyp x (G x hx).1 c0
 .have I:=Y x (G x hx).1 hl;unfold ny at*
  rw[he.1];exact I
 .rw[eN,be (fun hc=>J (i,o) (by simp) a0 hc.1)];refine b0 d (fun x hx=>J x (Pu _ hx)) (fun x hx hl=>?_);rcases h1 x hx with e|hx
  .rw[e]at hl;simp only at hl;rw[a0]at hl;cases hl
  .exact f0 x hx hl
 .have A: ∀x:Oper,looks all x o=kw-> ∀d,o.dst=io d->d∉x.looksAt all.toArray:=fun x hx d hd=>jE hx hd
  rcases Px.1 hx with rfl|hx
  .exact⟨v,hv.of_same (execOp_put o (fun cs b=>Region.noSelect_spec hns i o cs b (by simpa using hi.tl _ C)) b o.dst v (A o j.1)) (wanted_put o b o.dst v (A o j.1)),uJ _ _ _⟩
  .obtain⟨u,n0,o0⟩:=q0 x hx hu;have hl:=(j.2 x hx).1.1;refine⟨u,n0.of_same (execOp_put x.2 (fun cs b=>Region.noSelect_spec hns x.1 x.2 cs b (by simpa using hi.pl x hx)) b o.dst v (A x.2 hl)) (wanted_put x.2 b o.dst v (A x.2 hl)),?_⟩;rw[Act.put_comm b v u (fun d d0 e0=>?_),o0];have:=(j.2 x hx).2;rw[d0,e0]at this;simp at this
theorem Br{i:Nat}{o:Oper}{s':AS}(C:(i,o)∈todo)(D:aO o=kw)(G: ∀x∈todo,waits o x.1=kw)(u:uk all pend o=jp)(he:s'.h=s.h∧s'.nx=s.nx)
  (Y: ∀M N b w,Fits M N s nt b w-> ∃v,YieldsAt P all.toArray w o v b∧Fits M N s' nt (b.put o.dst v) w) (h:DL P nt all (todo.filter fun x=>!PJ x.1 i) ((i,o)::pend) Q s'):DL P nt all todo pend Q s:=by
 intro y hd A B M N listed a w j I R J;exact h y hd A B M N listed a w j (by unfold Bs.ext at*;rw[he.1,he.2];exact I) (R.read y C D G u he Y) J
theorem mQ(hns:Region.noSelect all.toArray=jp): ∀{pend:List (Nat×Oper)},(∀x∈pend,all[x.1]? =io x.2)->(pend.Pairwise fun x y=>looks all y.2 x.2=kw∧ ∀d,x.2.dst=io d->y.2.dst≠io d)->
  (∀x∈pend,looks all x.2 x.2=kw)->(∀x∈pend,eE P nt all s x.2)-> ∀{b:Act},Fits M N s nt b w->
  ∃c:Act,Fits M N s nt c w∧c.tmps.size=b.tmps.size∧c.defers=b.defers∧(∀d,(∀x∈pend,listed.getD x.1 jp=kw->x.2.dst≠io d)->c.tmps[d]? =b.tmps[d]?)∧
   (∀x∈pend,listed.getD x.1 jp=kw-> ∃v,YieldsAt P all.toArray w x.2 v c∧c.put x.2.dst v=c)
 | [],_,_,_,_,b,hb=>⟨b,hb,rfl,rfl,fun _ _=>rfl,fun x hx=>by cases hx⟩
 |(i,o)::pend,hpl,hpw,hse,hag,b,hb=>by
  rw[P5]at hpw;obtain⟨c,hc,G,D,B,C⟩:=mQ hns (pend:=pend) (fun x hx=>hpl x (Pu _ hx)) hpw.2 (fun x hx=>hse x (Pu _ hx)) (fun x hx=>hag x (Pu _ hx)) hb;cases hu:listed.getD i jp with
  |true=>
   refine⟨c,hc,G,D,fun d hd=>B d fun x hx=>hd x (Pu _ hx),fun x hx A=>?_⟩;rcases Px.1 hx with rfl|hx
   .rw[hu]at A;cases A
   .exact C x hx A
  |false=>
   obtain⟨v,hv,hf⟩:=hag (i,o) (by simp) M N c w hc;have j: ∀x:Oper,looks all x o=kw-> ∀d,o.dst=io d->d∉x.looksAt all.toArray:=fun x hx d hd=>jE hx hd;refine⟨c.put o.dst v,hf,by rw[gX,G],by rw[jD,D],fun d hd=>?_,fun x hx A=>?_⟩
   .rw[eN,be (fun h=>hd (i,o) (by simp) hu h.1)];exact B d fun x hx=>hd x (Pu _ hx)
   .rcases Px.1 hx with rfl|hx
    .have hl:=hse (i,o) (by simp);exact⟨v,hv.of_same (execOp_put o (fun I b=>Region.noSelect_spec hns i o I b (by simpa using hpl (i,o) (by simp))) c o.dst v (j o hl)) (wanted_put o c o.dst v (j o hl)),uJ _ _ _⟩
    .obtain⟨u,Y,a0⟩:=C x hx A;have hl:=(hpw.1 x hx).1;refine⟨u,Y.of_same (execOp_put x.2 (fun I b=>Region.noSelect_spec hns x.1 x.2 I b (by simpa using hpl x (Pu _ hx))) c o.dst v (j x.2 hl)) (wanted_put x.2 c o.dst v (j x.2 hl)),?_⟩;rw[Act.put_comm c v u (fun d J R=>(hpw.1 x hx).2 d J R),a0]
theorem FQ{o:Oper}{a b:Act}{w:World}{K K':Act->World->Prop}{Q:Exit->Act->World->Prop}(he:execOp a.eval o=execOp b.eval o)(u: ∀d j,¬K' ({b with defers:=d::b.defers}.put o.dst undef) j)
  (hk: ∀v j,K' (b.put o.dst v) j->K (a.put o.dst v) j) (h:o.wp P b w K' fun _ _ _=>False):o.wp P a w K Q:=by
 unfold Oper.wp at*
 rw[he];generalize(execOp b.eval o).run P w=r at*
 cases r with
 |ok n j=>
  cases n<;>simp only[Oper.upon]at h ⊢
  case value v=>exact hk _ _ h
  case skip=>exact hk _ _ h
  case defer d=>exact absurd h (u d j)
  case enter f args=>
   refine Calls.mono h fun e y he=>?_
   cases e with
   |returned v=>exact hk _ _ he
   |panicked c=>exact he.elim
   |outgrown=>obtain⟨_,_,h⟩:=he;exact h.elim
  case row row args=>exact Rows.mono h fun v y he=>hk _ _ he
 |halt x j=>cases x<;>simp only[Oper.upon]at h ⊢
def gZ(all:List Oper)(pend:List (Nat×Oper))(o:Oper):Bool:=pend.all fun x=>waits o x.1||!looks all o x.2
theorem lC.early{B:Bs}(hi:lC P nt all todo pend B M N s listed a w)(hns:Region.noSelect all.toArray=jp)(hd:gr 0 all=jp)(k0:im P nt all)(hB:B.ext M N s w)(b0: ∀x∈pend,eE P nt all s x.2){j:Nat}{o:Oper}(hm:(j,o)∈todo)(ha:aO o=jp)
  (hu:listed.getD j jp=kw): ∃v w',(execOp a.eval o).run P w= .ok (.value v) w'∧B.ext M N s w'∧lC P nt all todo pend B M N s (listed.setIfInBounds j jp) (a.put o.dst v) w':=by
 obtain⟨b,hb,i0,r0,j0,hy⟩:=hi.ap;obtain⟨bl,g0,t0⟩:=hi.er;obtain⟨h1,⟨d,I,s0⟩,⟨t,z,ht,hz⟩,_,c0⟩:=k0 j o (hi.tl _ hm) ha;have C:=dN hu;have hk: ∀b,b<w.heap.size->(w.alloc (.cells z.cells t)).heap[b]? =w.heap[b]? :=fun b hb=>wU w _ b hb
 have a0:Ext M N (· <s.nx) s.h w M N (· <s.nx) s.h (w.alloc (.cells z.cells t)):=
  ⟨rfl,rfl,⟨rfl,Ps _⟩,by simp,fun b hb _=>hk b hb,.refl _,fun b c h1 h2=>by simp[h1]at h2,.refl _ _,fun _ h=>h,fun i o hi d0=> .inr ⟨i,o,hi,d0,rfl⟩⟩
 have w0: ∀x∈pend,looks all x.2 x.2=kw:=fun x A=>by
  rcases hi.pp x A x A with h7|h7
  .obtain⟨e,he,hb,b1⟩:=fF h7;have:=ij all 0 x.1 x.2 hd (hi.pl x A) e he hb;omega
  .exact h7
 obtain⟨c,o0,p0,n0,m0,q0⟩:=mQ (listed:=listed.setIfInBounds j jp) hns hi.pl hi.pw w0 b0 (M:=M) (N:=N) (w:=w.alloc (.cells z.cells t)) (b:=b) ⟨hb.1.more hk,hb.2⟩;refine⟨.pointer (io ⟨w.heap.size,0,is⟩),w.alloc (.cells z.cells t),?_,hB.trans a0,by simp[hi.size],hi.tl,hi.pl,hi.dj,fun i q hq Y=>?_,hi.pw,hi.pp,hi.pa,⟨fun k=>if k=j then w.heap.size else bl k,fun x A hl=>?_,fun x A y hy D J R=>?_⟩,c,o0,by rw[gX,p0,i0],by rw[jD,n0,r0],fun d' e0 f0=>?_,q0⟩
 .simp only[execOp,ht];simp[Instr.alloc,hz,newVar,newRow]
 .rw[eh C]at Y;split at Y
  .cases Y
  .exact hi.Im i q hq Y
 .simp only;by_cases u:x.1=j
  .have z0:x.2=o:=by
    have:=hi.tl x A;rw[u,hi.tl _ hm]at this;exact(P7 this).symm
   rw[am u,z0];refine⟨t,z,d,ht,hz,I,?_,heap_alloc_new w _,hb.1.xV,fun i o v0 d0 he=>?_,hB.size⟩
   .rw[eN,am ⟨I,by rw[i0,hb.2.2.2];exact s0⟩]
   .have:=hb.1.lt v0 d0;omega
  .rw[be u];rw[eh C,be u]at hl;obtain⟨t',v',d',k1,k2,k3,k4,k5,k6⟩:=g0 x A hl;refine⟨t',v',d',k1,k2,k3,?_,?_,k6⟩
   .rw[eN,be (fun hc=>(c0 x.1 x.2 (hi.tl x A) u).2 d I (by rw[k3,<-hc.1,I]))];exact k4
   .rw[hk _ (Qr.1 k5).1];exact k5
 .simp only;rw[eh C]at D J;have Ny: ∀z∈todo,z.1≠j->(if z.1=j then jp else listed.getD z.1 jp)=jp->bl z.1<w.heap.size:=fun z hz a1 hl=>by
   rw[be a1]at hl;obtain⟨_,_,_,_,_,_,_,k5,_⟩:=g0 z hz hl;exact(Qr.1 k5).1
  by_cases u:x.1=j<;>by_cases G:y.1=j
  .exact absurd (u.trans G.symm) R
  .rw[am u,be G];have:=Ny y hy G J;omega
  .rw[be u,am G];have:=Ny x A u D;omega
  .rw[be u,be G];rw[be u]at D;rw[be G]at J;exact t0 x A y hy D J R
 .rw[eN,be (fun hc=>f0 (j,o) hm (by rw[eh C,am Z]) hc.1),m0 d' e0];refine j0 d' (fun x A x0=>e0 x A ?_) (fun x A D=>f0 x A ?_)
  .have R:x.1≠j:=fun e=>hi.dj x A _ hm e.symm
   rw[eh C,be R];exact x0
  .rw[eh C];split
   .rfl
   .exact D
theorem ny.step{B:Bs}{y:Mem}{J:Nm}{s':AS}{Y:World}{o:Oper}{az:Nat}(h:ny P M N s B a w o az)(I:Ext M N (· <s.nx) s.h w y J (· <s'.nx) s'.h Y):ny P y J s' B a Y o az:=by
 obtain⟨t,v,d,h1,h2,h3,h4,R,h6,A,h8⟩:=h;have D:=(Qr.1 R).1;refine⟨t,v,d,h1,h2,h3,h4,by rw[I.fN az D A];exact R,?_,fun i o C G he=>?_,h8⟩
 .cases hm:y az with
  |none=>rfl
  |some c=>
   rcases I.gx az c h6 hm with x|⟨i,o,x,b,u⟩
   .omega
   .exact absurd u (A i o x b)
 .rcases I.fK i o C G with x|⟨j,p,x,b,u⟩
  .omega
  .exact A j p x b (u.trans he)
def mW(todo:List (Nat×Oper))(E:List Nat):Bool:=todo.all fun x=>E.contains x.1||(aO x.2||todo.any fun y=>!aO y.2&&waits x.2 y.1)
theorem lC.Of{B:Bs}(hi:lC P nt all todo pend B M N s listed a w)(hns:Region.noSelect all.toArray=jp)(hd:gr 0 all=jp)(i0:im P nt all){j:Nat}{o:Oper}(hm:(j,o)∈todo)(h0: ∀x∈todo,aO x.2=jp->waits o x.1=kw)
  (h1:gZ all pend o=jp) (hj:j∈Region.ready .any all.toArray listed) (hu:listed.getD j jp=kw): ∃b,Fits M N s nt b w∧execOp a.eval o=execOp b.eval o∧Region.wanted o (Go.yielded all.toArray a.tmps)=Region.wanted o (Go.yielded all.toArray b.tmps)∧
   ∀v M' N' s' w',Ext M N (· <s.nx) s.h w M' N' (· <s'.nx) s'.h w'->Fits M' N' s' nt (b.put o.dst v) w'->(∀x∈aZ pend o,eE P nt all s' x.2)->
    lC P nt all (todo.filter fun x=>!PJ x.1 j) (aZ pend o) B M' N' s' (listed.setIfInBounds j jp) (a.put o.dst v) w':=by
 obtain⟨bl,k0,a1⟩:=hi.er;obtain⟨_,o2,n0,a0⟩:=mem_ready.1 hj;have c0:=hi.tl _ hm;have d1:o2=o:=by
  have:all[j]? =io o2:=by simpa using n0
  exact P7 (this.symm.trans c0)
 rw[d1]at n0 a0;have e0:=dN hu;obtain⟨b,hb,p0,z0,g0,i1⟩:=hi.ap;have e1: ∀x∈pend,waits o x.1=jp∨looks all o x.2=kw:=fun x u=>by
  have:=P4.1 h1 x u;simpa using this
 have b0: ∀x∈todo,listed.getD x.1 jp=jp->looks all o x.2=kw∧ ∀d,x.2.dst=io d->o.dst≠io d:=fun x u D=>by
  have f0:=(k0 x u D).alloc;have J:j≠x.1:=fun e=>by rw[<-e,hu]at D;cases D
  exact⟨i0.tM (hi.tl x u) c0 f0 (h0 x u f0) J,((i0 _ _ (hi.tl x u) f0).2.2.2.2 _ _ c0 J).2⟩
 have Y:=lC.same g0 hns c0 hj e1 (fun x u D=>(b0 x u D).1);have R: ∀x∈pend,listed.getD x.1 jp=kw->x∈aZ pend o:=fun x u d0=>by
  refine PU.2 ⟨u,?_⟩;cases hw:waits o x.1 with
  |false=>rfl
  |true=>
   obtain⟨e,he,hb,o0⟩:=fF hw;have:=a0 e he hb;rw[o0,lx d0]at this;cases this
 have g1: ∀k,(listed.setIfInBounds j jp).getD k jp=kw->k≠j∧listed.getD k jp=kw:=by
  intro k hk;rw[eh e0]at hk;split at hk
  .cases hk
  .rename_i h;exact⟨h,hk⟩
 have C: ∀x∈aZ pend o,x∈pend:=fun x u=>(PU.1 u).1
 have A: ∀x∈todo.filter (fun x=>!PJ x.1 j),x∈todo∧x.1≠j:=fun x u=>by
  obtain⟨h7,h8⟩:=PU.1 u;exact⟨h7,fun e=>by simp[e]at h8⟩
 refine⟨b,hb,Y.1,Y.2,fun v M' N' s' w' u hf h5=>?_⟩;have f1: ∀x∈aZ pend o,looks all x.2 x.2=kw:=fun x u=>by
  rcases hi.pp x (C x u) x (C x u) with h7|h7
  .obtain⟨e,he,hb,o0⟩:=fF h7;have:=ij all 0 x.1 x.2 hd (hi.pl x (C x u)) e he hb;omega
  .exact h7
 obtain⟨c,t0,v0,s0,r0,w0⟩:=mQ (listed:=listed.setIfInBounds j jp) hns (fun x u=>hi.pl x (C x u)) (hi.pw.sublist List.filter_sublist) f1 h5 hf;have G: ∀x∈todo.filter (fun x=>!PJ x.1 j),(listed.setIfInBounds j jp).getD x.1 jp=listed.getD x.1 jp:=fun x u=>by rw[eh e0,be (A x u).2]
 refine⟨by simp[hi.size],fun x u=>hi.tl x (A x u).1,fun x u=>hi.pl x (C x u),fun x u y hy=>hi.dj x (C x u) y (A y hy).1,fun k q hk b1=>?_,hi.pw.sublist List.filter_sublist,
      fun x u y hy=>hi.pp x (C x u) y (C y hy),fun y hy x u=>hi.pa y (C y hy) x (A x u).1,⟨bl,fun x I D=>?_,fun x I y q0 h1 h2=>?_⟩,c,t0,by rw[v0,gX,gX,p0],by rw[s0,jD,jD,z0],fun d j0 x0=>?_,w0⟩
 .obtain⟨h7,h8⟩:=g1 k b1;rcases hi.Im k q hk h8 with h9|h9
  .exact .inl (PU.2 ⟨h9,by cases hb:PJ k j with|false=>rfl|true=>exact absurd (PC hb) h7⟩)
  .exact .inr (R _ h9 h8)
 .rw[G x I]at D;exact((k0 x (A x I).1 D).step u).put (b0 x (A x I).1 D).2
 .rw[G x I]at h1;rw[G y q0]at h2;exact a1 x (A x I).1 y (A y q0).1 h1 h2
 .rw[r0 d j0,eN,eN,p0];split
  .rfl
  .refine g0 d (fun x u d0=>j0 x (R x u d0) ?_) (fun x I D=>?_)
   .have J:x.1≠j:=fun e=>hi.dj x u _ hm e.symm
    rw[eh e0,be J];exact d0
   .have J:x.1≠j:=fun e=>by rw[e,hu]at D;cases D
    have m0:x∈todo.filter (fun x=>!PJ x.1 j):=PU.2 ⟨I,by cases hb:PJ x.1 j with|false=>rfl|true=>exact absurd (PC hb) J⟩;exact x0 x m0 (by rw[G x m0];exact D)
theorem LX{E:List Nat}(hE:mW todo E=jp)(hne: ∃x∈todo,aO x.2=kw)(c0: ∀x∈todo,aO x.2=jp-> ∀x∈pend,eE P nt all s x.2)
  (h: ∀j o,j∈E->(j,o)∈todo->(∀o',(j,o')∈todo->o'=o)->aO o=kw∧(∀x∈todo,aO x.2=jp->waits o x.1=kw)∧gZ all pend o=jp∧(∀M N b w,Fits M N s nt b w->Region.wanted o (Go.yielded all.toArray b.tmps)=jp)∧ ∃R,OT P nt o s R∧
   ∀s',R s'->(∀x∈aZ pend o,eE P nt all s' x.2)∧DL P nt all (todo.filter fun x=>!PJ x.1 j) (aZ pend o) Q s'):DL P nt all todo pend Q s:=by
 intro I hd A B M N listed a w u hB
 induction u generalizing listed a w with
 |zero=>
  intro G hc;obtain⟨x,D,C⟩:=hne;have p0:listed.getD x.1 jp=kw:=by
   obtain⟨bl,e0,_⟩:=G.er;cases hl:listed.getD x.1 jp with
   |false=>rfl
   |true=>have:=(e0 x D hl).alloc;rw[C]at this;cases this
  have:=p6 p0;omega
 |succ u ih=>
  intro G hc;obtain⟨bl,e0,q0⟩:=G.er;have b0: ∀x∈todo,aO x.2=kw->listed.getD x.1 jp=kw:=fun x D C=>by
   cases hl:listed.getD x.1 jp with
   |false=>rfl
   |true=>have:=(e0 x D hl).alloc;rw[C]at this;cases this
  refine⟨fun hr=>?_,fun j hj=>?_⟩
  .obtain⟨x,D,C⟩:=hne;have:=nR G.size hd hr x.1;rw[b0 x D C]at this;cases this
  obtain⟨hu,o,ho,d0⟩:=mem_ready.1 hj;have g0:all[j]? =io o:=by simpa using ho
  have r0:=dN hu;rcases G.Im j o g0 hu with hm|hm
  .cases hja:aO o with
   |true=>
    obtain⟨v,w',i0,k0,f0⟩:=G.early I hd A hB (c0 _ hm hja) hm hja hu;unfold wpOp;simp only[ho];rw[am (fR (A j o g0 hja).1 _)];refine .inl ?_;unfold Oper.wp;rw[i0];simp only[Oper.upon];exact ih _ _ _ k0 f0 (by have:=dV hu;omega)
   |false=>
   have m0:j∈E:=by
    have:=P4.1 hE _ hm;simp only[Ry,Qz,Qc,Qp]at this;rcases this with h1|h1|⟨y,hy,h0,h1⟩
    .simpa using h1
    .rw[hja]at h1;cases h1
    .obtain⟨e,he,hb,o0⟩:=fF h1;have:=d0 e he hb;rw[o0,lx (b0 y hy h0)]at this;cases this
   obtain⟨_,h0,h1,h2,R,h3,h4⟩:=h j o m0 hm (fun o' n0=>by
    have:=G.tl _ n0;simp only at this;rw[g0]at this
    exact(P7 this).symm)
   obtain⟨b,hb,a0,j0,hnew⟩:=G.Of I hd A hm h0 h1 hj hu;unfold wpOp;simp only[ho];rw[am (by rw[j0];exact h2 M N b w hb)];refine .inl (FQ (K':=fun a' w'=> ∃J Y s',Ext M N (· <s.nx) s.h w J Y (· <s'.nx) s'.h w'∧Fits J Y s' nt a' w'∧R s') a0 ?_ ?_ (h3 M N b w hb _ _ fun J Y s' a' w' D hf hr=>⟨J,Y,s',D,hf,hr⟩))
   .rintro d w' ⟨J,Y,s',_,hf,_⟩;have:=hf.2.2.1;rw[jD]at this;cases this
   .rintro v w' ⟨J,Y,s',D,hf,hr⟩;obtain⟨h5,h6⟩:=h4 s' hr;exact h6 I hd A B J Y _ _ w' u (hB.trans D) (hnew v J Y s' w' D hf h5) (by have:=dV hu;omega)
  .obtain⟨v,hv,f0⟩:=G.take I A hm hj;refine wpOp_of_stOp (K:=fun a'=>a'=a.put o.dst v) (fun a' ha=>?_) (hv.stOp ho Z);subst ha;exact ih _ _ _ hB f0 (by have:=dV hu;omega)
theorem Rel.BG{M:Mem}{N:Nm}{n:Nat}{h:AH}{w:World}(hr:Rel M N (· <n) h w){az e:Nat}{o:AO}(hM:M az=is)(hne: ∀i p,h.get i=io p->p.real=jp->N.az i≠az)(ho:OR M (N.with n az e) (· <n+1) w n o):
  Rel M (N.with n az e) (· <n+1) ((n,io o)::h) w:=by
 have A:=N.eH n az e;have b: ∀i p,AH.get ((n,io o)::h) i=io p->(i=n∧p=o)∨(i<n∧h.get i=io p):=by
  intro i p x;rw[AH.ay]at x;split at x
  .rename_i B;exact .inl ⟨B,by simpa using x.symm⟩
  .exact .inr ⟨hr.used i p x,x⟩
 refine⟨hr.dZ,fun i p x=>?_,fun i p x C=>?_,fun i p x=>?_,fun i j p q x R I J u=>?_⟩
 .rcases b i p x with⟨rfl,rfl⟩|⟨h1,y⟩<;>omega
 .rcases b i p x with⟨rfl,rfl⟩|⟨h1,y⟩
  .simpa using hM
  .rw[A.az i h1];exact hr.dM i p y C
 .rcases b i p x with⟨rfl,rfl⟩|⟨h1,y⟩
  .exact ho
  .exact(hr.obj i p y).mono (.refl _) A (fun i x=>by omega) h1 Z
 .rcases b i p x with⟨rfl,rfl⟩|⟨h1,y⟩<;>rcases b j q R with⟨rfl,rfl⟩|⟨D,G⟩
  .rfl
  .rw[A.az j D]at u;simp at u;exact absurd u.symm (hne _ _ G J)
  .rw[A.az i h1]at u;simp at u;exact absurd u (hne _ _ y I)
  .rw[A.az i h1,A.az j D]at u;exact hr.inj i j p q y G I J u
def wT(todo:List (Nat×Oper))(i:Nat):Bool:=todo.all fun x=>PJ x.1 i||(aO x.2||(waits x.2 i||todo.any fun y=>!aO y.2&&waits x.2 y.1))
def jo(s:AS)(d:Nat)(cs:List PV):AS:=match s with|⟨f,h,n⟩=>⟨(d,.ptr n 0)::f,(n,io (.cells cs))::h,n+1⟩
theorem E8{i:Nat}{o:Oper}{t:TypeId}{z:Value}{d:Nat}(c0:(i,o)∈todo)(ht:o.op= .alloc t)(hz: ∀w,(zeroValue t).run P w= .ok z w)(o0:o.dst=io d)(hE:wT todo i=jp)
  (m0: ∀x∈pend,eE P nt all s x.2) (Y: ∀x∈pend,eE P nt all (jo s d (aK z)) x.2)
  (h:DL P nt all (todo.filter fun x=>!PJ x.1 i) pend Q (jo s d (aK z))):DL P nt all todo pend Q s:=by
 intro i0 hd a0 B M N listed a w C G;have f1:aO o=jp:=by simp[aO,ht]
 have BG: ∀{C:Nat} {listed:Array Bool} {a:Act} {w:World},B.ext M N s w->lC P nt all todo pend B M N s listed a w->listed.getD i jp=jp->listed.toList.count kw<=C->wpAny P .any all.toArray (Kb nt B Q) C listed a w:=by
  intro C listed a w G A hl hc;obtain⟨b,hb,a2,t1,l1,f2⟩:=A.ap;obtain⟨R,g0,p0⟩:=A.er;obtain⟨t',I,d',k1,k2,k3,k4,k5,k6,k7,k8⟩:=g0 _ c0 hl;simp only at k1 k3;have e1:t'=t:=by rw[ht]at k1;exact(Op.alloc.inj k1).symm
  subst e1;have e2:I=z:=by have:=(k2 w).symm.trans (hz w);simpa using this
  subst e2;have e3:d'=d:=by rw[o0]at k3;exact(P7 k3).symm
  subst e3;have d1:d'<nt:=by
   obtain⟨_,⟨d2,g1,g2⟩,_⟩:=a0 i o (A.tl _ c0) f1;rw[o0]at g1;rw[P7 g1];exact g2
  have ha:=N.eH s.nx (R i) I.cells.size;have x0:=hb.1.BG (az:=R i) (e:=I.cells.size) (o:= .cells (aK I)) k6 k7
   ⟨I.cells,t',by simpa using k5,by simp,(ew (M:=M) (N:=N.with s.nx (R i) I.cells.size) (U:=(· <s.nx+1)) I).1,(ew I).2,.none _⟩
  have v1:FR M (N.with s.nx (R i) I.cells.size) (· <s.nx+1) s.f b.tmps:=hb.2.1.mono (.refl _) ha (fun i A=>by omega);have v0:VR M (N.with s.nx (R i) I.cells.size) (· <s.nx+1) (.ptr s.nx 0) (.pointer (io ⟨R i,0,is⟩)):=by
   have:=VR.ptr (M:=M) (N:=N.with s.nx (R i) I.cells.size) (U:=(· <s.nx+1)) s.nx 0 (by omega);simpa using this
  have r0:Fits M (N.with s.nx (R i) I.cells.size) (jo s d' (aK I)) nt (b.put (io d') (.pointer (io ⟨R i,0,is⟩))) w:=by
   obtain⟨sf,sh,sn⟩:=s;exact⟨x0,v1.put d' _ _ (by rw[hb.2.2.2];exact d1) v0,hb.2.2.1,by rw[gX];exact hb.2.2.2⟩
  have b0: ∀j p,(jo s d' (aK I)).h.get j=io p->j=s.nx∨(j<s.nx∧s.h.get j=io p):=by
   intro j p D;obtain⟨sf,sh,sn⟩:=s;simp only[jo]at D;rw[AH.ay]at D;split at D
   .rename_i e;exact .inl e
   .exact .inr ⟨hb.1.used j p D,D⟩
  have x1:(jo s d' (aK I)).nx=s.nx+1:=by obtain⟨sf,sh,sn⟩:=s;rfl
  have k0:B.ext M (N.with s.nx (R i) I.cells.size) (jo s d' (aK I)) w:=by
   unfold Bs.ext at*
   refine⟨G.os,G.tape,G.output,G.size,G.fN,G.ov,G.gx,⟨fun j D=>(ha.az j (G.ule j D)).trans (G.nm.az j D),fun j D=>(ha.ext j (G.ule j D)).trans (G.nm.ext j D)⟩,fun j D=>by have:=G.ule j D;rw[x1];omega,fun j p D w0=>?_⟩;rcases b0 j p D with rfl|⟨h1,h2⟩
   .exact .inl (by simpa using k8)
   .rw[ha.az j h1];exact G.fK j p h2 w0
  have z1: ∀x∈pend,looks all x.2 x.2=kw:=fun x J=>by
   rcases A.pp x J x J with h7|h7
   .obtain⟨e,he,hb,i1⟩:=fF h7;have:=ij all 0 x.1 x.2 hd (A.pl x J) e he hb;omega
   .exact h7
  have u: ∀x∈todo.filter (fun x=>!PJ x.1 i),x∈todo∧x.1≠i:=fun x J=>by
   obtain⟨h7,h8⟩:=PU.1 J;exact⟨h7,fun e=>by simp[e]at h8⟩
  obtain⟨c,p1,q1,o1,n1,r1⟩:=mQ (listed:=listed) i0 A.pl A.pw z1 Y r0;refine h i0 hd a0 B M _ listed a w C k0 ⟨A.size,fun x J=>A.tl x (u x J).1,A.pl,fun x J y hy=>A.dj x J y (u y hy).1,fun k q hk t0=>?_,A.pw,A.pp,fun y hy x J=>A.pa y hy x (u x J).1,⟨R,fun x e0 j0=>?_,fun x e0 y c2=>p0 x (u x e0).1 y (u y c2).1⟩,c,p1,by rw[q1,gX,a2],by rw[o1,jD,t1],fun e b1 s1=>?_,r1⟩ hc
  .rcases A.Im k q hk t0 with h9|h9
   .refine .inl (PU.2 ⟨h9,?_⟩);cases hbq:PJ k i with
    |false=>rfl
    |true=>rw[PC hbq,hl]at t0;cases t0
   .exact .inr h9
  .obtain⟨t2,z2,d2,m1,m2,m3,m4,m5,m6,m7,m8⟩:=g0 x (u x e0).1 j0;refine⟨t2,z2,d2,m1,m2,m3,m4,m5,m6,fun j p D w0=>?_,m8⟩;rcases b0 j p D with rfl|⟨h1,h2⟩
   .rw[Nm.C4];exact fun e=>p0 x (u x e0).1 _ c0 j0 hl (u x e0).2 e.symm
   .rw[ha.az j h1];exact m7 j p h2 w0
  .rw[n1 e b1,eN];by_cases q0:d'=e
   .subst q0;rw[am ⟨rfl,by rw[hb.2.2.2];exact d1⟩];exact k4
   .rw[be (fun hc=>q0 (P7 hc.1))];refine l1 e b1 (fun x J j0 he=>?_);by_cases j1:x.1=i
    .have h3:=A.tl x J;rw[j1,A.tl _ c0]at h3;rw[<-P7 h3,o0]at he;exact q0 (P7 he)
    .exact s1 x (PU.2 ⟨J,by cases hb:PJ x.1 i with|false=>rfl|true=>exact absurd (PC hb) j1⟩) j0 he
 clear h Y
 induction C generalizing listed a w with
 |zero=>
  intro A hc;cases hl:listed.getD i jp with
  |true=>exact BG G A hl hc
  |false=>have:=p6 hl;omega
 |succ C ih=>
  intro A hc;cases hl:listed.getD i jp with
  |true=>exact BG G A hl hc
  |false=>
   obtain⟨R,g0,p0⟩:=A.er;have a1: ∀x∈todo,aO x.2=kw->listed.getD x.1 jp=kw:=fun x J b2=>by
    cases hl:listed.getD x.1 jp with
    |false=>rfl
    |true=>have:=(g0 x J hl).alloc;rw[b2]at this;cases this
   refine⟨fun hr=>?_,fun j D=>?_⟩
   .have:=nR A.size hd hr i;rw[hl]at this;cases this
   obtain⟨hu,q,hq,n0⟩:=mem_ready.1 D;have d0:all[j]? =io q:=by simpa using hq
   rcases A.Im j q d0 hu with hm|hm
   .cases hja:aO q with
    |true=>
     obtain⟨v,w',z0,k0,s0⟩:=A.early i0 hd a0 G m0 hm hja hu;unfold wpOp;simp only[hq];rw[am (fR (a0 j q d0 hja).1 _)];refine .inl ?_;unfold Oper.wp;rw[z0];simp only[Oper.upon];exact ih _ _ _ k0 s0 (by have:=dV hu;omega)
    |false=>
     exfalso;have f0: ∀k,listed.getD k jp=kw->waits q k=jp->False:=fun k hk hw=>by
      obtain⟨e,he,hb,i1⟩:=fF hw;have:=n0 e he hb;rw[i1,lx hk]at this;cases this
     have:=P4.1 hE _ hm;simp only[Ry,Qz,Qc,Qp]at this;rcases this with h1|h1|h1|⟨y,hy,h0,h1⟩
     .have w1:=PC h1;subst w1;rw[A.tl _ c0]at d0;simp only[Ph]at d0;rw[<-d0,f1]at hja;cases hja
     .rw[hja]at h1;cases h1
     .exact f0 i hl h1
     .exact f0 y.1 (a1 y hy h0) h1
   .obtain⟨v,hv,s0⟩:=A.take i0 a0 hm D;refine wpOp_of_stOp (K:=fun a'=>a'=a.put q.dst v) (fun a' ha=>?_) (hv.stOp hq Z);subst ha;exact ih _ _ _ G s0 (by have:=dV hu;omega)
def hP:Nat->List Oper->List (Nat×Oper)
 |_,[]=> []
 |n,o::r=>(n,o)::hP (n+1) r
theorem kQ: ∀(l:List Oper) (n i:Nat) (o:Oper),(i,o)∈hP n l↔n<=i∧l[i-n]? =io o
 | [],n,i,o=>by simp[hP]
 |c::l,n,i,o=>by
  simp only[hP,Px,Pt];rw[kQ l (n+1) i o];by_cases h:i=n
  .subst h;simp only[true_and,Ps,Nat.sub_self,List.getElem?_cons_zero,Ph];exact⟨fun h=>h.elim Eq.symm (fun h=>by omega),fun h=> .inl h.symm⟩
  .by_cases b:n<=i
   .rw[show i-n=(i-(n+1))+1 by omega,R5];constructor
    .rintro(⟨h3,_⟩|⟨_,h3⟩)
     .exact absurd h3 h
     .exact⟨b,h3⟩
    .rintro⟨_,h3⟩;exact .inr ⟨by omega,h3⟩
   .constructor
    .rintro(⟨h3,_⟩|⟨h3,_⟩)
     .exact absurd h3 h
     .omega
    .rintro⟨h3,_⟩;exact absurd h3 b
def sG:List Oper->Bool
 | []=>jp
 |o::r=>match o.op with
  | .select ..=>kw
  |_=>sG r
theorem Ch{ops:Array Oper}(h:sG ops.toList=jp):Region.noSelect ops=jp:=by
 have key: ∀l:List Oper,sG l=jp-> ∀o∈l,(match o.op with| .select ..=>kw|_=>jp)=jp:=by
  intro l
  induction l with
  |nil=>intro _ o ho;cases ho
  |cons c l ih=>
   intro hl o ho;unfold sG at hl;split at hl
   .cases hl
   .rename_i b;rcases Px.1 ho with rfl|ho
    .split
     .rename_i h;exact absurd h (b _ _)
     .rfl
    .exact ih hl o ho
 unfold Region.noSelect;rw[Array.all_eq_true_iff_forall_mem];exact fun o ho=>key _ h o (by simpa using ho)
variable {k:List KI}
theorem EM{id:Nat}{ops:Array Oper}(hm:P.follows .mixedOrders=jp)(hns:Region.noSelect ops=jp)(hd:gr 0 ops.toList=jp)(y:im P nt ops.toList)(h:GO P nt (.bW ops.toList (hP 0 ops.toList) []::k) Q s):GO P nt (.code (.region id ops jp)::k) Q s:=by
 intro M N a w D;refine wp_region_any hm ?_;have A:=D.drew;have j: ∀x∈hP 0 ops.toList,ops.toList[x.1]? =io x.2:=fun x b=>by
  obtain⟨_,C⟩:=(kQ _ 0 x.1 x.2).1 b;simpa using C
 have B: ∀i,i<ops.size->(Rx ops.size kw).getD i jp=kw:=fun i G=>by simp[Pg,G]
 have u: ∀x∈hP 0 ops.toList,(Rx ops.size kw).getD x.1 jp=jp->False:=fun x b hl=>by
  have:x.1<ops.size:=by simpa using(Pj.1 (j x b)).1
  rw[B _ this]at hl;cases hl
 have:=h (by rw[QW];exact hns) hd y ⟨M,N,s.nx,s.h,w⟩ M N (Rx ops.size kw) a {w with drawn:=w.drawn+1} ops.size Ext.drew
  ⟨by simp,j,fun _ b=>(nomatch b),fun _ b=>(nomatch b),fun i o I _=> .inl ((kQ _ 0 i o).2 ⟨PA _,by simpa using I⟩),R7,fun _ b=>(nomatch b),fun _ b=>(nomatch b),
   ⟨fun _=>0,fun x b hl=>(u x b hl).elim,fun x b _ _ hl=>(u x b hl).elim⟩,⟨a,A,rfl,rfl,fun _ _ _=>rfl,fun _ b=>(nomatch b)⟩⟩ (by simp)
 rw[QW]at this;exact this
theorem yo(h:GO P nt k Q s):GO P nt (.bW all [] pend::k) Q s:=LW h
def eqB:Bool->Bool->Bool
 |true,b=>b
 |false,jp=>kw
 |false,kw=>jp
theorem LU(a b:Bool):eqB a b=(a==b):=by cases a<;>cases b<;>rfl
def bX(nt:Nat)(all:List Oper)(f:AF)(o:Oper):Option Bool:=
 match o.guard with
 |none=>io jp
 |some (g,want)=>match guardOf all f g with
  |some (d,.kb t)=>bif PI d nt then io (eqB t want) else is
  |some (_,.iv (.v (.tuple _)))=>io kw
  |_=>is
theorem eT{o:Oper}{c:Bool}(h:bX nt all s.f o=io c){b:Act}(hf:Fits M N s nt b w):Region.wanted o (Go.yielded all.toArray b.tmps)=c:=by
 unfold bX at h;split at h
 .rename_i j;simp only[Ph]at h;rw[fR j,h]
 .rename_i g x j;split at h
  .rename_i d t u;cases hb:PI d nt with
   |false=>simp[hb]at h
   |true=>
    simp only[hb,cond_true,Ph,LU]at h;have:=hf.rQ u (Pf hb);simp[Region.wanted,j,this,<-h]
  .rename_i d vs u;simp only[Ph]at h;have:=hf.rP u;simp[Region.wanted,j,this,<-h]
  .cases h
theorem s4{i:Nat}{o:Oper}{s':AS}(u:(i,o)∈todo)(y:aO o=kw)(A: ∀x∈todo,waits o x.1=kw)(hg:bX nt all s.f o=io jp)(j:uk all pend o=jp)(he:s'.h=s.h∧s'.nx=s.nx)
  (ho: ∀M N a w,Fits M N s nt a w-> ∃x,(execOp a.eval o).run P w= .ok (.value x) w∧Fits M N s' nt (a.put o.dst x) w) (h:GO P nt (.bW all (todo.filter fun x=>!PJ x.1 i) ((i,o)::pend)::k) Q s'):GO P nt (.bW all todo pend::k) Q s:=
 Br u y A j he (fun M N b w B=>let ⟨x,h1,h2⟩:=ho M N b w B;⟨x,.inl ⟨eT hg B,.inl h1⟩,h2⟩) h
theorem EL{i:Nat}{o:Oper}(j:(i,o)∈todo)(u:aO o=kw)(y: ∀x∈todo,waits o x.1=kw)(hg:bX nt all s.f o=io kw)(b:uk all pend o=jp)
  (h:GO P nt (.bW all (todo.filter fun x=>!PJ x.1 i) ((i,o)::pend)::k) Q (fG o s)):GO P nt (.bW all todo pend::k) Q s:=
 Br j u y b (gT o s) (fun _ _ _ _ A=>⟨undef,.inr ⟨eT hg A,rfl⟩,A.skip o⟩) h
theorem pV{d:Nat}{t:Bool}(I:s.f.get d= .iv (.v (.bool t)))(h1:t=jp->GO P nt (.bW all todo pend::k) Q (setBool s (.tmp d) jp))(C:t=kw->GO P nt (.bW all todo pend::k) Q (setBool s (.tmp d) kw)):
  GO P nt (.bW all todo pend::k) Q s:=by
 have key:GO P nt (.bW all todo pend::k) Q (setBool s (.tmp d) t):=by
  cases t
  .exact C Z
  .exact h1 Z
 intro A hd y B M N listed a w x D j G;obtain⟨b,hb,u⟩:=j.ap;exact key A hd y B M N listed a w x D ⟨j.size,j.tl,j.pl,j.dj,j.Im,j.pw,j.pp,j.pa,j.er,b,hb.setBool (c:= .tmp d) I,u⟩ G
theorem rF{E:List Nat}(hE:mW todo E=jp)(hne: ∃x∈todo,aO x.2=kw)(u: ∀x∈todo,aO x.2=jp-> ∀x∈pend,eE P nt all s x.2)
  (h: ∀j o,j∈E->(j,o)∈todo->(∀y,(j,y)∈todo->y=o)->aO o=kw∧(∀x∈todo,aO x.2=jp->waits o x.1=kw)∧gZ all pend o=jp∧bX nt all s.f o=io jp∧ ∃R,OT P nt o s R∧
   ∀s',R s'->(∀x∈aZ pend o,eE P nt all s' x.2)∧GO P nt (.bW all (todo.filter fun x=>!PJ x.1 j) (aZ pend o)::k) Q s'):GO P nt (.bW all todo pend::k) Q s:=
 LX hE hne u fun j o h1 A B=>let ⟨a,b,c,d,e⟩:=h j o h1 A B;⟨a,b,c, @fun _ _ _ _=>eT d,e⟩
theorem CB{i:Nat}{o:Oper}{t:TypeId}{z:Value}{d:Nat}(y:(i,o)∈todo)(A:o.op= .alloc t)(B: ∀w,(zeroValue t).run P w= .ok z w)(u:o.dst=io d)(hE:wT todo i=jp)
  (j: ∀x∈pend,eE P nt all s x.2) (b: ∀x∈pend,eE P nt all (jo s d (aK z)) x.2)
  (h:GO P nt (.bW all (todo.filter fun x=>!PJ x.1 i) pend::k) Q (jo s d (aK z))):GO P nt (.bW all todo pend::k) Q s:=E8 y A B u hE j b h
end
section
variable {P:Program} {nt:Nat} {Q:AQ} {k:List KI} {s:AS}
theorem EB{ty:Ty}(c0:bx P ty){o:Oper}{c:Call}(ho:o.op= .call c){g:FuncId}{b:List PV}(ha:bM s.f c=io (g,b)){fn:Func}{cb:Code}(B:P.funcs[g]? =io fn)(hb:fn.body=io cb)
  (hn:(fn.name== "runtime.NumGoroutine")=kw) {I:Nat} (g0:fn.ntmps=I) {l:List ResultVar} (hl:fn.results.toList=l) (f0:b.length<=I) {R:AS->Prop}
  (h:AW P I cb (fun e t=>(e= .normal∨e= .ret)∧ ∃r s',iU ty t l=io r∧putDst nt o r ⟨s.f,t.h,t.nx⟩=io s'∧R s') ⟨mB 0 b,s.h,s.nx⟩):OT P nt o s R:=by
 intro M N a w G K Z hk;obtain⟨vs,D,C,hv⟩:=E2 G ho ha (bf B hb hn);unfold Oper.wp;rw[D];simp only[Oper.upon];refine calls_of_wp B hb ?_;have A:Fits M N ⟨mB 0 b,s.h,s.nx⟩ I {tmps:=vs.toArray++Rx (fn.ntmps-vs.toArray.size) undef,defers:=[]} w:=by
  refine⟨G.1,fun i=>?_,rfl,by simp;omega⟩;rw[tz,am (PA _),RX,Pk];cases hi:b[i]? with
  |none=>exact .any _
  |some p=>
   have a0:i<vs.length:=by rw[<-C];exact(Pj.1 hi).1
   have:=hv i p hi;have e:(vs.toArray++Rx (fn.ntmps-vs.toArray.size) undef).getD i undef=vs.getD i undef:=by
    rw[Pg,P1 (by simpa using a0),Pk];simp
   simp only[Qf];rw[e];exact this
 refine AW.then h A fun e a' u J Y t hx j hq=>?_;obtain⟨he,r,s',b0,hp,hR⟩:=hq;obtain⟨x,d0,e0⟩:=AD c0 j hl b0;have y:Fits J Y ⟨s.f,t.h,t.nx⟩ nt a u:=⟨j.1,G.2.1.ext hx,G.2.2⟩
 have hK:K (a.put o.dst x) u:=by
  cases hd:o.dst with
  |none=>
   have:=eQ hp hd;subst this;exact hk J Y {f:=s.f,h:=t.h,nx:=t.nx} _ u hx y hR
  |some d=>
   obtain⟨h1,rfl⟩:=eP hp hd;exact hk J Y {f:=(d,r)::s.f,h:=t.h,nx:=t.nx} _ u hx (y.put d _ x h1 e0) hR
 have:a'.defers=[]∧ ∃v,(results fn a'.tmps).run P u= .ok v u∧K (a.put o.dst v) u:=⟨j.2.2.1,x,d0,hK⟩
 rcases he with rfl|rfl<;>exact this
theorem LN{ty:Ty}(A:bx P ty){all rest:List Oper}{o:Oper}{c:Call}(hg:o.guard=is)(ho:o.op= .call c){g:FuncId}{b:List PV}(ha:bM s.f c=io (g,b)){fn:Func}{C:Code}(u:P.funcs[g]? =io fn)(hb:fn.body=io C)
  (hn:(fn.name== "runtime.NumGoroutine")=kw) {B:Nat} (y:fn.ntmps=B) {l:List ResultVar} (hl:fn.results.toList=l) (x:b.length<=B)
  (h:GO P B (.code C:: .Ih nt s.f (iU ty · l) o all rest::k) Q ⟨mB 0 b,s.h,s.nx⟩):GO P nt (.ops all (o::rest)::k) Q s:=by
 refine cz (R:=fun t=>GO P nt (.ops all rest::k) Q t) hg (EB A ho ha u hb hn y hl x ?_) (fun t ht=>ht);intro M N a w hf;refine AW.then h hf fun e a' w' G I t hx j D=>⟨G,I,t,hx,j,?_⟩
 simp only[kp]at D;obtain⟨he,r,s',h1,J,Y⟩:=D;exact⟨he,r,s',h1,J,Y⟩
theorem Ia{ty:Ty}(G:bx P ty){all:List Oper}{todo pend:List (Nat×Oper)}{j:Nat}{o:Oper}{c:Call}(hrd:(j,o)∈todo)(hE:mW todo [j]=jp)(I: ∀x∈todo,waits o x.1=kw)(u: ∀x∈todo,aO x.2=jp-> ∀x∈pend,eE P nt all s x.2)(hpb:gZ all pend o=jp)(hg:bX nt all s.f o=io jp)(ho:o.op= .call c){g:FuncId}{b:List PV}
  (ha:bM s.f c=io (g,b)) {fn:Func} {cb:Code} (B:P.funcs[g]? =io fn) (hb:fn.body=io cb)
  (hn:(fn.name== "runtime.NumGoroutine")=kw) {Y:Nat} (D:fn.ntmps=Y) {l:List ResultVar} (hl:fn.results.toList=l) (C:b.length<=Y)
  (h:GO P Y (.code cb:: .Ii nt s.f (iU ty · l) j o all todo pend::k) Q ⟨mB 0 b,s.h,s.nx⟩):GO P nt (.bW all todo pend::k) Q s:=by
 have y:aO o=kw:=by simp[aO,ho]
 refine rF hE ⟨_,hrd,y⟩ u fun j' o' hj _ hu=>?_;simp only[Pw]at hj;subst hj;have:=hu o hrd;subst this;refine⟨y,fun x J _=>I x J,hpb,hg,_,EB G ho ha B hb hn D hl C (R:=fun s'=>(∀x∈aZ pend o,eE P nt all s' x.2)∧GO P nt (.bW all (todo.filter fun x=>!PJ x.1 j') (aZ pend o)::k) Q s') ?_,fun s' hs=>hs⟩;intro M N a w hf;refine AW.then h hf fun e a' w' M' N' t J A hq=>⟨M',N',t,J,A,?_⟩
 simp only[kp]at hq;obtain⟨he,r,s',h1,h2,h3,h4⟩:=hq;exact⟨he,r,s',h1,h2,h3,h4⟩
theorem UA.more{b:Code}{Q:AQ}: ∀{n:Nat} {s:AS},UA P nt b Q n s->n≠0
 |0,_,h=>h.elim
 |_+1,_,_=>by simp
theorem ob{b:Code}{n:Nat}(h:GO P nt (.code b:: .BI b n::k) Q s):GO P nt (.code (.loop b)::k) Q s:=by
 have h0:UA P nt b (kp P nt k Q) (n+1) s:=by
  intro M N a w Y;refine AW.then h Y fun e A G x y t D j hq=>⟨x,y,t,D,j,?_⟩
  cases e<;>exact hq
 intro M0 N0 a0 w0 c0
 let J:Act->World->Nat->Prop:=fun a w m=> ∃t M N,Ext M0 N0 (· <s.nx) s.h w0 M N (· <t.nx) t.h w∧Fits M N t nt a w∧UA P nt b (kp P nt k Q) m t
 have R:J a0 w0 (n+1):=⟨s,M0,N0,.refl _ _ _ _ _,c0,h0⟩
 have cQ: ∀{p:Nat->Prop},(∃n,p n)-> ∃n,p n∧ ∀m,p m->n<=m:=by
  intro p ⟨n,hn⟩
  induction n using Nat.strongRecOn with
  |_ n ih=>
   by_cases C: ∃m,m<n∧p m
   .obtain⟨m,h1,I⟩:=C;exact ih m h1 I
   .exact⟨n,hn,fun m I=>Rj fun h1=>C ⟨m,h1,I⟩⟩
 refine wp_loop (fun a w=> ∃n,J a w n) (fun a w=>by classical exact if h: ∃n,J a w n then RY (cQ h) else 0) ⟨_,R⟩ fun a w b0=>?_;obtain⟨⟨t,M,N,D,Y,hu⟩,d0⟩:=Rh (cQ b0);obtain⟨m,C⟩: ∃m,RY (cQ b0)=m+1:=⟨RY (cQ b0)-1,by have:=hu.more;omega⟩
 rw[C]at hu;refine AW.then hu Y fun e A G x y s' u j hr=>?_
 cases e with
 |normal=>
  have B:J A G m:=⟨s',x,y,D.trans u,j,hr⟩
  refine⟨⟨_,B⟩,?_⟩;simp only[dif_pos b0,dif_pos (⟨_,B⟩: ∃n,J A G n)];have:=(Rh (cQ (⟨_,B⟩: ∃n,J A G n))).2 _ B;omega
 |_=>exact⟨x,y,s',D.trans u,j,hr⟩
theorem go_round{b:Code}{n:Nat}(h:GO P nt (.code b:: .BI b n::k) Q s):GO P nt (.BI b (n+1)::k) Q s:=by
 intro M N a w y;refine AW.then h y fun e C D u x t B j A=>⟨u,x,t,B,j,?_⟩
 cases e<;>exact A
end
section
variable {M:Mem} {N:Nm} {w:World} {n:Nat} {h:AH}
theorem a8{i:Nat}{h:AH}: ∀j o,AH.get ((i,is)::h) j=io o->j≠i∧h.get j=io o:=by
 intro j o b;rw[AH.ay]at b;split at b
 .cases b
 .rename_i u;exact⟨u,b⟩
theorem Rel.move(hr:Rel M N (· <n) h w){i:Nat}{o0:AO}(hi:h.get i=io o0)(h0:o0.real=jp)(D:World)(o:AO)(b0:D.os=w.os)(I:D.tape=w.tape)(J:D.output=w.output)(d0:D.heap.size=w.heap.size)
  (hk: ∀b,b≠N.az i->D.heap[b]? =w.heap[b]?) (ho:OR M (N.with n (N.az i) (N.ext i)) (· <n+1) D n o) (hd:w.drawn<=D.drawn:=by first|exact Ps _|exact QO _):
  Ext M N (· <n) h w M (N.with n (N.az i) (N.ext i)) (· <n+1) ((n,io o)::(i,is)::h) D∧Rel M (N.with n (N.az i) (N.ext i)) (· <n+1) ((n,io o)::(i,is)::h) D:=by
 have G:=N.eH n (N.az i) (N.ext i);have u: ∀j p,AH.get ((n,io o)::(i,is)::h) j=io p->(j=n∧p=o)∨(j<n∧j≠i∧h.get j=io p):=by
  intro j p A;rw[AH.ay]at A;split at A
  .rename_i R;exact .inl ⟨R,by simpa using A.symm⟩
  .obtain⟨h1,B⟩:=a8 j p A;exact .inr ⟨hr.used j p B,h1,B⟩
 have c0:=hr.used i o0 hi;refine⟨⟨b0,I,⟨J,hd⟩,by omega,fun b hb hn=>hk b (fun e=>hn i o0 hi h0 e.symm),.refl _,fun b c h1 B=>by simp[h1]at B,G,fun i hi=>by omega,fun j p A y=>?_⟩,?_⟩
 .rcases u j p A with⟨rfl,rfl⟩|⟨h1,B,C⟩
  .exact .inr ⟨i,o0,hi,h0,by simp⟩
  .exact .inr ⟨j,p,C,y,(G.az j h1).symm⟩
 .refine⟨fun b c hb=>?_,fun j p A=>?_,fun j p A y=>?_,fun j p A=>?_,fun j k p q A Y hp hq x=>?_⟩
  .have a0:b≠N.az i:=fun e=>by
    have:=hr.dM i o0 hi h0;rw[<-e,hb]at this;simp at this
   exact(hr.dZ b c hb).mono (hk b a0)
  .rcases u j p A with⟨rfl,rfl⟩|⟨h1,B,C⟩<;>omega
  .rcases u j p A with⟨rfl,rfl⟩|⟨h1,B,C⟩
   .simpa using hr.dM i o0 hi h0
   .rw[G.az j h1];exact hr.dM j p C y
  .rcases u j p A with⟨rfl,rfl⟩|⟨h1,B,C⟩
   .exact ho
   .cases y:p.real with
    |true=>exact(hr.obj j p C).mono (.refl _) G (fun i hi=>by omega) h1 (hk _ (fun e=>B (hr.inj j i p o0 C hi y h0 e)))
    |false=>
     cases p with
     |row sz es=>cases es with
      |nil=>exact .inl Z
      |cons=>cases y
     |bp l T=>cases l with
      |nil=>exact .inl Z
      |cons=>cases y
     |_=>cases y
  .rcases u j p A with⟨rfl,rfl⟩|⟨h1,B,C⟩<;>rcases u k q Y with⟨rfl,rfl⟩|⟨h4,h5,h6⟩
   .rfl
   .rw[G.az k h4]at x;simp at x;exact absurd (hr.inj _ _ _ _ hi h6 h0 hq x).symm h5
   .rw[G.az j h1]at x;simp at x;exact absurd (hr.inj _ _ _ _ C hi hp h0 x) B
   .rw[G.az j h1,G.az k h4]at x;exact hr.inj _ _ _ _ C h6 hp hq x
theorem Rel.del{U:Nat->Prop}(hr:Rel M N U h w)(i:Nat):Rel M N U ((i,is)::h) w:=
 ⟨hr.dZ,fun j o b=>hr.used j o (a8 j o b).2,fun j o b u=>hr.dM j o (a8 j o b).2 u,fun j o b=>hr.obj j o (a8 j o b).2,
  fun j k o p b hk=>hr.inj j k o p (a8 j o b).2 (a8 k p hk).2⟩
theorem Ext.del{x:Mem}{y:Nm}{U A:Nat->Prop}{B:AH}{C:World}(b:Ext M N U h w x y A B C)(i:Nat):Ext M N U h w x y A ((i,is)::B) C:=
 ⟨b.os,b.tape,b.output,b.size,b.fN,b.ov,b.gx,b.nm,b.ule,fun j o D u=>b.fK j o (a8 j o D).2 u⟩
theorem Rel.swap{U:Nat->Prop}{i j:Nat}(b:i≠j){o p:Option AO}(hr:Rel M N U ((i,o)::(j,p)::h) w):Rel M N U ((j,p)::(i,o)::h) w:=by
 have e: ∀k,AH.get ((j,p)::(i,o)::h) k=AH.get ((i,o)::(j,p)::h) k:=by
  intro k;simp only[AH.ay];by_cases h1:k=i
  .subst h1;rw[be b,am Z,am Z]
  .simp[h1]
 exact⟨hr.dZ,fun k o hk=>hr.used k o (by rw[<-e];exact hk),fun k o hk=>hr.dM k o (by rw[<-e];exact hk),fun k o hk=>hr.obj k o (by rw[<-e];exact hk),
  fun k l o p hk hl=>hr.inj k l o p (by rw[<-e];exact hk) (by rw[<-e];exact hl)⟩
end
inductive Src (h:AH) (sz:Nat):PV->List (List PV)->Prop
 |ct (n:Nat) (el:Nat->List IV):Src h sz (.iv (.ct sz n el)) ((PT n).map fun k=>(el k).map .iv)
 |row (j off n:Nat) (fs:List (List PV)) (hj:h.get j=io (.row sz fs)) (hle:off+n<=fs.length):Src h sz (.sl j off n sz) ((fs.drop off).take n)
 |nil:Src h sz (.iv (.v (.slice is 0 0))) []
theorem kC{sz:Nat}: ∀{es:List (List PV)},(∀(k:Nat) (e:List PV),es[k]? =io e->e.length=sz)-> ∀j p,es.flatten[j]? =io p-> ∃k e i,es[k]? =io e∧e[i]? =io p∧j=k*sz+i
 | [],_,j,p,h=>by simp at h
 |e::r,hl,j,p,h=>by
  rw[Sl]at h;have y:=hl 0 e Z;rcases Ql j e.length with hj|hj
  .rw[PD hj]at h;exact⟨0,e,j,rfl,h,by simp⟩
  .rw[PB hj]at h;obtain⟨k,b,i,h1,u,x⟩:=kC (fun k e h=>hl (k+1) e (by simpa using h)) _ p h;exact⟨k+1,b,i,by simpa using h1,u,by rw[Qo];omega⟩
theorem ig{sz:Nat}: ∀{es:List (List PV)},(∀(k:Nat) (e:List PV),es[k]? =io e->e.length=sz)->es.flatten.length=es.length*sz
 | [],_=>by simp
 |e::r,hl=>by
  rw[Sl,Pn,ig (fun k e h=>hl (k+1) e (by simpa using h)),hl 0 e Z,PX,Qo];omega
theorem mf{sz:Nat}: ∀{es:List (List PV)},(∀(k:Nat) (e:List PV),es[k]? =io e->e.length=sz)-> ∀k e i p,es[k]? =io e->e[i]? =io p->es.flatten[k*sz+i]? =io p
 | [],_,k,e,i,p,h,_=>by simp at h
 |e0::r,hl,k,e,i,p,h,hi=>by
  rw[Sl];have b:=hl 0 e0 Z;cases k with
  |zero=>
   simp at h;subst h;rw[Ru,PO,PD (Pj.1 hi).1];exact hi
  |succ k=>
   rw[PB (by rw[b,Qo];omega)];rw[show(k+1)*sz+i-e0.length=k*sz+i by rw[b,Qo];omega];exact mf (fun k e h=>hl (k+1) e (by simpa using h)) k e i p (by simpa using h) hi
section
variable {P:Program} {ty:Ty} {M:Mem} {N:Nm} {w:World} {nt:Nat} {s:AS} {a:Act}
theorem Src.ok{sz:Nat}{p:PV}{news:List (List PV)}(hs:Src s.h sz p news)(hf:Fits M N s nt a w){y:Value}(hy:VR M N (· <s.nx) p y):
  (∀(k:Nat) (e:List PV),news[k]? =io e->e.length=sz)∧ ∃I c,y= .slice I news.length c∧(news≠ []-> ∃b a0,I=io ⟨b,a0,is⟩∧
   ∀j p,news.flatten[j]? =io p-> ∃u,w.cell? ⟨b,a0+j,is⟩=io u∧VR M N (· <s.nx) p u):=by
 cases hs with
 |ct n el=>
  cases hy with
  |iv _ _ D=>
   cases D with
   |fp _ _ I c=>exact⟨by simp,I,c,by simp,by simp⟩
   |ct _ _ _ b a0 c hn hc hl hm hr=>
    have B: ∀(k:Nat) (e:List PV),((PT n).map fun k=>(el k).map PV.iv)[k]? =io e->e.length=sz:=by
     intro k e x;rw[Pp,Pr]at x;obtain⟨k',C,rfl⟩:=x;obtain⟨h1,A⟩:=Pj.1 C;simp at A h1;subst A;simpa using hl k h1
    refine⟨B,_,c,by simp,fun _=>⟨b,a0,rfl,fun j p hp=>?_⟩⟩;obtain⟨k,e,i,h1,A,rfl⟩:=kC B j p hp;rw[Pp,Pr]at h1;obtain⟨k',C,rfl⟩:=h1;obtain⟨J,h4⟩:=Pj.1 C;simp at h4 J;subst h4;rw[Pp,Pr]at A;obtain⟨q,hq,rfl⟩:=A;have D:i<sz:=by rw[<-hl k J];exact(Pj.1 hq).1
    have h5:=hm k i J D;cases hv:M.cell b (a0+k*sz+i) with
    |none=>simp[hv]at h5
    |some u=>
     refine⟨u,by rw[<-QY];exact hf.1.JX hv,.iv _ _ ?_⟩;have:=hr k i q J hq;rw[hv]at this;exact this
 |row j a0 n fs hj hle=>
  have R:=hf.1.obj j _ hj;have base:(∀(k:Nat) (e:List PV),fs[k]? =io e->e.length=sz)-> ∀(k:Nat) (e:List PV),((fs.drop a0).take n)[k]? =io e->e.length=sz:=by
   intro h k e x;rw[P8]at x;split at x
   .rw[Qj]at x;exact h _ e x
   .cases x
  cases hy with
  |lR _ _ hU=>exact⟨by simp,is,0,by simp,by simp⟩
  |sle _ _ cap hU hc x=>exact⟨by simp,io ⟨N.az j,0,is⟩,cap,by simp,by simp⟩
  |sl _ _ _ _ cap hU h0 hl hc x=>
   rcases R with rfl|⟨hsz,c,T,g1,g2,g3,g4,g5⟩
   .simp at hle;omega
   refine⟨base g4,_,cap,by simp;rw[Nat.min_eq_left (by omega)],fun _=>⟨N.az j,a0*sz,rfl,fun i p hp=>?_⟩⟩;obtain⟨k,e,G,h1,A,rfl⟩:=kC (base g4) i p hp;rw[P8]at h1;split at h1
   .rename_i hk;rw[Qj]at h1;have c0:G<sz:=by rw[<-g4 _ e h1];exact(Pj.1 A).1
    have Y:a0+k<fs.length:=(Pj.1 h1).1;have b0:(a0+k)*sz+G<c.size:=by
     have:(a0+k+1)*sz<=fs.length*sz:=PL _ Y;rw[Qo]at this;omega
    refine⟨c.getD ((a0+k)*sz+G) undef,?_,g5 _ e _ p h1 A⟩;rw[show a0*sz+(k*sz+G)=(a0+k)*sz+G by rw[Qo];omega];simp[World.cell?,g1,Pg,b0]
   .cases h1
 |nil=>
  cases hy with
  |iv _ _ D=>cases D with
   |v=>exact⟨by simp,is,0,rfl,by simp⟩
theorem oz{l:List PV}{b off:Nat}(h: ∀j p,l[j]? =io p-> ∃u,w.cell? ⟨b,off+j,is⟩=io u∧VR M N (· <s.nx) p u):
  ∃vs:List Value,vs.length=l.length∧(∀(j:Nat) (u:Value),vs[j]? =io u->w.cell? ((⟨b,off,is⟩:Addr).add j)=io u)∧ ∀(j:Nat) (p:PV),l[j]? =io p->VR M N (· <s.nx) p (vs.getD j undef):=by
 refine⟨(PT l.length).map fun j=>(w.cell? ⟨b,off+j,is⟩).getD undef,by simp,fun j u hu=>?_,fun j p B=>?_⟩
 .rw[Pp,Pr]at hu;obtain⟨D,x,rfl⟩:=hu;obtain⟨h1,A⟩:=Pj.1 x;simp at h1 A;subst A;obtain⟨u,hu,_⟩:=h j _ (Pl h1);rw[dr,hu];rfl
 .have y:j<l.length:=(Pj.1 B).1;obtain⟨u,hu,C⟩:=h j p B;rw[Pk];simp[y,hu,C]
theorem kf(t ty e:TypeId)(i:TypeInfo)(G:P.underlying t=io (.slice e))(hi:P.info? e=io i)(T:TypeId)
  (g iw x:Nat) (b:Array Value) (hg:w.heap[g]? =io (.cells b T (0,0)))
  (a:Addr) (m c:Nat) (news:List Value) (hl:news.length=m*i.size) (y: ∀(j:Nat) (u:Value),news[j]? =io u->w.cell? (a.add j)=io u) (h1: ∀u∈news,u.oneCell'=jp)
  (A:iw+m<=x) (B:iw*i.size+news.length<=b.size):
  (Builtin.append_ #[t,t] ty #[.slice (io ⟨g,0,is⟩) iw x,.slice (io a) m c]).run P w=
   .ok (.slice (io ⟨g,0,is⟩) (iw+m) x) (w.setRow g (b.toList.take (iw*i.size)++news++b.toList.drop (iw*i.size+news.length)).toArray):=by
 have D:=run_firstCells_some (P:=P) w i.size m a m c news hl y;have C:=run_storeCells_at P g (iw*i.size) T news 0 b w hg (by simpa using B) h1;simp only[Rl]at C;simp[Builtin.append_,run_underlying G,sizeOf,typeInfo,hi,Builtin.lenOf,A,D,Addr.add_lit,C]
theorem ix(t ty e:TypeId)(i:TypeInfo)(B:P.underlying t=io (.slice e))(hi:P.info? e=io i)(x:Option Addr)(iw j:Nat)(u:iw<=j)(y:Option Addr)(c:Nat)(hs:x=is∨ ∃b o,x=io ⟨b,o,is⟩):
  (Builtin.append_ #[t,t] ty #[.slice x iw j,.slice y 0 c]).run P w= .ok (.slice x iw j) w:=by
 have A:(Builtin.firstCells i.size 0 (.slice y 0 c)).run P w= .ok #[] w:=by
  cases y with
  |none=>simp[Builtin.firstCells]
  |some a=>simp[Builtin.firstCells,loadCells,loadCellsFrom]
 rcases hs with rfl|⟨b,o,rfl⟩
 .simp[Builtin.append_,run_underlying B,sizeOf,typeInfo,hi,Builtin.lenOf,u,A]
 .simp[Builtin.append_,run_underlying B,sizeOf,typeInfo,hi,Builtin.lenOf,u,A,storeCells]
def pf(s:AS)(i sz:Nat)(es news:List (List PV)):AS:=match s with|⟨f,h,n⟩=>⟨f,(n,io (.row sz (es++news)))::(i,is)::h,n+1⟩
theorem FE(s:AS)(i sz:Nat)(es news:List (List PV)):(pf s i sz es news).h=(s.nx,io (.row sz (es++news)))::(i,is)::s.h:=by cases s;rfl
theorem L5(s:AS)(i sz:Nat)(es news:List (List PV)):(pf s i sz es news).f=s.f:=by cases s;rfl
theorem jM(s:AS)(i sz:Nat)(es news:List (List PV)):(pf s i sz es news).nx=s.nx+1:=by cases s;rfl
theorem mD{i sz:Nat}{es news:List (List PV)}{b:Mem}{j:Nm}{u:World}(hf:Fits M N s nt a w)(x:Ext M N (· <s.nx) s.h w b j (· <s.nx+1) ((s.nx,io (.row sz (es++news)))::(i,is)::s.h) u)
  (hr:Rel b j (· <s.nx+1) ((s.nx,io (.row sz (es++news)))::(i,is)::s.h) u):
  Ext M N (· <s.nx) s.h w b j (· <(pf s i sz es news).nx) (pf s i sz es news).h u∧Fits b j (pf s i sz es news) nt a u:=by
 rw[FE,jM];refine⟨x,?_,?_,hf.2.2⟩
 .rw[FE,jM];exact hr
 .rw[L5,jM];exact hf.2.1.ext x
theorem Ext.swap{U B:Nat->Prop}{h u:AH}{y:Mem}{A:Nm}{C:World}{i j:Nat}(x:i≠j){o p:Option AO}(b:Ext M N U h w y A B ((i,o)::(j,p)::u) C):Ext M N U h w y A B ((j,p)::(i,o)::u) C:=by
 have e: ∀k,AH.get ((j,p)::(i,o)::u) k=AH.get ((i,o)::(j,p)::u) k:=by
  intro k;simp only[AH.ay];by_cases h1:k=i
  .subst h1;rw[be x,am Z,am Z]
  .simp[h1]
 exact⟨b.os,b.tape,b.output,b.size,b.fN,b.ov,b.gx,b.nm,b.ule,fun k o hk=>b.fK k o (by rw[<-e];exact hk)⟩
theorem L4(x1:bx P ty){o:Oper}{x y:Operand}{t u:TypeId}(ho:o.op= .call ⟨.builtin .append, #[x,y], #[t,t]⟩){e A:bE}(ht:ty t=io e)(hk:e.k= .aM (.slice u))(hu:ty u=io A)
  {i len sz:Nat} {es news:List (List PV)} {py:PV} (hx:ev s.f x= .sl i 0 len sz) (hi:s.h.get i=io (.row sz es)) (G:es.length=len) (l2:A.size=sz) (hz:A.zero.cells.size=sz) (k2:0<sz)
  (i2:ev s.f y=py) (hy:Src s.h sz py news) (m1: ∀e∈news,eB e=jp) (hb:(len+news.length)*A.bytes<=140737488355328) (r2:len+news.length<=140737488355328)
  {s':AS} (hp:putDst nt o (.sl s.nx 0 (len+news.length) sz) (pf s i sz es news)=io s'):OT P nt o s (fun t=>t=s'):=by
 refine OT.value hp fun M N a w hf=>?_;subst l2;obtain⟨⟨ii,r0,x0,d2,v1⟩,_⟩:=x1 u _ hu
 have t0:P.underlying t=io (.slice u):=by
  have:=(x1 t _ ht).2.1;rw[hk]at this;exact this.1
 have p1:=aH hf.2.1 x;rw[hx]at p1;have z1:=aH hf.2.1 y;rw[i2]at z1;obtain⟨R,ao,c,p2,e0⟩:=hy.ok hf z1;have C: ∀v w',(Builtin.append_ #[t,t] o.type #[a.eval x,a.eval y]).run P w= .ok v w'->(execOp a.eval o).run P w= .ok (.value v) w':=by
  intro v w' h;simp only[execOp,ho,resolve];simp[invoke,builtin,h]
 rw[p2]at C;have s2:i<s.nx:=hf.1.used i _ hi;have z0:s.nx≠i:=by omega
 have f2:=hf.1.obj i _ hi;have c0:(len+news.length)*ii.bytes<=140737488355328:=by rw[d2];exact hb
 have i0: ∀(I vs:List Value) (a0:Nat),I.length=es.length*A.size->vs.length=news.length*A.size->(∀(k:Nat) (e:List PV) (j:Nat) (p:PV),es[k]? =io e->e[j]? =io p->VR M N (· <s.nx) p (I.getD (k*A.size+j) undef))->
   (∀(k:Nat) (e:List PV),es[k]? =io e->e.length=A.size)->(∀(j:Nat) (p:PV),news.flatten[j]? =io p->VR M N (· <s.nx) p (vs.getD j undef))->len+news.length<=a0->a0<=maxLen->0<len+news.length->
   ∀z:Array Value,z=I.toArray++vs.toArray++Builtin.zeroCells A.zero.cells (a0-(len+news.length))->
   ∃M' N',Ext M N (· <s.nx) s.h w M' N' (· <(pf s i A.size es news).nx) (pf s i A.size es news).h (w.drew.alloc (.cells z u))∧Fits M' N' (pf s i A.size es news) nt a (w.drew.alloc (.cells z u))∧
    VR M' N' (· <(pf s i A.size es news).nx) (.sl s.nx 0 (len+news.length) A.size) (.slice (io ⟨w.heap.size,0,is⟩) (len+news.length) a0):=by
  intro I vs a0 l1 Y n2 t1 m2 m0 c2 n1 z r1;have g0:z.size=a0*A.size:=by
   rw[r1,RA,RA,size_zeroCells,hz];simp only[List.size_toArray,l1,Y,G];rw[<-Qo,<-Qo,Nat.add_sub_cancel' m0]
  obtain⟨N',h1,h2,h3,h4,h5⟩:=hf.1.drew.alloc (.cells z u) (.row A.size (es++news)) z.size (fun N' g1 g2 g3=>by
   refine .inr ⟨k2,z,u,by rw[g1];exact heap_alloc_new _ _,g2.symm,?_,fun k e B=>?_,fun k e j p B J=>?_⟩
   .rw[g0,Pn,G];exact PL _ m0
   .rcases Ql k es.length with hk|hk
    .rw[PD hk]at B;exact t1 k e B
    .rw[PB hk]at B;exact R _ e B
   .rcases Ql k es.length with hk|hk
    .rw[PD hk]at B;have j1:j<A.size:=by rw[<-t1 k e B];exact(Pj.1 J).1
     have q0:k*A.size+j<I.length:=by
      rw[l1];have:(k+1)*A.size<=es.length*A.size:=PL _ hk;rw[Qo]at this;omega
     have:=n2 k e j p B J;have e1:z.getD (k*A.size+j) undef=I.getD (k*A.size+j) undef:=by
      rw[r1,Pg,Array.append_assoc,P1 (by simpa using q0),Pk];simp
     rw[e1];exact this.mono (.refl _) g3 (fun i hi=>by omega)
    .rw[PB hk]at B;have j1:j<A.size:=by rw[<-R _ e B];exact(Pj.1 J).1
     have k1:k-es.length<news.length:=(Pj.1 B).1;have i1:=mf R _ e j p B J;have q0:(k-es.length)*A.size+j<vs.length:=by
      rw[Y];have:(k-es.length+1)*A.size<=news.length*A.size:=PL _ k1;rw[Qo]at this;omega
     have f0:k*A.size+j=I.length+((k-es.length)*A.size+j):=by
      rw[l1,Nat.sub_mul];have:es.length*A.size<=k*A.size:=PL _ hk;omega
     have:=m2 _ p i1;have e1:z.getD (k*A.size+j) undef=vs.getD ((k-es.length)*A.size+j) undef:=by
      rw[r1,Pg,f0,P1 (by simp;omega),RS (by simp),Pk];simp
     rw[e1];exact this.mono (.refl _) g3 (fun i hi=>by omega))
  have j2:=(h5.del i).swap (Ne.symm z0);have o2:=(((Ext.drew (M:=M) (N:=N) (U:=(· <s.nx)) (h:=s.h) (w:=w)).trans h4).del i).swap (Ne.symm z0);obtain⟨g1,g2⟩:=mD hf o2 j2;refine⟨M,N',g1,g2,?_⟩;rw[jM];have:=VR.sl (M:=M) (N:=N') (U:=(· <s.nx+1)) s.nx 0 (len+news.length) A.size a0 (by omega) n1 m0 c2 (by rw[h2,g0];simp);rw[h1,Ru]at this;exact this
 have o0: ∀vs:List Value,vs.length=news.flatten.length->vs.length=news.length*ii.size:=fun vs h=>by rw[h,ig R,x0]
 generalize a.eval x=vx at p1 C;cases p1 with
 |lR _ _ hU=>
  have B:es=[]:=by simpa using G
  subst B;by_cases hm:news=[]
  .subst hm;have D:=ix (P:=P) (w:=w) t o.type u ii t0 r0 is 0 0 (Ps _) ao c (.inl Z);obtain⟨h1,h2⟩:=hf.1.FU A.size;obtain⟨g1,g2⟩:=mD (es:=[]) (news:=[]) (i:=i) hf ((h1.del i).swap (Ne.symm z0)) ((h2.del i).swap (Ne.symm z0));exact⟨_,w,M,N,C _ _ D,g1,g2,.lR _ _ (by rw[jM];omega)⟩
  .obtain⟨b,b1,d1,b0⟩:=e0 hm;subst d1;obtain⟨vs,Y,a1,w0⟩:=oz (s:=s) b0;have w1:0<news.length:=Qv.2 hm;have D:=run_append_nil (P:=P) w t o.type u ii A.zero t0 r0 v1 ⟨b,b1,is⟩ news.length c vs (o0 vs Y) a1 w1 (by omega) (by simp only[Q6,PO]at c0;omega);obtain⟨M',N',g1,g2,g3⟩:=i0 [] vs (grownCap w news.length 0 u) (by simp) (by rw[Y,ig R]) (by simp) (by simp) w0 (by simpa using grownCap_ge w news.length 0 u) (grownCap_le_maxLen w _ _ _ (by simp only[maxLen];omega)) (by omega) _ Z;simp only[PO,Rc] at*
   exact⟨_,_,M',N',C _ _ D,by simpa using g1,by simpa using g2,by simpa using g3⟩
 |sl _ _ _ _ a0 hU h0 hl hc hext=>
  rcases f2 with rfl|⟨hsz0,cur,T,q1,q2,q3,q4,q5⟩
  .simp at G;omega
  have k0:(AO.row A.size es).real=jp:=by cases es with
   |nil=>simp at G;omega
   |cons=>rfl
  rw[Ru]at C;have n0:cur.size=a0*A.size:=by rw[q2,<-hext,PO]
  by_cases hm:news=[]
  .subst hm;have D:=ix (P:=P) (w:=w) t o.type u ii t0 r0 (io ⟨N.az i,0,is⟩) len a0 hl ao c (.inr ⟨_,_,rfl⟩)
   obtain⟨h1,h2⟩:=hf.1.move hi k0 w (.row A.size (es++ [])) Z Z Z Z (fun _ _=>rfl) (by
    rw[Qm]
    exact .inr ⟨hsz0,cur,T,by simpa using q1,by simpa using q2,q3,q4,fun k e j p B J=>(q5 k e j p B J).mono (.refl _) (N.eH _ _ _) (fun i hi=>by omega)⟩)
   obtain⟨g1,g2⟩:=mD (es:=es) (news:=[]) (i:=i) hf h1 h2;refine⟨_,w,M,_,C _ _ D,g1,g2,?_⟩;have:=VR.sl (M:=M) (N:=N.with s.nx (N.az i) (N.ext i)) (U:=(· <s.nx+1)) s.nx 0 len A.size a0 (by omega) h0 hl hc (by simpa using hext);rw[jM];simpa using this
  .obtain⟨b,b1,d1,b0⟩:=e0 hm;subst d1;obtain⟨vs,Y,a1,w0⟩:=oz (s:=s) b0;have w1:0<news.length:=Qv.2 hm;have p0:vs.length=news.length*A.size:=by rw[Y,ig R]
   have s0: ∀(j:Nat) (v:Value),(cur.toList.take (len*A.size))[j]? =io v->w.cell? ((⟨N.az i,0,is⟩:Addr).add j)=io v:=by
    intro j v hv;rw[P8]at hv;split at hv
    .rw[dr,PO];simp only[World.cell?,q1];simpa using hv
    .cases hv
   have t2:len*A.size<=cur.size:=by rw[n0];exact PL _ hl
   have j0: ∀(k:Nat) (e:List PV) (j:Nat) (p:PV),es[k]? =io e->e[j]? =io p->k*A.size+j<len*A.size:=by
    intro k e j p B J;have hk:k<len:=by rw[<-G];exact(Pj.1 B).1
    have j1:j<A.size:=by rw[<-q4 k e B];exact(Pj.1 J).1
    have:(k+1)*A.size<=len*A.size:=PL _ hk;rw[Qo]at this;omega
   by_cases d0:len+news.length<=a0
   .have f1:len*A.size+vs.length<=cur.size:=by rw[p0,<-Qo,n0];exact PL _ d0
    have v0: ∀v∈vs,v.oneCell'=jp:=by
     intro v hv;obtain⟨j,J⟩:=P9 hv;have e2:j<news.flatten.length:=by rw[<-Y];exact(Pj.1 J).1
     have hp:=Pl e2;obtain⟨k,e,i',h1,h2,_⟩:=kC R j _ hp;have:=(w0 j _ hp).one (gJ (m1 e (PY h1)) i' _ h2);rw[Pk,J]at this;exact this
    have D:=kf (P:=P) (w:=w) t o.type u ii t0 r0 T (N.az i) len a0 cur q1 ⟨b,b1,is⟩ news.length c vs (o0 vs Y) a1 v0 d0 (by rw[x0];exact f1);rw[x0]at D;generalize hL:(cur.toList.take (len*A.size)++vs++cur.toList.drop (len*A.size+vs.length)).toArray=L at D;have s1:L.size=cur.size:=by rw[<-hL];simp;omega
    have o1:=setRow_heap w (N.az i) cur L T (0,0) q1;have b2: ∀j,j<len*A.size->L.getD j undef=cur.getD j undef:=by
     intro j J;rw[<-hL,Pg,Pg];simp only[Qg];rw[PH,PD (by simp;omega),P8,am J,PN]
    have a2: ∀j,j<vs.length->L.getD (len*A.size+j) undef=vs.getD j undef:=by
     intro j J;rw[<-hL,Pg,Pk];simp only[Qg];rw[PD (by simp;omega),PB (by simp;omega)];congr 2;simp;omega
    obtain⟨h1,h2⟩:=hf.1.move hi k0 (w.setRow (N.az i) L) (.row A.size (es++news)) Z Z Z (by simp) (fun b hb=>by
      simp only[World.setRow,PZ]
      rw[be (fun e=>hb e.symm)]) (by
     refine .inr ⟨hsz0,L,T,by simpa using o1,by rw[s1];simpa using q2,?_,fun k e B=>?_,fun k e j p B J=>?_⟩
     .rw[s1,n0,Pn,G];exact PL _ d0
     .rcases Ql k es.length with hk|hk
      .rw[PD hk]at B;exact q4 k e B
      .rw[PB hk]at B;exact R _ e B
     .rcases Ql k es.length with hk|hk
      .rw[PD hk]at B;rw[b2 _ (j0 k e j p B J)];exact(q5 k e j p B J).mono (.refl _) (N.eH _ _ _) (fun i hi=>by omega)
      .rw[PB hk]at B;have j1:j<A.size:=by rw[<-R _ e B];exact(Pj.1 J).1
       have k1:k-es.length<news.length:=(Pj.1 B).1;have i1:=mf R _ e j p B J;have q0:(k-es.length)*A.size+j<vs.length:=by
        rw[p0];have:(k-es.length+1)*A.size<=news.length*A.size:=PL _ k1;rw[Qo]at this;omega
       have f0:k*A.size+j=len*A.size+((k-es.length)*A.size+j):=by
        rw[<-G,Nat.sub_mul];have:es.length*A.size<=k*A.size:=PL _ hk;omega
       rw[f0,a2 _ q0]
       exact(w0 _ p i1).mono (.refl _) (N.eH _ _ _) (fun i hi=>by omega))
    obtain⟨g1,g2⟩:=mD (es:=es) (news:=news) (i:=i) hf h1 h2;refine⟨_,_,M,_,C _ _ D,g1,g2,?_⟩;have:=VR.sl (M:=M) (N:=N.with s.nx (N.az i) (N.ext i)) (U:=(· <s.nx+1)) s.nx 0 (len+news.length) A.size a0 (by omega) (by omega) d0 hc (by simpa using hext);rw[jM];simpa using this
   .have D:=run_append_grow (P:=P) w t o.type u ii A.zero t0 r0 v1 ⟨N.az i,0,is⟩ len a0 (cur.toList.take (len*A.size)) (by rw[x0];simp;omega) s0 ⟨b,b1,is⟩ news.length c vs (o0 vs Y) a1 (by omega) (by omega)
     (growslice_fits (by omega) c0)
    obtain⟨M',N',g1,g2,g3⟩:=i0 (cur.toList.take (len*A.size)) vs (grownCap w (len+news.length) a0 u) (by rw[G];simp;omega) p0 (fun k e j p B J=>by
      have:=q5 k e j p B J;have q0:=j0 k e j p B J;rw[Pk,P8,am q0,PN]
      rw[Pg]at this;exact this) q4 w0 (grownCap_ge w _ _ _) (grownCap_le_maxLen w _ _ _ (by simp only[maxLen];omega)) (by omega) _ Z
    exact⟨_,_,M',N',C _ _ D,g1,g2,g3⟩
def K5(h:AH)(sz:Nat):PV->Option (List (List PV))
 | .iv (.ct sz' n el)=>match PJ sz' sz with
  |true=>io ((PT n).map fun k=>(el k).map .iv)
  |false=>is
 | .iv (.v (.slice is 0 0))=>io []
 | .sl j off n sz'=>match PJ sz' sz,h.get j with
  |true,io (.row sz2 fs)=>match PJ sz2 sz,Rw (off+n) fs.length with
   |true,jp=>io ((fs.drop off).take n)
   |_,_=>is
  |_,_=>is
 |_=>is
theorem gQ{h:AH}{sz:Nat}{p:PV}{news:List (List PV)}(hs:K5 h sz p=io news):Src h sz p news:=by
 unfold K5 at hs;split at hs
 .split at hs
  .rename_i hb;simp only[Ph]at hs;have:=PC hb;subst this;subst hs;exact .ct _ _
  .cases hs
 .simp only[Ph]at hs;subst hs;exact .nil
 .split at hs
  .rename_i b y;split at hs
   .rename_i j u;simp only[Ph]at hs;have h1:=PC b;have x:=PC j;subst h1;subst x;subst hs;exact .row _ _ _ _ y (Pf u)
   .cases hs
  .cases hs
 .cases hs
def allOnes:List (List PV)->Bool
 | []=>jp
 |e::r=>match eB e with
  |true=>allOnes r
  |false=>kw
theorem jq: ∀{l:List (List PV)},allOnes l=jp-> ∀e∈l,eB e=jp
 | [],_,e,h=>by cases h
 |c::l,h,e,he=>by
  simp only[allOnes]at h;split at h
  .rename_i b;rcases Px.1 he with rfl|he
   .exact b
   .exact jq h e he
  .cases h
def rV(s:AS)(t sz:Nat):AS:=match s with|⟨f,h,n⟩=>⟨(t,.sl n 0 0 sz)::f,(n,io (.row sz []))::h,n+1⟩
theorem FT{o:Oper}{R:AS->Prop}{t sz:Nat}(y:s.f.get t= .iv (.v (.slice is 0 0)))(h:OT P nt o (rV s t sz) R):OT P nt o s R:=by
 intro M N a w b K Z hk;obtain⟨Y,sh,sn⟩:=s;obtain⟨h1,D⟩:=b.1.FU sz;have u:Fits M N (rV ⟨Y,sh,sn⟩ t sz) nt a w:=by
  refine⟨D,fun k=>?_,b.2.2⟩;simp only[rV];rw[AF.ay];split
  .rename_i x;subst x;have:=b.2.1 k;simp only at y this;rw[y]at this;generalize a.tmps.getD k undef=v at this;cases this with
   |iv _ _ h=>cases h with
    |v=>exact .lR _ _ (Q9 _)
  .exact(b.2.1 k).mono (.refl _) (.refl _ _) (fun i G=>QR G)
 exact h M N a w u K Z fun A B s' C w' J j I=>hk A B s' C w' (h1.trans J) j I
def ze(s:AS)(op:Op):Option (Nat×TypeId):=
 match op with
 | .call ⟨.builtin .append,args,tys⟩=>match args.toList,tys.toList with
  | [.tmp t0,_],[t,_]=>match s.f.get t0 with
   | .iv (.v (.slice is 0 0))=>io (t0,t)
   |_=>is
  |_,_=>is
 |_=>is
theorem Ci{op:Op}{t0:Nat}{t:TypeId}(h:ze s op=io (t0,t)):s.f.get t0= .iv (.v (.slice is 0 0)):=by
 unfold ze at h;split at h
 .split at h
  .split at h
   .rename_i b;simp only[Ph,Pt]at h;rw[<-h.1];exact b
   .cases h
  .cases h
 .cases h
end
end
section
section
variable {kc:KC} {V:Type} {M:Mem} {e:V->IV} {m:List (kc.K×V)} {ents:Array MapEntry} {clock:Nat}
theorem iB.zy(h:iB M kc e m ents clock){j:Nat}(hj:j<ents.size):ents.getD j co=ents[j]:=by simp[Pg,hj]
theorem iB.set(h:iB M kc e m ents clock){i:Nat}{k:kc.K}{v:V}{y:Value}(hv:IR M (e v) y):iB M kc e (m.set i (k,v)) (ents.modify i fun x=>{x with key:=kc.ek k,val:=y}) clock:=by
 have hb: ∀(j:Nat) (f:MapEntry),(ents.modify i fun x=>{x with key:=kc.ek k,val:=y})[j]? =io f-> ∃g,ents[j]? =io g∧g.born=f.born:=by
  intro j f u;rw[PZ]at u;split at u
  .obtain⟨g,I,rfl⟩:=Pr.1 u;exact⟨g,I,rfl⟩
  .exact⟨f,u,rfl⟩
 have J: ∀(j:Nat) (x:kc.K×V),(m.set i (k,v))[j]? =io x->(j=i∧x=(k,v)∧i<m.length)∨(j≠i∧m[j]? =io x):=by
  intro j x b;rw[Rb]at b;split at b
  .rename_i B;split at b
   .simp only[Ph]at b;exact .inl ⟨B.symm,b.symm,by assumption⟩
   .cases b
  .rename_i B;exact .inr ⟨fun e=>B e.symm,b⟩
 refine⟨by simp[h.size],fun j x b=>?_,fun j x b=>?_,fun j l f g u I G=>?_,fun j f u=>?_⟩
 .rcases J j x b with⟨rfl,rfl,C⟩|⟨h1,A⟩
  .have:j<ents.size:=by rw[h.size];exact C
   rw[Pg,PZ,am Z,PR this];rfl
  .have:=h.key j x A;rw[Pg,PZ,be (fun e=>h1 e.symm),<-Pg];exact this
 .rcases J j x b with⟨rfl,rfl,C⟩|⟨h1,A⟩
  .have:j<ents.size:=by rw[h.size];exact C
   rw[Pg,PZ,am Z,PR this];exact hv
  .have:=h.val j x A;rw[Pg,PZ,be (fun e=>h1 e.symm),<-Pg];exact this
 .obtain⟨D,h1,A⟩:=hb j f u;obtain⟨R,Y,h4⟩:=hb l g I;exact h.inj j l D R h1 Y (by rw[A,h4,G])
 .obtain⟨D,h1,A⟩:=hb j f u;rw[<-A];exact h.lt j D h1
theorem iB.push(h:iB M kc e m ents clock){k:kc.K}{v:V}{y:Value}(Y:IR M (e v) y):iB M kc e (m++ [(k,v)]) (ents.push {key:=kc.ek k,val:=y,born:=clock}) (clock+1):=by
 have D: ∀(j:Nat) (x:kc.K×V),(m++ [(k,v)])[j]? =io x->(j=ents.size∧x=(k,v))∨(j<ents.size∧m[j]? =io x):=by
  intro j x u;rw[h.size];rcases Ql j m.length with hj|hj
  .rw[PD hj]at u;exact .inr ⟨hj,u⟩
  .rw[PB hj]at u;have G:j-m.length=0:=by
    rcases Nat.eq_zero_or_pos (j-m.length) with h1|h1
    .exact h1
    .rw[List.getElem?_eq_none (by simp;omega)]at u;cases u
   rw[G]at u;exact .inl ⟨by omega,by simpa using u.symm⟩
 have hb: ∀(j:Nat) (f:MapEntry),(ents.push {key:=kc.ek k,val:=y,born:=clock})[j]? =io f->(j=ents.size∧f.born=clock)∨(j<ents.size∧ents[j]? =io f∧f.born<clock):=by
  intro j f b;rw[RE]at b;split at b
  .rename_i hj;simp only[Ph]at b;subst b;exact .inl ⟨hj,rfl⟩
  .exact .inr ⟨(Qr.1 b).1,b,h.lt j f b⟩
 refine⟨by simp[h.size],fun j x u=>?_,fun j x u=>?_,fun j l f g b R B=>?_,fun j f b=>?_⟩
 .rcases D j x u with⟨rfl,rfl⟩|⟨h1,A⟩
  .simp[Pg]
  .have:=h.key j x A;rw[Pg,RE,be (by omega),<-Pg];exact this
 .rcases D j x u with⟨rfl,rfl⟩|⟨h1,A⟩
  .simpa[Pg]using Y
  .have:=h.val j x A;rw[Pg,RE,be (by omega),<-Pg];exact this
 .rcases hb j f b with⟨h1,A⟩|⟨h1,A,I⟩<;>rcases hb l g R with⟨J,C⟩|⟨J,C,h6⟩
  .omega
  .omega
  .omega
  .exact h.inj j l f g A C B
 .rcases hb j f b with⟨h1,A⟩|⟨h1,A,I⟩<;>omega
theorem iB.erase(h:iB M kc e m ents clock){i:Nat}(hi:i<m.length):iB M kc e (m.eraseIdx i) (ents.eraseIdxIfInBounds i) clock:=by
 have C:i<ents.size:=by rw[h.size];exact hi
 have D: ∀j,(ents.eraseIdxIfInBounds i)[j]? =if j<i then ents[j]? else ents[j+1]? :=by
  intro j;simp only[Sp,C,dif_pos];rw[Array.getElem?_eraseIdx]
 have G: ∀j,(m.eraseIdx i)[j]? =if j<i then m[j]? else m[j+1]? :=fun j=>List.getElem?_eraseIdx;refine⟨?_,fun j x A=>?_,fun j x A=>?_,fun j l f g u b y=>?_,fun j f u=>?_⟩
 .simp only[Sp,C,dif_pos,Array.size_eraseIdx,List.length_eraseIdx,hi,if_true,h.size]
 .rw[G]at A;rw[Pg,D];split at A
  .rename_i B;rw[am B,<-Pg];exact h.key j x A
  .rename_i B;rw[be B,<-Pg];exact h.key _ x A
 .rw[G]at A;rw[Pg,D];split at A
  .rename_i B;rw[am B,<-Pg];exact h.val j x A
  .rename_i B;rw[be B,<-Pg];exact h.val _ x A
 .rw[D]at u b;split at u<;>split at b
  .exact h.inj _ _ f g u b y
  .have:=h.inj _ _ f g u b y;omega
  .have:=h.inj _ _ f g u b y;omega
  .have:=h.inj _ _ f g u b y;omega
 .rw[D]at u;split at u<;>exact h.lt _ f u
theorem vQ(kc:KC)(k:kc.K):Instr.sameBits 10000 (kc.ek k) (kc.ek k)=jp:=by
 have hs: ∀(n:Nat) (a:ByteArray),Instr.sameBits n (.string a) (.string a)=jp:=by
  intro n a;cases n<;>(simp only[Instr.sameBits];rw[beq_toListBytes,r7];simp)
 have b: ∀(n:Nat) (q:IntKind) (a:Int),Instr.sameBits n (.int q a) (.int q a)=jp:=by
  intro n q a;cases n<;>simp[Instr.sameBits]
 cases kc with
 |str=>exact hs _ _
 |int q=>exact b _ _ _
 |si q=>
  simp only[KC.ek];show((#[Value.string k.1,.int q k.2].size== #[Value.string k.1,.int q k.2].size)&&(Instr.sameBits 9999 (.string k.1) (.string k.1)&&(Instr.sameBits 9999 (.int q k.2) (.int q k.2)&&jp)))=jp;rw[hs,b];rfl
 |fl s=>
  have j: ∀(t:FS) (l:List Value),tP t l->(l.zip l).all (fun(x:Value×Value)=>Instr.sameBits 9999 x.1 x.2)=jp:=by
   intro t
   induction t with
   |nil=>intro l h;match l,h with
    | [],_=>rfl
   |cons o t ih=>intro l h;match l,h with
    |v::l,h=>
     rw[List.zip_cons_cons,Sq,ih l h.2,Bool.and_true];cases o with
     |none=>obtain⟨a,rfl⟩:=h.1;exact hs _ _
     |some q=>obtain⟨n,rfl⟩:=h.1;exact b _ _ _
  simp only[KC.ek];show(((FK.vs s k).toArray.size==(FK.vs s k).toArray.size)&&(((FK.vs s k).toArray.toList.zip (FK.vs s k).toArray.toList).all fun(x:Value×Value)=>Instr.sameBits 9999 x.1 x.2))=jp;rw[List.toList_toArray,j s _ (j4 s k)];simp
end
def Kh(ty:Ty)(s:AS):Op->Option (Prop×AS)
 | .mapUpdate t m k x=>match ev s.f m with
  | .mp i=>match s.h.get i with
   |some (.map kc e z zv dv mm)=>match ty t with
    |some ⟨.aM (.map kt _),_,_,_,_⟩=>match di ty kt with
     |some kc'=>match lc (kc'=kc),kc.dk (ev s.f k) with
      |true,io kk=>match s with
       |⟨f,h,n⟩=>ta (ev f x) fun p=>io (ah p (.iv (e (dv p))),⟨f,(i,io (.map kc e z zv dv (cA kc mm kk (dv p))))::h,n⟩)
      |_,_=>is
     |none=>is
    |_=>is
   |_=>is
  |_=>is
 | .call ⟨.builtin .delete,args,tys⟩=>match args.toList,tys.toList with
  | [m,k],[t,_]=>match ev s.f m with
   | .mp i=>match s.h.get i with
    |some (.map kc e z zv dv mm)=>match ty t with
     |some ⟨.aM (.map kt _),_,_,_,_⟩=>match di ty kt with
      |some kc'=>match lc (kc'=kc),kc.dk (ev s.f k) with
       |true,io kk=>match s with
        |⟨f,h,n⟩=>io (True,⟨f,(i,io (.map kc e z zv dv (jw kc mm kk)))::h,n⟩)
       |_,_=>is
      |none=>is
     |_=>is
    |_=>is
   |_=>is
  |_,_=>is
 |_=>is
section
variable {P:Program} {ty:Ty} {nt:Nat} {s:AS} {M:Mem} {N:Nm} {w:World}
def lS(w:World)(b:Nat)(o:Obj):World:={w with heap:=w.heap.setIfInBounds b o}
theorem qF{nx:Nat}{h:AH}(hr:Rel M N (· <nx) h w){i:Nat}{kc:KC}{V:Type}{e:V->IV}{z:V}{B:Value}{x:PV->V}{G A:List (kc.K×V)}(hi:h.get i=io (.map kc e z B x G)){u:Array MapEntry}{j:Nat}
  (hm:iB M kc e A u j):Ext M N (· <nx) h w M N (· <nx) ((i,io (.map kc e z B x A))::h) (lS w (N.az i) (.map u j))∧Rel M N (· <nx) ((i,io (.map kc e z B x A))::h) (lS w (N.az i) (.map u j)):=by
 have C:=hr.obj i _ hi;have y:=OR.lt C Z;obtain⟨ents,clock,h1,I,D⟩:=C;refine hr.write hi Z _ _ Z Z Z (by simp[lS]) (fun b hb=>?_) ⟨u,j,?_,hm,D⟩
 .show(w.heap.setIfInBounds _ _)[b]? =_;rw[PM,be (fun e=>hb e.symm)]
 .show(w.heap.setIfInBounds _ _)[_]? =_;rw[PM,am Z,am y]
theorem gV{r:Nat}{es:Array MapEntry}{clock:Nat}(o:Obj)(hb:w.heap[r]? =io (.map es clock)):(setObj r o).run P w= .ok () (lS w r o):=by
 simp[setObj,Sem.run,hb,lS]
theorem FX(J:bx P ty){o:Oper}{C:Prop}{s1 s':AS}(h:Kh ty s o.op=io (C,s1))(hC:C)(hp:putDst nt o .any s1=io s'):OT P nt o s (fun t=>t=s'):=by
 unfold Kh at h;split at h
 .rename_i t m k x ho;split at h
  .rename_i i Y;split at h
   .rename_i V kc e z zv dv mm hi;split at h
    .rename_i kt et _ _ _ _ he;have hu:=(J _ _ he).2.1.1;split at h
     .rename_i b c0;split at h
      .rename_i D hd d0;have hd:=of_decide_eq_true hd;subst hd;obtain⟨f,hh,n⟩:=s;simp only[dc,Ph,Pt]at h;obtain⟨rfl,rfl⟩:=h;refine OT.skip hp fun M N a w I=>?_;have e0:=Bt d0 (aH I.2.1 k);have G:=aH I.2.1 m;simp only at Y;rw[Y]at G
       have k0:IR M (e (dv (ev f x))) (a.eval x):=by
        have:=hC M N (· <n) _ (aH I.2.1 x);generalize a.eval x=y at this;cases this with
        |iv _ _ h=>exact h
       obtain⟨ents,clock,h1,h2,h3⟩:=I.1.obj i _ hi;have R:=jH (P:=P) (w:=w) J c0 D kw 9994;have B:=lk (P:=P) (w:=w) J c0 D h2.keys;have hg:(getObj (N.az i)).run P w= .ok (.map ents clock) w:=by simp[getObj,Sem.run,h1]
       have a0: ∀A u,iB M b e (cA b mm D (dv (ev f x))) A u->(Instr.mapUpdate t (.map (io (N.az i))) (b.ek D) (a.eval x)).run P w= .ok () (lS w (N.az i) (.map A u))->
         ∃w' M' N',(execOp a.eval o).run P w= .ok .skip w'∧Ext M N (· <n) hh w M' N' (· <n) ((i,io (.map b e z zv dv (cA b mm D (dv (ev f x)))))::hh) w'∧
          Fits M' N' ⟨f,(i,io (.map b e z zv dv (cA b mm D (dv (ev f x)))))::hh,n⟩ nt a w':=by
        intro A u g1 g2;obtain⟨g3,g4⟩:=qF I.1 hi g1;refine⟨_,M,N,?_,g3,g4,I.2.1,I.2.2⟩;have f0:a.eval m= .map (io (N.az i)):=by
         generalize a.eval m=y at G;cases G;rfl
        simp only[execOp,ho,f0,e0];simp[g2]
       cases hfi:ji b mm D with
       |none=>
        obtain⟨_,_,g3,_⟩:=mM hfi;rw[hfi]at B;refine a0 _ _ (by rw[g3];exact h2.push k0) ?_;simp[Instr.mapUpdate,run_underlying hu,hg,R,B,gV (P:=P) _ h1]
       |some j=>
        obtain⟨v,g0,_,_,g3,_⟩:=kE hfi;rw[hfi]at B;refine a0 _ _ (by rw[g3];exact h2.set k0) ?_;have hj:j<ents.size:=by rw[h2.size];exact(Pj.1 g0).1
        have j0:=h2.key j _ g0;rw[h2.zy hj]at j0;have n0:(Instr.keyThatStays (b.ek D) (b.ek D)).run P w= .ok (b.ek D) w:=by simp[Instr.keyThatStays,vQ]
        simp[Instr.mapUpdate,run_underlying hu,hg,R,B,hj,j0,n0,gV (P:=P) _ h1]
      .cases h
     .cases h
    .cases h
   .cases h
  .cases h
 .rename_i args m0 ho;split at h
  .rename_i m k t t' b0 i0;have ha:args= #[m,k]:=by rw[<-QW (xs:=args),b0]
   have ht:m0= #[t,t']:=by rw[<-QW (xs:=m0),i0]
   subst ha ht;split at h
   .rename_i i Y;split at h
    .rename_i V kc e z zv dv mm hi;split at h
     .rename_i kt et _ _ _ _ he;have hu:=(J _ _ he).2.1.1;split at h
      .rename_i b c0;split at h
       .rename_i D hd d0;have hd:=of_decide_eq_true hd;subst hd;obtain⟨f,hh,n⟩:=s;simp only[Ph,Pt]at h;obtain⟨rfl,rfl⟩:=h;refine OT.value hp fun M N a w I=>?_;have e0:=Bt d0 (aH I.2.1 k);have G:=aH I.2.1 m;simp only at Y;rw[Y]at G;obtain⟨ents,clock,h1,h2,h3⟩:=I.1.obj i _ hi;have R:=jH (P:=P) (w:=w) J c0 D ents.isEmpty 9994;have B:=lk (P:=P) (w:=w) J c0 D h2.keys;have hg:(getObj (N.az i)).run P w= .ok (.map ents clock) w:=by simp[getObj,Sem.run,h1]
        have a0: ∀A u,iB M b e (jw b mm D) A u->(Builtin.delete_ #[t,t'] o.type #[.map (io (N.az i)),b.ek D]).run P w= .ok (.tuple #[]) (lS w (N.az i) (.map A u))->
          ∃x w' M' N',(execOp a.eval o).run P w= .ok (.value x) w'∧Ext M N (· <n) hh w M' N' (· <n) ((i,io (.map b e z zv dv (jw b mm D)))::hh) w'∧
           Fits M' N' ⟨f,(i,io (.map b e z zv dv (jw b mm D)))::hh,n⟩ nt a w'∧VR M' N' (· <n) .any x:=by
         intro A u g1 g2;obtain⟨g3,g4⟩:=qF I.1 hi g1;refine⟨.tuple #[],_,M,N,?_,g3,⟨g4,I.2.1,I.2.2⟩,.any _⟩;have f0:a.eval m= .map (io (N.az i)):=by
          generalize a.eval m=y at G;cases G;rfl
         simp only[execOp,ho,resolve];simp[invoke,builtin,f0,e0,g2]
        cases hfi:ji b mm D with
        |none=>
         obtain⟨_,_,_,g3⟩:=mM hfi;rw[hfi]at B;refine a0 _ _ (by rw[g3];exact h2) ?_;simp[Builtin.delete_,run_underlying hu,hg,R,B,gV (P:=P) _ h1]
        |some j=>
         obtain⟨v,g0,_,_,_,g3⟩:=kE hfi;rw[hfi]at B;refine a0 _ _ (by rw[g3];exact h2.erase (Pj.1 g0).1) ?_;simp[Builtin.delete_,run_underlying hu,hg,R,B,gV (P:=P) _ h1]
       .cases h
      .cases h
     .cases h
    .cases h
   .cases h
  .cases h
 .cases h
end
section
variable {P:Program} {ty:Ty} {nt:Nat} {s:AS} {Q:AQ} {k:List KI}
def N8(nt:Nat)(o:Oper)(s:AS)(i:Nat)(kc:KC){V:Type}(e:V->IV)(m:List (kc.K×V))(vs:List Nat)(t:AS):Prop:=
 ((∀j,j<m.length->j∈vs)∧putDst nt o (.bq [.kb kw]) s=io t)∨
 ∃j x,m[j]? =io x∧j∉vs∧putDst nt o (.bq [.kb jp,kc.pk x.1,(e x.2).pv]) ⟨s.f,(i,io (.bI kc e m (j::vs) (io x)))::s.h,s.nx⟩=io t
theorem HH{o:Oper}{it:Operand}(ho:o.op= .next it kw){i:Nat}(s0:ev s.f it= .ptr i 0){kc:KC}{V:Type}{e:V->IV}{m:List (kc.K×V)}{vs:List Nat}{r0:Option (kc.K×V)}
  (hi:s.h.get i=io (.bI kc e m vs r0)) {d:Nat} (hd:o.dst=io d) (hlt:d<nt):OT P nt o s (N8 nt o s i kc e m vs):=by
 intro M N a w hf K Z hk;have hx:=aH hf.2.1 it;rw[s0]at hx;have i0:=hf.1.obj i _ hi;have c0:N.az i<w.heap.size:=OR.lt i0 rfl;have d0:a.eval it= .pointer (io ⟨N.az i,0,is⟩):=by
  generalize a.eval it=y at hx;cases hx;rfl
 have J: ∀p s1,∃t,putDst nt o p s1=io t∧t={s1 with f:=(d,p)::s1.f}:=by
  intro p s1;have hb:PI d nt=jp:=Qh hlt;obtain⟨f,h,n⟩:=s1;exact⟨_,by simp only[putDst,hd,hb,cond_true,dc],rfl⟩
 rcases i0 with⟨rfl,rfl,rfl,h0⟩|⟨b,ents,clock,u,h1,h2,G,h4,h5,h6,h7⟩
 .have B:(execOp a.eval o).run P w= .ok (.value (.tuple #[.bool kw])) w:=by
   simp only[execOp,ho,d0];refine aW ?_;simp only[Instr.next,getObj,Sem.run_bind,Sem.run,h0,Result.andThen];rfl
  unfold Oper.wp;rw[B];simp only[Oper.upon];obtain⟨t,ht,C⟩:=J (.bq [.kb kw]) s
  refine hk M N t _ w (by rw[C];exact .refl _ _ _ _ _) (by
   rw[C,hd]
   exact hf.put d _ _ hlt (.bq _ _ rfl fun j p D=>by
    match j with
    |0=>simp at D;subst D;exact .kb _
    |j+1=>simp at D)) (.inl ⟨fun j I=>absurd I (Rr _),ht⟩)
 have hb:w.heap[b]? =io (.map ents clock):=hf.1.dZ _ _ h2;have z0: ∀j,j<ents.size->ents.getD j co=ents[j]! :=fun j I=>by simp[Pg,I,getElem!_pos]
 have g0: ∀x∈ents.toList,x.born<clock:=by
  intro x hx;obtain⟨j,I⟩:=P9 hx;exact G.lt j x (by simpa using I)
 unfold Oper.wp;rcases run_next_at (P:=P) w o.type (N.az i) b clock clock u ents clock h1 hb g0 (Ps _) with⟨g1,g2⟩|⟨x,q0,Y,p0,g2⟩
 .have B:(execOp a.eval o).run P w= .ok (.value (.tuple #[.bool kw])) w:=by
   simp only[execOp,ho,d0];exact aW g2
  rw[B];simp only[Oper.upon];obtain⟨t,ht,C⟩:=J (.bq [.kb kw]) s
  refine hk M N t _ w (by rw[C];exact .refl _ _ _ _ _) (by
   rw[C,hd]
   exact hf.put d _ _ hlt (.bq _ _ rfl fun j p D=>by
    match j with
    |0=>simp at D;subst D;exact .kb _
    |j+1=>simp at D)) (.inl ⟨fun j I=>?_,ht⟩)
  have t0:j<ents.size:=by rw[G.size];exact I
  have f0:(ents[j]).born∈u:=by
   refine Decidable.byContradiction fun hn=>?_
   have:ents[j]∈leftOf ents u:=by
    simp only[leftOf,Sa];exact⟨by simp,by simpa using hn⟩
   rw[Qw g1]at this;simp at this
  have:(ents[j]).born∈u.toList:=by simpa using f0
  rw[h4,PW]at this;obtain⟨q,hq,n0⟩:=this;have o0:q∈vs:=by simpa using hq
  have m0:q<ents.size:=by rw[G.size];exact h5 q o0
  rw[G.zy m0]at n0;have:=G.inj q j ents[q] ents[j] (by simp[m0]) (by simp[t0]) n0;rw[<-this];exact o0
 .have B:(execOp a.eval o).run P w= .ok (.value (.tuple #[.bool jp,x.key,x.val])) (lS Y (N.az i) (.mapIter (io b) clock (u.push x.born) clock)):=by
   simp only[execOp,ho,d0];rw[Sem.run_bind,g2];rfl
  rw[B];simp only[Oper.upon];simp only[leftOf,Array.mem_toList_iff,Sa]at q0;obtain⟨w0,x0⟩:=q0;obtain⟨j,I,e0⟩:=Array.getElem_of_mem w0;have j0:j<m.length:=by rw[<-G.size];exact I
  have R:m[j]? =io m[j]:=Pl j0;have k0:j∉vs:=by
   intro hv;have:(ents[j]).born∈u.toList:=by
    rw[h4,PW];exact⟨j,by simpa using hv,by rw[G.zy I]⟩
   rw[e0]at this;have:x.born∈u:=by simpa using this
   simp[this]at x0
  obtain⟨t,ht,C⟩:=J (.bq [.kb jp,kc.pk m[j].1,(e m[j].2).pv]) ⟨s.f,(i,io (.bI kc e m (j::vs) (io m[j])))::s.h,s.nx⟩;have A:Y.heap=w.heap∧Y.os=w.os∧Y.tape=w.tape∧Y.output=w.output:=by
   rcases p0 with rfl|rfl<;>exact⟨rfl,rfl,rfl,rfl⟩
  have v0:OR M N (· <s.nx) (lS Y (N.az i) (.mapIter (io b) clock (u.push x.born) clock)) i (.bI kc e m (j::vs) (io m[j])):=by
   refine .inr ⟨b,ents,clock,u.push x.born,?_,h2,G,?_,?_,?_,?_⟩
   .show(Y.heap.setIfInBounds _ _)[_]? =_;rw[PM,am rfl,A.1,am c0]
   .simp only[Array.toList_push,h4,List.reverse_cons,PF,Py,Qb];rw[G.zy I,e0]
   .intro q hq;rcases Px.1 hq with rfl|hq
    .exact j0
    .exact h5 q hq
   .exact P0.2 ⟨k0,h6⟩
   .intro y hy;simp only[Ph]at hy;subst hy;exact⟨j,vs,rfl,R⟩
  obtain⟨q1,q2⟩:=hf.1.write hi rfl (lS Y (N.az i) (.mapIter (io b) clock (u.push x.born) clock)) _ A.2.1 A.2.2.1 A.2.2.2 (by simp[lS,A.1]) (fun c hc=>by
   show(Y.heap.setIfInBounds _ _)[c]? =_
   rw[PM,be (fun e=>hc e.symm),A.1]) v0 (p0.elim (fun e=>e▸Ps _) fun e=>e▸QO _)
  have a0:=G.key j _ R;have b0:=G.val j _ R;rw[G.zy I,e0]at a0 b0
  refine hk M N t _ _ (by rw[C];exact q1) (by
   rw[C,hd];refine Fits.put (s:=⟨s.f,(i,io (.bI kc e m (j::vs) (io m[j])))::s.h,s.nx⟩) ⟨q2,hf.2⟩ d _ _ hlt (.bq _ _ rfl fun q p D=>?_)
   match q with
   |0=>simp at D;subst D;exact .kb _
   |1=>simp at D;subst D;simp only[Pg];simp;rw[a0];exact uN kc _
   |2=>simp at D;subst D;exact uI b0
   |q+3=>simp at D) (.inr ⟨j,m[j],R,k0,ht⟩)
theorem dm{all rest:List Oper}{o:Oper}{y:Operand}{i:Nat}{kc:KC}{V:Type}{e:V->IV}{m:List (kc.K×V)}{vs:List Nat}{b:Option (kc.K×V)}{d:Nat}
  (ho:o.op= .next y kw) (hg:o.guard=is) (u:ev s.f y= .ptr i 0) (hi:s.h.get i=io (.bI kc e m vs b)) (hd:o.dst=io d) (hlt:d<nt)
  (h1:(∀j,j<m.length->j∈vs)->GO P nt (.ops all rest::k) Q ⟨(d,.bq [.kb kw])::s.f,s.h,s.nx⟩)
  (A: ∀j x,m[j]? =io x->j∉vs->GO P nt (.ops all rest::k) Q ⟨(d,.bq [.kb jp,kc.pk x.1,(e x.2).pv])::s.f,(i,io (.bI kc e m (j::vs) (io x)))::s.h,s.nx⟩):
  GO P nt (.ops all (o::rest)::k) Q s:=by
 refine cz hg (HH ho u hi hd hlt) fun t B=>?_;have hb:PI d nt=jp:=Qh hlt;rcases B with⟨g1,g2⟩|⟨j,x,g1,g2,g3⟩
 .obtain⟨f,h,n⟩:=s;simp only[putDst,hd,hb,cond_true,dc,Ph]at g2;subst g2;exact h1 g1
 .simp only[putDst,hd,hb,cond_true,dc,Ph]at g3;subst g3;exact A j x g1 g2
mutual
def PV.eV(i:Nat)(x:IV):PV->PV
 | .iv x=> .iv x
 | .agg cs=> .agg (s9 i x cs)
 | .bq cs=> .bq (s9 i x cs)
 | .sl j off len sz'=> .sl j off len sz'
 | .ptr j o=> .ptr j o
 | .cL j a b c=> .cL j a b c
 | .ej z j=> .ej z j
 | .mP j o n=> .mP j o n
 | .mp j=>bif PJ j i then .iv x else .mp j
 | .b5 fn a b=> .b5 fn a b
 | .kb b=> .kb b
 | .any=> .any
def s9(i:Nat)(x:IV):List PV->List PV
 | []=> []
 |p::r=>PV.eV i x p::s9 i x r
end
theorem gp(i:Nat)(x:IV): ∀l:List PV,s9 i x l=l.map (PV.eV i x)
 | []=>rfl
 |p::r=>by simp[s9,gp i x r]
theorem Ig{M:Mem}{N:Nm}{n:Nat}{h:AH}{w:World}(hr:Rel M N (· <n) h w){i:Nat}{kc:KC}{V:Type}{e:V->IV}{z:V}{zv:Value}{dv:PV->V}{m:List (kc.K×V)}(hi:h.get i=io (.map kc e z zv dv m)):
  ∃B,Ext M N (· <n) h w B N (· <n) ((i,is)::h) w∧Rel B N (· <n) ((i,is)::h) w∧M.le B∧
   ∀p x,VR M N (· <n) p x->VR B N (· <n) (p.eV i (.dQ kc e z zv m)) x:=by
 have I:=hr.dM i _ hi Z;obtain⟨ents,clock,h1,C,h3⟩:=hr.obj i _ hi
 let B:Mem:=M.set (N.az i) (.map ents clock) I
 have hM:M.le B:=fun b d hb=>by
  simp only[B,Mem.set];by_cases u:b=N.az i
  .rw[u,I]at hb;cases hb
  .rw[be u];exact hb
 have hnew: ∀b d,M b=is->B b=io d->b=N.az i:=fun b d h1 C=>by
  simp only[B,Mem.set]at C;by_cases u:b=N.az i
  .exact u
  .rw[be u,h1]at C;cases C
 refine⟨B,?_,?_,hM,fun p x Y=>?_⟩
 .exact⟨rfl,rfl,⟨rfl,Ps _⟩,Ps _,fun _ _ _=>rfl,hM,fun b d h1 C=> .inr ⟨i,_,hi,rfl,(hnew b d h1 C).symm⟩,.refl _ _,fun _ h=>h,fun j o A R=> .inr ⟨j,o,(a8 j o A).2,R,rfl⟩⟩
 .refine⟨fun b d hb=>?_,fun j o A=>hr.used j o (a8 j o A).2,fun j o A D=>?_,fun j o A=>?_,fun j k o p A hk=>hr.inj j k o p (a8 j o A).2 (a8 k p hk).2⟩
  .simp only[B,Mem.set]at hb;by_cases u:b=N.az i
   .rw[am u]at hb;cases hb;rw[u];exact h1
   .rw[be u]at hb;exact hr.dZ b d hb
  .obtain⟨g1,g2⟩:=a8 j o A;simp only[B,Mem.set];rw[be fun e=>g1 (hr.inj j i o _ g2 hi D Z e)];exact hr.dM j o g2 D
  .obtain⟨g1,g2⟩:=a8 j o A;exact(hr.obj j o g2).mono hM (.refl _ _) (fun _ h=>h) (hr.used j o g2) Z
 .induction Y with
  |iv x y h=>exact .iv _ _ (h.mono hM)
  |agg cs ys hl _ ih=>
   refine .agg _ _ (by simpa[gp]using hl) fun j q J=>?_;rw[gp,Pp,Pr]at J;obtain⟨q0,G,rfl⟩:=J
   exact ih j q0 G
  |bq cs ys hl _ ih=>
   refine .bq _ _ (by simpa[gp]using hl) fun j q J=>?_;rw[gp,Pp,Pr]at J;obtain⟨q0,G,rfl⟩:=J
   exact ih j q0 G
  |ptr i off h=>exact .ptr _ _ h
  |cL i sz k off h=>exact .cL _ _ _ _ h
  |ej z i h=>exact .ej _ _ h
  |mP i o n h=>exact .mP _ _ _ h
  |sl j off len sz' cap h h0 hl hc he=>exact .sl _ _ _ _ _ h h0 hl hc he
  |lR j sz' h=>exact .lR _ _ h
  |sle j sz' cap h hc he=>exact .sle _ _ _ h hc he
  |mp j h=>
   simp only[PV.eV];cases hb:PJ j i with
   |true=>
    have A:=PC hb;subst A;exact .iv _ _ (.dQ _ _ _ _ _ _ ents clock (by simp[B,Mem.set]) C.size C.key (fun j x Y=>(C.val j x Y).mono hM) (h3.mono hM) C.inj C.lt)
   |false=>exact .mp _ h
  |b5 fn first caps f' c' h1 C hr1 hr2 _ _=>exact .b5 _ _ _ _ _ h1 C (fun j p A=>(hr1 j p A).mono hM (.refl _ _) (fun _ h=>h)) (fun j p A=>(hr2 j p A).mono hM (.refl _ _) (fun _ h=>h))
  |kb b=>exact .kb _
  |any x=>exact .any _
def AO.eV(i:Nat)(x:IV):AO->AO
 | .cells cs T=> .cells (s9 i x cs) T
 | .row sz es=> .row sz (es.map (s9 i x))
 | .bp l T=> .bp l T
 | .ff=> .ff
 | .map kc e z zv dv m=> .map kc e z zv dv m
 | .bI kc e m vs c=> .bI kc e m vs c
 | .dJ s p=> .dJ s p
 | .gI kc e z zv dv m bs c=> .gI kc e z zv dv m bs c
 | .dO q c l=> .dO q c l
def AH.eV(i:Nat)(x:IV):AH->AH
 | []=> []
 |(k,is)::r=>(k,is)::AH.eV i x r
 |(k,io o)::r=>(k,io (o.eV i x))::AH.eV i x r
theorem AH.jf(i:Nat)(x:IV): ∀(h:AH) (j:Nat),(AH.eV i x h).get j=(h.get j).map (AO.eV i x)
 | [],_=>rfl
 |(k,is)::r,j=>by
  simp only[AH.eV,AH.ay,AH.jf i x r j];split<;>rfl
 |(k,io o)::r,j=>by
  simp only[AH.eV,AH.ay,AH.jf i x r j];split<;>rfl
theorem AO.p3(i:Nat)(x:IV)(o:AO):(o.eV i x).real=o.real:=by
 cases o with
 |row sz es=>cases es<;>rfl
 |bp l T=>cases l<;>rfl
 |_=>rfl
theorem o6{M:Mem}{N:Nm}{n:Nat}{h:AH}{w:World}(hr:Rel M N (· <n) h w){i:Nat}{kc:KC}{V:Type}{e:V->IV}{z:V}{D:Value}{dv:PV->V}{m:List (kc.K×V)}(hi:h.get i=io (.map kc e z D dv m)):
  ∃B,Ext M N (· <n) h w B N (· <n) ((i,is)::h.eV i (.dQ kc e z D m)) w∧Rel B N (· <n) ((i,is)::h.eV i (.dQ kc e z D m)) w∧M.le B∧
   ∀p x,VR M N (· <n) p x->VR B N (· <n) (p.eV i (.dQ kc e z D m)) x:=by
 obtain⟨B,h1,b,h3,Y⟩:=Ig hr hi;have C: ∀j o,AH.get ((i,is)::h.eV i (.dQ kc e z D m)) j=io o-> ∃p,AH.get ((i,is)::h) j=io p∧h.get j=io p∧o=p.eV i (.dQ kc e z D m):=by
  intro j o u;obtain⟨g1,g2⟩:=a8 j o u;rw[AH.jf,Pr]at g2;obtain⟨p,g3,g4⟩:=g2;exact⟨p,by rw[AH.ay,be g1];exact g3,g3,g4.symm⟩
 refine⟨B,⟨h1.os,h1.tape,h1.output,h1.size,h1.fN,h1.ov,h1.gx,h1.nm,h1.ule,fun j o u y=>?_⟩,⟨b.dZ,fun j o u=>?_,fun j o u y=>?_,fun j o u=>?_,fun j k o p u hk ho hp=>?_⟩,h3,Y⟩
 .obtain⟨p,g1,_,rfl⟩:=C j o u;rw[AO.p3]at y;exact h1.fK j p g1 y
 .obtain⟨p,g1,_,rfl⟩:=C j o u;exact b.used j p g1
 .obtain⟨p,g1,_,rfl⟩:=C j o u;rw[AO.p3]at y;exact b.dM j p g1 y
 .obtain⟨p,g1,g2,rfl⟩:=C j o u;have I:=hr.obj j p g2;cases p with
  |cells cs T0=>
   obtain⟨c,T,q1,q2,q3,q4,q5⟩:=I;refine⟨c,T,q1,q2,by simpa[gp]using q3,fun k q J=>?_,q5⟩;rw[gp,Pp,Pr]at J;obtain⟨q0,b0,rfl⟩:=J;exact Y _ _ (q4 k q0 b0)
  |row sz es=>
   rcases I with rfl|⟨q0,c,T,q1,q2,q3,q4,q5⟩
   .exact .inl Z
   refine .inr ⟨q0,c,T,q1,q2,by simpa using q3,fun k e G=>?_,fun k e j q G J=>?_⟩
   .rw[Pp,Pr]at G;obtain⟨R,A,rfl⟩:=G;rw[gp,PS];exact q4 k R A
   .rw[Pp,Pr]at G;obtain⟨R,A,rfl⟩:=G;rw[gp,Pp,Pr]at J;obtain⟨q',a0,rfl⟩:=J;exact Y _ _ (q5 k R j q' A a0)
  |bp=>exact b.obj j _ g1
  |ff=>exact b.obj j _ g1
  |map=>exact b.obj j _ g1
  |bI=>exact b.obj j _ g1
  |dJ=>exact b.obj j _ g1
  |gI=>exact b.obj j _ g1
  |dO=>exact b.obj j _ g1
 .obtain⟨o',g1,_,rfl⟩:=C j o u;obtain⟨p',g2,_,rfl⟩:=C k p hk;rw[AO.p3]at ho hp;exact b.inj j k o' p' g1 g2 ho hp
def AF.eV(i:Nat)(x:IV):AF->AF
 | []=> []
 |(d,p)::r=>(d,p.eV i x)::AF.eV i x r
theorem AF.jf(i:Nat)(x:IV): ∀(f:AF) (d:Nat),(AF.eV i x f).get d=(f.get d).eV i x
 | [],_=>rfl
 |(k,p)::r,d=>by
  simp only[AF.eV,AF.ay,AF.jf i x r d];split<;>rfl
theorem H6{c:Code}(i:Nat){kc:KC}{V:Type}{e:V->IV}{z:V}{b:Value}{G:PV->V}{m:List (kc.K×V)}(hi:s.h.get i=io (.map kc e z b G m))
  (h:GO P nt (.code c::k) Q ⟨s.f.eV i (.dQ kc e z b m),(i,is)::s.h.eV i (.dQ kc e z b m),s.nx⟩):GO P nt (.code c::k) Q s:=by
 intro M N a w j;obtain⟨B,h1,I,Y,J⟩:=o6 j.1 hi
 have u:Fits B N ⟨s.f.eV i (.dQ kc e z b m),(i,is)::s.h.eV i (.dQ kc e z b m),s.nx⟩ nt a w:=⟨I,fun d=>by
  rw[AF.jf];exact J _ _ (j.2.1 d),j.2.2⟩
 exact AW.then h u fun e a2 w2 C D R A x y=>⟨C,D,R,h1.trans A,x,y⟩
end
def Ll(ty:Ty)(s:AS):Op->Option (PV×AS)
 | .range t x=>match ev s.f x with
  | .mp i=>match s.h.get i with
   |some (.map kc e z zv _ m)=>match ty t with
    |some ⟨.aM (.map _ _),_,_,_,_⟩=>match s with
     |⟨f,h,n⟩=>io (.ptr n 0,⟨f.eV i (.dQ kc e z zv m),(n,io (.bI kc e m [] is))::(i,is)::h.eV i (.dQ kc e z zv m),n+1⟩)
    |_=>is
   |_=>is
  |_=>is
 |_=>is
theorem Hm{P:Program}{ty:Ty}{nt:Nat}{s:AS}(J:bx P ty){o:Oper}{p:PV}{s1 s':AS}(h:Ll ty s o.op=io (p,s1))(hp:putDst nt o p s1=io s'):OT P nt o s (fun t=>t=s'):=by
 unfold Ll at h;split at h
 .rename_i t x ho;split at h
  .rename_i i C;split at h
   .rename_i V kc e z zv dv m B;split at h
    .rename_i kt et _ _ _ _ he;have hu:=(J _ _ he).2.1.1;obtain⟨f,hh,n⟩:=s;simp only[Ph,Pt]at h;obtain⟨rfl,rfl⟩:=h;refine OT.value hp fun M N a w A=>?_;have R:=aH A.2.1 x;simp only at C B;rw[C]at R;obtain⟨ents,clock,g1,g2,g3⟩:=A.1.obj i _ B;obtain⟨G,h1,Y,h3,h4⟩:=o6 A.1 B;have j:VR G N (· <n) ((PV.mp i).eV i (.dQ kc e z zv m)) (.map (io (N.az i))):=h4 _ _ (.mp i (A.1.used i _ B));have hb:PJ i i=jp:=by simp
     simp only[PV.eV,hb,cond_true]at j;cases j with
     |iv _ _ j=>cases j with
      |dQ _ _ _ _ _ b ents' clock' hb' hs hk hv' hz hi' hc=>
       obtain⟨I,q1,q2,q3,q4,q5⟩:=Y.alloc (.mapIter (io (N.az i)) clock' #[] clock') (.bI kc e m [] is) 0 (fun I r1 r2 r3=>
        .inr ⟨N.az i,ents',clock', #[],by rw[r1];exact heap_alloc_new w _,hb',⟨hs,hk,hv',hi',hc⟩,rfl,by simp,P6,by simp⟩)
       have u:w.heap[N.az i]? =io (.map ents' clock'):=Y.dZ _ _ hb';have D:a.eval x= .map (io (N.az i)):=by
        generalize a.eval x=y at R;cases R;rfl
       refine⟨.pointer (io ⟨w.heap.size,0,is⟩),_,G,I,?_,h1.trans q4,⟨q5,fun d=>?_,A.2.2⟩,?_⟩
       .simp only[execOp,ho,D];simp[Instr.range,run_underlying hu,getObj,Sem.run,u,Result.andThen]
       .rw[AF.jf];exact(h4 _ _ (A.2.1 d)).mono (.refl _) q3 (fun i B=>QR B)
       .have:=VR.ptr (M:=G) (N:=I) (U:=(· <n+1)) n 0 (by omega);rw[q1]at this;exact this
    .cases h
   .cases h
  .cases h
 .cases h
def K4(h:AH)(sz:Nat):PV->Option (List (List PV)×Nat×Prop)
 | .iv (.ct sz' n el)=>match PJ sz' sz with
  |true=>io ((PT n).map fun k=>(el k).map .iv,n,True)
  |false=>is
 | .iv (.v (.slice is 0 0))=>io ([],0,True)
 | .sl j off n sz'=>match PJ sz' sz,h.get j with
  |true,io (.row sz2 fs)=>match PJ sz2 sz with
   |true=>io ((fs.drop off).take n,n,off+n<=fs.length)
   |_=>is
  |_,_=>is
 |_=>is
theorem G5{h:AH}{sz n:Nat}{p:PV}{news:List (List PV)}{C:Prop}(hs:K4 h sz p=io (news,n,C))(hC:C):Src h sz p news∧news.length=n:=by
 unfold K4 at hs;split at hs
 .split at hs
  .rename_i hb;simp only[Ph,Pt]at hs;have:=PC hb;obtain⟨rfl,rfl,rfl⟩:=hs;subst this;exact⟨.ct _ _,by simp⟩
  .cases hs
 .simp only[Ph,Pt]at hs;obtain⟨rfl,rfl,rfl⟩:=hs;exact⟨.nil,rfl⟩
 .split at hs
  .rename_i b x;split at hs
   .rename_i j;simp only[Ph,Pt]at hs;have h1:=PC b;have u:=PC j;subst h1;subst u;obtain⟨rfl,rfl,rfl⟩:=hs;exact⟨.row _ _ _ _ x hC,by simp;omega⟩
   .cases hs
  .cases hs
 .cases hs
def IH(ty:Ty)(s:AS)(op:Op):Option (Prop×PV×AS):=
 match op with
 | .call ⟨.builtin .append,args,tys⟩=>match args.toList,tys.toList with
  | [x,y],[t,t']=>match PJ t' t,ty t with
   |true,io ⟨.aM (.slice u),_,_,_,_⟩=>match ty u with
    |some ⟨_,esz,eby,ez,_⟩=>match PJ ez.cells.size esz,PI 0 esz,ev s.f x with
     |true,jp,.sl i 0 len sz=>match PJ esz sz,s.h.get i with
      |true,io (.row sz' es)=>match PJ sz' sz,K4 s.h sz (ev s.f y) with
       |true,io (news,n,C)=>match s with
        |⟨f,h,nx⟩=>io (es.length=len∧C∧allOnes news=jp∧(len+n)*eby<=140737488355328∧len+n<=140737488355328,.sl nx 0 (len+n) sz,⟨f,(nx,io (.row sz (es++news)))::(i,is)::h,nx+1⟩)
       |_,_=>is
      |_,_=>is
     |_,_,_=>is
    |none=>is
   |_,_=>is
  |_,_=>is
 |_=>is
section
variable {P:Program} {ty:Ty} {nt:Nat} {s:AS}
theorem BD(b0:bx P ty){o:Oper}{p:PV}{C:Prop}{s1 s':AS}(h:IH ty s o.op=io (C,p,s1))(hC:C)(hp:putDst nt o p s1=io s'):OT P nt o s (fun t=>t=s'):=by
 unfold IH at h;split at h
 .rename_i args j ho;split at h
  .rename_i x y t A ha ht;split at h
   .rename_i u _ _ _ _ G he;split at h
    .rename_i ek d0 D ez c0 hu;split at h
     .rename_i i len sz I J hx;split at h
      .rename_i f0 es R hi;split at h
       .rename_i b n C' Y hs;have h:io (es.length=len∧C'∧allOnes b=jp∧(len+n)*D<=140737488355328∧len+n<=140737488355328,PV.sl s.nx 0 (len+n) sz,pf s i sz es b)=io (C,p,s1):=by
         rw[<-h];cases s;rfl
        simp only[Ph,Pt]at h;obtain⟨rfl,rfl,rfl⟩:=h;have e0:=PC G;have e4:=PC Y;have B:=PC R;subst e0;subst e4;have a0:o.op= .call ⟨.builtin .append, #[x,y], #[A,A]⟩:=by
         rw[ho];have h1:args= #[x,y]:=by rw[<-QW (xs:=args),ha]
         have h2:j= #[A,A]:=by rw[<-QW (xs:=j),ht]
         rw[h1,h2]
        obtain⟨g1,g2,g3,g4,g5⟩:=hC;obtain⟨g6,g7⟩:=G5 hs g2;subst g7;exact L4 b0 a0 he Z hu hx hi g1 B (by rw[PC I,B]) (by rw[<-B];exact Pf J) Z g6 (jq g3) g4 g5 hp
       .cases h
      .cases h
     .cases h
    .cases h
   .cases h
  .cases h
 .cases h
def FD(ty:Ty)(s:AS)(op:Op):Option (Prop×PV×AS):=
 match IH ty s op with
 |some r=>io r
 |none=>match ze s op with
  |some (t0,t)=>match ty t with
   |some ⟨.aM (.slice u),_,_,_,_⟩=>match ty u with
    |some ⟨_,esz,_,_,_⟩=>IH ty (rV s t0 esz) op
    |none=>is
   |_=>is
  |none=>is
theorem FC(b:bx P ty){o:Oper}{p:PV}{C:Prop}{s1 s':AS}(h:FD ty s o.op=io (C,p,s1))(hC:C)(hp:putDst nt o p s1=io s'):OT P nt o s (fun t=>t=s'):=by
 unfold FD at h;split at h
 .rename_i r u;simp only[Ph]at h;subst h;exact BD b u hC hp
 .split at h
  .rename_i t0 t j;split at h
   .split at h
    .exact FT (Ci j) (BD b h hC hp)
    .cases h
   .cases h
  .cases h
def Ob(ty:Ty)(s:AS)(op:Op):Option (Prop×PV×AS):=
 match Kh ty s op with
 |some (C,s1)=>io (C,.any,s1)
 |none=>match Ll ty s op with
  |some (p,s1)=>io (True,p,s1)
  |none=>FD ty s op
theorem CY(b:bx P ty){o:Oper}{p:PV}{C:Prop}{s1 s':AS}(h:Ob ty s o.op=io (C,p,s1))(hC:C)(hp:putDst nt o p s1=io s'):OT P nt o s (fun t=>t=s'):=by
 unfold Ob at h;split at h
 .rename_i x u hu;simp only[Ph,Pt]at h;obtain⟨rfl,rfl,rfl⟩:=h;exact FX b hu hC hp
 .split at h
  .rename_i y u j;simp only[Ph,Pt]at h;obtain⟨rfl,rfl,rfl⟩:=h;exact Hm b j hp
  .exact FC b h hC hp
end
end
end Go.Al
