/-
  What the proofs of the claims need: part 1 of 7.
-/
import GoSem.Core.World
import Derived.Calls
import Derived.Laws.AppendOwn
import Derived.Below
import Derived.Laws.Cells
import Derived.Laws.Entries
import Derived.Laws.StructEq
import Derived.ChangeKeysEq
import Derived.WideLaws
import Derived.Tactics
import Derived.IntWalk
import Derived.WideShapes
import Derived.Lib.Strings
import Derived.MapKept
import Derived.Maps.RangeRun
import Derived.Still
import Derived.Scope
import Derived.Laws.CopyRow
import Derived.Laws.Append
open Array renaming eraseIdxIfInBounds→abb,getD_eq_getD_getElem?→Yf,getElem?_append_left→Zr,getElem?_eq_getElem→Zb,getElem?_eq_none→aaW,getElem?_eq_some_iff→Zy,getElem?_map→aaD,getElem?_modify→Za,getElem?_push→aaB,getElem?_setIfInBounds→Y2,getElem?_toList→Zn,mapM_eq_mapM_toList→aa7,mem_filter→abH,range→abv,replicate→aab,size_append→aaX,toArray_toList→ZT,toList_append→aaQ,toList_inj→abG
open Bool renaming and_eq_true→YB,eq_false_iff→Zq,eq_iff_iff→YU,false_eq_true→ZH,false_or→Zt,not_eq_true'→Y1,not_true→aaS,or_eq_true→Y3
open Classical renaming choose→aaJ,choose_spec→aan
open Int renaming toNat_of_nonneg→abx
open List.Pairwise renaming nil→Z6
open List renaming all_eq_true→YG,any_eq_true→Y8,append_assoc→Yu,append_nil→Y0,cons_append→ZO,filter_sublist→aaR,flatten_cons→aa9,foldl_cons→YN,getD_eq_getElem?_getD→Ye,getElem?_append_left→YA,getElem?_append_right→YF,getElem?_cons_succ→aau,getElem?_cons_zero→aaV,getElem?_drop→Zw,getElem?_eq_getElem→Yi,getElem?_eq_none→Z0,getElem?_eq_some_iff→Yj,getElem?_map→Yo,getElem?_of_mem→Y9,getElem?_set→Y4,getElem?_take→Zi,getElem?_toArray→ZB,getElem_mem→YZ,length→aaG,length_append→Yg,length_cons→YT,length_map→YH,length_nil→ZM,length_take→YV,map_append→Yk,map_cons→Yz,map_nil→Y7,mem_append_left→YQ,mem_cons→Yx,mem_cons_of_mem→Yt,mem_cons_self→Yy,mem_filter→YO,mem_map→YP,mem_of_getElem?→YL,mem_singleton→Yr,nil_append→aaj,nodup_cons→Zo,nodup_nil→Zd,pairwise_cons→ZI,pairwise_iff_getElem→aaN,range→Yv
open Nat renaming add_assoc→ZR,add_mul→Zz,add_zero→aaw,beq→YJ,ble→aaf,ble_eq_true_of_le→YX,blt→YD,eq_of_beq_eq_true→YE,le_of_ble_eq_true→Yd,le_of_not_lt→aap,le_refl→Ym,le_trans→YR,lt_of_lt_of_le→aao,lt_or_ge→Zj,lt_succ_of_lt→aag,lt_succ_self→ZY,mul_le_mul_right→YS,ne_of_lt→abj,not_lt_zero→Z3,sub_self→abi,succ_mul→aav,zero_add→YC,zero_le→Yl,zero_mul→aas
open Option renaming getD_some→ZG,map_eq_none_iff→aax,map_eq_some_iff→Yq,map_map→abu,map_none→abn,map_some→Zg
open Option.some renaming inj→Zh,injEq→Yh
open Prod renaming fst→YI
open Prod.mk renaming injEq→Yw
set_option maxRecDepth 100000
open Bool renaming false→li,true→lc
open Decidable renaming decide→lw
open Inhabited renaming default→io
open Option renaming none→kw,some→jp
namespace Go
theorem Z.{u}{α:Sort u}{a:α}:a=a:=rfl
theorem ac:True:=trivial
theorem am.{u}{c:Prop}{h:Decidable c}(hc:c){α:Sort u}{t e:α}:(@ite α c h t e)=t:=if_pos hc
theorem be.{u}{c:Prop}{h:Decidable c}(hc:¬c){α:Sort u}{t e:α}:(@ite α c h t e)=e:=if_neg hc
end Go
namespace Go.Al
section
def s9:List Int:=[1,10,100,1000,10000,100000,1000000,10000000,100000000,1000000000,10000000000,100000000000,1000000000000,10000000000000,100000000000000,1000000000000000,10000000000000000,100000000000000000,1000000000000000000,10000000000000000000]
def Tz:Nat->Option (Array Value)
 |0=>jp (s9.map fun z=>Value.int .u64 z).toArray
 |_=>kw
inductive KC where
 |str
 |int (k:IntKind)
 |si (k:IntKind)
 deriving DecidableEq
@[reducible] def KC.K:KC->Type
 | .str=>ByteArray
 | .int _=>Int
 | .si _=>ByteArray×Int
instance KC.deq:(c:KC)->DecidableEq c.K
 | .str=>inferInstanceAs (DecidableEq ByteArray)
 | .int _=>inferInstanceAs (DecidableEq Int)
 | .si _=>inferInstanceAs (DecidableEq (ByteArray×Int))
def KC.ek:(c:KC)->c.K->Value
 | .str,s=> .string s
 | .int k,n=> .int k n
 | .si k,x=> .agg #[.string x.1,.int k x.2]
inductive IV:Type 1 where
 |v (x:Value)
 |dp (sz n:Nat) (el:Nat->List IV)
 |mL (cs:List IV)
 |agg (cs:List IV)
 |fF {V:Type} (kc:KC) (ev:V->IV) (z:V) (zv:Value) (m:List (kc.K×V))
inductive PV:Type 1 where
 |iv (x:IV)
 |agg (cs:List PV)
 |bX (cs:List PV)
 |ptr (i off:Nat)
 |dJ (i sz k off:Nat)
 |fE (z:Bool) (i:Nat)
 |sl (i off len sz:Nat)
 |mp (i:Nat)
 |dx (fn:Fn) (first caps:List PV)
 |kb (b:Bool)
 |any
inductive AO:Type 1 where
 |cells (cs:List PV) (T:Option TypeId:=kw)
 |row (sz:Nat) (es:List (List PV))
 |bM (l:List UInt8) (T:TypeId)
 |gn
 |map {V:Type} (kc:KC) (ev:V->IV) (z:V) (zv:Value) (dv:PV->V) (m:List (kc.K×V))
 |b3 {V:Type} (kc:KC) (ev:V->IV) (m:List (kc.K×V)) (vs:List Nat) (cur:Option (kc.K×V))
 |eT (s:ByteArray) (pos:Nat)
inductive MB where
 |cells (c:Array Value)
 |map (ents:Array MapEntry) (clock:Nat)
structure Mem where
 fn:Nat->Option MB
 P0: ∀b c,Tz b=jp c->fn b=jp (.cells c)
instance:CoeFun Mem (fun _=>Nat->Option MB):=⟨Mem.fn⟩
def Mem.base:Mem:=⟨fun b=>(Tz b).map .cells,fun b c h=>by rw[h];rfl⟩
def CM(a:Option TypeId)(T:TypeId):Prop:= ∀t,a=jp t->T=t
theorem CM.none(T:TypeId):CM kw T:=fun _ h=>nomatch h
def Mem.cell(M:Mem)(b o:Nat):Option Value:=match M b with|some (.cells c)=>c[o]? |_=>kw
def Mem.set(M:Mem)(b:Nat)(c:MB)(h:M b=kw):Mem:=
 ⟨fun x=>if x=b then jp c else M x,fun x d j=>by
  rw[be fun e=>by have:=M.P0 x d j;rw[e]at this;exact absurd (this.symm.trans h) (by simp)]
  exact M.P0 x d j⟩
def MB.IT(w:World)(b:Nat):MB->Prop
 | .cells c=> ∃T d,w.heap[b]? =jp (.cells c T d)
 | .map es cl=>w.heap[b]? =jp (.map es cl)
theorem MB.IT.lt{w:World}{b:Nat}{m:MB}(h:m.IT w b):b<w.heap.size:=by
 cases m with
 |cells c=>obtain⟨T,j,d⟩:=h;exact(Zy.1 d).1
 |map es cl=>exact(Zy.1 h).1
theorem MB.IT.mono{w d:World}{b:Nat}{m:MB}(h:m.IT w b)(e:d.heap[b]? =w.heap[b]?):m.IT d b:=by
 cases m with
 |cells c=>obtain⟨T,j,u⟩:=h;exact⟨T,j,e.trans u⟩
 |map es cl=>exact e.trans h
structure Nm where
 aI:Nat->Nat
 ext:Nat->Nat
inductive IR (M:Mem):IV->Value->Prop
 |v (x:Value):IR M (.v x) x
 |lz (sz:Nat) (el:Nat->List IV) (a:Option Addr) (cap:Nat):IR M (.dp sz 0 el) (.slice a 0 cap)
 | dp (sz n:Nat) (el:Nat->List IV) (b off cap:Nat) (hn:n<=cap) (hc:cap<=maxLen) (hl: ∀k,k<n->(el k).length=sz)
   (hm: ∀k j,k<n->j<sz->(M.cell b (off+k*sz+j)).isSome=lc)
   (hr: ∀k j p,k<n->(el k)[j]? =jp p->IR M p ((M.cell b (off+k*sz+j)).getD undef)):
   IR M (.dp sz n el) (.slice (jp ⟨b,off,kw⟩) n cap)
 | mL (cs:List IV) (b off:Nat) (hm: ∀j,j<cs.length->(M.cell b (off+j)).isSome=lc)
   (hr: ∀j p,cs[j]? =jp p->IR M p ((M.cell b (off+j)).getD undef)):IR M (.mL cs) (.pointer (jp ⟨b,off,kw⟩))
 |agg (cs:List IV) (ys:Array Value) (hl:cs.length=ys.size) (hr: ∀j p,cs[j]? =jp p->IR M p (ys.getD j undef)):IR M (.agg cs) (.agg ys)
 | fF {V:Type} (kc:KC) (ev:V->IV) (z:V) (zv:Value) (m:List (kc.K×V)) (b:Nat) (ents:Array MapEntry) (clock:Nat) (hb:M b=jp (.map ents clock)) (hs:ents.size=m.length)
   (hk: ∀(j:Nat) (x:kc.K×V),m[j]? =jp x->(ents.getD j io).key=kc.ek x.1) (hv: ∀(j:Nat) (x:kc.K×V),m[j]? =jp x->IR M (ev x.2) (ents.getD j io).val) (hz:IR M (ev z) zv)
   (hi: ∀(j k:Nat) (e f:MapEntry),ents[j]? =jp e->ents[k]? =jp f->e.born=f.born->j=k) (hc: ∀(j:Nat) (e:MapEntry),ents[j]? =jp e->e.born<clock):IR M (.fF kc ev z zv m) (.map (jp b))
inductive VR (M:Mem) (N:Nm) (U:Nat->Prop):PV->Value->Prop
 |iv (x:IV) (y:Value) (h:IR M x y):VR M N U (.iv x) y
 |agg (cs:List PV) (ys:Array Value) (hl:cs.length=ys.size) (hr: ∀j p,cs[j]? =jp p->VR M N U p (ys.getD j undef)):VR M N U (.agg cs) (.agg ys)
 |bX (cs:List PV) (ys:Array Value) (hl:cs.length=ys.size) (hr: ∀j p,cs[j]? =jp p->VR M N U p (ys.getD j undef)):VR M N U (.bX cs) (.tuple ys)
 |ptr (i off:Nat) (h:U i):VR M N U (.ptr i off) (.pointer (jp ⟨N.aI i,off,kw⟩))
 |dJ (i sz k off:Nat) (h:U i):VR M N U (.dJ i sz k off) (.pointer (jp ⟨N.aI i,k*sz+off,kw⟩))
 |fE (z:Bool) (i:Nat) (h:U i):VR M N U (.fE z i) (.pointer (bif z then kw else jp ⟨N.aI i,0,kw⟩))
 |sl (i off len sz cap:Nat) (h:U i) (h0:0<len) (hl:len<=cap) (hc:cap<=maxLen) (he:(off+cap)*sz=N.ext i):VR M N U (.sl i off len sz) (.slice (jp ⟨N.aI i,off*sz,kw⟩) len cap)
 |pQ (i sz:Nat) (h:U i):VR M N U (.sl i 0 0 sz) (.slice kw 0 0)
 |sle (i sz cap:Nat) (h:U i) (hc:cap<=maxLen) (he:cap*sz=N.ext i):VR M N U (.sl i 1 0 sz) (.slice (jp ⟨N.aI i,0,kw⟩) 0 cap)
 |mp (i:Nat) (h:U i):VR M N U (.mp i) (.map (jp (N.aI i)))
 | dx (fn:Fn) (first caps:List PV) (f' c':Array Value) (h1:first.length=f'.size) (h2:caps.length=c'.size)
   (hr1: ∀j p,first[j]? =jp p->VR M N U p (f'.getD j undef)) (hr2: ∀j p,caps[j]? =jp p->VR M N U p (c'.getD j undef)):VR M N U (.dx fn first caps) (.func fn f' c')
 |kb (b:Bool):VR M N U (.kb b) (.bool b)
 |any (x:Value):VR M N U .any x
def Mem.le(M d:Mem):Prop:= ∀b c,M b=jp c->d b=jp c
theorem Mem.le.refl(M:Mem):M.le M:=fun _ _ h=>h
theorem Mem.le.trans{A B C:Mem}(h:A.le B)(k:B.le C):A.le C:=fun b c e=>k b c (h b c e)
theorem Mem.le.cell{M d:Mem}(h:M.le d){b o:Nat}{v:Value}(hc:M.cell b o=jp v):d.cell b o=jp v:=by
 unfold Mem.cell at*
 cases hb:M b with
 |none=>simp[hb]at hc
 |some c=>rw[hb]at hc;rw[h b c hb];exact hc
theorem Mem.le.isSome{M d:Mem}(h:M.le d){b o:Nat}(hc:(M.cell b o).isSome=lc):(d.cell b o).isSome=lc∧(d.cell b o).getD undef=(M.cell b o).getD undef:=by
 cases hv:M.cell b o with
 |none=>simp[hv]at hc
 |some v=>rw[h.cell hv];simp
theorem IR.mono{M A:Mem}(hM:M.le A){p:IV}{x:Value}(h:IR M p x):IR A p x:=by
 induction h with
 |v x=>exact .v x
 |lz sz el a cap=>exact .lz sz el a cap
 |dp sz n el b off cap hn hc hl hm hr ih=>
  refine .dp sz n el b off cap hn hc hl (fun k j u d=>(hM.isSome (hm k j u d)).1) (fun k j p u y=>?_);have d:j<sz:=by rw[<-hl k u];exact(Yj.1 y).1
  rw[(hM.isSome (hm k j u d)).2];exact ih k j p u y
 |mL cs b off hm hr ih=>
  refine .mL cs b off (fun j d=>(hM.isSome (hm j d)).1) (fun j p y=>?_);have d:j<cs.length:=(Yj.1 y).1;rw[(hM.isSome (hm j d)).2];exact ih j p y
 |agg cs ys hl hr ih=>exact .agg cs ys hl ih
 |fF kc ev z zv m b ents clock hb hs u hv hz hi hc ihv ihz=>exact .fF kc ev z zv m b ents clock (hM _ _ hb) hs u ihv ihz hi hc
structure l0 {V:Type} (M:Mem) (kc:KC) (ev:V->IV) (m:List (kc.K×V)) (ents:Array MapEntry) (clock:Nat):Prop where
 size:ents.size=m.length
 key: ∀(j:Nat) (x:kc.K×V),m[j]? =jp x->(ents.getD j io).key=kc.ek x.1
 val: ∀(j:Nat) (x:kc.K×V),m[j]? =jp x->IR M (ev x.2) (ents.getD j io).val
 inj: ∀(j k:Nat) (e f:MapEntry),ents[j]? =jp e->ents[k]? =jp f->e.born=f.born->j=k
 lt: ∀(j:Nat) (e:MapEntry),ents[j]? =jp e->e.born<clock
theorem l0.mono{V:Type}{M b:Mem}(hM:M.le b){kc:KC}{ev:V->IV}{m:List (kc.K×V)}{ents:Array MapEntry}{clock:Nat}(h:l0 M kc ev m ents clock):l0 b kc ev m ents clock:=
 ⟨h.size,h.key,fun j x d=>(h.val j x d).mono hM,h.inj,h.lt⟩
structure Nm.agree (N N':Nm) (U:Nat->Prop):Prop where
 aI: ∀i,U i->N'.aI i=N.aI i
 ext: ∀i,U i->N'.ext i=N.ext i
theorem Nm.agree.refl(N:Nm)(U:Nat->Prop):N.agree N U:=⟨fun _ _=>rfl,fun _ _=>rfl⟩
theorem VR.mono{M u:Mem}{N A:Nm}{U B:Nat->Prop}(hM:M.le u)(d:N.agree A U)(j: ∀i,U i->B i){p:PV}{x:Value}(h:VR M N U p x):VR u A B p x:=by
 induction h with
 |iv x y h=>exact .iv x y (h.mono hM)
 |agg cs ys hl hr ih=>exact .agg cs ys hl ih
 |bX cs ys hl hr ih=>exact .bX cs ys hl ih
 |ptr i off h=>rw[<-d.aI i h];exact .ptr i off (j i h)
 |dJ i sz k off h=>rw[<-d.aI i h];exact .dJ i sz k off (j i h)
 |fE z i h=>rw[<-d.aI i h];exact .fE z i (j i h)
 |sl i off len sz cap h h0 hl hc he=>rw[<-d.aI i h];exact .sl i off len sz cap (j i h) h0 hl hc (by rw[d.ext i h];exact he)
 |pQ i sz h=>exact .pQ i sz (j i h)
 |sle i sz cap h hc he=>rw[<-d.aI i h];exact .sle i sz cap (j i h) hc (by rw[d.ext i h];exact he)
 |mp i h=>rw[<-d.aI i h];exact .mp i (j i h)
 |dx fn first caps f' c' h1 h2 hr1 hr2 ih1 ih2=>exact .dx fn first caps f' c' h1 h2 ih1 ih2
 |kb b=>exact .kb b
 |any x=>exact .any x
abbrev AH:=List (Nat×Option AO)
def AH.get:AH->Nat->Option AO
 | [],_=>kw
 |(i,o)::r,k=>bif YJ k i then o else AH.get r k
abbrev AF:=List (Nat×PV)
def AF.get:AF->Nat->PV
 | [],_=> .any
 |(i,p)::r,k=>bif YJ k i then p else AF.get r k
theorem AF.aw(i:Nat)(p:PV)(r:AF)(k:Nat):AF.get ((i,p)::r) k=if k=i then p else AF.get r k:=by
 by_cases h:k=i
 .subst h;simp[AF.get]
 .have:YJ k i=li:=Zq.2 (fun e=>h (YE e));simp[AF.get,this,h]
theorem AH.aw(i:Nat)(o:Option AO)(r:AH)(k:Nat):AH.get ((i,o)::r) k=if k=i then o else AH.get r k:=by
 by_cases h:k=i
 .subst h;simp[AH.get]
 .have:YJ k i=li:=Zq.2 (fun e=>h (YE e));simp[AH.get,this,h]
def OR(M:Mem)(N:Nm)(U:Nat->Prop)(w:World)(i:Nat):AO->Prop
 | .cells cs T0=> ∃c T,w.heap[N.aI i]? =jp (.cells c T (0,0))∧c.size=N.ext i∧cs.length=c.size∧(∀j p,cs[j]? =jp p->VR M N U p (c.getD j undef))∧CM T0 T
 | .row sz es=>es=[]∨0<sz∧ ∃c T,w.heap[N.aI i]? =jp (.cells c T (0,0))∧c.size=N.ext i∧es.length*sz<=c.size∧(∀(k:Nat) (e:List PV),es[k]? =jp e->e.length=sz)∧
   ∀(k:Nat) (e:List PV) (j:Nat) (p:PV),es[k]? =jp e->e[j]? =jp p->VR M N U p (c.getD (k*sz+j) undef)
 | .bM l T=>l=[]∨ ∃c,w.heap[N.aI i]? =jp (.cells c T (0,0))∧c.size=N.ext i∧l.length<=c.size∧ ∀(j:Nat) (x:UInt8),l[j]? =jp x->c.getD j undef= .int .u8 (x.toNat:Int)
 | .gn=>w.heap[N.aI i]? =jp (.map #[] 0)
 | .map kc ev z zv _ m=> ∃(ents:Array MapEntry) (clock:Nat),w.heap[N.aI i]? =jp (.map ents clock)∧l0 M kc ev m ents clock∧IR M (ev z) zv
 | .b3 kc ev m vs cur=>(m=[]∧vs=[]∧cur=kw∧w.heap[N.aI i]? =jp (.mapIter kw 0 #[] 0))∨ ∃(b:Nat) (ents:Array MapEntry) (clock:Nat) (d:Array Nat),w.heap[N.aI i]? =jp (.mapIter (jp b) clock d clock)∧M b=jp (.map ents clock)∧l0 M kc ev m ents clock∧
   d.toList=vs.reverse.map (fun j=>(ents.getD j io).born)∧(∀j∈vs,j<m.length)∧vs.Nodup∧ ∀x,cur=jp x-> ∃j r,vs=j::r∧m[j]? =jp x
 | .eT s pos=>w.heap[N.aI i]? =jp (.stringIter s pos)
def AO.real:AO->Bool
 | .row _ []=>li
 | .bM [] _=>li
 |_=>lc
structure Rel (M:Mem) (N:Nm) (U:Nat->Prop) (h:AH) (w:World):Prop where
 dT: ∀b c,M b=jp c->c.IT w b
 used: ∀i o,h.get i=jp o->U i
 fk: ∀i o,h.get i=jp o->o.real=lc->M (N.aI i)=kw
 obj: ∀i o,h.get i=jp o->OR M N U w i o
 inj: ∀i j o p,h.get i=jp o->h.get j=jp p->o.real=lc->p.real=lc->N.aI i=N.aI j->i=j
theorem OR.lt{M:Mem}{N:Nm}{U:Nat->Prop}{w:World}{i:Nat}{o:AO}(h:OR M N U w i o)(j:o.real=lc):N.aI i<w.heap.size:=by
 have key: ∀x,w.heap[N.aI i]? =jp x->N.aI i<w.heap.size:=fun x y=>(Zy.1 y).1
 cases o with
 |cells cs T0=>obtain⟨c,T,d,_⟩:=h;exact key _ d
 |row sz es=>
  rcases h with rfl|⟨_,c,T,d,_⟩
  .cases j
  .exact key _ d
 |bM l T=>
  rcases h with rfl|⟨c,d,_⟩
  .cases j
  .exact key _ d
 |gn=>exact key _ h
 |map kc ev z zv dv m=>obtain⟨e,u,d,_⟩:=h;exact key _ d
 |b3 kc ev m l cu=>rcases h with⟨_,_,_,d⟩|⟨b,e,u,A,d,_⟩<;>exact key _ d
 |eT s p=>exact key _ h
theorem OR.mono{M I:Mem}{N B:Nm}{U J:Nat->Prop}{w C:World}{i:Nat}{o:AO}(hM:M.le I)(d:N.agree B U)(S: ∀i,U i->J i)(hi:U i)(hb:C.heap[N.aI i]? =w.heap[N.aI i]?)
  (h:OR M N U w i o):OR I B J C i o:=by
 cases o with
 |cells cs T0=>
  obtain⟨c,T,u,x,y,A,F⟩:=h;exact⟨c,T,by rw[d.aI i hi,hb,u],by rw[d.ext i hi,x],y,fun j p G=>(A j p G).mono hM d S,F⟩
 |row sz es=>
  rcases h with h|⟨Y,c,T,u,x,y,A,F⟩
  .exact .inl h
  exact .inr ⟨Y,c,T,by rw[d.aI i hi,hb,u],by rw[d.ext i hi,x],y,A,fun k e j p he G=>(F k e j p he G).mono hM d S⟩
 |bM l T=>
  rcases h with h|⟨c,u,x,y,A⟩
  .exact .inl h
  exact .inr ⟨c,by rw[d.aI i hi,hb,u],by rw[d.ext i hi,x],y,A⟩
 |gn=>show C.heap[B.aI i]? =_;rw[d.aI i hi,hb];exact h
 |map kc ev z zv dv m=>
  obtain⟨e,D,u,x,y⟩:=h;exact⟨e,D,by rw[d.aI i hi,hb,u],x.mono hM,y.mono hM⟩
 |b3 kc ev m l cu=>
  rcases h with⟨u,x,y,A⟩|⟨b,e,D,se,u,x,y,A⟩
  .exact .inl ⟨u,x,y,by rw[d.aI i hi,hb,A]⟩
  .exact .inr ⟨b,e,D,se,by rw[d.aI i hi,hb,u],hM _ _ x,y.mono hM,A⟩
 |eT s p=>show C.heap[B.aI i]? =_;rw[d.aI i hi,hb];exact h
structure Ext (M:Mem) (N:Nm) (U:Nat->Prop) (h:AH) (w:World) (M':Mem) (N':Nm) (U':Nat->Prop) (h':AH) (w':World):Prop where
 os:w'.os=w.os
 tape:w'.tape=w.tape
 output:w'.output=w.output
 size:w.heap.size<=w'.heap.size
 jO: ∀b,b<w.heap.size->(∀i o,h.get i=jp o->o.real=lc->N.aI i≠b)->w'.heap[b]? =w.heap[b]?
 r6:M.le M'
 kn: ∀b c,M b=kw->M' b=jp c->w.heap.size<=b∨ ∃i o,h.get i=jp o∧o.real=lc∧N.aI i=b
 nm:N.agree N' U
 ule: ∀i,U i->U' i
 jq: ∀i o,h'.get i=jp o->o.real=lc->w.heap.size<=N'.aI i∨ ∃j p,h.get j=jp p∧p.real=lc∧N.aI j=N'.aI i
theorem Ext.refl(M:Mem)(N:Nm)(U:Nat->Prop)(h:AH)(w:World):Ext M N U h w M N U h w:=
 ⟨rfl,rfl,rfl,Ym _,fun _ _ _=>rfl,.refl _,fun b c d j=>by simp[d]at j,.refl _ _,fun _ h=>h,fun i o u x=> .inr ⟨i,o,u,x,rfl⟩⟩
theorem Ext.trans{M D F:Mem}{N G I:Nm}{U J S:Nat->Prop}{h h1 h2:AH}{w w1 w2:World}
  (a:Ext M N U h w D G J h1 w1) (b:Ext D G J h1 w1 F I S h2 w2):Ext M N U h w F I S h2 w2 where
 os:=b.os.trans a.os
 tape:=b.tape.trans a.tape
 output:=b.output.trans a.output
 size:=YR a.size b.size
 jO:=fun k hk hn=>by
  rw[b.jO k (aao hk a.size) (fun i o d u he=>?_),a.jO k hk hn];rcases a.jq i o d u with x|⟨j,p,x,C,y⟩
  .omega
  .exact hn j p x C (y.trans he)
 r6:=a.r6.trans b.r6
 kn:=fun k c x y=>by
  cases A:D k with
  |some c'=>exact a.kn k c' x A
  |none=>
   rcases b.kn k c A y with B|⟨i,o,B,u,h7⟩
   .exact .inl (YR a.size B)
   .rcases a.jq i o B u with Y|⟨j,p,Y,C,h9⟩
    .exact .inl (by omega)
    .exact .inr ⟨j,p,Y,C,h9.trans h7⟩
 nm:=⟨fun i d=>(b.nm.aI i (a.ule i d)).trans (a.nm.aI i d),fun i d=>(b.nm.ext i (a.ule i d)).trans (a.nm.ext i d)⟩
 ule:=fun i d=>b.ule i (a.ule i d)
 jq:=fun i o d u=>by
  rcases b.jq i o d u with x|⟨j,p,x,C,y⟩
  .exact .inl (YR a.size x)
  .rcases a.jq j p x C with A|⟨k,q,A,hq,B⟩
   .exact .inl (by omega)
   .exact .inr ⟨k,q,A,hq,B.trans y⟩
def aG(p q:PV):Prop:= ∀(M:Mem) (N:Nm) (U:Nat->Prop) (x:Value),VR M N U p x->VR M N U q x
def nT(p q:IV):Prop:= ∀(M:Mem) (x:Value),IR M p x->IR M q x
theorem aG.refl(p:PV):aG p p:=fun _ _ _ _ h=>h
theorem Cs(w:World)(o:Obj)(i:Nat)(h:i<w.heap.size):(w.alloc o).heap[i]? =w.heap[i]? :=by
 show(w.heap.push o)[i]? =_;rw[aaB,be (by omega)]
def FR(M:Mem)(N:Nm)(U:Nat->Prop)(f:AF)(t:Array Value):Prop:= ∀k,VR M N U (f.get k) (t.getD k undef)
theorem FR.mono{M b:Mem}{N d:Nm}{U j:Nat->Prop}{f:AF}{t:Array Value}(hM:M.le b)(u:N.agree d U)(x: ∀i,U i->j i)(h:FR M N U f t):FR b d j f t:=fun k=>(h k).mono hM u x
theorem FR.ext{M b:Mem}{N d:Nm}{U j:Nat->Prop}{h u:AH}{w x:World}{f:AF}{t:Array Value}(e:Ext M N U h w b d j u x)(hf:FR M N U f t):FR b d j f t:=hf.mono e.r6 e.nm e.ule
theorem FR.put{M:Mem}{N:Nm}{U:Nat->Prop}{f:AF}{t:Array Value}(h:FR M N U f t)(d:Nat)(p:PV)(x:Value)(hd:d<t.size)(hp:VR M N U p x):FR M N U ((d,p)::f) (t.setIfInBounds d x):=by
 intro k;rw[AF.aw];by_cases b:k=d
 .subst b;simp[Yf,hd,hp]
 .rw[be b];have:=h k;simp only[Yf,Y2]at this ⊢;rw[be (fun e=>b e.symm)];exact this
inductive TK where
  |bb (d:TypeDesc)
  |dL (fs:List (Nat×TypeId))
  |arr (n:Nat) (e:TypeId)
structure cO where
  k:TK
  size:Nat
  bytes:Nat
  zero:Value
  eq:Bool
abbrev Ty:=Nat->Option cO
def Aa:TypeDesc->Bool
  | .struct _=>li
  | .array _ _=>li
  |_=>lc
def MZ(P:Program)(t:TypeId):TK->Prop
  | .bb d=>P.underlying t=jp d∧Aa d=lc
  | .dL fs=> ∃F,P.underlying t=jp (.struct F)∧F.toList.map (fun f=>(f.offset,f.type))=fs
  | .arr n e=>P.underlying t=jp (.array n e)
def Ww(P:Program)(t:TypeId):Prop:=P.stoodInHeld t=li∧P.eqGuardType P.depth t=li∧ ∀f∈(P.fieldsOf t).toList,f.name≠ "_"
def ay(P:Program)(t:TypeId)(e:cO):Prop:=
  (∃i,P.info? t=jp i∧i.size=e.size∧i.bytes=e.bytes∧i.zero=jp e.zero)∧MZ P t e.k∧(e.eq=lc->Ww P t)
def cC(P:Program)(ty:Ty):Prop:= ∀t e,ty t=jp e->ay P t e
section
variable {P:Program} {w:World}
theorem cy{t:TypeId}{e:cO}(h:ay P t e):(sizeOf t).run P w= .ok e.size w:=by
  obtain⟨⟨i,b,d,_⟩,_⟩:=h;simp[sizeOf,run_typeInfo w b,d]
theorem eA{t:TypeId}{e:cO}(h:ay P t e):(zeroValue t).run P w= .ok e.zero w:=by
  obtain⟨⟨i,b,j,hb,d⟩,_⟩:=h;simp[zeroValue,run_typeInfo w b,d]
def TK.agg:TK->Bool
  | .bb _=>li
  |_=>lc
theorem oQ{t:TypeId}{e:cO}(h:ay P t e):(isAgg t).run P w= .ok e.k.agg w:=by
  obtain⟨_,b,_⟩:=h;cases hek:e.k with
  | bb d=>
    rw[hek]at b;obtain⟨j,u⟩:=b;simp only[isAgg,Sem.run_bind,run_underlying j,Result.andThen_ok];cases d<;>simp_all [Aa,TK.agg]
  | dL fs=>
    rw[hek]at b;obtain⟨F,j,_⟩:=b;simp[isAgg,run_underlying j,TK.agg]
  | arr n el=>
    rw[hek]at b;simp only[MZ]at b;simp[isAgg,run_underlying b,TK.agg]
end
structure AS where
  f:AF
  h:AH
  nx:Nat
def Fits(M:Mem)(N:Nm)(s:AS)(nt:Nat)(a:Act)(w:World):Prop:=
  Rel M N (· <s.nx) s.h w∧FR M N (· <s.nx) s.f a.tmps∧a.defers=[]∧a.tmps.size=nt
def ofV:Value->PV
  | .agg cs=> .agg (cs.toList.map fun v=> .iv (.v v))
  | .bool b=> .kb b
  |v=> .iv (.v v)
def ev(f:AF):Operand->PV
  | .tmp t=>f.get t
  | .const v=>ofV v
  | .global _=> .any
  | .func g=> .dx (.func g) [] []
theorem Tr{M:Mem}{N:Nm}{U:Nat->Prop}(v:Value):VR M N U (ofV v) v:=by
  cases v<;>first
    |exact .iv _ _ (.v _)
    |exact .kb _
    | (refine .agg _ _ (by simp) (fun j p d=>?_)
       rw[Yo,Yq]at d;obtain⟨x,y,rfl⟩:=d;rename_i u;have b:u[j]? =jp x:=by simpa using y
       rw[Yf,b]
       exact .iv _ _ (.v _))
theorem bf{M:Mem}{N:Nm}{U:Nat->Prop}{f:AF}{a:Act}(h:FR M N U f a.tmps)(x:Operand):VR M N U (ev f x) (a.eval x):=by
  cases x with
  |tmp t=>exact h t
  |const v=>exact Tr v
  |global g=>exact .any _
  |func g=>exact .dx _ _ _ _ _ Z Z (by simp) (by simp)
def nX(cs:List PV)(off n:Nat):Option (List PV):=let l:=(cs.drop off).take n;bif YJ l.length n then jp l else kw
def yr{α:Type _}(p:PV)(k:PV->α):α:=
  match p with
  | .iv x=>k (.iv x)
  | .agg cs=>k (.agg cs)
  | .bX cs=>k (.bX cs)
  | .ptr i o=>k (.ptr i o)
  | .dJ i sz a o=>k (.dJ i sz a o)
  | .fE z i=>k (.fE z i)
  | .sl i o n sz=>k (.sl i o n sz)
  | .mp i=>k (.mp i)
  | .dx fn a b=>k (.dx fn a b)
  | .kb b=>k (.kb b)
  | .any=>k .any
theorem eO{α:Type _}(p:PV)(k:PV->α):yr p k=k p:=by cases p<;>rfl
def force{α:Type _}:List PV->(List PV->α)->α
  | [],k=>k []
  |x::r,k=>yr x fun d=>force r fun b=>k (d::b)
theorem force_eq{α:Type _}: ∀(l:List PV) (k:List PV->α),force l k=k l
  | [],_=>rfl
  |x::r,k=>by simp only[force,eO];rw[force_eq r]
def PV.one:PV->Bool
  | .iv (.v (.agg _))=>li
  | .iv (.v (.tuple _))=>li
  | .iv (.agg _)=>li
  | .iv _=>lc
  | .agg _=>li
  | .bX _=>li
  | .any=>li
  |_=>lc
def PV.cells:PV->Option (List PV)
  | .agg cs=>jp cs
  | p=>match p.one with
    |true=>jp [p]
    |false=>kw
def jw:List PV->Bool
  | []=>lc
  | p::r=>match p.one with
    |true=>jw r
    |false=>li
def setCells:List PV->Nat->List PV->List PV
  | [],_,_=> []
  |c::cs,0,[]=>c::cs
  |_::cs,0,x::xs=>x::setCells cs 0 xs
  |c::cs,n+1,xs=>c::setCells cs n xs
theorem fY: ∀(cs:List PV) (n:Nat) (xs:List PV),(setCells cs n xs).length=cs.length
  | [],_,_=>rfl
  |c::cs,0,[]=>rfl
  |_::cs,0,x::xs=>by simp[setCells,fY cs 0 xs]
  |c::cs,n+1,xs=>by simp[setCells,fY cs n xs]
theorem lL: ∀(cs:List PV) (n:Nat) (xs:List PV) (j:Nat) (p:PV),(setCells cs n xs)[j]? =jp p->(n<=j∧xs[j-n]? =jp p)∨((j<n∨n+xs.length<=j)∧cs[j]? =jp p)
  | [],_,_,j,p,h=>by simp[setCells]at h
  |c::cs,0,[],j,p,h=> .inr ⟨.inr (by simp),h⟩
  | c::cs,0,x::xs,j,p,h=>by
    simp only[setCells]at h;cases j with
    |zero=>exact .inl ⟨Ym _,by simpa using h⟩
    | succ j=>
      rcases lL cs 0 xs j p (by simpa using h) with⟨_,b⟩|⟨b,d⟩
      · exact .inl ⟨Yl _,by simpa using b⟩
      · exact .inr ⟨by simp at b ⊢;omega,by simpa using d⟩
  | c::cs,n+1,xs,j,p,h=>by
    simp only[setCells]at h;cases j with
    |zero=>exact .inr ⟨.inl (by omega),by simpa using h⟩
    | succ j=>
      rcases lL cs n xs j p (by simpa using h) with⟨b,d⟩|⟨b,d⟩
      · exact .inl ⟨by omega,by rw[show j+1-(n+1)=j-n by omega];exact d⟩
      · exact .inr ⟨by omega,by simpa using d⟩
def c4(v:Value):List PV:=v.cells.toList.map fun x=> .iv (.v x)
def sk(b:Nat->Option (Nat×Nat)):List PV->List (Nat×PV)->Option (List PV)
  |cs,[]=>jp cs
  | cs,(i,p)::r=>match b i with
    | some (off,size)=>match p.cells with
      | some l=>match YJ l.length size,aaf (off+l.length) cs.length with
        |true,lc=>force (setCells cs off l) fun d=>sk b d r
        |_,_=>kw
      |none=>kw
    |none=>kw
def mN:List PV->Option PV
  | []=>kw
  |p::_=>jp p
def behind(h:AH):PV->Option (List PV)
  | .ptr i off=>match h.get i with
    |some (.cells cs _)=>jp (cs.drop off)
    |_=>kw
  | .dJ i sz k off=>match h.get i with
    | some (.row sz' es)=>match YJ sz' sz,es[k]? with
      |true,jp e=>jp (e.drop off)
      |_,_=>kw
    |_=>kw
  | .iv (.mL cs)=>jp (cs.map .iv)
  |_=>kw
def kB(e:cO)(cs:List PV):Option PV:=
  match e.k.agg with
  | true=>match nX cs 0 e.size with
    |some l=>force l fun b=>jp (.agg b)
    |none=>kw
  |false=>mN cs
def xe(e:cO)(k:Nat):Option (Nat×TypeId):=
  match e.k with
  | .dL fs=>fs[k]?
  |_=>kw
def ue(ty:Ty):List (Nat×TypeId)->Option (List (Nat×Nat))
  | []=>jp []
  | (off,u)::r=>match ty u with
    | some e=>match ue ty r with
      |some l=>jp ((off,e.size)::l)
      |none=>kw
    |none=>kw
def s8(n:Nat):PV->Option PV
  | .ptr i off=>jp (.ptr i (off+n))
  | .dJ i sz k off=>jp (.dJ i sz k (off+n))
  | .iv (.mL cs)=>jp (.iv (.mL (cs.drop n)))
  |_=>kw
abbrev PV.bool(b:Bool):PV:= .iv (.v (.bool b))
abbrev PV.int(n:Int):PV:= .iv (.v (.int .i64 n))
abbrev PV.str(s:ByteArray):PV:= .iv (.v (.string s))
def jf(n:Int):Prop:= -9223372036854775808<=n∧n<=9223372036854775807
def Hm(op:BinOp)(k:IntKind)(a b:Int):Option (PV×Prop):=
  match op,k with
  | .add,.i64=>jp (.int (a+b),jf (a+b))
  | .sub,.i64=>jp (.int (a-b),jf (a-b))
  | .mul,.i64=>jp (.int (a*b),jf (a*b))
  | .rem,.i64=>jp (.int (Int.tmod a b),¬b=0)
  | .quo,.i64=>jp (.int (Int.tdiv a b),¬b=0∧jf (Int.tdiv a b))
  | .add,k=>jp (.iv (.v (.int k (k.wrap (a+b)))),True)
  | .sub,k=>jp (.iv (.v (.int k (k.wrap (a-b)))),True)
  | .mul,k=>jp (.iv (.v (.int k (k.wrap (a*b)))),True)
  | .quo,k=>jp (.iv (.v (.int k (k.wrap (Int.tdiv a b)))),¬b=0)
  | .rem,k=>jp (.iv (.v (.int k (Int.tmod a b))),¬b=0)
  | .eql,_=>jp (.bool (lw (a=b)),True)
  | .neq,_=>jp (.bool (!lw (a=b)),True)
  | .lss,_=>jp (.bool (lw (a<b)),True)
  | .leq,_=>jp (.bool (lw (a<=b)),True)
  | .gtr,_=>jp (.bool (lw (a>b)),True)
  | .geq,_=>jp (.bool (lw (a>=b)),True)
  | .and,k=>jp (.iv (.v (.int k (k.wrap ((BitVec.ofInt k.bits a&&&BitVec.ofInt k.bits b).toNat:Int)))),True)
  | .or,k=>jp (.iv (.v (.int k (k.wrap ((BitVec.ofInt k.bits a|||BitVec.ofInt k.bits b).toNat:Int)))),True)
  | .xor,k=>jp (.iv (.v (.int k (k.wrap ((BitVec.ofInt k.bits a ^^^ BitVec.ofInt k.bits b).toNat:Int)))),True)
  |_,_=>kw
def GD(op:BinOp)(k:IntKind)(a b:Int):Option (PV×Prop):=
  match op with
  | .shr=>match lw (0<=b) with
    |true=>jp (.iv (.v (.int k (a.fdiv (2 ^ min b.toNat k.bits)))),True)
    |false=>kw
  | .shl=>match lw (0<=b) with
    |true=>jp (.iv (.v (.int k (k.wrap (a*2 ^ min b.toNat k.bits)))),True)
    |false=>kw
  |_=>kw
def Gz(op:BinOp)(a b:ByteArray):Option (PV×Prop):=
  match op with
  | .eql=>jp (.bool (lw (a=b)),True)
  | .neq=>jp (.bool (!lw (a=b)),True)
  | .add=>jp (.str (a++b),a.size+b.size<=9223372036854775807)
  | .lss=>jp (.bool (Op.bytesLess a.toList b.toList),True)
  | .gtr=>jp (.bool (!(Op.bytesLess a.toList b.toList||decide (a=b))),True)
  | .leq=>jp (.bool (Op.bytesLess a.toList b.toList||decide (a=b)),True)
  | .geq=>jp (.bool (!(Op.bytesLess a.toList b.toList)),True)
  |_=>kw
def qP(ty:Ty)(t:TypeId)(op:BinOp)(a b:Bool):Option (PV×Prop):=
  match ty t with
  | some ⟨.bb .bool,_,_,_,_⟩=>match op with
    | .eql=>jp (.bool (a==b),True)
    | .neq=>jp (.bool (!(a==b)),True)
    |_=>kw
  |_=>kw
def Cp(ty:Ty)(t:TypeId)(op:BinOp)(x y:PV):Option (PV×Prop):=
  match x,y with
  | .iv (.v (.int j a)),.iv (.v (.int k b))=>if j=k then Hm op j a b else GD op j a b
  | .iv (.v (.string a)),.iv (.v (.string b))=>Gz op a b
  | .iv (.v (.bool a)),y=>match y with
    | .iv (.v (.bool b))=>qP ty t op a b
    | .kb b=>qP ty t op a b
    |_=>kw
  | .kb a,y=>match y with
    | .iv (.v (.bool b))=>qP ty t op a b
    | .kb b=>qP ty t op a b
    |_=>kw
  |_,_=>kw
def zf:PV->Option (PV×Prop)
  | .iv (.dp _ n _)=>jp (.int n,True)
  | .iv (.v (.slice kw 0 0))=>jp (.int 0,True)
  | .iv (.v (.string s))=>jp (.int s.size,True)
  | .sl _ _ len _=>jp (.int len,True)
  |_=>kw
def mM(x:PV)(i:Int):Option (PV×Prop):=
  match x with
  | .iv (.dp _ n el)=>jp (.iv (.mL (el i.toNat)),0<=i∧i<n)
  | .sl j off len sz=>jp (.dJ j sz (off+i.toNat) 0,0<=i∧i<len)
  |_=>kw
def KC.pk:(c:KC)->c.K->PV
  | .str,s=> .iv (.v (.string s))
  | .int k,n=> .iv (.v (.int k n))
  | .si k,x=> .agg [.iv (.v (.string x.1)),.iv (.v (.int k x.2))]
def KC.dk:(c:KC)->PV->Option c.K
  | .str,p=>match p with
    | .iv (.v (.string s))=>jp s
    |_=>kw
  | .int k,p=>match p with
    | .iv (.v (.int j n))=>if j=k then jp n else kw
    |_=>kw
  | .si k,p=>match p with
    | .agg [.iv (.v (.string s)),.iv (.v (.int j n))]=>if j=k then jp (s,n) else kw
    |_=>kw
def gv(ty:Ty)(d:TypeId):Option KC:=
  match ty d with
  |some ⟨.bb .string,_,_,_,_⟩=>jp .str
  |some ⟨.bb (.int k),_,_,_,_⟩=>jp (.int k)
  | some ⟨.dL [(0,a),(1,b)],_,_,_,lc⟩=>match ty a,ty b with
    |some ⟨.bb .string,1,_,_,_⟩,jp ⟨.bb (.int k),1,_,_,_⟩=>jp (.si k)
    |_,_=>kw
  |_=>kw
section
variable (kc:KC) {V:Type}
def bY:List (kc.K×V)->kc.K->V->V
  | [],_,z=>z
  |(a,b)::r,k,z=>if a=k then b else bY r k z
def ej:List (kc.K×V)->kc.K->Bool
  | [],_=>li
  |(a,_)::r,k=>if a=k then lc else ej r k
def ck:List (kc.K×V)->kc.K->V->List (kc.K×V)
  | [],k,v=> [(k,v)]
  |(a,b)::r,k,v=>if a=k then(k,v)::r else(a,b)::ck r k v
def pO:List (kc.K×V)->kc.K->List (kc.K×V)
  | [],_=> []
  |(a,b)::r,k=>if a=k then r else(a,b)::pO r k
end
def Gu:Value->Value->Bool
  | .int j a,.int k b=>lw (j=k)&&lw (a=b)
  | .string a,.string b=>lw (a=b)
  | .bool a,.bool b=>a==b
  | .slice kw 0 0,.slice kw 0 0=>lc
  | .map kw,.map kw=>lc
  |_,_=>li
def zs:List Value->List Value->Bool
  | [],[]=>lc
  |a::r,b::q=>Gu a b&&zs r q
  |_,_=>li
def Sp:Value->Value->Bool
  | .agg a,.agg b=>zs a.toList b.toList
  |a,b=>Gu a b
def IV.pv:IV->PV
  | .agg cs=> .agg (cs.map .iv)
  |x=> .iv x
def xY(ty:Ty)(t:TypeId)(ok:Bool)(kc:KC){V:Type}(e:V->IV)(z:V)(b:Value)(m:List (kc.K×V))(key:PV):Option (PV×Prop):=
  match ty t with
  | some ⟨.bb (.map kt et),_,_,_,_⟩=>match gv ty kt,ty et with
    | some kc',jp ee=>match lw (kc'=kc),Sp ee.zero b,kc.dk key with
      | true,lc,jp k=>match ok with
        |true=>jp (.bX [(e (bY kc m k z)).pv,.iv (.v (.bool (ej kc m k)))],True)
        |false=>jp ((e (bY kc m k z)).pv,True)
      |_,_,_=>kw
    |_,_=>kw
  |_=>kw
def Je(f:TypeId->PV->PV->Option Bool)(ty:Ty):List (Nat×TypeId)->List PV->List PV->Option Bool
  | [],_,_=>jp lc
  | (off,u)::r,cs,ds=>match ty u with
    | some eu=>match kB eu (cs.drop off),kB eu (ds.drop off) with
      | some a,jp b=>match f u a b,Je f ty r cs ds with
        |some x,jp y=>jp (x&&y)
        |_,_=>kw
      |_,_=>kw
    |none=>kw
def Jf(ty:Ty):Nat->TypeId->PV->PV->Option Bool
  |0,_,_,_=>kw
  | d+1,t,p,q=>match ty t with
    | some ⟨.bb (.int _),_,_,_,_⟩=>match p,q with
      | .iv (.v (.int j a)),.iv (.v (.int k b))=>if j=k then jp (lw (a=b)) else kw
      |_,_=>kw
    | some ⟨.bb .string,_,_,_,_⟩=>match p,q with
      | .iv (.v (.string a)),.iv (.v (.string b))=>jp (lw (a=b))
      |_,_=>kw
    | some ⟨.bb .bool,_,_,_,_⟩=>match p,q with
      | .iv (.v (.bool a)),.iv (.v (.bool b))=>jp (a==b)
      |_,_=>kw
    | some ⟨.dL fs,_,_,_,lc⟩=>match p,q with
      | .agg cs,.agg ds=>Je (Jf ty d) ty fs cs ds
      |_,_=>kw
    |_=>kw
def HX(ty:Ty)(t:TypeId)(op:BinOp)(p q:PV):Option (PV×Prop):=
  match op with
  | .eql=>match Jf ty 10 t p q with
    |some b=>jp (.bool b,True)
    |none=>kw
  | .neq=>match Jf ty 10 t p q with
    |some b=>jp (.bool (!b),True)
    |none=>kw
  |_=>kw
def lu(ty:Ty)(s:AS):Op->Option (PV×Prop)
  | .move x=>jp (ev s.f x,True)
  | .assign x=>jp (ev s.f x,True)
  | .pick c a b=>match ev s.f c with
    | .kb lc=>jp (ev s.f a,True)
    | .kb li=>jp (ev s.f b,True)
    |_=>kw
  | .load t x=>match ty t with
    | some e=>match behind s.h (ev s.f x) with
      | some cs=>match kB e cs with
        |some p=>jp (p,True)
        |none=>kw
      |none=>kw
    |none=>kw
  | .nilCheck x=>match ev s.f x with
    | .ptr i o=>jp (.ptr i o,True)
    | .dJ i sz k o=>jp (.dJ i sz k o,True)
    | .iv (.mL cs)=>jp (.iv (.mL cs),True)
    | .dx (.func g) a b=>jp (.dx (.func g) a b,True)
    |_=>kw
  | .binOp op t x y _=>match ev s.f x,ev s.f y with
    | .agg cs,.agg ds=>HX ty t op (.agg cs) (.agg ds)
    |p,q=>Cp ty t op p q
  | .lookup t x i ok=>match ev s.f x with
    | .iv (.fF kc e z zv m)=>xY ty t ok kc e z zv m (ev s.f i)
    | .mp j=>match s.h.get j with
      |some (.map kc e z zv _ m)=>xY ty t ok kc e z zv m (ev s.f i)
      |_=>kw
    |_=>kw
  | .entry it=>match ev s.f it with
    | .ptr i 0=>match s.h.get i with
      |some (.b3 kc e _ _ (jp x))=>jp (.bX [kc.pk x.1,(e x.2).pv],True)
      |_=>kw
    |_=>kw
  | .unOp .not _ x=>match ev s.f x with
    | .kb lc=>jp (.kb li,True)
    | .kb li=>jp (.kb lc,True)
    | .iv (.v (.bool b))=>jp (.bool (!b),True)
    |_=>kw
  | .fieldAddr t x k=>match ty t with
    | some e=>match xe e k with
      | some (off,u)=>match ty u with
        | some eu=>match eu.size with
          |0=>kw
          | _+1=>match s8 off (ev s.f x) with
            |some p=>jp (p,True)
            |none=>kw
        |none=>kw
      |none=>kw
    |none=>kw
  | .field t x k=>match ty t with
    | some e=>match xe e k with
      | some (off,u)=>match ty u with
        | some eu=>match ev s.f x with
          | .agg cs=>match kB eu (cs.drop off) with
            |some p=>jp (p,True)
            |none=>kw
          |_=>kw
        |none=>kw
      |none=>kw
    |none=>kw
  | .indexAddr t x i=>match ty t with
    | some ⟨.bb (.slice u),_,_,_,_⟩=>match ty u with
      | some eu=>match ev s.f i with
        | .iv (.v (.int _ n))=>match ev s.f x with
          | .iv (.dp sz m el)=>bif YJ sz eu.size then mM (.iv (.dp sz m el)) n else kw
          | .sl j off len sz=>bif YJ sz eu.size then mM (.sl j off len sz) n else kw
          |_=>kw
        |_=>kw
      |none=>kw
    | some ⟨.arr len u,_,_,_,_⟩=>match ty u with
      | some eu=>match ev s.f i with
        | .iv (.v (.int _ n))=>match ev s.f x with
          | .ptr j off=>jp (.ptr j (off+n.toNat*eu.size),0<=n∧n<len)
          |_=>kw
        |_=>kw
      |none=>kw
    |_=>kw
  | .index t x i=>match ty t with
    | some ⟨.bb .string,_,_,_,_⟩=>match ev s.f i with
      | .iv (.v (.int _ n))=>match ev s.f x with
        | .iv (.v (.string b))=>jp (.iv (.v (.int .u8 ((b.data.toList.getD n.toNat 0).toNat:Int))),0<=n∧n<b.size)
        |_=>kw
      |_=>kw
    |_=>kw
  | .slice t x (jp lo) (jp hi) kw=>match ty t with
    | some ⟨.bb (.slice u),_,_,_,_⟩=>match ty u with
      | some eu=>match ev s.f lo with
        | .iv (.v (.int _ a))=>match ev s.f hi with
          | .iv (.v (.int _ b))=>match ev s.f x with
            | .iv (.dp sz m el)=>bif YJ sz eu.size then jp (.iv (.dp sz (b.toNat-a.toNat) (fun k=>el (a.toNat+k))),0<=a∧a<=b∧b<=m) else kw
            |_=>kw
          |_=>kw
        |_=>kw
      |none=>kw
    | some ⟨.bb .string,_,_,_,_⟩=>match ev s.f lo with
      | .iv (.v (.int _ a))=>match ev s.f hi with
        | .iv (.v (.int _ b))=>match ev s.f x with
          | .iv (.v (.string y))=>jp (.iv (.v (.string (y.extract a.toNat b.toNat))),0<=a∧a<=b∧b<=y.size)
          |_=>kw
        |_=>kw
      |_=>kw
    |_=>kw
  | .build t parts=>match ty t with
    | some e=>match e.k with
      | .dL fs=>match ue ty fs with
        | some pl=>match sk (pl[·]?) (c4 e.zero) (parts.toList.map fun x=>(x.1,ev s.f x.2)) with
          |some cs=>force cs fun d=>jp (.agg d,True)
          |none=>kw
        |none=>kw
      | .arr _ u=>match ty u with
        | some eu=>match sk (fun i=>jp (i*eu.size,eu.size)) (c4 e.zero) (parts.toList.map fun x=>(x.1,ev s.f x.2)) with
          |some cs=>force cs fun d=>jp (.agg d,True)
          |none=>kw
        |none=>kw
      |_=>kw
    |none=>kw
  | .extract x k=>match ev s.f x with
    | .bX cs=>match cs[k]? with
      |some p=>jp (p,True)
      |none=>kw
    |_=>kw
  | .makeFunc fn first caps=>force (first.toList.map (ev s.f)) fun a=>force (caps.toList.map (ev s.f)) fun b=>jp (.dx fn a b,True)
  | .call ⟨.builtin .len,args,argTypes⟩=>match args.toList,argTypes.toList with
    | [x],[t]=>match ty t with
      | some ⟨.bb (.slice _),_,_,_,_⟩=>match ev s.f x with
        | .iv (.dp sz n el)=>zf (.iv (.dp sz n el))
        | .sl i off len sz=>zf (.sl i off len sz)
        | .iv (.v (.slice kw 0 0))=>zf (.iv (.v (.slice kw 0 0)))
        |_=>kw
      | some ⟨.bb .string,_,_,_,_⟩=>match ev s.f x with
        | .iv (.v (.string b))=>zf (.iv (.v (.string b)))
        |_=>kw
      | some ⟨.bb (.map _ _),_,_,_,_⟩=>match ev s.f x with
        | .iv (.fF _ _ _ _ m)=>jp (.int m.length,True)
        | .mp j=>match s.h.get j with
          |some (.map _ _ _ _ _ m)=>jp (.int m.length,True)
          |_=>kw
        |_=>kw
      |_=>kw
    |_,_=>kw
  | .call ⟨.builtin .max,args,_⟩=>match args.toList with
    | [x,y]=>match ev s.f x,ev s.f y with
      | .iv (.v (.int k a)),.iv (.v (.int _ b))=>jp (.iv (.v (.int k (max a b))),True)
      |_,_=>kw
    |_=>kw
  | .call ⟨.builtin .min,args,_⟩=>match args.toList with
    | [x,y]=>match ev s.f x,ev s.f y with
      | .iv (.v (.int k a)),.iv (.v (.int _ b))=>jp (.iv (.v (.int k (min a b))),True)
      |_,_=>kw
    |_=>kw
  |_=>kw
inductive TT where
  |leaf
  |node (l:TT) (k:Nat) (e:cO) (r:TT)
def TT.find:TT->Nat->Option cO
  | .leaf,_=>kw
  | .node l k e r,t=>bif YJ t k then jp e else bif YD t k then l.find t else r.find t
def TT.WI(p:Nat->cO->Prop):TT->Prop
  | .leaf=>True
  | .node l k e r=>p k e∧l.WI p∧r.WI p
theorem TT.yu{p:Nat->cO->Prop}: ∀{x:TT},x.WI p-> ∀t e,x.find t=jp e->p t e
  | .leaf,_,t,e,h=>by simp[TT.find]at h
  | .node l k e0 r,ha,t,e,h=>by
    simp only[TT.find]at h;cases hb:YJ t k with
    | true=>
      simp only[hb,cond_true,Yh]at h;subst h;rw[YE hb];exact ha.1
    | false=>
      simp only[hb,cond_false]at h;cases hl:YD t k with
      |true=>simp only[hl,cond_true]at h;exact TT.yu ha.2.1 t e h
      |false=>simp only[hl,cond_false]at h;exact TT.yu ha.2.2 t e h
theorem an{P:Program}{t:TypeId}{e:cO}(h:(P.info? t).map (fun i=>(i.size,i.bytes,i.zero))=jp (e.size,e.bytes,jp e.zero)): ∃i,P.info? t=jp i∧i.size=e.size∧i.bytes=e.bytes∧i.zero=jp e.zero:=by
  rw[Yq]at h;obtain⟨i,d,b⟩:=h;simp only[Yw]at b;exact⟨i,d,b.1,b.2.1,b.2.2⟩
theorem VR.one{M:Mem}{N:Nm}{U:Nat->Prop}{p:PV}{x:Value}(h:VR M N U p x)(ho:p.one=lc):x.oneCell'=lc:=by
  cases h with
  | iv y x hi=>
    cases hi with
    |v x=>cases x<;>first|rfl|(simp[PV.one]at ho)
    |agg=>simp[PV.one]at ho
    |_=>rfl
  |agg=>simp[PV.one]at ho
  |bX=>simp[PV.one]at ho
  |any=>simp[PV.one]at ho
  |_=>rfl
section
variable {M:Mem} {N:Nm}
theorem VR.nH{U:Nat->Prop}{cs:List PV}{x:Value}(h:VR M N U (.agg cs) x): ∃b:Array Value,x= .agg b∧cs.length=b.size∧ ∀j p,cs[j]? =jp p->VR M N U p (b.getD j undef):=by
  cases h with
  |agg _ b hl hr=>exact⟨b,rfl,hl,hr⟩
theorem qN{U:Nat->Prop}{p:PV}{x:Value}{cs:List PV}(h:VR M N U p x)(hc:p.cells=jp cs):cs.length=x.cells.size∧ ∀j q,cs[j]? =jp q->VR M N U q (x.cells.getD j undef):=by
  have one:p.one=lc->cs=[p]->cs.length=x.cells.size∧ ∀j q,cs[j]? =jp q->VR M N U q (x.cells.getD j undef):=by
    intro d b;subst b;have y:=h.one d;have C:x.cells= #[x]:=by cases x<;>first|rfl|(simp[Value.oneCell']at y)
    rw[C];refine⟨rfl,fun j q u=>?_⟩;cases j with
    |zero=>simp at u;subst u;exact h
    |succ j=>simp at u
  cases p with
  | agg l=>
    simp only[PV.cells,Yh]at hc;subst hc;obtain⟨D,rfl,A,B⟩:=h.nH;exact⟨A,B⟩
  | _=>
    simp only[PV.cells]at hc;split at hc
    · rename_i d
      simp only[Yh]at hc;exact one d hc.symm
    · cases hc
theorem oI: ∀{cs:List PV},jw cs=lc-> ∀(j:Nat) (p:PV),cs[j]? =jp p->p.one=lc
  | [],_,j,p,h=>by simp at h
  | c::cs,h,j,p,hj=>by
    simp only[jw]at h;split at h
    · rename_i b
      cases j with
      |zero=>simp at hj;subst hj;exact b
      |succ j=>exact oI h j p (by simpa using hj)
    · cases h
theorem gj{U:Nat->Prop}(v:Value):(c4 v).length=v.cells.size∧ ∀j p,(c4 v)[j]? =jp p->VR M N U p (v.cells.getD j undef):=by
  refine⟨by simp[c4],fun j p b=>?_⟩;simp only[c4]at b;rw[Yo,Yq]at b;obtain⟨x,u,rfl⟩:=b;have d:v.cells[j]? =jp x:=by simpa using u
  rw[Yf,d];exact .iv _ _ (.v _)
theorem AR: ∀(l:List Value) (k off:Nat) (cs:Array Value),off+k+l.length<=cs.size->
    ((l.zipIdx k).foldl (fun cs x=>cs.setIfInBounds (off+x.2) x.1) cs).size=cs.size∧
    ∀j,((l.zipIdx k).foldl (fun cs x=>cs.setIfInBounds (off+x.2) x.1) cs)[j]? =if off+k<=j∧j<off+k+l.length then l[j-(off+k)]? else cs[j]?
  | [],k,off,cs,_=>⟨rfl,fun j=>by simp;omega⟩
  | v::l,k,off,cs,h=>by
    simp only[List.zipIdx_cons,YN];simp only[YT]at h;obtain⟨u,y⟩:=AR l (k+1) off (cs.setIfInBounds (off+k) v) (by simp;omega);refine⟨by rw[u];simp,fun j=>?_⟩;rw[y j];simp only[YT];by_cases d:off+(k+1)<=j∧j<off+(k+1)+l.length
    · rw[am d,am (by omega),show j-(off+k)=(j-(off+(k+1)))+1 by omega,aau]
    · rw[be d]
      by_cases b:j=off+k
      · subst b
        have hb:off+k<cs.size:=by omega
        rw[am (by omega),abi];simp[hb]
      · rw[be (by omega),Y2,be (fun e=>b e.symm)]
def X7(M:Mem)(N:Nm)(U:Nat->Prop)(cs:List PV)(ys:Array Value):Prop:=cs.length=ys.size∧ ∀j p,cs[j]? =jp p->VR M N U p (ys.getD j undef)
theorem uD{j:Nat->Option (Nat×Nat)}: ∀{d:List (Nat×PV)} {cs b:List PV},sk j cs d=jp b->b.length=cs.length
  | [],cs,b,h=>by simp only[sk,Yh]at h;rw[h]
  | (i,p)::r,cs,b,h=>by
    simp only[sk]at h;split at h
    · split at h
      · split at h
        · rw[force_eq]at h
          rw[uD h,fY]
        · cases h
      · cases h
    · cases h
theorem uC{U:Nat->Prop}{d:Nat->Option (Nat×Nat)}: ∀{b:List (Nat×PV)} {vals:List (Nat×Value)} {cs u:List PV} {ys:Array Value},
    sk d cs b=jp u->b.length=vals.length->(∀(j:Nat) (x:Nat×PV) (y:Nat×Value),b[j]? =jp x->vals[j]? =jp y->x.1=y.1∧VR M N U x.2 y.2)->X7 M N U cs ys->
    ∃A,Instr.fill d ys vals=jp A∧X7 M N U u A
  | [],[],cs,u,ys,h,_,_,hv=>by
    simp only[sk,Yh]at h;subst h;exact⟨ys,rfl,hv⟩
  | (i,p)::r,(i',v)::vr,cs,u,ys,h,hl,hp,hv=>by
    obtain⟨h1,h2⟩:=hp 0 _ _ Z Z;simp only at h1 h2;subst h1;simp only[sk]at h;split at h
    · rename_i a0 size S
      split at h
      · rename_i l J
        split at h
        · rename_i G I
          rw[force_eq]at h;obtain⟨g1,g2⟩:=qN h2 J;have Y:v.cells.size=size:=by rw[<-g1];exact YE G
          have D:a0+v.cells.size<=ys.size:=by rw[<-g1,<-hv.1];exact Yd I
          obtain⟨k1,k2⟩:=AR v.cells.toList 0 a0 ys (by simpa using D);have B:v.cells.zipIdx.foldl (fun cs x=>cs.setIfInBounds (a0+x.2) x.1) ys=(v.cells.toList.zipIdx 0).foldl (fun cs x=>cs.setIfInBounds (a0+x.2) x.1) ys:=by
            rw[<-Array.foldl_toList,Array.toList_zipIdx]
          have b0:X7 M N U (setCells cs a0 l) (v.cells.zipIdx.foldl (fun cs x=>cs.setIfInBounds (a0+x.2) x.1) ys):=by
            rw[B];refine⟨by rw[fY,k1];exact hv.1,fun j q hq=>?_⟩;rw[Yf,k2 j];rcases lL cs a0 l j q hq with⟨F,C⟩|⟨F,C⟩
            · have c0:j-a0<l.length:=(Yj.1 C).1
              rw[am (by simp;omega)];have:=g2 _ q C;rw[Yf]at this;simpa using this
            · rw[be (by simp;omega)]
              have:=hv.2 j q C;rw[Yf]at this;exact this
          obtain⟨A,F,C⟩:=uC h (by simpa using hl) (fun j x y hx hy=>hp (j+1) x y (by simpa using hx) (by simpa using hy)) b0;refine⟨A,?_,C⟩;simp only[Instr.fill,S];rw[be (by simp[Y];omega)];exact F
        · cases h
      · cases h
    · cases h
end
section
variable {P:Program} {M:Mem} {N:Nm} {U:Nat->Prop} {h:AH} {w:World}
theorem Rel.R1(hr:Rel M N U h w){b o:Nat}{v:Value}(hc:M.cell b o=jp v):w.cell? ⟨b,o,kw⟩=jp v:=by
  unfold Mem.cell at hc;cases hb:M b with
  |none=>simp[hb]at hc
  | some c=>
    cases c with
    |map es cl=>simp[hb]at hc
    | cells c=>
      obtain⟨T,j,d⟩:=hr.dT b _ hb;rw[hb]at hc;simp only[World.cell?,d];simpa using hc
theorem IR.FU{cs:List IV}{x:Value}(hr:Rel M N U h w)(hp:IR M (.mL cs) x):
    ∃b a0,x= .pointer (jp ⟨b,a0,kw⟩)∧ ∀j q,cs[j]? =jp q-> ∃y,w.cell? ⟨b,a0+j,kw⟩=jp y∧IR M q y:=by
  cases hp with
  | mL _ b a0 hm hq=>
    refine⟨b,a0,rfl,fun j q A=>?_⟩;have d:j<cs.length:=(Yj.1 A).1;have B:=hm j d;cases hv:M.cell b (a0+j) with
    |none=>simp[hv]at B
    | some y=>
      have u:=hq j q A;rw[hv]at u;exact⟨y,hr.R1 hv,u⟩
theorem A7{p:PV}{x:Value}{cs:List PV}(hr:Rel M N U h w)(hp:VR M N U p x)(hb:behind h p=jp cs):
    ∃b a0,x= .pointer (jp ⟨b,a0,kw⟩)∧ ∀j q,cs[j]? =jp q-> ∃y,w.cell? ⟨b,a0+j,kw⟩=jp y∧VR M N U q y:=by
  cases p with
  | ptr i a0=>
    cases hp with
    | ptr _ _ hU=>
      simp only[behind]at hb;cases ho:h.get i with
      |none=>simp[ho]at hb
      | some o=>
        cases o with
        | cells cs0 T0=>
          simp only[ho,Yh]at hb;subst hb;obtain⟨c,T,B,Y,J,C,S⟩:=hr.obj i _ ho;refine⟨N.aI i,a0,rfl,fun j q d=>?_⟩;rw[Zw]at d;have u:a0+j<c.size:=by rw[<-J];exact(Yj.1 d).1
          refine⟨c.getD (a0+j) undef,?_,C _ _ d⟩;simp[World.cell?,B,Yf,u]
        |_=>simp[ho]at hb
  | dJ i sz k a0=>
    cases hp with
    | dJ _ _ _ _ hU=>
      simp only[behind]at hb;cases ho:h.get i with
      |none=>simp[ho]at hb
      | some o=>
        cases o with
        | row sz' es=>
          simp only[ho]at hb;split at hb
          · rename_i e D A
            simp only[Yh]at hb;have:=YE D;subst this;subst hb;rcases hr.obj i _ ho with I|⟨I,c,T,B,Y,J,C,S⟩
            · subst I;simp at A
            refine⟨N.aI i,k*sz'+a0,rfl,fun j q d=>?_⟩;rw[Zw]at d;have b0:a0+j<sz':=by rw[<-C k e A];exact(Yj.1 d).1
            have hk:k<es.length:=(Yj.1 A).1;have G:(k+1)*sz'<=es.length*sz':=YS _ hk;rw[aav]at G;have u:k*sz'+a0+j<c.size:=by omega
            refine⟨c.getD (k*sz'+a0+j) undef,?_,?_⟩
            · simp[World.cell?,B,Yf,u]
            · rw[ZR];exact S k e _ q A d
          · cases hb
        |_=>simp[ho]at hb
  | iv x=>
    cases x with
    | mL cs0=>
      cases hp with
      | iv _ _ hi=>
        simp only[behind,Yh]at hb;subst hb;obtain⟨b,a0,rfl,hc⟩:=hi.FU hr;refine⟨b,a0,rfl,fun j q d=>?_⟩;rw[Yo,Yq]at d;obtain⟨q0,F,rfl⟩:=d;obtain⟨y,hy,hq⟩:=hc j q0 F;exact⟨y,hy,.iv _ _ hq⟩
    |_=>simp[behind]at hb
  |_=>simp[behind]at hb
theorem pT{cs l:List PV}{off n:Nat}(hh:nX cs off n=jp l):l.length=n∧ ∀j q,l[j]? =jp q->cs[off+j]? =jp q∧j<n:=by
  unfold nX at hh;cases hb:YJ ((cs.drop off).take n).length n with
  |false=>simp only[hb,cond_false]at hh;cases hh
  | true=>
    simp only[hb,cond_true,Yh]at hh;subst hh;have u:=YE hb;refine⟨u,fun j q d=>?_⟩;have b:j<n:=by rw[<-u];exact(Yj.1 d).1
    rw[Zi,am b,Zw]at d;exact⟨d,b⟩
theorem sd{cs:List PV}{p:PV}(hh:mN cs=jp p):cs[0]? =jp p:=by
  cases cs with
  |nil=>simp[mN]at hh
  |cons a r=>simpa[mN]using hh
theorem iq(b off j:Nat):(⟨b,off,kw⟩:Addr).add j=⟨b,off+j,kw⟩:=by
  unfold Addr.add;split
  · subst_vars;rfl
  · rfl
theorem vM{t:TypeId}{e:cO}(he:ay P t e){cs:List PV}{b off:Nat}(hc: ∀j q,cs[j]? =jp q-> ∃y,w.cell? ⟨b,off+j,kw⟩=jp y∧VR M N U q y)
    {p:PV} (hp:kB e cs=jp p): ∃y,(loadVar t ⟨b,off,kw⟩).run P w= .ok y w∧VR M N U p y:=by
  unfold kB at hp;cases hk:e.k.agg with
  | true=>
    simp only[hk]at hp;cases ht:nX cs 0 e.size with
    |none=>simp[ht]at hp
    | some l=>
      simp only[ht,force_eq,Yh]at hp;subst hp;obtain⟨I,B⟩:=pT ht;have d: ∀j,j<e.size->w.cell? ((⟨b,off,kw⟩:Addr).add j)=jp (((w.cell? ⟨b,off+j,kw⟩)).getD undef):=by
        intro j G;have x:l[j]? =jp (l[j]'(by omega)):=Yi (by omega);obtain⟨y,u,_⟩:=hc j _ (by simpa using(B j _ x).1);rw[iq,u];rfl
      refine⟨.agg (((Yv e.size).map fun j=>(w.cell? ⟨b,off+j,kw⟩).getD undef).toArray),?_,?_⟩
      · have:=run_loadCells (P:=P) w ⟨b,off,kw⟩ e.size (fun j=>(w.cell? ⟨b,off+j,kw⟩).getD undef) d
        simp[loadVar,oQ he,hk,cy he,this]
      · refine .agg _ _ (by simp[I]) (fun j q J=>?_)
        obtain⟨C,D⟩:=B j q J;obtain⟨y,u,A⟩:=hc j q (by simpa using C);have F:(((Yv e.size).map fun j=>(w.cell? ⟨b,off+j,kw⟩).getD undef).toArray).getD j undef=y:=by
          simp[Yf,D,u]
        rw[F];exact A
  | false=>
    simp only[hk]at hp;obtain⟨y,u,A⟩:=hc 0 p (sd hp);refine⟨y,?_,A⟩;simp only[loadVar,Sem.run_bind,oQ he,Result.andThen_ok,hk,ZH,if_false];simp only[aaw]at u;simp[u]
theorem kU{t:TypeId}{e:cO}(he:ay P t e){cs:List PV}{ys:Array Value}{off:Nat}(I:cs.length=ys.size)(hc: ∀j q,cs[j]? =jp q->VR M N U q (ys.getD j undef))
    {p:PV} (hp:kB e (cs.drop off)=jp p): ∃y,(part t ys off).run P w= .ok y w∧VR M N U p y:=by
  unfold kB at hp;cases hk:e.k.agg with
  | true=>
    simp only[hk]at hp;cases ht:nX (cs.drop off) 0 e.size with
    |none=>simp[ht]at hp
    | some l=>
      simp only[ht,force_eq,Yh]at hp;subst hp;obtain⟨A,C⟩:=pT ht;refine⟨.agg (ys.extract off (off+e.size)),by simp[part,oQ he,hk,cy he],.agg _ _ ?_ (fun j q D=>?_)⟩
      · rw[A,Array.size_extract]
        by_cases d:e.size=0
        · omega
        · have b:l[e.size-1]? =jp (l[e.size-1]'(by omega)):=Yi (by omega)
          have:=(C _ _ b).1;rw[Zw]at this;have:=(Yj.1 this).1;omega
      · obtain⟨u,G⟩:=C j q D
        rw[Zw]at u;have x:=hc _ _ u;have B:off+(0+j)<cs.length:=(Yj.1 u).1;have:(ys.extract off (off+e.size)).getD j undef=ys.getD (off+(0+j)) undef:=by
          simp only[Yf,Array.getElem?_extract,YC];rw[am (by omega)]
        rw[this];exact x
  | false=>
    simp only[hk]at hp;have d:=sd hp;rw[Zw]at d;have x:=hc _ _ d;have B:off+0<cs.length:=(Yj.1 d).1;refine⟨ys.getD (off+0) undef,?_,x⟩;have F:ys[off]? =jp (ys.getD off undef):=by
      simp[Yf,show off<ys.size by omega]
    simp only[part,Sem.run_bind,oQ he,Result.andThen_ok,hk,ZH,if_false,F];rfl
theorem Bv(a b:ByteArray):(a.toList==b.toList)=lw (a=b):=by
  rw[Lib.toList_data,Lib.toList_data,YU];simp only[beq_iff_eq,decide_eq_true_eq];exact⟨fun h=>WideShapes.bytes_inj h,fun h=>by rw[h]⟩
theorem Lt{t:TypeId}{op:BinOp}{k:IntKind}{a b:Int}{p:PV}{C:Prop}(h:Hm op k a b=jp (p,C))(hC:C): ∃x,(binOp op t (.int k a) (.int k b)).run P w= .ok x w∧VR M N U p x:=by
  have j: ∀n:Int,jf n->IntKind.i64.wrap n=n:=fun n u=>IntWalk.i64_in n u;unfold Hm at h;split at h
  all_goals first
    |cases h;done
    | (simp only[Yh,Yw]at h
       obtain⟨rfl,rfl⟩:=h;refine⟨_,?_,.iv _ _ (.v _)⟩
       first
       |(simp[binOp,Op.intCmp];done)
       |rfl
       |(simp[binOp,Op.intCmp];rfl)
       |(have d:=j _ hC;simp[binOp,Op.intArith,d];done)
       |(simp[binOp,Op.intDiv,hC];done)
       |(have d:=j _ hC.2;simp[binOp,Op.intDiv,hC.1,d];done))
theorem Kj{t:TypeId}{op:BinOp}{k j:IntKind}{a b:Int}{p:PV}{C:Prop}(h:GD op k a b=jp (p,C)): ∃x,(binOp op t (.int k a) (.int j b)).run P w= .ok x w∧VR M N U p x:=by
  unfold GD at h;split at h
  case h_3=>cases h
  all_goals
    split at h
    · rename_i hb
      simp only[Yh,Yw]at h;obtain⟨rfl,rfl⟩:=h;have d: ¬b<0:=by have:=of_decide_eq_true hb;omega
      refine⟨_,?_,.iv _ _ (.v _)⟩;simp only[binOp,Op.shift,be d];rfl
    · cases h
theorem J5{t:TypeId}{op:BinOp}{a b:ByteArray}{p:PV}{C:Prop}(h:Gz op a b=jp (p,C))(hC:C): ∃x,(binOp op t (.string a) (.string b)).run P w= .ok x w∧VR M N U p x:=by
  unfold Gz at h;split at h
  all_goals first
    |cases h;done
    | (simp only[Yh,Yw]at h
       obtain⟨rfl,rfl⟩:=h;refine⟨_,?_,.iv _ _ (.v _)⟩
       first
       |(simp[binOp,Op.stringOp,<-Bv];done)
       | (have d: ¬(((a.size+b.size:Nat):Int)>IntKind.i64.max):=by(have:IntKind.i64.max=9223372036854775807:=by decide);rw[this];omega
          simp only[binOp,Op.stringOp,be d];rfl))
theorem kP{op:BinOp}{t:TypeId}{x y:Operand}{a b:Value}(h1:a≠ .nilIface)(h2: ∀d,a≠ .agg d):(eqGuard op t x y a b).run P w= .ok () w:=by
  unfold eqGuard;cases op<;>cases a<;>first|rfl|exact absurd Z h1|exact absurd Z (h2 _)
theorem Ce{t:TypeId}(hu:P.underlying t=jp .bool)(d:Nat)(a b:Bool):(Op.equalIn (d+1) t (.bool a) (.bool b)).run P w= .ok (a==b) w:=by
  simp[Op.equalIn,run_underlying hu]
theorem yx{t:TypeId}(hu:P.underlying t=jp .bool)(a b:Bool):(Op.equal t (.bool a) (.bool b)).run P w= .ok (a==b) w:=
  Ce hu 9999 a b
theorem yM{t:TypeId}(hu:P.underlying t=jp .bool)(a b:Bool):(binOp .eql t (.bool a) (.bool b)).run P w= .ok (.bool (a==b)) w:=by
  show(Op.equal t (.bool a) (.bool b)>>=fun r=>(pure (.bool r):Sem Value)).run P w=_;rw[Sem.run_bind,yx hu];rfl
theorem yL{t:TypeId}(hu:P.underlying t=jp .bool)(a b:Bool):(binOp .neq t (.bool a) (.bool b)).run P w= .ok (.bool (!(a==b))) w:=by
  show(Op.equal t (.bool a) (.bool b)>>=fun r=>(pure (.bool (!r)):Sem Value)).run P w=_;rw[Sem.run_bind,yx hu];rfl
theorem rB{ty:Ty}(d:cC P ty){t:TypeId}{op:BinOp}{a b:Bool}{r:PV}{C:Prop}{u v:Operand}(h:qP ty t op a b=jp (r,C)):
    ∃z,(do eqGuard op t u v (.bool a) (.bool b);binOp op t (.bool a) (.bool b):Sem Value).run P w= .ok z w∧VR M N U r z:=by
  unfold qP at h;split at h
  · rename_i j
    have hu:P.underlying t=jp .bool:=(d t _ j).2.1.1;split at h
    all_goals first
      |cases h;done
      | (simp only[Yh,Yw]at h
         obtain⟨rfl,rfl⟩:=h;refine⟨_,?_,.iv _ _ (.v _)⟩;rw[Sem.run_bind,kP (by simp) (by simp)]
         first|exact yM hu _ _|exact yL hu _ _)
  · cases h
theorem Ju{ty:Ty}(j:cC P ty){t:TypeId}{op:BinOp}{p q:PV}{r:PV}{C:Prop}{u v:Operand}{x y:Value}(h:Cp ty t op p q=jp (r,C))(hC:C)(b:VR M N U p x)(d:VR M N U q y):
    ∃z,(do eqGuard op t u v x y;binOp op t x y:Sem Value).run P w= .ok z w∧VR M N U r z:=by
  unfold Cp at h;split at h
  · cases b with
    | iv _ _ b=>cases b with
      | v=>
        cases d with
        | iv _ _ d=>cases d with
          | v=>
            split at h
            · rename_i D
              subst D;obtain⟨z,B,A⟩:=Lt (P:=P) (M:=M) (N:=N) (U:=U) (w:=w) (t:=t) h hC;exact⟨z,by rw[Sem.run_bind,kP (by simp) (by simp)];exact B,A⟩
            · obtain⟨z,B,A⟩:=Kj (P:=P) (M:=M) (N:=N) (U:=U) (w:=w) (t:=t) h
              exact⟨z,by rw[Sem.run_bind,kP (by simp) (by simp)];exact B,A⟩
  · cases b with
    | iv _ _ b=>cases b with
      | v=>
        cases d with
        | iv _ _ d=>cases d with
          | v=>
            obtain⟨z,B,A⟩:=J5 (P:=P) (M:=M) (N:=N) (U:=U) (w:=w) (t:=t) h hC;exact⟨z,by rw[Sem.run_bind,kP (by simp) (by simp)];exact B,A⟩
  · split at h
    · cases b with
      | iv _ _ b=>cases b with
        | v=>
          cases d with
          | iv _ _ d=>cases d with
            |v=>exact rB j h
    · cases b with
      | iv _ _ b=>cases b with
        | v=>
          cases d with
          |kb=>exact rB j h
    · cases h
  · split at h
    · cases b with
      | kb=>
        cases d with
        | iv _ _ d=>cases d with
          |v=>exact rB j h
    · cases b with
      | kb=>
        cases d with
        |kb=>exact rB j h
    · cases h
  · cases h
theorem La{f:AF}{a:Act}(hf:FR M N U f a.tmps)(xs:Array Operand):(xs.toList.map (ev f)).length=(xs.map a.eval).size∧ ∀j p,(xs.toList.map (ev f))[j]? =jp p->VR M N U p ((xs.map a.eval).getD j undef):=by
  refine⟨by simp,fun j p d=>?_⟩;rw[Yo,Yq]at d;obtain⟨x,u,rfl⟩:=d;have b:xs[j]? =jp x:=by simpa using u
  rw[Yf,aaD,b];exact bf hf x
theorem uE{t:TypeId}{e:cO}(he:ay P t e){k off:Nat}{u:TypeId}(hf:xe e k=jp (off,u)): ∃(F:Array Field) (fd:Field),P.underlying t=jp (.struct F)∧F[k]? =jp fd∧fd.offset=off∧fd.type=u:=by
  unfold xe at hf;cases hk:e.k with
  | dL fs=>
    simp only[hk]at hf;obtain⟨_,d,_⟩:=he;rw[hk]at d;obtain⟨F,j,x⟩:=d;rw[<-x,Yo,Yq]at hf;obtain⟨fd,y,b⟩:=hf;simp only[Yw]at b;exact⟨F,fd,j,by simpa using y,b.1,b.2⟩
  |_=>simp[hk]at hf
theorem Iy{n:Nat}{p q:PV}{x:Value}(A:VR M N U p x)(h:s8 n p=jp q): ∃b o,x= .pointer (jp ⟨b,o,kw⟩)∧VR M N U q (.pointer (jp ⟨b,o+n,kw⟩)):=by
  cases A with
  |ptr i off hU=>simp only[s8,Yh]at h;subst h;exact⟨_,_,rfl,.ptr _ _ hU⟩
  |dJ i sz k off hU=>simp only[s8,Yh]at h;subst h;exact⟨_,_,rfl,by rw[ZR];exact .dJ _ _ _ _ hU⟩
  | iv y _ hi=>
    cases hi with
    | mL cs b off hm hr=>
      simp only[s8,Yh]at h;subst h;refine⟨b,off,rfl,.iv _ _ (.mL _ _ _ (fun j u=>?_) (fun j p d=>?_))⟩
      · rw[List.length_drop]at u
        rw[ZR];exact hm (n+j) (by omega)
      · rw[Zw]at d
        rw[ZR];exact hr (n+j) p d
    |_=>simp[s8]at h
  |_=>simp[s8]at h
theorem sb{t u:TypeId}{d:cO}(hu:P.underlying t=jp (.slice u))(A:ay P u d){p q:PV}{k:IntKind}{n:Int}{C:Prop}{x:Value}(F:VR M N U p x)
    (B:(∃m el,p= .iv (.dp d.size m el))∨ ∃i a0 len,p= .sl i a0 len d.size) (h:mM p n=jp (q,C)) (hC:C): ∃y,(Instr.indexAt t x (.int k n)).run P w= .ok y w∧VR M N U q y:=by
  rcases B with⟨m,el,rfl⟩|⟨i,a0,len,rfl⟩
  · simp only[mM,Yh,Yw]at h
    obtain⟨rfl,rfl⟩:=h;cases F with
    | iv _ _ hi=>
      cases hi with
      |lz sz el a cap=>omega
      | dp sz m el b a0 cap hn hc hl hm hr=>
        refine⟨.pointer (jp ⟨b,a0+n.toNat*d.size,kw⟩),?_,.iv _ _ (.mL _ _ _ (fun j D=>?_) (fun j p G=>hr n.toNat j p (by omega) G))⟩
        · simp only[Instr.indexAt,asIntOf]
          simp[run_underlying hu,hC.1,hC.2,cy A,iq]
        · rw[hl n.toNat (by omega)]at D
          exact hm n.toNat j (by omega) D
  · simp only[mM,Yh,Yw]at h
    obtain⟨rfl,rfl⟩:=h;cases F with
    |pQ=>omega
    |sle=>omega
    | sl _ _ _ _ cap hU h0 hl hc he=>
      refine⟨.pointer (jp ⟨N.aI i,(a0+n.toNat)*d.size+0,kw⟩),?_,.dJ _ _ _ _ hU⟩;simp only[Instr.indexAt,asIntOf];simp[run_underlying hu,hC.1,hC.2,cy A,iq,Zz]
theorem Ik{t u:TypeId}{d:cO}(hu:P.underlying t=jp (.slice u))(A:ay P u d){m:Nat}{el:Nat->List IV}{ka kb:IntKind}{na nb:Int}{q:PV}{C:Prop}{x:Value}(S:VR M N U (.iv (.dp d.size m el)) x)
    (h:jp (PV.iv (.dp d.size (nb.toNat-na.toNat) (fun k=>el (na.toNat+k))),0<=na∧na<=nb∧nb<=m)=jp (q,C)) (hC:C): ∃y,(Instr.sliceAt t x (jp (.int ka na)) (jp (.int kb nb)) kw).run P w= .ok y w∧VR M N U q y:=by
  simp only[Yh,Yw]at h;obtain⟨rfl,rfl⟩:=h;obtain⟨G,h1,h2⟩:=hC;have hb:(nb.toNat:Int)=nb:=abx (by omega);cases S with
  | iv _ _ hi=>
    cases hi with
    | lz sz el a cap=>
      have D:na=0:=by omega
      have F:nb=0:=by omega
      subst D;subst F;refine⟨.slice (if cap=0 then a else a.map (·.add (0*d.size))) 0 cap,?_,.iv _ _ (.lz _ _ _ _)⟩;simp[Instr.sliceAt,Instr.slice,Instr.sliceBounds,Instr.sliceBound,asIntOf,run_underlying hu,cy A]
    | dp sz m el b off cap hn hc hl hm hr=>
      refine⟨.slice (if cap=na.toNat then jp ⟨b,off,kw⟩ else(jp (⟨b,off,kw⟩:Addr)).map (·.add (na.toNat*d.size))) (nb.toNat-na.toNat) (cap-na.toNat),?_,?_⟩
      · have g1:nb<=(cap:Int):=by omega
        have g2:na<=(nb.toNat:Int):=by omega
        simp[Instr.sliceAt,Instr.slice,Instr.sliceBounds,Instr.sliceBound,asIntOf,run_underlying hu,cy A,G,g1,(by omega:0<=nb)];intro hh;omega
      · by_cases Y:nb.toNat-na.toNat=0
        · rw[Y];exact .iv _ _ (.lz _ _ _ _)
        · rw[be (by omega),Zg,iq]
          refine .iv _ _ (IR.dp (sz:=d.size) (n:=nb.toNat-na.toNat) (el:=fun k=>el (na.toNat+k)) (b:=b) (off:=off+na.toNat*d.size) (cap:=cap-na.toNat) (by omega) (by omega) (fun k B=>hl _ (by omega)) (fun k j B I=>?_) (fun k j p B J=>?_))
          · have:=hm (na.toNat+k) j (by omega) I
            rwa[Zz,<-ZR]at this
          · have:=hr (na.toNat+k) j p (by omega) J
            rwa[Zz,<-ZR]at this
theorem CT{t:TypeId}(hu:P.underlying t=jp .string){b:ByteArray}{ka kb:IntKind}{na nb:Int}(hC:0<=na∧na<=nb∧nb<=b.size):
    (Instr.sliceAt t (.string b) (jp (.int ka na)) (jp (.int kb nb)) kw).run P w= .ok (.string (b.extract na.toNat nb.toNat)) w:=by
  obtain⟨d,u,j⟩:=hC;have hb:(nb.toNat:Int)=nb:=abx (by omega);have g2:na<=(nb.toNat:Int):=by omega
  simp[Instr.sliceAt,Instr.slice,Instr.sliceBounds,Instr.sliceBound,asIntOf,run_underlying hu,d,j,(by omega:0<=nb)];intro hh;omega
end
end
end Go.Al
namespace Go.Al
open Go.MapKept
section
section
variable {P:Program} {ty:Ty} {M:Mem} {N:Nm} {U:Nat->Prop} {w:World}
theorem qD{t:TypeId}{F:Array Field}(h:P.underlying t=jp (.struct F)):P.fieldsOf t=F:=by
  simp[Program.fieldsOf,h]
theorem cZ {t:TypeId} {F:Array Field} (h:P.underlying t=jp (.struct F)) (h1:P.stoodInHeld t=li) (h2:P.eqGuardType P.depth t=li) (h3:(F.toList.all fun f=>f.name != "_")=lc):Ww P t:=
  ⟨h1,h2,fun f b=>by
    rw[qD h]at b;have:=YG.1 h3 f b
    simpa using this⟩
theorem HF(d:cC P ty){f:TypeId->PV->PV->Option Bool}{D:Nat}(hf: ∀u p q b,f u p q=jp b-> ∀x y,VR M N U p x->VR M N U q y->(Op.equalIn D u x y).run P w= .ok b w)
    {cs ds:List PV} {xs ys:Array Value} (hx:VR M N U (.agg cs) (.agg xs)) (hy:VR M N U (.agg ds) (.agg ys)):
    ∀(F:List Field) (b:Bool),(∀g∈F,g.name≠ "_")->Je f ty (F.map fun g=>(g.offset,g.type)) cs ds=jp b->(Op.eqFields D xs ys F).run P w= .ok b w
  | [],b,_,h=>by simp only[Y7,Je,Yh]at h;subst h;simp[Op.eqFields]
  | g::F,b,hn,h=>by
    simp only[Yz,Je]at h;split at h
    · rename_i eu j
      split at h
      · rename_i p q hp hq
        split at h
        · rename_i b1 b2 h1 h2
          simp only[Yh]at h;subst h;obtain⟨_,A,B,C⟩:=hx.nH;cases A;obtain⟨_,J,S,Y⟩:=hy.nH;cases J;obtain⟨x,G,I⟩:=kU (P:=P) (w:=w) (d _ _ j) B C hp;obtain⟨y,a0,b0⟩:=kU (P:=P) (w:=w) (d _ _ j) S Y hq;have h3:=hf _ _ _ _ h1 x y I b0;have h4:=HF d hf hx hy F b2 (fun g hg=>hn g (Yt _ hg)) h2;simp only[Op.eqFields,am (hn g Yy),Sem.run_bind,G,a0,h3,Result.andThen_ok];cases b1 with
          |false=>simp
          |true=>simpa using h4
        · cases h
      · cases h
    · cases h
theorem Ga(j:cC P ty): ∀(d:Nat) (t:TypeId) (p q:PV) (b:Bool),Jf ty d t p q=jp b-> ∀x y,VR M N U p x->VR M N U q y-> ∀m,(Op.equalIn (d+m) t x y).run P w= .ok b w
  |0,_,_,_,_,h,_,_,_,_,_=>by simp[Jf]at h
  | d+1,t,p,q,b,h,x,y,A,B,m=>by
    rw[show d+1+m=(d+m)+1 by omega];simp only[Jf]at h;split at h
    · rename_i k _ _ _ _ C
      have hu:=(j t _ C).2.1.1;split at h
      · split at h
        · simp only[Yh]at h
          subst h;cases A with
          | iv _ _ A => cases A
                        cases B with
                        | iv _ _ B => cases B
                                      rename_i e;subst e;rw[run_equalIn_int _ _ _ _ _ _ _ hu];congr 1
        · cases h
      · cases h
    · rename_i _ _ _ _ C
      have hu:=(j t _ C).2.1.1;split at h
      · simp only[Yh]at h
        subst h;cases A with
        | iv _ _ A => cases A
                      cases B with
                      | iv _ _ B => cases B
                                    rw[run_equalIn_string _ _ _ _ _ hu,Bv]
      · cases h
    · rename_i _ _ _ _ C
      have hu:=(j t _ C).2.1.1;split at h
      · simp only[Yh]at h
        subst h;cases A with
        | iv _ _ A => cases A
                      cases B with
                      |iv _ _ B=>cases B;rw[run_equalIn_bool' _ _ _ _ _ hu]
      · cases h
    · rename_i fs _ _ _ C
      obtain⟨_,⟨F,hu,J⟩,S⟩:=j t _ C;obtain⟨I,Y,G⟩:=S Z;split at h
      · obtain⟨xs,rfl,_,_⟩:=A.nH
        obtain⟨ys,rfl,_,_⟩:=B.nH;have D:=qD hu;rw[run_equalIn_struct _ _ _ _ _ (by rw[D];exact hu) I,D];rw[D]at G;refine HF j (f:=Jf ty d) (fun u p q b hb x y A B=>Ga j d u p q b hb x y A B m) A B _ _ G ?_;rw[J];exact h
      · cases h
    · cases h
theorem MU(B:cC P ty){t:TypeId}{op:BinOp}{cs D:List PV}{r:PV}{C:Prop}{u v:Operand}{x y:Value}(h:HX ty t op (.agg cs) (.agg D)=jp (r,C))(G:VR M N U (.agg cs) x)(I:VR M N U (.agg D) y):
    C∧ ∃z,(do eqGuard op t u v x y;binOp op t x y:Sem Value).run P w= .ok z w∧VR M N U r z:=by
  have key: ∀b,Jf ty 10 t (.agg cs) (.agg D)=jp b-> ∃d j,x= .agg d∧y= .agg j∧P.eqGuardType P.depth t=li∧(Op.equalIn 10000 t (.agg d) (.agg j)).run P w= .ok b w:=by
    intro b hb;have A:=Ga (P:=P) (w:=w) B 10 t _ _ b hb x y G I 9990;obtain⟨d,rfl,_,_⟩:=G.nH;obtain⟨j,rfl,_,_⟩:=I.nH;refine⟨d,j,rfl,rfl,?_,A⟩;simp only[Jf]at hb;split at hb
    · cases hb
    · cases hb
    · cases hb
    · rename_i J
      exact((B t _ J).2.2 Z).2.1
    · cases hb
  unfold HX at h;split at h
  · split at h
    · rename_i b hb
      simp only[Yh,Yw]at h;obtain⟨rfl,rfl⟩:=h;obtain⟨d,j,rfl,rfl,A,F⟩:=key b hb;refine⟨ac,.bool b,?_,.iv _ _ (.v _)⟩;rw[Sem.run_bind,run_eqGuard_agg _ _ _ _ _ _ _ A,Result.andThen_ok,run_eql_struct,F];rfl
    · cases h
  · split at h
    · rename_i b hb
      simp only[Yh,Yw]at h;obtain⟨rfl,rfl⟩:=h;obtain⟨d,j,rfl,rfl,A,F⟩:=key b hb;refine⟨ac,.bool (!b),?_,.iv _ _ (.v _)⟩;rw[Sem.run_bind,run_eqGuard_agg _ _ _ _ _ _ _ A,Result.andThen_ok,run_neq_struct,F];rfl
    · cases h
  · cases h
theorem G4(kc:KC)(k:kc.K):VR M N U (kc.pk k) (kc.ek k):=by
  cases kc with
  |str=>exact .iv _ _ (.v _)
  |int k=>exact .iv _ _ (.v _)
  | si j=>
    refine .agg _ _ (by rfl) fun i p b=>?_
    match i with
    |0=>simp at b;subst b;exact .iv _ _ (.v _)
    |1=>simp at b;subst b;exact .iv _ _ (.v _)
    |i+2=>simp at b
theorem Mj{kc:KC}{p:PV}{k:kc.K}{x:Value}(h:kc.dk p=jp k)(d:VR M N U p x):x=kc.ek k:=by
  cases kc with
  | str=>
    simp only[KC.dk]at h;split at h
    · simp only[Yh]at h
      subst h;cases d with
      |iv _ _ d=>cases d;rfl
    · cases h
  | int j=>
    simp only[KC.dk]at h;split at h
    · split at h
      · rename_i e
        subst e;simp only[Yh]at h;subst h;cases d with
        |iv _ _ d=>cases d;rfl
      · cases h
    · cases h
  | si j=>
    simp only[KC.dk]at h;split at h
    · split at h
      · rename_i e
        subst e;simp only[Yh]at h;subst h;obtain⟨u,rfl,A,y⟩:=d.nH;have g0:=y 0 _ Z;have g1:=y 1 _ Z;obtain⟨u⟩:=u
        match u,A with
        | [a,b],_=>
          simp at g0 g1;cases g0 with
          | iv _ _ g0=>
            cases g1 with
            |iv _ _ g1=>cases g0;cases g1;rfl
      · cases h
    · cases h
theorem vU{d:TypeId}(b:cC P ty)(h:gv ty d=jp .str):P.underlying d=jp .string:=by
  unfold gv at h;split at h
  · rename_i j;exact(b _ _ j).2.1.1
  · cases h
  · split at h<;>cases h
  · cases h
theorem vV{d:TypeId}{k:IntKind}(b:cC P ty)(h:gv ty d=jp (.int k)):P.underlying d=jp (.int k):=by
  unfold gv at h;split at h
  · cases h
  · rename_i j;simp only[Yh,KC.int.injEq]at h;subst h;exact(b _ _ j).2.1.1
  · split at h<;>cases h
  · cases h
theorem Et{kc:KC}{j:TypeId}(u:cC P ty)(h:gv ty j=jp kc)(a b:kc.K):(Op.equal j (kc.ek a) (kc.ek b)).run P w= .ok (lw (a=b)) w:=by
  have key: ∀(r:Bool),Jf ty 10 j (kc.pk a) (kc.pk b)=jp r->(Op.equal j (kc.ek a) (kc.ek b)).run P w= .ok r w:=fun r y=>
    Ga (M:=Mem.base) (N:=⟨fun _=>0,fun _=>0⟩) (U:=fun _=>True) u 10 j _ _ r y _ _ (G4 kc a) (G4 kc b) 9990
  unfold gv at h;split at h
  · rename_i d
    simp only[Yh]at h;subst h;refine key _ ?_;simp[Jf,d,KC.pk]
  · rename_i d
    simp only[Yh]at h;subst h;refine key _ ?_;simp[Jf,d,KC.pk]
  · rename_i d
    split at h
    · rename_i x hb
      simp only[Yh]at h;subst h;refine key _ ?_;obtain⟨A,a2⟩:=a;obtain⟨B,C⟩:=b;simp[Jf,Je,d,x,hb,KC.pk,kB,TK.agg,mN]
    · cases h
  · cases h
def lB(kc:KC){V:Type}:List (kc.K×V)->kc.K->Option Nat
  | [],_=>kw
  |(a,_)::r,k=>if a=k then jp 0 else(lB kc r k).map (· +1)
section
variable {kc:KC} {V:Type}
theorem mb: ∀{m:List (kc.K×V)} {k:kc.K} {i:Nat},lB kc m k=jp i-> ∃v,m[i]? =jp (k,v)∧(∀z,bY kc m k z=v)∧ej kc m k=lc∧(∀d,ck kc m k d=m.set i (k,d))∧pO kc m k=m.eraseIdx i
  | [],_,_,h=>by simp[lB]at h
  | (a,b)::r,k,i,h=>by
    simp only[lB]at h;split at h
    · rename_i e
      simp only[Yh]at h;subst h;subst e;exact⟨b,rfl,fun z=>by simp[bY],by simp[ej],fun d=>by simp[ck],by simp[pO]⟩
    · rename_i e
      obtain⟨j,C,rfl⟩:=Yq.1 h;obtain⟨v,u,x,y,A,B⟩:=mb C;exact⟨v,by simpa using u,fun z=>by simp[bY,e,x],by simp[ej,e,y],fun d=>by simp[ck,e,A],by simp[pO,e,B]⟩
theorem mc: ∀{m:List (kc.K×V)} {k:kc.K},lB kc m k=kw->(∀z,bY kc m k z=z)∧ej kc m k=li∧(∀d,ck kc m k d=m++ [(k,d)])∧pO kc m k=m
  | [],_,_=>⟨fun z=>rfl,rfl,fun v=>rfl,rfl⟩
  | (a,b)::r,k,h=>by
    simp only[lB]at h;split at h
    · cases h
    · rename_i e
      obtain⟨j,u,x,y⟩:=mc (aax.1 h);exact⟨fun z=>by simp[bY,e,j],by simp[ej,e,u],fun d=>by simp[ck,e,x],by simp[pO,e,y]⟩
def y7(kc:KC){V:Type}:List MapEntry->List (kc.K×V)->Prop
  | [],[]=>True
  |e::r,x::m=>e.key=kc.ek x.1∧y7 kc r m
  |_,_=>False
theorem DT: ∀{es:List MapEntry} {m:List (kc.K×V)},es.length=m.length->(∀(j:Nat) (x:kc.K×V),m[j]? =jp x->(es.getD j io).key=kc.ek x.1)->y7 kc es m
  | [],[],_,_=>trivial
  |e::r,x::m,hl,h=>⟨by simpa using h 0 x Z,DT (by simpa using hl) fun j x b=>by simpa using h (j+1) x (by simpa using b)⟩
  | [],_::_,hl,_=>by simp at hl
  |_::_,[],hl,_=>by simp at hl
theorem v7: ∀{es:List MapEntry} {m:List ((KC.str).K×V)} {k:ByteArray} (i:Nat),y7 .str es m->Instr.findNow .string (.string k) es i=jp ((lB .str m k).map fun j=>(i+j,(es.getD j io).val))
  | [],[],_,_,_=>rfl
  | e::r,(a,b)::m,k,i,h=>by
    obtain⟨u,x⟩:=h;simp only[KC.ek]at u;simp only[Instr.findNow,u,Instr.sameNow,lB];rw[beq_toListBytes,Bv];by_cases d:a=k
    · subst d;simp
    · have hb:lw (k=a)=li:=by simpa using fun e=>d e.symm
      rw[hb,be d,v7 (i+1) x];simp only[abu,Yh];congr 1
      funext j
      simp;omega
  | [],_::_,_,_,h=>h.elim
  |_::_,[],_,_,h=>h.elim
theorem v8{q:IntKind}: ∀{es:List MapEntry} {m:List ((KC.int q).K×V)} {k:Int} (i:Nat),y7 (.int q) es m->Instr.findNow (.int q) (.int q k) es i=jp ((lB (.int q) m k).map fun j=>(i+j,(es.getD j io).val))
  | [],[],_,_,_=>rfl
  | e::r,(a,b)::m,k,i,h=>by
    obtain⟨u,x⟩:=h;simp only[KC.ek]at u;simp only[Instr.findNow,u,Instr.sameNow,lB,if_true];by_cases d:a=k
    · subst d;simp
    · have: ¬k=a:=fun e=>d e.symm
      have hb:(k==a)=li:=by simpa using this
      rw[hb,be d,v8 (i+1) x];simp only[abu,Yh];congr 1
      funext j
      simp;omega
  | [],_::_,_,_,h=>h.elim
  |_::_,[],_,_,h=>h.elim
theorem sj{y:TypeId}(u:cC P ty)(x:gv ty y=jp kc): ∀{es:List MapEntry} {m:List (kc.K×V)} {k:kc.K} (i:Nat),y7 kc es m->
    (Instr.findAsking y (kc.ek k) es i).run P w= .ok ((lB kc m k).map fun j=>(i+j,(es.getD j io).val)) w
  | [],[],_,_,_=>by simp[Instr.findAsking,lB]
  | e::r,(a,b)::m,k,i,h=>by
    obtain⟨A,B⟩:=h;simp only[Instr.findAsking,A,Sem.run_bind,Et (P:=P) (w:=w) u x,Result.andThen_ok,lB];by_cases d:a=k
    · subst d;simp
    · have: ¬k=a:=fun e=>d e.symm
      rw[be d];simp only[this,decide_false,ZH,if_false,sj u x (i+1) B,abu];congr 2
      funext j
      simp;omega
  | [],_::_,_,_,h=>h.elim
  |_::_,[],_,_,h=>h.elim
theorem tw{A:TypeId}(b:cC P ty)(x:gv ty A=jp kc){es:List MapEntry}{m:List (kc.K×V)}(k:kc.K)(h:y7 kc es m):
    (Instr.findKey A (kc.ek k) es).run P w= .ok ((lB kc m k).map fun j=>(j,(es.getD j io).val)) w:=by
  have hu: ∃d,P.underlying A=jp d:=by
    unfold gv at x;split at x
    · rename_i y;exact⟨_,(b _ _ y).2.1.1⟩
    · rename_i y;exact⟨_,(b _ _ y).2.1.1⟩
    · rename_i y;obtain⟨F,B,_⟩:=(b _ _ y).2.1;exact⟨_,B⟩
    · cases x
  obtain⟨d,hd⟩:=hu;unfold Instr.findKey;rw[Sem.run_bind,run_underlying hd,Result.andThen_ok];have u:=sj (P:=P) (w:=w) b x (k:=k) 0 h;simp only[YC]at u;cases kc with
  | str=>
    have:=vU b x;rw[hd]at this;cases this;simp only[KC.ek,v7 0 h,YC];rfl
  | int q=>
    have:=vV b x;rw[hd]at this;cases this;simp only[KC.ek,v8 0 h,YC];rfl
  | si q=>
    cases es with
    | nil=>
      cases m with
      |nil=>simp[Instr.findNow,lB]
      |cons=>exact h.elim
    | cons e r=>
      have C:Instr.findNow d (KC.ek (.si q) k) (e::r) 0=kw:=by
        simp only[Instr.findNow,KC.ek];have:Instr.sameNow d (.agg #[.string k.1,.int q k.2]) e.key=kw:=by cases d<;>rfl
        rw[this]
      rw[C];exact u
theorem l0.keys{V:Type}{e:V->IV}{m:List (kc.K×V)}{ents:Array MapEntry}{clock:Nat}(h:l0 M kc e m ents clock):y7 kc ents.toList m:=
  DT (by simpa using h.size) fun j x b=>by
    have:=h.key j x b;rwa[Yf,<-Zn,<-Ye]at this
theorem l0.WL{V:Type}{e:V->IV}{m:List (kc.K×V)}{ents:Array MapEntry}{clock:Nat}(h:l0 M kc e m ents clock){j:Nat}{x:kc.K×V}(hj:m[j]? =jp x):IR M (e x.2) (ents.toList.getD j io).val:=by
  have:=h.val j x hj;rwa[Yf,<-Zn,<-Ye]at this
theorem G2{i:IV}{x:Value}(h:IR M i x):VR M N U i.pv x:=by
  cases h with
  | agg cs ys hl hr=>
    refine .agg _ _ (by simpa using hl) fun j p b=>?_;rw[Yo,Yq]at b;obtain⟨q,d,rfl⟩:=b
    exact .iv _ _ (hr j q d)
  |v x=>exact .iv _ _ (.v x)
  |lz=>exact .iv _ _ (.lz _ _ _ _)
  |dp _ _ _ _ _ _ h1 h2 h3 h4 h5=>exact .iv _ _ (.dp _ _ _ _ _ _ h1 h2 h3 h4 h5)
  |mL _ _ _ h1 h2=>exact .iv _ _ (.mL _ _ _ h1 h2)
  |fF _ _ _ _ _ _ _ _ h1 h2 h3 h4 h5 h6 h7=>exact .iv _ _ (.fF _ _ _ _ _ _ _ _ h1 h2 h3 h4 h5 h6 h7)
theorem qs{kt:TypeId}(d:cC P ty)(u:gv ty kt=jp kc)(k:kc.K)(b:Bool)(n:Nat):(Instr.checkKey b (n+2) kt (kc.ek k)).run P w= .ok () w:=by
  cases kc with
  |str=>exact run_checkKey (vU d u) (by simp[KC.ek,IsKey]) _ _
  |int q=>exact run_checkKey (vV d u) (by simp[KC.ek,IsKey]) _ _
  | si q=>
    unfold gv at u;split at u
    · cases u
    · cases u
    · rename_i a c _ _ _ he
      split at u
      · rename_i _ _ _ _ B _ _ _ ha hc
        simp only[Yh,KC.si.injEq]at u;have G:B=q:=u;subst G;obtain⟨F,h1,A⟩:=(d _ _ he).2.1;have D:=((d _ _ he).2.2 Z).2.2;rw[qD h1]at D;have S:=(d _ _ ha).2.1.1;have Y:=(d _ _ hc).2.1.1;have I:(part a #[.string k.1,.int B k.2] 0).run P w= .ok (.string k.1) w:=by
          have:=kU (P:=P) (w:=w) (M:=Mem.base) (N:=⟨fun _=>0,fun _=>0⟩) (U:=fun _=>True) (off:=0) (cs:=[.iv (.v (.string k.1)),.iv (.v (.int B k.2))]) (ys:= #[.string k.1,.int B k.2]) (d _ _ ha) Z
            (fun j p x=>by match j with
              |0=>simp at x;subst x;exact .iv _ _ (.v _)
              |1=>simp at x;subst x;exact .iv _ _ (.v _)
              |j+2=>simp at x) (p:= .iv (.v (.string k.1))) (by simp[kB,TK.agg,mN])
          obtain⟨y,hy,C⟩:=this;cases C with
          |iv _ _ C=>cases C;exact hy
        have J:(part c #[.string k.1,.int B k.2] 1).run P w= .ok (.int B k.2) w:=by
          have:=kU (P:=P) (w:=w) (M:=Mem.base) (N:=⟨fun _=>0,fun _=>0⟩) (U:=fun _=>True) (off:=1) (cs:=[.iv (.v (.string k.1)),.iv (.v (.int B k.2))]) (ys:= #[.string k.1,.int B k.2]) (d _ _ hc) Z
            (fun j p x=>by match j with
              |0=>simp at x;subst x;exact .iv _ _ (.v _)
              |1=>simp at x;subst x;exact .iv _ _ (.v _)
              |j+2=>simp at x) (p:= .iv (.v (.int B k.2))) (by simp[kB,TK.agg,mN])
          obtain⟨y,hy,C⟩:=this;cases C with
          |iv _ _ C=>cases C;exact hy
        obtain⟨F⟩:=F
        match F,A,D with
        | [],A,_=>simp at A
        | [_],A,_=>simp at A
        |_::_::_::_,A,_=>simp at A
        | [f,g],A,D=>
          simp at A;obtain⟨⟨h3,h4⟩,h5,h6⟩:=A;have hf:=D f (by simp);have hg:=D g (by simp);have ca:=run_checkKey (w:=w) S (k:= .string k.1) (by simp[IsKey]) b n;have cc:=run_checkKey (w:=w) Y (k:= .int B k.2) (by simp[IsKey]) b n;unfold Instr.checkKey;simp[KC.ek,run_underlying h1,hf,hg,h3,h4,h5,h6,I,J,ca,cc]
      · cases u
    · cases u
theorem CC{a b:Value}(h:Gu a b=lc):a=b:=by
  unfold Gu at h;split at h<;>simp_all
theorem CB: ∀{a b:List Value},zs a b=lc->a=b
  | [],[],_=>rfl
  | x::r,y::q,h=>by
    simp only[zs,YB]at h;rw[CC h.1,CB h.2]
  | [],_::_,h=>by simp[zs]at h
  |_::_,[],h=>by simp[zs]at h
theorem Nn{a b:Value}(h:Sp a b=lc):a=b:=by
  unfold Sp at h;split at h
  · have:=CB h
    congr 1;exact abG.1 this
  · exact CC h
theorem DH(d:cC P ty){t:TypeId}{ok:Bool}{V:Type}{e:V->IV}{z:V}{zv:Value}{m:List (kc.K×V)}{key p:PV}{C:Prop}(h:xY ty t ok kc e z zv m key=jp (p,C)){r:Nat}{ents:Array MapEntry}{clock:Nat}
    (hb:w.heap[r]? =jp (.map ents clock)) (hm:l0 M kc e m ents clock) (hz:IR M (e z) zv) {k:Value} (hk:VR M N U key k):
    C∧ ∃x,(Instr.lookup t (.map (jp r)) k ok).run P w= .ok x w∧VR M N U p x:=by
  unfold xY at h;split at h
  · rename_i kt et _ _ _ _ he
    have hu:=(d _ _ he).2.1.1;split at h
    · rename_i u ee A I
      split at h
      · rename_i k0 hd S G
        have hd:=of_decide_eq_true hd;subst hd;have J:=Mj G hk;subst J;have S:=Nn S;have b:=tw (P:=P) (w:=w) d A k0 hm.keys;have y:=qs (P:=P) (w:=w) d A k0 ents.isEmpty 9998;have Y:=eA (P:=P) (w:=w) (d _ _ I);have hg:(getObj r).run P w= .ok (.map ents clock) w:=by simp[getObj,Sem.run,hb]
        have D: ∃v F,(Instr.lookup t (.map (jp r)) (u.ek k0) ok).run P w= .ok (if ok then .tuple #[v,.bool F] else v) w∧F=ej u m k0∧IR M (e (bY u m k0 z)) v:=by
          cases hfi:lB u m k0 with
          | none=>
            obtain⟨g1,g2,_⟩:=mc hfi;rw[hfi]at b;refine⟨ee.zero,li,?_,by rw[g2],by rw[g1,S];exact hz⟩;simp[Instr.lookup,run_underlying hu,hg,y,b,Y]
          | some i=>
            obtain⟨v,g0,g1,g2,_⟩:=mb hfi;rw[hfi]at b;refine⟨(ents.toList.getD i io).val,lc,?_,by rw[g2],by rw[g1];exact hm.WL g0⟩;simp[Instr.lookup,run_underlying hu,hg,y,b]
        obtain⟨v,F,h1,h2,h3⟩:=D;split at h
        · simp only[Yh,Yw]at h
          obtain⟨rfl,rfl⟩:=h;refine⟨ac,_,h1,.bX _ _ Z fun j q B=>?_⟩
          match j with
          |0=>simp at B;subst B;exact G2 h3
          |1=>simp at B;subst B;subst h2;exact .iv _ _ (.v _)
          |j+2=>simp at B
        · simp only[Yh,Yw]at h
          obtain⟨rfl,rfl⟩:=h;exact⟨ac,_,h1,G2 h3⟩
      · cases h
    · cases h
  · cases h
end
end
section
variable {P:Program} {ty:Ty} {M:Mem} {N:Nm} {w:World} {nt:Nat} {s:AS} {a:Act}
theorem bU{x:Value}{m:Sem Value}(h:m.run P w= .ok x w):(do pure (.value (<-m)):Sem Next).run P w= .ok (.value x) w:=by
  rw[Sem.run_bind,h];rfl
theorem xJ(D:cC P ty)(hf:Fits M N s nt a w){o:Oper}{p:PV}{C:Prop}(h:lu ty s o.op=jp (p,C))(hC:C):
    ∃x,(execOp a.eval o).run P w= .ok (.value x) w∧VR M N (· <s.nx) p x:=by
  obtain⟨c0,A,_,_⟩:=hf;cases ho:o.op with
  | move x=>
    rw[ho]at h;simp only[lu,Yh,Yw]at h;obtain⟨rfl,rfl⟩:=h;exact⟨_,by simp only[execOp,ho];rfl,bf A x⟩
  | assign x=>
    rw[ho]at h;simp only[lu,Yh,Yw]at h;obtain⟨rfl,rfl⟩:=h;exact⟨_,by simp only[execOp,ho];rfl,bf A x⟩
  | pick c x y=>
    rw[ho]at h;simp only[lu]at h;have hc:=bf A c;split at h
    · rename_i G
      rw[G]at hc;simp only[Yh,Yw]at h;obtain⟨rfl,rfl⟩:=h;generalize J:a.eval c=v at hc;cases hc with
      |kb=>exact⟨_,by simp only[execOp,ho,J];simp[asBool],bf A x⟩
    · rename_i G
      rw[G]at hc;simp only[Yh,Yw]at h;obtain⟨rfl,rfl⟩:=h;generalize J:a.eval c=v at hc;cases hc with
      |kb=>exact⟨_,by simp only[execOp,ho,J];simp[asBool],bf A y⟩
    · cases h
  | load t x=>
    rw[ho]at h;simp only[lu]at h;split at h
    · rename_i e G
      split at h
      · rename_i cs hb
        split at h
        · rename_i q hq
          simp only[Yh,Yw]at h;obtain⟨rfl,rfl⟩:=h;obtain⟨b,n0,d,q0⟩:=A7 c0 (bf A x) hb;obtain⟨y,hy,J⟩:=vM (P:=P) (D t e G) q0 hq;exact⟨y,by simp only[execOp,ho];exact bU (by rw[d];simpa[Instr.loadAt,Instr.sureAddr]using hy),J⟩
        · cases h
      · cases h
    · cases h
  | nilCheck x=>
    rw[ho]at h;simp only[lu]at h;have d:=bf A x;split at h
    all_goals first
      |cases h;done
      | (rename_i G
         simp only[Yh,Yw]at h;obtain⟨rfl,rfl⟩:=h;rw[G]at d;refine⟨_,?_,d⟩;generalize J:a.eval x=v at d
         first
         |(cases d;simp only[execOp,ho,J];rfl)
         | (cases d with
            |iv _ _ d=>cases d;simp only[execOp,ho,J];rfl))
  | binOp op t x y t'=>
    rw[ho]at h;simp only[lu]at h;split at h
    · rename_i cs ds f0 t1
      have Y:=bf A x;have h2:=bf A y;rw[f0]at Y;rw[t1]at h2;obtain⟨_,z,hz,J⟩:=MU (P:=P) (w:=w) D (u:=x) (v:=y) h Y h2;exact⟨z,by simp only[execOp,ho];exact bU hz,J⟩
    · obtain⟨z,hz,J⟩:=Ju (P:=P) (w:=w) D (u:=x) (v:=y) h hC (bf A x) (bf A y)
      exact⟨z,by simp only[execOp,ho];exact bU hz,J⟩
  | unOp op t x=>
    rw[ho]at h;cases op with
    | not=>
      simp only[lu]at h;have d:=bf A x;split at h
      · rename_i G
        simp only[Yh,Yw]at h;obtain⟨rfl,rfl⟩:=h;rw[G]at d;generalize J:a.eval x=v at d;cases d with
        |kb=>exact⟨_,by simp only[execOp,ho,J];exact bU Z,.kb _⟩
      · rename_i G
        simp only[Yh,Yw]at h;obtain⟨rfl,rfl⟩:=h;rw[G]at d;generalize J:a.eval x=v at d;cases d with
        |kb=>exact⟨_,by simp only[execOp,ho,J];exact bU Z,.kb _⟩
      · rename_i G
        simp only[Yh,Yw]at h;obtain⟨rfl,rfl⟩:=h;rw[G]at d;cases d with
        | iv _ _ d=>generalize J:a.eval x=v at d;cases d with
          |v=>exact⟨_,by simp only[execOp,ho,J];exact bU Z,.iv _ _ (.v _)⟩
      · cases h
    |_=>simp[lu]at h
  | fieldAddr t x k=>
    rw[ho]at h;simp only[lu]at h;split at h
    · rename_i e G
      split at h
      · rename_i n0 u z0
        split at h
        · rename_i eu d0
          split at h
          · cases h
          · rename_i n hn
            split at h
            · rename_i q hq
              simp only[Yh,Yw]at h;obtain⟨rfl,rfl⟩:=h;obtain⟨F,fd,Y,h2,rfl,rfl⟩:=uE (D t e G) z0;obtain⟨b,o',d,J⟩:=Iy (bf A x) hq;refine⟨_,?_,J⟩;simp only[execOp,ho,d];refine bU ?_;have hs:=cy (w:=w) (D _ _ d0);simp[Instr.fieldAt,run_underlying Y,h2,Instr.sureAddr,fieldPlace,hs,hn,iq]
            · cases h
        · cases h
      · cases h
    · cases h
  | field t x k=>
    rw[ho]at h;simp only[lu]at h;split at h
    · rename_i e G
      split at h
      · rename_i n0 u z0
        split at h
        · rename_i eu d0
          split at h
          · rename_i cs f0
            split at h
            · rename_i q hq
              simp only[Yh,Yw]at h;obtain⟨rfl,rfl⟩:=h;obtain⟨F,fd,Y,h2,rfl,rfl⟩:=uE (D t e G) z0;have d:=bf A x;rw[f0]at d;generalize J:a.eval x=v at d;cases d with
              | agg _ ys hl hr=>
                obtain⟨y,hy,z1⟩:=kU (P:=P) (w:=w) (D _ _ d0) hl hr hq;refine⟨y,?_,z1⟩;simp only[execOp,ho,J];refine bU ?_;simp[Instr.field,run_underlying Y,h2,asAgg,hy]
            · cases h
          · cases h
        · cases h
      · cases h
    · cases h
  | indexAddr t x i=>
    rw[ho]at h;simp only[lu]at h;split at h
    · rename_i u sz j0 z _ G
      have hu:P.underlying t=jp (.slice u):=(D t _ G).2.1.1;split at h
      · rename_i eu d0
        split at h
        · rename_i k n hn
          have B:=bf A i;rw[hn]at B;have i0:a.eval i= .int k n:=by
            generalize a.eval i=v at B;cases B with
            | iv _ _ B=>cases B with
              |v=>rfl
          split at h
          · rename_i o0 m el d
            cases hb:YJ o0 eu.size with
            |false=>simp only[hb,cond_false]at h;cases h
            | true=>
              simp only[hb,cond_true]at h;have hs:=YE hb;subst hs;have I:=bf A x;rw[d]at I;obtain⟨y,hy,J⟩:=sb (P:=P) (k:=k) hu (D _ _ d0) I (.inl ⟨m,el,rfl⟩) h hC;exact⟨y,by simp only[execOp,ho,i0];exact bU hy,J⟩
          · rename_i j n0 len o0 d
            cases hb:YJ o0 eu.size with
            |false=>simp only[hb,cond_false]at h;cases h
            | true=>
              simp only[hb,cond_true]at h;have hs:=YE hb;subst hs;have I:=bf A x;rw[d]at I;obtain⟨y,hy,J⟩:=sb (P:=P) (k:=k) hu (D _ _ d0) I (.inr ⟨j,n0,len,rfl⟩) h hC;exact⟨y,by simp only[execOp,ho,i0];exact bU hy,J⟩
          · cases h
        · cases h
      · cases h
    · rename_i len u sz j0 z _ G
      have hu:P.underlying t=jp (.array len u):=(D t _ G).2.1;split at h
      · rename_i eu d0
        split at h
        · rename_i k n hn
          have B:=bf A i;rw[hn]at B;have i0:a.eval i= .int k n:=by
            generalize a.eval i=v at B;cases B with
            | iv _ _ B=>cases B with
              |v=>rfl
          split at h
          · rename_i j n0 d
            simp only[Yh,Yw]at h;obtain⟨rfl,rfl⟩:=h;have I:=bf A x;rw[d]at I;generalize J:a.eval x=v at I;cases I with
            | ptr _ _ hU=>
              refine⟨.pointer (jp ⟨N.aI j,n0+n.toNat*eu.size,kw⟩),?_,.ptr _ _ hU⟩;simp only[execOp,ho,i0,J];refine bU ?_;simp only[Instr.indexAt,asIntOf];simp[run_underlying hu,hC.1,hC.2,cy (D _ _ d0),iq,Instr.sureAddr]
          · cases h
        · cases h
      · cases h
    · cases h
  | slice t x lo B mx=>
    rw[ho]at h;have g0: ∀(o:Operand) (k:IntKind) (n:Int),ev s.f o= .iv (.v (.int k n))->a.eval o= .int k n:=fun o k n G=>by
      have B:=bf A o;rw[G]at B;generalize a.eval o=v at B;cases B with
      | iv _ _ B=>cases B with
        |v=>rfl
    cases lo with
    |none=>simp only[lu]at h;cases h
    |some lo=>
    cases B with
    |none=>simp only[lu]at h;cases h
    |some B=>
    cases mx with
    |some mx=>simp only[lu]at h;cases h
    |none=>
    simp only[lu]at h;split at h
    · rename_i u sz j0 z _ G
      have hu:P.underlying t=jp (.slice u):=(D t _ G).2.1.1;split at h
      · rename_i eu d0
        split at h
        · rename_i ka na f1
          split at h
          · rename_i kb nb i1
            split at h
            · rename_i o0 m el d
              cases hb:YJ o0 eu.size with
              |false=>simp only[hb,cond_false]at h;cases h
              | true=>
                simp only[hb,cond_true]at h;have hs:=YE hb;subst hs;have I:=bf A x;rw[d]at I;have a1:=g0 lo _ _ f1;have b1:=g0 B _ _ i1;obtain⟨y,hy,J⟩:=Ik (P:=P) (w:=w) (M:=M) (N:=N) (U:=(· <s.nx)) (ka:=ka) (kb:=kb) (na:=na) (nb:=nb) hu (D _ _ d0) I h hC;exact⟨y,by simp only[execOp,ho,a1,b1,Zg,abn];exact bU hy,J⟩
            · cases h
          · cases h
        · cases h
      · cases h
    · rename_i sz j0 z _ G
      have hu:P.underlying t=jp .string:=(D t _ G).2.1.1;split at h
      · rename_i ka na f1
        split at h
        · rename_i kb nb i1
          split at h
          · rename_i b d
            simp only[Yh,Yw]at h;obtain⟨rfl,rfl⟩:=h;have I:=bf A x;rw[d]at I;have m1:a.eval x= .string b:=by
              generalize a.eval x=v at I;cases I with
              | iv _ _ B=>cases B with
                |v=>rfl
            have a1:=g0 lo _ _ f1;have b1:=g0 B _ _ i1;refine⟨.string (b.extract na.toNat nb.toNat),?_,.iv _ _ (.v _)⟩;simp only[execOp,ho,a1,b1,m1,Zg,abn];exact bU (CT hu hC)
          · cases h
        · cases h
      · cases h
    · cases h
  | index t x i=>
    rw[ho]at h;simp only[lu]at h;split at h
    · rename_i sz j0 z _ G
      have hu:P.underlying t=jp .string:=(D t _ G).2.1.1;split at h
      · rename_i k n hn
        split at h
        · rename_i b d
          simp only[Yh,Yw]at h;obtain⟨rfl,rfl⟩:=h;have B:=bf A i;rw[hn]at B;have i0:a.eval i= .int k n:=by
            generalize a.eval i=v at B;cases B with
            | iv _ _ B=>cases B with
              |v=>rfl
          have I:=bf A x;rw[d]at I;have m1:a.eval x= .string b:=by
            generalize a.eval x=v at I;cases I with
            | iv _ _ B=>cases B with
              |v=>rfl
          refine⟨_,?_,.iv _ _ (.v _)⟩;simp only[execOp,ho,i0,m1];refine bU ?_;have y0:n.toNat<b.size:=by omega
          have hg:b[n.toNat]? =jp (b.data.toList.getD n.toNat 0):=by
            rw[getElem?_pos b n.toNat y0];have h0:n.toNat<b.data.size:=y0;have Y:b.data.toList.getD n.toNat 0=b.data[n.toNat]:=by
              rw[Ye,Zn,Zb h0];rfl
            rw[Y];rfl
          simp only[Instr.index,asIntOf];simp[run_underlying hu,hC.1,hg]
        · cases h
      · cases h
    · cases h
  | build t parts=>
    rw[ho]at h;simp only[lu]at h;split at h
    · rename_i e G
      split at h
      · rename_i fs hk
        split at h
        · rename_i pl y1
          split at h
          · rename_i cs f0
            rw[force_eq]at h;simp only[Yh,Yw]at h;obtain⟨rfl,rfl⟩:=h;have e0:=D t e G;have k0:=e0.2.1;rw[hk]at k0;obtain⟨F,Y,h2⟩:=k0;have hz:=eA (w:=w) e0
            obtain⟨p1,h3,h4⟩:=uC (M:=M) (N:=N) (U:=(· <s.nx)) (vals:=(parts.map fun x=>(x.1,a.eval x.2)).toList) f0 (by simp) (fun j x y d hy=>by
              rw[Yo,Yq]at d;obtain⟨z,hz,rfl⟩:=d;have n1:parts[j]? =jp z:=by simpa using hz
              have:jp (z.1,a.eval z.2)=jp y:=by rw[<-hy];simp[n1]
              simp only[Yh]at this;subst this
              exact⟨rfl,bf A z.2⟩) (gj e.zero)
            refine⟨.agg p1,?_,.agg _ _ h4.1 h4.2⟩;simp only[execOp,ho];refine bU ?_;have d1: ∀(fl:List Field) (pl:List (Nat×Nat)),ue ty (fl.map fun f=>(f.offset,f.type))=jp pl->(fl.mapM (fun f=>do pure (f.offset,<-sizeOf f.type):Field->Sem (Nat×Nat))).run P w= .ok pl w:=by
              intro fl
              induction fl with
              |nil=>intro pl hp;simp only[Y7,ue,Yh]at hp;subst hp;rfl
              | cons f fl ih=>
                intro pl hp;simp only[Yz,ue]at hp;split at hp
                · rename_i e' u1
                  split at hp
                  · rename_i l hl
                    simp only[Yh]at hp;subst hp;rw[List.mapM_cons,Sem.run_bind,Sem.run_bind,cy (D _ _ u1),Result.andThen_ok,Sem.run_pure,Result.andThen_ok,Sem.run_bind,ih l hl];rfl
                  · cases hp
                · cases hp
            have hm:=d1 F.toList pl (by rw[h2];exact y1);have w1:(F.mapM (fun f=>do pure (f.offset,<-sizeOf f.type):Field->Sem (Nat×Nat))).run P w= .ok pl.toArray w:=by
              rw[aa7,Sem.run_map,hm];rfl
            have m0:(fun(i:Nat)=>pl.toArray[i]?)=(fun(i:Nat)=>pl[i]?):=by funext i;simp
            simp only[Instr.build,Sem.run_bind,hz,Result.andThen_ok,run_underlying Y,w1];rw[m0,h3];rfl
          · cases h
        · cases h
      · rename_i n u hk
        split at h
        · rename_i eu d0
          split at h
          · rename_i cs f0
            rw[force_eq]at h;simp only[Yh,Yw]at h;obtain⟨rfl,rfl⟩:=h;have e0:=D t e G;have k0:=e0.2.1;rw[hk]at k0;have hz:=eA (w:=w) e0
            obtain⟨p1,h3,h4⟩:=uC (M:=M) (N:=N) (U:=(· <s.nx)) (vals:=(parts.map fun x=>(x.1,a.eval x.2)).toList) f0 (by simp) (fun j x y d hy=>by
              rw[Yo,Yq]at d;obtain⟨z,hz,rfl⟩:=d;have n1:parts[j]? =jp z:=by simpa using hz
              have:jp (z.1,a.eval z.2)=jp y:=by rw[<-hy];simp[n1]
              simp only[Yh]at this;subst this
              exact⟨rfl,bf A z.2⟩) (gj e.zero)
            refine⟨.agg p1,?_,.agg _ _ h4.1 h4.2⟩;simp only[execOp,ho];refine bU ?_;simp only[Instr.build,Sem.run_bind,hz,Result.andThen_ok,run_underlying k0,cy (D _ _ d0)];rw[h3];rfl
          · cases h
        · cases h
      · cases h
    · cases h
  | extract x k=>
    rw[ho]at h;simp only[lu]at h;split at h
    · rename_i cs f0
      split at h
      · rename_i q hq
        simp only[Yh,Yw]at h;obtain⟨rfl,rfl⟩:=h;have d:=bf A x;rw[f0]at d;generalize J:a.eval x=v at d;cases d with
        | bX _ ys hl hr=>
          have y0:k<ys.size:=by rw[<-hl];exact(Yj.1 hq).1
          refine⟨ys.getD k undef,?_,hr _ _ hq⟩;simp only[execOp,ho,J];refine bU ?_;simp[Instr.extract,Yf,y0]
      · cases h
    · cases h
  | makeFunc fn first caps=>
    rw[ho]at h;simp only[lu,force_eq,Yh,Yw]at h;obtain⟨rfl,rfl⟩:=h;have Y:=La A first;have h2:=La A caps;exact⟨_,by simp only[execOp,ho];exact bU Z,.dx _ _ _ _ _ Y.1 h2.1 Y.2 h2.2⟩
  | call c=>
    obtain⟨callee,args,a0⟩:=c;rw[ho]at h;cases callee with
    | builtin b=>
      cases b with
      | len=>
        simp only[lu]at h;split at h
        · rename_i x t r1 b2
          have b0:args= #[x]:=by cases args;simp_all
          have l1:a0= #[t]:=by cases a0;simp_all
          subst b0 l1;have d:=bf A x;have p0: ∀v,(Builtin.len_ #[t] o.type #[a.eval x]).run P w= .ok v w->(execOp a.eval o).run P w= .ok (.value v) w:=by
            intro v J;simp only[execOp,ho,resolve];simp[invoke,builtin,J]
          split at h
          · rename_i u sz j0 z _ G
            have hu:P.underlying t=jp (.slice u):=(D t _ G).2.1.1;split at h
            · rename_i o0 n el S
              rw[S]at d;simp only[zf,Yh,Yw]at h;obtain⟨rfl,rfl⟩:=h;refine⟨.int .i64 n,p0 _ ?_,.iv _ _ (.v _)⟩;generalize a.eval x=v at d;cases d with
              |iv _ _ B=>cases B<;>simp[Builtin.len_,run_underlying hu,goInt]
            · rename_i i n0 len o0 S
              rw[S]at d;simp only[zf,Yh,Yw]at h;obtain⟨rfl,rfl⟩:=h;refine⟨.int .i64 len,p0 _ ?_,.iv _ _ (.v _)⟩;generalize a.eval x=v at d;cases d<;>(simp[Builtin.len_,run_underlying hu,goInt];done)
            · rename_i S
              rw[S]at d;simp only[zf,Yh,Yw]at h;obtain⟨rfl,rfl⟩:=h;refine⟨.int .i64 0,p0 _ ?_,.iv _ _ (.v _)⟩;generalize a.eval x=v at d;cases d with
              |iv _ _ B=>cases B;simp[Builtin.len_,run_underlying hu,goInt]
            · cases h
          · rename_i sz j0 z _ G
            have hu:P.underlying t=jp .string:=(D t _ G).2.1.1;split at h
            · rename_i b S
              rw[S]at d;simp only[zf,Yh,Yw]at h;obtain⟨rfl,rfl⟩:=h;refine⟨.int .i64 b.size,p0 _ ?_,.iv _ _ (.v _)⟩;generalize a.eval x=v at d;cases d with
              |iv _ _ B=>cases B;simp[Builtin.len_,run_underlying hu,goInt]
            · cases h
          · rename_i kt et sz j0 z _ G
            have hu:P.underlying t=jp (.map kt et):=(D t _ G).2.1.1;have r0: ∀{r:Nat} {ents:Array MapEntry} {clock n:Nat},w.heap[r]? =jp (.map ents clock)->ents.size=n->(Builtin.len_ #[t] o.type #[.map (jp r)]).run P w= .ok (.int .i64 n) w:=by
              intro r ents clock n Y h2;simp[Builtin.len_,run_underlying hu,goInt,getObj,Sem.run,Y,h2,Result.andThen]
            split at h
            · rename_i V w0 x0 z' q1 m' S
              rw[S]at d;simp only[Yh,Yw]at h;obtain⟨rfl,rfl⟩:=h;refine⟨.int .i64 m'.length,p0 _ ?_,.iv _ _ (.v _)⟩;generalize a.eval x=v at d;cases d with
              | iv _ _ B=>cases B with
                |fF _ _ _ _ _ b ents clock hb hs=>exact r0 (c0.dT _ _ hb) hs
            · rename_i j S
              rw[S]at d;split at h
              · rename_i V w0 x0 z' q1 s1 m' hg
                simp only[Yh,Yw]at h;obtain⟨rfl,rfl⟩:=h;refine⟨.int .i64 m'.length,p0 _ ?_,.iv _ _ (.v _)⟩;obtain⟨ents,clock,Y,h2,h3⟩:=c0.obj _ _ hg;generalize a.eval x=v at d;cases d with
                |mp=>exact r0 Y h2.size
              · cases h
            · cases h
          · cases h
        · cases h
      | max=>
        simp only[lu]at h;split at h
        · rename_i x y r1
          have b0:args= #[x,y]:=by cases args;simp_all
          subst b0;split at h
          · rename_i k n j m hn hm
            simp only[Yh,Yw]at h;obtain⟨rfl,rfl⟩:=h;have Y:=bf A x;have h2:=bf A y;rw[hn]at Y;rw[hm]at h2;have e1:a.eval x= .int k n:=by
              generalize a.eval x=v at Y;cases Y with
              | iv _ _ B=>cases B with
                |v=>rfl
            have e2:a.eval y= .int j m:=by
              generalize a.eval y=v at h2;cases h2 with
              | iv _ _ B=>cases B with
                |v=>rfl
            have e3:(if m>n then m else n)=max n m:=by split<;>omega
            refine⟨.int k (max n m),?_,.iv _ _ (.v _)⟩;simp only[execOp,ho,resolve];simp[invoke,builtin,Builtin.max_,Builtin.max2,e1,e2,<-e3]
          · cases h
        · cases h
      | min=>
        simp only[lu]at h;split at h
        · rename_i x y r1
          have b0:args= #[x,y]:=by cases args;simp_all
          subst b0;split at h
          · rename_i k n j m hn hm
            simp only[Yh,Yw]at h;obtain⟨rfl,rfl⟩:=h;have Y:=bf A x;have h2:=bf A y;rw[hn]at Y;rw[hm]at h2;have e1:a.eval x= .int k n:=by
              generalize a.eval x=v at Y;cases Y with
              | iv _ _ B=>cases B with
                |v=>rfl
            have e2:a.eval y= .int j m:=by
              generalize a.eval y=v at h2;cases h2 with
              | iv _ _ B=>cases B with
                |v=>rfl
            have e3:(if m<n then m else n)=min n m:=by split<;>omega
            refine⟨.int k (min n m),?_,.iv _ _ (.v _)⟩;simp only[execOp,ho,resolve];simp[invoke,builtin,Builtin.min_,Builtin.min2,e1,e2,<-e3]
          · cases h
        · cases h
      |_=>simp[lu]at h
    |_=>simp[lu]at h
  | lookup t x i ok=>
    rw[ho]at h;simp only[lu]at h;have d:=bf A x;have B:=bf A i;split at h
    · rename_i V w0 x0 z' q1 m' S
      rw[S]at d;generalize J:a.eval x=v at d;cases d with
      | iv _ _ hxi=>cases hxi with
        | fF _ _ _ _ _ b ents clock hb hs k0 hv' hz i0 hc=>
          obtain⟨_,y,Y,h2⟩:=DH (P:=P) D h (c0.dT _ _ hb) ⟨hs,k0,hv',i0,hc⟩ hz B;exact⟨y,by simp only[execOp,ho,J];exact bU Y,h2⟩
    · rename_i j S
      rw[S]at d;split at h
      · rename_i V w0 x0 z' q1 s1 m' hg
        obtain⟨ents,clock,Y,h2,h3⟩:=c0.obj _ _ hg;generalize J:a.eval x=v at d;cases d with
        | mp=>
          obtain⟨_,y,g1,g2⟩:=DH (P:=P) D h Y h2 h3 B;exact⟨y,by simp only[execOp,ho,J];exact bU g1,g2⟩
      · cases h
    · cases h
  | entry it=>
    rw[ho]at h;simp only[lu]at h;have d:=bf A it;split at h
    · rename_i i S
      rw[S]at d;split at h
      · rename_i V w0 x0 m' vs x' hg
        simp only[Yh,Yw]at h;obtain⟨rfl,rfl⟩:=h;obtain⟨b,ents,clock,o1,Y,h2,h3,h4,h5,h6,h7⟩:=(c0.obj _ _ hg).resolve_left fun hh=>nomatch hh.2.2.1;obtain⟨j,r,rfl,h8⟩:=h7 x' Z;generalize J:a.eval it=v at d
        cases d with
        | ptr=>
          have hj:j<ents.size:=by rw[h3.size];exact(Yj.1 h8).1
          have v1:ents.getD j io=ents[j]:=by simp[Yf,hj]
          have t0:o1=(r.reverse.map fun j=>(ents.getD j io).born).toArray.push (ents[j]).born:=by
            apply abG.1;rw[h4];simp[hj]
          rw[t0]at Y;have x1:(ents.toList.map (·.born)).Nodup:=by
            rw[List.nodup_iff_pairwise_ne,aaN];intro p q hp hq a2 G;simp at hp hq G;have:=h3.inj p q ents[p] ents[q] (by simp[hp]) (by simp[hq]) G;omega
          have j1:=run_entry_at (P:=P) w (N.aI i) b clock _ ents clock ents[j] Y (c0.dT _ _ h2) (by simp) x1;refine⟨_,by simp only[execOp,ho,J];exact bU j1,.bX _ _ Z fun q p hp=>?_⟩;have s0:=h3.key j _ h8;have v0:=h3.val j _ h8;rw[v1]at s0 v0
          match q with
          |0=>simp at hp;subst hp;simp only[Yf];simp;rw[s0];exact G4 w0 _
          |1=>simp at hp;subst hp;exact G2 v0
          |q+2=>simp at hp
      · cases h
    · cases h
  |_=>rw[ho]at h;simp[lu]at h
end
abbrev AQ:=Exit->AS->Prop
def pK(nt:Nat)(M:Mem)(N:Nm)(s:AS)(w:World)(Q:AQ):Exit->Act->World->Prop:=fun e u j=>
 ∃b d s',Ext M N (· <s.nx) s.h w b d (· <s'.nx) s'.h j∧Fits b d s' nt u j∧Q e s'
theorem pK.later{nt:Nat}{M b:Mem}{N d:Nm}{s s':AS}{w j:World}{Q:AQ}{e:Exit}{a:Act}{u:World}
  (x:Ext M N (· <s.nx) s.h w b d (· <s'.nx) s'.h j) (h:pK nt b d s' j Q e a u):pK nt M N s w Q e a u:=by
 obtain⟨y,A,F,B,C,D⟩:=h;exact⟨y,A,F,x.trans B,C,D⟩
theorem pK.now{nt:Nat}{M:Mem}{N:Nm}{s:AS}{w:World}{Q:AQ}{e:Exit}{a:Act}(hf:Fits M N s nt a w)(h:Q e s):pK nt M N s w Q e a w:=
 ⟨M,N,s,.refl _ _ _ _ _,hf,h⟩
def AW(P:Program)(nt:Nat)(c:Code)(Q:AQ)(s:AS):Prop:= ∀M N a w,Fits M N s nt a w->c.wp P (pK nt M N s w Q) a w
def AL(P:Program)(nt:Nat)(all rest:List Oper)(Q:AQ)(s:AS):Prop:= ∀M N a w,Fits M N s nt a w->wpList P all.toArray (pK nt M N s w Q) rest a w
def SL(P:Program)(nt:Nat)(all rest:List Oper)(Q:AQ)(s:AS):Prop:= ∀M N a w,Fits M N s nt a w->
 wpStill P all.toArray w (fun b=> ∃s',s'.h=s.h∧s'.nx=s.nx∧Fits M N s' nt b w∧Q .normal s') rest a
def waits(o:Oper)(i:Nat):Bool:=o.after.toList.any fun e=>Region.binds .any e&&YJ e.on i
def looks(all:List Oper)(o x:Oper):Bool:=match x.dst with
 |some d=>(o.looksAt all.toArray).contains d
 |none=>li
def ij:Nat->List Oper->Bool
 |_,[]=>lc
 |n,o::r=>(o.after.toList.all fun e=>!Region.binds .any e||YD e.on n)&&ij (n+1) r
structure Bs where
 M:Mem
 N:Nm
 n:Nat
 h:AH
 w:World
def Bs.ext(B:Bs)(M:Mem)(N:Nm)(s:AS)(w:World):Prop:=Ext B.M B.N (· <B.n) B.h B.w M N (· <s.nx) s.h w
def Sk(nt:Nat)(B:Bs)(Q:AQ):Exit->Act->World->Prop:=fun e u j=> ∃b d s',B.ext b d s' j∧Fits b d s' nt u j∧Q e s'
def aU(o:Oper):Bool:=match o.op with
 | .alloc _=>lc
 |_=>li
def sw(P:Program)(M:Mem)(N:Nm)(s:AS)(B:Bs)(a:Act)(w:World)(o:Oper)(aI:Nat):Prop:=
 ∃t v d,o.op= .alloc t∧(∀w,(zeroValue t).run P w= .ok v w)∧o.dst=jp d∧a.tmps[d]? =jp (.pointer (jp ⟨aI,0,kw⟩))∧w.heap[aI]? =jp (.cells v.cells t (0,0))∧M aI=kw∧
  (∀i o,s.h.get i=jp o->o.real=lc->N.aI i≠aI)∧B.w.heap.size<=aI
structure oK (P:Program) (nt:Nat) (all:List Oper) (todo pend:List (Nat×Oper)) (B:Bs) (M:Mem) (N:Nm) (s:AS) (listed:Array Bool) (a:Act) (w:World):Prop where
 size:listed.size=all.length
 tl: ∀x∈todo,all[x.1]? =jp x.2
 pl: ∀x∈pend,all[x.1]? =jp x.2
 dj: ∀x∈pend,∀y∈todo,y.1≠x.1
 JG: ∀i o,all[i]? =jp o->listed.getD i lc=li->(i,o)∈todo∨(i,o)∈pend
 pw:pend.Pairwise fun x y=>looks all y.2 x.2=li∧ ∀d,x.2.dst=jp d->y.2.dst≠jp d
 pp: ∀x∈pend,∀y∈pend,waits y.2 x.1=lc∨looks all y.2 x.2=li
 pa: ∀y∈pend,∀x∈todo,aU x.2=lc->waits y.2 x.1=li
 er: ∃bl:Nat->Nat,(∀x∈todo,listed.getD x.1 lc=lc->sw P M N s B a w x.2 (bl x.1))∧ ∀x∈todo,∀y∈todo,listed.getD x.1 lc=lc->listed.getD y.1 lc=lc->x.1≠y.1->bl x.1≠bl y.1
 ap: ∃b:Act,Fits M N s nt b w∧a.tmps.size=b.tmps.size∧a.defers=b.defers∧
  (∀d,(∀x∈pend,listed.getD x.1 lc=li->x.2.dst≠jp d)->(∀x∈todo,listed.getD x.1 lc=lc->x.2.dst≠jp d)->a.tmps[d]? =b.tmps[d]?)∧
  (∀x∈pend,listed.getD x.1 lc=li-> ∃v,YieldsAt P all.toArray w x.2 v b∧b.put x.2.dst v=b)
def kj(P:Program)(nt:Nat)(all:List Oper):Prop:= ∀i o,all[i]? =jp o->aU o=lc->
 o.guard=kw∧(∃d,o.dst=jp d∧d<nt)∧(∃t v,o.op= .alloc t∧ ∀w,(zeroValue t).run P w= .ok v w)∧(∀k,waits o k=li)∧
 ∀k q,all[k]? =jp q->k≠i->(waits q i=lc∨looks all q o=li)∧ ∀d,o.dst=jp d->q.dst≠jp d
def DL(P:Program)(nt:Nat)(all:List Oper)(todo pend:List (Nat×Oper))(Q:AQ)(s:AS):Prop:=
 Region.noSelect all.toArray=lc->ij 0 all=lc->kj P nt all-> ∀B M N listed a w b,B.ext M N s w->oK P nt all todo pend B M N s listed a w->listed.toList.count li<=b->wpAny P .any all.toArray (Sk nt B Q) b listed a w
def putDst(nt:Nat)(o:Oper)(p:PV)(s:AS):Option AS:=
 match o.dst with
 |none=>jp s
 |some d=>bif YD d nt then(match s with|⟨f,h,n⟩=>yr p fun b=>jp ⟨(d,b)::f,h,n⟩) else kw
theorem gP{nt:Nat}{o:Oper}{p:PV}{s s':AS}(h:putDst nt o p s=jp s')(hd:o.dst=kw):s'=s:=by
 simp only[putDst,hd,Yh]at h;exact h.symm
theorem gL{nt:Nat}{o:Oper}{p:PV}{s s':AS}(h:putDst nt o p s=jp s'){d:Nat}(hd:o.dst=jp d):d<nt∧s'={s with f:=(d,p)::s.f}:=by
 simp only[putDst,hd]at h;cases hb:YD d nt with
 |false=>simp[hb]at h
 |true=>
  obtain⟨f,hh,n⟩:=s;simp only[hb,cond_true,eO,Yh]at h;exact⟨Yd hb,h.symm⟩
def iL(P:Program)(nt:Nat)(all:List Oper)(s:AS)(o:Oper):Prop:=
 ∀M N b w,Fits M N s nt b w-> ∃v,YieldsAt P all.toArray w o v b∧Fits M N s nt (b.put o.dst v) w
def bg(pend:List (Nat×Oper))(o:Oper):List (Nat×Oper):=pend.filter fun x=>!waits o x.1
def UA(P:Program)(nt:Nat)(b:Code)(Q:AQ):Nat->AS->Prop
 |0,_=>False
 |n+1,s=>AW P nt b (fun e s'=>match e with| .normal=>UA P nt b Q n s'|e=>Q e s') s
inductive KI where
 |code (c:Code)
 |aI (id:Nat)
 |ops (all rest:List Oper)
 |lp (R:AS->Prop)
 |wz (all rest:List Oper)
 |cP (all:List Oper) (todo pend:List (Nat×Oper))
 |H5 (b:Code) (n:Nat)
 |JA
 |P2 (nt:Nat) (f:AF) (res:AS->Option PV) (o:Oper) (all rest:List Oper)
 |P3 (nt:Nat) (f:AF) (res:AS->Option PV) (j:Nat) (o:Oper) (all:List Oper) (todo pend:List (Nat×Oper))
def kp(P:Program):Nat->List KI->AQ->AQ
 |_,[],Q=>Q
 |nt,.code c::k,Q=>fun e s=>match e with| .normal=>AW P nt c (kp P nt k Q) s|e=>kp P nt k Q e s
 |nt,.ops all rest::k,Q=>fun e s=>match e with| .normal=>AL P nt all rest (kp P nt k Q) s|e=>kp P nt k Q e s
 |nt,.wz all rest::k,Q=>fun e s=>match e with| .normal=>SL P nt all rest (kp P nt k Q) s|e=>kp P nt k Q e s
 |nt,.cP all todo pend::k,Q=>fun e s=>match e with| .normal=>DL P nt all todo pend (kp P nt k Q) s|e=>kp P nt k Q e s
 |nt,.lp R::k,Q=>fun e s=>match e with| .normal=>R s|e=>kp P nt k Q e s
 |nt,.aI id::k,Q=>fun e s=>match e with| .exit j=>if j=id then kp P nt k Q .normal s else kp P nt k Q (.exit j) s|e=>kp P nt k Q e s
 |nt,.H5 b n::k,Q=>fun e s=>match e with| .normal=>UA P nt b (kp P nt k Q) n s|e=>kp P nt k Q e s
 |nt,.JA::k,Q=>fun e s=>match e with| .goto _=>False|e=>kp P nt k Q e s
 |_,.P2 nt f res o all rest::k,Q=>fun e s=>(e= .normal∨e= .ret)∧ ∃r s',res s=jp r∧putDst nt o r ⟨f,s.h,s.nx⟩=jp s'∧AL P nt all rest (kp P nt k Q) s'
 | _,.P3 nt f res j o all todo pend::k,Q=>fun e s=>(e= .normal∨e= .ret)∧ ∃r s',res s=jp r∧putDst nt o r ⟨f,s.h,s.nx⟩=jp s'∧
   (∀x∈bg pend o,iL P nt all s' x.2)∧DL P nt all (todo.filter fun x=>!YJ x.1 j) (bg pend o) (kp P nt k Q) s'
def GO(P:Program)(nt:Nat)(k:List KI)(Q:AQ)(s:AS):Prop:=kp P nt k Q .normal s
section
variable {P:Program} {nt:Nat} {Q:AQ} {k:List KI} {s:AS}
theorem AW.then{c:Code}{R:AQ}(h:AW P nt c R s){M:Mem}{N:Nm}{a:Act}{w:World}(hf:Fits M N s nt a w){Z:Exit->Act->World->Prop}
  (x: ∀e u b d j s',Ext M N (· <s.nx) s.h w d j (· <s'.nx) s'.h b->Fits d j s' nt u b->R e s'->Z e u b):c.wp P Z a w:=
 wp_mono (h M N a w hf) fun e u b ⟨d,j,s',h1,h2,h3⟩=>x e u b d j s' h1 h2 h3
theorem go_skip(h:GO P nt k Q s):GO P nt (.code .skip::k) Q s:=fun _ _ _ _ b=>wp_skip (.now b h)
theorem LR{l:Nat}(h:GO P nt k Q s):GO P nt (.code (.label l)::k) Q s:=fun _ _ _ _ b=>wp_label (.now b h)
theorem go_ret(h:kp P nt k Q .ret s):GO P nt (.code .ret::k) Q s:=fun _ _ _ _ b=>wp_ret (.now b h)
theorem PW{id:Nat}(h:kp P nt k Q (.exit id) s):GO P nt (.code (.exit id)::k) Q s:=fun _ _ _ _ b=>wp_exit (.now b h)
theorem LP{c:Code}(h:GO P nt (.code c:: .JA::k) Q s):GO P nt (.code (.scope c)::k) Q s:=by
 intro M N a w x;refine wp_scope_straight (AW.then h x fun e A B j u s' y b d=>?_);cases e with
 |goto l=>exact d
 |_=>exact⟨j,u,s',y,b,d⟩
theorem TG{id:Nat}(h:GO P nt k Q s):GO P nt (.aI id::k) Q s:=h
theorem TC{x y:Code}(h:GO P nt (.code x:: .code y::k) Q s):GO P nt (.code (.seq x y)::k) Q s:=by
 intro M N a w I;refine wp_seq (AW.then h I fun e S Y C F s' B b A=>?_);cases e with
 |normal=>exact AW.then A b fun e a2 w2 D G J u d j=>⟨D,G,J,B.trans u,d,j⟩
 |_=>exact⟨C,F,s',B,b,A⟩
theorem LW{id:Nat}{x:Code}(h:GO P nt (.code x:: .aI id::k) Q s):GO P nt (.code (.block id x)::k) Q s:=by
 intro M N a w C;refine wp_block (AW.then h C fun e D F u y s' B b d=>?_);cases e with
 |exit j=>
  simp only[kp]at d;simp only[Exit.inBlock];split
  .rename_i A;rw[am A]at d;exact⟨u,y,s',B,b,d⟩
  .rename_i A;rw[be A]at d;exact⟨u,y,s',B,b,d⟩
 |_=>exact⟨u,y,s',B,b,d⟩
theorem go_region{id:Nat}{ops:Array Oper}(h:GO P nt (.ops ops.toList ops.toList::k) Q s):GO P nt (.code (.region id ops li)::k) Q s:=by
 intro M N a w b;refine wp_region_list ?_;have:=h M N a w b;simpa using this
theorem F0{all:List Oper}(h:GO P nt k Q s):GO P nt (.ops all []::k) Q s:=fun _ _ _ _ b=>wpList_nil (pK.now b h)
theorem Fits.bool{M:Mem}{N:Nm}{a:Act}{w:World}(hf:Fits M N s nt a w){c:Operand}{t:Bool}(hc:ev s.f c= .iv (.v (.bool t))):a.eval c= .bool t:=by
 have h:=bf hf.2.1 c;rw[hc]at h;generalize a.eval c=v at h;cases h with
 |iv _ _ h=>cases h with
  |v=>rfl
theorem Fits.put{M:Mem}{N:Nm}{a:Act}{w:World}(hf:Fits M N s nt a w)(d:Nat)(p:PV)(x:Value)(hd:d<nt)(hp:VR M N (· <s.nx) p x):Fits M N {s with f:=(d,p)::s.f} nt (a.put (jp d) x) w:=
 ⟨hf.1,hf.2.1.put d p x (by rw[hf.2.2.2];exact hd) hp,hf.2.2.1,by simp[Act.put,hf.2.2.2]⟩
def setBool(s:AS)(c:Operand)(t:Bool):AS:=
 match c with
 | .tmp d=>match s with
  |⟨f,h,n⟩=>⟨(d,.kb t)::f,h,n⟩
 |_=>s
theorem Fits.setBool{M:Mem}{N:Nm}{a:Act}{w:World}(hf:Fits M N s nt a w){c:Operand}{t:Bool}(hc:ev s.f c= .iv (.v (.bool t))):Fits M N (setBool s c t) nt a w:=by
 cases c with
 |tmp d=>
  refine⟨hf.1,fun j=>?_,hf.2.2⟩;simp only[Al.setBool,AF.aw];split
  .rename_i b;subst b;have:=hf.bool (c:= .tmp j) hc;simp only[Act.eval]at this;rw[this];exact .kb _
  .exact hf.2.1 j
 |_=>exact hf
theorem yo{c:Operand}{x y:Code}{t:Bool}(hc:ev s.f c= .kb t)(h:GO P nt (.code (bif t then x else y)::k) Q s):GO P nt (.code (.cond c x y)::k) Q s:=by
 intro M N a w b;have hb:a.eval c= .bool t:=by
  have:=bf b.2.1 c;rw[hc]at this;generalize a.eval c=v at this;cases this;rfl
 refine wp_cond hb ?_;cases t
 .exact h M N a w b
 .exact h M N a w b
theorem PY{c:Operand}{x y:Code}{t:Bool}(hc:ev s.f c= .iv (.v (.bool t)))(h1:t=lc->GO P nt (.code x::k) Q (setBool s c lc))(h2:t=li->GO P nt (.code y::k) Q (setBool s c li)):
  GO P nt (.code (.cond c x y)::k) Q s:=by
 intro M N a w F;have u:=F.setBool hc;refine wp_cond_split (F.bool hc) (fun C=>?_) (fun C=>?_)
 .subst C;exact AW.then (h1 Z) u fun e a2 G A B D j b d=>⟨A,B,D,by cases c<;>exact j,b,d⟩
 .subst C;exact AW.then (h2 Z) u fun e a2 G A B D j b d=>⟨A,B,D,by cases c<;>exact j,b,d⟩
theorem um{Q b:Exit->Act->World->Prop}(d: ∀e a w,Q e a w->b e a w)(h:LetsOut Q):LetsOut b:=let ⟨a,w,x⟩:=h;⟨a,w,d _ _ _ x⟩
theorem DA{o:Oper}{a:Act}{w:World}{K K':Act->World->Prop}{Q j:Exit->Act->World->Prop}(h: ∀a w,K a w->K' a w)(d: ∀e a w,Q e a w->j e a w)(hh:o.wp P a w K Q):o.wp P a w K' j:=by
 unfold Oper.wp at*
 generalize(execOp a.eval o).run P w=r at*
 cases r with
 |ok n w'=>
  cases n<;>simp only[Oper.upon]at hh ⊢ <;>
   first
    |exact h _ _ hh
    |exact Calls.mono hh (fun e u b=>by cases e<;>first|exact h _ _ b|exact um d b|exact d _ _ _ b)
    |exact Rows.mono hh (fun _ _ b=>h _ _ b)
 |halt x w'=>cases x<;>simp only[Oper.upon]at hh ⊢ <;>exact d _ _ _ hh
theorem jz{ops:Array Oper}{Q j:Exit->Act->World->Prop}(b: ∀e a w,Q e a w->j e a w): ∀(l:List Oper) (a:Act) (w:World),wpList P ops Q l a w->wpList P ops j l a w
 | [],_,_,h=>b _ _ _ h
 |o::r,a,w,h=>by
  unfold wpList at*
  split
  .rename_i d;rw[am d]at h;exact h.imp (DA (jz b r) b) (fun⟨h1,h2⟩=>⟨h1,um b h2⟩)
  .rename_i d;rw[be d]at h;exact jz b r _ _ h
theorem AL.later{all rest:List Oper}(h:AL P nt all rest Q s){M b:Mem}{N d:Nm}{s0:AS}{a:Act}{w j:World}(x:Ext b d (· <s0.nx) s0.h j M N (· <s.nx) s.h w)(hf:Fits M N s nt a w):
  wpList P all.toArray (pK nt b d s0 j Q) rest a w:=
 jz (fun _ _ _=>pK.later x) rest a w (h M N a w hf)
def OT(P:Program)(nt:Nat)(o:Oper)(s:AS)(R:AS->Prop):Prop:=
 ∀M N a w,Fits M N s nt a w-> ∀(K:Act->World->Prop) (Q:Exit->Act->World->Prop),
  (∀d j s' u b,Ext M N (· <s.nx) s.h w d j (· <s'.nx) s'.h b->Fits d j s' nt u b->R s'->K u b)->o.wp P a w K Q
theorem jB{o:Oper}(h:o.guard=kw)(y:Nat->Option Bool):Region.wanted o y=lc:=by simp[Region.wanted,h]
theorem eH{all rest:List Oper}{o:Oper}{R:AS->Prop}(hg:o.guard=kw)(ho:OT P nt o s R)(h: ∀s',R s'->GO P nt (.ops all rest::k) Q s'):GO P nt (.ops all (o::rest)::k) Q s:=by
 intro M N a w d;unfold wpList;rw[am (jB hg _)];refine .inl (ho M N a w d _ _ fun x y s' A B u b j=>?_);exact AL.later (h s' j) u b
def guardOf(all:List Oper)(f:AF)(j:Nat):Option (Nat×PV):=
 match all[j]? with
 |some o=>match o.dst with
  |some d=>jp (d,f.get d)
  |none=>kw
 |none=>kw
theorem Fits.yielded{M:Mem}{N:Nm}{a:Act}{w:World}(hf:Fits M N s nt a w){all:List Oper}{j d:Nat}{t:Bool}(hg:guardOf all s.f j=jp (d,.iv (.v (.bool t))))(hd:d<nt):Go.yielded all.toArray a.tmps j=jp t:=by
 unfold guardOf at hg;cases ho:all[j]? with
 |none=>simp[ho]at hg
 |some o=>
  cases hod:o.dst with
  |none=>simp[ho,hod]at hg
  |some d'=>
   simp only[ho,hod,Yh,Yw]at hg;obtain⟨rfl,B⟩:=hg;have b:=hf.2.1 d';rw[B]at b;have u:d'<a.tmps.size:=by rw[hf.2.2.2];exact hd
   have x:a.tmps[d']? =jp (a.tmps.getD d' undef):=by simp[Yf,u]
   have y:a.tmps.getD d' undef= .bool t:=by
    generalize a.tmps.getD d' undef=v at b;cases b with
    |iv _ _ h=>cases h with
     |v=>rfl
   have A:all.toArray[j]? =jp o:=by simpa using ho
   simp[Go.yielded,A,hod,x,y]
def iM(o:Oper)(s:AS):AS:=
 match o.dst with
 |some e=>match s with
  |⟨f,h,n⟩=>⟨(e,.iv (.v (.tuple #[])))::f,h,n⟩
 |none=>s
theorem Fits.skip{M:Mem}{N:Nm}{a:Act}{w:World}(hf:Fits M N s nt a w)(o:Oper):Fits M N (iM o s) nt (a.put o.dst undef) w:=by
 unfold iM;cases o.dst with
 |none=>exact hf
 |some e=>
  refine⟨hf.1,fun i=>?_,hf.2.2.1,by simp[Act.put,hf.2.2.2]⟩;simp only[AF.aw];by_cases b:i=e
  .rw[am b];subst b;have:(a.put (jp i) undef).tmps.getD i undef=undef:=by
    simp only[Act.put,Yf,Y2,if_true];split<;>rfl
   rw[this];exact .iv _ _ (.v _)
  .rw[be b];have:=hf.2.1 i;simp only[Act.put,Yf,Y2]at this ⊢;rw[be (fun e=>b e.symm)];exact this
theorem jF(o:Oper)(s:AS):(iM o s).h=s.h∧(iM o s).nx=s.nx:=by unfold iM;cases o.dst<;>exact⟨rfl,rfl⟩
theorem lM(c:Operand)(t:Bool)(s:AS):(setBool s c t).h=s.h∧(setBool s c t).nx=s.nx:=by cases c<;>exact⟨rfl,rfl⟩
theorem AL.same{all rest:List Oper}{s':AS}(h:AL P nt all rest Q s')(e:s'.h=s.h∧s'.nx=s.nx){M:Mem}{N:Nm}{a:Act}{w:World}(hf:Fits M N s' nt a w):
  wpList P all.toArray (pK nt M N s w Q) rest a w:=by
 have:=h M N a w hf;refine jz (fun d b j ⟨M2,N2,s2,h1,h2,h3⟩=>⟨M2,N2,s2,?_,h2,h3⟩) rest a w this;rw[e.1,e.2]at h1;exact h1
theorem Fits.xm{M:Mem}{N:Nm}{a:Act}{w:World}(hf:Fits M N s nt a w){all:List Oper}{j d:Nat}{t:Bool}(hg:guardOf all s.f j=jp (d,.kb t))(hd:d<nt):Go.yielded all.toArray a.tmps j=jp t:=by
 unfold guardOf at hg;cases ho:all[j]? with
 |none=>simp[ho]at hg
 |some o=>
  cases hod:o.dst with
  |none=>simp[ho,hod]at hg
  |some d'=>
   simp only[ho,hod,Yh,Yw]at hg;obtain⟨rfl,B⟩:=hg;have b:=hf.2.1 d';rw[B]at b;have u:d'<a.tmps.size:=by rw[hf.2.2.2];exact hd
   have x:a.tmps[d']? =jp (a.tmps.getD d' undef):=by simp[Yf,u]
   have y:a.tmps.getD d' undef= .bool t:=by
    generalize a.tmps.getD d' undef=v at b;cases b;rfl
   have A:all.toArray[j]? =jp o:=by simpa using ho
   simp[Go.yielded,A,hod,x,y]
theorem Fits.xl{M:Mem}{N:Nm}{a:Act}{w:World}(hf:Fits M N s nt a w){all:List Oper}{j d:Nat}{vs:Array Value}(hg:guardOf all s.f j=jp (d,.iv (.v (.tuple vs)))):Go.yielded all.toArray a.tmps j=kw:=by
 unfold guardOf at hg;cases ho:all[j]? with
 |none=>simp[ho]at hg
 |some o=>
  cases hod:o.dst with
  |none=>simp[ho,hod]at hg
  |some d'=>
   simp only[ho,hod,Yh,Yw]at hg;obtain⟨rfl,y⟩:=hg;have u:=hf.2.1 d';rw[y]at u;have b:a.tmps.getD d' undef= .tuple vs:=by
    generalize a.tmps.getD d' undef=v at u;cases u with
    |iv _ _ h=>cases h with
     |v=>rfl
   have x:all.toArray[j]? =jp o:=by simpa using ho
   rw[Yf]at b;cases h5:a.tmps[d']? with
   |none=>simp[Go.yielded,x,hod,h5]
   |some v=>
    rw[h5]at b;simp only[ZG]at b;subst b;simp[Go.yielded,x,hod,h5]
theorem Ef{all rest:List Oper}{o:Oper}{j d:Nat}{want:Bool}{vs:Array Value}(hg:o.guard=jp (j,want))(y:guardOf all s.f j=jp (d,.iv (.v (.tuple vs))))(h:GO P nt (.ops all rest::k) Q (iM o s)):GO P nt (.ops all (o::rest)::k) Q s:=by
 intro M N a w u;have b:=u.xl y;unfold wpList;have x:Region.wanted o (Go.yielded all.toArray a.tmps)=li:=by simp[Region.wanted,hg,b]
 rw[x,be (by simp)];exact AL.same (s:=s) h (jF _ _) (u.skip o)
theorem Eg{all rest:List Oper}{o:Oper}{j d:Nat}{want t:Bool}(hg:o.guard=jp (j,want))(A:guardOf all s.f j=jp (d,.kb t))(hd:d<nt)
  (h:GO P nt (.ops all (bif t==want then{o with guard:=kw}::rest else rest)::k) Q (bif t==want then s else iM o s)):GO P nt (.ops all (o::rest)::k) Q s:=by
 intro M N a w x;have b:=x.xm A hd;unfold wpList;by_cases u:t=want
 .have y:Region.wanted o (Go.yielded all.toArray a.tmps)=lc:=by simp[Region.wanted,hg,b,u]
  have hb:(t==want)=lc:=by simp[u]
  rw[am y];rw[hb]at h;have:=h M N a w x;simp only[cond_true]at this;unfold wpList at this;rw[am (jB Z _)]at this;exact this
 .have y:Region.wanted o (Go.yielded all.toArray a.tmps)=li:=by simp[Region.wanted,hg,b,u]
  have hb:(t==want)=li:=by simp[u]
  rw[y,be (by simp)];rw[hb]at h;exact AL.same (s:=s) h (jF _ _) (x.skip o)
theorem LS{all rest:List Oper}{o:Oper}{j d:Nat}{want t:Bool}(hg:o.guard=jp (j,want))(u:guardOf all s.f j=jp (d,.iv (.v (.bool t))))(hd:d<nt)
  (h1:t=want->GO P nt (.ops all ({o with guard:=kw}::rest)::k) Q (setBool s (.tmp d) want)) (h2:t=!want->GO P nt (.ops all rest::k) Q (iM o (setBool s (.tmp d) (!want)))):
  GO P nt (.ops all (o::rest)::k) Q s:=by
 intro M N a w D;have y:=D.yielded u hd;have B:ev s.f (.tmp d)= .iv (.v (.bool t)):=by
  unfold guardOf at u;cases ho:all[j]? with
  |none=>simp[ho]at u
  |some o'=>
   cases hod:o'.dst with
   |none=>simp[ho,hod]at u
   |some d'=>
    simp only[ho,hod,Yh,Yw]at u;obtain⟨rfl,F⟩:=u;exact F
 have b:=D.setBool B;unfold wpList;by_cases A:t=want
 .have C:Region.wanted o (Go.yielded all.toArray a.tmps)=lc:=by simp[Region.wanted,hg,y,A]
  rw[am C];rw[A]at b;have:=AL.same (s:=s) (h1 A) (lM _ _ _) b;unfold wpList at this;rw[am (jB Z _)]at this;exact this
 .have C:Region.wanted o (Go.yielded all.toArray a.tmps)=li:=by simp[Region.wanted,hg,y,A]
  have x:t=!want:=by cases t<;>cases want<;>simp_all
  rw[C,be (by simp)];rw[x]at b;exact AL.same (s:=s) (h2 x) ⟨(jF _ _).1.trans (lM _ _ _).1,(jF _ _).2.trans (lM _ _ _).2⟩ (b.skip o)
end
section
variable {P:Program} {nt:Nat} {Q:AQ} {k:List KI} {s:AS}
theorem Rel.drew{M:Mem}{N:Nm}{U:Nat->Prop}{h:AH}{w:World}(hr:Rel M N U h w):Rel M N U h {w with drawn:=w.drawn+1}:=
 ⟨hr.dT,hr.used,hr.fk,fun i o b=>(hr.obj i o b).mono (.refl _) (.refl _ _) (fun _ h=>h) (hr.used i o b) Z,hr.inj⟩
theorem Fits.drew{M:Mem}{N:Nm}{a:Act}{w:World}(hf:Fits M N s nt a w):Fits M N s nt a {w with drawn:=w.drawn+1}:=⟨hf.1.drew,hf.2⟩
theorem Ext.drew{M:Mem}{N:Nm}{U:Nat->Prop}{h:AH}{w:World}:Ext M N U h w M N U h {w with drawn:=w.drawn+1}:=
 ⟨rfl,rfl,rfl,Ym _,fun _ _ _=>rfl,.refl _,fun b c j u=>by simp[j]at u,.refl _ _,fun _ h=>h,fun i o x d=> .inr ⟨i,o,x,d,rfl⟩⟩
end
section
variable {P:Program} {M:Mem} {N:Nm} {w:World} {n:Nat} {h:AH}
def Nm.with(N:Nm)(n b e:Nat):Nm:={aI:=fun i=>if i=n then b else N.aI i,ext:=fun i=>if i=n then e else N.ext i}
theorem Nm.gB(N:Nm)(n b e:Nat):N.agree (N.with n b e) (· <n):=
 ⟨fun i d=>by simp[Nm.with,abj d],fun i d=>by simp[Nm.with,abj d]⟩
@[simp] theorem Nm.JJ(N:Nm)(n b e:Nat):(N.with n b e).aI n=b:=by simp[Nm.with]
@[simp] theorem Nm.Uv(N:Nm)(n b e:Nat):(N.with n b e).ext n=e:=by simp[Nm.with]
theorem Rel.lt(hr:Rel M N (· <n) h w){i:Nat}{o:AO}(hi:h.get i=jp o)(b:o.real=lc):N.aI i<w.heap.size:=(hr.obj i o hi).lt b
theorem Rel.DE(hr:Rel M N (· <n) h w):M w.heap.size=kw:=by
 cases hm:M w.heap.size with
 |none=>rfl
 |some c=>have:=(hr.dT _ _ hm).lt;omega
theorem Rel.alloc(hr:Rel M N (· <n) h w)(obj:Obj)(o:AO)(e:Nat)(ho: ∀C,C.aI n=w.heap.size->C.ext n=e->N.agree C (· <n)->OR M C (· <n+1) (w.alloc obj) n o):
  ∃C,C.aI n=w.heap.size∧C.ext n=e∧N.agree C (· <n)∧Ext M N (· <n) h w M C (· <n+1) ((n,jp o)::h) (w.alloc obj)∧Rel M C (· <n+1) ((n,jp o)::h) (w.alloc obj):=by
 have D:=N.gB n w.heap.size e;have d: ∀i p,AH.get ((n,jp o)::h) i=jp p->(i=n∧p=o)∨(i<n∧h.get i=jp p):=by
  intro i p u;rw[AH.aw]at u;split at u
  .rename_i F;exact .inl ⟨F,by simpa using u.symm⟩
  .exact .inr ⟨hr.used i p u,u⟩
 refine⟨N.with n w.heap.size e,by simp,by simp,D,?_,?_⟩
 .refine⟨rfl,rfl,rfl,by simp,fun b hb _=>Cs w obj b hb,.refl _,fun b c B A=>by simp[B]at A,D,fun i u=>by omega,fun i p u x=>?_⟩;rcases d i p u with⟨rfl,rfl⟩|⟨B,A⟩
  .exact .inl (by simp)
  .exact .inr ⟨i,p,A,x,(D.aI i B).symm⟩
 .refine⟨fun b c hb=>?_,fun i p u=>?_,fun i p u x=>?_,fun i p u=>?_,fun i j p q u Y J S y=>?_⟩
  .exact(hr.dT b c hb).mono (Cs w obj b (hr.dT b c hb).lt)
  .rcases d i p u with⟨rfl,rfl⟩|⟨B,A⟩<;>omega
  .rcases d i p u with⟨rfl,rfl⟩|⟨B,A⟩
   .simpa using hr.DE
   .rw[D.aI i B];exact hr.fk i p A x
  .rcases d i p u with⟨rfl,rfl⟩|⟨B,A⟩
   .exact ho _ (by simp) (by simp) D
   .cases x:p.real with
    |true=>exact(hr.obj i p A).mono (.refl _) D (fun i u=>by omega) B (Cs w obj _ (hr.lt A x))
    |false=>
     cases p with
     |row sz es=>cases es with
      |nil=>exact .inl Z
      |cons=>cases x
     |bM l T=>cases l with
      |nil=>exact .inl Z
      |cons=>cases x
     |_=>cases x
  .rcases d i p u with⟨rfl,rfl⟩|⟨B,A⟩<;>rcases d j q Y with⟨rfl,rfl⟩|⟨G,I⟩
   .rfl
   .rw[D.aI j G]at y;simp at y;have:=hr.lt I S;omega
   .rw[D.aI i B]at y;simp at y;have:=hr.lt A J;omega
   .rw[D.aI i B,D.aI j G]at y;exact hr.inj i j p q A I J S y
theorem Rel.Nj(hr:Rel M N (· <n) h w)(sz:Nat):Ext M N (· <n) h w M N (· <n+1) ((n,jp (.row sz []))::h) w∧Rel M N (· <n+1) ((n,jp (.row sz []))::h) w:=by
 have d: ∀i p,AH.get ((n,jp (.row sz []))::h) i=jp p->(i=n∧p= .row sz [])∨(i<n∧h.get i=jp p):=by
  intro i p u;rw[AH.aw]at u;split at u
  .rename_i C;exact .inl ⟨C,by simpa using u.symm⟩
  .exact .inr ⟨hr.used i p u,u⟩
 refine⟨⟨rfl,rfl,rfl,Ym _,fun _ _ _=>rfl,.refl _,fun b c A y=>by simp[A]at y,.refl _ _,fun i u=>by omega,fun i p u x=>?_⟩,⟨hr.dT,fun i p u=>?_,fun i p u x=>?_,fun i p u=>?_,fun i j p q u I D F B=>?_⟩⟩
 .rcases d i p u with⟨rfl,rfl⟩|⟨A,y⟩
  .cases x
  .exact .inr ⟨i,p,y,x,rfl⟩
 .rcases d i p u with⟨rfl,rfl⟩|⟨A,y⟩<;>omega
 .rcases d i p u with⟨rfl,rfl⟩|⟨A,y⟩
  .cases x
  .exact hr.fk i p y x
 .rcases d i p u with⟨rfl,rfl⟩|⟨A,y⟩
  .exact .inl Z
  .exact(hr.obj i p y).mono (.refl _) (.refl _ _) (fun i u=>by omega) A Z
 .rcases d i p u with⟨rfl,rfl⟩|⟨A,y⟩<;>rcases d j q I with⟨rfl,rfl⟩|⟨J,G⟩
  .rfl
  .cases D
  .cases F
  .exact hr.inj i j p q y G D F B
theorem Rel.write(hr:Rel M N (· <n) h w){i:Nat}{o0:AO}(hi:h.get i=jp o0)(h0:o0.real=lc)(A:World)(o:AO)(Y:A.os=w.os)(F:A.tape=w.tape)(G:A.output=w.output)(a0:A.heap.size=w.heap.size)
  (I: ∀b,b≠N.aI i->A.heap[b]? =w.heap[b]?) (ho:OR M N (· <n) A i o):
  Ext M N (· <n) h w M N (· <n) ((i,jp o)::h) A∧Rel M N (· <n) ((i,jp o)::h) A:=by
 have d: ∀j p,AH.get ((i,jp o)::h) j=jp p->(j=i∧p=o)∨(j≠i∧h.get j=jp p):=by
  intro j p y;rw[AH.aw]at y;split at y
  .rename_i C;exact .inl ⟨C,by simpa using y.symm⟩
  .rename_i C;exact .inr ⟨C,y⟩
 refine⟨⟨Y,F,G,by omega,fun b hb hn=>I b (fun e=>hn i o0 hi h0 e.symm),.refl _,fun b c B x=>by simp[B]at x,.refl _ _,fun _ h=>h,fun j p y u=>?_⟩,?_⟩
 .rcases d j p y with⟨rfl,rfl⟩|⟨B,x⟩
  .exact .inr ⟨j,o0,hi,h0,rfl⟩
  .exact .inr ⟨j,p,x,u,rfl⟩
 .refine⟨fun b c hb=>?_,fun j p y=>?_,fun j p y u=>?_,fun j p y=>?_,fun j k p q y J hp hq D=>?_⟩
  .have S:b≠N.aI i:=fun e=>by
    have:=hr.fk i o0 hi h0;rw[<-e,hb]at this;simp at this
   exact(hr.dT b c hb).mono (I b S)
  .rcases d j p y with⟨rfl,rfl⟩|⟨B,x⟩
   .exact hr.used j o0 hi
   .exact hr.used j p x
  .rcases d j p y with⟨rfl,rfl⟩|⟨B,x⟩
   .exact hr.fk j o0 hi h0
   .exact hr.fk j p x u
  .rcases d j p y with⟨rfl,rfl⟩|⟨B,x⟩
   .exact ho
   .cases u:p.real with
    |true=>exact(hr.obj j p x).mono (.refl _) (.refl _ _) (fun _ h=>h) (hr.used j p x) (I _ (fun e=>B (hr.inj j i p o0 x hi u h0 e)))
    |false=>
     cases p with
     |row sz es=>cases es with
      |nil=>exact .inl Z
      |cons=>cases u
     |bM l T=>cases l with
      |nil=>exact .inl Z
      |cons=>cases u
     |_=>cases u
  .rcases d j p y with⟨rfl,rfl⟩|⟨B,x⟩<;>rcases d k q J with⟨rfl,rfl⟩|⟨h3,h4⟩
   .rfl
   .exact hr.inj _ _ _ _ hi h4 h0 hq D
   .exact hr.inj _ _ _ _ x hi hp h0 D
   .exact hr.inj _ _ _ _ x h4 hp hq D
end
def Fc(ty:Ty)(s:AS)(t:TypeId)(p x:PV):Option AS:=
 match ty t with
 |some e=>match x.cells with
  |some xs=>match YJ xs.length e.size,jw xs with
   |true,lc=>match p with
    | .ptr i off=>match s.h.get i with
     |some (.cells cs T0)=>match aaf (off+xs.length) cs.length with
      |true=>match s with
       |⟨f,h,n⟩=>force (setCells cs off xs) fun b=>jp ⟨f,(i,jp (.cells b T0))::h,n⟩
      |false=>kw
     |_=>kw
    |_=>kw
   |_,_=>kw
  |none=>kw
 |none=>kw
def newObj(s:AS)(o:AO):AS:=match s with|⟨f,h,n⟩=>⟨f,(n,jp o)::h,n+1⟩
def nw(s:AS)(g:Nat->PV)(o:AO):Option (PV×AS):=match s with|⟨f,h,n⟩=>jp (g n,⟨f,(n,jp o)::h,n+1⟩)
theorem xO(s:AS)(g:Nat->PV)(o:AO):nw s g o=jp (g s.nx,newObj s o):=by cases s;rfl
def BD:Nat->List PV->List PV
 |0,_=> []
 |n+1,l=>l++BD n l
theorem nv: ∀(n:Nat) (l:List PV),(BD n l).length=n*l.length
 |0,l=>by simp[BD]
 |n+1,l=>by simp[BD,nv n l,aav,Nat.add_comm]
theorem Dh: ∀(n:Nat) (l:List PV) (j:Nat) (p:PV),(BD n l)[j]? =jp p->l[j % l.length]? =jp p
 |0,l,j,p,h=>by simp[BD]at h
 |n+1,l,j,p,h=>by
  simp only[BD]at h;rcases Zj j l.length with hj|hj
  .rw[YA hj]at h;rw[Nat.mod_eq_of_lt hj];exact h
  .rw[YF hj]at h;have:=Dh n l _ p h;rwa[Nat.mod_eq_sub_mod hj]
def pq(sz:Nat):Nat->List PV->List (List PV)
 |0,_=> []
 |n+1,cs=>cs.take sz::pq sz n (cs.drop sz)
def Ck{α:Type _}(sz:Nat):Nat->List PV->(List (List PV)->α)->α
 |0,_,k=>k []
 |n+1,cs,k=>force (cs.take sz) fun c=>force (cs.drop sz) fun d=>Ck sz n d fun r=>k (c::r)
theorem A1{α:Type _}(sz:Nat): ∀(n:Nat) (cs:List PV) (k:List (List PV)->α),Ck sz n cs k=k (pq sz n cs)
 |0,_,_=>rfl
 |n+1,cs,k=>by simp only[Ck,force_eq,A1 sz n,pq]
theorem sr(sz:Nat): ∀(n:Nat) (cs:List PV),(pq sz n cs).length=n
 |0,_=>rfl
 |n+1,cs=>by simp[pq,sr sz n]
theorem po(sz:Nat): ∀(n:Nat) (cs:List PV) (k:Nat) (e:List PV),cs.length=n*sz->(pq sz n cs)[k]? =jp e->e.length=sz∧ ∀j,j<sz->e[j]? =cs[k*sz+j]?
 |0,cs,k,e,_,h=>by simp[pq]at h
 |n+1,cs,k,e,hl,h=>by
  simp only[pq]at h;rw[aav]at hl;cases k with
  |zero=>
   simp at h;subst h;refine⟨by simp;omega,fun j b=>by simp[b]⟩
  |succ k=>
   obtain⟨d,u⟩:=po sz n (cs.drop sz) k e (by simp;omega) (by simpa using h);refine⟨d,fun j b=>?_⟩;rw[u j b,Zw,aav];congr 1;omega
def RV(ty:Ty)(e:cO):Bool:=
 match e.k with
 | .dL ((0,u)::_)=>match ty u with
  |some ⟨.dL ((0,q)::_),_,_,_,_⟩=>match ty q with
   |some ⟨.bb (.pointer v),_,_,_,_⟩=>YJ u v
   |_=>li
  |_=>li
 |_=>li
def Vd(ty:Ty)(t:TypeId):Bool:=
 match ty t with
 |some e=>RV ty e
 |none=>li
def JD(ty:Ty)(s:AS):Op->Option (PV×AS)
 | .alloc t=>match ty t with
  |some e=>match RV ty e with
   |true=>force (c4 e.zero) fun b=>nw s (fun n=> .ptr n 0) (.cells b (jp t))
   |false=>force (c4 e.zero) fun b=>nw s (fun n=> .ptr n 0) (.cells b)
  |none=>kw
 | .box t x=>match(ev s.f x).cells with
  |some b=>match jw b with
   |true=>match Vd ty t with
    |true=>force b fun d=>nw s (fun n=> .ptr n 0) (.cells d (jp t))
    |false=>force b fun d=>nw s (fun n=> .ptr n 0) (.cells d)
   |false=>kw
  |none=>kw
 | .store t a x=>match Fc ty s t (ev s.f a) (ev s.f x) with
  |some s'=>jp (.any,s')
  |none=>kw
 | .makeMap _ kw=>nw s (fun n=> .mp n) .gn
 | .makeMap t (jp r)=>match ev s.f r,ty t with
  | .iv (.v (.int _ _)),jp ⟨.bb (.map _ _),_,_,_,_⟩=>nw s (fun n=> .mp n) .gn
  |_,_=>kw
 | .range t x=>match ev s.f x,ty t with
  | .iv (.fF kc e _ _ m),jp ⟨.bb (.map _ _),_,_,_,_⟩=>nw s (fun n=> .ptr n 0) (.b3 kc e m [] kw)
  |_,_=>kw
 | .buildSlice t len parts=>match ty t with
  |some e=>match e.k with
   | .bb (.slice u)=>match ty u with
    |some eu=>match YJ eu.zero.cells.size eu.size,YD 0 (len*eu.size),aaf (len*eu.size) 16777216 with
     |true,lc,lc=>match sk (fun i=>jp (i*eu.size,eu.size)) (BD len (c4 eu.zero)) (parts.toList.map fun x=>(x.1,ev s.f x.2)) with
      |some b=>Ck eu.size len b fun es=>nw s (fun n=> .sl n 0 len eu.size) (.row eu.size es)
      |none=>kw
     |_,_,_=>kw
    |none=>kw
   |_=>kw
  |none=>kw
 |_=>kw
section
variable {P:Program} {ty:Ty} {nt:Nat} {s:AS}
theorem fg{M:Mem}{N:Nm}{a:Act}{w:World}(hf:Fits M N s nt a w){obj:Obj}{o:AO}{b:Nm}(d:Ext M N (· <s.nx) s.h w M b (· <s.nx+1) ((s.nx,jp o)::s.h) (w.alloc obj))
  (hr:Rel M b (· <s.nx+1) ((s.nx,jp o)::s.h) (w.alloc obj)):Fits M b (newObj s o) nt a (w.alloc obj):=
 ⟨hr,hf.2.1.ext d,hf.2.2⟩
theorem OT.value{o:Oper}{s1 s':AS}{p:PV}(hp:putDst nt o p s1=jp s')
  (h: ∀M N a w,Fits M N s nt a w-> ∃x u b j,(execOp a.eval o).run P w= .ok (.value x) u∧Ext M N (· <s.nx) s.h w b j (· <s1.nx) s1.h u∧Fits b j s1 nt a u∧VR b j (· <s1.nx) p x):OT P nt o s (fun t=>t=s'):=by
 intro M N a w D K Z B;obtain⟨x,u,b,j,G,A,y,F⟩:=h M N a w D;unfold Oper.wp;rw[G];simp only[Oper.upon];cases hd:o.dst with
 |none=>
  have:=gP hp hd;subst this;exact B b j s' _ u A y rfl
 |some d=>
  obtain⟨C,rfl⟩:=gL hp hd;exact B b j {s1 with f:=(d,p)::s1.f} _ u A (y.put d p x C F) rfl
theorem OT.skip{o:Oper}{s1 s':AS}(hp:putDst nt o .any s1=jp s')
  (h: ∀M N a w,Fits M N s nt a w-> ∃b j u,(execOp a.eval o).run P w= .ok .skip b∧Ext M N (· <s.nx) s.h w j u (· <s1.nx) s1.h b∧Fits j u s1 nt a b):OT P nt o s (fun t=>t=s'):=by
 intro M N a w C K Z A;obtain⟨b,j,u,D,y,x⟩:=h M N a w C;unfold Oper.wp;rw[D];simp only[Oper.upon];cases hd:o.dst with
 |none=>
  have:=gP hp hd;subst this;exact A j u s' _ b y x rfl
 |some d=>
  obtain⟨B,rfl⟩:=gL hp hd;exact A j u {s1 with f:=(d,.any)::s1.f} _ b y (x.put d .any undef B (.any _)) rfl
theorem Ig(f0:cC P ty){t:TypeId}{p x:PV}{s1:AS}(h:Fc ty s t p x=jp s1){M:Mem}{N:Nm}{a:Act}{w:World}(hf:Fits M N s nt a w){u y:Value}(hu:VR M N (· <s.nx) p u)(hy:VR M N (· <s.nx) x y):
  ∃w',(Instr.storeAt t u y).run P w= .ok () w'∧Ext M N (· <s.nx) s.h w M N (· <s1.nx) s1.h w'∧Fits M N s1 nt a w':=by
 unfold Fc at h;split at h
 .rename_i e he;split at h
  .rename_i B i0;split at h
   .rename_i h1 h2;split at h
    .rename_i i a0;split at h
     .rename_i cs T0 d;split at h
      .rename_i c0;obtain⟨sf,sh,sn⟩:=s;simp only[force_eq,Yh]at h;subst h;simp only at d;cases hu with
       |ptr _ _ hU=>
        obtain⟨hl,hv⟩:=qN hy i0;have e0:y.cells.size=e.size:=by rw[<-hl];exact YE h1
        obtain⟨c,T,g1,g2,g3,g4,g5⟩:=hf.1.obj i _ d;have d0:a0+B.length<=c.size:=by rw[<-g3];exact Yd c0
        have G: ∀v∈y.cells.toList,v.oneCell'=lc:=by
         intro v g0;obtain⟨j,hj⟩:=Y9 g0;have C:j<y.cells.toList.length:=(Yj.1 hj).1;have D:B[j]? =jp (B[j]'(by simp at C;omega)):=Yi _;have:=(hv j _ D).one (oI h2 j _ D);rw[Yf]at this;have b0:y.cells[j]? =jp v:=by simpa using hj
         rw[b0]at this;exact this
        have J:=run_storeCells_at P (N.aI i) a0 T y.cells.toList 0 c w g1 (by simp;omega) G;refine⟨w.setRow (N.aI i) (c.toList.take (a0+0)++y.cells.toList++c.toList.drop (a0+0+y.cells.toList.length)).toArray,?_,?_⟩
        .have A:=cy (w:=w) (f0 t e he);simp only[Instr.storeAt,Instr.sureAddr,pure_bind,storeVar,Sem.run_bind,A,Result.andThen_ok,e0,ne_eq,not_true_eq_false,if_false,J]
        .have I:=setRow_heap w (N.aI i) c (c.toList.take (a0+0)++y.cells.toList++c.toList.drop (a0+0+y.cells.toList.length)).toArray T (0,0) g1;have F: ∀b,b≠N.aI i->(w.setRow (N.aI i) (c.toList.take (a0+0)++y.cells.toList++c.toList.drop (a0+0+y.cells.toList.length)).toArray).heap[b]? =w.heap[b]? :=by
          intro b hb;simp only[World.setRow,Za];rw[be (fun e=>hb e.symm)]
         have:=hf.1.write d Z (w.setRow (N.aI i) (c.toList.take (a0+0)++y.cells.toList++c.toList.drop (a0+0+y.cells.toList.length)).toArray) (.cells (setCells cs a0 B) T0) Z Z Z (by simp) F
          ⟨_,T,I,by simp;omega,by rw[fY];simp;omega,fun j q hq=>?_,g5⟩
         .exact⟨this.1,this.2,hf.2.1,hf.2.2⟩
         .rcases lL cs a0 B j q hq with⟨k1,S⟩|⟨k1,S⟩
          .have:=hv _ _ S;have C:j-a0<B.length:=(Yj.1 S).1;rw[Yf]at this ⊢;have Y:(c.toList.take (a0+0)++y.cells.toList++c.toList.drop (a0+0+y.cells.toList.length)).toArray[j]? =y.cells[j-a0]? :=by
            simp only[ZB];rw[YA (by simp;omega),YF (by simp;omega)];simp only[YV,Array.length_toList,Zn];congr 1;omega
           rw[Y];exact this
          .have:=g4 _ _ S;rw[Yf]at this ⊢;have Y:(c.toList.take (a0+0)++y.cells.toList++c.toList.drop (a0+0+y.cells.toList.length)).toArray[j]? =c[j]? :=by
            simp only[ZB];rcases k1 with k1|k1
            .rw[Yu,YA (by simp;omega),Zi,am (by omega),Zn]
            .rw[YF (by simp;omega),Zw,Zn];congr 1;simp;omega
           rw[Y];exact this
      .cases h
     .cases h
    .cases h
   .cases h
  .cases h
 .cases h
theorem FF(D:cC P ty){o:Oper}{p:PV}{s1 s':AS}(h:JD ty s o.op=jp (p,s1))(hp:putDst nt o p s1=jp s'):OT P nt o s (fun t=>t=s'):=by
 cases ho:o.op with
 |alloc t=>
  rw[ho]at h;simp only[JD,xO]at h;split at h
  .rename_i e he;obtain⟨J,e0,h⟩: ∃J,CM J t∧jp (PV.ptr s.nx 0,newObj s (.cells (c4 e.zero) J))=jp (p,s1):=by
    split at h
    .exact⟨jp t,fun x I=>by cases I;rfl,by rw[<-h,force_eq]⟩
    .exact⟨kw,.none _,by rw[<-h,force_eq]⟩
   simp only[Yh,Yw]at h;obtain⟨rfl,rfl⟩:=h;refine OT.value hp fun M N a w B=>?_
   obtain⟨A,F,h2,h3,C,G⟩:=B.1.alloc (.cells e.zero.cells t) (.cells (c4 e.zero) J) e.zero.cells.size (fun A g1 g2 g3=>
    ⟨e.zero.cells,t,by rw[g1];exact heap_alloc_new w _,g2.symm,(gj (M:=M) (N:=A) (U:=(· <s.nx+1)) e.zero).1,(gj e.zero).2,e0⟩)
   refine⟨.pointer (jp ⟨w.heap.size,0,kw⟩),_,M,A,?_,C,fg B C G,?_⟩
   .simp only[execOp,ho];have hz:=eA (w:=w) (D t e he);simp[Instr.alloc,hz,newVar,newRow]
   .have:=VR.ptr (M:=M) (N:=A) (U:=(· <s.nx+1)) s.nx 0 (by omega);rw[F]at this;exact this
  .cases h
 |box t x=>
  rw[ho]at h;simp only[JD,xO]at h;split at h
  .rename_i cs Y;split at h
   .rename_i y0;obtain⟨J,e0,h⟩: ∃J,CM J t∧jp (PV.ptr s.nx 0,newObj s (.cells cs J))=jp (p,s1):=by
     split at h
     .exact⟨jp t,fun x I=>by cases I;rfl,by rw[<-h,force_eq]⟩
     .exact⟨kw,.none _,by rw[<-h,force_eq]⟩
    simp only[Yh,Yw]at h;obtain⟨rfl,rfl⟩:=h;refine OT.value hp fun M N a w B=>?_;obtain⟨hl,hv⟩:=qN (bf B.2.1 x) Y
    obtain⟨A,F,h2,h3,C,G⟩:=B.1.alloc (.cells (a.eval x).cells t) (.cells cs J) (a.eval x).cells.size (fun A g1 g2 g3=>
     ⟨(a.eval x).cells,t,by rw[g1];exact heap_alloc_new w _,g2.symm,hl,fun j q hq=>(hv j q hq).mono (.refl _) g3 (fun i hi=>by omega),e0⟩)
    refine⟨.pointer (jp ⟨w.heap.size,0,kw⟩),_,M,A,?_,C,fg B C G,?_⟩
    .simp only[execOp,ho];simp[Instr.box,newVar,newRow]
    .have:=VR.ptr (M:=M) (N:=A) (U:=(· <s.nx+1)) s.nx 0 (by omega);rw[F]at this;exact this
   .cases h
  .cases h
 |store t a x=>
  rw[ho]at h;simp only[JD,xO]at h;split at h
  .rename_i s2 hs;simp only[Yh,Yw]at h;obtain⟨rfl,rfl⟩:=h;refine OT.skip hp fun M N b w B=>?_;obtain⟨w',F,h2,h3⟩:=Ig (P:=P) D hs B (bf B.2.1 a) (bf B.2.1 x);refine⟨w',M,N,?_,h2,h3⟩;simp only[execOp,ho];simp[F]
  .cases h
 |makeMap t r=>
  rw[ho]at h;cases r with
  |some r=>
   simp only[JD,xO]at h;split at h
   .rename_i q n _ _ _ _ _ _ hr he;have hu:=(D _ _ he).2.1.1;simp only[Yh,Yw]at h;obtain⟨rfl,rfl⟩:=h;refine OT.value hp fun M N a w B=>?_
    obtain⟨A,F,h2,h3,C,G⟩:=B.1.alloc (.map #[] 0) .gn 0 (fun A g1 g2 g3=>
     (by rw[g1];exact heap_alloc_new w _:(w.alloc (.map #[] 0)).heap[A.aI s.nx]? =_))
    have f0:=bf B.2.1 r;rw[hr]at f0;have z0:a.eval r= .int q n:=by
     generalize a.eval r=y at f0;cases f0 with
     |iv _ _ h=>cases h;rfl
    refine⟨.map (jp w.heap.size),_,M,A,?_,C,fg B C G,?_⟩
    .simp only[execOp,ho];simp[Instr.makeMap,z0,run_underlying hu,asInt,asIntOf]
    .have:=VR.mp (M:=M) (N:=A) (U:=(· <s.nx+1)) s.nx (by omega);rw[F]at this;exact this
   .cases h
  |none=>
   simp only[JD,xO,Yh,Yw]at h;obtain⟨rfl,rfl⟩:=h;refine OT.value hp fun M N a w B=>?_
   obtain⟨A,F,h2,h3,C,G⟩:=B.1.alloc (.map #[] 0) .gn 0 (fun A g1 g2 g3=>
    (by rw[g1];exact heap_alloc_new w _:(w.alloc (.map #[] 0)).heap[A.aI s.nx]? =_))
   refine⟨.map (jp w.heap.size),_,M,A,?_,C,fg B C G,?_⟩
   .simp only[execOp,ho];simp[Instr.makeMap]
   .have:=VR.mp (M:=M) (N:=A) (U:=(· <s.nx+1)) s.nx (by omega);rw[F]at this;exact this
 |range t x=>
  rw[ho]at h;simp only[JD,xO]at h;split at h
  .rename_i V kc e z zv m kt et _ _ _ _ r0 he;have hu:=(D _ _ he).2.1.1;simp only[Yh,Yw]at h;obtain⟨rfl,rfl⟩:=h;refine OT.value hp fun M N a w B=>?_;have I:=bf B.2.1 x;rw[r0]at I;generalize hv:a.eval x=y at I
   cases I with
   |iv _ _ hi=>cases hi with
    |fF _ _ _ _ _ b ents clock hb hs hk hv' hz hi' hc=>
     obtain⟨A,F,h2,h3,C,G⟩:=B.1.alloc (.mapIter (jp b) clock #[] clock) (.b3 kc e m [] kw) 0 (fun A g1 g2 g3=>
      .inr ⟨b,ents,clock, #[],by rw[g1];exact heap_alloc_new w _,hb,⟨hs,hk,hv',hi',hc⟩,rfl,by simp,Zd,by simp⟩)
     have a0:w.heap[b]? =jp (.map ents clock):=B.1.dT _ _ hb;refine⟨.pointer (jp ⟨w.heap.size,0,kw⟩),_,M,A,?_,C,fg B C G,?_⟩
     .simp only[execOp,ho,hv];simp[Instr.range,run_underlying hu,getObj,Sem.run,a0,Result.andThen]
     .have:=VR.ptr (M:=M) (N:=A) (U:=(· <s.nx+1)) s.nx 0 (by omega);rw[F]at this;exact this
  .cases h
 |buildSlice t len parts=>
  rw[ho]at h;simp only[JD,xO]at h;split at h
  .rename_i e he;split at h
   .rename_i u hk;split at h
    .rename_i d j0;split at h
     .rename_i o0 p0 q0;split at h
      .rename_i cs Y;rw[A1]at h;simp only[Yh,Yw]at h;obtain⟨rfl,rfl⟩:=h;have i0:d.zero.cells.size=d.size:=YE o0;have m0:0<len*d.size:=Yd p0;have e1:len*d.size<=16777216:=Yd q0;have g0:0<d.size:=Nat.pos_of_ne_zero fun e=>by simp[e]at m0
       have v0:0<len:=Nat.pos_of_ne_zero fun e=>by simp[e]at m0
       have d1:len<=len*d.size:=Nat.le_mul_of_pos_right _ g0;have b0:=(D t e he).2.1;rw[hk]at b0;refine OT.value hp fun M N a w B=>?_;have c0:(c4 d.zero).length=d.size:=by rw[(gj (M:=M) (N:=N) (U:=(· <s.nx)) d.zero).1,i0]
       obtain⟨d0,h3,C⟩:=uC (M:=M) (N:=N) (U:=(· <s.nx)) (vals:=(parts.map fun x=>(x.1,a.eval x.2)).toList) (ys:=(abv (len*d.size)).map (d.zero.cells[· % d.zero.cells.size]!)) Y (by simp) (fun j x y I hy=>by
        rw[Yo,Yq]at I;obtain⟨z,hz,rfl⟩:=I;have b1:parts[j]? =jp z:=by simpa using hz
        have:jp (z.1,a.eval z.2)=jp y:=by rw[<-hy];simp[b1]
        simp only[Yh]at this;subst this
        exact⟨rfl,bf B.2.1 z.2⟩) (by
        refine⟨by rw[nv,c0];simp,fun j p hj=>?_⟩;have G:=Dh _ _ _ _ hj;have s0:j<len*d.size:=by
         have:=(Yj.1 hj).1;rwa[nv,c0]at this
        rw[c0]at G;have h6:=(gj (M:=M) (N:=N) (U:=(· <s.nx)) d.zero).2 _ _ G;have h7:((abv (len*d.size)).map (d.zero.cells[· % d.zero.cells.size]!)).getD j undef=d.zero.cells.getD (j % d.size) undef:=by
         have hm:j % d.size<d.zero.cells.size:=by rw[i0];exact Nat.mod_lt _ g0
         have I:(abv (len*d.size))[j]? =jp j:=by simp[s0]
         rw[Yf,aaD,I];simp only[Zg,ZG,i0];rw[Yf,getElem!_pos d.zero.cells (j % d.size) hm,Zb hm];rfl
        rw[h7];exact h6)
       have S:cs.length=len*d.size:=by
        have:(BD len (c4 d.zero)).length=cs.length:=by
         have:=uD Y;exact this.symm
        rw[<-this,nv,c0]
       have k0:d0.size=len*d.size:=by rw[<-C.1,S]
       obtain⟨A,F,h2,h8,h9,n0⟩:=B.1.alloc (.cells d0 u) (.row d.size (pq d.size len cs)) d0.size (fun A g1 g2 g3=>
        .inr ⟨g0,d0,u,by rw[g1];exact heap_alloc_new w _,g2.symm,by rw[sr,k0];exact Ym _,fun k e hk=>(po _ _ _ _ _ S hk).1,fun k e j p hk hj=>by
         have t0:j<d.size:=by rw[<-(po _ _ _ _ _ S hk).1];exact(Yj.1 hj).1
         have:=(po _ _ _ _ _ S hk).2 j t0;rw[hj]at this
         exact(C.2 _ _ this.symm).mono (.refl _) g3 (fun i hi=>by omega)⟩)
       refine⟨.slice (jp ⟨w.heap.size,0,kw⟩) len len,_,M,A,?_,h9,fg B h9 n0,?_⟩
       .simp only[execOp,ho];have hz:=eA (w:=w) (D u d j0);have a1:=cy (w:=w) (D u d j0);have w0: ¬len*d.size=0:=by omega
        have x0: ¬len*d.size>2 ^ 24:=by omega
        simp only[Instr.buildSlice,Sem.run_bind,run_underlying b0.1,Result.andThen_ok,a1,be x0,be w0,hz,Sem.run_pure];rw[h3];simp[newRow]
       .have:=VR.sl (M:=M) (N:=A) (U:=(· <s.nx+1)) s.nx 0 len d.size len (by omega) v0 (Ym _) (by simp only[maxLen];omega) (by rw[h2,k0];simp);rw[F,aas]at this;exact this
      .cases h
     .cases h
    .cases h
   .cases h
  .cases h
 |_=>rw[ho]at h;simp[JD]at h
end
mutual
def PV.c6(σ:Nat->Nat):PV->PV
 | .iv x=> .iv x
 | .agg cs=> .agg (dZ σ cs)
 | .bX cs=> .bX (dZ σ cs)
 | .ptr i off=> .ptr (σ i) off
 | .dJ i sz k off=> .dJ (σ i) sz k off
 | .fE z i=> .fE z (σ i)
 | .sl i off len sz=> .sl (σ i) off len sz
 | .mp i=> .mp (σ i)
 | .dx fn first caps=> .dx fn (dZ σ first) (dZ σ caps)
 | .kb b=> .kb b
 | .any=> .any
def dZ(σ:Nat->Nat):List PV->List PV
 | []=> []
 |p::r=>PV.c6 σ p::dZ σ r
end
theorem cD(σ:Nat->Nat): ∀l:List PV,dZ σ l=l.map (PV.c6 σ)
 | []=>rfl
 |p::r=>by simp[dZ,cD σ r]
def AO.c6(σ:Nat->Nat):AO->AO
 | .cells cs T=> .cells (dZ σ cs) T
 | .row sz es=> .row sz (es.map (dZ σ))
 | .bM l T=> .bM l T
 | .gn=> .gn
 | .map kc ev z zv dv m=> .map kc ev z zv dv m
 | .b3 kc ev m l cu=> .b3 kc ev m l cu
 | .eT s p=> .eT s p
theorem AO.cS(σ:Nat->Nat)(o:AO):(o.c6 σ).real=o.real:=by
 cases o with
 |row sz es=>cases es<;>rfl
 |bM l T=>cases l<;>rfl
 |_=>rfl
def sX(σ:Nat->Nat):AH->AH
 | []=> []
 |(i,kw)::r=>(σ i,kw)::sX σ r
 |(i,jp o)::r=>(σ i,jp (o.c6 σ))::sX σ r
def Nm.comp(N:Nm)(σ:Nat->Nat):Nm:={aI:=fun i=>N.aI (σ i),ext:=fun i=>N.ext (σ i)}
section
variable {M:Mem} {N:Nm} {U:Nat->Prop} {σ:Nat->Nat}
theorem VR.c6{p:PV}{x:Value}(h:VR M (N.comp σ) (fun i=>U (σ i)) p x):VR M N U (p.c6 σ) x:=by
 induction h with
 |iv x y h=>exact .iv x y h
 |agg cs ys hl hr ih=>
  refine .agg _ _ (by simpa[cD]using hl) (fun j p d=>?_);rw[cD,Yo,Yq]at d;obtain⟨q,u,rfl⟩:=d;exact ih j q u
 |bX cs ys hl hr ih=>
  refine .bX _ _ (by simpa[cD]using hl) (fun j p d=>?_);rw[cD,Yo,Yq]at d;obtain⟨q,u,rfl⟩:=d;exact ih j q u
 |ptr i off h=>exact .ptr _ _ h
 |dJ i sz k off h=>exact .dJ _ _ _ _ h
 |fE z i h=>exact .fE _ _ h
 |sl i off len sz cap h h0 hl hc he=>exact .sl _ _ _ _ _ h h0 hl hc he
 |pQ i sz h=>exact .pQ _ _ h
 |sle i sz cap h hc he=>exact .sle _ _ _ h hc he
 |mp i h=>exact .mp _ h
 |dx fn first caps f' c' h1 h2 hr1 hr2 ih1 ih2=>
  refine .dx _ _ _ _ _ (by simpa[cD]using h1) (by simpa[cD]using h2) (fun j p d=>?_) (fun j p d=>?_)
  .rw[cD,Yo,Yq]at d;obtain⟨q,u,rfl⟩:=d;exact ih1 j q u
  .rw[cD,Yo,Yq]at d;obtain⟨q,u,rfl⟩:=d;exact ih2 j q u
 |kb b=>exact .kb b
 |any x=>exact .any x
theorem VR.xu: ∀{q:PV} {x:Value},VR M N U q x-> ∀{p:PV},q=p.c6 σ->VR M (N.comp σ) (fun i=>U (σ i)) p x:=by
 intro q x h
 induction h with
 |iv x y h=>intro p d;cases p<;>simp[PV.c6]at d;subst d;exact .iv _ _ h
 |agg cs ys hl hr ih=>
  intro p d;cases p<;>simp[PV.c6]at d;subst d;refine .agg _ _ (by simpa[cD]using hl) (fun j p u=>ih j (p.c6 σ) (by rw[cD,Yo,u];rfl) Z)
 |bX cs ys hl hr ih=>
  intro p d;cases p<;>simp[PV.c6]at d;subst d;refine .bX _ _ (by simpa[cD]using hl) (fun j p u=>ih j (p.c6 σ) (by rw[cD,Yo,u];rfl) Z)
 |ptr i off h=>intro p d;cases p<;>simp[PV.c6]at d;obtain⟨rfl,rfl⟩:=d;exact VR.ptr (N:=N.comp σ) (U:=fun i=>U (σ i)) _ _ h
 |dJ i sz k off h=>intro p d;cases p<;>simp[PV.c6]at d;obtain⟨rfl,rfl,rfl,rfl⟩:=d;exact VR.dJ (N:=N.comp σ) (U:=fun i=>U (σ i)) _ _ _ _ h
 |fE z i h=>intro p d;cases p<;>simp[PV.c6]at d;obtain⟨rfl,rfl⟩:=d;exact VR.fE (N:=N.comp σ) (U:=fun i=>U (σ i)) _ _ h
 |sl i off len sz cap h h0 hl hc he=>intro p d;cases p<;>simp[PV.c6]at d;obtain⟨rfl,rfl,rfl,rfl⟩:=d;exact VR.sl (N:=N.comp σ) (U:=fun i=>U (σ i)) _ _ _ _ _ h h0 hl hc he
 |pQ i sz h=>intro p d;cases p<;>simp[PV.c6]at d;obtain⟨rfl,rfl,rfl,rfl⟩:=d;exact VR.pQ (N:=N.comp σ) (U:=fun i=>U (σ i)) _ _ h
 |sle i sz cap h hc he=>intro p d;cases p<;>simp[PV.c6]at d;obtain⟨rfl,rfl,rfl,rfl⟩:=d;exact VR.sle (N:=N.comp σ) (U:=fun i=>U (σ i)) _ _ _ h hc he
 |mp i h=>intro p d;cases p<;>simp[PV.c6]at d;subst d;exact VR.mp (N:=N.comp σ) (U:=fun i=>U (σ i)) _ h
 |dx fn first caps f' c' h1 h2 hr1 hr2 ih1 ih2=>
  intro p d;cases p<;>simp[PV.c6]at d;obtain⟨rfl,rfl,rfl⟩:=d;refine .dx _ _ _ _ _ (by simpa[cD]using h1) (by simpa[cD]using h2) (fun j p u=>ih1 j (p.c6 σ) (by rw[cD,Yo,u];rfl) Z) (fun j p u=>ih2 j (p.c6 σ) (by rw[cD,Yo,u];rfl) Z)
 |kb b=>intro p d;cases p<;>simp[PV.c6]at d;subst d;exact .kb _
 |any x=>intro p d;cases p<;>simp[PV.c6]at d;exact .any _
theorem OR.c6{w:World}{i:Nat}{o:AO}(h:OR M (N.comp σ) (fun i=>U (σ i)) w i o):OR M N U w (σ i) (o.c6 σ):=by
 cases o with
 |cells cs T0=>
  obtain⟨c,T,y,A,B,C,D⟩:=h;refine⟨c,T,y,A,by simpa[cD]using B,fun j p u=>?_,D⟩;rw[cD,Yo,Yq]at u;obtain⟨q,F,rfl⟩:=u;exact(C j q F).c6
 |row sz es=>
  rcases h with rfl|⟨h0,c,T,y,A,B,C,D⟩
  .exact .inl Z
  refine .inr ⟨h0,c,T,y,A,by simpa using B,fun k e d=>?_,fun k e j p d u=>?_⟩
  .rw[Yo,Yq]at d;obtain⟨x,b,rfl⟩:=d;rw[cD,YH];exact C k x b
  .rw[Yo,Yq]at d;obtain⟨x,b,rfl⟩:=d;rw[cD,Yo,Yq]at u;obtain⟨q,F,rfl⟩:=u;exact(D k x j q b F).c6
 |bM l T=>exact h
 |gn=>exact h
 |map kc ev z zv dv m=>exact h
 |b3 kc ev m l cu=>exact h
 |eT s p=>exact h
theorem OR.xu{w:World}{i:Nat}{o:AO}(h:OR M N U w (σ i) (o.c6 σ)):OR M (N.comp σ) (fun i=>U (σ i)) w i o:=by
 cases o with
 |cells cs T0=>
  obtain⟨c,T,b,d,u,x,y⟩:=h;exact⟨c,T,b,d,by simpa[cD]using u,fun j p B=>(x j (p.c6 σ) (by rw[cD,Yo,B];rfl)).xu Z,y⟩
 |row sz es=>
  rcases h with h|⟨C,c,T,b,d,u,x,y⟩
  .exact .inl (by simpa using h)
  refine .inr ⟨C,c,T,b,d,by simpa using u,fun k e A=>?_,fun k e j p A B=>?_⟩
  .have:=x k (dZ σ e) (by rw[Yo,A];rfl);simpa[cD]using this
  .exact(y k (dZ σ e) j (p.c6 σ) (by rw[Yo,A];rfl) (by rw[cD,Yo,B];rfl)).xu Z
 |bM l T=>exact h
 |gn=>exact h
 |map kc ev z zv dv m=>exact h
 |b3 kc ev m l cu=>exact h
 |eT s p=>exact h
end
def sig(L:List Nat)(n:Nat)(i:Nat):Nat:=bif YD i L.length then L.getD i 0 else n+(i-L.length)
theorem lr{L:List Nat}{n i:Nat}(h:i<L.length):sig L n i=L[i]:=by
 have:YD i L.length=lc:=YX h;simp[sig,this,h]
theorem sQ{L:List Nat}{n i:Nat}(h:L.length<=i):sig L n i=n+(i-L.length):=by
 have:YD i L.length=li:=by
  cases hb:YD i L.length with
  |false=>rfl
  |true=>have:=Yd hb;omega
 simp[sig,this]
theorem xK{σ:Nat->Nat}: ∀(h:AH) (j:Nat) (o:AO),(sX σ h).get j=jp o->(∀i k,i∈h.map YI->σ i=σ k->i=k)-> ∃i p,j=σ i∧h.get i=jp p∧o=p.c6 σ
 | [],j,o,hj,_=>by simp[sX,AH.get]at hj
 |(i,kw)::r,j,o,hj,hi=>by
  simp only[sX]at hj;rw[AH.aw]at hj;split at hj
  .cases hj
  .rename_i d;obtain⟨k,p,u,x,y⟩:=xK r j o hj (fun a b A=>hi a b (Yt _ A));refine⟨k,p,u,?_,y⟩;rw[AH.aw,be (fun e=>d (by rw[u,e]))];exact x
 |(i,jp q)::r,j,o,hj,hi=>by
  simp only[sX]at hj;rw[AH.aw]at hj;split at hj
  .rename_i B;exact⟨i,q,B,by rw[AH.aw,am Z],by simpa using hj.symm⟩
  .rename_i d;obtain⟨k,p,u,x,y⟩:=xK r j o hj (fun a b A=>hi a b (Yt _ A));refine⟨k,p,u,?_,y⟩;rw[AH.aw,be (fun e=>d (by rw[u,e]))];exact x
def fA:Nat->List AO->AH
 |_,[]=> []
 |n,o::r=>(n,jp o)::fA (n+1) r
theorem vp: ∀(os:List AO) (n i:Nat),(fA n os).get i=if n<=i then os[i-n]? else kw
 | [],n,i=>by simp[fA,AH.get]
 |o::r,n,i=>by
  simp only[fA];rw[AH.aw,vp r (n+1) i];by_cases h:i=n
  .subst h;simp
  .by_cases b:n<=i
   .rw[be h,am (by omega),am b,show i-n=(i-(n+1))+1 by omega];simp
   .rw[be h,be (by omega),be b]
def oL(P:Program)(k:FuncId):Prop:= ∀(args:Array Value) (w:World),(callFunc k args).run P w= .ok (.enter k args) w
theorem bN {P:Program} {k:FuncId} {fn:Func} {c:Code} (hf:P.funcs[k]? =jp fn) (hb:fn.body=jp c) (hn:(fn.name== "runtime.NumGoroutine")=li):oL P k:=by
 intro args w;have b: ¬fn.name= "runtime.NumGoroutine" :=by simpa using hn
 simp[callFunc,program,Sem.run,hf,hb,b]
def Fn(P:Program)(k:FuncId)(args:List PV)(os:List AO)(R:PV->AH->Nat->Prop):Prop:=
 oL P k∧ ∀M N w (vs:List Value),Rel M N (· <os.length) (fA 0 os) w->args.length=vs.length->(∀(j:Nat) (p:PV),args[j]? =jp p->VR M N (· <os.length) p (vs.getD j undef))->
  Calls P k vs.toArray w fun e A=> ∃x d u r y b,e= .returned x∧R r y b∧Ext M N (· <os.length) (fA 0 os) w d u (· <b) y A∧Rel d u (· <b) y A∧VR d u (· <b) r x
def Ew:List Nat->AH
 | []=> []
 |j::r=>(j,kw)::Ew r
def AH.keys:AH->List Nat
 | []=> []
 |(i,_)::r=>i::AH.keys r
theorem AH.get_append: ∀(a b:AH) (j:Nat),AH.get (a++b) j=if j∈a.keys then a.get j else b.get j
 | [],b,j=>by simp[AH.keys]
 |(i,o)::r,b,j=>by
  rw[ZO,AH.aw,AH.aw,AH.get_append r b j];by_cases h:j=i
  .simp[h,AH.keys]
  .simp[h,AH.keys]
theorem A0: ∀L:List Nat,(Ew L).keys=L
 | []=>rfl
 |j::r=>by simp[Ew,AH.keys,A0 r]
theorem Ev: ∀(L:List Nat) (j:Nat),(Ew L).get j=kw
 | [],_=>rfl
 |i::r,j=>by rw[Ew,AH.aw,Ev r j];split<;>rfl
theorem GB{L:List Nat}{n:Nat}(hnd:L.Nodup)(d: ∀j∈L,j<n): ∀i k,sig L n i=sig L n k->i=k:=by
 intro i k h;rcases Zj i L.length with hi|hi<;>rcases Zj k L.length with hk|hk
 .rw[lr hi,lr hk]at h;have u:=aaN.1 hnd;rcases Nat.lt_trichotomy i k with b|he|hgt
  .exact absurd h (u i k hi hk b)
  .exact he
  .exact absurd h.symm (u k i hk hi hgt)
 .rw[lr hi,sQ hk]at h;have:=d _ (YZ hi);omega
 .rw[sQ hi,lr hk]at h;have:=d _ (YZ hk);omega
 .rw[sQ hi,sQ hk]at h;omega
section
variable {P:Program} {nt:Nat} {s:AS}
def aL(s:AS)(L:List Nat)(b:AH)(d:Nat):AS:={f:=s.f,h:=sX (sig L s.nx) b++(Ew L++s.h),nx:=s.nx+(d-L.length)}
theorem Fn.calls{k:FuncId}{args:List PV}{os:List AO}{R:PV->AH->Nat->Prop}(hc:Fn P k args os R){L:List Nat}(hnd:L.Nodup)(hL: ∀j∈L,j<s.nx)
  (i0:L.map s.h.get=os.map fun o=>jp (o.c6 (sig L s.nx))) {M:Mem} {N:Nm} {w:World} (hr:Rel M N (· <s.nx) s.h w) {vs:List Value} (hl:args.length=vs.length)
  (hv: ∀(j:Nat) (p:PV),args[j]? =jp p->VR M N (· <s.nx) (p.c6 (sig L s.nx)) (vs.getD j undef)):
  Calls P k vs.toArray w fun e w'=> ∃x M' N' r Y J,e= .returned x∧R r Y J∧Ext M N (· <s.nx) s.h w M' N' (· <(aL s L Y J).nx) (aL s L Y J).h w'∧
   Rel M' N' (· <(aL s L Y J).nx) (aL s L Y J).h w'∧VR M' N' (· <(aL s L Y J).nx) (r.c6 (sig L s.nx)) x:=by
 have b0:L.length=os.length:=by simpa using congrArg aaG i0
 have hU:(fun i=>sig L s.nx i<s.nx)=(· <os.length):=by
  funext i
  apply propext;rcases Zj i L.length with hi|hi
  .rw[lr hi];exact⟨fun _=>by omega,fun _=>hL _ (YZ hi)⟩
  .rw[sQ hi];omega
 have e0: ∀i (hi:i<L.length),s.h.get L[i]=(os[i]?).map (AO.c6 (sig L s.nx)):=by
  intro i hi;have:=congrArg (fun l=>l[i]?) i0;simp only[Yo,Yi hi,Zg]at this;have F:os[i]? =jp (os[i]'(by omega)):=Yi (by omega);rw[F]at this ⊢;simpa using this
 have y: ∀i o,(fA 0 os).get i=jp o->i<L.length∧s.h.get (sig L s.nx i)=jp (o.c6 (sig L s.nx)):=by
  intro i o hi;rw[vp,am (Yl _),Nat.sub_zero]at hi;have c0:i<L.length:=by rw[b0];exact(Yj.1 hi).1
  refine⟨c0,?_⟩;rw[lr c0,e0 i c0,hi];rfl
 have g0:Rel M (N.comp (sig L s.nx)) (· <os.length) (fA 0 os) w:=by
  refine⟨hr.dT,fun i o hi=>by rw[<-b0];exact(y i o hi).1,fun i o hi d=>hr.fk _ _ (y i o hi).2 ((AO.cS _ o).trans d),fun i o hi=>?_,fun i j o p hi A F S B=>?_⟩
  .have:=OR.xu (hr.obj _ _ (y i o hi).2);rw[hU]at this;exact this
  .exact GB hnd hL i j (hr.inj _ _ _ _ (y i o hi).2 (y j p A).2 ((AO.cS _ o).trans F) ((AO.cS _ p).trans S) B)
 refine(hc.2 M (N.comp (sig L s.nx)) w vs g0 hl (fun j p S=>by have:=(hv j p S).xu Z;rw[hU]at this;exact this)).mono ?_;rintro e w' ⟨x,M',N',r,Y,J,rfl,hR,hx,hr',hvr⟩;have k0:os.length<=J:=aap fun c0=>by have:=hx.ule J c0;omega
 let N2:Nm:={aI:=fun j=>if j<s.nx then N.aI j else N'.aI (L.length+(j-s.nx)),ext:=fun j=>if j<s.nx then N.ext j else N'.ext (L.length+(j-s.nx))}
 have G:N.agree N2 (· <s.nx):=⟨fun i hi=>by simp[N2,hi],fun i hi=>by simp[N2,hi]⟩
 have I: ∀i,N2.aI (sig L s.nx i)=N'.aI i∧N2.ext (sig L s.nx i)=N'.ext i:=by
  intro i;rcases Zj i L.length with hi|hi
  .have h1:sig L s.nx i<s.nx:=by rw[lr hi];exact hL _ (YZ hi)
   have u:=hx.nm.aI i (by omega);have D:=hx.nm.ext i (by omega);simp only[Nm.comp]at u D;simp[N2,h1,u,D]
  .rw[sQ hi];have h1: ¬s.nx+(i-L.length)<s.nx:=by omega
   have u:L.length+(s.nx+(i-L.length)-s.nx)=i:=by omega
   constructor<;>simp only[N2,be h1,u]
 have a0:N'.agree (N2.comp (sig L s.nx)) (· <J):=⟨fun i _=>(I i).1,fun i _=>(I i).2⟩
 have d0: ∀i,i<J->sig L s.nx i<s.nx+(J-L.length):=by
  intro i hi;rcases Zj i L.length with h1|h1
  .rw[lr h1];have:=hL _ (YZ h1);omega
  .rw[sQ h1];omega
 have C: ∀j o,(aL s L Y J).h.get j=jp o->(∃i p,j=sig L s.nx i∧Y.get i=jp p∧o=p.c6 (sig L s.nx))∨(j∉L∧s.h.get j=jp o):=by
  intro j o A;simp only[aL]at A;rw[AH.get_append]at A;split at A
  .exact .inl (xK Y j o A (fun i k _ h=>GB hnd hL i k h))
  .rw[AH.get_append]at A;split at A
   .rw[Ev]at A;cases A
   .rename_i hd;rw[A0]at hd;exact .inr ⟨hd,A⟩
 have f0: ∀j o,j∉L->s.h.get j=jp o->o.real=lc->w'.heap[N.aI j]? =w.heap[N.aI j]? :=by
  intro j o A F d;refine hx.jO _ (hr.lt F d) (fun i p hi S he=>?_);obtain⟨h1,u⟩:=y i p hi;have:=hr.inj _ _ _ _ u F ((AO.cS _ p).trans S) d he;rw[lr h1]at this;exact A (this▸YZ h1)
 refine⟨x,M',N2,r,Y,J,rfl,hR,?_,?_,?_⟩
 .refine⟨hx.os,hx.tape,hx.output,hx.size,fun b hb j0=>hx.jO b hb (fun i o hi F he=>j0 _ _ (y i o hi).2 ((AO.cS _ o).trans F) he),hx.r6,fun b c h1 u=>?_,G,fun i hi=>by simp only[aL];omega,fun j o A d=>?_⟩
  .rcases hx.kn b c h1 u with D|⟨i,o,D,F,h4⟩
   .exact .inl D
   .exact .inr ⟨_,_,(y i o D).2,(AO.cS _ o).trans F,h4⟩
  .rcases C j o A with⟨i,p,rfl,h1,rfl⟩|⟨h1,u⟩
   .rw[AO.cS]at d;rw[(I i).1];rcases hx.jq i p h1 d with D|⟨k,q,D,hq,h4⟩
    .exact .inl D
    .exact .inr ⟨_,_,(y k q D).2,(AO.cS _ q).trans hq,h4⟩
   .exact .inr ⟨j,o,u,d,(G.aI j (hr.used j o u)).symm⟩
 .refine⟨hr'.dT,fun j o A=>?_,fun j o A d=>?_,fun j o A=>?_,fun i j o p hi A F S B=>?_⟩
  .rcases C j o A with⟨i,p,rfl,h1,rfl⟩|⟨h1,u⟩
   .exact d0 i (hr'.used i p h1)
   .have:=hr.used j o u;simp only[aL];omega
  .rcases C j o A with⟨i,p,rfl,h1,rfl⟩|⟨h1,u⟩
   .rw[AO.cS]at d;rw[(I i).1];exact hr'.fk i p h1 d
   .rw[G.aI j (hr.used j o u)];cases hm:M' (N.aI j) with
    |none=>rfl
    |some c=>
     rcases hx.kn _ c (hr.fk j o u d) hm with D|⟨i,q,D,hq,h4⟩
     .have:=hr.lt u d;omega
     .obtain⟨h5,h6⟩:=y i q D;have:=hr.inj _ _ _ _ h6 u ((AO.cS _ q).trans hq) d h4;rw[lr h5]at this;exact absurd (this▸YZ h5) h1
  .rcases C j o A with⟨i,p,rfl,h1,rfl⟩|⟨h1,u⟩
   .refine OR.c6 ?_;exact(hr'.obj i p h1).mono (.refl _) a0 (fun i hi=>d0 i hi) (hr'.used i p h1) Z
   .cases d:o.real with
    |true=>exact(hr.obj j o u).mono hx.r6 G (fun i hi=>by simp only[aL];omega) (hr.used j o u) (f0 j o h1 u d)
    |false=>
     cases o with
     |row sz es=>cases es with
      |nil=>exact .inl Z
      |cons=>cases d
     |bM l T=>cases l with
      |nil=>exact .inl Z
      |cons=>cases d
     |_=>cases d
  .rcases C i o hi with⟨i',o',rfl,h1,rfl⟩|⟨h1,u⟩<;>rcases C j p A with⟨j',p',rfl,D,rfl⟩|⟨D,h4⟩
   .rw[AO.cS]at F S;rw[(I i').1,(I j').1]at B;rw[hr'.inj i' j' o' p' h1 D F S B]
   .rw[AO.cS]at F;rw[(I i').1,G.aI j (hr.used j p h4)]at B;rcases hx.jq i' o' h1 F with h5|⟨k,q,h5,hq,h6⟩
    .have:=hr.lt h4 S;omega
    .obtain⟨h7,h8⟩:=y k q h5;have:=hr.inj _ _ _ _ h8 h4 ((AO.cS _ q).trans hq) S (h6.trans B);rw[lr h7]at this;exact absurd (this▸YZ h7) D
   .rw[AO.cS]at S;rw[G.aI i (hr.used i o u),(I j').1]at B;rcases hx.jq j' p' D S with h5|⟨k,q,h5,hq,h6⟩
    .have:=hr.lt u F;omega
    .obtain⟨h7,h8⟩:=y k q h5;have:=hr.inj _ _ _ _ h8 u ((AO.cS _ q).trans hq) F (h6.trans B.symm);rw[lr h7]at this;exact absurd (this▸YZ h7) h1
   .rw[G.aI i (hr.used i o u),G.aI j (hr.used j p h4)]at B;exact hr.inj _ _ _ _ u h4 F S B
 .exact VR.c6 (hvr.mono (.refl _) a0 (fun i hi=>d0 i hi))
def PV.plain:PV->PV
 | .kb b=> .iv (.v (.bool b))
 |p=>p
theorem VR.plain{M:Mem}{N:Nm}{U:Nat->Prop}{p:PV}{x:Value}(h:VR M N U p x):VR M N U p.plain x:=by
 cases h with
 |kb=>exact .iv _ _ (.v _)
 |iv _ _ h1=>exact .iv _ _ h1
 |agg _ _ h1 h2=>exact .agg _ _ h1 h2
 |bX _ _ h1 h2=>exact .bX _ _ h1 h2
 |ptr _ _ h1=>exact .ptr _ _ h1
 |dJ _ _ _ _ h1=>exact .dJ _ _ _ _ h1
 |fE _ _ h1=>exact .fE _ _ h1
 |sl _ _ _ _ _ h1 h2 h3 h4 h5=>exact .sl _ _ _ _ _ h1 h2 h3 h4 h5
 |pQ _ _ h1=>exact .pQ _ _ h1
 |sle _ _ _ h1 h2 h3=>exact .sle _ _ _ h1 h2 h3
 |mp _ h1=>exact .mp _ h1
 |dx _ _ _ _ _ h1 h2 h3 h4=>exact .dx _ _ _ _ _ h1 h2 h3 h4
 |any=>exact .any _
def bP(f:AF)(c:Call):Option (FuncId×List PV):=
 match c.callee with
 | .value g=>match ev f g with
  | .dx (.func k) first caps=>jp (k,first++(c.args.toList.map (fun x=>(ev f x).plain)++caps))
  |_=>kw
 |_=>kw
theorem Eu{M:Mem}{N:Nm}{a:Act}{w:World}(hf:Fits M N s nt a w){o:Oper}{c:Call}(ho:o.op= .call c){k:FuncId}{asv:List PV}(ha:bP s.f c=jp (k,asv))(hc:oL P k):
  ∃D:List Value,(execOp a.eval o).run P w= .ok (.enter k D.toArray) w∧asv.length=D.length∧ ∀(j:Nat) (p:PV),asv[j]? =jp p->VR M N (· <s.nx) p (D.getD j undef):=by
 unfold bP at ha;obtain⟨callee,b,y⟩:=c;cases callee with
 |value g=>
  simp only at ha;have A:=bf hf.2.1 g;split at ha
  .rename_i S first caps hev;simp only[Yh,Yw]at ha;obtain⟨rfl,rfl⟩:=ha;rw[hev]at A;generalize I:a.eval g=v at A;cases A with
   |dx _ _ _ f' c' h1 h2 hr1 hr2=>
    have F:(b.toList.map (fun x=>(ev s.f x).plain)).length=(b.map a.eval).size∧ ∀j p,(b.toList.map (fun x=>(ev s.f x).plain))[j]? =jp p->VR M N (· <s.nx) p ((b.map a.eval).getD j undef):=by
     refine⟨by simp,fun j p d=>?_⟩;rw[Yo,Yq]at d;obtain⟨x,J,rfl⟩:=d;have C:b[j]? =jp x:=by simpa using J
     rw[Yf,aaD,C];exact(bf hf.2.1 x).plain
    have u:(execOp a.eval o).run P w= .ok (.enter S (f'++b.map a.eval++c')) w:=by
     simp only[execOp,ho,resolve,I,Deferred.ofValue,pure_bind,invoke];exact hc _ w
    have B: ∀(j:Nat) (p:PV),(first++(b.toList.map (fun x=>(ev s.f x).plain)++caps))[j]? =jp p->VR M N (· <s.nx) p ((f'++b.map a.eval++c').toList.getD j undef):=by
     intro j p d;have G:(b.toList.map (fun x=>(ev s.f x).plain)).length=(b.map a.eval).size:=F.1;rw[Ye,aaQ,aaQ,Yu];rcases Zj j first.length with hj|hj
     .rw[YA hj]at d;rw[YA (by simpa[<-h1]using hj)];have:=hr1 j p d;rw[Yf]at this;simpa using this
     .rw[YF hj]at d;rw[YF (by simpa[<-h1]using hj)];rcases Zj (j-first.length) (b.toList.map (fun x=>(ev s.f x).plain)).length with hj2|hj2
      .rw[YA hj2]at d;rw[YA (by simp[<-h1]at hj2 ⊢;omega)];have:=F.2 _ p d;rw[Yf]at this;simpa[<-h1]using this
      .rw[YF hj2]at d;rw[YF (by simp[<-h1]at hj2 ⊢;omega)];have:=hr2 _ p d;rw[Yf]at this;simpa[<-h1]using this
    refine⟨(f'++b.map a.eval++c').toList,by rw[ZT];exact u,?_,B⟩;simp[<-h1,<-h2]
  .cases ha
 |_=>simp at ha
theorem lW{o:Oper}{c:Call}(ho:o.op= .call c){k:FuncId}{asv:List PV}(ha:bP s.f c=jp (k,asv)){args:List PV}{os:List AO}{R:PV->AH->Nat->Prop}(hc:Fn P k args os R)
  {L:List Nat} (hnd:L.Nodup) (hL: ∀j∈L,j<s.nx) (b0:L.map s.h.get=os.map fun o=>jp (o.c6 (sig L s.nx))) (y:asv=dZ (sig L s.nx) args) {S:AS->Prop}
  (hS: ∀r C D,R r C D-> ∃s',putDst nt o (r.c6 (sig L s.nx)) (aL s L C D)=jp s'∧S s'):OT P nt o s S:=by
 intro M N a w F K Z hk;unfold bP at ha;obtain⟨callee,b,a0⟩:=c;cases callee with
 |value g=>
  simp only at ha;have hg:=bf F.2.1 g;split at ha
  .rename_i k' first caps hev;simp only[Yh,Yw]at ha;obtain⟨rfl,rfl⟩:=ha;rw[hev]at hg;generalize hv:a.eval g=v at hg;cases hg with
   |dx _ _ _ f' c' B h2 hr1 hr2=>
    have hm:(b.toList.map (fun x=>(ev s.f x).plain)).length=(b.map a.eval).size∧ ∀j p,(b.toList.map (fun x=>(ev s.f x).plain))[j]? =jp p->VR M N (· <s.nx) p ((b.map a.eval).getD j undef):=by
     refine⟨by simp,fun j p u=>?_⟩;rw[Yo,Yq]at u;obtain⟨x,hx,rfl⟩:=u;have d0:b[j]? =jp x:=by simpa using hx
     rw[Yf,aaD,d0];exact(bf F.2.1 x).plain
    have J:(execOp a.eval o).run P w= .ok (.enter k' (f'++b.map a.eval++c')) w:=by
     simp only[execOp,ho,resolve,hv,Deferred.ofValue,pure_bind,invoke];exact hc.1 _ w
    unfold Oper.wp;rw[J];simp only[Oper.upon];have c0: ∀(j:Nat) (p:PV),(first++(b.toList.map (fun x=>(ev s.f x).plain)++caps))[j]? =jp p->VR M N (· <s.nx) p ((f'++b.map a.eval++c').toList.getD j undef):=by
     intro j p u;have e0:(b.toList.map (fun x=>(ev s.f x).plain)).length=(b.map a.eval).size:=hm.1;rw[Ye,aaQ,aaQ,Yu];rcases Zj j first.length with hj|hj
     .rw[YA hj]at u;rw[YA (by simpa[<-B]using hj)];have:=hr1 j p u;rw[Yf]at this;simpa using this
     .rw[YF hj]at u;rw[YF (by simpa[<-B]using hj)];rcases Zj (j-first.length) (b.toList.map (fun x=>(ev s.f x).plain)).length with hj2|hj2
      .rw[YA hj2]at u;rw[YA (by simp[<-B]at hj2 ⊢;omega)];have:=hm.2 _ p u;rw[Yf]at this;simpa[<-B]using this
      .rw[YF hj2]at u;rw[YF (by simp[<-B]at hj2 ⊢;omega)];have:=hr2 _ p u;rw[Yf]at this;simpa[<-B]using this
    have I:args.length=(f'++b.map a.eval++c').toList.length:=by
     have:=congrArg aaG y;simp[cD]at this;simp[<-B,<-h2];omega
    have A:=hc.calls hnd hL b0 F.1 I (fun j p u=>by
     refine c0 j (p.c6 (sig L s.nx)) ?_
     rw[y,cD,Yo,u];rfl)
    rw[ZT]at A;refine A.mono ?_;rintro e w' ⟨x,M',N',r,C,D,rfl,hR,hx,hr,hvr⟩;obtain⟨s',u,Y⟩:=hS r C D hR;have G:Fits M' N' (aL s L C D) nt a w':=⟨hr,F.2.1.ext hx,F.2.2⟩
    show K (a.put o.dst x) w';cases hd:o.dst with
    |none=>
     have:=gP u hd;subst this;exact hk M' N' _ _ w' hx G Y
    |some d=>
     obtain⟨B,rfl⟩:=gL u hd;exact hk M' N' {aL s L C D with f:=(d,r.c6 (sig L s.nx))::(aL s L C D).f} _ w' hx (G.put d _ x B hvr) Y
  .cases ha
 |_=>simp at ha
def qS:Nat->List PV->AF
 |_,[]=> []
 |n,p::r=>(n,p)::qS (n+1) r
theorem yU: ∀(l:List PV) (n i:Nat),(qS n l).get i=if n<=i then l.getD (i-n) .any else .any
 | [],n,i=>by simp[qS,AF.get]
 |p::r,n,i=>by
  simp only[qS];rw[AF.aw,yU r (n+1) i];by_cases h:i=n
  .subst h;simp
  .by_cases b:n<=i
   .rw[be h,am (by omega),am b,show i-n=(i-(n+1))+1 by omega];simp
   .rw[be h,be (by omega),be b]
def BC(ty:Ty)(s:AS):ResultVar->Option PV
 | .tmp t=>match s.f.get t with
  | .kb b=>jp (.iv (.v (.bool b)))
  |p=>jp p
 | .cell a t=>match ty t with
  |some e=>match behind s.h (s.f.get a) with
   |some cs=>kB e cs
   |none=>kw
  |none=>kw
def u7(ty:Ty)(s:AS):List ResultVar->Option (List PV)
 | []=>jp []
 |v::r=>match BC ty s v with
  |some p=>match u7 ty s r with
   |some l=>jp (p::l)
   |none=>kw
  |none=>kw
def lv(ty:Ty)(s:AS)(l:List ResultVar):Option PV:=
 match u7 ty s l with
 |some [p]=>jp p
 |some l=>jp (.bX l)
 |none=>kw
def sW(tmps:Array Value):ResultVar->Sem Value
 | .tmp t=>pure (tmps.getD t undef)
 | .cell a t=>do loadVar t (<-asAddr (tmps.getD a undef))
theorem Iw{ty:Ty}(u:cC P ty){M:Mem}{N:Nm}{a:Act}{w:World}(hf:Fits M N s nt a w){v:ResultVar}{p:PV}(h:BC ty s v=jp p):
  ∃x,(sW a.tmps v).run P w= .ok x w∧VR M N (· <s.nx) p x:=by
 cases v with
 |tmp t=>
  simp only[BC]at h;have:=hf.2.1 t;split at h
  .rename_i b hb;simp only[Yh]at h;subst h;rw[hb]at this;refine⟨_,rfl,?_⟩;show VR M N _ _ (a.tmps.getD t undef);generalize a.tmps.getD t undef=v at this;cases this;exact .iv _ _ (.v _)
  .simp only[Yh]at h;subst h;exact⟨_,rfl,this⟩
 |cell b t=>
  simp only[BC]at h;split at h
  .rename_i e A;split at h
   .rename_i G j;obtain⟨F,a0,C,d⟩:=A7 hf.1 (hf.2.1 b) j;obtain⟨y,D,B⟩:=vM (P:=P) (u t e A) d h;refine⟨y,?_,B⟩;simp only[sW,C,asAddr,pure_bind];exact D
   .cases h
  .cases h
theorem zR{ty:Ty}(d:cC P ty){M:Mem}{N:Nm}{a:Act}{w:World}(hf:Fits M N s nt a w): ∀{l:List ResultVar} {u:List PV},u7 ty s l=jp u->
  ∃y:List Value,(l.mapM (sW a.tmps)).run P w= .ok y w∧u.length=y.length∧ ∀(j:Nat) (p:PV),u[j]? =jp p->VR M N (· <s.nx) p (y.getD j undef)
 | [],u,h=>by
  simp only[u7,Yh]at h;subst h;exact⟨[],rfl,rfl,by simp⟩
 |v::r,u,h=>by
  simp only[u7]at h;split at h
  .rename_i p F;split at h
   .rename_i l D;simp only[Yh]at h;subst h;obtain⟨x,I,G⟩:=Iw d hf F;obtain⟨y,C,b,B⟩:=zR d hf D;refine⟨x::y,?_,by simp[b],fun j q A=>?_⟩
    .rw[List.mapM_cons,Sem.run_bind,I,Result.andThen_ok,Sem.run_bind,C];rfl
    .cases j with
     |zero=>simp at A;subst A;exact G
     |succ j=>simpa using B j q (by simpa using A)
   .cases h
  .cases h
theorem GZ{ty:Ty}(F:cC P ty){M:Mem}{N:Nm}{a:Act}{w:World}(hf:Fits M N s nt a w){fn:Func}{l:List ResultVar}(G:fn.results.toList=l){p:PV}(h:lv ty s l=jp p):
  ∃x,(results fn a.tmps).run P w= .ok x w∧VR M N (· <s.nx) p x:=by
 unfold lv at h;have key: ∀B,u7 ty s l=jp B-> ∃d:List Value,(fn.results.mapM (sW a.tmps)).run P w= .ok d.toArray w∧B.length=d.length∧ ∀(j:Nat) (p:PV),B[j]? =jp p->VR M N (· <s.nx) p (d.getD j undef):=by
  intro B A;obtain⟨d,C,b,D⟩:=zR F hf A;refine⟨d,?_,b,D⟩;have e:fn.results.mapM (sW a.tmps)=(List.toArray<$>(fn.results.toList.mapM (sW a.tmps))):=by
   rw[aa7]
  rw[e,G,Sem.run_map,C];rfl
 have u:results fn a.tmps=(do let vs<-fn.results.mapM (sW a.tmps);pure (if h:vs.size=1 then vs[0] else .tuple vs)):=by
  unfold results;rfl
 split at h
 .rename_i q J;simp only[Yh]at h;subst h;obtain⟨d,C,b,D⟩:=key _ J
  match d,b with
  | [x],_=>
   refine⟨x,?_,by simpa using D 0 q Z⟩;rw[u,Sem.run_bind,C];rfl
 .rename_i B y A;simp only[Yh]at h;subst h;obtain⟨d,C,b,D⟩:=key _ A;refine⟨.tuple d.toArray,?_,.bX _ _ (by simpa using b) (fun j p I=>?_)⟩
  .rw[u,Sem.run_bind,C,Result.andThen_ok];have: ¬d.toArray.size=1:=by
    intro e
    match B,y,b with
    | [q],y,_=>exact y q Z
    | [],_,b=>simp at b e;omega
    |_::_::_,_,b=>simp at b e;omega
   rw[dif_neg this];rfl
  .have:=D j p I;rw[Yf];rw[Ye]at this;simpa using this
 .cases h
theorem F5 {ty:Ty} (J:cC P ty) {k:FuncId} {fn:Func} {c:Code} (hf:P.funcs[k]? =jp fn) (hb:fn.body=jp c) (hn:(fn.name== "runtime.NumGoroutine")=li) {nt:Nat} (b0:fn.ntmps=nt)
  {l:List ResultVar} (hl:fn.results.toList=l) {args:List PV} (a0:args.length<=nt) {os:List AO} {R:PV->AH->Nat->Prop}
  (h:GO P nt [.code c] (fun e s=>(e= .normal∨e= .ret)∧ ∃r,lv ty s l=jp r∧R r s.h s.nx) ⟨qS 0 args,fA 0 os,os.length⟩):Fn P k args os R:=by
 refine⟨bN hf hb hn,fun M N w d hr A hv=>?_⟩;refine calls_of_wp hf hb ?_;have y:Fits M N ⟨qS 0 args,fA 0 os,os.length⟩ nt {tmps:=d.toArray++aab (fn.ntmps-d.toArray.size) undef,defers:=[]} w:=by
  refine⟨hr,fun i=>?_,rfl,by simp;omega⟩;rw[yU,am (Yl _),Nat.sub_zero,Ye];cases hi:args[i]? with
  |none=>exact .any _
  |some p=>
   have F:i<d.length:=by rw[<-A];exact(Yj.1 hi).1
   have:=hv i p hi;have e:(d.toArray++aab (fn.ntmps-d.toArray.size) undef).getD i undef=d.getD i undef:=by
    rw[Yf,Zr (by simpa using F),Ye];simp
   simp only[ZG];rw[e];exact this
 refine AW.then h y fun e a' C j u s' hx b hq=>?_;simp only[kp]at hq;obtain⟨he,r,G,I⟩:=hq;obtain⟨x,S,Y⟩:=GZ J b hl G
 have:a'.defers=[]∧ ∃v,(results fn a'.tmps).run P C= .ok v C∧(∃x j u r D B,Ending.returned v= .returned x∧R r D B∧Ext M N (· <os.length) (fA 0 os) w j u (· <B) D C∧Rel j u (· <B) D C∧VR j u (· <B) r x):=
  ⟨b.2.2.1,x,S,x,j,u,r,s'.h,s'.nx,rfl,I,hx,b.1,Y⟩
 rcases he with rfl|rfl<;>exact this
end
theorem IQ{ops:Array Oper}{o:Oper}(hs: ∀j b,o.op≠ .select j b){a b:Act}(h: ∀d∈o.looksAt ops,a.tmps[d]? =b.tmps[d]?):
  execOp a.eval o=execOp b.eval o∧Region.wanted o (Go.yielded ops a.tmps)=Region.wanted o (Go.yielded ops b.tmps):=by
 constructor
 .refine execOp_congr o hs fun x u=>?_
  cases x with
  |tmp t=>
   have:=h t (YQ _ (List.mem_filterMap.2 ⟨.tmp t,by simpa using u,rfl⟩));simp only[Act.eval,Yf,this]
  |_=>rfl
 .unfold Region.wanted;cases hg:o.guard with
  |none=>rfl
  |some gw=>
   obtain⟨g,want⟩:=gw;have y:Go.yielded ops a.tmps g=Go.yielded ops b.tmps g:=by
    unfold Go.yielded;cases ht:(ops[g]?).bind (·.dst) with
    |none=>rfl
    |some t=>
     have:=h t (by simp[Oper.looksAt,hg,ht]);simp[this]
   simp only[y]
theorem nA{all:List Oper}{o x:Oper}(h:looks all o x=li){d:Nat}(hd:x.dst=jp d):d∉o.looksAt all.toArray:=by
 simp only[looks,hd]at h;simpa using h
theorem gC{o:Oper}{i:Nat}(h:waits o i=lc): ∃e∈o.after,Region.binds .any e=lc∧e.on=i:=by
 unfold waits at h;obtain⟨e,b,hb⟩:=Y8.1 h;simp only[YB]at hb;exact⟨e,by simpa using b,hb.1,YE hb.2⟩
theorem ld: ∀(l:List Oper) (n i:Nat) (o:Oper),ij n l=lc->l[i]? =jp o-> ∀e∈o.after,Region.binds .any e=lc->e.on<n+i
 | [],n,i,o,_,h=>by simp at h
 |c::l,n,i,o,hd,h=>by
  simp only[ij,YB,YG]at hd;cases i with
  |zero=>
   simp at h;subst h;intro e b hb;have:=hd.1 e (by simpa using b);simp only[hb,aaS,Zt]at this;exact Yd this
  |succ i=>
   have:=ld l (n+1) i o hd.2 (by simpa using h);intro e b hb;have:=this e b hb;omega
theorem count_set: ∀(l:List Bool) (i:Nat),l[i]? =jp li->(l.set i lc).count li+1=l.count li
 | [],i,h=>by simp at h
 |c::l,0,h=>by simp at h;subst h;simp
 |c::l,i+1,h=>by
  have:=count_set l i (by simpa using h);simp only[List.set_cons_succ,List.count_cons];omega
theorem dw{listed:Array Bool}{i:Nat}(h:listed.getD i lc=li):(listed.setIfInBounds i lc).toList.count li+1=listed.toList.count li:=by
 have b:listed.toList[i]? =jp li:=by
  rw[Yf]at h;cases hc:listed[i]? with
  |none=>simp[hc]at h
  |some c=>simp[hc]at h;subst h;simpa using hc
 have:=count_set _ _ b;rw[Array.toList_setIfInBounds];exact this
theorem oB{listed:Array Bool}{i:Nat}(h:listed.getD i lc=li):0<listed.toList.count li:=by have:=dw h;omega
theorem fX{listed:Array Bool}{i k:Nat}(hi:i<listed.size):(listed.setIfInBounds i lc).getD k lc=if k=i then lc else listed.getD k lc:=by
 by_cases b:k=i
 .subst b;simp[Yf,hi]
 .rw[be b,Yf,Y2,be (fun e=>b e.symm),Yf]
theorem fy{listed:Array Bool}{i:Nat}(h:listed.getD i lc=li):i<listed.size:=by
 rcases Zj i listed.size with h'|h'
 .exact h'
 .simp[Yf,aaW h']at h
theorem mX{listed:Array Bool}{i:Nat}(h:listed.getD i lc=li):listed.getD i li=li:=by
 have:=fy h;rw[Yf] at*
 simpa[this]using h
theorem mw{all:List Oper}{listed:Array Bool}(x:listed.size=all.length)(hd:ij 0 all=lc)(hr:Region.ready .any all.toArray listed=[]): ∀i,listed.getD i lc=lc:=by
 intro i
 induction i using Nat.strongRecOn with
 |_ i ih=>
  cases hc:listed.getD i lc with
  |true=>rfl
  |false=>
   have y:=fy hc;have d:all[i]? =jp (all[i]'(by omega)):=Yi (by omega);have:i∈Region.ready .any all.toArray listed:=by
    refine mem_ready.2 ⟨hc,_,(by rw[ZB];exact d),fun e j hb=>?_⟩;have u:=ld all 0 i _ hd d e j hb;have:=ih e.on (by omega);have b:e.on<listed.size:=by omega
    rw[Yf]at this ⊢;simpa[b]using this
   rw[hr]at this;cases this
section
variable {P:Program} {nt:Nat} {all:List Oper} {todo pend:List (Nat×Oper)} {M:Mem} {N:Nm} {s:AS} {listed:Array Bool} {a:Act} {w:World} {Q:AQ}
theorem sw.alloc{B:Bs}{o:Oper}{aI:Nat}(h:sw P M N s B a w o aI):aU o=lc:=by
 obtain⟨t,v,d,b,_⟩:=h;simp[aU,b]
theorem kj.bW(b:kj P nt all){i j:Nat}{o q:Oper}(hi:all[i]? =jp o)(hj:all[j]? =jp q)(ha:aU o=lc)(hw:waits q i=li)(hne:j≠i):looks all q o=li:=by
 rcases((b i o hi ha).2.2.2.2 j q hj hne).1 with h|h
 .rw[hw]at h;cases h
 .exact h
theorem oK.same{b:Act}(hb: ∀d,(∀x∈pend,listed.getD x.1 lc=li->x.2.dst≠jp d)->(∀x∈todo,listed.getD x.1 lc=lc->x.2.dst≠jp d)->a.tmps[d]? =b.tmps[d]?)
  (hns:Region.noSelect all.toArray=lc) {i:Nat} {o:Oper} (ho:all[i]? =jp o) (hr:i∈Region.ready .any all.toArray listed) (hp: ∀x∈pend,waits o x.1=lc∨looks all o x.2=li)
  (G: ∀x∈todo,listed.getD x.1 lc=lc->looks all o x.2=li):
  execOp a.eval o=execOp b.eval o∧Region.wanted o (Go.yielded all.toArray a.tmps)=Region.wanted o (Go.yielded all.toArray b.tmps):=by
 refine IQ (Region.noSelect_spec hns i o · · (by simpa using ho)) fun d hd=>hb d (fun x D A u=>?_) (fun x D A u=>nA (G x D A) u hd);rcases hp x D with h|h
 .obtain⟨e,u,y,C⟩:=gC h;obtain⟨_,I,B,j⟩:=mem_ready.1 hr;have:I=o:=by have:=B.symm.trans (by simpa using ho:all.toArray[i]? =jp o);exact Zh this
  subst this;have F:=j e u y;rw[C,mX A]at F;cases F
 .exact nA h u hd
theorem gK(a:Act)(a0:Option Tmp)(v:Value)(d:Nat):(a.put a0 v).tmps[d]? =if a0=jp d∧d<a.tmps.size then jp v else a.tmps[d]? :=by
 cases a0 with
 |none=>simp[Act.put]
 |some e=>
  simp only[Act.put,Yh];rw[Y2];by_cases h:e=d
  .subst h;by_cases b:e<a.tmps.size
   .simp[b]
   .simp[b]
  .simp[h]
theorem kV(a:Act)(a0:Option Tmp)(v:Value):(a.put a0 v).tmps.size=a.tmps.size:=by cases a0<;>simp[Act.put]
theorem lQ(a:Act)(a0:Option Tmp)(v:Value):(a.put a0 v).defers=a.defers:=by cases a0<;>rfl
theorem z6(a:Act)(a0:Option Tmp)(v:Value):(a.put a0 v).put a0 v=a.put a0 v:=by cases a0<;>simp[Act.put]
theorem sw.put{B:Bs}{o:Oper}{aI:Nat}(h:sw P M N s B a w o aI){a0:Option Tmp}{v:Value}(hd: ∀d,o.dst=jp d->a0≠jp d):sw P M N s B (a.put a0 v) w o aI:=by
 obtain⟨t,u,d,j,x,b,y,A⟩:=h;refine⟨t,u,d,j,x,b,?_,A⟩;rw[gK,be (fun C=>hd d b C.1)];exact y
theorem oK.take{B:Bs}(hi:oK P nt all todo pend B M N s listed a w)(hns:Region.noSelect all.toArray=lc)(c0:kj P nt all){x:Nat×Oper}(C:x∈pend)(hr:x.1∈Region.ready .any all.toArray listed):
  ∃v,YieldsAt P all.toArray w x.2 v a∧oK P nt all todo pend B M N s (listed.setIfInBounds x.1 lc) (a.put x.2.dst v) w:=by
 obtain⟨b,hb,Y,j0,b0,F⟩:=hi.ap;obtain⟨bl,d0,k0⟩:=hi.er;have hl:=(mem_ready.1 hr).1;obtain⟨v,hv,a0⟩:=F x C hl;have G: ∀y∈todo,listed.getD y.1 lc=lc->looks all x.2 y.2=li∧ ∀d,y.2.dst=jp d->x.2.dst≠jp d:=fun y j u=>by
  have I:=(d0 y j u).alloc;exact⟨c0.bW (hi.tl y j) (hi.pl x C) I (hi.pa x C y j I) (fun e=>hi.dj x C y j e.symm),((c0 _ _ (hi.tl y j) I).2.2.2.2 _ _ (hi.pl x C) (fun e=>hi.dj x C y j e.symm)).2⟩
 have A:=oK.same b0 hns (hi.pl x C) hr (fun y F=>hi.pp y F x C) (fun y j u=>(G y j u).1);have S:=fy hl;have e0: ∀k,(listed.setIfInBounds x.1 lc).getD k lc=li->k≠x.1∧listed.getD k lc=li:=by
  intro k hk;rw[fX S]at hk;split at hk
  .cases hk
  .rename_i h;exact⟨h,hk⟩
 have D: ∀y∈todo,(listed.setIfInBounds x.1 lc).getD y.1 lc=listed.getD y.1 lc:=fun y F=>by rw[fX S,be (hi.dj x C y F)]
 refine⟨v,hv.of_same A.1 A.2,⟨by simp[hi.size],hi.tl,hi.pl,hi.dj,fun i o ho hu=>hi.JG i o ho (e0 i hu).2,hi.pw,hi.pp,hi.pa,⟨bl,fun y j u=>?_,fun y j z g0 h1 h2=>?_⟩,b,hb,by rw[kV,Y],by rw[lQ,j0],fun d hd i0=>?_,fun y m0 hu=>?_⟩⟩
 .rw[D y j]at u;exact(d0 y j u).put (G y j u).2
 .rw[D y j]at h1;rw[D z g0]at h2;exact k0 y j z g0 h1 h2
 .rw[gK];split
  .rename_i h;rw[<-a0,gK,am ⟨h.1,by rw[<-Y];exact h.2⟩]
  .rename_i h;by_cases J:x.2.dst=jp d
   .have h2: ¬d<a.tmps.size:=fun h3=>h ⟨J,h3⟩
    rw[aaW (aap h2),aaW (by rw[<-Y];exact aap h2)]
   .refine b0 d (fun y F hu he=>?_) (fun y j u=>i0 y j (by rw[D y j];exact u));by_cases f0:y.1=x.1
    .have h3:=hi.pl y F;rw[f0,hi.pl x C]at h3;rw[Zh h3]at J;exact J he
    .exact hd y F (by rw[fX S,be f0];exact hu) he
 .exact F y m0 (e0 _ hu).2
theorem Rel.more{M:Mem}{N:Nm}{n:Nat}{h:AH}{w u:World}(hr:Rel M N (· <n) h w)(j: ∀b,b<w.heap.size->u.heap[b]? =w.heap[b]?):Rel M N (· <n) h u:=by
 refine⟨fun b c hb=>?_,hr.used,hr.fk,fun i o d=>?_,hr.inj⟩
 .exact(hr.dT b c hb).mono (j b (hr.dT b c hb).lt)
 .cases hre:o.real with
  |true=>exact(hr.obj i o d).mono (.refl _) (.refl _ _) (fun _ h=>h) (hr.used i o d) (j _ (hr.lt d hre))
  |false=>
   cases o with
   |row sz es=>cases es with
    |nil=>exact .inl Z
    |cons=>cases hre
   |bM l T=>cases l with
    |nil=>exact .inl Z
    |cons=>cases hre
   |_=>cases hre
theorem xR{ops:Array Oper}(h: ∀i,listed.getD i lc=lc):Region.ready .any ops listed=[]:=by
 cases hr:Region.ready .any ops listed with
 |nil=>rfl
 |cons i r=>
  have:i∈Region.ready .any ops listed:=by rw[hr];simp
  have:=(mem_ready.1 this).1;rw[h i]at this;cases this
theorem oK.done{B:Bs}(hi:oK P nt all [] pend B M N s listed a w)(j: ∀i,listed.getD i lc=lc):Fits M N s nt a w:=by
 obtain⟨b,hb,C,u,y,_⟩:=hi.ap;have A:a.tmps=b.tmps:=Array.ext_getElem? fun d=>y d (fun x _ hu=>by rw[j]at hu;cases hu) (fun _ D=>(nomatch D));have:a=b:=by cases a;cases b;simp only at A u;subst A;subst u;rfl
 rw[this];exact hb
theorem TV(h:Q .normal s):DL P nt all [] pend Q s:=by
 intro A hd x B M N listed a w b F
 induction b generalizing listed a with
 |zero=>
  intro j J;have d: ∀i,listed.getD i lc=lc:=fun i=>by
   cases hx:listed.getD i lc with
   |true=>rfl
   |false=>have:=oB hx;omega
  exact⟨xR d,M,N,s,F,j.done d,h⟩
 |succ b ih=>
  intro j J;refine⟨fun S=>⟨M,N,s,F,j.done (mw j.size hd S),h⟩,fun i u=>?_⟩;obtain⟨hu,o,G,_⟩:=mem_ready.1 u;have C:all[i]? =jp o:=by simpa using G
  rcases j.JG i o C hu with hm|hm
  .cases hm
  .obtain⟨v,Y,y⟩:=j.take A x hm u;refine wpOp_of_stOp (K:=fun D=>D=a.put o.dst v) (fun D I=>?_) (Y.stOp G Z);subst I;exact ih _ _ y (by have:=dw hu;omega)
def zl(all:List Oper)(pend:List (Nat×Oper))(o:Oper):Bool:=
 !looks all o o&&pend.all fun y=>!looks all y.2 o&&(waits o y.1||!looks all o y.2)&&(match o.dst,y.2.dst with|some d,jp e=>!YJ d e|_,_=>lc)
theorem oK.read{B:Bs}(hi:oK P nt all todo pend B M N s listed a w)(hns:Region.noSelect all.toArray=lc){i:Nat}{o:Oper}{s':AS}(hin:(i,o)∈todo)(j0:aU o=li)(o0: ∀x∈todo,waits o x.1=li)(j:zl all pend o=lc)(he:s'.h=s.h∧s'.nx=s.nx)
  (hy: ∀M N b w,Fits M N s nt b w-> ∃v,YieldsAt P all.toArray w o v b∧Fits M N s' nt (b.put o.dst v) w):oK P nt all (todo.filter fun x=>!YJ x.1 i) ((i,o)::pend) B M N s' listed a w:=by
 have F: ∀x∈todo.filter fun x=>!YJ x.1 i,x∈todo∧x.1≠i:=fun x hx=>by
  obtain⟨h7,h8⟩:=YO.1 hx;exact⟨h7,fun e=>by simp[e]at h8⟩
 have h1: ∀x∈todo,x=(i,o)∨x∈todo.filter fun x=>!YJ x.1 i:=fun x hx=>by
  by_cases D:x.1=i
  .have G:=hi.tl x hx;rw[D,hi.tl _ hin]at G;exact .inl (by obtain⟨x1,x2⟩:=x;simp only at D G;rw[D,Zh G])
  .exact .inr (YO.2 ⟨hx,by cases hb:YJ x.1 i with|false=>rfl|true=>exact absurd (YE hb) D⟩)
 simp only[zl,YB,YG,Y1]at j;obtain⟨b,hb,k0,f0,a0,p0⟩:=hi.ap;obtain⟨bl,S,i0⟩:=hi.er;have Y:listed.getD i lc=li:=by
  cases C:listed.getD i lc with
  |false=>rfl
  |true=>have:=(S _ hin C).alloc;simp only at this;rw[j0]at this;cases this
 obtain⟨v,hv,hf⟩:=hy M N b w hb;refine⟨hi.size,fun x hx=>hi.tl x (F x hx).1,fun x hx=>?_,fun x hx y hy=>?_,fun k q hk hu=>?_,?_,fun x hx y hy=>?_,fun y hyp x hx b0=>?_,⟨bl,fun x hx C=>?_,fun x hx y hy=>i0 x (F x hx).1 y (F y hy).1⟩,b.put o.dst v,hf,by rw[kV,k0],by rw[lQ,f0],fun d I e0=>?_,fun x hx hu=>?_⟩
 .rcases Yx.1 hx with rfl|hx
  .exact hi.tl _ hin
  .exact hi.pl x hx
 .rcases Yx.1 hx with rfl|hx
  .exact(F y hy).2
  .exact hi.dj x hx y (F y hy).1
 .rcases hi.JG k q hk hu with hm|hm
  .rcases h1 _ hm with e|hm
   .exact .inr (by rw[e];simp)
   .exact .inl hm
  .exact .inr (Yt _ hm)
 .refine ZI.2 ⟨fun y hy=>⟨(j.2 y hy).1.1,fun d J g0=>?_⟩,hi.pw⟩;have:=(j.2 y hy).2;simp only at J;rw[J,g0]at this;simp at this
 .rcases Yx.1 hx with rfl|hx<;>rcases Yx.1 hy with rfl|hy
  .exact .inr j.1
  .exact .inr (j.2 y hy).1.1
  .have:=(j.2 x hx).1.2;simpa using this
  .exact hi.pp x hx y hy
 .rcases Yx.1 hyp with rfl|hyp
  .exact o0 x (F x hx).1
  .exact hi.pa y hyp x (F x hx).1 b0
 .have G:=S x (F x hx).1 C;unfold sw at*
  rw[he.1];exact G
 .rw[gK,be (fun hc=>I (i,o) (by simp) Y hc.1)];refine a0 d (fun x hx=>I x (Yt _ hx)) (fun x hx C=>?_);rcases h1 x hx with e|hx
  .rw[e]at C;simp only at C;rw[Y]at C;cases C
  .exact e0 x hx C
 .have A: ∀x:Oper,looks all x o=li-> ∀d,o.dst=jp d->d∉x.looksAt all.toArray:=fun x hx d hd=>nA hx hd
  rcases Yx.1 hx with rfl|hx
  .exact⟨v,hv.of_same (execOp_put o (fun cs b=>Region.noSelect_spec hns i o cs b (by simpa using hi.tl _ hin)) b o.dst v (A o j.1)) (wanted_put o b o.dst v (A o j.1)),z6 _ _ _⟩
  .obtain⟨u,m0,n0⟩:=p0 x hx hu;have C:=(j.2 x hx).1.1;refine⟨u,m0.of_same (execOp_put x.2 (fun cs b=>Region.noSelect_spec hns x.1 x.2 cs b (by simpa using hi.pl x hx)) b o.dst v (A x.2 C)) (wanted_put x.2 b o.dst v (A x.2 C)),?_⟩;rw[Act.put_comm b v u (fun d c0 d0=>?_),n0];have:=(j.2 x hx).2;rw[c0,d0]at this;simp at this
theorem HJ{i:Nat}{o:Oper}{s':AS}(hin:(i,o)∈todo)(A:aU o=li)(C: ∀x∈todo,waits o x.1=li)(j:zl all pend o=lc)(he:s'.h=s.h∧s'.nx=s.nx)
  (I: ∀M N b w,Fits M N s nt b w-> ∃v,YieldsAt P all.toArray w o v b∧Fits M N s' nt (b.put o.dst v) w) (h:DL P nt all (todo.filter fun x=>!YJ x.1 i) ((i,o)::pend) Q s'):DL P nt all todo pend Q s:=by
 intro u hd y B M N listed a w d D G F;exact h u hd y B M N listed a w d (by unfold Bs.ext at*;rw[he.1,he.2];exact D) (G.read u hin A C j he I) F
theorem rE(hns:Region.noSelect all.toArray=lc): ∀{pend:List (Nat×Oper)},(∀x∈pend,all[x.1]? =jp x.2)->(pend.Pairwise fun x y=>looks all y.2 x.2=li∧ ∀d,x.2.dst=jp d->y.2.dst≠jp d)->
  (∀x∈pend,looks all x.2 x.2=li)->(∀x∈pend,iL P nt all s x.2)-> ∀{b:Act},Fits M N s nt b w->
  ∃c:Act,Fits M N s nt c w∧c.tmps.size=b.tmps.size∧c.defers=b.defers∧(∀d,(∀x∈pend,listed.getD x.1 lc=li->x.2.dst≠jp d)->c.tmps[d]? =b.tmps[d]?)∧
   (∀x∈pend,listed.getD x.1 lc=li-> ∃v,YieldsAt P all.toArray w x.2 v c∧c.put x.2.dst v=c)
 | [],_,_,_,_,b,hb=>⟨b,hb,rfl,rfl,fun _ _=>rfl,fun x hx=>by cases hx⟩
 |(i,o)::pend,hpl,hpw,hse,hag,b,hb=>by
  rw[ZI]at hpw;obtain⟨c,hc,G,D,B,C⟩:=rE hns (pend:=pend) (fun x hx=>hpl x (Yt _ hx)) hpw.2 (fun x hx=>hse x (Yt _ hx)) (fun x hx=>hag x (Yt _ hx)) hb;cases hu:listed.getD i lc with
  |true=>
   refine⟨c,hc,G,D,fun d hd=>B d fun x hx=>hd x (Yt _ hx),fun x hx A=>?_⟩;rcases Yx.1 hx with rfl|hx
   .rw[hu]at A;cases A
   .exact C x hx A
  |false=>
   obtain⟨v,hv,hf⟩:=hag (i,o) (by simp) M N c w hc;have j: ∀x:Oper,looks all x o=li-> ∀d,o.dst=jp d->d∉x.looksAt all.toArray:=fun x hx d hd=>nA hx hd;refine⟨c.put o.dst v,hf,by rw[kV,G],by rw[lQ,D],fun d hd=>?_,fun x hx A=>?_⟩
   .rw[gK,be (fun h=>hd (i,o) (by simp) hu h.1)];exact B d fun x hx=>hd x (Yt _ hx)
   .rcases Yx.1 hx with rfl|hx
    .have F:=hse (i,o) (by simp);exact⟨v,hv.of_same (execOp_put o (fun I b=>Region.noSelect_spec hns i o I b (by simpa using hpl (i,o) (by simp))) c o.dst v (j o F)) (wanted_put o c o.dst v (j o F)),z6 _ _ _⟩
    .obtain⟨u,Y,a0⟩:=C x hx A;have F:=(hpw.1 x hx).1;refine⟨u,Y.of_same (execOp_put x.2 (fun I b=>Region.noSelect_spec hns x.1 x.2 I b (by simpa using hpl x (Yt _ hx))) c o.dst v (j x.2 F)) (wanted_put x.2 c o.dst v (j x.2 F)),?_⟩;rw[Act.put_comm c v u (fun d J S=>(hpw.1 x hx).2 d J S),a0]
theorem Gm{o:Oper}{a b:Act}{w:World}{K K':Act->World->Prop}{Q:Exit->Act->World->Prop}(he:execOp a.eval o=execOp b.eval o)(u: ∀d j,¬K' ({b with defers:=d::b.defers}.put o.dst undef) j)
  (y: ∀v j,K' (b.put o.dst v) j->K (a.put o.dst v) j) (h:o.wp P b w K' fun _ _ _=>False):o.wp P a w K Q:=by
 unfold Oper.wp at*
 rw[he];generalize(execOp b.eval o).run P w=r at*
 cases r with
 |ok n j=>
  cases n<;>simp only[Oper.upon]at h ⊢
  case value v=>exact y _ _ h
  case skip=>exact y _ _ h
  case defer d=>exact absurd h (u d j)
  case enter f args=>
   refine Calls.mono h fun e A he=>?_
   cases e with
   |returned v=>exact y _ _ he
   |panicked c=>exact he.elim
   |outgrown=>obtain⟨_,_,h⟩:=he;exact h.elim
  case row row args=>exact Rows.mono h fun v A he=>y _ _ he
 |halt x j=>cases x<;>simp only[Oper.upon]at h ⊢
def iW(all:List Oper)(pend:List (Nat×Oper))(o:Oper):Bool:=pend.all fun x=>waits o x.1||!looks all o x.2
theorem oK.early{B:Bs}(hi:oK P nt all todo pend B M N s listed a w)(hns:Region.noSelect all.toArray=lc)(hd:ij 0 all=lc)(j0:kj P nt all)(hB:B.ext M N s w)(b0: ∀x∈pend,iL P nt all s x.2){j:Nat}{o:Oper}(hm:(j,o)∈todo)(ha:aU o=lc)
  (hu:listed.getD j lc=li): ∃v w',(execOp a.eval o).run P w= .ok (.value v) w'∧B.ext M N s w'∧oK P nt all todo pend B M N s (listed.setIfInBounds j lc) (a.put o.dst v) w':=by
 obtain⟨b,hb,g0,q0,i0,hy⟩:=hi.ap;obtain⟨bl,f0,s0⟩:=hi.er;obtain⟨h1,⟨d,G,r0⟩,⟨t,z,ht,hz⟩,_,c0⟩:=j0 j o (hi.tl _ hm) ha;have C:=fy hu;have hk: ∀b,b<w.heap.size->(w.alloc (.cells z.cells t)).heap[b]? =w.heap[b]? :=fun b hb=>Cs w _ b hb
 have a0:Ext M N (· <s.nx) s.h w M N (· <s.nx) s.h (w.alloc (.cells z.cells t)):=
  ⟨rfl,rfl,rfl,by simp,fun b hb _=>hk b hb,.refl _,fun b c h1 h2=>by simp[h1]at h2,.refl _ _,fun _ h=>h,fun i o hi Y=> .inr ⟨i,o,hi,Y,rfl⟩⟩
 have v0: ∀x∈pend,looks all x.2 x.2=li:=fun x A=>by
  rcases hi.pp x A x A with h7|h7
  .obtain⟨e,he,hb,z0⟩:=gC h7;have:=ld all 0 x.1 x.2 hd (hi.pl x A) e he hb;omega
  .exact h7
 obtain⟨c,n0,o0,m0,k0,p0⟩:=rE (listed:=listed.setIfInBounds j lc) hns hi.pl hi.pw v0 b0 (M:=M) (N:=N) (w:=w.alloc (.cells z.cells t)) (b:=b) ⟨hb.1.more hk,hb.2⟩;refine⟨.pointer (jp ⟨w.heap.size,0,kw⟩),w.alloc (.cells z.cells t),?_,hB.trans a0,by simp[hi.size],hi.tl,hi.pl,hi.dj,fun i q hq S=>?_,hi.pw,hi.pp,hi.pa,⟨fun k=>if k=j then w.heap.size else bl k,fun x A hl=>?_,fun x A y hy D I J=>?_⟩,c,n0,by rw[kV,o0,g0],by rw[lQ,m0,q0],fun d' d0 e0=>?_,p0⟩
 .simp only[execOp,ht];simp[Instr.alloc,hz,newVar,newRow]
 .rw[fX C]at S;split at S
  .cases S
  .exact hi.JG i q hq S
 .simp only;by_cases u:x.1=j
  .have x0:x.2=o:=by
    have:=hi.tl x A;rw[u,hi.tl _ hm]at this;exact(Zh this).symm
   rw[am u,x0];refine⟨t,z,d,ht,hz,G,?_,heap_alloc_new w _,hb.1.DE,fun i o t0 Y he=>?_,hB.size⟩
   .rw[gK,am ⟨G,by rw[g0,hb.2.2.2];exact r0⟩]
   .have:=hb.1.lt t0 Y;omega
  .rw[be u];rw[fX C,be u]at hl;obtain⟨t',v',d',k1,k2,k3,k4,k5,k6⟩:=f0 x A hl;refine⟨t',v',d',k1,k2,k3,?_,?_,k6⟩
   .rw[gK,be (fun hc=>(c0 x.1 x.2 (hi.tl x A) u).2 d G (by rw[k3,<-hc.1,G]))];exact k4
   .rw[hk _ (Zy.1 k5).1];exact k5
 .simp only;rw[fX C]at D I;have Vn: ∀z∈todo,z.1≠j->(if z.1=j then lc else listed.getD z.1 lc)=lc->bl z.1<w.heap.size:=fun z hz y0 hl=>by
   rw[be y0]at hl;obtain⟨_,_,_,_,_,_,_,k5,_⟩:=f0 z hz hl;exact(Zy.1 k5).1
  by_cases u:x.1=j<;>by_cases F:y.1=j
  .exact absurd (u.trans F.symm) J
  .rw[am u,be F];have:=Vn y hy F I;omega
  .rw[be u,am F];have:=Vn x A u D;omega
  .rw[be u,be F];rw[be u]at D;rw[be F]at I;exact s0 x A y hy D I J
 .rw[gK,be (fun hc=>e0 (j,o) hm (by rw[fX C,am Z]) hc.1),k0 d' d0];refine i0 d' (fun x A w0=>d0 x A ?_) (fun x A D=>e0 x A ?_)
  .have J:x.1≠j:=fun e=>hi.dj x A _ hm e.symm
   rw[fX C,be J];exact w0
  .rw[fX C];split
   .rfl
   .exact D
theorem sw.step{B:Bs}{y:Mem}{I:Nm}{s':AS}{S:World}{o:Oper}{aI:Nat}(h:sw P M N s B a w o aI)(G:Ext M N (· <s.nx) s.h w y I (· <s'.nx) s'.h S):sw P y I s' B a S o aI:=by
 obtain⟨t,v,d,Y,h2,h3,h4,J,h6,A,h8⟩:=h;have D:=(Zy.1 J).1;refine⟨t,v,d,Y,h2,h3,h4,by rw[G.jO aI D A];exact J,?_,fun i o C F he=>?_,h8⟩
 .cases hm:y aI with
  |none=>rfl
  |some c=>
   rcases G.kn aI c h6 hm with x|⟨i,o,x,b,u⟩
   .omega
   .exact absurd u (A i o x b)
 .rcases G.jq i o C F with x|⟨j,p,x,b,u⟩
  .omega
  .exact A j p x b (u.trans he)
def oA(todo:List (Nat×Oper))(E:List Nat):Bool:=todo.all fun x=>E.contains x.1||(aU x.2||todo.any fun y=>!aU y.2&&waits x.2 y.1)
theorem oK.eff{B:Bs}(hi:oK P nt all todo pend B M N s listed a w)(hns:Region.noSelect all.toArray=lc)(hd:ij 0 all=lc)(g0:kj P nt all){j:Nat}{o:Oper}(hm:(j,o)∈todo)(h0: ∀x∈todo,aU x.2=lc->waits o x.1=li)
  (h1:iW all pend o=lc) (hj:j∈Region.ready .any all.toArray listed) (hu:listed.getD j lc=li): ∃b,Fits M N s nt b w∧execOp a.eval o=execOp b.eval o∧Region.wanted o (Go.yielded all.toArray a.tmps)=Region.wanted o (Go.yielded all.toArray b.tmps)∧
   ∀v M' N' s' w',Ext M N (· <s.nx) s.h w M' N' (· <s'.nx) s'.h w'->Fits M' N' s' nt (b.put o.dst v) w'->(∀x∈bg pend o,iL P nt all s' x.2)->
    oK P nt all (todo.filter fun x=>!YJ x.1 j) (bg pend o) B M' N' s' (listed.setIfInBounds j lc) (a.put o.dst v) w':=by
 obtain⟨bl,j0,y0⟩:=hi.er;obtain⟨_,o2,m0,a0⟩:=mem_ready.1 hj;have Y:=hi.tl _ hm;have a1:o2=o:=by
  have:all[j]? =jp o2:=by simpa using m0
  exact Zh (this.symm.trans Y)
 rw[a1]at m0 a0;have d0:=fy hu;obtain⟨b,hb,o0,x0,f0,f1⟩:=hi.ap;have b1: ∀x∈pend,waits o x.1=lc∨looks all o x.2=li:=fun x u=>by
  have:=YG.1 h1 x u;simpa using this
 have b0: ∀x∈todo,listed.getD x.1 lc=lc->looks all o x.2=li∧ ∀d,x.2.dst=jp d->o.dst≠jp d:=fun x u D=>by
  have e0:=(j0 x u D).alloc;have I:j≠x.1:=fun e=>by rw[<-e,hu]at D;cases D
  exact⟨g0.bW (hi.tl x u) Y e0 (h0 x u e0) I,((g0 _ _ (hi.tl x u) e0).2.2.2.2 _ _ Y I).2⟩
 have S:=oK.same f0 hns Y hj b1 (fun x u D=>(b0 x u D).1);have J: ∀x∈pend,listed.getD x.1 lc=li->x∈bg pend o:=fun x u c0=>by
  refine YO.2 ⟨u,?_⟩;cases hw:waits o x.1 with
  |false=>rfl
  |true=>
   obtain⟨e,he,hb,n0⟩:=gC hw;have:=a0 e he hb;rw[n0,mX c0]at this;cases this
 have e1: ∀k,(listed.setIfInBounds j lc).getD k lc=li->k≠j∧listed.getD k lc=li:=by
  intro k hk;rw[fX d0]at hk;split at hk
  .cases hk
  .rename_i h;exact⟨h,hk⟩
 have C: ∀x∈bg pend o,x∈pend:=fun x u=>(YO.1 u).1
 have A: ∀x∈todo.filter (fun x=>!YJ x.1 j),x∈todo∧x.1≠j:=fun x u=>by
  obtain⟨h7,h8⟩:=YO.1 u;exact⟨h7,fun e=>by simp[e]at h8⟩
 refine⟨b,hb,S.1,S.2,fun v M' N' s' w' u hf h5=>?_⟩;have d1: ∀x∈bg pend o,looks all x.2 x.2=li:=fun x u=>by
  rcases hi.pp x (C x u) x (C x u) with h7|h7
  .obtain⟨e,he,hb,n0⟩:=gC h7;have:=ld all 0 x.1 x.2 hd (hi.pl x (C x u)) e he hb;omega
  .exact h7
 obtain⟨c,s0,t0,r0,q0,v0⟩:=rE (listed:=listed.setIfInBounds j lc) hns (fun x u=>hi.pl x (C x u)) (hi.pw.sublist aaR) d1 h5 hf;have F: ∀x∈todo.filter (fun x=>!YJ x.1 j),(listed.setIfInBounds j lc).getD x.1 lc=listed.getD x.1 lc:=fun x u=>by rw[fX d0,be (A x u).2]
 refine⟨by simp[hi.size],fun x u=>hi.tl x (A x u).1,fun x u=>hi.pl x (C x u),fun x u y hy=>hi.dj x (C x u) y (A y hy).1,fun k q hk z0=>?_,hi.pw.sublist aaR,
      fun x u y hy=>hi.pp x (C x u) y (C y hy),fun y hy x u=>hi.pa y (C y hy) x (A x u).1,⟨bl,fun x G D=>?_,fun x G y p0 h1 h2=>?_⟩,c,s0,by rw[t0,kV,kV,o0],by rw[r0,lQ,lQ,x0],fun d i0 w0=>?_,v0⟩
 .obtain⟨h7,h8⟩:=e1 k z0;rcases hi.JG k q hk h8 with h9|h9
  .exact .inl (YO.2 ⟨h9,by cases hb:YJ k j with|false=>rfl|true=>exact absurd (YE hb) h7⟩)
  .exact .inr (J _ h9 h8)
 .rw[F x G]at D;exact((j0 x (A x G).1 D).step u).put (b0 x (A x G).1 D).2
 .rw[F x G]at h1;rw[F y p0]at h2;exact y0 x (A x G).1 y (A y p0).1 h1 h2
 .rw[q0 d i0,gK,gK,o0];split
  .rfl
  .refine f0 d (fun x u c0=>i0 x (J x u c0) ?_) (fun x G D=>?_)
   .have I:x.1≠j:=fun e=>hi.dj x u _ hm e.symm
    rw[fX d0,be I];exact c0
   .have I:x.1≠j:=fun e=>by rw[e,hu]at D;cases D
    have k0:x∈todo.filter (fun x=>!YJ x.1 j):=YO.2 ⟨G,by cases hb:YJ x.1 j with|false=>rfl|true=>exact absurd (YE hb) I⟩;exact w0 x k0 (by rw[F x k0];exact D)
theorem TX{E:List Nat}(hE:oA todo E=lc)(hne: ∃x∈todo,aU x.2=li)(b0: ∀x∈todo,aU x.2=lc-> ∀x∈pend,iL P nt all s x.2)
  (h: ∀j o,j∈E->(j,o)∈todo->(∀o',(j,o')∈todo->o'=o)->aU o=li∧(∀x∈todo,aU x.2=lc->waits o x.1=li)∧iW all pend o=lc∧(∀M N b w,Fits M N s nt b w->Region.wanted o (Go.yielded all.toArray b.tmps)=lc)∧ ∃R,OT P nt o s R∧
   ∀s',R s'->(∀x∈bg pend o,iL P nt all s' x.2)∧DL P nt all (todo.filter fun x=>!YJ x.1 j) (bg pend o) Q s'):DL P nt all todo pend Q s:=by
 intro G hd A B M N listed a w u hB
 induction u generalizing listed a w with
 |zero=>
  intro F hc;obtain⟨x,D,C⟩:=hne;have o0:listed.getD x.1 lc=li:=by
   obtain⟨bl,d0,_⟩:=F.er;cases hl:listed.getD x.1 lc with
   |false=>rfl
   |true=>have:=(d0 x D hl).alloc;rw[C]at this;cases this
  have:=oB o0;omega
 |succ u ih=>
  intro F hc;obtain⟨bl,d0,p0⟩:=F.er;have S: ∀x∈todo,aU x.2=li->listed.getD x.1 lc=li:=fun x D C=>by
   cases hl:listed.getD x.1 lc with
   |false=>rfl
   |true=>have:=(d0 x D hl).alloc;rw[C]at this;cases this
  refine⟨fun hr=>?_,fun j hj=>?_⟩
  .obtain⟨x,D,C⟩:=hne;have:=mw F.size hd hr x.1;rw[S x D C]at this;cases this
  obtain⟨hu,o,ho,c0⟩:=mem_ready.1 hj;have f0:all[j]? =jp o:=by simpa using ho
  have q0:=fy hu;rcases F.JG j o f0 hu with hm|hm
  .cases hja:aU o with
   |true=>
    obtain⟨v,Y,g0,j0,e0⟩:=F.early G hd A hB (b0 _ hm hja) hm hja hu;unfold wpOp;simp only[ho];rw[am (jB (A j o f0 hja).1 _)];refine .inl ?_;unfold Oper.wp;rw[g0];simp only[Oper.upon];exact ih _ _ _ j0 e0 (by have:=dw hu;omega)
   |false=>
   have k0:j∈E:=by
    have:=YG.1 hE _ hm;simp only[Y3,Y8,YB,Y1]at this;rcases this with h1|h1|⟨y,hy,h0,h1⟩
    .simpa using h1
    .rw[hja]at h1;cases h1
    .obtain⟨e,he,hb,n0⟩:=gC h1;have:=c0 e he hb;rw[n0,mX (S y hy h0)]at this;cases this
   obtain⟨_,h0,h1,h2,R,h3,h4⟩:=h j o k0 hm (fun o' m0=>by
    have:=F.tl _ m0;simp only at this;rw[f0]at this
    exact(Zh this).symm)
   obtain⟨b,hb,a0,i0,hnew⟩:=F.eff G hd A hm h0 h1 hj hu;unfold wpOp;simp only[ho];rw[am (by rw[i0];exact h2 M N b w hb)];refine .inl (Gm (K':=fun a' Y=> ∃I J s',Ext M N (· <s.nx) s.h w I J (· <s'.nx) s'.h Y∧Fits I J s' nt a' Y∧R s') a0 ?_ ?_ (h3 M N b w hb _ _ fun I J s' a' Y D hf hr=>⟨I,J,s',D,hf,hr⟩))
   .rintro d Y ⟨I,J,s',_,hf,_⟩;have:=hf.2.2.1;rw[lQ]at this;cases this
   .rintro v Y ⟨I,J,s',D,hf,hr⟩;obtain⟨h5,h6⟩:=h4 s' hr;exact h6 G hd A B I J _ _ Y u (hB.trans D) (hnew v I J s' Y D hf h5) (by have:=dw hu;omega)
  .obtain⟨v,hv,e0⟩:=F.take G A hm hj;refine wpOp_of_stOp (K:=fun a'=>a'=a.put o.dst v) (fun a' ha=>?_) (hv.stOp ho Z);subst ha;exact ih _ _ _ hB e0 (by have:=dw hu;omega)
theorem Rel.HY{M:Mem}{N:Nm}{n:Nat}{h:AH}{w:World}(hr:Rel M N (· <n) h w){aI e:Nat}{o:AO}(hM:M aI=kw)(hne: ∀i p,h.get i=jp p->p.real=lc->N.aI i≠aI)(ho:OR M (N.with n aI e) (· <n+1) w n o):
  Rel M (N.with n aI e) (· <n+1) ((n,jp o)::h) w:=by
 have A:=N.gB n aI e;have b: ∀i p,AH.get ((n,jp o)::h) i=jp p->(i=n∧p=o)∨(i<n∧h.get i=jp p):=by
  intro i p u;rw[AH.aw]at u;split at u
  .rename_i B;exact .inl ⟨B,by simpa using u.symm⟩
  .exact .inr ⟨hr.used i p u,u⟩
 refine⟨hr.dT,fun i p u=>?_,fun i p u C=>?_,fun i p u=>?_,fun i j p q u J G I d=>?_⟩
 .rcases b i p u with⟨rfl,rfl⟩|⟨x,y⟩<;>omega
 .rcases b i p u with⟨rfl,rfl⟩|⟨x,y⟩
  .simpa using hM
  .rw[A.aI i x];exact hr.fk i p y C
 .rcases b i p u with⟨rfl,rfl⟩|⟨x,y⟩
  .exact ho
  .exact(hr.obj i p y).mono (.refl _) A (fun i u=>by omega) x Z
 .rcases b i p u with⟨rfl,rfl⟩|⟨x,y⟩<;>rcases b j q J with⟨rfl,rfl⟩|⟨D,F⟩
  .rfl
  .rw[A.aI j D]at d;simp at d;exact absurd d.symm (hne _ _ F I)
  .rw[A.aI i x]at d;simp at d;exact absurd d (hne _ _ y G)
  .rw[A.aI i x,A.aI j D]at d;exact hr.inj i j p q y F G I d
def Cr(todo:List (Nat×Oper))(i:Nat):Bool:=todo.all fun x=>YJ x.1 i||(aU x.2||(waits x.2 i||todo.any fun y=>!aU y.2&&waits x.2 y.1))
def mZ(s:AS)(d:Nat)(cs:List PV):AS:=match s with|⟨f,h,n⟩=>⟨(d,.ptr n 0)::f,(n,jp (.cells cs))::h,n+1⟩
theorem Mi{i:Nat}{o:Oper}{t:TypeId}{z:Value}{d:Nat}(hin:(i,o)∈todo)(ht:o.op= .alloc t)(hz: ∀w,(zeroValue t).run P w= .ok z w)(n0:o.dst=jp d)(hE:Cr todo i=lc)
  (k0: ∀x∈pend,iL P nt all s x.2) (Y: ∀x∈pend,iL P nt all (mZ s d (c4 z)) x.2)
  (h:DL P nt all (todo.filter fun x=>!YJ x.1 i) pend Q (mZ s d (c4 z))):DL P nt all todo pend Q s:=by
 intro g0 hd a0 B M N listed a w C F;have b1:aU o=lc:=by simp[aU,ht]
 have HY: ∀{C:Nat} {listed:Array Bool} {a:Act} {w:World},B.ext M N s w->oK P nt all todo pend B M N s listed a w->listed.getD i lc=lc->listed.toList.count li<=C->wpAny P .any all.toArray (Sk nt B Q) C listed a w:=by
  intro C listed a w F A S hc;obtain⟨b,hb,w1,r1,i1,z1⟩:=A.ap;obtain⟨J,f0,o0⟩:=A.er;obtain⟨t',G,d',k1,k2,k3,k4,k5,k6,k7,k8⟩:=f0 _ hin S;simp only at k1 k3;have e1:t'=t:=by rw[ht]at k1;exact(Op.alloc.inj k1).symm
  subst e1;have e2:G=z:=by have:=(k2 w).symm.trans (hz w);simpa using this
  subst e2;have e3:d'=d:=by rw[n0]at k3;exact(Zh k3).symm
  subst e3;have a1:d'<nt:=by
   obtain⟨_,⟨d2,g1,g2⟩,_⟩:=a0 i o (A.tl _ hin) b1;rw[n0]at g1;rw[Zh g1];exact g2
  have ha:=N.gB s.nx (J i) G.cells.size;have w0:=hb.1.HY (aI:=J i) (e:=G.cells.size) (o:= .cells (c4 G)) k6 k7
   ⟨G.cells,t',by simpa using k5,by simp,(gj (M:=M) (N:=N.with s.nx (J i) G.cells.size) (U:=(· <s.nx+1)) G).1,(gj G).2,.none _⟩
  have s1:FR M (N.with s.nx (J i) G.cells.size) (· <s.nx+1) s.f b.tmps:=hb.2.1.mono (.refl _) ha (fun i A=>by omega);have t0:VR M (N.with s.nx (J i) G.cells.size) (· <s.nx+1) (.ptr s.nx 0) (.pointer (jp ⟨J i,0,kw⟩)):=by
   have:=VR.ptr (M:=M) (N:=N.with s.nx (J i) G.cells.size) (U:=(· <s.nx+1)) s.nx 0 (by omega);simpa using this
  have q0:Fits M (N.with s.nx (J i) G.cells.size) (mZ s d' (c4 G)) nt (b.put (jp d') (.pointer (jp ⟨J i,0,kw⟩))) w:=by
   obtain⟨sf,sh,sn⟩:=s;exact⟨w0,s1.put d' _ _ (by rw[hb.2.2.2];exact a1) t0,hb.2.2.1,by rw[kV];exact hb.2.2.2⟩
  have b0: ∀j p,(mZ s d' (c4 G)).h.get j=jp p->j=s.nx∨(j<s.nx∧s.h.get j=jp p):=by
   intro j p D;obtain⟨sf,sh,sn⟩:=s;simp only[mZ]at D;rw[AH.aw]at D;split at D
   .rename_i e;exact .inl e
   .exact .inr ⟨hb.1.used j p D,D⟩
  have u1:(mZ s d' (c4 G)).nx=s.nx+1:=by obtain⟨sf,sh,sn⟩:=s;rfl
  have j0:B.ext M (N.with s.nx (J i) G.cells.size) (mZ s d' (c4 G)) w:=by
   unfold Bs.ext at*
   refine⟨F.os,F.tape,F.output,F.size,F.jO,F.r6,F.kn,⟨fun j D=>(ha.aI j (F.ule j D)).trans (F.nm.aI j D),fun j D=>(ha.ext j (F.ule j D)).trans (F.nm.ext j D)⟩,fun j D=>by have:=F.ule j D;rw[u1];omega,fun j p D v0=>?_⟩;rcases b0 j p D with rfl|⟨h1,h2⟩
   .exact .inl (by simpa using k8)
   .rw[ha.aI j h1];exact F.jq j p h2 v0
  have v1: ∀x∈pend,looks all x.2 x.2=li:=fun x I=>by
   rcases A.pp x I x I with h7|h7
   .obtain⟨e,he,hb,d1⟩:=gC h7;have:=ld all 0 x.1 x.2 hd (A.pl x I) e he hb;omega
   .exact h7
  have u: ∀x∈todo.filter (fun x=>!YJ x.1 i),x∈todo∧x.1≠i:=fun x I=>by
   obtain⟨h7,h8⟩:=YO.1 I;exact⟨h7,fun e=>by simp[e]at h8⟩
  obtain⟨c,n1,o1,l1,j1,p1⟩:=rE (listed:=listed) g0 A.pl A.pw v1 Y q0;refine h g0 hd a0 B M _ listed a w C j0 ⟨A.size,fun x I=>A.tl x (u x I).1,A.pl,fun x I y hy=>A.dj x I y (u y hy).1,fun k q hk s0=>?_,A.pw,A.pp,fun y hy x I=>A.pa y hy x (u x I).1,⟨J,fun x d0 i0=>?_,fun x d0 y y1=>o0 x (u x d0).1 y (u y y1).1⟩,c,n1,by rw[o1,kV,w1],by rw[l1,lQ,r1],fun e z0 q1=>?_,p1⟩ hc
  .rcases A.JG k q hk s0 with h9|h9
   .refine .inl (YO.2 ⟨h9,?_⟩);cases hbq:YJ k i with
    |false=>rfl
    |true=>rw[YE hbq,S]at s0;cases s0
   .exact .inr h9
  .obtain⟨t2,z2,d2,m1,m2,m3,m4,m5,m6,m7,m8⟩:=f0 x (u x d0).1 i0;refine⟨t2,z2,d2,m1,m2,m3,m4,m5,m6,fun j p D v0=>?_,m8⟩;rcases b0 j p D with rfl|⟨h1,h2⟩
   .rw[Nm.JJ];exact fun e=>o0 x (u x d0).1 _ hin i0 S (u x d0).2 e.symm
   .rw[ha.aI j h1];exact m7 j p h2 v0
  .rw[j1 e z0,gK];by_cases p0:d'=e
   .subst p0;rw[am ⟨rfl,by rw[hb.2.2.2];exact a1⟩];exact k4
   .rw[be (fun hc=>p0 (Zh hc.1))];refine i1 e z0 (fun x I i0 he=>?_);by_cases f1:x.1=i
    .have h3:=A.tl x I;rw[f1,A.tl _ hin]at h3;rw[<-Zh h3,n0]at he;exact p0 (Zh he)
    .exact q1 x (YO.2 ⟨I,by cases hb:YJ x.1 i with|false=>rfl|true=>exact absurd (YE hb) f1⟩) i0 he
 clear h Y
 induction C generalizing listed a w with
 |zero=>
  intro A hc;cases S:listed.getD i lc with
  |true=>exact HY F A S hc
  |false=>have:=oB S;omega
 |succ C ih=>
  intro A hc;cases S:listed.getD i lc with
  |true=>exact HY F A S hc
  |false=>
   obtain⟨J,f0,o0⟩:=A.er;have y0: ∀x∈todo,aU x.2=li->listed.getD x.1 lc=li:=fun x I x1=>by
    cases S:listed.getD x.1 lc with
    |false=>rfl
    |true=>have:=(f0 x I S).alloc;rw[x1]at this;cases this
   refine⟨fun hr=>?_,fun j D=>?_⟩
   .have:=mw A.size hd hr i;rw[S]at this;cases this
   obtain⟨hu,q,hq,m0⟩:=mem_ready.1 D;have c0:all[j]? =jp q:=by simpa using hq
   rcases A.JG j q c0 hu with hm|hm
   .cases hja:aU q with
    |true=>
     obtain⟨v,w',x0,j0,r0⟩:=A.early g0 hd a0 F k0 hm hja hu;unfold wpOp;simp only[hq];rw[am (jB (a0 j q c0 hja).1 _)];refine .inl ?_;unfold Oper.wp;rw[x0];simp only[Oper.upon];exact ih _ _ _ j0 r0 (by have:=dw hu;omega)
    |false=>
     exfalso;have e0: ∀k,listed.getD k lc=li->waits q k=lc->False:=fun k hk hw=>by
      obtain⟨e,he,hb,d1⟩:=gC hw;have:=m0 e he hb;rw[d1,mX hk]at this;cases this
     have:=YG.1 hE _ hm;simp only[Y3,Y8,YB,Y1]at this;rcases this with h1|h1|h1|⟨y,hy,h0,h1⟩
     .have t1:=YE h1;subst t1;rw[A.tl _ hin]at c0;simp only[Yh]at c0;rw[<-c0,b1]at hja;cases hja
     .rw[hja]at h1;cases h1
     .exact e0 i S h1
     .exact e0 y.1 (y0 y hy h0) h1
   .obtain⟨v,hv,r0⟩:=A.take g0 a0 hm D;refine wpOp_of_stOp (K:=fun a'=>a'=a.put q.dst v) (fun a' ha=>?_) (hv.stOp hq Z);subst ha;exact ih _ _ _ F r0 (by have:=dw hu;omega)
def gX:Nat->List Oper->List (Nat×Oper)
 |_,[]=> []
 |n,o::r=>(n,o)::gX (n+1) r
theorem jV: ∀(l:List Oper) (n i:Nat) (o:Oper),(i,o)∈gX n l↔n<=i∧l[i-n]? =jp o
 | [],n,i,o=>by simp[gX]
 |c::l,n,i,o=>by
  simp only[gX,Yx,Yw];rw[jV l (n+1) i o];by_cases h:i=n
  .subst h;simp only[true_and,Ym,abi,aaV,Yh];exact⟨fun h=>h.elim Eq.symm (fun h=>by omega),fun h=> .inl h.symm⟩
  .by_cases b:n<=i
   .rw[show i-n=(i-(n+1))+1 by omega,aau];constructor
    .rintro(⟨h3,_⟩|⟨_,h3⟩)
     .exact absurd h3 h
     .exact⟨b,h3⟩
    .rintro⟨_,h3⟩;exact .inr ⟨by omega,h3⟩
   .constructor
    .rintro(⟨h3,_⟩|⟨h3,_⟩)
     .exact absurd h3 h
     .omega
    .rintro⟨h3,_⟩;exact absurd h3 b
def vj:List Oper->Bool
 | []=>lc
 |o::r=>match o.op with
  | .select ..=>li
  |_=>vj r
theorem Ai{ops:Array Oper}(h:vj ops.toList=lc):Region.noSelect ops=lc:=by
 have key: ∀l:List Oper,vj l=lc-> ∀o∈l,(match o.op with| .select ..=>li|_=>lc)=lc:=by
  intro l
  induction l with
  |nil=>intro _ o ho;cases ho
  |cons c l ih=>
   intro b o ho;unfold vj at b;split at b
   .cases b
   .rename_i d;rcases Yx.1 ho with rfl|ho
    .split
     .rename_i h;exact absurd h (d _ _)
     .rfl
    .exact ih b o ho
 unfold Region.noSelect;rw[Array.all_eq_true_iff_forall_mem];exact fun o ho=>key _ h o (by simpa using ho)
variable {k:List KI}
theorem LV{id:Nat}{ops:Array Oper}(hm:P.follows .mixedOrders=lc)(hns:Region.noSelect ops=lc)(hd:ij 0 ops.toList=lc)(y:kj P nt ops.toList)(h:GO P nt (.cP ops.toList (gX 0 ops.toList) []::k) Q s):GO P nt (.code (.region id ops lc)::k) Q s:=by
 intro M N a w D;refine wp_region_any hm ?_;have A:=D.drew;have j: ∀x∈gX 0 ops.toList,ops.toList[x.1]? =jp x.2:=fun x b=>by
  obtain⟨_,C⟩:=(jV _ 0 x.1 x.2).1 b;simpa using C
 have B: ∀i,i<ops.size->(aab ops.size li).getD i lc=li:=fun i F=>by simp[Yf,F]
 have u: ∀x∈gX 0 ops.toList,(aab ops.size li).getD x.1 lc=lc->False:=fun x b d=>by
  have:x.1<ops.size:=by simpa using(Yj.1 (j x b)).1
  rw[B _ this]at d;cases d
 have:=h (by rw[ZT];exact hns) hd y ⟨M,N,s.nx,s.h,w⟩ M N (aab ops.size li) a {w with drawn:=w.drawn+1} ops.size Ext.drew
  ⟨by simp,j,fun _ b=>(nomatch b),fun _ b=>(nomatch b),fun i o G _=> .inl ((jV _ 0 i o).2 ⟨Yl _,by simpa using G⟩),Z6,fun _ b=>(nomatch b),fun _ b=>(nomatch b),
   ⟨fun _=>0,fun x b d=>(u x b d).elim,fun x b _ _ d=>(u x b d).elim⟩,⟨a,A,rfl,rfl,fun _ _ _=>rfl,fun _ b=>(nomatch b)⟩⟩ (by simp)
 rw[ZT]at this;exact this
theorem Ej(h:GO P nt k Q s):GO P nt (.cP all [] pend::k) Q s:=TV h
def eqB:Bool->Bool->Bool
 |true,b=>b
 |false,lc=>li
 |false,li=>lc
theorem TN(a b:Bool):eqB a b=(a==b):=by cases a<;>cases b<;>rfl
def cE(nt:Nat)(all:List Oper)(f:AF)(o:Oper):Option Bool:=
 match o.guard with
 |none=>jp lc
 |some (g,want)=>match guardOf all f g with
  |some (d,.kb t)=>bif YD d nt then jp (eqB t want) else kw
  |some (_,.iv (.v (.tuple _)))=>jp li
  |_=>kw
theorem eE{o:Oper}{c:Bool}(h:cE nt all s.f o=jp c){b:Act}(hf:Fits M N s nt b w):Region.wanted o (Go.yielded all.toArray b.tmps)=c:=by
 unfold cE at h;split at h
 .rename_i j;simp only[Yh]at h;rw[jB j,h]
 .rename_i g want j;split at h
  .rename_i d t u;cases hb:YD d nt with
   |false=>simp[hb]at h
   |true=>
    simp only[hb,cond_true,Yh,TN]at h;have:=hf.xm u (Yd hb);simp[Region.wanted,j,this,<-h]
  .rename_i d x u;simp only[Yh]at h;have:=hf.xl u;simp[Region.wanted,j,this,<-h]
  .cases h
theorem Ei{i:Nat}{o:Oper}{s':AS}(hin:(i,o)∈todo)(j:aU o=li)(u: ∀x∈todo,waits o x.1=li)(hg:cE nt all s.f o=jp lc)(d:zl all pend o=lc)(he:s'.h=s.h∧s'.nx=s.nx)
  (ho: ∀M N a w,Fits M N s nt a w-> ∃x,(execOp a.eval o).run P w= .ok (.value x) w∧Fits M N s' nt (a.put o.dst x) w) (h:GO P nt (.cP all (todo.filter fun x=>!YJ x.1 i) ((i,o)::pend)::k) Q s'):GO P nt (.cP all todo pend::k) Q s:=
 HJ hin j u d he (fun M N b w y=>let ⟨x,h1,h2⟩:=ho M N b w y;⟨x,.inl ⟨eE hg y,.inl h1⟩,h2⟩) h
theorem LU{i:Nat}{o:Oper}(hin:(i,o)∈todo)(d:aU o=li)(j: ∀x∈todo,waits o x.1=li)(hg:cE nt all s.f o=jp li)(b:zl all pend o=lc)
  (h:GO P nt (.cP all (todo.filter fun x=>!YJ x.1 i) ((i,o)::pend)::k) Q (iM o s)):GO P nt (.cP all todo pend::k) Q s:=
 HJ hin d j b (jF o s) (fun _ _ _ _ u=>⟨undef,.inr ⟨eE hg u,rfl⟩,u.skip o⟩) h
theorem vu{d:Nat}{t:Bool}(F:s.f.get d= .iv (.v (.bool t)))(h1:t=lc->GO P nt (.cP all todo pend::k) Q (setBool s (.tmp d) lc))(h2:t=li->GO P nt (.cP all todo pend::k) Q (setBool s (.tmp d) li)):
  GO P nt (.cP all todo pend::k) Q s:=by
 have key:GO P nt (.cP all todo pend::k) Q (setBool s (.tmp d) t):=by
  cases t
  .exact h2 Z
  .exact h1 Z
 intro A hd y B M N listed a w x C j D;obtain⟨b,hb,u⟩:=j.ap;exact key A hd y B M N listed a w x C ⟨j.size,j.tl,j.pl,j.dj,j.JG,j.pw,j.pp,j.pa,j.er,b,hb.setBool (c:= .tmp d) F,u⟩ D
theorem xb{E:List Nat}(hE:oA todo E=lc)(hne: ∃x∈todo,aU x.2=li)(u: ∀x∈todo,aU x.2=lc-> ∀x∈pend,iL P nt all s x.2)
  (h: ∀j o,j∈E->(j,o)∈todo->(∀y,(j,y)∈todo->y=o)->aU o=li∧(∀x∈todo,aU x.2=lc->waits o x.1=li)∧iW all pend o=lc∧cE nt all s.f o=jp lc∧ ∃R,OT P nt o s R∧
   ∀s',R s'->(∀x∈bg pend o,iL P nt all s' x.2)∧GO P nt (.cP all (todo.filter fun x=>!YJ x.1 j) (bg pend o)::k) Q s'):GO P nt (.cP all todo pend::k) Q s:=
 TX hE hne u fun j o A B C=>let ⟨a,b,c,d,e⟩:=h j o A B C;⟨a,b,c, @fun _ _ _ _=>eE d,e⟩
theorem I6{i:Nat}{o:Oper}{t:TypeId}{z:Value}{d:Nat}(hin:(i,o)∈todo)(y:o.op= .alloc t)(A: ∀w,(zeroValue t).run P w= .ok z w)(u:o.dst=jp d)(hE:Cr todo i=lc)
  (j: ∀x∈pend,iL P nt all s x.2) (b: ∀x∈pend,iL P nt all (mZ s d (c4 z)) x.2)
  (h:GO P nt (.cP all (todo.filter fun x=>!YJ x.1 i) pend::k) Q (mZ s d (c4 z))):GO P nt (.cP all todo pend::k) Q s:=Mi hin y A u hE j b h
end
section
variable {P:Program} {nt:Nat} {Q:AQ} {k:List KI} {s:AS}
theorem Lw{ty:Ty}(a0:cC P ty){o:Oper}{c:Call}(ho:o.op= .call c){g:FuncId}{asv:List PV}(ha:bP s.f c=jp (g,asv)){fn:Func}{cb:Code}(B:P.funcs[g]? =jp fn)(hb:fn.body=jp cb)
  (hn:(fn.name== "runtime.NumGoroutine")=li) {G:Nat} (e0:fn.ntmps=G) {l:List ResultVar} (hl:fn.results.toList=l) (d0:asv.length<=G) {R:AS->Prop}
  (h:AW P G cb (fun e t=>(e= .normal∨e= .ret)∧ ∃r s',lv ty t l=jp r∧putDst nt o r ⟨s.f,t.h,t.nx⟩=jp s'∧R s') ⟨qS 0 asv,s.h,s.nx⟩):OT P nt o s R:=by
 intro M N a w F K Z hk;obtain⟨u,D,C,hv⟩:=Eu F ho ha (bN B hb hn);unfold Oper.wp;rw[D];simp only[Oper.upon];refine calls_of_wp B hb ?_;have A:Fits M N ⟨qS 0 asv,s.h,s.nx⟩ G {tmps:=u.toArray++aab (fn.ntmps-u.toArray.size) undef,defers:=[]} w:=by
  refine⟨F.1,fun i=>?_,rfl,by simp;omega⟩;rw[yU,am (Yl _),Nat.sub_zero,Ye];cases hi:asv[i]? with
  |none=>exact .any _
  |some p=>
   have S:i<u.length:=by rw[<-C];exact(Yj.1 hi).1
   have:=hv i p hi;have e:(u.toArray++aab (fn.ntmps-u.toArray.size) undef).getD i undef=u.getD i undef:=by
    rw[Yf,Zr (by simpa using S),Ye];simp
   simp only[ZG];rw[e];exact this
 refine AW.then h A fun e a' j I J t hx b hq=>?_;obtain⟨he,r,s',Y,hp,hR⟩:=hq;obtain⟨x,b0,c0⟩:=GZ a0 b hl Y;have y:Fits I J ⟨s.f,t.h,t.nx⟩ nt a j:=⟨b.1,F.2.1.ext hx,F.2.2⟩
 have hK:K (a.put o.dst x) j:=by
  cases hd:o.dst with
  |none=>
   have:=gP hp hd;subst this;exact hk I J {f:=s.f,h:=t.h,nx:=t.nx} _ j hx y hR
  |some d=>
   obtain⟨h1,rfl⟩:=gL hp hd;exact hk I J {f:=(d,r)::s.f,h:=t.h,nx:=t.nx} _ j hx (y.put d _ x h1 c0) hR
 have:a'.defers=[]∧ ∃v,(results fn a'.tmps).run P j= .ok v j∧K (a.put o.dst v) j:=⟨b.2.2.1,x,b0,hK⟩
 rcases he with rfl|rfl<;>exact this
theorem TD{ty:Ty}(x:cC P ty){all rest:List Oper}{o:Oper}{c:Call}(hg:o.guard=kw)(ho:o.op= .call c){g:FuncId}{asv:List PV}(ha:bP s.f c=jp (g,asv)){fn:Func}{A:Code}(d:P.funcs[g]? =jp fn)(hb:fn.body=jp A)
  (hn:(fn.name== "runtime.NumGoroutine")=li) {y:Nat} (u:fn.ntmps=y) {l:List ResultVar} (Y:fn.results.toList=l) (j:asv.length<=y)
  (h:GO P y (.code A:: .P2 nt s.f (lv ty · l) o all rest::k) Q ⟨qS 0 asv,s.h,s.nx⟩):GO P nt (.ops all (o::rest)::k) Q s:=by
 refine eH (R:=fun t=>GO P nt (.ops all rest::k) Q t) hg (Lw x ho ha d hb hn u Y j ?_) (fun t ht=>ht);intro M N a w S;refine AW.then h S fun e a' w' C D t hx b B=>⟨C,D,t,hx,b,?_⟩
 simp only[kp]at B;obtain⟨J,r,s',F,G,I⟩:=B;exact⟨J,r,s',F,G,I⟩
theorem PX{ty:Ty}(C:cC P ty){all:List Oper}{todo pend:List (Nat×Oper)}{j:Nat}{o:Oper}{c:Call}(hrd:(j,o)∈todo)(hE:oA todo [j]=lc)(D: ∀x∈todo,waits o x.1=li)(b: ∀x∈todo,aU x.2=lc-> ∀x∈pend,iL P nt all s x.2)(hpb:iW all pend o=lc)(hg:cE nt all s.f o=jp lc)(ho:o.op= .call c){g:FuncId}{asv:List PV}
  (ha:bP s.f c=jp (g,asv)) {fn:Func} {I:Code} (y:P.funcs[g]? =jp fn) (hb:fn.body=jp I)
  (hn:(fn.name== "runtime.NumGoroutine")=li) {G:Nat} (B:fn.ntmps=G) {l:List ResultVar} (hl:fn.results.toList=l) (A:asv.length<=G)
  (h:GO P G (.code I:: .P3 nt s.f (lv ty · l) j o all todo pend::k) Q ⟨qS 0 asv,s.h,s.nx⟩):GO P nt (.cP all todo pend::k) Q s:=by
 have d:aU o=li:=by simp[aU,ho]
 refine xb hE ⟨_,hrd,d⟩ b fun j' o' J _ hu=>?_;simp only[Yr]at J;subst J;have:=hu o hrd;subst this;refine⟨d,fun x F _=>D x F,hpb,hg,_,Lw C ho ha y hb hn B hl A (R:=fun s'=>(∀x∈bg pend o,iL P nt all s' x.2)∧GO P nt (.cP all (todo.filter fun x=>!YJ x.1 j') (bg pend o)::k) Q s') ?_,fun s' hs=>hs⟩;intro M N a w hf;refine AW.then h hf fun e a' w' Y N' t F u S=>⟨Y,N',t,F,u,?_⟩
 simp only[kp]at S;obtain⟨he,r,s',h1,h2,h3,h4⟩:=S;exact⟨he,r,s',h1,h2,h3,h4⟩
theorem UA.more{b:Code}{Q:AQ}: ∀{n:Nat} {s:AS},UA P nt b Q n s->n≠0
 |0,_,h=>h.elim
 |_+1,_,_=>by simp
theorem LO{b:Code}{n:Nat}(h:GO P nt (.code b:: .H5 b n::k) Q s):GO P nt (.code (.loop b)::k) Q s:=by
 have h0:UA P nt b (kp P nt k Q) (n+1) s:=by
  intro M N a w S;refine AW.then h S fun e y D u x t C d hq=>⟨u,x,t,C,d,?_⟩
  cases e<;>exact hq
 intro M0 N0 a0 w0 Y
 let J:Act->World->Nat->Prop:=fun a w m=> ∃t M N,Ext M0 N0 (· <s.nx) s.h w0 M N (· <t.nx) t.h w∧Fits M N t nt a w∧UA P nt b (kp P nt k Q) m t
 have I:J a0 w0 (n+1):=⟨s,M0,N0,.refl _ _ _ _ _,Y,h0⟩
 have dI: ∀{p:Nat->Prop},(∃n,p n)-> ∃n,p n∧ ∀m,p m->n<=m:=by
  intro p ⟨n,hn⟩
  induction n using Nat.strongRecOn with
  |_ n ih=>
   by_cases B: ∃m,m<n∧p m
   .obtain⟨m,F,G⟩:=B;exact ih m F G
   .exact⟨n,hn,fun m G=>aap fun F=>B ⟨m,F,G⟩⟩
 refine wp_loop (fun a w=> ∃n,J a w n) (fun a w=>by classical exact if h: ∃n,J a w n then aaJ (dI h) else 0) ⟨_,I⟩ fun a w b0=>?_;obtain⟨⟨t,M,N,C,S,hu⟩,c0⟩:=aan (dI b0);obtain⟨m,B⟩: ∃m,aaJ (dI b0)=m+1:=⟨aaJ (dI b0)-1,by have:=hu.more;omega⟩
 rw[B]at hu;refine AW.then hu S fun e y D u x s' j d hr=>?_
 cases e with
 |normal=>
  have A:J y D m:=⟨s',u,x,C.trans j,d,hr⟩
  refine⟨⟨_,A⟩,?_⟩;simp only[dif_pos b0,dif_pos (⟨_,A⟩: ∃n,J y D n)];have:=(aan (dI (⟨_,A⟩: ∃n,J y D n))).2 _ A;omega
 |_=>exact⟨u,x,s',C.trans j,d,hr⟩
theorem go_round{b:Code}{n:Nat}(h:GO P nt (.code b:: .H5 b n::k) Q s):GO P nt (.H5 b (n+1)::k) Q s:=by
 intro M N a w x;refine AW.then h x fun e B C j u t A d y=>⟨j,u,t,A,d,?_⟩
 cases e<;>exact y
end
section
variable {M:Mem} {N:Nm} {w:World} {n:Nat} {h:AH}
theorem bD{i:Nat}{h:AH}: ∀j o,AH.get ((i,kw)::h) j=jp o->j≠i∧h.get j=jp o:=by
 intro j o b;rw[AH.aw]at b;split at b
 .cases b
 .rename_i d;exact⟨d,b⟩
theorem Rel.move(hr:Rel M N (· <n) h w){i:Nat}{o0:AO}(hi:h.get i=jp o0)(h0:o0.real=lc)(F:World)(o:AO)(b0:F.os=w.os)(G:F.tape=w.tape)(I:F.output=w.output)(d0:F.heap.size=w.heap.size)
  (S: ∀b,b≠N.aI i->F.heap[b]? =w.heap[b]?) (ho:OR M (N.with n (N.aI i) (N.ext i)) (· <n+1) F n o):
  Ext M N (· <n) h w M (N.with n (N.aI i) (N.ext i)) (· <n+1) ((n,jp o)::(i,kw)::h) F∧Rel M (N.with n (N.aI i) (N.ext i)) (· <n+1) ((n,jp o)::(i,kw)::h) F:=by
 have D:=N.gB n (N.aI i) (N.ext i);have d: ∀j p,AH.get ((n,jp o)::(i,kw)::h) j=jp p->(j=n∧p=o)∨(j<n∧j≠i∧h.get j=jp p):=by
  intro j p y;rw[AH.aw]at y;split at y
  .rename_i J;exact .inl ⟨J,by simpa using y.symm⟩
  .obtain⟨A,B⟩:=bD j p y;exact .inr ⟨hr.used j p B,A,B⟩
 have c0:=hr.used i o0 hi;refine⟨⟨b0,G,I,by omega,fun b hb hn=>S b (fun e=>hn i o0 hi h0 e.symm),.refl _,fun b c A B=>by simp[A]at B,D,fun i hi=>by omega,fun j p y x=>?_⟩,?_⟩
 .rcases d j p y with⟨rfl,rfl⟩|⟨A,B,C⟩
  .exact .inr ⟨i,o0,hi,h0,by simp⟩
  .exact .inr ⟨j,p,C,x,(D.aI j A).symm⟩
 .refine⟨fun b c hb=>?_,fun j p y=>?_,fun j p y x=>?_,fun j p y=>?_,fun j k p q y Y hp hq u=>?_⟩
  .have a0:b≠N.aI i:=fun e=>by
    have:=hr.fk i o0 hi h0;rw[<-e,hb]at this;simp at this
   exact(hr.dT b c hb).mono (S b a0)
  .rcases d j p y with⟨rfl,rfl⟩|⟨A,B,C⟩<;>omega
  .rcases d j p y with⟨rfl,rfl⟩|⟨A,B,C⟩
   .simpa using hr.fk i o0 hi h0
   .rw[D.aI j A];exact hr.fk j p C x
  .rcases d j p y with⟨rfl,rfl⟩|⟨A,B,C⟩
   .exact ho
   .cases x:p.real with
    |true=>exact(hr.obj j p C).mono (.refl _) D (fun i hi=>by omega) A (S _ (fun e=>B (hr.inj j i p o0 C hi x h0 e)))
    |false=>
     cases p with
     |row sz es=>cases es with
      |nil=>exact .inl Z
      |cons=>cases x
     |bM l T=>cases l with
      |nil=>exact .inl Z
      |cons=>cases x
     |_=>cases x
  .rcases d j p y with⟨rfl,rfl⟩|⟨A,B,C⟩<;>rcases d k q Y with⟨rfl,rfl⟩|⟨h4,h5,h6⟩
   .rfl
   .rw[D.aI k h4]at u;simp at u;exact absurd (hr.inj _ _ _ _ hi h6 h0 hq u).symm h5
   .rw[D.aI j A]at u;simp at u;exact absurd (hr.inj _ _ _ _ C hi hp h0 u) B
   .rw[D.aI j A,D.aI k h4]at u;exact hr.inj _ _ _ _ C h6 hp hq u
theorem Rel.del{U:Nat->Prop}(hr:Rel M N U h w)(i:Nat):Rel M N U ((i,kw)::h) w:=
 ⟨hr.dT,fun j o b=>hr.used j o (bD j o b).2,fun j o b d=>hr.fk j o (bD j o b).2 d,fun j o b=>hr.obj j o (bD j o b).2,
  fun j k o p b u=>hr.inj j k o p (bD j o b).2 (bD k p u).2⟩
theorem Ext.del{u:Mem}{x:Nm}{U y:Nat->Prop}{A:AH}{B:World}(b:Ext M N U h w u x y A B)(i:Nat):Ext M N U h w u x y ((i,kw)::A) B:=
 ⟨b.os,b.tape,b.output,b.size,b.jO,b.r6,b.kn,b.nm,b.ule,fun j o C d=>b.jq j o (bD j o C).2 d⟩
theorem Rel.swap{U:Nat->Prop}{i j:Nat}(d:i≠j){o p:Option AO}(hr:Rel M N U ((i,o)::(j,p)::h) w):Rel M N U ((j,p)::(i,o)::h) w:=by
 have e: ∀k,AH.get ((j,p)::(i,o)::h) k=AH.get ((i,o)::(j,p)::h) k:=by
  intro k;simp only[AH.aw];by_cases u:k=i
  .subst u;rw[be d,am Z,am Z]
  .simp[u]
 exact⟨hr.dT,fun k o b=>hr.used k o (by rw[<-e];exact b),fun k o b=>hr.fk k o (by rw[<-e];exact b),fun k o b=>hr.obj k o (by rw[<-e];exact b),
  fun k l o p b x=>hr.inj k l o p (by rw[<-e];exact b) (by rw[<-e];exact x)⟩
end
inductive Src (h:AH) (sz:Nat):PV->List (List PV)->Prop
 |dp (n:Nat) (el:Nat->List IV):Src h sz (.iv (.dp sz n el)) ((Yv n).map fun k=>(el k).map .iv)
 |row (j off n:Nat) (fs:List (List PV)) (hj:h.get j=jp (.row sz fs)) (hle:off+n<=fs.length):Src h sz (.sl j off n sz) ((fs.drop off).take n)
 |nil:Src h sz (.iv (.v (.slice kw 0 0))) []
theorem qz{sz:Nat}: ∀{es:List (List PV)},(∀(k:Nat) (e:List PV),es[k]? =jp e->e.length=sz)-> ∀j p,es.flatten[j]? =jp p-> ∃k e i,es[k]? =jp e∧e[i]? =jp p∧j=k*sz+i
 | [],_,j,p,h=>by simp at h
 |e::r,hl,j,p,h=>by
  rw[aa9]at h;have y:=hl 0 e Z;rcases Zj j e.length with hj|hj
  .rw[YA hj]at h;exact⟨0,e,j,rfl,h,by simp⟩
  .rw[YF hj]at h;obtain⟨k,b,i,d,u,x⟩:=qz (fun k e h=>hl (k+1) e (by simpa using h)) _ p h;exact⟨k+1,b,i,by simpa using d,u,by rw[Zz];omega⟩
theorem qy{sz:Nat}: ∀{es:List (List PV)},(∀(k:Nat) (e:List PV),es[k]? =jp e->e.length=sz)->es.flatten.length=es.length*sz
 | [],_=>by simp
 |e::r,hl=>by
  rw[aa9,Yg,qy (fun k e h=>hl (k+1) e (by simpa using h)),hl 0 e Z,YT,Zz];omega
theorem uA{sz:Nat}: ∀{es:List (List PV)},(∀(k:Nat) (e:List PV),es[k]? =jp e->e.length=sz)-> ∀k e i p,es[k]? =jp e->e[i]? =jp p->es.flatten[k*sz+i]? =jp p
 | [],_,k,e,i,p,h,_=>by simp at h
 |e0::r,hl,k,e,i,p,h,hi=>by
  rw[aa9];have b:=hl 0 e0 Z;cases k with
  |zero=>
   simp at h;subst h;rw[aas,YC,YA (Yj.1 hi).1];exact hi
  |succ k=>
   rw[YF (by rw[b,Zz];omega)];rw[show(k+1)*sz+i-e0.length=k*sz+i by rw[b,Zz];omega];exact uA (fun k e h=>hl (k+1) e (by simpa using h)) k e i p (by simpa using h) hi
section
variable {P:Program} {ty:Ty} {M:Mem} {N:Nm} {w:World} {nt:Nat} {s:AS} {a:Act}
theorem Src.ok{sz:Nat}{p:PV}{news:List (List PV)}(hs:Src s.h sz p news)(hf:Fits M N s nt a w){y:Value}(hy:VR M N (· <s.nx) p y):
  (∀(k:Nat) (e:List PV),news[k]? =jp e->e.length=sz)∧ ∃G c,y= .slice G news.length c∧(news≠ []-> ∃b a0,G=jp ⟨b,a0,kw⟩∧
   ∀j p,news.flatten[j]? =jp p-> ∃u,w.cell? ⟨b,a0+j,kw⟩=jp u∧VR M N (· <s.nx) p u):=by
 cases hs with
 |dp n el=>
  cases hy with
  |iv _ _ D=>
   cases D with
   |lz _ _ G c=>exact⟨by simp,G,c,by simp,by simp⟩
   |dp _ _ _ b a0 c hn hc hl hm hr=>
    have B: ∀(k:Nat) (e:List PV),((Yv n).map fun k=>(el k).map PV.iv)[k]? =jp e->e.length=sz:=by
     intro k e x;rw[Yo,Yq]at x;obtain⟨k',C,rfl⟩:=x;obtain⟨d,A⟩:=Yj.1 C;simp at A d;subst A;simpa using hl k d
    refine⟨B,_,c,by simp,fun _=>⟨b,a0,rfl,fun j p hp=>?_⟩⟩;obtain⟨k,e,i,d,A,rfl⟩:=qz B j p hp;rw[Yo,Yq]at d;obtain⟨k',C,rfl⟩:=d;obtain⟨I,h4⟩:=Yj.1 C;simp at h4 I;subst h4;rw[Yo,Yq]at A;obtain⟨q,hq,rfl⟩:=A;have D:i<sz:=by rw[<-hl k I];exact(Yj.1 hq).1
    have h5:=hm k i I D;cases hv:M.cell b (a0+k*sz+i) with
    |none=>simp[hv]at h5
    |some u=>
     refine⟨u,by rw[<-ZR];exact hf.1.R1 hv,.iv _ _ ?_⟩;have:=hr k i q I hq;rw[hv]at this;exact this
 |row j a0 n fs hj hle=>
  have J:=hf.1.obj j _ hj;have base:(∀(k:Nat) (e:List PV),fs[k]? =jp e->e.length=sz)-> ∀(k:Nat) (e:List PV),((fs.drop a0).take n)[k]? =jp e->e.length=sz:=by
   intro h k e x;rw[Zi]at x;split at x
   .rw[Zw]at x;exact h _ e x
   .cases x
  cases hy with
  |pQ _ _ hU=>exact⟨by simp,kw,0,by simp,by simp⟩
  |sle _ _ cap hU hc x=>exact⟨by simp,jp ⟨N.aI j,0,kw⟩,cap,by simp,by simp⟩
  |sl _ _ _ _ cap hU h0 hl hc x=>
   rcases J with rfl|⟨hsz,c,T,g1,g2,g3,g4,g5⟩
   .simp at hle;omega
   refine⟨base g4,_,cap,by simp;rw[Nat.min_eq_left (by omega)],fun _=>⟨N.aI j,a0*sz,rfl,fun i p hp=>?_⟩⟩;obtain⟨k,e,F,d,A,rfl⟩:=qz (base g4) i p hp;rw[Zi]at d;split at d
   .rename_i hk;rw[Zw]at d;have b0:F<sz:=by rw[<-g4 _ e d];exact(Yj.1 A).1
    have S:a0+k<fs.length:=(Yj.1 d).1;have Y:(a0+k)*sz+F<c.size:=by
     have:(a0+k+1)*sz<=fs.length*sz:=YS _ S;rw[Zz]at this;omega
    refine⟨c.getD ((a0+k)*sz+F) undef,?_,g5 _ e _ p d A⟩;rw[show a0*sz+(k*sz+F)=(a0+k)*sz+F by rw[Zz];omega];simp[World.cell?,g1,Yf,Y]
   .cases d
 |nil=>
  cases hy with
  |iv _ _ D=>cases D with
   |v=>exact⟨by simp,kw,0,rfl,by simp⟩
theorem Bl{l:List PV}{b off:Nat}(h: ∀j p,l[j]? =jp p-> ∃u,w.cell? ⟨b,off+j,kw⟩=jp u∧VR M N (· <s.nx) p u):
  ∃y:List Value,y.length=l.length∧(∀(j:Nat) (u:Value),y[j]? =jp u->w.cell? ((⟨b,off,kw⟩:Addr).add j)=jp u)∧ ∀(j:Nat) (p:PV),l[j]? =jp p->VR M N (· <s.nx) p (y.getD j undef):=by
 refine⟨(Yv l.length).map fun j=>(w.cell? ⟨b,off+j,kw⟩).getD undef,by simp,fun j u hu=>?_,fun j p C=>?_⟩
 .rw[Yo,Yq]at hu;obtain⟨F,d,rfl⟩:=hu;obtain⟨A,B⟩:=Yj.1 d;simp at A B;subst B;obtain⟨u,hu,_⟩:=h j _ (Yi A);rw[iq,hu];rfl
 .have x:j<l.length:=(Yj.1 C).1;obtain⟨u,hu,D⟩:=h j p C;rw[Ye];simp[x,hu,D]
theorem n9(t ty e:TypeId)(i:TypeInfo)(G:P.underlying t=jp (.slice e))(hi:P.info? e=jp i)(T:TypeId)
  (g b x:Nat) (d:Array Value) (hg:w.heap[g]? =jp (.cells d T (0,0)))
  (a:Addr) (m c:Nat) (news:List Value) (F:news.length=m*i.size) (y: ∀(j:Nat) (u:Value),news[j]? =jp u->w.cell? (a.add j)=jp u) (h1: ∀u∈news,u.oneCell'=lc)
  (A:b+m<=x) (B:b*i.size+news.length<=d.size):
  (Builtin.append_ #[t,t] ty #[.slice (jp ⟨g,0,kw⟩) b x,.slice (jp a) m c]).run P w=
   .ok (.slice (jp ⟨g,0,kw⟩) (b+m) x) (w.setRow g (d.toList.take (b*i.size)++news++d.toList.drop (b*i.size+news.length)).toArray):=by
 have D:=run_firstCells_some (P:=P) w i.size m a m c news F y;have C:=run_storeCells_at P g (b*i.size) T news 0 d w hg (by simpa using B) h1;simp only[aaw]at C;simp[Builtin.append_,run_underlying G,sizeOf,typeInfo,hi,Builtin.lenOf,A,D,Addr.add_lit,C]
theorem pF(t ty e:TypeId)(i:TypeInfo)(B:P.underlying t=jp (.slice e))(hi:P.info? e=jp i)(x:Option Addr)(j d:Nat)(u:j<=d)(y:Option Addr)(c:Nat)(hs:x=kw∨ ∃b o,x=jp ⟨b,o,kw⟩):
  (Builtin.append_ #[t,t] ty #[.slice x j d,.slice y 0 c]).run P w= .ok (.slice x j d) w:=by
 have A:(Builtin.firstCells i.size 0 (.slice y 0 c)).run P w= .ok #[] w:=by
  cases y with
  |none=>simp[Builtin.firstCells]
  |some a=>simp[Builtin.firstCells,loadCells,loadCellsFrom]
 rcases hs with rfl|⟨b,o,rfl⟩
 .simp[Builtin.append_,run_underlying B,sizeOf,typeInfo,hi,Builtin.lenOf,u,A]
 .simp[Builtin.append_,run_underlying B,sizeOf,typeInfo,hi,Builtin.lenOf,u,A,storeCells]
def uL(s:AS)(i sz:Nat)(es news:List (List PV)):AS:=match s with|⟨f,h,n⟩=>⟨f,(n,jp (.row sz (es++news)))::(i,kw)::h,n+1⟩
theorem MP(s:AS)(i sz:Nat)(es news:List (List PV)):(uL s i sz es news).h=(s.nx,jp (.row sz (es++news)))::(i,kw)::s.h:=by cases s;rfl
theorem Uc(s:AS)(i sz:Nat)(es news:List (List PV)):(uL s i sz es news).f=s.f:=by cases s;rfl
theorem nG(s:AS)(i sz:Nat)(es news:List (List PV)):(uL s i sz es news).nx=s.nx+1:=by cases s;rfl
theorem qT{i sz:Nat}{es news:List (List PV)}{b:Mem}{d:Nm}{j:World}(hf:Fits M N s nt a w)(u:Ext M N (· <s.nx) s.h w b d (· <s.nx+1) ((s.nx,jp (.row sz (es++news)))::(i,kw)::s.h) j)
  (hr:Rel b d (· <s.nx+1) ((s.nx,jp (.row sz (es++news)))::(i,kw)::s.h) j):
  Ext M N (· <s.nx) s.h w b d (· <(uL s i sz es news).nx) (uL s i sz es news).h j∧Fits b d (uL s i sz es news) nt a j:=by
 rw[MP,nG];refine⟨u,?_,?_,hf.2.2⟩
 .rw[MP,nG];exact hr
 .rw[Uc,nG];exact hf.2.1.ext u
theorem Ext.swap{U A:Nat->Prop}{h d:AH}{x:Mem}{y:Nm}{C:World}{i j:Nat}(u:i≠j){o p:Option AO}(b:Ext M N U h w x y A ((i,o)::(j,p)::d) C):Ext M N U h w x y A ((j,p)::(i,o)::d) C:=by
 have e: ∀k,AH.get ((j,p)::(i,o)::d) k=AH.get ((i,o)::(j,p)::d) k:=by
  intro k;simp only[AH.aw];by_cases B:k=i
  .subst B;rw[be u,am Z,am Z]
  .simp[B]
 exact⟨b.os,b.tape,b.output,b.size,b.jO,b.r6,b.kn,b.nm,b.ule,fun k o D=>b.jq k o (by rw[<-e];exact D)⟩
theorem Ub(v1:cC P ty){o:Oper}{x y:Operand}{t u:TypeId}(ho:o.op= .call ⟨.builtin .append, #[x,y], #[t,t]⟩){e d:cO}(ht:ty t=jp e)(hk:e.k= .bb (.slice u))(hu:ty u=jp d)
  {i len sz:Nat} {es news:List (List PV)} {py:PV} (hx:ev s.f x= .sl i 0 len sz) (hi:s.h.get i=jp (.row sz es)) (D:es.length=len) (i2:d.size=sz) (hz:d.zero.cells.size=sz) (f2:0<sz)
  (d2:ev s.f y=py) (hy:Src s.h sz py news) (l1: ∀e∈news,jw e=lc) (hb:(len+news.length)*d.bytes<=140737488355328) (n2:len+news.length<=140737488355328)
  {s':AS} (hp:putDst nt o (.sl s.nx 0 (len+news.length) sz) (uL s i sz es news)=jp s'):OT P nt o s (fun t=>t=s'):=by
 refine OT.value hp fun M N a w hf=>?_;subst i2;obtain⟨⟨ii,q0,w0,a2,t1⟩,_⟩:=v1 u _ hu
 have s0:P.underlying t=jp (.slice u):=by
  have:=(v1 t _ ht).2.1;rw[hk]at this;exact this.1
 have o1:=bf hf.2.1 x;rw[hx]at o1;have w1:=bf hf.2.1 y;rw[d2]at w1;obtain⟨J,ao,c,m2,d0⟩:=hy.ok hf w1;have B: ∀v w',(Builtin.append_ #[t,t] o.type #[a.eval x,a.eval y]).run P w= .ok v w'->(execOp a.eval o).run P w= .ok (.value v) w':=by
  intro v w' h;simp only[execOp,ho,resolve];simp[invoke,builtin,h]
 rw[m2]at B;have o2:i<s.nx:=hf.1.used i _ hi;have x0:s.nx≠i:=by omega
 have c2:=hf.1.obj i _ hi;have b0:(len+news.length)*ii.bytes<=140737488355328:=by rw[a2];exact hb
 have g0: ∀(G F:List Value) (a0:Nat),G.length=es.length*d.size->F.length=news.length*d.size->(∀(k:Nat) (e:List PV) (j:Nat) (p:PV),es[k]? =jp e->e[j]? =jp p->VR M N (· <s.nx) p (G.getD (k*d.size+j) undef))->
   (∀(k:Nat) (e:List PV),es[k]? =jp e->e.length=d.size)->(∀(j:Nat) (p:PV),news.flatten[j]? =jp p->VR M N (· <s.nx) p (F.getD j undef))->len+news.length<=a0->a0<=maxLen->0<len+news.length->
   ∀z:Array Value,z=G.toArray++F.toArray++Builtin.zeroCells d.zero.cells (a0-(len+news.length))->
   ∃M' N',Ext M N (· <s.nx) s.h w M' N' (· <(uL s i d.size es news).nx) (uL s i d.size es news).h (w.drew.alloc (.cells z u))∧Fits M' N' (uL s i d.size es news) nt a (w.drew.alloc (.cells z u))∧
    VR M' N' (· <(uL s i d.size es news).nx) (.sl s.nx 0 (len+news.length) d.size) (.slice (jp ⟨w.heap.size,0,kw⟩) (len+news.length) a0):=by
  intro G F a0 j1 S k2 s1 j2 k0 z1 m1 z p1;have f0:z.size=a0*d.size:=by
   rw[p1,aaX,aaX,size_zeroCells,hz];simp only[List.size_toArray,j1,S,D];rw[<-Zz,<-Zz,Nat.add_sub_cancel' k0]
  obtain⟨N',h1,h2,h3,h4,h5⟩:=hf.1.drew.alloc (.cells z u) (.row d.size (es++news)) z.size (fun N' g1 g2 g3=>by
   refine .inr ⟨f2,z,u,by rw[g1];exact heap_alloc_new _ _,g2.symm,?_,fun k e A=>?_,fun k e j p A I=>?_⟩
   .rw[f0,Yg,D];exact YS _ k0
   .rcases Zj k es.length with hk|hk
    .rw[YA hk]at A;exact s1 k e A
    .rw[YF hk]at A;exact J _ e A
   .rcases Zj k es.length with hk|hk
    .rw[YA hk]at A;have f1:j<d.size:=by rw[<-s1 k e A];exact(Yj.1 I).1
     have p0:k*d.size+j<G.length:=by
      rw[j1];have:(k+1)*d.size<=es.length*d.size:=YS _ hk;rw[Zz]at this;omega
     have:=k2 k e j p A I;have e1:z.getD (k*d.size+j) undef=G.getD (k*d.size+j) undef:=by
      rw[p1,Yf,Array.append_assoc,Zr (by simpa using p0),Ye];simp
     rw[e1];exact this.mono (.refl _) g3 (fun i hi=>by omega)
    .rw[YF hk]at A;have f1:j<d.size:=by rw[<-J _ e A];exact(Yj.1 I).1
     have i1:k-es.length<news.length:=(Yj.1 A).1;have d1:=uA J _ e j p A I;have p0:(k-es.length)*d.size+j<F.length:=by
      rw[S];have:(k-es.length+1)*d.size<=news.length*d.size:=YS _ i1;rw[Zz]at this;omega
     have e0:k*d.size+j=G.length+((k-es.length)*d.size+j):=by
      rw[j1,Nat.sub_mul];have:es.length*d.size<=k*d.size:=YS _ hk;omega
     have:=j2 _ p d1;have e1:z.getD (k*d.size+j) undef=F.getD ((k-es.length)*d.size+j) undef:=by
      rw[p1,Yf,e0,Zr (by simp;omega),Array.getElem?_append_right (by simp),Ye];simp
     rw[e1];exact this.mono (.refl _) g3 (fun i hi=>by omega))
  have e2:=(h5.del i).swap (Ne.symm x0);have l2:=(((Ext.drew (M:=M) (N:=N) (U:=(· <s.nx)) (h:=s.h) (w:=w)).trans h4).del i).swap (Ne.symm x0);obtain⟨g1,g2⟩:=qT hf l2 e2;refine⟨M,N',g1,g2,?_⟩;rw[nG];have:=VR.sl (M:=M) (N:=N') (U:=(· <s.nx+1)) s.nx 0 (len+news.length) d.size a0 (by omega) m1 k0 z1 (by rw[h2,f0];simp);rw[h1,aas]at this;exact this
 have n0: ∀F:List Value,F.length=news.flatten.length->F.length=news.length*ii.size:=fun F h=>by rw[h,qy J,w0]
 generalize a.eval x=vx at o1 B;cases o1 with
 |pQ _ _ hU=>
  have A:es=[]:=by simpa using D
  subst A;by_cases hm:news=[]
  .subst hm;have C:=pF (P:=P) (w:=w) t o.type u ii s0 q0 kw 0 0 (Ym _) ao c (.inl Z);obtain⟨h1,h2⟩:=hf.1.Nj d.size;obtain⟨g1,g2⟩:=qT (es:=[]) (news:=[]) (i:=i) hf ((h1.del i).swap (Ne.symm x0)) ((h2.del i).swap (Ne.symm x0));exact⟨_,w,M,N,B _ _ C,g1,g2,.pQ _ _ (by rw[nG];omega)⟩
  .obtain⟨b,z0,a1,Y⟩:=d0 hm;subst a1;obtain⟨F,S,y0,v0⟩:=Bl (s:=s) Y;have u1:0<news.length:=List.length_pos_iff.2 hm;have C:=run_append_nil (P:=P) w t o.type u ii d.zero s0 q0 t1 ⟨b,z0,kw⟩ news.length c F (n0 F S) y0 u1 (by omega) (by simp only[ZM,YC]at b0;omega);obtain⟨M',N',g1,g2,g3⟩:=g0 [] F (grownCap w news.length 0 u) (by simp) (by rw[S,qy J]) (by simp) (by simp) v0 (by simpa using grownCap_ge w news.length 0 u) (grownCap_le_maxLen w _ _ _ (by simp only[maxLen];omega)) (by omega) _ Z;simp only[YC,aaj] at*
   exact⟨_,_,M',N',B _ _ C,by simpa using g1,by simpa using g2,by simpa using g3⟩
 |sl _ _ _ _ a0 hU h0 hl hc hext=>
  rcases c2 with rfl|⟨hsz0,cur,T,q1,q2,q3,q4,q5⟩
  .simp at D;omega
  have j0:(AO.row d.size es).real=lc:=by cases es with
   |nil=>simp at D;omega
   |cons=>rfl
  rw[aas]at B;have m0:cur.size=a0*d.size:=by rw[q2,<-hext,YC]
  by_cases hm:news=[]
  .subst hm;have C:=pF (P:=P) (w:=w) t o.type u ii s0 q0 (jp ⟨N.aI i,0,kw⟩) len a0 hl ao c (.inr ⟨_,_,rfl⟩)
   obtain⟨h1,h2⟩:=hf.1.move hi j0 w (.row d.size (es++ [])) Z Z Z Z (fun _ _=>rfl) (by
    rw[Y0]
    exact .inr ⟨hsz0,cur,T,by simpa using q1,by simpa using q2,q3,q4,fun k e j p A I=>(q5 k e j p A I).mono (.refl _) (N.gB _ _ _) (fun i hi=>by omega)⟩)
   obtain⟨g1,g2⟩:=qT (es:=es) (news:=[]) (i:=i) hf h1 h2;refine⟨_,w,M,_,B _ _ C,g1,g2,?_⟩;have:=VR.sl (M:=M) (N:=N.with s.nx (N.aI i) (N.ext i)) (U:=(· <s.nx+1)) s.nx 0 len d.size a0 (by omega) h0 hl hc (by simpa using hext);rw[nG];simpa using this
  .obtain⟨b,z0,a1,Y⟩:=d0 hm;subst a1;obtain⟨F,S,y0,v0⟩:=Bl (s:=s) Y;have u1:0<news.length:=List.length_pos_iff.2 hm;have o0:F.length=news.length*d.size:=by rw[S,qy J]
   have r0: ∀(j:Nat) (v:Value),(cur.toList.take (len*d.size))[j]? =jp v->w.cell? ((⟨N.aI i,0,kw⟩:Addr).add j)=jp v:=by
    intro j v hv;rw[Zi]at hv;split at hv
    .rw[iq,YC];simp only[World.cell?,q1];simpa using hv
    .cases hv
   have p2:len*d.size<=cur.size:=by rw[m0];exact YS _ hl
   have i0: ∀(k:Nat) (e:List PV) (j:Nat) (p:PV),es[k]? =jp e->e[j]? =jp p->k*d.size+j<len*d.size:=by
    intro k e j p A I;have hk:k<len:=by rw[<-D];exact(Yj.1 A).1
    have f1:j<d.size:=by rw[<-q4 k e A];exact(Yj.1 I).1
    have:(k+1)*d.size<=len*d.size:=YS _ hk;rw[Zz]at this;omega
   by_cases c0:len+news.length<=a0
   .have b1:len*d.size+F.length<=cur.size:=by rw[o0,<-Zz,m0];exact YS _ c0
    have t0: ∀v∈F,v.oneCell'=lc:=by
     intro v hv;obtain⟨j,I⟩:=Y9 hv;have b2:j<news.flatten.length:=by rw[<-S];exact(Yj.1 I).1
     have hp:=Yi b2;obtain⟨k,e,i',h1,h2,_⟩:=qz J j _ hp;have:=(v0 j _ hp).one (oI (l1 e (YL h1)) i' _ h2);rw[Ye,I]at this;exact this
    have C:=n9 (P:=P) (w:=w) t o.type u ii s0 q0 T (N.aI i) len a0 cur q1 ⟨b,z0,kw⟩ news.length c F (n0 F S) y0 t0 c0 (by rw[w0];exact b1);rw[w0]at C;generalize hL:(cur.toList.take (len*d.size)++F++cur.toList.drop (len*d.size+F.length)).toArray=L at C;have r1:L.size=cur.size:=by rw[<-hL];simp;omega
    have n1:=setRow_heap w (N.aI i) cur L T (0,0) q1;have y1: ∀j,j<len*d.size->L.getD j undef=cur.getD j undef:=by
     intro j I;rw[<-hL,Yf,Yf];simp only[ZB];rw[Yu,YA (by simp;omega),Zi,am I,Zn]
    have x1: ∀j,j<F.length->L.getD (len*d.size+j) undef=F.getD j undef:=by
     intro j I;rw[<-hL,Yf,Ye];simp only[ZB];rw[YA (by simp;omega),YF (by simp;omega)];congr 2;simp;omega
    obtain⟨h1,h2⟩:=hf.1.move hi j0 (w.setRow (N.aI i) L) (.row d.size (es++news)) Z Z Z (by simp) (fun b hb=>by
      simp only[World.setRow,Za]
      rw[be (fun e=>hb e.symm)]) (by
     refine .inr ⟨hsz0,L,T,by simpa using n1,by rw[r1];simpa using q2,?_,fun k e A=>?_,fun k e j p A I=>?_⟩
     .rw[r1,m0,Yg,D];exact YS _ c0
     .rcases Zj k es.length with hk|hk
      .rw[YA hk]at A;exact q4 k e A
      .rw[YF hk]at A;exact J _ e A
     .rcases Zj k es.length with hk|hk
      .rw[YA hk]at A;rw[y1 _ (i0 k e j p A I)];exact(q5 k e j p A I).mono (.refl _) (N.gB _ _ _) (fun i hi=>by omega)
      .rw[YF hk]at A;have f1:j<d.size:=by rw[<-J _ e A];exact(Yj.1 I).1
       have i1:k-es.length<news.length:=(Yj.1 A).1;have d1:=uA J _ e j p A I;have p0:(k-es.length)*d.size+j<F.length:=by
        rw[o0];have:(k-es.length+1)*d.size<=news.length*d.size:=YS _ i1;rw[Zz]at this;omega
       have e0:k*d.size+j=len*d.size+((k-es.length)*d.size+j):=by
        rw[<-D,Nat.sub_mul];have:es.length*d.size<=k*d.size:=YS _ hk;omega
       rw[e0,x1 _ p0]
       exact(v0 _ p d1).mono (.refl _) (N.gB _ _ _) (fun i hi=>by omega))
    obtain⟨g1,g2⟩:=qT (es:=es) (news:=news) (i:=i) hf h1 h2;refine⟨_,_,M,_,B _ _ C,g1,g2,?_⟩;have:=VR.sl (M:=M) (N:=N.with s.nx (N.aI i) (N.ext i)) (U:=(· <s.nx+1)) s.nx 0 (len+news.length) d.size a0 (by omega) (by omega) c0 hc (by simpa using hext);rw[nG];simpa using this
   .have C:=run_append_grow (P:=P) w t o.type u ii d.zero s0 q0 t1 ⟨N.aI i,0,kw⟩ len a0 (cur.toList.take (len*d.size)) (by rw[w0];simp;omega) r0 ⟨b,z0,kw⟩ news.length c F (n0 F S) y0 (by omega) (by omega)
     (growslice_fits (by omega) b0)
    obtain⟨M',N',g1,g2,g3⟩:=g0 (cur.toList.take (len*d.size)) F (grownCap w (len+news.length) a0 u) (by rw[D];simp;omega) o0 (fun k e j p A I=>by
      have:=q5 k e j p A I;have p0:=i0 k e j p A I;rw[Ye,Zi,am p0,Zn]
      rw[Yf]at this;exact this) q4 v0 (grownCap_ge w _ _ _) (grownCap_le_maxLen w _ _ _ (by simp only[maxLen];omega)) (by omega) _ Z
    exact⟨_,_,M',N',B _ _ C,g1,g2,g3⟩
def S8(h:AH)(sz:Nat):PV->Option (List (List PV))
 | .iv (.dp sz' n el)=>match YJ sz' sz with
  |true=>jp ((Yv n).map fun k=>(el k).map .iv)
  |false=>kw
 | .iv (.v (.slice kw 0 0))=>jp []
 | .sl j off n sz'=>match YJ sz' sz,h.get j with
  |true,jp (.row sz2 fs)=>match YJ sz2 sz,aaf (off+n) fs.length with
   |true,lc=>jp ((fs.drop off).take n)
   |_,_=>kw
  |_,_=>kw
 |_=>kw
theorem OE{h:AH}{sz:Nat}{p:PV}{news:List (List PV)}(hs:S8 h sz p=jp news):Src h sz p news:=by
 unfold S8 at hs;split at hs
 .split at hs
  .rename_i hb;simp only[Yh]at hs;have:=YE hb;subst this;subst hs;exact .dp _ _
  .cases hs
 .simp only[Yh]at hs;subst hs;exact .nil
 .split at hs
  .rename_i b y;split at hs
   .rename_i d j;simp only[Yh]at hs;have u:=YE b;have x:=YE d;subst u;subst x;subst hs;exact .row _ _ _ _ y (Yd j)
   .cases hs
  .cases hs
 .cases hs
def allOnes:List (List PV)->Bool
 | []=>lc
 |e::r=>match jw e with
  |true=>allOnes r
  |false=>li
theorem nf: ∀{l:List (List PV)},allOnes l=lc-> ∀e∈l,jw e=lc
 | [],_,e,h=>by cases h
 |c::l,h,e,he=>by
  simp only[allOnes]at h;split at h
  .rename_i b;rcases Yx.1 he with rfl|he
   .exact b
   .exact nf h e he
  .cases h
def xp(s:AS)(t sz:Nat):AS:=match s with|⟨f,h,n⟩=>⟨(t,.sl n 0 0 sz)::f,(n,jp (.row sz []))::h,n+1⟩
theorem Ni{o:Oper}{R:AS->Prop}{t sz:Nat}(x:s.f.get t= .iv (.v (.slice kw 0 0)))(h:OT P nt o (xp s t sz) R):OT P nt o s R:=by
 intro M N a w b K Z G;obtain⟨S,Y,sn⟩:=s;obtain⟨C,D⟩:=b.1.Nj sz;have j:Fits M N (xp ⟨S,Y,sn⟩ t sz) nt a w:=by
  refine⟨D,fun k=>?_,b.2.2⟩;simp only[xp];rw[AF.aw];split
  .rename_i u;subst u;have:=b.2.1 k;simp only at x this;rw[x]at this;generalize a.tmps.getD k undef=v at this;cases this with
   |iv _ _ h=>cases h with
    |v=>exact .pQ _ _ (ZY _)
  .exact(b.2.1 k).mono (.refl _) (.refl _ _) (fun i F=>aag F)
 exact h M N a w j K Z fun y A s' B w' J d I=>G y A s' B w' (C.trans J) d I
def FC(s:AS)(op:Op):Option (Nat×TypeId):=
 match op with
 | .call ⟨.builtin .append,args,tys⟩=>match args.toList,tys.toList with
  | [.tmp t0,_],[t,_]=>match s.f.get t0 with
   | .iv (.v (.slice kw 0 0))=>jp (t0,t)
   |_=>kw
  |_,_=>kw
 |_=>kw
theorem IJ{op:Op}{t0:Nat}{t:TypeId}(h:FC s op=jp (t0,t)):s.f.get t0= .iv (.v (.slice kw 0 0)):=by
 unfold FC at h;split at h
 .split at h
  .split at h
   .rename_i b;simp only[Yh,Yw]at h;rw[<-h.1];exact b
   .cases h
  .cases h
 .cases h
end
end
section
section
variable {kc:KC} {V:Type} {M:Mem} {e:V->IV} {m:List (kc.K×V)} {ents:Array MapEntry} {clock:Nat}
theorem l0.LY(h:l0 M kc e m ents clock){j:Nat}(hj:j<ents.size):ents.getD j io=ents[j]:=by simp[Yf,hj]
theorem l0.set(h:l0 M kc e m ents clock){i:Nat}{k:kc.K}{v:V}{y:Value}(Y:IR M (e v) y):l0 M kc e (m.set i (k,v)) (ents.modify i fun x=>{x with key:=kc.ek k,val:=y}) clock:=by
 have hb: ∀(j:Nat) (f:MapEntry),(ents.modify i fun x=>{x with key:=kc.ek k,val:=y})[j]? =jp f-> ∃g,ents[j]? =jp g∧g.born=f.born:=by
  intro j f d;rw[Za]at d;split at d
  .obtain⟨g,F,rfl⟩:=Yq.1 d;exact⟨g,F,rfl⟩
  .exact⟨f,d,rfl⟩
 have G: ∀(j:Nat) (x:kc.K×V),(m.set i (k,v))[j]? =jp x->(j=i∧x=(k,v)∧i<m.length)∨(j≠i∧m[j]? =jp x):=by
  intro j x b;rw[Y4]at b;split at b
  .rename_i B;split at b
   .simp only[Yh]at b;exact .inl ⟨B.symm,b.symm,by assumption⟩
   .cases b
  .rename_i B;exact .inr ⟨fun e=>B e.symm,b⟩
 refine⟨by simp[h.size],fun j x b=>?_,fun j x b=>?_,fun j l f g d F D=>?_,fun j f d=>?_⟩
 .rcases G j x b with⟨rfl,rfl,C⟩|⟨u,A⟩
  .have:j<ents.size:=by rw[h.size];exact C
   rw[Yf,Za,am Z,Zb this];rfl
  .have:=h.key j x A;rw[Yf,Za,be (fun e=>u e.symm),<-Yf];exact this
 .rcases G j x b with⟨rfl,rfl,C⟩|⟨u,A⟩
  .have:j<ents.size:=by rw[h.size];exact C
   rw[Yf,Za,am Z,Zb this];exact Y
  .have:=h.val j x A;rw[Yf,Za,be (fun e=>u e.symm),<-Yf];exact this
 .obtain⟨f',u,A⟩:=hb j f d;obtain⟨I,J,S⟩:=hb l g F;exact h.inj j l f' I u J (by rw[A,S,D])
 .obtain⟨f',u,A⟩:=hb j f d;rw[<-A];exact h.lt j f' u
theorem l0.push(h:l0 M kc e m ents clock){k:kc.K}{v:V}{y:Value}(J:IR M (e v) y):l0 M kc e (m++ [(k,v)]) (ents.push {key:=kc.ek k,val:=y,born:=clock}) (clock+1):=by
 have C: ∀(j:Nat) (x:kc.K×V),(m++ [(k,v)])[j]? =jp x->(j=ents.size∧x=(k,v))∨(j<ents.size∧m[j]? =jp x):=by
  intro j x d;rw[h.size];rcases Zj j m.length with hj|hj
  .rw[YA hj]at d;exact .inr ⟨hj,d⟩
  .rw[YF hj]at d;have D:j-m.length=0:=by
    rcases Nat.eq_zero_or_pos (j-m.length) with h1|h1
    .exact h1
    .rw[Z0 (by simp;omega)]at d;cases d
   rw[D]at d;exact .inl ⟨by omega,by simpa using d.symm⟩
 have hb: ∀(j:Nat) (f:MapEntry),(ents.push {key:=kc.ek k,val:=y,born:=clock})[j]? =jp f->(j=ents.size∧f.born=clock)∨(j<ents.size∧ents[j]? =jp f∧f.born<clock):=by
  intro j f b;rw[aaB]at b;split at b
  .rename_i hj;simp only[Yh]at b;subst b;exact .inl ⟨hj,rfl⟩
  .exact .inr ⟨(Zy.1 b).1,b,h.lt j f b⟩
 refine⟨by simp[h.size],fun j x d=>?_,fun j x d=>?_,fun j l f g b I A=>?_,fun j f b=>?_⟩
 .rcases C j x d with⟨rfl,rfl⟩|⟨h1,u⟩
  .simp[Yf]
  .have:=h.key j x u;rw[Yf,aaB,be (by omega),<-Yf];exact this
 .rcases C j x d with⟨rfl,rfl⟩|⟨h1,u⟩
  .simpa[Yf]using J
  .have:=h.val j x u;rw[Yf,aaB,be (by omega),<-Yf];exact this
 .rcases hb j f b with⟨h1,u⟩|⟨h1,u,F⟩<;>rcases hb l g I with⟨G,B⟩|⟨G,B,S⟩
  .omega
  .omega
  .omega
  .exact h.inj j l f g u B A
 .rcases hb j f b with⟨h1,u⟩|⟨h1,u,F⟩<;>omega
theorem l0.erase(h:l0 M kc e m ents clock){i:Nat}(hi:i<m.length):l0 M kc e (m.eraseIdx i) (ents.eraseIdxIfInBounds i) clock:=by
 have B:i<ents.size:=by rw[h.size];exact hi
 have C: ∀j,(ents.eraseIdxIfInBounds i)[j]? =if j<i then ents[j]? else ents[j+1]? :=by
  intro j;simp only[abb,B,dif_pos];rw[Array.getElem?_eraseIdx]
 have D: ∀j,(m.eraseIdx i)[j]? =if j<i then m[j]? else m[j+1]? :=fun j=>List.getElem?_eraseIdx;refine⟨?_,fun j x y=>?_,fun j x y=>?_,fun j l f g d b u=>?_,fun j f d=>?_⟩
 .simp only[abb,B,dif_pos,Array.size_eraseIdx,List.length_eraseIdx,hi,if_true,h.size]
 .rw[D]at y;rw[Yf,C];split at y
  .rename_i A;rw[am A,<-Yf];exact h.key j x y
  .rename_i A;rw[be A,<-Yf];exact h.key _ x y
 .rw[D]at y;rw[Yf,C];split at y
  .rename_i A;rw[am A,<-Yf];exact h.val j x y
  .rename_i A;rw[be A,<-Yf];exact h.val _ x y
 .rw[C]at d b;split at d<;>split at b
  .exact h.inj _ _ f g d b u
  .have:=h.inj _ _ f g d b u;omega
  .have:=h.inj _ _ f g d b u;omega
  .have:=h.inj _ _ f g d b u;omega
 .rw[C]at d;split at d<;>exact h.lt _ f d
theorem Bx(kc:KC)(k:kc.K):Instr.sameBits 10000 (kc.ek k) (kc.ek k)=lc:=by
 have d: ∀(n:Nat) (a:ByteArray),Instr.sameBits n (.string a) (.string a)=lc:=by
  intro n a;cases n<;>(simp only[Instr.sameBits];rw[beq_toListBytes,Bv];simp)
 have b: ∀(n:Nat) (q:IntKind) (a:Int),Instr.sameBits n (.int q a) (.int q a)=lc:=by
  intro n q a;cases n<;>simp[Instr.sameBits]
 cases kc with
 |str=>exact d _ _
 |int q=>exact b _ _ _
 |si q=>
  simp only[KC.ek];show((#[Value.string k.1,.int q k.2].size== #[Value.string k.1,.int q k.2].size)&&(Instr.sameBits 9999 (.string k.1) (.string k.1)&&(Instr.sameBits 9999 (.int q k.2) (.int q k.2)&&lc)))=lc;rw[d,b];rfl
end
def Sq(ty:Ty)(s:AS):Op->Option (Prop×AS)
 | .mapUpdate t m k x=>match ev s.f m with
  | .mp i=>match s.h.get i with
   |some (.map kc e z zv dv mm)=>match ty t with
    |some ⟨.bb (.map kt _),_,_,_,_⟩=>match gv ty kt with
     |some kc'=>match lw (kc'=kc),kc.dk (ev s.f k) with
      |true,jp kk=>match s with
       |⟨f,h,n⟩=>yr (ev f x) fun p=>jp (aG p (.iv (e (dv p))),⟨f,(i,jp (.map kc e z zv dv (ck kc mm kk (dv p))))::h,n⟩)
      |_,_=>kw
     |none=>kw
    |_=>kw
   |_=>kw
  |_=>kw
 | .call ⟨.builtin .delete,args,tys⟩=>match args.toList,tys.toList with
  | [m,k],[t,_]=>match ev s.f m with
   | .mp i=>match s.h.get i with
    |some (.map kc e z zv dv mm)=>match ty t with
     |some ⟨.bb (.map kt _),_,_,_,_⟩=>match gv ty kt with
      |some kc'=>match lw (kc'=kc),kc.dk (ev s.f k) with
       |true,jp kk=>match s with
        |⟨f,h,n⟩=>jp (True,⟨f,(i,jp (.map kc e z zv dv (pO kc mm kk)))::h,n⟩)
       |_,_=>kw
      |none=>kw
     |_=>kw
    |_=>kw
   |_=>kw
  |_,_=>kw
 |_=>kw
section
variable {P:Program} {ty:Ty} {nt:Nat} {s:AS} {M:Mem} {N:Nm} {w:World}
def xD(w:World)(b:Nat)(o:Obj):World:={w with heap:=w.heap.setIfInBounds b o}
theorem vS{nx:Nat}{h:AH}(hr:Rel M N (· <nx) h w){i:Nat}{kc:KC}{V:Type}{e:V->IV}{z:V}{A:Value}{u:PV->V}{D y:List (kc.K×V)}(hi:h.get i=jp (.map kc e z A u D)){j:Array MapEntry}{d:Nat}
  (hm:l0 M kc e y j d):Ext M N (· <nx) h w M N (· <nx) ((i,jp (.map kc e z A u y))::h) (xD w (N.aI i) (.map j d))∧Rel M N (· <nx) ((i,jp (.map kc e z A u y))::h) (xD w (N.aI i) (.map j d)):=by
 have B:=hr.obj i _ hi;have x:=OR.lt B Z;obtain⟨ents,clock,F,G,C⟩:=B;refine hr.write hi Z _ _ Z Z Z (by simp[xD]) (fun b hb=>?_) ⟨j,d,?_,hm,C⟩
 .show(w.heap.setIfInBounds _ _)[b]? =_;rw[Y2,be (fun e=>hb e.symm)]
 .show(w.heap.setIfInBounds _ _)[_]? =_;rw[Y2,am Z,am x]
theorem nu{r:Nat}{es:Array MapEntry}{clock:Nat}(o:Obj)(hb:w.heap[r]? =jp (.map es clock)):(setObj r o).run P w= .ok () (xD w r o):=by
 simp[setObj,Sem.run,hb,xD]
theorem No(G:cC P ty){o:Oper}{C:Prop}{s1 s':AS}(h:Sq ty s o.op=jp (C,s1))(hC:C)(hp:putDst nt o .any s1=jp s'):OT P nt o s (fun t=>t=s'):=by
 unfold Sq at h;split at h
 .rename_i t m k x ho;split at h
  .rename_i i J;split at h
   .rename_i V kc e z zv dv mm hi;split at h
    .rename_i kt et _ _ _ _ he;have hu:=(G _ _ he).2.1.1;split at h
     .rename_i b S;split at h
      .rename_i B hd c0;have hd:=of_decide_eq_true hd;subst hd;obtain⟨f,hh,n⟩:=s;simp only[eO,Yh,Yw]at h;obtain⟨rfl,rfl⟩:=h;refine OT.skip hp fun M N a w F=>?_;have d0:=Mj c0 (bf F.2.1 k);have D:=bf F.2.1 m;simp only at J;rw[J]at D
       have j0:IR M (e (dv (ev f x))) (a.eval x):=by
        have:=hC M N (· <n) _ (bf F.2.1 x);generalize a.eval x=y at this;cases this with
        |iv _ _ h=>exact h
       obtain⟨ents,clock,h1,Y,h3⟩:=F.1.obj i _ hi;have I:=qs (P:=P) (w:=w) G S B li 9998;have A:=tw (P:=P) (w:=w) G S B Y.keys;have hg:(getObj (N.aI i)).run P w= .ok (.map ents clock) w:=by simp[getObj,Sem.run,h1]
       have a0: ∀u d,l0 M b e (ck b mm B (dv (ev f x))) u d->(Instr.mapUpdate t (.map (jp (N.aI i))) (b.ek B) (a.eval x)).run P w= .ok () (xD w (N.aI i) (.map u d))->
         ∃w' M' N',(execOp a.eval o).run P w= .ok .skip w'∧Ext M N (· <n) hh w M' N' (· <n) ((i,jp (.map b e z zv dv (ck b mm B (dv (ev f x)))))::hh) w'∧
          Fits M' N' ⟨f,(i,jp (.map b e z zv dv (ck b mm B (dv (ev f x)))))::hh,n⟩ nt a w':=by
        intro u d g1 g2;obtain⟨g3,g4⟩:=vS F.1 hi g1;refine⟨_,M,N,?_,g3,g4,F.2.1,F.2.2⟩;have e0:a.eval m= .map (jp (N.aI i)):=by
         generalize a.eval m=y at D;cases D;rfl
        simp only[execOp,ho,e0,d0];simp[g2]
       cases hfi:lB b mm B with
       |none=>
        obtain⟨_,_,g3,_⟩:=mc hfi;rw[hfi]at A;refine a0 _ _ (by rw[g3];exact Y.push j0) ?_;simp[Instr.mapUpdate,run_underlying hu,hg,I,A,nu (P:=P) _ h1]
       |some j=>
        obtain⟨v,g0,_,_,g3,_⟩:=mb hfi;rw[hfi]at A;refine a0 _ _ (by rw[g3];exact Y.set j0) ?_;have hj:j<ents.size:=by rw[Y.size];exact(Yj.1 g0).1
        have i0:=Y.key j _ g0;rw[Y.LY hj]at i0;have m0:(Instr.keyThatStays (b.ek B) (b.ek B)).run P w= .ok (b.ek B) w:=by simp[Instr.keyThatStays,Bx]
        simp[Instr.mapUpdate,run_underlying hu,hg,I,A,hj,i0,m0,nu (P:=P) _ h1]
      .cases h
     .cases h
    .cases h
   .cases h
  .cases h
 .rename_i args k0 ho;split at h
  .rename_i m k t t' b0 f0;have ha:args= #[m,k]:=by rw[<-ZT (xs:=args),b0]
   have ht:k0= #[t,t']:=by rw[<-ZT (xs:=k0),f0]
   subst ha ht;split at h
   .rename_i i J;split at h
    .rename_i V kc e z zv dv mm hi;split at h
     .rename_i kt et _ _ _ _ he;have hu:=(G _ _ he).2.1.1;split at h
      .rename_i b S;split at h
       .rename_i B hd c0;have hd:=of_decide_eq_true hd;subst hd;obtain⟨f,hh,n⟩:=s;simp only[Yh,Yw]at h;obtain⟨rfl,rfl⟩:=h;refine OT.value hp fun M N a w F=>?_;have d0:=Mj c0 (bf F.2.1 k);have D:=bf F.2.1 m;simp only at J;rw[J]at D;obtain⟨ents,clock,h1,Y,h3⟩:=F.1.obj i _ hi;have I:=qs (P:=P) (w:=w) G S B ents.isEmpty 9998;have A:=tw (P:=P) (w:=w) G S B Y.keys;have hg:(getObj (N.aI i)).run P w= .ok (.map ents clock) w:=by simp[getObj,Sem.run,h1]
        have a0: ∀u d,l0 M b e (pO b mm B) u d->(Builtin.delete_ #[t,t'] o.type #[.map (jp (N.aI i)),b.ek B]).run P w= .ok (.tuple #[]) (xD w (N.aI i) (.map u d))->
          ∃x w' M' N',(execOp a.eval o).run P w= .ok (.value x) w'∧Ext M N (· <n) hh w M' N' (· <n) ((i,jp (.map b e z zv dv (pO b mm B)))::hh) w'∧
           Fits M' N' ⟨f,(i,jp (.map b e z zv dv (pO b mm B)))::hh,n⟩ nt a w'∧VR M' N' (· <n) .any x:=by
         intro u d g1 g2;obtain⟨g3,g4⟩:=vS F.1 hi g1;refine⟨.tuple #[],_,M,N,?_,g3,⟨g4,F.2.1,F.2.2⟩,.any _⟩;have e0:a.eval m= .map (jp (N.aI i)):=by
          generalize a.eval m=y at D;cases D;rfl
         simp only[execOp,ho,resolve];simp[invoke,builtin,e0,d0,g2]
        cases hfi:lB b mm B with
        |none=>
         obtain⟨_,_,_,g3⟩:=mc hfi;rw[hfi]at A;refine a0 _ _ (by rw[g3];exact Y) ?_;simp[Builtin.delete_,run_underlying hu,hg,I,A,nu (P:=P) _ h1]
        |some j=>
         obtain⟨v,g0,_,_,_,g3⟩:=mb hfi;rw[hfi]at A;refine a0 _ _ (by rw[g3];exact Y.erase (Yj.1 g0).1) ?_;simp[Builtin.delete_,run_underlying hu,hg,I,A,nu (P:=P) _ h1]
       .cases h
      .cases h
     .cases h
    .cases h
   .cases h
  .cases h
 .cases h
end
section
variable {P:Program} {ty:Ty} {nt:Nat} {s:AS} {Q:AQ} {k:List KI}
def Wt(nt:Nat)(o:Oper)(s:AS)(i:Nat)(kc:KC){V:Type}(e:V->IV)(m:List (kc.K×V))(vs:List Nat)(t:AS):Prop:=
 ((∀j,j<m.length->j∈vs)∧putDst nt o (.bX [.kb li]) s=jp t)∨
 ∃j x,m[j]? =jp x∧j∉vs∧putDst nt o (.bX [.kb lc,kc.pk x.1,(e x.2).pv]) ⟨s.f,(i,jp (.b3 kc e m (j::vs) (jp x)))::s.h,s.nx⟩=jp t
theorem Pu{o:Oper}{it:Operand}(ho:o.op= .next it li){i:Nat}(q0:ev s.f it= .ptr i 0){kc:KC}{V:Type}{e:V->IV}{m:List (kc.K×V)}{vs:List Nat}{p0:Option (kc.K×V)}
  (hi:s.h.get i=jp (.b3 kc e m vs p0)) {d:Nat} (hd:o.dst=jp d) (hlt:d<nt):OT P nt o s (Wt nt o s i kc e m vs):=by
 intro M N a w hf K Z hk;have hx:=bf hf.2.1 it;rw[q0]at hx;have g0:=hf.1.obj i _ hi;have b0:N.aI i<w.heap.size:=OR.lt g0 rfl;have c0:a.eval it= .pointer (jp ⟨N.aI i,0,kw⟩):=by
  generalize a.eval it=y at hx;cases hx;rfl
 have I: ∀p s1,∃t,putDst nt o p s1=jp t∧t={s1 with f:=(d,p)::s1.f}:=by
  intro p s1;have hb:YD d nt=lc:=YX hlt;obtain⟨f,h,n⟩:=s1;exact⟨_,by simp only[putDst,hd,hb,cond_true,eO],rfl⟩
 rcases g0 with⟨rfl,rfl,rfl,h0⟩|⟨b,ents,clock,u,h1,h2,F,h4,h5,h6,h7⟩
 .have B:(execOp a.eval o).run P w= .ok (.value (.tuple #[.bool li])) w:=by
   simp only[execOp,ho,c0];refine bU ?_;simp only[Instr.next,getObj,Sem.run_bind,Sem.run,h0,Result.andThen];rfl
  unfold Oper.wp;rw[B];simp only[Oper.upon];obtain⟨t,ht,C⟩:=I (.bX [.kb li]) s
  refine hk M N t _ w (by rw[C];exact .refl _ _ _ _ _) (by
   rw[C,hd]
   exact hf.put d _ _ hlt (.bX _ _ rfl fun j p D=>by
    match j with
    |0=>simp at D;subst D;exact .kb _
    |j+1=>simp at D)) (.inl ⟨fun j G=>absurd G (Z3 _),ht⟩)
 have hb:w.heap[b]? =jp (.map ents clock):=hf.1.dT _ _ h2;have x0: ∀j,j<ents.size->ents.getD j io=ents[j]! :=fun j G=>by simp[Yf,G,getElem!_pos]
 have f0: ∀x∈ents.toList,x.born<clock:=by
  intro x hx;obtain⟨j,G⟩:=Y9 hx;exact F.lt j x (by simpa using G)
 unfold Oper.wp;rcases run_next_at (P:=P) w o.type (N.aI i) b clock clock u ents clock h1 hb f0 (Ym _) with⟨g1,g2⟩|⟨x,o0,S,t0,g2⟩
 .have B:(execOp a.eval o).run P w= .ok (.value (.tuple #[.bool li])) w:=by
   simp only[execOp,ho,c0];exact bU g2
  rw[B];simp only[Oper.upon];obtain⟨t,ht,C⟩:=I (.bX [.kb li]) s
  refine hk M N t _ w (by rw[C];exact .refl _ _ _ _ _) (by
   rw[C,hd]
   exact hf.put d _ _ hlt (.bX _ _ rfl fun j p D=>by
    match j with
    |0=>simp at D;subst D;exact .kb _
    |j+1=>simp at D)) (.inl ⟨fun j G=>?_,ht⟩)
  have r0:j<ents.size:=by rw[F.size];exact G
  have e0:(ents[j]).born∈u:=by
   refine Decidable.byContradiction fun hn=>?_
   have:ents[j]∈leftOf ents u:=by
    simp only[leftOf,abH];exact⟨by simp,by simpa using hn⟩
   rw[Array.eq_empty_of_size_eq_zero g1]at this;simp at this
  have:(ents[j]).born∈u.toList:=by simpa using e0
  rw[h4,YP]at this;obtain⟨q,hq,m0⟩:=this;have n0:q∈vs:=by simpa using hq
  have k0:q<ents.size:=by rw[F.size];exact h5 q n0
  rw[F.LY k0]at m0;have:=F.inj q j ents[q] ents[j] (by simp[k0]) (by simp[r0]) m0;rw[<-this];exact n0
 .have B:(execOp a.eval o).run P w= .ok (.value (.tuple #[.bool lc,x.key,x.val])) (xD S (N.aI i) (.mapIter (jp b) clock (u.push x.born) clock)):=by
   simp only[execOp,ho,c0];rw[Sem.run_bind,g2];rfl
  rw[B];simp only[Oper.upon];simp only[leftOf,Array.mem_toList_iff,abH]at o0;obtain⟨v0,w0⟩:=o0;obtain⟨j,G,d0⟩:=Array.getElem_of_mem v0;have i0:j<m.length:=by rw[<-F.size];exact G
  have J:m[j]? =jp m[j]:=Yi i0;have j0:j∉vs:=by
   intro hv;have:(ents[j]).born∈u.toList:=by
    rw[h4,YP];exact⟨j,by simpa using hv,by rw[F.LY G]⟩
   rw[d0]at this;have:x.born∈u:=by simpa using this
   simp[this]at w0
  obtain⟨t,ht,C⟩:=I (.bX [.kb lc,kc.pk m[j].1,(e m[j].2).pv]) ⟨s.f,(i,jp (.b3 kc e m (j::vs) (jp m[j])))::s.h,s.nx⟩;have A:S.heap=w.heap∧S.os=w.os∧S.tape=w.tape∧S.output=w.output:=by
   rcases t0 with rfl|rfl<;>exact⟨rfl,rfl,rfl,rfl⟩
  have s0:OR M N (· <s.nx) (xD S (N.aI i) (.mapIter (jp b) clock (u.push x.born) clock)) i (.b3 kc e m (j::vs) (jp m[j])):=by
   refine .inr ⟨b,ents,clock,u.push x.born,?_,h2,F,?_,?_,?_,?_⟩
   .show(S.heap.setIfInBounds _ _)[_]? =_;rw[Y2,am rfl,A.1,am b0]
   .simp only[Array.toList_push,h4,List.reverse_cons,Yk,Yz,Y7];rw[F.LY G,d0]
   .intro q hq;rcases Yx.1 hq with rfl|hq
    .exact i0
    .exact h5 q hq
   .exact Zo.2 ⟨j0,h6⟩
   .intro y hy;simp only[Yh]at hy;subst hy;exact⟨j,vs,rfl,J⟩
  obtain⟨q1,q2⟩:=hf.1.write hi rfl (xD S (N.aI i) (.mapIter (jp b) clock (u.push x.born) clock)) _ A.2.1 A.2.2.1 A.2.2.2 (by simp[xD,A.1]) (fun c hc=>by
   show(S.heap.setIfInBounds _ _)[c]? =_
   rw[Y2,be (fun e=>hc e.symm),A.1]) s0
  have Y:=F.key j _ J;have a0:=F.val j _ J;rw[F.LY G,d0]at Y a0
  refine hk M N t _ _ (by rw[C];exact q1) (by
   rw[C,hd];refine Fits.put (s:=⟨s.f,(i,jp (.b3 kc e m (j::vs) (jp m[j])))::s.h,s.nx⟩) ⟨q2,hf.2⟩ d _ _ hlt (.bX _ _ rfl fun q p D=>?_)
   match q with
   |0=>simp at D;subst D;exact .kb _
   |1=>simp at D;subst D;simp only[Yf];simp;rw[Y];exact G4 kc _
   |2=>simp at D;subst D;exact G2 a0
   |q+3=>simp at D) (.inr ⟨j,m[j],J,j0,ht⟩)
theorem eW{all rest:List Oper}{o:Oper}{y:Operand}{i:Nat}{kc:KC}{V:Type}{e:V->IV}{m:List (kc.K×V)}{vs:List Nat}{b:Option (kc.K×V)}{d:Nat}
  (ho:o.op= .next y li) (hg:o.guard=kw) (u:ev s.f y= .ptr i 0) (hi:s.h.get i=jp (.b3 kc e m vs b)) (hd:o.dst=jp d) (hlt:d<nt)
  (h1:(∀j,j<m.length->j∈vs)->GO P nt (.ops all rest::k) Q ⟨(d,.bX [.kb li])::s.f,s.h,s.nx⟩)
  (h2: ∀j x,m[j]? =jp x->j∉vs->GO P nt (.ops all rest::k) Q ⟨(d,.bX [.kb lc,kc.pk x.1,(e x.2).pv])::s.f,(i,jp (.b3 kc e m (j::vs) (jp x)))::s.h,s.nx⟩):
  GO P nt (.ops all (o::rest)::k) Q s:=by
 refine eH hg (Pu ho u hi hd hlt) fun t A=>?_;have hb:YD d nt=lc:=YX hlt;rcases A with⟨g1,g2⟩|⟨j,x,g1,g2,g3⟩
 .obtain⟨f,h,n⟩:=s;simp only[putDst,hd,hb,cond_true,eO,Yh]at g2;subst g2;exact h1 g1
 .simp only[putDst,hd,hb,cond_true,eO,Yh]at g3;subst g3;exact h2 j x g1 g2
mutual
def PV.ie(i:Nat)(x:IV):PV->PV
 | .iv x=> .iv x
 | .agg cs=> .agg (yq i x cs)
 | .bX cs=> .bX (yq i x cs)
 | .sl j off len sz'=> .sl j off len sz'
 | .ptr j o=> .ptr j o
 | .dJ j a b c=> .dJ j a b c
 | .fE z j=> .fE z j
 | .mp j=>bif YJ j i then .iv x else .mp j
 | .dx fn a b=> .dx fn a b
 | .kb b=> .kb b
 | .any=> .any
def yq(i:Nat)(x:IV):List PV->List PV
 | []=> []
 |p::r=>PV.ie i x p::yq i x r
end
theorem j8(i:Nat)(x:IV): ∀l:List PV,yq i x l=l.map (PV.ie i x)
 | []=>rfl
 |p::r=>by simp[yq,j8 i x r]
theorem P1{M:Mem}{N:Nm}{n:Nat}{h:AH}{w:World}(hr:Rel M N (· <n) h w){i:Nat}{kc:KC}{V:Type}{e:V->IV}{z:V}{zv:Value}{dv:PV->V}{m:List (kc.K×V)}(hi:h.get i=jp (.map kc e z zv dv m)):
  ∃B,Ext M N (· <n) h w B N (· <n) ((i,kw)::h) w∧Rel B N (· <n) ((i,kw)::h) w∧M.le B∧
   ∀p x,VR M N (· <n) p x->VR B N (· <n) (p.ie i (.fF kc e z zv m)) x:=by
 have I:=hr.fk i _ hi Z;obtain⟨ents,clock,F,C,h3⟩:=hr.obj i _ hi
 let B:Mem:=M.set (N.aI i) (.map ents clock) I
 have hM:M.le B:=fun b d hb=>by
  simp only[B,Mem.set];by_cases u:b=N.aI i
  .rw[u,I]at hb;cases hb
  .rw[be u];exact hb
 have hnew: ∀b d,M b=kw->B b=jp d->b=N.aI i:=fun b d F C=>by
  simp only[B,Mem.set]at C;by_cases u:b=N.aI i
  .exact u
  .rw[be u,F]at C;cases C
 refine⟨B,?_,?_,hM,fun p x Y=>?_⟩
 .exact⟨rfl,rfl,rfl,Ym _,fun _ _ _=>rfl,hM,fun b d F C=> .inr ⟨i,_,hi,rfl,(hnew b d F C).symm⟩,.refl _ _,fun _ h=>h,fun j o A S=> .inr ⟨j,o,(bD j o A).2,S,rfl⟩⟩
 .refine⟨fun b d hb=>?_,fun j o A=>hr.used j o (bD j o A).2,fun j o A D=>?_,fun j o A=>?_,fun j k o p A hk=>hr.inj j k o p (bD j o A).2 (bD k p hk).2⟩
  .simp only[B,Mem.set]at hb;by_cases u:b=N.aI i
   .rw[am u]at hb;cases hb;rw[u];exact F
   .rw[be u]at hb;exact hr.dT b d hb
  .obtain⟨g1,g2⟩:=bD j o A;simp only[B,Mem.set];rw[be fun e=>g1 (hr.inj j i o _ g2 hi D Z e)];exact hr.fk j o g2 D
  .obtain⟨g1,g2⟩:=bD j o A;exact(hr.obj j o g2).mono hM (.refl _ _) (fun _ h=>h) (hr.used j o g2) Z
 .induction Y with
  |iv x y h=>exact .iv _ _ (h.mono hM)
  |agg cs ys hl _ ih=>
   refine .agg _ _ (by simpa[j8]using hl) fun j q J=>?_;rw[j8,Yo,Yq]at J;obtain⟨q0,G,rfl⟩:=J
   exact ih j q0 G
  |bX cs ys hl _ ih=>
   refine .bX _ _ (by simpa[j8]using hl) fun j q J=>?_;rw[j8,Yo,Yq]at J;obtain⟨q0,G,rfl⟩:=J
   exact ih j q0 G
  |ptr i off h=>exact .ptr _ _ h
  |dJ i sz k off h=>exact .dJ _ _ _ _ h
  |fE z i h=>exact .fE _ _ h
  |sl j off len sz' cap h h0 hl hc he=>exact .sl _ _ _ _ _ h h0 hl hc he
  |pQ j sz' h=>exact .pQ _ _ h
  |sle j sz' cap h hc he=>exact .sle _ _ _ h hc he
  |mp j h=>
   simp only[PV.ie];cases hb:YJ j i with
   |true=>
    have A:=YE hb;subst A;exact .iv _ _ (.fF _ _ _ _ _ _ ents clock (by simp[B,Mem.set]) C.size C.key (fun j x Y=>(C.val j x Y).mono hM) (h3.mono hM) C.inj C.lt)
   |false=>exact .mp _ h
  |dx fn first caps f' c' F C hr1 hr2 _ _=>exact .dx _ _ _ _ _ F C (fun j p A=>(hr1 j p A).mono hM (.refl _ _) (fun _ h=>h)) (fun j p A=>(hr2 j p A).mono hM (.refl _ _) (fun _ h=>h))
  |kb b=>exact .kb _
  |any x=>exact .any _
def AO.ie(i:Nat)(x:IV):AO->AO
 | .cells cs T=> .cells (yq i x cs) T
 | .row sz es=> .row sz (es.map (yq i x))
 | .bM l T=> .bM l T
 | .gn=> .gn
 | .map kc e z zv dv m=> .map kc e z zv dv m
 | .b3 kc e m vs c=> .b3 kc e m vs c
 | .eT s p=> .eT s p
def AH.ie(i:Nat)(x:IV):AH->AH
 | []=> []
 |(k,kw)::r=>(k,kw)::AH.ie i x r
 |(k,jp o)::r=>(k,jp (o.ie i x))::AH.ie i x r
theorem AH.mS(i:Nat)(x:IV): ∀(h:AH) (j:Nat),(AH.ie i x h).get j=(h.get j).map (AO.ie i x)
 | [],_=>rfl
 |(k,kw)::r,j=>by
  simp only[AH.ie,AH.aw,AH.mS i x r j];split<;>rfl
 |(k,jp o)::r,j=>by
  simp only[AH.ie,AH.aw,AH.mS i x r j];split<;>rfl
theorem AO.vy(i:Nat)(x:IV)(o:AO):(o.ie i x).real=o.real:=by
 cases o with
 |row sz es=>cases es<;>rfl
 |bM l T=>cases l<;>rfl
 |_=>rfl
theorem uy{M:Mem}{N:Nm}{n:Nat}{h:AH}{w:World}(hr:Rel M N (· <n) h w){i:Nat}{kc:KC}{V:Type}{e:V->IV}{z:V}{D:Value}{dv:PV->V}{m:List (kc.K×V)}(hi:h.get i=jp (.map kc e z D dv m)):
  ∃B,Ext M N (· <n) h w B N (· <n) ((i,kw)::h.ie i (.fF kc e z D m)) w∧Rel B N (· <n) ((i,kw)::h.ie i (.fF kc e z D m)) w∧M.le B∧
   ∀p x,VR M N (· <n) p x->VR B N (· <n) (p.ie i (.fF kc e z D m)) x:=by
 obtain⟨B,u,y,h3,S⟩:=P1 hr hi;have C: ∀j o,AH.get ((i,kw)::h.ie i (.fF kc e z D m)) j=jp o-> ∃p,AH.get ((i,kw)::h) j=jp p∧h.get j=jp p∧o=p.ie i (.fF kc e z D m):=by
  intro j o b;obtain⟨g1,g2⟩:=bD j o b;rw[AH.mS,Yq]at g2;obtain⟨p,g3,g4⟩:=g2;exact⟨p,by rw[AH.aw,be g1];exact g3,g3,g4.symm⟩
 refine⟨B,⟨u.os,u.tape,u.output,u.size,u.jO,u.r6,u.kn,u.nm,u.ule,fun j o b d=>?_⟩,⟨y.dT,fun j o b=>?_,fun j o b d=>?_,fun j o b=>?_,fun j k o p b hk ho hp=>?_⟩,h3,S⟩
 .obtain⟨p,g1,_,rfl⟩:=C j o b;rw[AO.vy]at d;exact u.jq j p g1 d
 .obtain⟨p,g1,_,rfl⟩:=C j o b;exact y.used j p g1
 .obtain⟨p,g1,_,rfl⟩:=C j o b;rw[AO.vy]at d;exact y.fk j p g1 d
 .obtain⟨p,g1,g2,rfl⟩:=C j o b;have G:=hr.obj j p g2;cases p with
  |cells cs T0=>
   obtain⟨c,T,q1,q2,q3,q4,q5⟩:=G;refine⟨c,T,q1,q2,by simpa[j8]using q3,fun k q I=>?_,q5⟩;rw[j8,Yo,Yq]at I;obtain⟨q0,a0,rfl⟩:=I;exact S _ _ (q4 k q0 a0)
  |row sz es=>
   rcases G with rfl|⟨q0,c,T,q1,q2,q3,q4,q5⟩
   .exact .inl Z
   refine .inr ⟨q0,c,T,q1,q2,by simpa using q3,fun k e F=>?_,fun k e j q F I=>?_⟩
   .rw[Yo,Yq]at F;obtain⟨J,A,rfl⟩:=F;rw[j8,YH];exact q4 k J A
   .rw[Yo,Yq]at F;obtain⟨J,A,rfl⟩:=F;rw[j8,Yo,Yq]at I;obtain⟨q',Y,rfl⟩:=I;exact S _ _ (q5 k J j q' A Y)
  |bM=>exact y.obj j _ g1
  |gn=>exact y.obj j _ g1
  |map=>exact y.obj j _ g1
  |b3=>exact y.obj j _ g1
  |eT=>exact y.obj j _ g1
 .obtain⟨o',g1,_,rfl⟩:=C j o b;obtain⟨p',g2,_,rfl⟩:=C k p hk;rw[AO.vy]at ho hp;exact y.inj j k o' p' g1 g2 ho hp
def AF.ie(i:Nat)(x:IV):AF->AF
 | []=> []
 |(d,p)::r=>(d,p.ie i x)::AF.ie i x r
theorem AF.mS(i:Nat)(x:IV): ∀(f:AF) (d:Nat),(AF.ie i x f).get d=(f.get d).ie i x
 | [],_=>rfl
 |(k,p)::r,d=>by
  simp only[AF.ie,AF.aw,AF.mS i x r d];split<;>rfl
theorem PU{c:Code}(i:Nat){kc:KC}{V:Type}{e:V->IV}{z:V}{b:Value}{F:PV->V}{m:List (kc.K×V)}(hi:s.h.get i=jp (.map kc e z b F m))
  (h:GO P nt (.code c::k) Q ⟨s.f.ie i (.fF kc e z b m),(i,kw)::s.h.ie i (.fF kc e z b m),s.nx⟩):GO P nt (.code c::k) Q s:=by
 intro M N a w j;obtain⟨B,G,I,Y,J⟩:=uy j.1 hi
 have u:Fits B N ⟨s.f.ie i (.fF kc e z b m),(i,kw)::s.h.ie i (.fF kc e z b m),s.nx⟩ nt a w:=⟨I,fun d=>by
  rw[AF.mS];exact J _ _ (j.2.1 d),j.2.2⟩
 exact AW.then h u fun e a2 w2 C D S A x y=>⟨C,D,S,G.trans A,x,y⟩
end
def Tf(ty:Ty)(s:AS):Op->Option (PV×AS)
 | .range t x=>match ev s.f x with
  | .mp i=>match s.h.get i with
   |some (.map kc e z zv _ m)=>match ty t with
    |some ⟨.bb (.map _ _),_,_,_,_⟩=>match s with
     |⟨f,h,n⟩=>jp (.ptr n 0,⟨f.ie i (.fF kc e z zv m),(n,jp (.b3 kc e m [] kw))::(i,kw)::h.ie i (.fF kc e z zv m),n+1⟩)
    |_=>kw
   |_=>kw
  |_=>kw
 |_=>kw
theorem O0{P:Program}{ty:Ty}{nt:Nat}{s:AS}(I:cC P ty){o:Oper}{p:PV}{s1 s':AS}(h:Tf ty s o.op=jp (p,s1))(hp:putDst nt o p s1=jp s'):OT P nt o s (fun t=>t=s'):=by
 unfold Tf at h;split at h
 .rename_i t x ho;split at h
  .rename_i i C;split at h
   .rename_i V kc e z zv dv m B;split at h
    .rename_i kt et _ _ _ _ he;have hu:=(I _ _ he).2.1.1;obtain⟨f,hh,n⟩:=s;simp only[Yh,Yw]at h;obtain⟨rfl,rfl⟩:=h;refine OT.value hp fun M N a w A=>?_;have J:=bf A.2.1 x;simp only at C B;rw[C]at J;obtain⟨ents,clock,g1,g2,g3⟩:=A.1.obj i _ B;obtain⟨F,h1,S,h3,Y⟩:=uy A.1 B;have j:VR F N (· <n) ((PV.mp i).ie i (.fF kc e z zv m)) (.map (jp (N.aI i))):=Y _ _ (.mp i (A.1.used i _ B));have hb:YJ i i=lc:=by simp
     simp only[PV.ie,hb,cond_true]at j;cases j with
     |iv _ _ j=>cases j with
      |fF _ _ _ _ _ b ents' clock' hb' hs hk hv' hz hi' hc=>
       obtain⟨G,q1,q2,q3,q4,q5⟩:=S.alloc (.mapIter (jp (N.aI i)) clock' #[] clock') (.b3 kc e m [] kw) 0 (fun G r1 r2 r3=>
        .inr ⟨N.aI i,ents',clock', #[],by rw[r1];exact heap_alloc_new w _,hb',⟨hs,hk,hv',hi',hc⟩,rfl,by simp,Zd,by simp⟩)
       have u:w.heap[N.aI i]? =jp (.map ents' clock'):=S.dT _ _ hb';have D:a.eval x= .map (jp (N.aI i)):=by
        generalize a.eval x=y at J;cases J;rfl
       refine⟨.pointer (jp ⟨w.heap.size,0,kw⟩),_,F,G,?_,h1.trans q4,⟨q5,fun d=>?_,A.2.2⟩,?_⟩
       .simp only[execOp,ho,D];simp[Instr.range,run_underlying hu,getObj,Sem.run,u,Result.andThen]
       .rw[AF.mS];exact(Y _ _ (A.2.1 d)).mono (.refl _) q3 (fun i B=>aag B)
       .have:=VR.ptr (M:=F) (N:=G) (U:=(· <n+1)) n 0 (by omega);rw[q1]at this;exact this
    .cases h
   .cases h
  .cases h
 .cases h
def S7(h:AH)(sz:Nat):PV->Option (List (List PV)×Nat×Prop)
 | .iv (.dp sz' n el)=>match YJ sz' sz with
  |true=>jp ((Yv n).map fun k=>(el k).map .iv,n,True)
  |false=>kw
 | .iv (.v (.slice kw 0 0))=>jp ([],0,True)
 | .sl j off n sz'=>match YJ sz' sz,h.get j with
  |true,jp (.row sz2 fs)=>match YJ sz2 sz with
   |true=>jp ((fs.drop off).take n,n,off+n<=fs.length)
   |_=>kw
  |_,_=>kw
 |_=>kw
theorem OD{h:AH}{sz n:Nat}{p:PV}{news:List (List PV)}{C:Prop}(hs:S7 h sz p=jp (news,n,C))(hC:C):Src h sz p news∧news.length=n:=by
 unfold S7 at hs;split at hs
 .split at hs
  .rename_i hb;simp only[Yh,Yw]at hs;have:=YE hb;obtain⟨rfl,rfl,rfl⟩:=hs;subst this;exact⟨.dp _ _,by simp⟩
  .cases hs
 .simp only[Yh,Yw]at hs;obtain⟨rfl,rfl,rfl⟩:=hs;exact⟨.nil,rfl⟩
 .split at hs
  .rename_i b x;split at hs
   .rename_i d;simp only[Yh,Yw]at hs;have j:=YE b;have u:=YE d;subst j;subst u;obtain⟨rfl,rfl,rfl⟩:=hs;exact⟨.row _ _ _ _ x hC,by simp;omega⟩
   .cases hs
  .cases hs
 .cases hs
def Qo(ty:Ty)(s:AS)(op:Op):Option (Prop×PV×AS):=
 match op with
 | .call ⟨.builtin .append,args,tys⟩=>match args.toList,tys.toList with
  | [x,y],[t,t']=>match YJ t' t,ty t with
   |true,jp ⟨.bb (.slice u),_,_,_,_⟩=>match ty u with
    |some ⟨_,esz,eby,ez,_⟩=>match YJ ez.cells.size esz,YD 0 esz,ev s.f x with
     |true,lc,.sl i 0 len sz=>match YJ esz sz,s.h.get i with
      |true,jp (.row sz' es)=>match YJ sz' sz,S7 s.h sz (ev s.f y) with
       |true,jp (news,n,C)=>match s with
        |⟨f,h,nx⟩=>jp (es.length=len∧C∧allOnes news=lc∧(len+n)*eby<=140737488355328∧len+n<=140737488355328,.sl nx 0 (len+n) sz,⟨f,(nx,jp (.row sz (es++news)))::(i,kw)::h,nx+1⟩)
       |_,_=>kw
      |_,_=>kw
     |_,_,_=>kw
    |none=>kw
   |_,_=>kw
  |_,_=>kw
 |_=>kw
section
variable {P:Program} {ty:Ty} {nt:Nat} {s:AS}
theorem HW(Y:cC P ty){o:Oper}{p:PV}{C:Prop}{s1 s':AS}(h:Qo ty s o.op=jp (C,p,s1))(hC:C)(hp:putDst nt o p s1=jp s'):OT P nt o s (fun t=>t=s'):=by
 unfold Qo at h;split at h
 .rename_i args d ho;split at h
  .rename_i x y t j ha ht;split at h
   .rename_i u _ _ _ _ D he;split at h
    .rename_i ek b0 B ez a0 hu;split at h
     .rename_i i len sz F G hx;split at h
      .rename_i c0 es I hi;split at h
       .rename_i b n C' J hs;have h:jp (es.length=len∧C'∧allOnes b=lc∧(len+n)*B<=140737488355328∧len+n<=140737488355328,PV.sl s.nx 0 (len+n) sz,uL s i sz es b)=jp (C,p,s1):=by
         rw[<-h];cases s;rfl
        simp only[Yh,Yw]at h;obtain⟨rfl,rfl,rfl⟩:=h;have e0:=YE D;have e4:=YE J;have A:=YE I;subst e0;subst e4;have S:o.op= .call ⟨.builtin .append, #[x,y], #[j,j]⟩:=by
         rw[ho];have h1:args= #[x,y]:=by rw[<-ZT (xs:=args),ha]
         have h2:d= #[j,j]:=by rw[<-ZT (xs:=d),ht]
         rw[h1,h2]
        obtain⟨g1,g2,g3,g4,g5⟩:=hC;obtain⟨g6,g7⟩:=OD hs g2;subst g7;exact Ub Y S he Z hu hx hi g1 A (by rw[YE F,A]) (by rw[<-A];exact Yd G) Z g6 (nf g3) g4 g5 hp
       .cases h
      .cases h
     .cases h
    .cases h
   .cases h
  .cases h
 .cases h
def MO(ty:Ty)(s:AS)(op:Op):Option (Prop×PV×AS):=
 match Qo ty s op with
 |some r=>jp r
 |none=>match FC s op with
  |some (t0,t)=>match ty t with
   |some ⟨.bb (.slice u),_,_,_,_⟩=>match ty u with
    |some ⟨_,esz,_,_,_⟩=>Qo ty (xp s t0 esz) op
    |none=>kw
   |_=>kw
  |none=>kw
theorem MN(b:cC P ty){o:Oper}{p:PV}{C:Prop}{s1 s':AS}(h:MO ty s o.op=jp (C,p,s1))(hC:C)(hp:putDst nt o p s1=jp s'):OT P nt o s (fun t=>t=s'):=by
 unfold MO at h;split at h
 .rename_i r j;simp only[Yh]at h;subst h;exact HW b j hC hp
 .split at h
  .rename_i t0 t d;split at h
   .split at h
    .exact Ni (IJ d) (HW b h hC hp)
    .cases h
   .cases h
  .cases h
def Ut(ty:Ty)(s:AS)(op:Op):Option (Prop×PV×AS):=
 match Sq ty s op with
 |some (C,s1)=>jp (C,.any,s1)
 |none=>match Tf ty s op with
  |some (p,s1)=>jp (True,p,s1)
  |none=>MO ty s op
theorem E1(b:cC P ty){o:Oper}{p:PV}{C:Prop}{s1 s':AS}(h:Ut ty s o.op=jp (C,p,s1))(hC:C)(hp:putDst nt o p s1=jp s'):OT P nt o s (fun t=>t=s'):=by
 unfold Ut at h;split at h
 .rename_i u j hu;simp only[Yh,Yw]at h;obtain⟨rfl,rfl,rfl⟩:=h;exact No b hu hC hp
 .split at h
  .rename_i x j d;simp only[Yh,Yw]at h;obtain⟨rfl,rfl,rfl⟩:=h;exact O0 b d hp
  .exact MN b h hC hp
end
end
end Go.Al
