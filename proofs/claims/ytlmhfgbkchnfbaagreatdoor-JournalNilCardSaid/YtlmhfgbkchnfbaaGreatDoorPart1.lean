/-
  What the proofs of the claims need: part 1 of 5.
-/
import GoSem.Core.World
import Derived.Calls
import Derived.Laws.AppendOwn
import Derived.Below
import Derived.Laws.Cells
import Derived.Laws.Entries
import Derived.Laws.StructEq
import Derived.ChangeKeysEq
import Derived.WideLaws
import Derived.Tactics
import Derived.IntWalk
import Derived.WideShapes
import Derived.Lib.Strings
import Derived.MapKept
import Derived.Maps.RangeRun
import Derived.Still
import Derived.Scope
import Derived.Laws.CopyRow
import Derived.Laws.Append
open Array renaming append_assoc→X7,eraseIdxIfInBounds→Yx,getD_eq_getD_getElem?→Vn,getElem?_append_left→V3,getElem?_append_right→Xi,getElem?_eq_getElem→V6,getElem?_eq_none→XN,getElem?_eq_some_iff→WC,getElem?_map→X6,getElem?_modify→VZ,getElem?_push→XF,getElem?_setIfInBounds→V1,getElem?_toList→VY,length_toList→Xw,mapM_eq_mapM_toList→Ys,range→Yu,replicate→Xv,size_append→W1,toArray_toList→W5,toList_append→YS,toList_inj→Yy
open Bool renaming and_eq_true→Wf,eq_iff_iff→WR,false_eq_true→Xe,false_or→Xn,not_eq_true'→WA,not_true→XO,or_eq_true→Xz
open Classical renaming choose→XW,choose_spec→Xm
open Int renaming toNat_of_nonneg→XG
open List.Pairwise renaming nil→XB
open List renaming all_eq_true→Wc,any_eq_true→WN,append_assoc→VF,append_inj→Y7,append_nil→We,cons_append→VT,flatten_cons→Yv,foldl_cons→Ws,forIn_cons→Y8,getD_cons_zero→Xk,getD_eq_getElem?_getD→Vr,getElem?_append_left→VJ,getElem?_append_right→VK,getElem?_cons_succ→X8,getElem?_drop→Wl,getElem?_eq_getElem→Vt,getElem?_eq_some_iff→Vs,getElem?_map→Vv,getElem?_of_mem→Wh,getElem?_set→Xd,getElem?_take→V8,getElem?_toArray→Wd,getElem_mem→Wj,headD_cons→Yo,length→XS,length_append→Vp,length_cons→VX,length_drop→Wu,length_map→VS,length_nil→WH,length_pos_iff→WD,length_take→V7,map_cons→Vy,map_nil→VQ,mem_append_left→Wi,mem_cons→VH,mem_cons_of_mem→VE,mem_cons_self→VG,mem_filter→V4,mem_of_getElem?→V2,mem_singleton→Vz,nil_append→VU,nodup_nil→Wn,pairwise_cons→Wz,pairwise_iff_getElem→WI,range→V0,range'_succ→Y1,size_toArray→XC
open List.cons renaming injEq→YH
open Nat renaming add_assoc→WB,add_mul→Wg,add_zero→WZ,beq→VP,ble→Xr,ble_eq_true_of_le→Wo,blt→VV,eq_of_beq_eq_true→VN,le_of_ble_eq_true→Vm,le_of_not_lt→W9,le_refl→VA,le_succ→Xx,le_trans→Wr,lt_of_lt_of_le→W4,lt_or_ge→Wp,lt_succ_of_lt→W2,lt_succ_self→Xa,lt_trichotomy→XA,mod_eq_of_lt→XH,mul_le_mul_right→VO,ne_of_lt→YC,sub_mul→YM,sub_self→Ya,sub_zero→Yb,succ_mul→W8,zero_add→VL,zero_le→VB,zero_mul→W0
open Option renaming getD_some→Wv,map_eq_none_iff→XM,map_eq_some_iff→Vw,map_map→YL,map_none→Xu,map_some→Ww
open Option.some renaming inj→Wq,injEq→Vq
open Prod renaming fst→Wy
open Prod.mk renaming injEq→VC
set_option maxRecDepth 100000
open Bool renaming false→jp,true→is
open Decidable renaming decide→kw
open Inhabited renaming default→ci
open Option renaming none→io,some→co
namespace Go
theorem Z.{u}{α:Sort u}{a:α}:a=a:=rfl
theorem ac:True:=trivial
theorem am.{u}{c:Prop}{h:Decidable c}(hc:c){α:Sort u}{t e:α}:(@ite α c h t e)=t:=if_pos hc
theorem be.{u}{c:Prop}{h:Decidable c}(hc:¬c){α:Sort u}{t e:α}:(@ite α c h t e)=e:=if_neg hc
end Go
namespace Go.Al
section
def p8:List Int:=[1,10,100,1000,10000,100000,1000000,10000000,100000000,1000000000,10000000000,100000000000,1000000000000,10000000000000,100000000000000,1000000000000000,10000000000000000,100000000000000000,1000000000000000000,10000000000000000000]
def QW:Nat->Option (Array Value)
 |1=>co (p8.map fun z=>Value.int .u64 z).toArray
 |_=>io
abbrev FS:=List (Option IntKind)
@[reducible] def FK:FS->Type
 | []=>Unit
 |none::r=>ByteArray×FK r
 |some _::r=>Int×FK r
instance FK.Ub:(s:FS)->DecidableEq (FK s)
 | []=>inferInstanceAs (DecidableEq Unit)
 |none::r=>have:=FK.Ub r;inferInstanceAs (DecidableEq (ByteArray×FK r))
 |some _::r=>have:=FK.Ub r;inferInstanceAs (DecidableEq (Int×FK r))
def FK.vs:(s:FS)->FK s->List Value
 | [],_=> []
 |none::r,k=> .string k.1::FK.vs r k.2
 |some q::r,k=> .int q k.1::FK.vs r k.2
inductive KC where
 |str
 |int (k:IntKind)
 |si (k:IntKind)
 |fl (s:FS)
 deriving DecidableEq
@[reducible] def KC.K:KC->Type
 | .str=>ByteArray
 | .int _=>Int
 | .si _=>ByteArray×Int
 | .fl s=>FK s
instance KC.Ub:(c:KC)->DecidableEq c.K
 | .str=>inferInstanceAs (DecidableEq ByteArray)
 | .int _=>inferInstanceAs (DecidableEq Int)
 | .si _=>inferInstanceAs (DecidableEq (ByteArray×Int))
 | .fl s=>FK.Ub s
def KC.ek:(c:KC)->c.K->Value
 | .str,s=> .string s
 | .int k,n=> .int k n
 | .si k,x=> .agg #[.string x.1,.int k x.2]
 | .fl s,x=> .agg (FK.vs s x).toArray
inductive IV:Type 1 where
 |v (x:Value)
 |bK (sz n:Nat) (el:Nat->List IV)
 |kK (cs:List IV)
 |agg (cs:List IV)
 |eG {V:Type} (kc:KC) (ev:V->IV) (z:V) (zv:Value) (m:List (kc.K×V))
 |RE (t:TypeId) (x:IV)
inductive PV:Type 1 where
 |iv (x:IV)
 |agg (cs:List PV)
 |aZ (cs:List PV)
 |ptr (i off:Nat)
 |cM (i sz k off:Nat)
 |eL (z:Bool) (i:Nat)
 |nI (i off n:Nat)
 |sl (i off len sz:Nat)
 |mp (i:Nat)
 |cm (fn:Fn) (first caps:List PV)
 |kb (b:Bool)
 |any
structure LC where
 ps:Array Tmp
 as_:Code
 bd:Code
 nt:Nat
inductive AO:Type 1 where
 |cells (cs:List PV) (T:Option TypeId:=io)
 |row (sz:Nat) (es:List (List PV))
 |bu (l:List UInt8) (T:TypeId)
 |fh
 |map {V:Type} (kc:KC) (ev:V->IV) (z:V) (zv:Value) (dv:PV->V) (m:List (kc.K×V))
 |bX {V:Type} (kc:KC) (ev:V->IV) (m:List (kc.K×V)) (vs:List Nat) (cur:Option (kc.K×V))
 |ef (s:ByteArray) (pos:Nat)
 |hQ {V:Type} (kc:KC) (ev:V->IV) (z:V) (zv:Value) (dv:PV->V) (m:List (kc.K×V)) (bs:List Nat) (clock:Nat)
 |eh (mp:PV) (clock:Nat) (seen:List Nat)
 |n3 (l:Nat) (c:LC) (f:List (Nat×PV))
inductive MB where
 |cells (c:Array Value)
 |map (ents:Array MapEntry) (clock:Nat)
structure Mem where
 fn:Nat->Option MB
 My: ∀b c,QW b=co c->fn b=co (.cells c)
instance:CoeFun Mem (fun _=>Nat->Option MB):=⟨Mem.fn⟩
def Mem.base:Mem:=⟨fun b=>(QW b).map .cells,fun b c h=>by rw[h];rfl⟩
def zP(a:Option TypeId)(T:TypeId):Prop:= ∀t,a=co t->T=t
theorem zP.none(T:TypeId):zP io T:=fun _ h=>nomatch h
def Mem.cell(M:Mem)(b o:Nat):Option Value:=match M b with|some (.cells c)=>c[o]? |_=>io
def Mem.set(M:Mem)(b:Nat)(c:MB)(h:M b=io):Mem:=
 ⟨fun x=>if x=b then co c else M x,fun x d j=>by
  rw[be fun e=>by have:=M.My x d j;rw[e]at this;exact absurd (this.symm.trans h) (by simp)]
  exact M.My x d j⟩
def MB.FF(w:World)(b:Nat):MB->Prop
 | .cells c=> ∃T j,w.heap[b]? =co (.cells c T j)
 | .map es cl=>w.heap[b]? =co (.map es cl)
theorem MB.FF.lt{w:World}{b:Nat}{m:MB}(h:m.FF w b):b<w.heap.size:=by
 cases m with
 |cells c=>obtain⟨T,j,h1⟩:=h;exact(WC.1 h1).1
 |map es cl=>exact(WC.1 h).1
theorem MB.FF.mono{w j:World}{b:Nat}{m:MB}(h:m.FF w b)(e:j.heap[b]? =w.heap[b]?):m.FF j b:=by
 cases m with
 |cells c=>obtain⟨T,u,h1⟩:=h;exact⟨T,u,e.trans h1⟩
 |map es cl=>exact e.trans h
structure Nm where
 az:Nat->Nat
 ext:Nat->Nat
inductive IR (M:Mem):IV->Value->Prop
 |v (x:Value):IR M (.v x) x
 |fz (sz:Nat) (el:Nat->List IV) (a:Option Addr) (cap:Nat):IR M (.bK sz 0 el) (.slice a 0 cap)
 | bK (sz n:Nat) (el:Nat->List IV) (b off cap:Nat) (hn:n<=cap) (hc:cap<=maxLen) (hl: ∀k,k<n->(el k).length=sz)
   (hm: ∀k j,k<n->j<sz->(M.cell b (off+k*sz+j)).isSome=is)
   (hr: ∀k j p,k<n->(el k)[j]? =co p->IR M p ((M.cell b (off+k*sz+j)).getD undef)):
   IR M (.bK sz n el) (.slice (co ⟨b,off,io⟩) n cap)
 | kK (cs:List IV) (b off:Nat) (hm: ∀j,j<cs.length->(M.cell b (off+j)).isSome=is)
   (hr: ∀j p,cs[j]? =co p->IR M p ((M.cell b (off+j)).getD undef)):IR M (.kK cs) (.pointer (co ⟨b,off,io⟩))
 |agg (cs:List IV) (ys:Array Value) (hl:cs.length=ys.size) (hr: ∀j p,cs[j]? =co p->IR M p (ys.getD j undef)):IR M (.agg cs) (.agg ys)
 | eG {V:Type} (kc:KC) (ev:V->IV) (z:V) (zv:Value) (m:List (kc.K×V)) (b:Nat) (ents:Array MapEntry) (clock:Nat) (hb:M b=co (.map ents clock)) (hs:ents.size=m.length)
   (hk: ∀(j:Nat) (x:kc.K×V),m[j]? =co x->(ents.getD j ci).key=kc.ek x.1) (hv: ∀(j:Nat) (x:kc.K×V),m[j]? =co x->IR M (ev x.2) (ents.getD j ci).val) (hz:IR M (ev z) zv)
   (hi: ∀(j k:Nat) (e f:MapEntry),ents[j]? =co e->ents[k]? =co f->e.born=f.born->j=k) (hc: ∀(j:Nat) (e:MapEntry),ents[j]? =co e->e.born<clock):IR M (.eG kc ev z zv m) (.map (co b))
 |RE (t:TypeId) (p:IV) (x:Value) (h:IR M p x):IR M (.RE t p) (.iface t x)
inductive VR (M:Mem) (N:Nm) (U:Nat->Prop):PV->Value->Prop
 |iv (x:IV) (y:Value) (h:IR M x y):VR M N U (.iv x) y
 |agg (cs:List PV) (ys:Array Value) (hl:cs.length=ys.size) (hr: ∀j p,cs[j]? =co p->VR M N U p (ys.getD j undef)):VR M N U (.agg cs) (.agg ys)
 |aZ (cs:List PV) (ys:Array Value) (hl:cs.length=ys.size) (hr: ∀j p,cs[j]? =co p->VR M N U p (ys.getD j undef)):VR M N U (.aZ cs) (.tuple ys)
 |ptr (i off:Nat) (h:U i):VR M N U (.ptr i off) (.pointer (co ⟨N.az i,off,io⟩))
 |cM (i sz k off:Nat) (h:U i):VR M N U (.cM i sz k off) (.pointer (co ⟨N.az i,k*sz+off,io⟩))
 |eL (z:Bool) (i:Nat) (h:U i):VR M N U (.eL z i) (.pointer (bif z then io else co ⟨N.az i,0,io⟩))
 |nI (i off n:Nat) (h:U i):VR M N U (.nI i off n) (.slice (co ⟨N.az i,off,io⟩) n n)
 |sl (i off len sz cap:Nat) (h:U i) (h0:0<len) (hl:len<=cap) (hc:cap<=maxLen) (he:(off+cap)*sz=N.ext i):VR M N U (.sl i off len sz) (.slice (co ⟨N.az i,off*sz,io⟩) len cap)
 |kP (i sz:Nat) (h:U i):VR M N U (.sl i 0 0 sz) (.slice io 0 0)
 |sle (i sz cap:Nat) (h:U i) (hc:cap<=maxLen) (he:cap*sz=N.ext i):VR M N U (.sl i 1 0 sz) (.slice (co ⟨N.az i,0,io⟩) 0 cap)
 |mp (i:Nat) (h:U i):VR M N U (.mp i) (.map (co (N.az i)))
 | cm (fn:Fn) (first caps:List PV) (f' c':Array Value) (h1:first.length=f'.size) (h2:caps.length=c'.size)
   (hr1: ∀j p,first[j]? =co p->VR M N U p (f'.getD j undef)) (hr2: ∀j p,caps[j]? =co p->VR M N U p (c'.getD j undef)):VR M N U (.cm fn first caps) (.func fn f' c')
 |kb (b:Bool):VR M N U (.kb b) (.bool b)
 |any (x:Value):VR M N U .any x
def Mem.le(M j:Mem):Prop:= ∀b c,M b=co c->j b=co c
theorem Mem.le.refl(M:Mem):M.le M:=fun _ _ h=>h
theorem Mem.le.trans{A B C:Mem}(h:A.le B)(k:B.le C):A.le C:=fun b c e=>k b c (h b c e)
theorem Mem.le.cell{M j:Mem}(h:M.le j){b o:Nat}{v:Value}(hc:M.cell b o=co v):j.cell b o=co v:=by
 unfold Mem.cell at*
 cases hb:M b with
 |none=>simp[hb]at hc
 |some c=>rw[hb]at hc;rw[h b c hb];exact hc
theorem Mem.le.isSome{M j:Mem}(h:M.le j){b o:Nat}(hc:(M.cell b o).isSome=is):(j.cell b o).isSome=is∧(j.cell b o).getD undef=(M.cell b o).getD undef:=by
 cases hv:M.cell b o with
 |none=>simp[hv]at hc
 |some v=>rw[h.cell hv];simp
theorem IR.mono{M A:Mem}(hM:M.le A){p:IV}{x:Value}(h:IR M p x):IR A p x:=by
 induction h with
 |v x=>exact .v x
 |fz sz el a cap=>exact .fz sz el a cap
 |bK sz n el b off cap hn hc hl hm hr ih=>
  refine .bK sz n el b off cap hn hc hl (fun k j hk u=>(hM.isSome (hm k j hk u)).1) (fun k j p hk y=>?_);have u:j<sz:=by rw[<-hl k hk];exact(Vs.1 y).1
  rw[(hM.isSome (hm k j hk u)).2];exact ih k j p hk y
 |kK cs b off hm hr ih=>
  refine .kK cs b off (fun j u=>(hM.isSome (hm j u)).1) (fun j p y=>?_);have u:j<cs.length:=(Vs.1 y).1;rw[(hM.isSome (hm j u)).2];exact ih j p y
 |agg cs ys hl hr ih=>exact .agg cs ys hl ih
 |eG kc ev z zv m b ents clock hb hs hk hv hz hi hc ihv ihz=>exact .eG kc ev z zv m b ents clock (hM _ _ hb) hs hk ihv ihz hi hc
 |RE t p x h ih=>exact .RE t p x ih
structure jG {V:Type} (M:Mem) (kc:KC) (ev:V->IV) (m:List (kc.K×V)) (ents:Array MapEntry) (clock:Nat):Prop where
 size:ents.size=m.length
 key: ∀(j:Nat) (x:kc.K×V),m[j]? =co x->(ents.getD j ci).key=kc.ek x.1
 val: ∀(j:Nat) (x:kc.K×V),m[j]? =co x->IR M (ev x.2) (ents.getD j ci).val
 inj: ∀(j k:Nat) (e f:MapEntry),ents[j]? =co e->ents[k]? =co f->e.born=f.born->j=k
 lt: ∀(j:Nat) (e:MapEntry),ents[j]? =co e->e.born<clock
theorem jG.mono{V:Type}{M u:Mem}(hM:M.le u){kc:KC}{ev:V->IV}{m:List (kc.K×V)}{ents:Array MapEntry}{clock:Nat}(h:jG M kc ev m ents clock):jG u kc ev m ents clock:=
 ⟨h.size,h.key,fun j x y=>(h.val j x y).mono hM,h.inj,h.lt⟩
structure Nm.agree (N N':Nm) (U:Nat->Prop):Prop where
 az: ∀i,U i->N'.az i=N.az i
 ext: ∀i,U i->N'.ext i=N.ext i
theorem Nm.agree.refl(N:Nm)(U:Nat->Prop):N.agree N U:=⟨fun _ _=>rfl,fun _ _=>rfl⟩
theorem VR.mono{M A:Mem}{N B:Nm}{U C:Nat->Prop}(hM:M.le A)(j:N.agree B U)(u: ∀i,U i->C i){p:PV}{x:Value}(h:VR M N U p x):VR A B C p x:=by
 induction h with
 |iv x y h=>exact .iv x y (h.mono hM)
 |agg cs ys hl hr ih=>exact .agg cs ys hl ih
 |aZ cs ys hl hr ih=>exact .aZ cs ys hl ih
 |ptr i off h=>rw[<-j.az i h];exact .ptr i off (u i h)
 |cM i sz k off h=>rw[<-j.az i h];exact .cM i sz k off (u i h)
 |eL z i h=>rw[<-j.az i h];exact .eL z i (u i h)
 |nI i off n h=>rw[<-j.az i h];exact .nI i off n (u i h)
 |sl i off len sz cap h h0 hl hc he=>rw[<-j.az i h];exact .sl i off len sz cap (u i h) h0 hl hc (by rw[j.ext i h];exact he)
 |kP i sz h=>exact .kP i sz (u i h)
 |sle i sz cap h hc he=>rw[<-j.az i h];exact .sle i sz cap (u i h) hc (by rw[j.ext i h];exact he)
 |mp i h=>rw[<-j.az i h];exact .mp i (u i h)
 |cm fn first caps f' c' h1 h2 hr1 hr2 ih1 ih2=>exact .cm fn first caps f' c' h1 h2 ih1 ih2
 |kb b=>exact .kb b
 |any x=>exact .any x
abbrev AH:=List (Nat×Option AO)
def AH.get:AH->Nat->Option AO
 | [],_=>io
 |(i,o)::r,k=>bif VP k i then o else AH.get r k
abbrev AF:=List (Nat×PV)
def AF.get:AF->Nat->PV
 | [],_=> .any
 |(i,p)::r,k=>bif VP k i then p else AF.get r k
theorem AF.ax(i:Nat)(p:PV)(r:AF)(k:Nat):AF.get ((i,p)::r) k=if k=i then p else AF.get r k:=by
 by_cases h:k=i
 .subst h;simp[AF.get]
 .have:VP k i=jp:=Bool.eq_false_iff.2 (fun e=>h (VN e));simp[AF.get,this,h]
theorem AH.ax(i:Nat)(o:Option AO)(r:AH)(k:Nat):AH.get ((i,o)::r) k=if k=i then o else AH.get r k:=by
 by_cases h:k=i
 .subst h;simp[AH.get]
 .have:VP k i=jp:=Bool.eq_false_iff.2 (fun e=>h (VN e));simp[AH.get,this,h]
def OR(M:Mem)(N:Nm)(U:Nat->Prop)(w:World)(i:Nat):AO->Prop
 | .cells cs T0=> ∃c T,w.heap[N.az i]? =co (.cells c T (0,0))∧c.size=N.ext i∧cs.length=c.size∧(∀j p,cs[j]? =co p->VR M N U p (c.getD j undef))∧zP T0 T
 | .row sz es=>es=[]∨0<sz∧ ∃c T,w.heap[N.az i]? =co (.cells c T (0,0))∧c.size=N.ext i∧es.length*sz<=c.size∧(∀(k:Nat) (e:List PV),es[k]? =co e->e.length=sz)∧
   ∀(k:Nat) (e:List PV) (j:Nat) (p:PV),es[k]? =co e->e[j]? =co p->VR M N U p (c.getD (k*sz+j) undef)
 | .bu l T=>l=[]∨ ∃c,w.heap[N.az i]? =co (.cells c T (0,0))∧c.size=N.ext i∧l.length<=c.size∧ ∀(j:Nat) (x:UInt8),l[j]? =co x->c.getD j undef= .int .u8 (x.toNat:Int)
 | .fh=>w.heap[N.az i]? =co (.map #[] 0)
 | .map kc ev z zv _ m=> ∃(ents:Array MapEntry) (clock:Nat),w.heap[N.az i]? =co (.map ents clock)∧jG M kc ev m ents clock∧IR M (ev z) zv
 | .bX kc ev m vs cur=>(m=[]∧vs=[]∧cur=io∧w.heap[N.az i]? =co (.mapIter io 0 #[] 0))∨ ∃(b:Nat) (ents:Array MapEntry) (clock:Nat) (u:Array Nat),w.heap[N.az i]? =co (.mapIter (co b) clock u clock)∧M b=co (.map ents clock)∧jG M kc ev m ents clock∧
   u.toList=vs.reverse.map (fun j=>(ents.getD j ci).born)∧(∀j∈vs,j<m.length)∧vs.Nodup∧ ∀x,cur=co x-> ∃j r,vs=j::r∧m[j]? =co x
 | .ef s pos=>w.heap[N.az i]? =co (.stringIter s pos)
 | .hQ kc ev z zv _ m bs clock=> ∃ents:Array MapEntry,w.heap[N.az i]? =co (.map ents clock)∧jG M kc ev m ents clock∧IR M (ev z) zv∧ents.toList.map MapEntry.born=bs
 | .eh mp clock u=> ∃b,VR M N U mp (.map (co b))∧w.heap[N.az i]? =co (.mapIter (co b) clock u.toArray clock)
 | .n3 l c f=>N.az i=l∧ ∃r:Loop,w.heap[l]? =co (.loop r)∧r.state= .ready∧r.pending=io∧r.params=c.ps∧r.assign=c.as_∧r.body=c.bd∧r.tmps.size=c.nt∧ ∀d,VR M N U (AF.get f d) (r.tmps.getD d undef)
def AO.real:AO->Bool
 | .row _ []=>jp
 | .bu [] _=>jp
 |_=>is
structure Rel (M:Mem) (N:Nm) (U:Nat->Prop) (h:AH) (w:World):Prop where
 dA: ∀b c,M b=co c->c.FF w b
 used: ∀i o,h.get i=co o->U i
 dG: ∀i o,h.get i=co o->o.real=is->M (N.az i)=io
 obj: ∀i o,h.get i=co o->OR M N U w i o
 inj: ∀i j o p,h.get i=co o->h.get j=co p->o.real=is->p.real=is->N.az i=N.az j->i=j
theorem OR.lt{M:Mem}{N:Nm}{U:Nat->Prop}{w:World}{i:Nat}{o:AO}(h:OR M N U w i o)(j:o.real=is):N.az i<w.heap.size:=by
 have key: ∀x,w.heap[N.az i]? =co x->N.az i<w.heap.size:=fun x u=>(WC.1 u).1
 cases o with
 |cells cs T0=>obtain⟨c,T,h1,_⟩:=h;exact key _ h1
 |row sz es=>
  rcases h with rfl|⟨_,c,T,h1,_⟩
  .cases j
  .exact key _ h1
 |bu l T=>
  rcases h with rfl|⟨c,h1,_⟩
  .cases j
  .exact key _ h1
 |fh=>exact key _ h
 |map kc ev z zv dv m=>obtain⟨e,cl,h1,_⟩:=h;exact key _ h1
 |bX kc ev m l cu=>rcases h with⟨_,_,_,h1⟩|⟨b,e,cl,y,h1,_⟩<;>exact key _ h1
 |ef s p=>exact key _ h
 |hQ kc ev z zv dv m bs clock=>obtain⟨e,h1,_⟩:=h;exact key _ h1
 |eh mp clock seen=>obtain⟨b,_,h1⟩:=h;exact key _ h1
 |n3 l c f=>obtain⟨rfl,r,h1,_⟩:=h;exact key _ h1
theorem OR.mono{M J:Mem}{N C:Nm}{U Y:Nat->Prop}{w G:World}{i:Nat}{o:AO}(hM:M.le J)(u:N.agree C U)(D: ∀i,U i->Y i)(hi:U i)(hb:G.heap[N.az i]? =w.heap[N.az i]?)
  (h:OR M N U w i o):OR J C Y G i o:=by
 cases o with
 |cells cs T0=>
  obtain⟨c,T,h1,x,y,A,B⟩:=h;exact⟨c,T,by rw[u.az i hi,hb,h1],by rw[u.ext i hi,x],y,fun j p I=>(A j p I).mono hM u D,B⟩
 |row sz es=>
  rcases h with h|⟨h0,c,T,h1,x,y,A,B⟩
  .exact .inl h
  exact .inr ⟨h0,c,T,by rw[u.az i hi,hb,h1],by rw[u.ext i hi,x],y,A,fun k e j p he I=>(B k e j p he I).mono hM u D⟩
 |bu l T=>
  rcases h with h|⟨c,h1,x,y,A⟩
  .exact .inl h
  exact .inr ⟨c,by rw[u.az i hi,hb,h1],by rw[u.ext i hi,x],y,A⟩
 |fh=>show G.heap[C.az i]? =_;rw[u.az i hi,hb];exact h
 |map kc ev z zv dv m=>
  obtain⟨e,cl,h1,x,y⟩:=h;exact⟨e,cl,by rw[u.az i hi,hb,h1],x.mono hM,y.mono hM⟩
 |bX kc ev m l cu=>
  rcases h with⟨h1,x,y,A⟩|⟨b,e,cl,se,h1,x,y,A⟩
  .exact .inl ⟨h1,x,y,by rw[u.az i hi,hb,A]⟩
  .exact .inr ⟨b,e,cl,se,by rw[u.az i hi,hb,h1],hM _ _ x,y.mono hM,A⟩
 |ef s p=>show G.heap[C.az i]? =_;rw[u.az i hi,hb];exact h
 |hQ kc ev z zv dv m bs clock=>
  obtain⟨e,h1,x,y,A⟩:=h;exact⟨e,by rw[u.az i hi,hb,h1],x.mono hM,y.mono hM,A⟩
 |eh mp clock seen=>
  obtain⟨b,h1,x⟩:=h;exact⟨b,h1.mono hM u D,by rw[u.az i hi,hb,x]⟩
 |n3 l c f=>
  obtain⟨rfl,r,h1,x,y,A,B,h6,h7,h8⟩:=h;exact⟨u.az i hi,r,by rw[hb];exact h1,x,y,A,B,h6,h7,fun d=>(h8 d).mono hM u D⟩
structure tv (w w':World):Prop where
 out:w'.output=w.output
 drawn:w.drawn<=w'.drawn
theorem tv.refl(w:World):tv w w:=⟨rfl,VA _⟩
theorem tv.trans{w j u:World}(b:tv j u)(a:tv w j):tv w u:=⟨b.out.trans a.out,Wr a.drawn b.drawn⟩
structure Ext (M:Mem) (N:Nm) (U:Nat->Prop) (h:AH) (w:World) (M':Mem) (N':Nm) (U':Nat->Prop) (h':AH) (w':World):Prop where
 os:w'.os=w.os
 tape:w'.tape=w.tape
 output:tv w w'
 size:w.heap.size<=w'.heap.size
 gu: ∀b,b<w.heap.size->(∀i o,h.get i=co o->o.real=is->N.az i≠b)->w'.heap[b]? =w.heap[b]?
 nZ:M.le M'
 iq: ∀b c,M b=io->M' b=co c->w.heap.size<=b∨ ∃i o,h.get i=co o∧o.real=is∧N.az i=b
 nm:N.agree N' U
 ule: ∀i,U i->U' i
 gh: ∀i o,h'.get i=co o->o.real=is->w.heap.size<=N'.az i∨ ∃j p,h.get j=co p∧p.real=is∧N.az j=N'.az i
theorem Ext.refl(M:Mem)(N:Nm)(U:Nat->Prop)(h:AH)(w:World):Ext M N U h w M N U h w:=
 ⟨rfl,rfl,⟨rfl,VA _⟩,VA _,fun _ _ _=>rfl,.refl _,fun b c h1 j=>by simp[h1]at j,.refl _ _,fun _ h=>h,fun i o u x=> .inr ⟨i,o,u,x,rfl⟩⟩
theorem Ext.trans{M G I:Mem}{N J Y:Nm}{U U1 U2:Nat->Prop}{h h1 h2:AH}{w w1 w2:World}
  (a:Ext M N U h w G J U1 h1 w1) (b:Ext G J U1 h1 w1 I Y U2 h2 w2):Ext M N U h w I Y U2 h2 w2 where
 os:=b.os.trans a.os
 tape:=b.tape.trans a.tape
 output:=b.output.trans a.output
 size:=Wr a.size b.size
 gu:=fun k hk hn=>by
  rw[b.gu k (W4 hk a.size) (fun i o u x he=>?_),a.gu k hk hn];rcases a.gh i o u x with y|⟨j,p,y,D,A⟩
  .omega
  .exact hn j p y D (A.trans he)
 nZ:=a.nZ.trans b.nZ
 iq:=fun k c y A=>by
  cases B:G k with
  |some c'=>exact a.iq k c' y B
  |none=>
   rcases b.iq k c B A with C|⟨i,o,C,x,h7⟩
   .exact .inl (Wr a.size C)
   .rcases a.gh i o C x with h8|⟨j,p,h8,D,h9⟩
    .exact .inl (by omega)
    .exact .inr ⟨j,p,h8,D,h9.trans h7⟩
 nm:=⟨fun i u=>(b.nm.az i (a.ule i u)).trans (a.nm.az i u),fun i u=>(b.nm.ext i (a.ule i u)).trans (a.nm.ext i u)⟩
 ule:=fun i u=>b.ule i (a.ule i u)
 gh:=fun i o u x=>by
  rcases b.gh i o u x with y|⟨j,p,y,D,A⟩
  .exact .inl (Wr a.size y)
  .rcases a.gh j p y D with B|⟨k,q,B,hq,C⟩
   .exact .inl (by omega)
   .exact .inr ⟨k,q,B,hq,C.trans A⟩
def ae(p q:PV):Prop:= ∀(M:Mem) (N:Nm) (U:Nat->Prop) (x:Value),VR M N U p x->VR M N U q x
def jV(p q:IV):Prop:= ∀(M:Mem) (x:Value),IR M p x->IR M q x
theorem ae.refl(p:PV):ae p p:=fun _ _ _ _ h=>h
theorem zi(w:World)(o:Obj)(i:Nat)(h:i<w.heap.size):(w.alloc o).heap[i]? =w.heap[i]? :=by
 show(w.heap.push o)[i]? =_;rw[XF,be (by omega)]
def FR(M:Mem)(N:Nm)(U:Nat->Prop)(f:AF)(t:Array Value):Prop:= ∀k,VR M N U (f.get k) (t.getD k undef)
theorem FR.mono{M j:Mem}{N u:Nm}{U x:Nat->Prop}{f:AF}{t:Array Value}(hM:M.le j)(y:N.agree u U)(A: ∀i,U i->x i)(h:FR M N U f t):FR j u x f t:=fun k=>(h k).mono hM y A
theorem FR.ext{M j:Mem}{N u:Nm}{U x:Nat->Prop}{h y:AH}{w A:World}{f:AF}{t:Array Value}(e:Ext M N U h w j u x y A)(hf:FR M N U f t):FR j u x f t:=hf.mono e.nZ e.nm e.ule
theorem FR.put{M:Mem}{N:Nm}{U:Nat->Prop}{f:AF}{t:Array Value}(h:FR M N U f t)(d:Nat)(p:PV)(x:Value)(hd:d<t.size)(hp:VR M N U p x):FR M N U ((d,p)::f) (t.setIfInBounds d x):=by
 intro k;rw[AF.ax];by_cases hk:k=d
 .subst hk;simp[Vn,hd,hp]
 .rw[be hk];have:=h k;simp only[Vn,V1]at this ⊢;rw[be (fun e=>hk e.symm)];exact this
inductive TK where
  |aP (d:TypeDesc)
  |cp (fs:List (Nat×TypeId))
  |arr (n:Nat) (e:TypeId)
structure bC where
  k:TK
  size:Nat
  bytes:Nat
  zero:Value
  eq:Bool
abbrev Ty:=Nat->Option bC
def xi:TypeDesc->Bool
  | .struct _=>jp
  | .array _ _=>jp
  |_=>is
def Jz(P:Program)(t:TypeId):TK->Prop
  | .aP d=>P.underlying t=co d∧xi d=is
  | .cp fs=> ∃F,P.underlying t=co (.struct F)∧F.toList.map (fun f=>(f.offset,f.type))=fs
  | .arr n e=>P.underlying t=co (.array n e)
def T2(P:Program)(t:TypeId):Prop:=P.stoodInHeld t=jp∧P.eqGuardType P.depth t=jp∧ ∀f∈(P.fieldsOf t).toList,f.name≠ "_"
def ai(P:Program)(t:TypeId)(e:bC):Prop:=
  (∃i,P.info? t=co i∧i.size=e.size∧i.bytes=e.bytes∧i.zero=co e.zero)∧Jz P t e.k∧(e.eq=is->T2 P t)
def bn(P:Program)(ty:Ty):Prop:= ∀t e,ty t=co e->ai P t e
section
variable {P:Program} {w:World}
theorem aQ{t:TypeId}{e:bC}(h:ai P t e):(sizeOf t).run P w= .ok e.size w:=by
  obtain⟨⟨i,j,hs,_⟩,_⟩:=h;simp[sizeOf,run_typeInfo w j,hs]
theorem dp{t:TypeId}{e:bC}(h:ai P t e):(zeroValue t).run P w= .ok e.zero w:=by
  obtain⟨⟨i,j,hs,hb,u⟩,_⟩:=h;simp[zeroValue,run_typeInfo w j,u]
def TK.agg:TK->Bool
  | .aP _=>jp
  |_=>is
theorem fF{t:TypeId}{e:bC}(h:ai P t e):(isAgg t).run P w= .ok e.k.agg w:=by
  obtain⟨_,hk,_⟩:=h;cases hek:e.k with
  | aP d=>
    rw[hek]at hk;obtain⟨h1,j⟩:=hk;simp only[isAgg,Sem.run_bind,run_underlying h1,Result.andThen_ok];cases d<;>simp_all [xi,TK.agg]
  | cp fs=>
    rw[hek]at hk;obtain⟨F,h1,_⟩:=hk;simp[isAgg,run_underlying h1,TK.agg]
  | arr n el=>
    rw[hek]at hk;simp only[Jz]at hk;simp[isAgg,run_underlying hk,TK.agg]
end
structure AS where
  f:AF
  h:AH
  nx:Nat
structure NT where
  n:Nat
  df:List Deferred
instance:Coe NT Nat:=⟨NT.n⟩
instance:Coe Nat NT:=⟨fun n=>⟨n,[]⟩⟩
def Fits(M:Mem)(N:Nm)(s:AS)(nt:NT)(a:Act)(w:World):Prop:=
  Rel M N (· <s.nx) s.h w∧FR M N (· <s.nx) s.f a.tmps∧a.defers=nt.df∧a.tmps.size=nt.n
def ofV:Value->PV
  | .agg cs=> .agg (cs.toList.map fun v=> .iv (.v v))
  | .bool b=> .kb b
  |v=> .iv (.v v)
def ev(f:AF):Operand->PV
  | .tmp t=>f.get t
  | .const v=>ofV v
  | .global _=> .any
  | .func g=> .cm (.func g) [] []
theorem QA{M:Mem}{N:Nm}{U:Nat->Prop}(v:Value):VR M N U (ofV v) v:=by
  cases v<;>first
    |exact .iv _ _ (.v _)
    |exact .kb _
    | (refine .agg _ _ (by simp) (fun j p y=>?_)
       rw[Vv,Vw]at y;obtain⟨x,B,rfl⟩:=y;rename_i A;have u:A[j]? =co x:=by simpa using B
       rw[Vn,u]
       exact .iv _ _ (.v _))
theorem aN{M:Mem}{N:Nm}{U:Nat->Prop}{f:AF}{a:Act}(h:FR M N U f a.tmps)(x:Operand):VR M N U (ev f x) (a.eval x):=by
  cases x with
  |tmp t=>exact h t
  |const v=>exact QA v
  |global g=>exact .any _
  |func g=>exact .cm _ _ _ _ _ Z Z (by simp) (by simp)
def lH(cs:List PV)(off n:Nat):Option (List PV):=let l:=(cs.drop off).take n;bif VP l.length n then co l else io
def vq{α:Type _}(p:PV)(k:PV->α):α:=
  match p with
  | .iv x=>k (.iv x)
  | .agg cs=>k (.agg cs)
  | .aZ cs=>k (.aZ cs)
  | .ptr i o=>k (.ptr i o)
  | .cM i sz a o=>k (.cM i sz a o)
  | .eL z i=>k (.eL z i)
  | .nI i o n=>k (.nI i o n)
  | .sl i o n sz=>k (.sl i o n sz)
  | .mp i=>k (.mp i)
  | .cm fn a b=>k (.cm fn a b)
  | .kb b=>k (.kb b)
  | .any=>k .any
theorem dB{α:Type _}(p:PV)(k:PV->α):vq p k=k p:=by cases p<;>rfl
def force{α:Type _}:List PV->(List PV->α)->α
  | [],k=>k []
  |x::r,k=>vq x fun u=>force r fun j=>k (u::j)
theorem force_eq{α:Type _}: ∀(l:List PV) (k:List PV->α),force l k=k l
  | [],_=>rfl
  |x::r,k=>by simp only[force,dB];rw[force_eq r]
def PV.one:PV->Bool
  | .iv (.v (.agg _))=>jp
  | .iv (.v (.tuple _))=>jp
  | .iv (.agg _)=>jp
  | .iv _=>is
  | .agg _=>jp
  | .aZ _=>jp
  | .any=>jp
  |_=>is
def PV.cells:PV->Option (List PV)
  | .agg cs=>co cs
  | p=>match p.one with
    |true=>co [p]
    |false=>io
def dt:List PV->Bool
  | []=>is
  | p::r=>match p.one with
    |true=>dt r
    |false=>jp
def setCells:List PV->Nat->List PV->List PV
  | [],_,_=> []
  |c::cs,0,[]=>c::cs
  |_::cs,0,x::xs=>x::setCells cs 0 xs
  |c::cs,n+1,xs=>c::setCells cs n xs
theorem cZ: ∀(cs:List PV) (n:Nat) (xs:List PV),(setCells cs n xs).length=cs.length
  | [],_,_=>rfl
  |c::cs,0,[]=>rfl
  |_::cs,0,x::xs=>by simp[setCells,cZ cs 0 xs]
  |c::cs,n+1,xs=>by simp[setCells,cZ cs n xs]
theorem iw: ∀(cs:List PV) (n:Nat) (xs:List PV) (j:Nat) (p:PV),(setCells cs n xs)[j]? =co p->(n<=j∧xs[j-n]? =co p)∨((j<n∨n+xs.length<=j)∧cs[j]? =co p)
  | [],_,_,j,p,h=>by simp[setCells]at h
  |c::cs,0,[],j,p,h=> .inr ⟨.inr (by simp),h⟩
  | c::cs,0,x::xs,j,p,h=>by
    simp only[setCells]at h;cases j with
    |zero=>exact .inl ⟨VA _,by simpa using h⟩
    | succ j=>
      rcases iw cs 0 xs j p (by simpa using h) with⟨_,h1⟩|⟨h1,u⟩
      · exact .inl ⟨VB _,by simpa using h1⟩
      · exact .inr ⟨by simp at h1 ⊢;omega,by simpa using u⟩
  | c::cs,n+1,xs,j,p,h=>by
    simp only[setCells]at h;cases j with
    |zero=>exact .inr ⟨.inl (by omega),by simpa using h⟩
    | succ j=>
      rcases iw cs n xs j p (by simpa using h) with⟨h1,u⟩|⟨h1,u⟩
      · exact .inl ⟨by omega,by rw[show j+1-(n+1)=j-n by omega];exact u⟩
      · exact .inr ⟨by omega,by simpa using u⟩
def b4(v:Value):List PV:=v.cells.toList.map fun x=> .iv (.v x)
def pz(j:Nat->Option (Nat×Nat)):List PV->List (Nat×PV)->Option (List PV)
  |cs,[]=>co cs
  | cs,(i,p)::r=>match j i with
    | some (off,size)=>match p.cells with
      | some l=>match VP l.length size,Xr (off+l.length) cs.length with
        |true,is=>force (setCells cs off l) fun u=>pz j u r
        |_,_=>io
      |none=>io
    |none=>io
def ki:List PV->Option PV
  | []=>io
  |p::_=>co p
def behind(h:AH):PV->Option (List PV)
  | .ptr i off=>match h.get i with
    |some (.cells cs _)=>co (cs.drop off)
    |_=>io
  | .cM i sz k off=>match h.get i with
    | some (.row sz' es)=>match VP sz' sz,es[k]? with
      |true,co e=>co (e.drop off)
      |_,_=>io
    |_=>io
  | .iv (.kK cs)=>co (cs.map .iv)
  |_=>io
def gU(e:bC)(cs:List PV):Option PV:=
  match e.k.agg with
  | true=>match lH cs 0 e.size with
    |some l=>force l fun j=>co (.agg j)
    |none=>io
  |false=>ki cs
def ub(e:bC)(k:Nat):Option (Nat×TypeId):=
  match e.k with
  | .cp fs=>fs[k]?
  |_=>io
def qO(ty:Ty):List (Nat×TypeId)->Option (List (Nat×Nat))
  | []=>co []
  | (off,u)::r=>match ty u with
    | some e=>match qO ty r with
      |some l=>co ((off,e.size)::l)
      |none=>io
    |none=>io
def p7(n:Nat):PV->Option PV
  | .ptr i off=>co (.ptr i (off+n))
  | .cM i sz k off=>co (.cM i sz k (off+n))
  | .iv (.kK cs)=>co (.iv (.kK (cs.drop n)))
  |_=>io
abbrev PV.bool(b:Bool):PV:= .iv (.v (.bool b))
abbrev PV.int(n:Int):PV:= .iv (.v (.int .i64 n))
abbrev PV.str(s:ByteArray):PV:= .iv (.v (.string s))
def rr(n:Int):Prop:= -9223372036854775808<=n∧n<=9223372036854775807
def Ed(op:BinOp)(k:IntKind)(a b:Int):Option (PV×Prop):=
  match op,k with
  | .add,.i64=>co (.int (a+b),rr (a+b))
  | .sub,.i64=>co (.int (a-b),rr (a-b))
  | .mul,.i64=>co (.int (a*b),rr (a*b))
  | .rem,.i64=>co (.int (Int.tmod a b),¬b=0)
  | .quo,.i64=>co (.int (Int.tdiv a b),¬b=0∧rr (Int.tdiv a b))
  | .add,k=>co (.iv (.v (.int k (k.wrap (a+b)))),True)
  | .sub,k=>co (.iv (.v (.int k (k.wrap (a-b)))),True)
  | .mul,k=>co (.iv (.v (.int k (k.wrap (a*b)))),True)
  | .quo,k=>co (.iv (.v (.int k (k.wrap (Int.tdiv a b)))),¬b=0)
  | .rem,k=>co (.iv (.v (.int k (Int.tmod a b))),¬b=0)
  | .eql,_=>co (.bool (kw (a=b)),True)
  | .neq,_=>co (.bool (!kw (a=b)),True)
  | .lss,_=>co (.bool (kw (a<b)),True)
  | .leq,_=>co (.bool (kw (a<=b)),True)
  | .gtr,_=>co (.bool (kw (a>b)),True)
  | .geq,_=>co (.bool (kw (a>=b)),True)
  | .and,k=>co (.iv (.v (.int k (k.wrap ((BitVec.ofInt k.bits a&&&BitVec.ofInt k.bits b).toNat:Int)))),True)
  | .or,k=>co (.iv (.v (.int k (k.wrap ((BitVec.ofInt k.bits a|||BitVec.ofInt k.bits b).toNat:Int)))),True)
  | .xor,k=>co (.iv (.v (.int k (k.wrap ((BitVec.ofInt k.bits a ^^^ BitVec.ofInt k.bits b).toNat:Int)))),True)
  |_,_=>io
def sQ(op:BinOp)(k:IntKind)(a b:Int):Option (PV×Prop):=
  match op with
  | .shr=>match kw (0<=b) with
    |true=>co (.iv (.v (.int k (a.fdiv (2 ^ min b.toNat k.bits)))),True)
    |false=>io
  | .shl=>match kw (0<=b) with
    |true=>co (.iv (.v (.int k (k.wrap (a*2 ^ min b.toNat k.bits)))),True)
    |false=>io
  |_=>io
def CQ(op:BinOp)(k:IntKind)(a b:Int):Option (PV×Prop):=
  match op with
  | .shr=>sQ .shr k a b
  | .shl=>sQ .shl k a b
  |op=>Ed op k a b
def Dw(op:BinOp)(a b:ByteArray):Option (PV×Prop):=
  match op with
  | .eql=>co (.bool (kw (a=b)),True)
  | .neq=>co (.bool (!kw (a=b)),True)
  | .add=>co (.str (a++b),a.size+b.size<=9223372036854775807)
  | .lss=>co (.bool (Op.bytesLess a.toList b.toList),True)
  | .gtr=>co (.bool (!(Op.bytesLess a.toList b.toList||decide (a=b))),True)
  | .leq=>co (.bool (Op.bytesLess a.toList b.toList||decide (a=b)),True)
  | .geq=>co (.bool (!(Op.bytesLess a.toList b.toList)),True)
  |_=>io
def oy(ty:Ty)(t:TypeId)(op:BinOp)(a b:Bool):Option (PV×Prop):=
  match ty t with
  | some ⟨.aP .bool,_,_,_,_⟩=>match op with
    | .eql=>co (.bool (a==b),True)
    | .neq=>co (.bool (!(a==b)),True)
    |_=>io
  |_=>io
def Ia:TypeDesc->Bool
  | .pointer _=>is
  |_=>jp
def QR:TypeDesc->Bool
  | .map _ _=>is
  |_=>jp
def Mm:TypeDesc->Bool
  | .func _ _ _=>is
  |_=>jp
def u2(ty:Ty)(t:TypeId)(wd:TypeDesc->Bool)(op:BinOp)(b:Bool):Option (PV×Prop):=
  match ty t with
  | some ⟨.aP d,_,_,_,_⟩=>match wd d,op with
    |true,.eql=>co (.bool b,True)
    |true,.neq=>co (.bool (!b),True)
    |_,_=>io
  |_=>io
def za(ty:Ty)(t:TypeId)(op:BinOp)(x y:PV):Option (PV×Prop):=
  match x,y with
  | .iv (.v (.int j a)),.iv (.v (.int k b))=>if j=k then CQ op j a b else sQ op j a b
  | .iv (.v (.string a)),.iv (.v (.string b))=>Dw op a b
  | .iv (.v (.bool a)),y=>match y with
    | .iv (.v (.bool b))=>oy ty t op a b
    | .kb b=>oy ty t op a b
    |_=>io
  | .kb a,y=>match y with
    | .iv (.v (.bool b))=>oy ty t op a b
    | .kb b=>oy ty t op a b
    |_=>io
  | .ptr _ _,.iv (.v (.pointer io))=>u2 ty t Ia op jp
  | .iv (.v (.pointer io)),.iv (.v (.pointer io))=>u2 ty t Ia op is
  | .mp _,.iv (.v (.map io))=>u2 ty t QR op jp
  | .cm _ _ _,.iv (.v .nilFunc)=>u2 ty t Mm op jp
  |_,_=>io
def wx:PV->Option (PV×Prop)
  | .iv (.bK _ n _)=>co (.int n,True)
  | .iv (.v (.slice io 0 0))=>co (.int 0,True)
  | .iv (.v (.string s))=>co (.int s.size,True)
  | .sl _ _ len _=>co (.int len,True)
  |_=>io
def kh(x:PV)(i:Int):Option (PV×Prop):=
  match x with
  | .iv (.bK _ n el)=>co (.iv (.kK (el i.toNat)),0<=i∧i<n)
  | .sl j off len sz=>co (.cM j sz (off+i.toNat) 0,0<=i∧i<len)
  |_=>io
def FK.rd:(s:FS)->List PV->Option (FK s)
  | [],cs=>match cs with
    | []=>co ()
    |_=>io
  | none::r,cs=>match cs with
    | .iv (.v (.string a))::cs=>match FK.rd r cs with
      |some k=>co (a,k)
      |none=>io
    |_=>io
  | some q::r,cs=>match cs with
    | .iv (.v (.int j n))::cs=>match kw (j=q),FK.rd r cs with
      |true,co k=>co (n,k)
      |_,_=>io
    |_=>io
def KC.pk:(c:KC)->c.K->PV
  | .str,s=> .iv (.v (.string s))
  | .int k,n=> .iv (.v (.int k n))
  | .si k,x=> .agg [.iv (.v (.string x.1)),.iv (.v (.int k x.2))]
  | .fl s,x=> .agg ((FK.vs s x).map fun v=> .iv (.v v))
def KC.dk:(c:KC)->PV->Option c.K
  | .str,p=>match p with
    | .iv (.v (.string s))=>co s
    |_=>io
  | .int k,p=>match p with
    | .iv (.v (.int j n))=>if j=k then co n else io
    |_=>io
  | .si k,p=>match p with
    | .agg [.iv (.v (.string s)),.iv (.v (.int j n))]=>if j=k then co (s,n) else io
    |_=>io
  | .fl s,p=>match p with
    | .agg cs=>FK.rd s cs
    |_=>io
def ql(f:TypeId->Option FS):List (Nat×TypeId)->Nat->Option FS
  | [],_=>co []
  | (off,u)::r,at_=>match VP off at_,f u with
    | true,co s=>match ql f r (at_+s.length) with
      |some q=>co (s++q)
      |none=>io
    |_,_=>io
def Cr(s:FS):Nat->FS
  |0=> []
  |n+1=>s++Cr s n
def vt(ty:Ty):Nat->TypeId->Option FS
  |0,_=>io
  | d+1,t=>match ty t with
    |some ⟨.aP .string,1,_,_,_⟩=>co [io]
    |some ⟨.aP (.int q),1,_,_,_⟩=>co [co q]
    | some ⟨.cp fs,n,_,_,is⟩=>match ql (vt ty d) fs 0 with
      | some s=>match VP s.length n with
        |true=>co s
        |false=>io
      |none=>io
    | some ⟨.arr n e,m,_,_,_⟩=>match vt ty d e with
      | some s=>match VP (n*s.length) m with
        |true=>co (Cr s n)
        |false=>io
      |none=>io
    |_=>io
def dK(ty:Ty)(j:TypeId):Option KC:=
  match ty j with
  |some ⟨.aP .string,_,_,_,_⟩=>co .str
  |some ⟨.aP (.int k),_,_,_,_⟩=>co (.int k)
  | some ⟨.cp [(0,a),(1,b)],_,_,_,is⟩=>match ty a,ty b with
    |some ⟨.aP .string,1,_,_,_⟩,co ⟨.aP (.int k),1,_,_,_⟩=>co (.si k)
    |_,_=>io
  | some ⟨.cp _,_,_,_,is⟩=>match vt ty 6 j with
    |some s=>co (.fl s)
    |none=>io
  |_=>io
section
variable (kc:KC) {V:Type}
def dQ:List (kc.K×V)->kc.K->V->V
  | [],_,z=>z
  |(a,b)::r,k,z=>if a=k then b else dQ r k z
def dr:List (kc.K×V)->kc.K->Bool
  | [],_=>jp
  |(a,_)::r,k=>if a=k then is else dr r k
def cJ:List (kc.K×V)->kc.K->V->List (kc.K×V)
  | [],k,v=> [(k,v)]
  |(a,b)::r,k,v=>if a=k then(k,v)::r else(a,b)::cJ r k v
def kL:List (kc.K×V)->kc.K->List (kc.K×V)
  | [],_=> []
  |(a,b)::r,k=>if a=k then r else(a,b)::kL r k
end
def Ds:Value->Value->Bool
  | .int j a,.int k b=>kw (j=k)&&kw (a=b)
  | .string a,.string b=>kw (a=b)
  | .bool a,.bool b=>a==b
  | .slice io 0 0,.slice io 0 0=>is
  | .map io,.map io=>is
  |_,_=>jp
def wM:List Value->List Value->Bool
  | [],[]=>is
  |a::r,b::q=>Ds a b&&wM r q
  |_,_=>jp
def ll:Value->Value->Bool
  | .agg a,.agg b=>wM a.toList b.toList
  |a,b=>Ds a b
def IV.pv:IV->PV
  | .agg cs=> .agg (cs.map .iv)
  |x=> .iv x
def vc(ty:Ty)(t:TypeId)(ok:Bool)(kc:KC){V:Type}(e:V->IV)(z:V)(j:Value)(m:List (kc.K×V))(key:PV):Option (PV×Prop):=
  match ty t with
  | some ⟨.aP (.map kt et),_,_,_,_⟩=>match dK ty kt,ty et with
    | some kc',co ee=>match kw (kc'=kc),ll ee.zero j,kc.dk key with
      | true,is,co k=>match ok with
        |true=>co (.aZ [(e (dQ kc m k z)).pv,.iv (.v (.bool (dr kc m k)))],True)
        |false=>co ((e (dQ kc m k z)).pv,True)
      |_,_,_=>io
    |_,_=>io
  |_=>io
def F2(f:TypeId->PV->PV->Option Bool)(ty:Ty):List (Nat×TypeId)->List PV->List PV->Option Bool
  | [],_,_=>co is
  | (off,u)::r,cs,ds=>match ty u with
    | some eu=>match gU eu (cs.drop off),gU eu (ds.drop off) with
      | some a,co b=>match f u a b,F2 f ty r cs ds with
        |some x,co y=>co (x&&y)
        |_,_=>io
      |_,_=>io
    |none=>io
def F3(ty:Ty):Nat->TypeId->PV->PV->Option Bool
  |0,_,_,_=>io
  | d+1,t,p,q=>match ty t with
    | some ⟨.aP (.int _),_,_,_,_⟩=>match p,q with
      | .iv (.v (.int j a)),.iv (.v (.int k b))=>if j=k then co (kw (a=b)) else io
      |_,_=>io
    | some ⟨.aP .string,_,_,_,_⟩=>match p,q with
      | .iv (.v (.string a)),.iv (.v (.string b))=>co (kw (a=b))
      |_,_=>io
    | some ⟨.aP .bool,_,_,_,_⟩=>match p,q with
      | .iv (.v (.bool a)),.iv (.v (.bool b))=>co (a==b)
      |_,_=>io
    | some ⟨.cp fs,_,_,_,is⟩=>match p,q with
      | .agg cs,.agg ds=>F2 (F3 ty d) ty fs cs ds
      |_,_=>io
    |_=>io
def EL(ty:Ty)(t:TypeId)(op:BinOp)(p q:PV):Option (PV×Prop):=
  match op with
  | .eql=>match F3 ty 10 t p q with
    |some b=>co (.bool b,True)
    |none=>io
  | .neq=>match F3 ty 10 t p q with
    |some b=>co (.bool (!b),True)
    |none=>io
  |_=>io
def iN(ty:Ty)(s:AS):Op->Option (PV×Prop)
  | .move x=>co (ev s.f x,True)
  | .assign x=>co (ev s.f x,True)
  | .pick c a b=>match ev s.f c with
    | .kb is=>co (ev s.f a,True)
    | .kb jp=>co (ev s.f b,True)
    |_=>io
  | .load t x=>match ty t with
    | some e=>match behind s.h (ev s.f x) with
      | some cs=>match gU e cs with
        |some p=>co (p,True)
        |none=>io
      |none=>io
    |none=>io
  | .nilCheck x=>match ev s.f x with
    | .ptr i o=>co (.ptr i o,True)
    | .cM i sz k o=>co (.cM i sz k o,True)
    | .iv (.kK cs)=>co (.iv (.kK cs),True)
    | .cm (.func g) a b=>co (.cm (.func g) a b,True)
    |_=>io
  | .binOp op t x y _=>match ev s.f x,ev s.f y with
    | .agg cs,.agg ds=>EL ty t op (.agg cs) (.agg ds)
    |p,q=>za ty t op p q
  | .lookup t x i ok=>match ev s.f x with
    | .iv (.eG kc e z zv m)=>vc ty t ok kc e z zv m (ev s.f i)
    | .mp j=>match s.h.get j with
      |some (.map kc e z zv _ m)=>vc ty t ok kc e z zv m (ev s.f i)
      |_=>io
    |_=>io
  | .entry it=>match ev s.f it with
    | .ptr i 0=>match s.h.get i with
      |some (.bX kc e _ _ (co x))=>co (.aZ [kc.pk x.1,(e x.2).pv],True)
      |_=>io
    |_=>io
  | .unOp .not _ x=>match ev s.f x with
    | .kb is=>co (.kb jp,True)
    | .kb jp=>co (.kb is,True)
    | .iv (.v (.bool b))=>co (.bool (!b),True)
    |_=>io
  | .fieldAddr t x k=>match ty t with
    | some e=>match ub e k with
      | some (off,u)=>match ty u with
        | some eu=>match eu.size with
          |0=>io
          | _+1=>match p7 off (ev s.f x) with
            |some p=>co (p,True)
            |none=>io
        |none=>io
      |none=>io
    |none=>io
  | .field t x k=>match ty t with
    | some e=>match ub e k with
      | some (off,u)=>match ty u with
        | some eu=>match ev s.f x with
          | .agg cs=>match gU eu (cs.drop off) with
            |some p=>co (p,True)
            |none=>io
          |_=>io
        |none=>io
      |none=>io
    |none=>io
  | .indexAddr t x i=>match ty t with
    | some ⟨.aP (.slice u),_,_,_,_⟩=>match ty u with
      | some eu=>match ev s.f i with
        | .iv (.v (.int _ n))=>match ev s.f x with
          | .iv (.bK sz m el)=>bif VP sz eu.size then kh (.iv (.bK sz m el)) n else io
          | .sl j off len sz=>bif VP sz eu.size then kh (.sl j off len sz) n else io
          |_=>io
        |_=>io
      |none=>io
    | some ⟨.arr len u,_,_,_,_⟩=>match ty u with
      | some eu=>match ev s.f i with
        | .iv (.v (.int _ n))=>match ev s.f x with
          | .ptr j off=>co (.ptr j (off+n.toNat*eu.size),0<=n∧n<len)
          |_=>io
        |_=>io
      |none=>io
    |_=>io
  | .index t x i=>match ty t with
    | some ⟨.aP .string,_,_,_,_⟩=>match ev s.f i with
      | .iv (.v (.int _ n))=>match ev s.f x with
        | .iv (.v (.string b))=>co (.iv (.v (.int .u8 ((b.data.toList.getD n.toNat 0).toNat:Int))),0<=n∧n<b.size)
        |_=>io
      |_=>io
    |_=>io
  | .slice t x (co lo) (co hi) io=>match ty t with
    | some ⟨.aP (.slice u),_,_,_,_⟩=>match ty u with
      | some eu=>match ev s.f lo with
        | .iv (.v (.int _ a))=>match ev s.f hi with
          | .iv (.v (.int _ b))=>match ev s.f x with
            | .iv (.bK sz m el)=>bif VP sz eu.size then co (.iv (.bK sz (b.toNat-a.toNat) (fun k=>el (a.toNat+k))),0<=a∧a<=b∧b<=m) else io
            |_=>io
          |_=>io
        |_=>io
      |none=>io
    | some ⟨.aP .string,_,_,_,_⟩=>match ev s.f lo with
      | .iv (.v (.int _ a))=>match ev s.f hi with
        | .iv (.v (.int _ b))=>match ev s.f x with
          | .iv (.v (.string y))=>co (.iv (.v (.string (y.extract a.toNat b.toNat))),0<=a∧a<=b∧b<=y.size)
          |_=>io
        |_=>io
      |_=>io
    |_=>io
  | .slice t x (co lo) io io=>match ty t with
    | some ⟨.aP (.slice u),_,_,_,_⟩=>match ty u with
      | some eu=>match ev s.f lo with
        | .iv (.v (.int _ a))=>match ev s.f x with
          | .iv (.bK sz m el)=>bif VP sz eu.size then co (.iv (.bK sz (m-a.toNat) (fun k=>el (a.toNat+k))),0<=a∧a<=m) else io
          |_=>io
        |_=>io
      |none=>io
    |_=>io
  | .slice t x io (co hi) (co mx)=>match ty t with
    | some ⟨.aP (.slice u),_,_,_,_⟩=>match ty u with
      | some eu=>match ev s.f hi with
        | .iv (.v (.int _ b))=>match ev s.f mx with
          | .iv (.v (.int _ c))=>match ev s.f x with
            | .iv (.bK sz m el)=>bif VP sz eu.size then co (.iv (.bK sz b.toNat el),0<=b∧b<=c∧c<=m) else io
            |_=>io
          |_=>io
        |_=>io
      |none=>io
    |_=>io
  | .convert t t' x=>match ty t with
    | some ⟨.aP (.int _),_,_,_,_⟩=>match ty t' with
      | some ⟨.aP (.int k),_,_,_,_⟩=>match ev s.f x with
        | .iv (.v (.int _ n))=>co (.iv (.v (.int k (k.wrap n))),True)
        |_=>io
      |_=>io
    |_=>io
  | .build t parts=>match ty t with
    | some e=>match e.k with
      | .cp fs=>match qO ty fs with
        | some pl=>match pz (pl[·]?) (b4 e.zero) (parts.toList.map fun x=>(x.1,ev s.f x.2)) with
          |some cs=>force cs fun A=>co (.agg A,True)
          |none=>io
        |none=>io
      | .arr _ u=>match ty u with
        | some eu=>match pz (fun i=>co (i*eu.size,eu.size)) (b4 e.zero) (parts.toList.map fun x=>(x.1,ev s.f x.2)) with
          |some cs=>force cs fun A=>co (.agg A,True)
          |none=>io
        |none=>io
      |_=>io
    |none=>io
  | .extract x k=>match ev s.f x with
    | .aZ cs=>match cs[k]? with
      |some p=>co (p,True)
      |none=>io
    |_=>io
  | .makeFunc fn first caps=>force (first.toList.map (ev s.f)) fun a=>force (caps.toList.map (ev s.f)) fun b=>co (.cm fn a b,True)
  | .call ⟨.builtin .len,args,argTypes⟩=>match args.toList,argTypes.toList with
    | [x],[t]=>match ty t with
      | some ⟨.aP (.slice _),_,_,_,_⟩=>match ev s.f x with
        | .iv (.bK sz n el)=>wx (.iv (.bK sz n el))
        | .sl i off len sz=>wx (.sl i off len sz)
        | .iv (.v (.slice io 0 0))=>wx (.iv (.v (.slice io 0 0)))
        |_=>io
      | some ⟨.aP .string,_,_,_,_⟩=>match ev s.f x with
        | .iv (.v (.string b))=>wx (.iv (.v (.string b)))
        |_=>io
      | some ⟨.aP (.map _ _),_,_,_,_⟩=>match ev s.f x with
        | .iv (.eG _ _ _ _ m)=>co (.int m.length,True)
        | .mp j=>match s.h.get j with
          |some (.map _ _ _ _ _ m)=>co (.int m.length,True)
          |_=>io
        |_=>io
      |_=>io
    |_,_=>io
  | .call ⟨.builtin .max,args,_⟩=>match args.toList with
    | [x,y]=>match ev s.f x,ev s.f y with
      | .iv (.v (.int k a)),.iv (.v (.int _ b))=>co (.iv (.v (.int k (max a b))),True)
      |_,_=>io
    |_=>io
  | .call ⟨.builtin .min,args,_⟩=>match args.toList with
    | [x,y]=>match ev s.f x,ev s.f y with
      | .iv (.v (.int k a)),.iv (.v (.int _ b))=>co (.iv (.v (.int k (min a b))),True)
      |_,_=>io
    |_=>io
  |_=>io
inductive TT where
  |leaf
  |node (l:TT) (k:Nat) (e:bC) (r:TT)
def TT.find:TT->Nat->Option bC
  | .leaf,_=>io
  | .node l k e r,t=>bif VP t k then co e else bif VV t k then l.find t else r.find t
def TT.Uf(p:Nat->bC->Prop):TT->Prop
  | .leaf=>True
  | .node l k e r=>p k e∧l.Uf p∧r.Uf p
theorem TT.vu{p:Nat->bC->Prop}: ∀{x:TT},x.Uf p-> ∀t e,x.find t=co e->p t e
  | .leaf,_,t,e,h=>by simp[TT.find]at h
  | .node l k e0 r,ha,t,e,h=>by
    simp only[TT.find]at h;cases hb:VP t k with
    | true=>
      simp only[hb,cond_true,Vq]at h;subst h;rw[VN hb];exact ha.1
    | false=>
      simp only[hb,cond_false]at h;cases hl:VV t k with
      |true=>simp only[hl,cond_true]at h;exact TT.vu ha.2.1 t e h
      |false=>simp only[hl,cond_false]at h;exact TT.vu ha.2.2 t e h
theorem ad{P:Program}{t:TypeId}{e:bC}(h:(P.info? t).map (fun i=>(i.size,i.bytes,i.zero))=co (e.size,e.bytes,co e.zero)): ∃i,P.info? t=co i∧i.size=e.size∧i.bytes=e.bytes∧i.zero=co e.zero:=by
  rw[Vw]at h;obtain⟨i,h1,j⟩:=h;simp only[VC]at j;exact⟨i,h1,j.1,j.2.1,j.2.2⟩
theorem VR.one{M:Mem}{N:Nm}{U:Nat->Prop}{p:PV}{x:Value}(h:VR M N U p x)(ho:p.one=is):x.oneCell'=is:=by
  cases h with
  | iv y x hi=>
    cases hi with
    |v x=>cases x<;>first|rfl|(simp[PV.one]at ho)
    |agg=>simp[PV.one]at ho
    |_=>rfl
  |agg=>simp[PV.one]at ho
  |aZ=>simp[PV.one]at ho
  |any=>simp[PV.one]at ho
  |_=>rfl
section
variable {M:Mem} {N:Nm}
theorem VR.jU{U:Nat->Prop}{cs:List PV}{x:Value}(h:VR M N U (.agg cs) x): ∃u:Array Value,x= .agg u∧cs.length=u.size∧ ∀j p,cs[j]? =co p->VR M N U p (u.getD j undef):=by
  cases h with
  |agg _ u hl hr=>exact⟨u,rfl,hl,hr⟩
theorem ow{U:Nat->Prop}{p:PV}{x:Value}{cs:List PV}(h:VR M N U p x)(hc:p.cells=co cs):cs.length=x.cells.size∧ ∀j q,cs[j]? =co q->VR M N U q (x.cells.getD j undef):=by
  have one:p.one=is->cs=[p]->cs.length=x.cells.size∧ ∀j q,cs[j]? =co q->VR M N U q (x.cells.getD j undef):=by
    intro y u;subst u;have h1:=h.one y;have C:x.cells= #[x]:=by cases x<;>first|rfl|(simp[Value.oneCell']at h1)
    rw[C];refine⟨rfl,fun j q A=>?_⟩;cases j with
    |zero=>simp at A;subst A;exact h
    |succ j=>simp at A
  cases p with
  | agg l=>
    simp only[PV.cells,Vq]at hc;subst hc;obtain⟨D,rfl,hl,B⟩:=h.jU;exact⟨hl,B⟩
  | _=>
    simp only[PV.cells]at hc;split at hc
    · rename_i y
      simp only[Vq]at hc;exact one y hc.symm
    · cases hc
theorem gk: ∀{cs:List PV},dt cs=is-> ∀(j:Nat) (p:PV),cs[j]? =co p->p.one=is
  | [],_,j,p,h=>by simp at h
  | c::cs,h,j,p,hj=>by
    simp only[dt]at h;split at h
    · rename_i u
      cases j with
      |zero=>simp at hj;subst hj;exact u
      |succ j=>exact gk h j p (by simpa using hj)
    · cases h
theorem fo{U:Nat->Prop}(v:Value):(b4 v).length=v.cells.size∧ ∀j p,(b4 v)[j]? =co p->VR M N U p (v.cells.getD j undef):=by
  refine⟨by simp[b4],fun j p u=>?_⟩;simp only[b4]at u;rw[Vv,Vw]at u;obtain⟨x,A,rfl⟩:=u;have y:v.cells[j]? =co x:=by simpa using A
  rw[Vn,y];exact .iv _ _ (.v _)
theorem xK: ∀(l:List Value) (k off:Nat) (cs:Array Value),off+k+l.length<=cs.size->
    ((l.zipIdx k).foldl (fun cs x=>cs.setIfInBounds (off+x.2) x.1) cs).size=cs.size∧
    ∀j,((l.zipIdx k).foldl (fun cs x=>cs.setIfInBounds (off+x.2) x.1) cs)[j]? =if off+k<=j∧j<off+k+l.length then l[j-(off+k)]? else cs[j]?
  | [],k,off,cs,_=>⟨rfl,fun j=>by simp;omega⟩
  | v::l,k,off,cs,h=>by
    simp only[List.zipIdx_cons,Ws];simp only[VX]at h;obtain⟨h1,A⟩:=xK l (k+1) off (cs.setIfInBounds (off+k) v) (by simp;omega);refine⟨by rw[h1];simp,fun j=>?_⟩;rw[A j];simp only[VX];by_cases y:off+(k+1)<=j∧j<off+(k+1)+l.length
    · rw[am y,am (by omega),show j-(off+k)=(j-(off+(k+1)))+1 by omega,X8]
    · rw[be y]
      by_cases u:j=off+k
      · subst u
        have hb:off+k<cs.size:=by omega
        rw[am (by omega),Ya];simp[hb]
      · rw[be (by omega),V1,be (fun e=>u e.symm)]
def Vj(M:Mem)(N:Nm)(U:Nat->Prop)(cs:List PV)(ys:Array Value):Prop:=cs.length=ys.size∧ ∀j p,cs[j]? =co p->VR M N U p (ys.getD j undef)
theorem rv{x:Nat->Option (Nat×Nat)}: ∀{u:List (Nat×PV)} {cs j:List PV},pz x cs u=co j->j.length=cs.length
  | [],cs,j,h=>by simp only[pz,Vq]at h;rw[h]
  | (i,p)::r,cs,j,h=>by
    simp only[pz]at h;split at h
    · split at h
      · split at h
        · rw[force_eq]at h
          rw[rv h,cZ]
        · cases h
      · cases h
    · cases h
theorem ru{U:Nat->Prop}{A:Nat->Option (Nat×Nat)}: ∀{u:List (Nat×PV)} {zt:List (Nat×Value)} {cs B:List PV} {ys:Array Value},
    pz A cs u=co B->u.length=zt.length->(∀(j:Nat) (x:Nat×PV) (y:Nat×Value),u[j]? =co x->zt[j]? =co y->x.1=y.1∧VR M N U x.2 y.2)->Vj M N U cs ys->
    ∃C,Instr.fill A ys zt=co C∧Vj M N U B C
  | [],[],cs,B,ys,h,_,_,hv=>by
    simp only[pz,Vq]at h;subst h;exact⟨ys,rfl,hv⟩
  | (i,p)::r,(i',v)::vr,cs,B,ys,h,hl,hp,hv=>by
    obtain⟨h1,h2⟩:=hp 0 _ _ Z Z;simp only at h1 h2;subst h1;simp only[pz]at h;split at h
    · rename_i a0 size d0
      split at h
      · rename_i l c0
        split at h
        · rename_i Y b0
          rw[force_eq]at h;obtain⟨g1,g2⟩:=ow h2 c0;have e0:v.cells.size=size:=by rw[<-g1];exact VN Y
          have I:a0+v.cells.size<=ys.size:=by rw[<-g1,<-hv.1];exact Vm b0
          obtain⟨k1,k2⟩:=xK v.cells.toList 0 a0 ys (by simpa using I);have D:v.cells.zipIdx.foldl (fun cs x=>cs.setIfInBounds (a0+x.2) x.1) ys=(v.cells.toList.zipIdx 0).foldl (fun cs x=>cs.setIfInBounds (a0+x.2) x.1) ys:=by
            rw[<-Array.foldl_toList,Array.toList_zipIdx]
          have f0:Vj M N U (setCells cs a0 l) (v.cells.zipIdx.foldl (fun cs x=>cs.setIfInBounds (a0+x.2) x.1) ys):=by
            rw[D];refine⟨by rw[cZ,k1];exact hv.1,fun j q hq=>?_⟩;rw[Vn,k2 j];rcases iw cs a0 l j q hq with⟨J,G⟩|⟨J,G⟩
            · have g0:j-a0<l.length:=(Vs.1 G).1
              rw[am (by simp;omega)];have:=g2 _ q G;rw[Vn]at this;simpa using this
            · rw[be (by simp;omega)]
              have:=hv.2 j q G;rw[Vn]at this;exact this
          obtain⟨C,J,G⟩:=ru h (by simpa using hl) (fun j x y hx hy=>hp (j+1) x y (by simpa using hx) (by simpa using hy)) f0;refine⟨C,?_,G⟩;simp only[Instr.fill,d0];rw[be (by simp[e0];omega)];exact J
        · cases h
      · cases h
    · cases h
end
section
variable {P:Program} {M:Mem} {N:Nm} {U:Nat->Prop} {h:AH} {w:World}
theorem Rel.HX(hr:Rel M N U h w){b o:Nat}{v:Value}(hc:M.cell b o=co v):w.cell? ⟨b,o,io⟩=co v:=by
  unfold Mem.cell at hc;cases hb:M b with
  |none=>simp[hb]at hc
  | some c=>
    cases c with
    |map es cl=>simp[hb]at hc
    | cells c=>
      obtain⟨T,u,j⟩:=hr.dA b _ hb;rw[hb]at hc;simp only[World.cell?,j];simpa using hc
theorem IR.CP{cs:List IV}{x:Value}(hr:Rel M N U h w)(hp:IR M (.kK cs) x):
    ∃b a0,x= .pointer (co ⟨b,a0,io⟩)∧ ∀j q,cs[j]? =co q-> ∃y,w.cell? ⟨b,a0+j,io⟩=co y∧IR M q y:=by
  cases hp with
  | kK _ b a0 hm hq=>
    refine⟨b,a0,rfl,fun j q B=>?_⟩;have u:j<cs.length:=(Vs.1 B).1;have h1:=hm j u;cases hv:M.cell b (a0+j) with
    |none=>simp[hv]at h1
    | some y=>
      have A:=hq j q B;rw[hv]at A;exact⟨y,hr.HX hv,A⟩
theorem x6{p:PV}{x:Value}{cs:List PV}(hr:Rel M N U h w)(hp:VR M N U p x)(hb:behind h p=co cs):
    ∃b a0,x= .pointer (co ⟨b,a0,io⟩)∧ ∀j q,cs[j]? =co q-> ∃y,w.cell? ⟨b,a0+j,io⟩=co y∧VR M N U q y:=by
  cases p with
  | ptr i a0=>
    cases hp with
    | ptr _ _ hU=>
      simp only[behind]at hb;cases ho:h.get i with
      |none=>simp[ho]at hb
      | some o=>
        cases o with
        | cells cs0 T0=>
          simp only[ho,Vq]at hb;subst hb;obtain⟨c,T,h1,h2,Y,C,h5⟩:=hr.obj i _ ho;refine⟨N.az i,a0,rfl,fun j q u=>?_⟩;rw[Wl]at u;have A:a0+j<c.size:=by rw[<-Y];exact(Vs.1 u).1
          refine⟨c.getD (a0+j) undef,?_,C _ _ u⟩;simp[World.cell?,h1,Vn,A]
        |_=>simp[ho]at hb
  | cM i sz k a0=>
    cases hp with
    | cM _ _ _ _ hU=>
      simp only[behind]at hb;cases ho:h.get i with
      |none=>simp[ho]at hb
      | some o=>
        cases o with
        | row sz' es=>
          simp only[ho]at hb;split at hb
          · rename_i e D B
            simp only[Vq]at hb;have:=VN D;subst this;subst hb;rcases hr.obj i _ ho with J|⟨J,c,T,h1,h2,Y,C,h5⟩
            · subst J;simp at B
            refine⟨N.az i,k*sz'+a0,rfl,fun j q u=>?_⟩;rw[Wl]at u;have b0:a0+j<sz':=by rw[<-C k e B];exact(Vs.1 u).1
            have hk:k<es.length:=(Vs.1 B).1;have I:(k+1)*sz'<=es.length*sz':=VO _ hk;rw[W8]at I;have A:k*sz'+a0+j<c.size:=by omega
            refine⟨c.getD (k*sz'+a0+j) undef,?_,?_⟩
            · simp[World.cell?,h1,Vn,A]
            · rw[WB];exact h5 k e _ q B u
          · cases hb
        |_=>simp[ho]at hb
  | iv x=>
    cases x with
    | kK cs0=>
      cases hp with
      | iv _ _ hi=>
        simp only[behind,Vq]at hb;subst hb;obtain⟨b,a0,rfl,hc⟩:=hi.CP hr;refine⟨b,a0,rfl,fun j q u=>?_⟩;rw[Vv,Vw]at u;obtain⟨q0,G,rfl⟩:=u;obtain⟨y,hy,hq⟩:=hc j q0 G;exact⟨y,hy,.iv _ _ hq⟩
    |_=>simp[behind]at hb
  |_=>simp[behind]at hb
theorem nQ{cs l:List PV}{off n:Nat}(hh:lH cs off n=co l):l.length=n∧ ∀j q,l[j]? =co q->cs[off+j]? =co q∧j<n:=by
  unfold lH at hh;cases hb:VP ((cs.drop off).take n).length n with
  |false=>simp only[hb,cond_false]at hh;cases hh
  | true=>
    simp only[hb,cond_true,Vq]at hh;subst hh;have hl:=VN hb;refine⟨hl,fun j q x=>?_⟩;have u:j<n:=by rw[<-hl];exact(Vs.1 x).1
    rw[V8,am u,Wl]at x;exact⟨x,u⟩
theorem pt{cs:List PV}{p:PV}(hh:ki cs=co p):cs[0]? =co p:=by
  cases cs with
  |nil=>simp[ki]at hh
  |cons a r=>simpa[ki]using hh
theorem cY(b off j:Nat):(⟨b,off,io⟩:Addr).add j=⟨b,off+j,io⟩:=by
  unfold Addr.add;split
  · subst_vars;rfl
  · rfl
theorem sU{t:TypeId}{e:bC}(he:ai P t e){cs:List PV}{b off:Nat}(hc: ∀j q,cs[j]? =co q-> ∃y,w.cell? ⟨b,off+j,io⟩=co y∧VR M N U q y)
    {p:PV} (hp:gU e cs=co p): ∃y,(loadVar t ⟨b,off,io⟩).run P w= .ok y w∧VR M N U p y:=by
  unfold gU at hp;cases hk:e.k.agg with
  | true=>
    simp only[hk]at hp;cases ht:lH cs 0 e.size with
    |none=>simp[ht]at hp
    | some l=>
      simp only[ht,force_eq,Vq]at hp;subst hp;obtain⟨hl,C⟩:=nQ ht;have u: ∀j,j<e.size->w.cell? ((⟨b,off,io⟩:Addr).add j)=co (((w.cell? ⟨b,off+j,io⟩)).getD undef):=by
        intro j I;have A:l[j]? =co (l[j]'(by omega)):=Vt (by omega);obtain⟨y,x,_⟩:=hc j _ (by simpa using(C j _ A).1);rw[cY,x];rfl
      refine⟨.agg (((V0 e.size).map fun j=>(w.cell? ⟨b,off+j,io⟩).getD undef).toArray),?_,?_⟩
      · have:=run_loadCells (P:=P) w ⟨b,off,io⟩ e.size (fun j=>(w.cell? ⟨b,off+j,io⟩).getD undef) u
        simp[loadVar,fF he,hk,aQ he,this]
      · refine .agg _ _ (by simp[hl]) (fun j q J=>?_)
        obtain⟨h1,D⟩:=C j q J;obtain⟨y,x,B⟩:=hc j q (by simpa using h1);have G:(((V0 e.size).map fun j=>(w.cell? ⟨b,off+j,io⟩).getD undef).toArray).getD j undef=y:=by
          simp[Vn,D,x]
        rw[G];exact B
  | false=>
    simp only[hk]at hp;obtain⟨y,x,B⟩:=hc 0 p (pt hp);refine⟨y,?_,B⟩;simp only[loadVar,Sem.run_bind,fF he,Result.andThen_ok,hk,Xe,if_false];simp only[WZ]at x;simp[x]
theorem jg{t:TypeId}{e:bC}(he:ai P t e){cs:List PV}{ys:Array Value}{off:Nat}(hl:cs.length=ys.size)(hc: ∀j q,cs[j]? =co q->VR M N U q (ys.getD j undef))
    {p:PV} (hp:gU e (cs.drop off)=co p): ∃y,(part t ys off).run P w= .ok y w∧VR M N U p y:=by
  unfold gU at hp;cases hk:e.k.agg with
  | true=>
    simp only[hk]at hp;cases ht:lH (cs.drop off) 0 e.size with
    |none=>simp[ht]at hp
    | some l=>
      simp only[ht,force_eq,Vq]at hp;subst hp;obtain⟨B,D⟩:=nQ ht;refine⟨.agg (ys.extract off (off+e.size)),by simp[part,fF he,hk,aQ he],.agg _ _ ?_ (fun j q G=>?_)⟩
      · rw[B,Array.size_extract]
        by_cases x:e.size=0
        · omega
        · have u:l[e.size-1]? =co (l[e.size-1]'(by omega)):=Vt (by omega)
          have:=(D _ _ u).1;rw[Wl]at this;have:=(Vs.1 this).1;omega
      · obtain⟨h1,J⟩:=D j q G
        rw[Wl]at h1;have A:=hc _ _ h1;have C:off+(0+j)<cs.length:=(Vs.1 h1).1;have:(ys.extract off (off+e.size)).getD j undef=ys.getD (off+(0+j)) undef:=by
          simp only[Vn,Array.getElem?_extract,VL];rw[am (by omega)]
        rw[this];exact A
  | false=>
    simp only[hk]at hp;have x:=pt hp;rw[Wl]at x;have A:=hc _ _ x;have C:off+0<cs.length:=(Vs.1 x).1;refine⟨ys.getD (off+0) undef,?_,A⟩;have I:ys[off]? =co (ys.getD off undef):=by
      simp[Vn,show off<ys.size by omega]
    simp only[part,Sem.run_bind,fF he,Result.andThen_ok,hk,Xe,if_false,I];rfl
theorem uy(a b:ByteArray):(a.toList==b.toList)=kw (a=b):=by
  rw[Lib.toList_data,Lib.toList_data,WR];simp only[beq_iff_eq,decide_eq_true_eq];exact⟨fun h=>WideShapes.bytes_inj h,fun h=>by rw[h]⟩
theorem Ic{t:TypeId}{op:BinOp}{k:IntKind}{a b:Int}{p:PV}{C:Prop}(h:Ed op k a b=co (p,C))(hC:C): ∃x,(binOp op t (.int k a) (.int k b)).run P w= .ok x w∧VR M N U p x:=by
  have u: ∀n:Int,rr n->IntKind.i64.wrap n=n:=fun n y=>IntWalk.i64_in n y;unfold Ed at h;split at h
  all_goals first
    |cases h;done
    | (simp only[Vq,VC]at h
       obtain⟨rfl,rfl⟩:=h;refine⟨_,?_,.iv _ _ (.v _)⟩
       first
       |(simp[binOp,Op.intCmp];done)
       |rfl
       |(simp[binOp,Op.intCmp];rfl)
       |(have j:=u _ hC;simp[binOp,Op.intArith,j];done)
       |(simp[binOp,Op.intDiv,hC];done)
       |(have j:=u _ hC.2;simp[binOp,Op.intDiv,hC.1,j];done))
theorem uD{t:TypeId}{op:BinOp}{k j:IntKind}{a b:Int}{p:PV}{C:Prop}(h:sQ op k a b=co (p,C)): ∃x,(binOp op t (.int k a) (.int j b)).run P w= .ok x w∧VR M N U p x:=by
  unfold sQ at h;split at h
  case h_3=>cases h
  all_goals
    split at h
    · rename_i hb
      simp only[Vq,VC]at h;obtain⟨rfl,rfl⟩:=h;have u: ¬b<0:=by have:=of_decide_eq_true hb;omega
      refine⟨_,?_,.iv _ _ (.v _)⟩;simp only[binOp,Op.shift,be u];rfl
    · cases h
theorem GN{t:TypeId}{op:BinOp}{a b:ByteArray}{p:PV}{C:Prop}(h:Dw op a b=co (p,C))(hC:C): ∃x,(binOp op t (.string a) (.string b)).run P w= .ok x w∧VR M N U p x:=by
  unfold Dw at h;split at h
  all_goals first
    |cases h;done
    | (simp only[Vq,VC]at h
       obtain⟨rfl,rfl⟩:=h;refine⟨_,?_,.iv _ _ (.v _)⟩
       first
       |(simp[binOp,Op.stringOp,<-uy];done)
       | (have j: ¬(((a.size+b.size:Nat):Int)>IntKind.i64.max):=by(have:IntKind.i64.max=9223372036854775807:=by decide);rw[this];omega
          simp only[binOp,Op.stringOp,be j];rfl))
theorem de{op:BinOp}{t:TypeId}{x y:Operand}{a b:Value}(h1:a≠ .nilIface)(u: ∀j,a≠ .agg j):(eqGuard op t x y a b).run P w= .ok () w:=by
  unfold eqGuard;cases op<;>cases a<;>first|rfl|exact absurd Z h1|exact absurd Z (u _)
theorem y4{t:TypeId}(hu:P.underlying t=co .bool)(d:Nat)(a b:Bool):(Op.equalIn (d+1) t (.bool a) (.bool b)).run P w= .ok (a==b) w:=by
  simp[Op.equalIn,run_underlying hu]
theorem vz{t:TypeId}(hu:P.underlying t=co .bool)(a b:Bool):(Op.equal t (.bool a) (.bool b)).run P w= .ok (a==b) w:=
  y4 hu 9999 a b
theorem vN{t:TypeId}(hu:P.underlying t=co .bool)(a b:Bool):(binOp .eql t (.bool a) (.bool b)).run P w= .ok (.bool (a==b)) w:=by
  show(Op.equal t (.bool a) (.bool b)>>=fun r=>(pure (.bool r):Sem Value)).run P w=_;rw[Sem.run_bind,vz hu];rfl
theorem vM{t:TypeId}(hu:P.underlying t=co .bool)(a b:Bool):(binOp .neq t (.bool a) (.bool b)).run P w= .ok (.bool (!(a==b))) w:=by
  show(Op.equal t (.bool a) (.bool b)>>=fun r=>(pure (.bool (!r)):Sem Value)).run P w=_;rw[Sem.run_bind,vz hu];rfl
theorem oV{ty:Ty}(j:bn P ty){t:TypeId}{op:BinOp}{a b:Bool}{r:PV}{C:Prop}{u v:Operand}(h:oy ty t op a b=co (r,C)):
    ∃z,(do eqGuard op t u v (.bool a) (.bool b);binOp op t (.bool a) (.bool b):Sem Value).run P w= .ok z w∧VR M N U r z:=by
  unfold oy at h;split at h
  · rename_i ht
    have hu:P.underlying t=co .bool:=(j t _ ht).2.1.1;split at h
    all_goals first
      |cases h;done
      | (simp only[Vq,VC]at h
         obtain⟨rfl,rfl⟩:=h;refine⟨_,?_,.iv _ _ (.v _)⟩;rw[Sem.run_bind,de (by simp) (by simp)]
         first|exact vN hu _ _|exact vM hu _ _)
  · cases h
theorem qV{ty:Ty}(j:bn P ty){t:TypeId}{wd:TypeDesc->Bool}{op:BinOp}{b:Bool}{r:PV}{C:Prop}{u v:Operand}{x y:Value}(h:u2 ty t wd op b=co (r,C))(h1:x≠ .nilIface)(B: ∀G,x≠ .agg G)
    (he:binOp .eql t x y=(Op.equal t x y>>=fun r=>(pure (.bool r):Sem Value))) (hn:binOp .neq t x y=(Op.equal t x y>>=fun r=>(pure (.bool (!r)):Sem Value)))
    (D: ∀d,wd d=is->P.underlying t=co d->(Op.equal t x y).run P w= .ok b w):
    ∃z,(do eqGuard op t u v x y;binOp op t x y:Sem Value).run P w= .ok z w∧VR M N U r z:=by
  unfold u2 at h;split at h
  · rename_i d _ _ _ _ ht
    have hu:P.underlying t=co d:=(j t _ ht).2.1.1;split at h
    · rename_i A
      simp only[Vq,VC]at h;obtain⟨rfl,rfl⟩:=h;refine⟨.bool b,?_,.iv _ _ (.v _)⟩;rw[Sem.run_bind,de h1 B,Result.andThen_ok,he,Sem.run_bind,D d A hu];rfl
    · rename_i A
      simp only[Vq,VC]at h;obtain⟨rfl,rfl⟩:=h;refine⟨.bool (!b),?_,.iv _ _ (.v _)⟩;rw[Sem.run_bind,de h1 B,Result.andThen_ok,hn,Sem.run_bind,D d A hu];rfl
    · cases h
  · cases h
theorem tF{t e:TypeId}(hu:P.underlying t=co (.pointer e))(d:Nat)(a:Addr):(Op.equalIn (d+1) t (.pointer (co a)) (.pointer io)).run P w= .ok jp w:=by
  simp[Op.equalIn,run_underlying hu]
theorem wz{t e:TypeId}(hu:P.underlying t=co (.pointer e))(a:Addr):(Op.equal t (.pointer (co a)) (.pointer io)).run P w= .ok jp w:=tF hu 9999 a
theorem tG{t e:TypeId}(hu:P.underlying t=co (.pointer e))(d:Nat):(Op.equalIn (d+1) t (.pointer io) (.pointer io)).run P w= .ok is w:=by
  simp[Op.equalIn,run_underlying hu]
theorem wA{t e:TypeId}(hu:P.underlying t=co (.pointer e)):(Op.equal t (.pointer io) (.pointer io)).run P w= .ok is w:=tG hu 9999
theorem tI{t k e:TypeId}(hu:P.underlying t=co (.map k e))(d:Nat)(a:Nat):(Op.equalIn (d+1) t (.map (co a)) (.map io)).run P w= .ok jp w:=by
  simp[Op.equalIn,run_underlying hu]
theorem wB{t k e:TypeId}(hu:P.underlying t=co (.map k e))(a:Nat):(Op.equal t (.map (co a)) (.map io)).run P w= .ok jp w:=tI hu 9999 a
theorem sA{t:TypeId}{p q:Array TypeId}{b:Bool}(hu:P.underlying t=co (.func p q b))(d:Nat)(f:Fn)(x y:Array Value):(Op.equalIn (d+1) t (.func f x y) .nilFunc).run P w= .ok jp w:=by
  simp[Op.equalIn,run_underlying hu]
theorem vw{t:TypeId}{p q:Array TypeId}{b:Bool}(hu:P.underlying t=co (.func p q b))(f:Fn)(x y:Array Value):(Op.equal t (.func f x y) .nilFunc).run P w= .ok jp w:=sA hu 9999 f x y
theorem F9{ty:Ty}(B:bn P ty){t:TypeId}{op:BinOp}{p q:PV}{r:PV}{C:Prop}{u v:Operand}{x y:Value}(h:za ty t op p q=co (r,C))(hC:C)(A:VR M N U p x)(j:VR M N U q y):
    ∃z,(do eqGuard op t u v x y;binOp op t x y:Sem Value).run P w= .ok z w∧VR M N U r z:=by
  unfold za at h;split at h
  · cases A with
    | iv _ _ A=>cases A with
      | v=>
        cases j with
        | iv _ _ j=>cases j with
          | v=>
            split at h
            · rename_i I
              subst I;unfold CQ at h;split at h
              · obtain⟨z,G,D⟩:=uD (P:=P) (M:=M) (N:=N) (U:=U) (w:=w) (t:=t) h
                exact⟨z,by rw[Sem.run_bind,de (by simp) (by simp)];exact G,D⟩
              · obtain⟨z,G,D⟩:=uD (P:=P) (M:=M) (N:=N) (U:=U) (w:=w) (t:=t) h
                exact⟨z,by rw[Sem.run_bind,de (by simp) (by simp)];exact G,D⟩
              obtain⟨z,G,D⟩:=Ic (P:=P) (M:=M) (N:=N) (U:=U) (w:=w) (t:=t) h hC;exact⟨z,by rw[Sem.run_bind,de (by simp) (by simp)];exact G,D⟩
            · obtain⟨z,G,D⟩:=uD (P:=P) (M:=M) (N:=N) (U:=U) (w:=w) (t:=t) h
              exact⟨z,by rw[Sem.run_bind,de (by simp) (by simp)];exact G,D⟩
  · cases A with
    | iv _ _ A=>cases A with
      | v=>
        cases j with
        | iv _ _ j=>cases j with
          | v=>
            obtain⟨z,G,D⟩:=GN (P:=P) (M:=M) (N:=N) (U:=U) (w:=w) (t:=t) h hC;exact⟨z,by rw[Sem.run_bind,de (by simp) (by simp)];exact G,D⟩
  · split at h
    · cases A with
      | iv _ _ A=>cases A with
        | v=>
          cases j with
          | iv _ _ j=>cases j with
            |v=>exact oV B h
    · cases A with
      | iv _ _ A=>cases A with
        | v=>
          cases j with
          |kb=>exact oV B h
    · cases h
  · split at h
    · cases A with
      | kb=>
        cases j with
        | iv _ _ j=>cases j with
          |v=>exact oV B h
    · cases A with
      | kb=>
        cases j with
        |kb=>exact oV B h
    · cases h
  · cases A with
    | ptr i off hU=>
      cases j with
      | iv _ _ j=>cases j with
        | v=>
          refine qV B h (by simp) (by simp) Z Z fun d hd hu=>?_;cases d<;>first|(cases hd;done)|exact wz hu _
  · cases A with
    | iv _ _ A=>cases A with
      | v=>cases j with
        | iv _ _ j=>cases j with
          | v=>
            refine qV B h (by simp) (by simp) Z Z fun d hd hu=>?_;cases d<;>first|(cases hd;done)|exact wA hu
  · cases A with
    | mp i hU=>
      cases j with
      | iv _ _ j=>cases j with
        | v=>
          refine qV B h (by simp) (by simp) Z Z fun d hd hu=>?_;cases d<;>first|(cases hd;done)|exact wB hu _
  · cases A with
    | cm=>
      cases j with
      | iv _ _ j=>cases j with
        | v=>
          refine qV B h (by simp) (by simp) Z Z fun d hd hu=>?_;cases d<;>first|(cases hd;done)|exact vw hu _ _ _
  · cases h
theorem HY{f:AF}{a:Act}(hf:FR M N U f a.tmps)(xs:Array Operand):(xs.toList.map (ev f)).length=(xs.map a.eval).size∧ ∀j p,(xs.toList.map (ev f))[j]? =co p->VR M N U p ((xs.map a.eval).getD j undef):=by
  refine⟨by simp,fun j p y=>?_⟩;rw[Vv,Vw]at y;obtain⟨x,A,rfl⟩:=y;have u:xs[j]? =co x:=by simpa using A
  rw[Vn,X6,u];exact aN hf x
theorem ry{t:TypeId}{e:bC}(he:ai P t e){k off:Nat}{u:TypeId}(hf:ub e k=co (off,u)): ∃(F:Array Field) (fd:Field),P.underlying t=co (.struct F)∧F[k]? =co fd∧fd.offset=off∧fd.type=u:=by
  unfold ub at hf;cases hk:e.k with
  | cp fs=>
    simp only[hk]at hf;obtain⟨_,x,_⟩:=he;rw[hk]at x;obtain⟨F,y,A⟩:=x;rw[<-A,Vv,Vw]at hf;obtain⟨fd,B,j⟩:=hf;simp only[VC]at j;exact⟨F,fd,y,by simpa using B,j.1,j.2⟩
  |_=>simp[hk]at hf
theorem Fl{n:Nat}{p q:PV}{x:Value}(B:VR M N U p x)(h:p7 n p=co q): ∃b o,x= .pointer (co ⟨b,o,io⟩)∧VR M N U q (.pointer (co ⟨b,o+n,io⟩)):=by
  cases B with
  |ptr i off hU=>simp only[p7,Vq]at h;subst h;exact⟨_,_,rfl,.ptr _ _ hU⟩
  |cM i sz k off hU=>simp only[p7,Vq]at h;subst h;exact⟨_,_,rfl,by rw[WB];exact .cM _ _ _ _ hU⟩
  | iv y _ hi=>
    cases hi with
    | kK cs b off hm hr=>
      simp only[p7,Vq]at h;subst h;refine⟨b,off,rfl,.iv _ _ (.kK _ _ _ (fun j A=>?_) (fun j p u=>?_))⟩
      · rw[Wu]at A
        rw[WB];exact hm (n+j) (by omega)
      · rw[Wl]at u
        rw[WB];exact hr (n+j) p u
    |_=>simp[p7]at h
  |_=>simp[p7]at h
theorem pr{t u:TypeId}{eu:bC}(hu:P.underlying t=co (.slice u))(A:ai P u eu){p q:PV}{k:IntKind}{n:Int}{C:Prop}{x:Value}(I:VR M N U p x)
    (D:(∃m B,p= .iv (.bK eu.size m B))∨ ∃i a0 len,p= .sl i a0 len eu.size) (h:kh p n=co (q,C)) (hC:C): ∃y,(Instr.indexAt t x (.int k n)).run P w= .ok y w∧VR M N U q y:=by
  rcases D with⟨m,B,rfl⟩|⟨i,a0,len,rfl⟩
  · simp only[kh,Vq,VC]at h
    obtain⟨rfl,rfl⟩:=h;cases I with
    | iv _ _ hi=>
      cases hi with
      |fz sz B a cap=>omega
      | bK sz m B b a0 cap hn hc hl hm hr=>
        refine⟨.pointer (co ⟨b,a0+n.toNat*eu.size,io⟩),?_,.iv _ _ (.kK _ _ _ (fun j G=>?_) (fun j p J=>hr n.toNat j p (by omega) J))⟩
        · simp only[Instr.indexAt,asIntOf]
          simp[run_underlying hu,hC.1,hC.2,aQ A,cY]
        · rw[hl n.toNat (by omega)]at G
          exact hm n.toNat j (by omega) G
  · simp only[kh,Vq,VC]at h
    obtain⟨rfl,rfl⟩:=h;cases I with
    |kP=>omega
    |sle=>omega
    | sl _ _ _ _ cap hU h0 hl hc he=>
      refine⟨.pointer (co ⟨N.az i,(a0+n.toNat)*eu.size+0,io⟩),?_,.cM _ _ _ _ hU⟩;simp only[Instr.indexAt,asIntOf];simp[run_underlying hu,hC.1,hC.2,aQ A,cY,Wg]
theorem E0{t u:TypeId}{eu:bC}(hu:P.underlying t=co (.slice u))(A:ai P u eu){m:Nat}{el:Nat->List IV}{ka kb:IntKind}{na nb:Int}{q:PV}{C:Prop}{x:Value}(Y:VR M N U (.iv (.bK eu.size m el)) x)
    (h:co (PV.iv (.bK eu.size (nb.toNat-na.toNat) (fun k=>el (na.toNat+k))),0<=na∧na<=nb∧nb<=m)=co (q,C)) (hC:C): ∃y,(Instr.sliceAt t x (co (.int ka na)) (co (.int kb nb)) io).run P w= .ok y w∧VR M N U q y:=by
  simp only[Vq,VC]at h;obtain⟨rfl,rfl⟩:=h;obtain⟨G,h1,h2⟩:=hC;have hb:(nb.toNat:Int)=nb:=XG (by omega);cases Y with
  | iv _ _ hi=>
    cases hi with
    | fz sz el a cap=>
      have B:na=0:=by omega
      have D:nb=0:=by omega
      subst B;subst D;refine⟨.slice (if cap=0 then a else a.map (·.add (0*eu.size))) 0 cap,?_,.iv _ _ (.fz _ _ _ _)⟩;simp[Instr.sliceAt,Instr.slice,Instr.sliceBounds,Instr.sliceBound,asIntOf,run_underlying hu,aQ A]
    | bK sz m el b off cap hn hc hl hm hr=>
      refine⟨.slice (if cap=na.toNat then co ⟨b,off,io⟩ else(co (⟨b,off,io⟩:Addr)).map (·.add (na.toNat*eu.size))) (nb.toNat-na.toNat) (cap-na.toNat),?_,?_⟩
      · have g1:nb<=(cap:Int):=by omega
        have g2:na<=(nb.toNat:Int):=by omega
        simp[Instr.sliceAt,Instr.slice,Instr.sliceBounds,Instr.sliceBound,asIntOf,run_underlying hu,aQ A,G,g1,(by omega:0<=nb)];intro hh;omega
      · by_cases hz:nb.toNat-na.toNat=0
        · rw[hz];exact .iv _ _ (.fz _ _ _ _)
        · rw[be (by omega),Ww,cY]
          refine .iv _ _ (IR.bK (sz:=eu.size) (n:=nb.toNat-na.toNat) (el:=fun k=>el (na.toNat+k)) (b:=b) (off:=off+na.toNat*eu.size) (cap:=cap-na.toNat) (by omega) (by omega) (fun k hk=>hl _ (by omega)) (fun k j hk I=>?_) (fun k j p hk J=>?_))
          · have:=hm (na.toNat+k) j (by omega) I
            rwa[Wg,<-WB]at this
          · have:=hr (na.toNat+k) j p (by omega) J
            rwa[Wg,<-WB]at this
theorem EZ{t u:TypeId}{eu:bC}(hu:P.underlying t=co (.slice u))(A:ai P u eu){m:Nat}{el:Nat->List IV}{ka:IntKind}{na:Int}{q:PV}{C:Prop}{x:Value}(J:VR M N U (.iv (.bK eu.size m el)) x)
    (h:co (PV.iv (.bK eu.size (m-na.toNat) (fun k=>el (na.toNat+k))),0<=na∧na<=m)=co (q,C)) (hC:C): ∃y,(Instr.sliceAt t x (co (.int ka na)) io io).run P w= .ok y w∧VR M N U q y:=by
  simp only[Vq,VC]at h;obtain⟨rfl,rfl⟩:=h;obtain⟨D,h1⟩:=hC;cases J with
  | iv _ _ hi=>
    cases hi with
    | fz sz el a cap=>
      have B:na=0:=by omega
      subst B;refine⟨.slice (if cap=0 then a else a.map (·.add (0*eu.size))) 0 cap,?_,.iv _ _ (.fz _ _ _ _)⟩;simp[Instr.sliceAt,Instr.slice,Instr.sliceBounds,Instr.sliceBound,asIntOf,run_underlying hu,aQ A]
    | bK sz m el b off cap hn hc hl hm hr=>
      refine⟨.slice (if cap=na.toNat then co ⟨b,off,io⟩ else(co (⟨b,off,io⟩:Addr)).map (·.add (na.toNat*eu.size))) (m-na.toNat) (cap-na.toNat),?_,?_⟩
      · simp[Instr.sliceAt,Instr.slice,Instr.sliceBounds,Instr.sliceBound,asIntOf,run_underlying hu,aQ A,D,h1]
      · by_cases Y:m-na.toNat=0
        · rw[Y];exact .iv _ _ (.fz _ _ _ _)
        · rw[be (by omega),Ww,cY]
          refine .iv _ _ (IR.bK (sz:=eu.size) (n:=m-na.toNat) (el:=fun k=>el (na.toNat+k)) (b:=b) (off:=off+na.toNat*eu.size) (cap:=cap-na.toNat) (by omega) (by omega) (fun k hk=>hl _ (by omega)) (fun k j hk G=>?_) (fun k j p hk I=>?_))
          · have:=hm (na.toNat+k) j (by omega) G
            rwa[Wg,<-WB]at this
          · have:=hr (na.toNat+k) j p (by omega) I
            rwa[Wg,<-WB]at this
theorem B8{t u:TypeId}{eu:bC}(hu:P.underlying t=co (.slice u))(A:ai P u eu){m:Nat}{el:Nat->List IV}{kb kc:IntKind}{nb nc:Int}{q:PV}{C:Prop}{x:Value}(hx:VR M N U (.iv (.bK eu.size m el)) x)
    (h:co (PV.iv (.bK eu.size nb.toNat el),0<=nb∧nb<=nc∧nc<=m)=co (q,C)) (hC:C): ∃y,(Instr.sliceAt t x io (co (.int kb nb)) (co (.int kc nc))).run P w= .ok y w∧VR M N U q y:=by
  simp only[Vq,VC]at h;obtain⟨rfl,rfl⟩:=h;obtain⟨G,h1,h2⟩:=hC;have hb:(nb.toNat:Int)=nb:=XG (by omega);have I:(nc.toNat:Int)=nc:=XG (by omega);cases hx with
  | iv _ _ hi=>
    cases hi with
    | fz sz el a cap=>
      have B:nb=0:=by omega
      have D:nc=0:=by omega
      subst B;subst D;refine⟨.slice a 0 0,?_,.iv _ _ (.fz _ _ _ _)⟩;simp[Instr.sliceAt,Instr.slice,Instr.sliceBounds,Instr.sliceBound,asIntOf,run_underlying hu,aQ A]
    | bK sz m el b off cap hn hc hl hm hr=>
      refine⟨.slice (if nc.toNat=0 then co ⟨b,off,io⟩ else(co (⟨b,off,io⟩:Addr)).map (·.add (0*eu.size))) nb.toNat nc.toNat,?_,?_⟩
      · have g1:nc<=(cap:Int):=by omega
        have g2:nb<=(nc.toNat:Int):=by omega
        simp[Instr.sliceAt,Instr.slice,Instr.sliceBounds,Instr.sliceBound,asIntOf,run_underlying hu,aQ A,G,g1,(by omega:0<=nc)];intro hh;omega
      · by_cases hz:nb.toNat=0
        · rw[hz];exact .iv _ _ (.fz _ _ _ _)
        · rw[be (by omega),Ww,cY,W0,WZ]
          exact .iv _ _ (IR.bK (sz:=eu.size) (n:=nb.toNat) (el:=el) (b:=b) (off:=off) (cap:=nc.toNat) (by omega) (by omega) (fun k hk=>hl _ (by omega)) (fun k j hk J=>hm k j (by omega) J) (fun k j p hk Y=>hr k j p (by omega) Y))
theorem zV{t:TypeId}(hu:P.underlying t=co .string){b:ByteArray}{ka kb:IntKind}{na nb:Int}(hC:0<=na∧na<=nb∧nb<=b.size):
    (Instr.sliceAt t (.string b) (co (.int ka na)) (co (.int kb nb)) io).run P w= .ok (.string (b.extract na.toNat nb.toNat)) w:=by
  obtain⟨j,h1,u⟩:=hC;have hb:(nb.toNat:Int)=nb:=XG (by omega);have g2:na<=(nb.toNat:Int):=by omega
  simp[Instr.sliceAt,Instr.slice,Instr.sliceBounds,Instr.sliceBound,asIntOf,run_underlying hu,j,u,(by omega:0<=nb)];intro hh;omega
end
end
end Go.Al
namespace Go.Al
open Go.MapKept
section
section
variable {P:Program} {ty:Ty} {M:Mem} {N:Nm} {U:Nat->Prop} {w:World}
theorem ig{t:TypeId}{F:Array Field}(h:P.underlying t=co (.struct F)):P.fieldsOf t=F:=by
  simp[Program.fieldsOf,h]
theorem bL {t:TypeId} {F:Array Field} (h:P.underlying t=co (.struct F)) (h1:P.stoodInHeld t=jp) (j:P.eqGuardType P.depth t=jp) (u:(F.toList.all fun f=>f.name != "_")=is):T2 P t:=
  ⟨h1,j,fun f hf=>by
    rw[ig h]at hf;have:=Wc.1 u f hf
    simpa using this⟩
theorem Ev(j:bn P ty){f:TypeId->PV->PV->Option Bool}{D:Nat}(hf: ∀u p q b,f u p q=co b-> ∀x y,VR M N U p x->VR M N U q y->(Op.equalIn D u x y).run P w= .ok b w)
    {cs ds:List PV} {xs ys:Array Value} (hx:VR M N U (.agg cs) (.agg xs)) (hy:VR M N U (.agg ds) (.agg ys)):
    ∀(F:List Field) (b:Bool),(∀g∈F,g.name≠ "_")->F2 f ty (F.map fun g=>(g.offset,g.type)) cs ds=co b->(Op.eqFields D xs ys F).run P w= .ok b w
  | [],b,_,h=>by simp only[VQ,F2,Vq]at h;subst h;simp[Op.eqFields]
  | g::F,b,hn,h=>by
    simp only[Vy,F2]at h;split at h
    · rename_i eu A
      split at h
      · rename_i p q hp hq
        split at h
        · rename_i b1 b2 h1 h2
          simp only[Vq]at h;subst h;obtain⟨_,B,C,G⟩:=hx.jU;cases B;obtain⟨_,Y,a0,b0⟩:=hy.jU;cases Y;obtain⟨x,I,J⟩:=jg (P:=P) (w:=w) (j _ _ A) C G hp;obtain⟨y,c0,d0⟩:=jg (P:=P) (w:=w) (j _ _ A) a0 b0 hq;have h3:=hf _ _ _ _ h1 x y J d0;have h4:=Ev j hf hx hy F b2 (fun g hg=>hn g (VE _ hg)) h2;simp only[Op.eqFields,am (hn g VG),Sem.run_bind,I,c0,h3,Result.andThen_ok];cases b1 with
          |false=>simp
          |true=>simpa using h4
        · cases h
      · cases h
    · cases h
theorem C7(j:bn P ty): ∀(d:Nat) (t:TypeId) (p q:PV) (b:Bool),F3 ty d t p q=co b-> ∀x y,VR M N U p x->VR M N U q y-> ∀m,(Op.equalIn (d+m) t x y).run P w= .ok b w
  |0,_,_,_,_,h,_,_,_,_,_=>by simp[F3]at h
  | d+1,t,p,q,b,h,x,y,A,B,m=>by
    rw[show d+1+m=(d+m)+1 by omega];simp only[F3]at h;split at h
    · rename_i k _ _ _ _ C
      have hu:=(j t _ C).2.1.1;split at h
      · split at h
        · simp only[Vq]at h
          subst h;cases A with
          | iv _ _ A => cases A
                        cases B with
                        | iv _ _ B => cases B
                                      rename_i e;subst e;rw[run_equalIn_int _ _ _ _ _ _ _ hu];congr 1
        · cases h
      · cases h
    · rename_i _ _ _ _ C
      have hu:=(j t _ C).2.1.1;split at h
      · simp only[Vq]at h
        subst h;cases A with
        | iv _ _ A => cases A
                      cases B with
                      | iv _ _ B => cases B
                                    rw[run_equalIn_string _ _ _ _ _ hu,uy]
      · cases h
    · rename_i _ _ _ _ C
      have hu:=(j t _ C).2.1.1;split at h
      · simp only[Vq]at h
        subst h;cases A with
        | iv _ _ A => cases A
                      cases B with
                      |iv _ _ B=>cases B;rw[run_equalIn_bool' _ _ _ _ _ hu]
      · cases h
    · rename_i fs _ _ _ C
      obtain⟨_,⟨F,hu,hF⟩,J⟩:=j t _ C;obtain⟨I,Y,G⟩:=J Z;split at h
      · obtain⟨xs,rfl,_,_⟩:=A.jU
        obtain⟨ys,rfl,_,_⟩:=B.jU;have D:=ig hu;rw[run_equalIn_struct _ _ _ _ _ (by rw[D];exact hu) I,D];rw[D]at G;refine Ev j (f:=F3 ty d) (fun u p q b hb x y A B=>C7 j d u p q b hb x y A B m) A B _ _ G ?_;rw[hF];exact h
      · cases h
    · cases h
theorem Jx(B:bn P ty){t:TypeId}{op:BinOp}{cs D:List PV}{r:PV}{C:Prop}{u v:Operand}{x y:Value}(h:EL ty t op (.agg cs) (.agg D)=co (r,C))(I:VR M N U (.agg cs) x)(J:VR M N U (.agg D) y):
    C∧ ∃z,(do eqGuard op t u v x y;binOp op t x y:Sem Value).run P w= .ok z w∧VR M N U r z:=by
  have key: ∀b,F3 ty 10 t (.agg cs) (.agg D)=co b-> ∃j A,x= .agg j∧y= .agg A∧P.eqGuardType P.depth t=jp∧(Op.equalIn 10000 t (.agg j) (.agg A)).run P w= .ok b w:=by
    intro b hb;have h1:=C7 (P:=P) (w:=w) B 10 t _ _ b hb x y I J 9990;obtain⟨j,rfl,_,_⟩:=I.jU;obtain⟨A,rfl,_,_⟩:=J.jU;refine⟨j,A,rfl,rfl,?_,h1⟩;simp only[F3]at hb;split at hb
    · cases hb
    · cases hb
    · cases hb
    · rename_i Y
      exact((B t _ Y).2.2 Z).2.1
    · cases hb
  unfold EL at h;split at h
  · split at h
    · rename_i b hb
      simp only[Vq,VC]at h;obtain⟨rfl,rfl⟩:=h;obtain⟨j,A,rfl,rfl,h1,G⟩:=key b hb;refine⟨ac,.bool b,?_,.iv _ _ (.v _)⟩;rw[Sem.run_bind,run_eqGuard_agg _ _ _ _ _ _ _ h1,Result.andThen_ok,run_eql_struct,G];rfl
    · cases h
  · split at h
    · rename_i b hb
      simp only[Vq,VC]at h;obtain⟨rfl,rfl⟩:=h;obtain⟨j,A,rfl,rfl,h1,G⟩:=key b hb;refine⟨ac,.bool (!b),?_,.iv _ _ (.v _)⟩;rw[Sem.run_bind,run_eqGuard_agg _ _ _ _ _ _ _ h1,Result.andThen_ok,run_neq_struct,G];rfl
    · cases h
  · cases h
theorem xj(kc:KC)(k:kc.K):VR M N U (kc.pk k) (kc.ek k):=by
  cases kc with
  |str=>exact .iv _ _ (.v _)
  |int k=>exact .iv _ _ (.v _)
  | si j=>
    refine .agg _ _ (by rfl) fun i p u=>?_
    match i with
    |0=>simp at u;subst u;exact .iv _ _ (.v _)
    |1=>simp at u;subst u;exact .iv _ _ (.v _)
    |i+2=>simp at u
  | fl s=>
    refine .agg _ _ (by simp) fun i p u=>?_;rw[Vv,Vw]at u;obtain⟨v,x,rfl⟩:=u;have:((FK.vs s k).toArray).getD i undef=v:=by simp[Vn,x]
    rw[this];exact .iv _ _ (.v _)
theorem Hv: ∀{s:FS} {cs:List PV} {k:FK s} {ys:List Value},FK.rd s cs=co k->cs.length=ys.length->(∀j q,cs[j]? =co q->VR M N U q (ys.getD j undef))->ys=FK.vs s k
  | [],cs,k,ys,h,hl,hr=>by
    unfold FK.rd at h;split at h
    · match ys,hl with
      | [],_=>rfl
    · cases h
  | none::r,cs,k,ys,h,hl,hr=>by
    unfold FK.rd at h;split at h
    · rename_i a A
      split at h
      · rename_i B hk
        simp only[Vq]at h;subst h
        match ys,hl with
        | y::ys,hl=>
          have u:=hr 0 _ Z;have h1:=Hv hk (by simpa using hl) fun j q x=>by simpa using hr (j+1) q (by simpa using x)
          rw[Xk]at u;cases u with
          |iv _ _ u=>cases u;simp only[FK.vs,h1]
      · cases h
    · cases h
  | some q::r,cs,k,ys,h,hl,hr=>by
    unfold FK.rd at h;split at h
    · rename_i j n A
      split at h
      · rename_i B x hk
        have x:=of_decide_eq_true x;subst x;simp only[Vq]at h;subst h
        match ys,hl with
        | y::ys,hl=>
          have u:=hr 0 _ Z;have h1:=Hv hk (by simpa using hl) fun j q x=>by simpa using hr (j+1) q (by simpa using x)
          rw[Xk]at u;cases u with
          |iv _ _ u=>cases u;simp only[FK.vs,h1]
      · cases h
    · cases h
theorem Ex{kc:KC}{p:PV}{k:kc.K}{x:Value}(h:kc.dk p=co k)(u:VR M N U p x):x=kc.ek k:=by
  cases kc with
  | str=>
    simp only[KC.dk]at h;split at h
    · simp only[Vq]at h
      subst h;cases u with
      |iv _ _ u=>cases u;rfl
    · cases h
  | int j=>
    simp only[KC.dk]at h;split at h
    · split at h
      · rename_i e
        subst e;simp only[Vq]at h;subst h;cases u with
        |iv _ _ u=>cases u;rfl
      · cases h
    · cases h
  | si j=>
    simp only[KC.dk]at h;split at h
    · split at h
      · rename_i e
        subst e;simp only[Vq]at h;subst h;obtain⟨ys,rfl,h1,y⟩:=u.jU;have g0:=y 0 _ Z;have g1:=y 1 _ Z;obtain⟨ys⟩:=ys
        match ys,h1 with
        | [a,b],_=>
          simp at g0 g1;cases g0 with
          | iv _ _ g0=>
            cases g1 with
            |iv _ _ g1=>cases g0;cases g1;rfl
      · cases h
    · cases h
  | fl s=>
    simp only[KC.dk]at h;split at h
    · obtain⟨ys,rfl,h1,y⟩:=u.jU
      have:=Hv (ys:=ys.toList) h (by simpa using h1) fun j q A=>by
        have:=y j q A;rwa[Vn,<-VY,<-Vr]at this
      show Value.agg ys=Value.agg (FK.vs s k).toArray;rw[<-this]
    · cases h
theorem s6{u:TypeId}(j:bn P ty)(h:dK ty u=co .str):P.underlying u=co .string:=by
  unfold dK at h;split at h
  · rename_i x;exact(j _ _ x).2.1.1
  · cases h
  · split at h<;>cases h
  · split at h<;>cases h
  · cases h
theorem s7{u:TypeId}{k:IntKind}(j:bn P ty)(h:dK ty u=co (.int k)):P.underlying u=co (.int k):=by
  unfold dK at h;split at h
  · cases h
  · rename_i x;simp only[Vq,KC.int.injEq]at h;subst h;exact(j _ _ x).2.1.1
  · split at h<;>cases h
  · split at h<;>cases h
  · cases h
def Qz:Option IntKind->Value->Prop
  |none,v=> ∃a,v= .string a
  |some q,v=> ∃n,v= .int q n
def wg:FS->List Value->Prop
  | [],[]=>True
  |o::s,v::l=>Qz o v∧wg s l
  |_,_=>False
theorem wg.length: ∀{s:FS} {l:List Value},wg s l->l.length=s.length
  | [],[],_=>rfl
  |_::s,_::l,h=>by simp[wg.length h.2]
  | [],_::_,h=>h.elim
  |_::_,[],h=>h.elim
theorem wg.split: ∀{s q:FS} {l:List Value},wg (s++q) l-> ∃a b,l=a++b∧wg s a∧wg q b
  | [],_,l,h=>⟨[],l,rfl,ac,h⟩
  | o::s,q,v::l,h=>by
    obtain⟨a,b,h1,j,u⟩:=wg.split (s:=s) h.2;exact⟨v::a,b,by rw[h1];rfl,⟨h.1,j⟩,u⟩
  |_::_,_,[],h=>h.elim
theorem lF: ∀(s:FS) (k:FK s),wg s (FK.vs s k)
  | [],_=>trivial
  |none::r,k=>⟨⟨_,rfl⟩,lF r k.2⟩
  |some q::r,k=>⟨⟨_,rfl⟩,lF r k.2⟩
theorem B0: ∀{s:FS} {a b:FK s},FK.vs s a=FK.vs s b->a=b
  | [],_,_,_=>rfl
  | none::r,a,b,h=>by
    simp only[FK.vs,YH,Value.string.injEq]at h;exact Prod.ext h.1 (B0 h.2)
  | some q::r,a,b,h=>by
    simp only[FK.vs,YH,Value.int.injEq,true_and]at h;exact Prod.ext h.1 (B0 h.2)
def HU(e:bC)(l:List Value):Value:=match e.k.agg with
  |true=> .agg l.toArray
  |false=>l.headD undef
theorem jX{u:TypeId}{e:bC}(he:ai P u e)(hn:e.k.agg=jp->e.size=1)(pre a j:List Value)(ha:a.length=e.size):(part u (pre++(a++j)).toArray pre.length).run P w= .ok (HU e a) w:=by
  cases hk:e.k.agg with
  | true=>
    have:(pre++(a++j)).toArray.extract pre.length (pre.length+e.size)=a.toArray:=by
      apply Array.ext';rw[<-ha];simp
    simp only[part,fF he,hk,aQ he,HU,this,Sem.run_bind,Result.andThen_ok,if_true,Sem.run_pure]
  | false=>
    have h1:=hn hk
    match a,ha with
    | [],h=>rw[h1]at h;cases h
    | [v],_=>simp[part,fF he,hk,HU]
    |_::_::_,h=>rw[h1]at h;simp at h
def zk(P:Program)(ty:Ty)(d:Nat)(t:TypeId)(s:FS):Prop:=
  ∃e,ty t=co e∧e.size=s.length∧(e.k.agg=jp->e.size=1)∧(∀(w:World) a b,wg s a->wg s b-> ∀D,∃r:Bool,(Op.equalIn (d+D) t (HU e a) (HU e b)).run P w= .ok r w∧(r=is↔a=b))∧ ∀(w:World) a,wg s a-> ∀j D,(Instr.checkKey j (d+D) t (HU e a)).run P w= .ok () w
theorem xN(A:bn P ty){f:TypeId->Option FS}{d:Nat}(hf: ∀u s,f u=co s->zk P ty d u s)(D:Nat): ∀(F:List Field) (q:FS) (j x a b:List Value),j.length=x.length->(∀g∈F,g.name≠ "_")->ql f (F.map fun g=>(g.offset,g.type)) j.length=co q->wg q a->wg q b->
    ∃r:Bool,(Op.eqFields (d+D) (j++a).toArray (x++b).toArray F).run P w= .ok r w∧(r=is↔a=b)
  | [],q,_,_,a,b,_,_,h,ha,hb=>by
    simp only[VQ,ql,Vq]at h;subst h
    match a,b,ha,hb with
    | [],[],_,_=>exact⟨is,by simp[Op.eqFields],by simp⟩
  | g::F,q,j,x,a,b,hp,hn,h,ha,hb=>by
    simp only[Vy,ql]at h;split at h
    · rename_i s ho hs
      have ho:=VN ho;split at h
      · rename_i q' hq
        simp only[Vq]at h;subst h;obtain⟨B,a2,rfl,G,Y⟩:=ha.split;obtain⟨C,J,rfl,I,a0⟩:=hb.split;obtain⟨e,he,c0,y,b0,_⟩:=hf _ _ hs;have la:=G.length;have lb:=I.length;have p1:=jX (P:=P) (w:=w) (A _ _ he) y j B a2 (by omega);have p2:=jX (P:=P) (w:=w) (A _ _ he) y x C J (by omega);obtain⟨r2,ih,i2⟩:=xN A hf D F q' (j++B) (x++C) a2 J (by simp[hp,la,lb]) (fun g hg=>hn g (VE _ hg)) (by rw[Vp,la];exact hq) Y a0;simp only[VF]at ih;simp only[Op.eqFields,am (hn g VG),Sem.run_bind,ho,p1,Result.andThen_ok];rw[hp,p2];obtain⟨r1,j1,j2⟩:=b0 w B C G I D;simp only[Result.andThen_ok,j1];have hd:B++a2=C++J↔B=C∧a2=J:=⟨fun h=>Y7 h (by omega),fun h=>by rw[h.1,h.2]⟩
        cases r1 with
        |true=>exact⟨r2,by simpa using ih,by rw[hd,i2];exact⟨fun h=>⟨j2.1 Z,h⟩,fun h=>h.2⟩⟩
        |false=>exact⟨jp,by simp,by rw[hd];exact⟨(fun h=>nomatch h),fun h=>j2.2 h.1⟩⟩
      · cases h
    · cases h
theorem xM(B:bn P ty){d:Nat}{u:TypeId}{s:FS}(hf:zk P ty d u s)(D c:Nat)(hc:c=s.length): ∀(m j:Nat) (x y a b:List Value),x.length=j*c->y.length=j*c->wg (Cr s m) a->wg (Cr s m) b->
    ∃r:Bool,(Op.eqItems (d+D) u c (x++a).toArray (y++b).toArray (List.range' j m)).run P w= .ok r w∧(r=is↔a=b)
  | 0,j,_,_,a,b,_,_,ha,hb=>by
    match a,b,ha,hb with
    | [],[],_,_=>exact⟨is,by simp[Op.eqItems],by simp⟩
  | m+1,j,x,y,a,b,h1,h2,ha,hb=>by
    obtain⟨C,a2,rfl,I,a0⟩:=wg.split ha;obtain⟨G,Y,rfl,J,b0⟩:=wg.split hb;obtain⟨e,he,d0,A,c0,_⟩:=id hf;have la:=I.length;have lb:=J.length;have p1:=jX (P:=P) (w:=w) (B _ _ he) A x C a2 (by omega);have p2:=jX (P:=P) (w:=w) (B _ _ he) A y G Y (by omega);obtain⟨r2,ih,i2⟩:=xM B hf D c hc m (j+1) (x++C) (y++G) a2 Y (by rw[Vp,h1,la,W8,hc]) (by rw[Vp,h2,lb,W8,hc]) a0 b0;simp only[VF]at ih;rw[Y1];rw[h1]at p1;rw[h2]at p2;obtain⟨r1,j1,j2⟩:=c0 w C G I J D;simp only[Op.eqItems,Sem.run_bind,p1,p2,Result.andThen_ok,j1];have hd:C++a2=G++Y↔C=G∧a2=Y:=⟨fun h=>Y7 h (by omega),fun h=>by rw[h.1,h.2]⟩
    cases r1 with
    |true=>exact⟨r2,by simpa using ih,by rw[hd,i2];exact⟨fun h=>⟨j2.1 Z,h⟩,fun h=>h.2⟩⟩
    |false=>exact⟨jp,by simp,by rw[hd];exact⟨(fun h=>nomatch h),fun h=>j2.2 h.1⟩⟩
theorem Dc(j:bn P ty){u:TypeId}{e:bC}(he:ty u=co e): ∃i,P.info? u=co i∧P.cellsOf u=e.size:=by
  obtain⟨⟨i,x,hs,_⟩,_⟩:=j _ _ he;exact⟨i,x,by simp[Program.cellsOf,x,hs]⟩
theorem y3(A:bn P ty): ∀(d:Nat) (t:TypeId) (s:FS),vt ty d t=co s->zk P ty d t s
  |0,_,_,h=>by simp[vt]at h
  | d+1,t,s,h=>by
    have key:=fun u s=>y3 A d u s;unfold vt at h;split at h
    · rename_i _ _ _ C
      simp only[Vq]at h;subst h;have hu:=(A _ _ C).2.1.1;refine⟨_,C,rfl,fun _=>rfl,fun w a b G hb D=>?_,fun w a G em D=>?_⟩
      · match a,b,G,hb with
        | [_],[_],⟨⟨x,rfl⟩,_⟩,⟨⟨y,rfl⟩,_⟩=>
          simp only[HU,TK.agg,Yo];rw[show d+1+D=(d+D)+1 by omega,run_equalIn_string _ _ _ _ _ hu,uy];exact⟨_,rfl,by simp⟩
      · match a,G with
        | [_],⟨⟨x,rfl⟩,_⟩=>
          simp only[HU,TK.agg,Yo];rw[show d+1+D=(d+D)+1 by omega];exact run_checkKey hu (by simp[IsKey]) _ _
    · rename_i q _ _ _ C
      simp only[Vq]at h;subst h;have hu:=(A _ _ C).2.1.1;refine⟨_,C,rfl,fun _=>rfl,fun w a b G hb D=>?_,fun w a G em D=>?_⟩
      · match a,b,G,hb with
        | [_],[_],⟨⟨x,rfl⟩,_⟩,⟨⟨y,rfl⟩,_⟩=>
          simp only[HU,TK.agg,Yo];rw[show d+1+D=(d+D)+1 by omega,run_equalIn_int _ _ _ _ _ _ _ hu];exact⟨_,rfl,by simp⟩
      · match a,G with
        | [_],⟨⟨x,rfl⟩,_⟩=>
          simp only[HU,TK.agg,Yo];rw[show d+1+D=(d+D)+1 by omega];exact run_checkKey hu (by simp[IsKey]) _ _
    · rename_i fs n _ _ C
      split at h
      · rename_i s' hs
        split at h
        · rename_i J
          simp only[Vq]at h;subst h;have hl:=VN J;obtain⟨F,h1,h2⟩:=(A _ _ C).2.1;obtain⟨q1,_,q3⟩:=(A _ _ C).2.2 Z;rw[ig h1]at q3;refine⟨_,C,hl.symm,(fun h=>nomatch h),fun w a b G hb D=>?_,fun w a G em D=>?_⟩
          · have h3:=xN (w:=w) A key D F.toList s' [] [] a b Z q3 (by rw[h2];exact hs) G hb
            simp only[VU]at h3;show∃r:Bool,(Op.equalIn (d+1+D) t (.agg a.toArray) (.agg b.toArray)).run P w= .ok r w∧_;rw[show d+1+D=(d+D)+1 by omega,run_equalIn_struct w (d+D) t _ _ (by rw[ig h1];exact h1) q1,ig h1];exact h3
          · show(Instr.checkKey em (d+1+D) t (.agg a.toArray)).run P w=_
            rw[show d+1+D=(d+D)+1 by omega,Instr.checkKey];simp only[Sem.run_bind,run_underlying h1,Result.andThen_ok];rw[<-Array.forIn_toList];obtain⟨a0,hp⟩: ∃a0:List Value,a0=[]:=⟨[],rfl⟩
            rw[show a.toArray=(a0++a).toArray by rw[hp];rfl];have B:ql (vt ty d) (F.toList.map fun g=>(g.offset,g.type)) a0.length=co s':=by rw[h2,hp];exact hs
            clear hs hp h2 h1 hl J C;generalize F.toList=L at B q3
            induction L generalizing a0 a s' with
            |nil=>simp
            | cons g L ih=>
              simp only[Vy,ql]at B;split at B
              · rename_i s1 ho k0
                have ho:=VN ho;split at B
                · rename_i q' hq
                  simp only[Vq]at B;subst B;obtain⟨a1,a2,rfl,I,c0⟩:=wg.split G;obtain⟨e,C,f0,Y,_,d0⟩:=key _ _ k0;have la:=I.length;have p1:=jX (P:=P) (w:=w) (A _ _ C) Y a0 a1 a2 (by omega);have ih:=ih q' a2 c0 (a0++a1) (by rw[Vp,la];exact hq) (fun g hg=>q3 g (VE _ hg));simp only[VF]at ih;simp only[Y8,Sem.run_bind,ho,q3 g VG,ne_eq,not_false_eq_true,if_true,Result.andThen_ok,p1,d0 w a1 I em D,Sem.run_pure];exact ih
                · cases B
              · cases B
        · cases h
      · cases h
    · rename_i n u m _ _ _ C
      split at h
      · rename_i s' hs
        split at h
        · rename_i J
          simp only[Vq]at h;subst h;have hl:=VN J;have h1:P.underlying t=co (.array n u):=(A _ _ C).2.1;have hf:=key u s' hs;obtain⟨e,b0,f0,_,_,_⟩:=id hf;obtain⟨i,hi,i0⟩:=Dc A b0;have e0: ∀n,(Cr s' n).length=n*s'.length:=fun n=>by
            induction n with
            |zero=>simp[Cr]
            |succ n ih=>simp only[Cr,Vp,ih,W8];omega
          refine⟨_,C,by rw[e0];exact hl.symm,(fun h=>nomatch h),fun w a b G hb D=>?_,fun w a G em D=>?_⟩
          · have h3:=xM (w:=w) A hf D (P.cellsOf u) (by rw[i0,f0]) n 0 [] [] a b (by simp) (by simp) G hb
            simp only[VU]at h3;show∃r:Bool,(Op.equalIn (d+1+D) t (.agg a.toArray) (.agg b.toArray)).run P w= .ok r w∧_;rw[show d+1+D=(d+D)+1 by omega,run_equalIn_array w (d+D) _ _ h1 hi,List.range_eq_range'];exact h3
          · show(Instr.checkKey em (d+1+D) t (.agg a.toArray)).run P w=_
            rw[show d+1+D=(d+D)+1 by omega,Instr.checkKey];simp only[Sem.run_bind,run_underlying h1,Result.andThen_ok];simp only[Std.Legacy.Range.forIn_eq_forIn_range',Std.Legacy.Range.size,Yb,Nat.add_one_sub_one,Nat.div_one];obtain⟨e',j0,m0,Y,_,d0⟩:=id hf;have:e'=e:=Wq (j0.symm.trans b0);subst this;obtain⟨a0,hp,g0⟩: ∃a0:List Value,a0.length=0*e'.size∧a.toArray=(a0++a).toArray:=⟨[],by simp,rfl⟩
            rw[g0];clear g0;clear hl J h1 C;generalize 0=j at hp ⊢
            induction n generalizing j a0 a with
            |zero=>simp
            | succ n ih=>
              obtain⟨a1,a2,rfl,I,c0⟩:=wg.split G;have la:=I.length;have p1:=jX (P:=P) (w:=w) (A _ _ b0) Y a0 a1 a2 (by omega);have ih:=ih a2 c0 (a0++a1) (j+1) (by rw[Vp,hp,la,W8,f0]);simp only[VF]at ih;rw[Y1];rw[hp]at p1;simp only[Y8,Sem.run_bind,aQ (A _ _ b0),Result.andThen_ok,p1,d0 w a1 I em D,Sem.run_pure];exact ih
        · cases h
      · cases h
    · cases h
theorem IG{u:TypeId}{s:FS}(j:bn P ty)(h:dK ty u=co (.fl s)):(∃F,P.underlying u=co (.struct F))∧ ∃e,e.k.agg=is∧zk P ty 6 u s∧ty u=co e:=by
  unfold dK at h;split at h
  · cases h
  · cases h
  · split at h<;>cases h
  · rename_i x
    split at h
    · rename_i s' hs
      simp only[Vq,KC.fl.injEq]at h;subst h;obtain⟨F,h1,_⟩:=(j _ _ x).2.1;exact⟨⟨F,h1⟩,_,rfl,y3 j 6 u s' hs,x⟩
    · cases h
  · cases h
theorem BD{kc:KC}{u:TypeId}(x:bn P ty)(h:dK ty u=co kc)(a b:kc.K):(Op.equal u (kc.ek a) (kc.ek b)).run P w= .ok (kw (a=b)) w:=by
  have key: ∀(r:Bool),F3 ty 10 u (kc.pk a) (kc.pk b)=co r->(Op.equal u (kc.ek a) (kc.ek b)).run P w= .ok r w:=fun r D=>
    C7 (M:=Mem.base) (N:=⟨fun _=>0,fun _=>0⟩) (U:=fun _=>True) x 10 u _ _ r D _ _ (xj kc a) (xj kc b) 9990
  unfold dK at h;split at h
  · rename_i j
    simp only[Vq]at h;subst h;refine key _ ?_;simp[F3,j,KC.pk]
  · rename_i j
    simp only[Vq]at h;subst h;refine key _ ?_;simp[F3,j,KC.pk]
  · rename_i j
    split at h
    · rename_i C hb
      simp only[Vq]at h;subst h;refine key _ ?_;obtain⟨I,a2⟩:=a;obtain⟨J,Y⟩:=b;simp[F3,F2,j,C,hb,KC.pk,gU,TK.agg,ki]
    · cases h
  · rename_i h0 j
    split at h
    · rename_i s hs
      simp only[Vq]at h;subst h;obtain⟨e,y,G,_,A,_⟩:=y3 x 6 u s hs;have:e=_:=Wq (y.symm.trans j);subst this;obtain⟨r,h1,B⟩:=A w (FK.vs s a) (FK.vs s b) (lF s a) (lF s b) 9994;have hd:r=kw (a=b):=by
        rw[WR,B,decide_eq_true_iff];exact⟨B0,fun h=>by rw[h]⟩
      rw[<-hd];exact h1
    · cases h
  · cases h
def kz(kc:KC){V:Type}:List (kc.K×V)->kc.K->Option Nat
  | [],_=>io
  |(a,_)::r,k=>if a=k then co 0 else(kz kc r k).map (· +1)
section
variable {kc:KC} {V:Type}
theorem l4: ∀{m:List (kc.K×V)} {k:kc.K} {i:Nat},kz kc m k=co i-> ∃v,m[i]? =co (k,v)∧(∀z,dQ kc m k z=v)∧dr kc m k=is∧(∀u,cJ kc m k u=m.set i (k,u))∧kL kc m k=m.eraseIdx i
  | [],_,_,h=>by simp[kz]at h
  | (a,b)::r,k,i,h=>by
    simp only[kz]at h;split at h
    · rename_i e
      simp only[Vq]at h;subst h;subst e;exact⟨b,rfl,fun z=>by simp[dQ],by simp[dr],fun u=>by simp[cJ],by simp[kL]⟩
    · rename_i e
      obtain⟨j,C,rfl⟩:=Vw.1 h;obtain⟨v,h1,x,y,A,B⟩:=l4 C;exact⟨v,by simpa using h1,fun z=>by simp[dQ,e,x],by simp[dr,e,y],fun u=>by simp[cJ,e,A],by simp[kL,e,B]⟩
theorem oS: ∀{m:List (kc.K×V)} {k:kc.K},kz kc m k=io->(∀z,dQ kc m k z=z)∧dr kc m k=jp∧(∀j,cJ kc m k j=m++ [(k,j)])∧kL kc m k=m
  | [],_,_=>⟨fun z=>rfl,rfl,fun v=>rfl,rfl⟩
  | (a,b)::r,k,h=>by
    simp only[kz]at h;split at h
    · cases h
    · rename_i e
      obtain⟨u,x,y,A⟩:=oS (XM.1 h);exact⟨fun z=>by simp[dQ,e,u],by simp[dr,e,x],fun j=>by simp[cJ,e,y],by simp[kL,e,A]⟩
def wa(kc:KC){V:Type}:List MapEntry->List (kc.K×V)->Prop
  | [],[]=>True
  |e::r,x::m=>e.key=kc.ek x.1∧wa kc r m
  |_,_=>False
theorem Bi: ∀{es:List MapEntry} {m:List (kc.K×V)},es.length=m.length->(∀(j:Nat) (x:kc.K×V),m[j]? =co x->(es.getD j ci).key=kc.ek x.1)->wa kc es m
  | [],[],_,_=>trivial
  |e::r,x::m,hl,h=>⟨by simpa using h 0 x Z,Bi (by simpa using hl) fun j x u=>by simpa using h (j+1) x (by simpa using u)⟩
  | [],_::_,hl,_=>by simp at hl
  |_::_,[],hl,_=>by simp at hl
theorem tg: ∀{es:List MapEntry} {m:List ((KC.str).K×V)} {k:ByteArray} (i:Nat),wa .str es m->Instr.findNow .string (.string k) es i=co ((kz .str m k).map fun j=>(i+j,(es.getD j ci).val))
  | [],[],_,_,_=>rfl
  | e::r,(a,b)::m,k,i,h=>by
    obtain⟨h1,u⟩:=h;simp only[KC.ek]at h1;simp only[Instr.findNow,h1,Instr.sameNow,kz];rw[beq_toListBytes,uy];by_cases hk:a=k
    · subst hk;simp
    · have hb:kw (k=a)=jp:=by simpa using fun e=>hk e.symm
      rw[hb,be hk,tg (i+1) u];simp only[YL,Vq];congr 1
      funext j
      simp;omega
  | [],_::_,_,_,h=>h.elim
  |_::_,[],_,_,h=>h.elim
theorem th{q:IntKind}: ∀{es:List MapEntry} {m:List ((KC.int q).K×V)} {k:Int} (i:Nat),wa (.int q) es m->Instr.findNow (.int q) (.int q k) es i=co ((kz (.int q) m k).map fun j=>(i+j,(es.getD j ci).val))
  | [],[],_,_,_=>rfl
  | e::r,(a,b)::m,k,i,h=>by
    obtain⟨h1,u⟩:=h;simp only[KC.ek]at h1;simp only[Instr.findNow,h1,Instr.sameNow,kz,if_true];by_cases hk:a=k
    · subst hk;simp
    · have: ¬k=a:=fun e=>hk e.symm
      have hb:(k==a)=jp:=by simpa using this
      rw[hb,be hk,th (i+1) u];simp only[YL,Vq];congr 1
      funext j
      simp;omega
  | [],_::_,_,_,h=>h.elim
  |_::_,[],_,_,h=>h.elim
theorem px{y:TypeId}(x:bn P ty)(hk:dK ty y=co kc): ∀{es:List MapEntry} {m:List (kc.K×V)} {k:kc.K} (i:Nat),wa kc es m->
    (Instr.findAsking y (kc.ek k) es i).run P w= .ok ((kz kc m k).map fun j=>(i+j,(es.getD j ci).val)) w
  | [],[],_,_,_=>by simp[Instr.findAsking,kz]
  | e::r,(a,b)::m,k,i,h=>by
    obtain⟨h1,A⟩:=h;simp only[Instr.findAsking,h1,Sem.run_bind,BD (P:=P) (w:=w) x hk,Result.andThen_ok,kz];by_cases u:a=k
    · subst u;simp
    · have: ¬k=a:=fun e=>u e.symm
      rw[be u];simp only[this,decide_false,Xe,if_false,px x hk (i+1) A,YL];congr 2
      funext j
      simp;omega
  | [],_::_,_,_,h=>h.elim
  |_::_,[],_,_,h=>h.elim
theorem mU{B:TypeId}(u:bn P ty)(hk:dK ty B=co kc){es:List MapEntry}{m:List (kc.K×V)}(k:kc.K)(h:wa kc es m):
    (Instr.findKey B (kc.ek k) es).run P w= .ok ((kz kc m k).map fun j=>(j,(es.getD j ci).val)) w:=by
  have hu: ∃d,P.underlying B=co d:=by
    unfold dK at hk;split at hk
    · rename_i y;exact⟨_,(u _ _ y).2.1.1⟩
    · rename_i y;exact⟨_,(u _ _ y).2.1.1⟩
    · rename_i y;obtain⟨F,h1,_⟩:=(u _ _ y).2.1;exact⟨_,h1⟩
    · rename_i y;obtain⟨F,h1,_⟩:=(u _ _ y).2.1;exact⟨_,h1⟩
    · cases hk
  obtain⟨d,hd⟩:=hu;unfold Instr.findKey;rw[Sem.run_bind,run_underlying hd,Result.andThen_ok];have x:=px (P:=P) (w:=w) u hk (k:=k) 0 h;simp only[VL]at x;cases kc with
  | str=>
    have:=s6 u hk;rw[hd]at this;cases this;simp only[KC.ek,tg 0 h,VL];rfl
  | int q=>
    have:=s7 u hk;rw[hd]at this;cases this;simp only[KC.ek,th 0 h,VL];rfl
  | si q=>
    cases es with
    | nil=>
      cases m with
      |nil=>simp[Instr.findNow,kz]
      |cons=>exact h.elim
    | cons e r=>
      have A:Instr.findNow d (KC.ek (.si q) k) (e::r) 0=io:=by
        simp only[Instr.findNow,KC.ek];have:Instr.sameNow d (.agg #[.string k.1,.int q k.2]) e.key=io:=by cases d<;>rfl
        rw[this]
      rw[A];exact x
  | fl s=>
    cases es with
    | nil=>
      cases m with
      |nil=>simp[Instr.findNow,kz]
      |cons=>exact h.elim
    | cons e r=>
      have A:Instr.findNow d (KC.ek (.fl s) k) (e::r) 0=io:=by
        simp only[Instr.findNow,KC.ek];have:Instr.sameNow d (.agg (FK.vs s k).toArray) e.key=io:=by cases d<;>rfl
        rw[this]
      rw[A];exact x
theorem jG.keys{V:Type}{e:V->IV}{m:List (kc.K×V)}{ents:Array MapEntry}{clock:Nat}(h:jG M kc e m ents clock):wa kc ents.toList m:=
  Bi (by simpa using h.size) fun j x u=>by
    have:=h.key j x u;rwa[Vn,<-VY,<-Vr]at this
theorem jG.Uk{V:Type}{e:V->IV}{m:List (kc.K×V)}{ents:Array MapEntry}{clock:Nat}(h:jG M kc e m ents clock){j:Nat}{x:kc.K×V}(hj:m[j]? =co x):IR M (e x.2) (ents.toList.getD j ci).val:=by
  have:=h.val j x hj;rwa[Vn,<-VY,<-Vr]at this
theorem xe{i:IV}{x:Value}(h:IR M i x):VR M N U i.pv x:=by
  cases h with
  | agg cs ys hl hr=>
    refine .agg _ _ (by simpa using hl) fun j p u=>?_;rw[Vv,Vw]at u;obtain⟨q,y,rfl⟩:=u
    exact .iv _ _ (hr j q y)
  |v x=>exact .iv _ _ (.v x)
  |fz=>exact .iv _ _ (.fz _ _ _ _)
  |bK _ _ _ _ _ _ h1 h2 h3 h4 h5=>exact .iv _ _ (.bK _ _ _ _ _ _ h1 h2 h3 h4 h5)
  |kK _ _ _ h1 h2=>exact .iv _ _ (.kK _ _ _ h1 h2)
  |eG _ _ _ _ _ _ _ _ h1 h2 h3 h4 h5 h6 h7=>exact .iv _ _ (.eG _ _ _ _ _ _ _ _ h1 h2 h3 h4 h5 h6 h7)
  |RE _ _ _ h=>exact .iv _ _ (.RE _ _ _ h)
theorem kX{kt:TypeId}(u:bn P ty)(hk:dK ty kt=co kc)(k:kc.K)(b:Bool)(n:Nat):(Instr.checkKey b (n+6) kt (kc.ek k)).run P w= .ok () w:=by
  cases kc with
  |str=>exact run_checkKey (s6 u hk) (by simp[KC.ek,IsKey]) _ _
  |int q=>exact run_checkKey (s7 u hk) (by simp[KC.ek,IsKey]) _ _
  | si q=>
    unfold dK at hk;split at hk
    · cases hk
    · cases hk
    · rename_i a c _ _ _ I
      split at hk
      · rename_i _ _ _ _ B _ _ _ G hc
        simp only[Vq,KC.si.injEq]at hk;have a0:B=q:=hk;subst a0;obtain⟨F,h1,A⟩:=(u _ _ I).2.1;have D:=((u _ _ I).2.2 Z).2.2;rw[ig h1]at D;have d0:=(u _ _ G).2.1.1;have e0:=(u _ _ hc).2.1.1;have b0:(part a #[.string k.1,.int B k.2] 0).run P w= .ok (.string k.1) w:=by
          have:=jg (P:=P) (w:=w) (M:=Mem.base) (N:=⟨fun _=>0,fun _=>0⟩) (U:=fun _=>True) (off:=0) (cs:=[.iv (.v (.string k.1)),.iv (.v (.int B k.2))]) (ys:= #[.string k.1,.int B k.2]) (u _ _ G) Z
            (fun j p x=>by match j with
              |0=>simp at x;subst x;exact .iv _ _ (.v _)
              |1=>simp at x;subst x;exact .iv _ _ (.v _)
              |j+2=>simp at x) (p:= .iv (.v (.string k.1))) (by simp[gU,TK.agg,ki])
          obtain⟨y,hy,C⟩:=this;cases C with
          |iv _ _ C=>cases C;exact hy
        have c0:(part c #[.string k.1,.int B k.2] 1).run P w= .ok (.int B k.2) w:=by
          have:=jg (P:=P) (w:=w) (M:=Mem.base) (N:=⟨fun _=>0,fun _=>0⟩) (U:=fun _=>True) (off:=1) (cs:=[.iv (.v (.string k.1)),.iv (.v (.int B k.2))]) (ys:= #[.string k.1,.int B k.2]) (u _ _ hc) Z
            (fun j p x=>by match j with
              |0=>simp at x;subst x;exact .iv _ _ (.v _)
              |1=>simp at x;subst x;exact .iv _ _ (.v _)
              |j+2=>simp at x) (p:= .iv (.v (.int B k.2))) (by simp[gU,TK.agg,ki])
          obtain⟨y,hy,C⟩:=this;cases C with
          |iv _ _ C=>cases C;exact hy
        obtain⟨F⟩:=F
        match F,A,D with
        | [],A,_=>simp at A
        | [_],A,_=>simp at A
        |_::_::_::_,A,_=>simp at A
        | [f,g],A,D=>
          simp at A;obtain⟨⟨h3,h4⟩,h5,h6⟩:=A;have hf:=D f (by simp);have hg:=D g (by simp);have ca:=run_checkKey (w:=w) d0 (k:= .string k.1) (by simp[IsKey]) b (n+4);have cc:=run_checkKey (w:=w) e0 (k:= .int B k.2) (by simp[IsKey]) b (n+4);unfold Instr.checkKey;simp[KC.ek,run_underlying h1,hf,hg,h3,h4,h5,h6,b0,c0,ca,cc]
      · cases hk
    · split at hk<;>cases hk
    · cases hk
  | fl s=>
    obtain⟨_,e,G,⟨e',Y,_,_,_,J⟩,I⟩:=IG u hk;have:e'=e:=Wq (Y.symm.trans I);subst this;have:=J w (FK.vs s k) (lF s k) b n;rw[Nat.add_comm 6 n]at this;unfold HU at this;rw[G]at this;exact this
theorem zw{a b:Value}(h:Ds a b=is):a=b:=by
  unfold Ds at h;split at h<;>simp_all
theorem zu: ∀{a b:List Value},wM a b=is->a=b
  | [],[],_=>rfl
  | x::r,y::q,h=>by
    simp only[wM,Wf]at h;rw[zw h.1,zu h.2]
  | [],_::_,h=>by simp[wM]at h
  |_::_,[],h=>by simp[wM]at h
theorem JL{a b:Value}(h:ll a b=is):a=b:=by
  unfold ll at h;split at h
  · have:=zu h
    congr 1;exact Yy.1 this
  · exact zw h
theorem Ba(y:bn P ty){t:TypeId}{ok:Bool}{V:Type}{e:V->IV}{z:V}{zv:Value}{m:List (kc.K×V)}{key p:PV}{C:Prop}(h:vc ty t ok kc e z zv m key=co (p,C)){r:Nat}{ents:Array MapEntry}{clock:Nat}
    (hb:w.heap[r]? =co (.map ents clock)) (hm:jG M kc e m ents clock) (hz:IR M (e z) zv) {k:Value} (hk:VR M N U key k):
    C∧ ∃x,(Instr.lookup t (.map (co r)) k ok).run P w= .ok x w∧VR M N U p x:=by
  unfold vc at h;split at h
  · rename_i kt et _ _ _ _ he
    have hu:=(y _ _ he).2.1.1;split at h
    · rename_i A ee D a0
      split at h
      · rename_i k0 hd hv Y
        have hd:=of_decide_eq_true hd;subst hd;have b0:=Ex Y hk;subst b0;have hv:=JL hv;have u:=mU (P:=P) (w:=w) y D k0 hm.keys;have B:=kX (P:=P) (w:=w) y D k0 ents.isEmpty 9994;have c0:=dp (P:=P) (w:=w) (y _ _ a0);have hg:(getObj r).run P w= .ok (.map ents clock) w:=by simp[getObj,Sem.run,hb]
        have I: ∃v J,(Instr.lookup t (.map (co r)) (A.ek k0) ok).run P w= .ok (if ok then .tuple #[v,.bool J] else v) w∧J=dr A m k0∧IR M (e (dQ A m k0 z)) v:=by
          cases hfi:kz A m k0 with
          | none=>
            obtain⟨g1,g2,_⟩:=oS hfi;rw[hfi]at u;refine⟨ee.zero,jp,?_,by rw[g2],by rw[g1,hv];exact hz⟩;simp[Instr.lookup,run_underlying hu,hg,B,u,c0]
          | some i=>
            obtain⟨v,g0,g1,g2,_⟩:=l4 hfi;rw[hfi]at u;refine⟨(ents.toList.getD i ci).val,is,?_,by rw[g2],by rw[g1];exact hm.Uk g0⟩;simp[Instr.lookup,run_underlying hu,hg,B,u]
        obtain⟨v,J,h1,h2,h3⟩:=I;split at h
        · simp only[Vq,VC]at h
          obtain⟨rfl,rfl⟩:=h;refine⟨ac,_,h1,.aZ _ _ Z fun j q G=>?_⟩
          match j with
          |0=>simp at G;subst G;exact xe h3
          |1=>simp at G;subst G;subst h2;exact .iv _ _ (.v _)
          |j+2=>simp at G
        · simp only[Vq,VC]at h
          obtain⟨rfl,rfl⟩:=h;exact⟨ac,_,h1,xe h3⟩
      · cases h
    · cases h
  · cases h
end
end
section
variable {P:Program} {ty:Ty} {M:Mem} {N:Nm} {w:World} {nt:NT} {s:AS} {a:Act}
theorem aW{x:Value}{m:Sem Value}(h:m.run P w= .ok x w):(do pure (.value (<-m)):Sem Next).run P w= .ok (.value x) w:=by
  rw[Sem.run_bind,h];rfl
theorem rV(D:bn P ty)(hf:Fits M N s nt a w){o:Oper}{p:PV}{C:Prop}(h:iN ty s o.op=co (p,C))(hC:C):
    ∃x,(execOp a.eval o).run P w= .ok (.value x) w∧VR M N (· <s.nx) p x:=by
  obtain⟨f0,B,_,_⟩:=hf;cases ho:o.op with
  | move x=>
    rw[ho]at h;simp only[iN,Vq,VC]at h;obtain⟨rfl,rfl⟩:=h;exact⟨_,by simp only[execOp,ho];rfl,aN B x⟩
  | assign x=>
    rw[ho]at h;simp only[iN,Vq,VC]at h;obtain⟨rfl,rfl⟩:=h;exact⟨_,by simp only[execOp,ho];rfl,aN B x⟩
  | pick c x y=>
    rw[ho]at h;simp only[iN]at h;have hc:=aN B c;split at h
    · rename_i J
      rw[J]at hc;simp only[Vq,VC]at h;obtain⟨rfl,rfl⟩:=h;generalize Y:a.eval c=v at hc;cases hc with
      |kb=>exact⟨_,by simp only[execOp,ho,Y];simp[asBool],aN B x⟩
    · rename_i J
      rw[J]at hc;simp only[Vq,VC]at h;obtain⟨rfl,rfl⟩:=h;generalize Y:a.eval c=v at hc;cases hc with
      |kb=>exact⟨_,by simp only[execOp,ho,Y];simp[asBool],aN B y⟩
    · cases h
  | load t x=>
    rw[ho]at h;simp only[iN]at h;split at h
    · rename_i e J
      split at h
      · rename_i cs hb
        split at h
        · rename_i q hq
          simp only[Vq,VC]at h;obtain⟨rfl,rfl⟩:=h;obtain⟨b,p0,A,s0⟩:=x6 f0 (aN B x) hb;obtain⟨y,hy,Y⟩:=sU (P:=P) (D t e J) s0 hq;exact⟨y,by simp only[execOp,ho];exact aW (by rw[A];simpa[Instr.loadAt,Instr.sureAddr]using hy),Y⟩
        · cases h
      · cases h
    · cases h
  | nilCheck x=>
    rw[ho]at h;simp only[iN]at h;have A:=aN B x;split at h
    all_goals first
      |cases h;done
      | (rename_i J
         simp only[Vq,VC]at h;obtain⟨rfl,rfl⟩:=h;rw[J]at A;refine⟨_,?_,A⟩;generalize Y:a.eval x=v at A
         first
         |(cases A;simp only[execOp,ho,Y];rfl)
         | (cases A with
            |iv _ _ A=>cases A;simp only[execOp,ho,Y];rfl))
  | binOp op t x y t'=>
    rw[ho]at h;simp only[iN]at h;split at h
    · rename_i cs ds m0 z1
      have h1:=aN B x;have h2:=aN B y;rw[m0]at h1;rw[z1]at h2;obtain⟨_,z,hz,Y⟩:=Jx (P:=P) (w:=w) D (u:=x) (v:=y) h h1 h2;exact⟨z,by simp only[execOp,ho];exact aW hz,Y⟩
    · obtain⟨z,hz,Y⟩:=F9 (P:=P) (w:=w) D (u:=x) (v:=y) h hC (aN B x) (aN B y)
      exact⟨z,by simp only[execOp,ho];exact aW hz,Y⟩
  | unOp op t x=>
    rw[ho]at h;cases op with
    | not=>
      simp only[iN]at h;have A:=aN B x;split at h
      · rename_i J
        simp only[Vq,VC]at h;obtain⟨rfl,rfl⟩:=h;rw[J]at A;generalize Y:a.eval x=v at A;cases A with
        |kb=>exact⟨_,by simp only[execOp,ho,Y];exact aW Z,.kb _⟩
      · rename_i J
        simp only[Vq,VC]at h;obtain⟨rfl,rfl⟩:=h;rw[J]at A;generalize Y:a.eval x=v at A;cases A with
        |kb=>exact⟨_,by simp only[execOp,ho,Y];exact aW Z,.kb _⟩
      · rename_i J
        simp only[Vq,VC]at h;obtain⟨rfl,rfl⟩:=h;rw[J]at A;cases A with
        | iv _ _ A=>generalize Y:a.eval x=v at A;cases A with
          |v=>exact⟨_,by simp only[execOp,ho,Y];exact aW Z,.iv _ _ (.v _)⟩
      · cases h
    |_=>simp[iN]at h
  | fieldAddr t x k=>
    rw[ho]at h;simp only[iN]at h;split at h
    · rename_i e J
      split at h
      · rename_i p0 u m1
        split at h
        · rename_i eu d0
          split at h
          · cases h
          · rename_i n hn
            split at h
            · rename_i q hq
              simp only[Vq,VC]at h;obtain⟨rfl,rfl⟩:=h;obtain⟨F,fd,h1,h2,rfl,rfl⟩:=ry (D t e J) m1;obtain⟨b,o',A,Y⟩:=Fl (aN B x) hq;refine⟨_,?_,Y⟩;simp only[execOp,ho,A];refine aW ?_;have hs:=aQ (w:=w) (D _ _ d0);simp[Instr.fieldAt,run_underlying h1,h2,Instr.sureAddr,fieldPlace,hs,hn,cY]
            · cases h
        · cases h
      · cases h
    · cases h
  | field t x k=>
    rw[ho]at h;simp only[iN]at h;split at h
    · rename_i e J
      split at h
      · rename_i p0 u m1
        split at h
        · rename_i eu d0
          split at h
          · rename_i cs m0
            split at h
            · rename_i q hq
              simp only[Vq,VC]at h;obtain⟨rfl,rfl⟩:=h;obtain⟨F,fd,h1,h2,rfl,rfl⟩:=ry (D t e J) m1;have A:=aN B x;rw[m0]at A;generalize Y:a.eval x=v at A;cases A with
              | agg _ ys hl hr=>
                obtain⟨y,hy,m2⟩:=jg (P:=P) (w:=w) (D _ _ d0) hl hr hq;refine⟨y,?_,m2⟩;simp only[execOp,ho,Y];refine aW ?_;simp[Instr.field,run_underlying h1,h2,asAgg,hy]
            · cases h
          · cases h
        · cases h
      · cases h
    · cases h
  | indexAddr t x i=>
    rw[ho]at h;simp only[iN]at h;split at h
    · rename_i u sz j0 z _ J
      have hu:P.underlying t=co (.slice u):=(D t _ J).2.1.1;split at h
      · rename_i eu d0
        split at h
        · rename_i k n hn
          have G:=aN B i;rw[hn]at G;have k0:a.eval i= .int k n:=by
            generalize a.eval i=v at G;cases G with
            | iv _ _ G=>cases G with
              |v=>rfl
          split at h
          · rename_i i0 m el A
            cases hb:VP i0 eu.size with
            |false=>simp only[hb,cond_false]at h;cases h
            | true=>
              simp only[hb,cond_true]at h;have hs:=VN hb;subst hs;have I:=aN B x;rw[A]at I;obtain⟨y,hy,Y⟩:=pr (P:=P) (k:=k) hu (D _ _ d0) I (.inl ⟨m,el,rfl⟩) h hC;exact⟨y,by simp only[execOp,ho,k0];exact aW hy,Y⟩
          · rename_i j p0 len i0 A
            cases hb:VP i0 eu.size with
            |false=>simp only[hb,cond_false]at h;cases h
            | true=>
              simp only[hb,cond_true]at h;have hs:=VN hb;subst hs;have I:=aN B x;rw[A]at I;obtain⟨y,hy,Y⟩:=pr (P:=P) (k:=k) hu (D _ _ d0) I (.inr ⟨j,p0,len,rfl⟩) h hC;exact⟨y,by simp only[execOp,ho,k0];exact aW hy,Y⟩
          · cases h
        · cases h
      · cases h
    · rename_i len u sz j0 z _ J
      have hu:P.underlying t=co (.array len u):=(D t _ J).2.1;split at h
      · rename_i eu d0
        split at h
        · rename_i k n hn
          have G:=aN B i;rw[hn]at G;have k0:a.eval i= .int k n:=by
            generalize a.eval i=v at G;cases G with
            | iv _ _ G=>cases G with
              |v=>rfl
          split at h
          · rename_i j p0 A
            simp only[Vq,VC]at h;obtain⟨rfl,rfl⟩:=h;have I:=aN B x;rw[A]at I;generalize Y:a.eval x=v at I;cases I with
            | ptr _ _ hU=>
              refine⟨.pointer (co ⟨N.az j,p0+n.toNat*eu.size,io⟩),?_,.ptr _ _ hU⟩;simp only[execOp,ho,k0,Y];refine aW ?_;simp only[Instr.indexAt,asIntOf];simp[run_underlying hu,hC.1,hC.2,aQ (D _ _ d0),cY,Instr.sureAddr]
          · cases h
        · cases h
      · cases h
    · cases h
  | slice t x lo G mx=>
    rw[ho]at h;have e0: ∀(o:Operand) (k:IntKind) (n:Int),ev s.f o= .iv (.v (.int k n))->a.eval o= .int k n:=fun o k n J=>by
      have G:=aN B o;rw[J]at G;generalize a.eval o=v at G;cases G with
      | iv _ _ G=>cases G with
        |v=>rfl
    cases lo with
    | none=>
      cases G with
      |none=>simp only[iN]at h;cases h
      |some G=>
      cases mx with
      |none=>simp only[iN]at h;cases h
      |some mx=>
      simp only[iN]at h;split at h
      · rename_i u sz j0 z _ J
        have hu:P.underlying t=co (.slice u):=(D t _ J).2.1.1;split at h
        · rename_i eu d0
          split at h
          · rename_i kb nb b1
            split at h
            · rename_i kc nc i2
              split at h
              · rename_i i0 m el A
                cases hb:VP i0 eu.size with
                |false=>simp only[hb,cond_false]at h;cases h
                | true=>
                  simp only[hb,cond_true]at h;have hs:=VN hb;subst hs;have I:=aN B x;rw[A]at I;have x0:=e0 G _ _ b1;have d2:=e0 mx _ _ i2;obtain⟨y,hy,Y⟩:=B8 (P:=P) (w:=w) (M:=M) (N:=N) (U:=(· <s.nx)) (kb:=kb) (kc:=kc) (nb:=nb) (nc:=nc) hu (D _ _ d0) I h hC;exact⟨y,by simp only[execOp,ho,x0,d2,Ww,Xu];exact aW hy,Y⟩
              · cases h
            · cases h
          · cases h
        · cases h
      · cases h
    |some lo=>
    cases G with
    | none=>
      cases mx with
      |some mx=>simp only[iN]at h;cases h
      |none=>
      simp only[iN]at h;split at h
      · rename_i u sz j0 z _ J
        have hu:P.underlying t=co (.slice u):=(D t _ J).2.1.1;split at h
        · rename_i eu d0
          split at h
          · rename_i ka na a1
            split at h
            · rename_i i0 m el A
              cases hb:VP i0 eu.size with
              |false=>simp only[hb,cond_false]at h;cases h
              | true=>
                simp only[hb,cond_true]at h;have hs:=VN hb;subst hs;have I:=aN B x;rw[A]at I;have w0:=e0 lo _ _ a1;obtain⟨y,hy,Y⟩:=EZ (P:=P) (w:=w) (M:=M) (N:=N) (U:=(· <s.nx)) (ka:=ka) (na:=na) hu (D _ _ d0) I h hC;exact⟨y,by simp only[execOp,ho,w0,Ww,Xu];exact aW hy,Y⟩
            · cases h
          · cases h
        · cases h
      · cases h
    |some G=>
    cases mx with
    |some mx=>simp only[iN]at h;cases h
    |none=>
    simp only[iN]at h;split at h
    · rename_i u sz j0 z _ J
      have hu:P.underlying t=co (.slice u):=(D t _ J).2.1.1;split at h
      · rename_i eu d0
        split at h
        · rename_i ka na a1
          split at h
          · rename_i kb nb b1
            split at h
            · rename_i i0 m el A
              cases hb:VP i0 eu.size with
              |false=>simp only[hb,cond_false]at h;cases h
              | true=>
                simp only[hb,cond_true]at h;have hs:=VN hb;subst hs;have I:=aN B x;rw[A]at I;have w0:=e0 lo _ _ a1;have x0:=e0 G _ _ b1;obtain⟨y,hy,Y⟩:=E0 (P:=P) (w:=w) (M:=M) (N:=N) (U:=(· <s.nx)) (ka:=ka) (kb:=kb) (na:=na) (nb:=nb) hu (D _ _ d0) I h hC;exact⟨y,by simp only[execOp,ho,w0,x0,Ww,Xu];exact aW hy,Y⟩
            · cases h
          · cases h
        · cases h
      · cases h
    · rename_i sz j0 z _ J
      have hu:P.underlying t=co .string:=(D t _ J).2.1.1;split at h
      · rename_i ka na a1
        split at h
        · rename_i kb nb b1
          split at h
          · rename_i b A
            simp only[Vq,VC]at h;obtain⟨rfl,rfl⟩:=h;have I:=aN B x;rw[A]at I;have q1:a.eval x= .string b:=by
              generalize a.eval x=v at I;cases I with
              | iv _ _ G=>cases G with
                |v=>rfl
            have w0:=e0 lo _ _ a1;have x0:=e0 G _ _ b1;refine⟨.string (b.extract na.toNat nb.toNat),?_,.iv _ _ (.v _)⟩;simp only[execOp,ho,w0,x0,q1,Ww,Xu];exact aW (zV hu hC)
          · cases h
        · cases h
      · cases h
    · cases h
  | convert t t' x=>
    rw[ho]at h;simp only[iN]at h;split at h
    · rename_i q0 q2 n2 z0 _ b2
      have l2:P.underlying t=co (.int q0):=(D t _ b2).2.1.1;split at h
      · rename_i k sz j0 z _ J
        have hu:P.underlying t'=co (.int k):=(D t' _ J).2.1.1;split at h
        · rename_i q n hn
          simp only[Vq,VC]at h;obtain⟨rfl,rfl⟩:=h;have G:=aN B x;rw[hn]at G;have k0:a.eval x= .int q n:=by
            generalize a.eval x=v at G;cases G with
            | iv _ _ G=>cases G with
              |v=>rfl
          refine⟨_,?_,.iv _ _ (.v _)⟩;simp only[execOp,ho,k0];refine aW ?_;simp[convert,run_underlying l2,run_underlying hu,Conv.intToInt]
        · cases h
      · cases h
    · cases h
  | index t x i=>
    rw[ho]at h;simp only[iN]at h;split at h
    · rename_i sz j0 z _ J
      have hu:P.underlying t=co .string:=(D t _ J).2.1.1;split at h
      · rename_i k n hn
        split at h
        · rename_i b A
          simp only[Vq,VC]at h;obtain⟨rfl,rfl⟩:=h;have G:=aN B i;rw[hn]at G;have k0:a.eval i= .int k n:=by
            generalize a.eval i=v at G;cases G with
            | iv _ _ G=>cases G with
              |v=>rfl
          have I:=aN B x;rw[A]at I;have q1:a.eval x= .string b:=by
            generalize a.eval x=v at I;cases I with
            | iv _ _ G=>cases G with
              |v=>rfl
          refine⟨_,?_,.iv _ _ (.v _)⟩;simp only[execOp,ho,k0,q1];refine aW ?_;have k1:n.toNat<b.size:=by omega
          have hg:b[n.toNat]? =co (b.data.toList.getD n.toNat 0):=by
            rw[getElem?_pos b n.toNat k1];have h0:n.toNat<b.data.size:=k1;have h1:b.data.toList.getD n.toNat 0=b.data[n.toNat]:=by
              rw[Vr,VY,V6 h0];rfl
            rw[h1];rfl
          simp only[Instr.index,asIntOf];simp[run_underlying hu,hC.1,hg]
        · cases h
      · cases h
    · cases h
  | build t parts=>
    rw[ho]at h;simp only[iN]at h;split at h
    · rename_i e J
      split at h
      · rename_i fs hk
        split at h
        · rename_i pl k2
          split at h
          · rename_i cs m0
            rw[force_eq]at h;simp only[Vq,VC]at h;obtain⟨rfl,rfl⟩:=h;have g0:=D t e J;have n0:=g0.2.1;rw[hk]at n0;obtain⟨F,h1,h2⟩:=n0;have hz:=dp (w:=w) g0
            obtain⟨t1,h3,h4⟩:=ru (M:=M) (N:=N) (U:=(· <s.nx)) (zt:=(parts.map fun x=>(x.1,a.eval x.2)).toList) m0 (by simp) (fun j x y A hy=>by
              rw[Vv,Vw]at A;obtain⟨z,hz,rfl⟩:=A;have r1:parts[j]? =co z:=by simpa using hz
              have:co (z.1,a.eval z.2)=co y:=by rw[<-hy];simp[r1]
              simp only[Vq]at this;subst this
              exact⟨rfl,aN B z.2⟩) (fo e.zero)
            refine⟨.agg t1,?_,.agg _ _ h4.1 h4.2⟩;simp only[execOp,ho];refine aW ?_;have n1: ∀(fl:List Field) (pl:List (Nat×Nat)),qO ty (fl.map fun f=>(f.offset,f.type))=co pl->(fl.mapM (fun f=>do pure (f.offset,<-sizeOf f.type):Field->Sem (Nat×Nat))).run P w= .ok pl w:=by
              intro fl
              induction fl with
              |nil=>intro pl hp;simp only[VQ,qO,Vq]at hp;subst hp;rfl
              | cons f fl ih=>
                intro pl hp;simp only[Vy,qO]at hp;split at hp
                · rename_i e' a2
                  split at hp
                  · rename_i l hl
                    simp only[Vq]at hp;subst hp;rw[List.mapM_cons,Sem.run_bind,Sem.run_bind,aQ (D _ _ a2),Result.andThen_ok,Sem.run_pure,Result.andThen_ok,Sem.run_bind,ih l hl];rfl
                  · cases hp
                · cases hp
            have hm:=n1 F.toList pl (by rw[h2];exact k2);have f2:(F.mapM (fun f=>do pure (f.offset,<-sizeOf f.type):Field->Sem (Nat×Nat))).run P w= .ok pl.toArray w:=by
              rw[Ys,Sem.run_map,hm];rfl
            have o0:(fun(i:Nat)=>pl.toArray[i]?)=(fun(i:Nat)=>pl[i]?):=by funext i;simp
            simp only[Instr.build,Sem.run_bind,hz,Result.andThen_ok,run_underlying h1,f2];rw[o0,h3];rfl
          · cases h
        · cases h
      · rename_i n u hk
        split at h
        · rename_i eu d0
          split at h
          · rename_i cs m0
            rw[force_eq]at h;simp only[Vq,VC]at h;obtain⟨rfl,rfl⟩:=h;have g0:=D t e J;have n0:=g0.2.1;rw[hk]at n0;have hz:=dp (w:=w) g0
            obtain⟨t1,h3,h4⟩:=ru (M:=M) (N:=N) (U:=(· <s.nx)) (zt:=(parts.map fun x=>(x.1,a.eval x.2)).toList) m0 (by simp) (fun j x y A hy=>by
              rw[Vv,Vw]at A;obtain⟨z,hz,rfl⟩:=A;have r1:parts[j]? =co z:=by simpa using hz
              have:co (z.1,a.eval z.2)=co y:=by rw[<-hy];simp[r1]
              simp only[Vq]at this;subst this
              exact⟨rfl,aN B z.2⟩) (fo e.zero)
            refine⟨.agg t1,?_,.agg _ _ h4.1 h4.2⟩;simp only[execOp,ho];refine aW ?_;simp only[Instr.build,Sem.run_bind,hz,Result.andThen_ok,run_underlying n0,aQ (D _ _ d0)];rw[h3];rfl
          · cases h
        · cases h
      · cases h
    · cases h
  | extract x k=>
    rw[ho]at h;simp only[iN]at h;split at h
    · rename_i cs m0
      split at h
      · rename_i q hq
        simp only[Vq,VC]at h;obtain⟨rfl,rfl⟩:=h;have A:=aN B x;rw[m0]at A;generalize Y:a.eval x=v at A;cases A with
        | aZ _ ys hl hr=>
          have k1:k<ys.size:=by rw[<-hl];exact(Vs.1 hq).1
          refine⟨ys.getD k undef,?_,hr _ _ hq⟩;simp only[execOp,ho,Y];refine aW ?_;simp[Instr.extract,Vn,k1]
      · cases h
    · cases h
  | makeFunc fn first caps=>
    rw[ho]at h;simp only[iN,force_eq,Vq,VC]at h;obtain⟨rfl,rfl⟩:=h;have h1:=HY B first;have h2:=HY B caps;exact⟨_,by simp only[execOp,ho];exact aW Z,.cm _ _ _ _ _ h1.1 h2.1 h1.2 h2.2⟩
  | call c=>
    obtain⟨callee,args,a0⟩:=c;rw[ho]at h;cases callee with
    | builtin b=>
      cases b with
      | len=>
        simp only[iN]at h;split at h
        · rename_i x t w1 p2
          have b0:args= #[x]:=by cases args;simp_all
          have p1:a0= #[t]:=by cases a0;simp_all
          subst b0 p1;have A:=aN B x;have r0: ∀v,(Builtin.len_ #[t] o.type #[a.eval x]).run P w= .ok v w->(execOp a.eval o).run P w= .ok (.value v) w:=by
            intro v Y;simp only[execOp,ho,resolve];simp[invoke,builtin,Y]
          split at h
          · rename_i u sz j0 z _ J
            have hu:P.underlying t=co (.slice u):=(D t _ J).2.1.1;split at h
            · rename_i i0 n el c0
              rw[c0]at A;simp only[wx,Vq,VC]at h;obtain⟨rfl,rfl⟩:=h;refine⟨.int .i64 n,r0 _ ?_,.iv _ _ (.v _)⟩;generalize a.eval x=v at A;cases A with
              |iv _ _ G=>cases G<;>simp[Builtin.len_,run_underlying hu,goInt]
            · rename_i i p0 len i0 c0
              rw[c0]at A;simp only[wx,Vq,VC]at h;obtain⟨rfl,rfl⟩:=h;refine⟨.int .i64 len,r0 _ ?_,.iv _ _ (.v _)⟩;generalize a.eval x=v at A;cases A<;>(simp[Builtin.len_,run_underlying hu,goInt];done)
            · rename_i c0
              rw[c0]at A;simp only[wx,Vq,VC]at h;obtain⟨rfl,rfl⟩:=h;refine⟨.int .i64 0,r0 _ ?_,.iv _ _ (.v _)⟩;generalize a.eval x=v at A;cases A with
              |iv _ _ G=>cases G;simp[Builtin.len_,run_underlying hu,goInt]
            · cases h
          · rename_i sz j0 z _ J
            have hu:P.underlying t=co .string:=(D t _ J).2.1.1;split at h
            · rename_i b c0
              rw[c0]at A;simp only[wx,Vq,VC]at h;obtain⟨rfl,rfl⟩:=h;refine⟨.int .i64 b.size,r0 _ ?_,.iv _ _ (.v _)⟩;generalize a.eval x=v at A;cases A with
              |iv _ _ G=>cases G;simp[Builtin.len_,run_underlying hu,goInt]
            · cases h
          · rename_i kt et sz j0 z _ J
            have hu:P.underlying t=co (.map kt et):=(D t _ J).2.1.1;have t0: ∀{r:Nat} {ents:Array MapEntry} {clock n:Nat},w.heap[r]? =co (.map ents clock)->ents.size=n->(Builtin.len_ #[t] o.type #[.map (co r)]).run P w= .ok (.int .i64 n) w:=by
              intro r ents clock n h1 h2;simp[Builtin.len_,run_underlying hu,goInt,getObj,Sem.run,h1,h2,Result.andThen]
            split at h
            · rename_i V i1 j1 z' v1 m' c0
              rw[c0]at A;simp only[Vq,VC]at h;obtain⟨rfl,rfl⟩:=h;refine⟨.int .i64 m'.length,r0 _ ?_,.iv _ _ (.v _)⟩;generalize a.eval x=v at A;cases A with
              | iv _ _ G=>cases G with
                |eG _ _ _ _ _ b ents clock hb hs=>exact t0 (f0.dA _ _ hb) hs
            · rename_i j c0
              rw[c0]at A;split at h
              · rename_i V i1 j1 z' v1 x1 m' hg
                simp only[Vq,VC]at h;obtain⟨rfl,rfl⟩:=h;refine⟨.int .i64 m'.length,r0 _ ?_,.iv _ _ (.v _)⟩;obtain⟨ents,clock,h1,h2,h3⟩:=f0.obj _ _ hg;generalize a.eval x=v at A;cases A with
                |mp=>exact t0 h1 h2.size
              · cases h
            · cases h
          · cases h
        · cases h
      | max=>
        simp only[iN]at h;split at h
        · rename_i x y w1
          have b0:args= #[x,y]:=by cases args;simp_all
          subst b0;split at h
          · rename_i k n j m hn hm
            simp only[Vq,VC]at h;obtain⟨rfl,rfl⟩:=h;have h1:=aN B x;have h2:=aN B y;rw[hn]at h1;rw[hm]at h2;have e1:a.eval x= .int k n:=by
              generalize a.eval x=v at h1;cases h1 with
              | iv _ _ G=>cases G with
                |v=>rfl
            have e2:a.eval y= .int j m:=by
              generalize a.eval y=v at h2;cases h2 with
              | iv _ _ G=>cases G with
                |v=>rfl
            have e3:(if m>n then m else n)=max n m:=by split<;>omega
            refine⟨.int k (max n m),?_,.iv _ _ (.v _)⟩;simp only[execOp,ho,resolve];simp[invoke,builtin,Builtin.max_,Builtin.max2,e1,e2,<-e3]
          · cases h
        · cases h
      | min=>
        simp only[iN]at h;split at h
        · rename_i x y w1
          have b0:args= #[x,y]:=by cases args;simp_all
          subst b0;split at h
          · rename_i k n j m hn hm
            simp only[Vq,VC]at h;obtain⟨rfl,rfl⟩:=h;have h1:=aN B x;have h2:=aN B y;rw[hn]at h1;rw[hm]at h2;have e1:a.eval x= .int k n:=by
              generalize a.eval x=v at h1;cases h1 with
              | iv _ _ G=>cases G with
                |v=>rfl
            have e2:a.eval y= .int j m:=by
              generalize a.eval y=v at h2;cases h2 with
              | iv _ _ G=>cases G with
                |v=>rfl
            have e3:(if m<n then m else n)=min n m:=by split<;>omega
            refine⟨.int k (min n m),?_,.iv _ _ (.v _)⟩;simp only[execOp,ho,resolve];simp[invoke,builtin,Builtin.min_,Builtin.min2,e1,e2,<-e3]
          · cases h
        · cases h
      |_=>simp[iN]at h
    |_=>simp[iN]at h
  | lookup t x i ok=>
    rw[ho]at h;simp only[iN]at h;have A:=aN B x;have G:=aN B i;split at h
    · rename_i V i1 j1 z' v1 m' c0
      rw[c0]at A;generalize Y:a.eval x=v at A;cases A with
      | iv _ _ hxi=>cases hxi with
        | eG _ _ _ _ _ b ents clock hb hs n0 hv' hz k0 hc=>
          obtain⟨_,y,h1,h2⟩:=Ba (P:=P) D h (f0.dA _ _ hb) ⟨hs,n0,hv',k0,hc⟩ hz G;exact⟨y,by simp only[execOp,ho,Y];exact aW h1,h2⟩
    · rename_i j c0
      rw[c0]at A;split at h
      · rename_i V i1 j1 z' v1 x1 m' hg
        obtain⟨ents,clock,h1,h2,h3⟩:=f0.obj _ _ hg;generalize Y:a.eval x=v at A;cases A with
        | mp=>
          obtain⟨_,y,g1,g2⟩:=Ba (P:=P) D h h1 h2 h3 G;exact⟨y,by simp only[execOp,ho,Y];exact aW g1,g2⟩
      · cases h
    · cases h
  | entry it=>
    rw[ho]at h;simp only[iN]at h;have A:=aN B it;split at h
    · rename_i i c0
      rw[c0]at A;split at h
      · rename_i V i1 j1 m' vs x' hg
        simp only[Vq,VC]at h;obtain⟨rfl,rfl⟩:=h;obtain⟨b,ents,clock,s1,h1,h2,h3,h4,h5,h6,h7⟩:=(f0.obj _ _ hg).resolve_left fun hh=>nomatch hh.2.2.1;obtain⟨j,r,rfl,h8⟩:=h7 x' Z;generalize Y:a.eval it=v at A
        cases A with
        | ptr=>
          have hj:j<ents.size:=by rw[h3.size];exact(Vs.1 h8).1
          have c2:ents.getD j ci=ents[j]:=by simp[Vn,hj]
          have d1:s1=(r.reverse.map fun j=>(ents.getD j ci).born).toArray.push (ents[j]).born:=by
            apply Yy.1;rw[h4];simp[hj]
          rw[d1]at h1;have j2:(ents.toList.map (·.born)).Nodup:=by
            rw[List.nodup_iff_pairwise_ne,WI];intro p q hp hq o2 J;simp at hp hq J;have:=h3.inj p q ents[p] ents[q] (by simp[hp]) (by simp[hq]) J;omega
          have o1:=run_entry_at (P:=P) w (N.az i) b clock _ ents clock ents[j] h1 (f0.dA _ _ h2) (by simp) j2;refine⟨_,by simp only[execOp,ho,Y];exact aW o1,.aZ _ _ Z fun q p hp=>?_⟩;have v0:=h3.key j _ h8;have f1:=h3.val j _ h8;rw[c2]at v0 f1
          match q with
          |0=>simp at hp;subst hp;simp only[Vn];simp;rw[v0];exact xj i1 _
          |1=>simp at hp;subst hp;exact xe f1
          |q+2=>simp at hp
      · cases h
    · cases h
  |_=>rw[ho]at h;simp[iN]at h
end
abbrev AQ:=Exit->AS->Prop
def ny(nt:NT)(M:Mem)(N:Nm)(s:AS)(w:World)(Q:AQ):Exit->Act->World->Prop:=fun e y x=>
 ∃j u s',Ext M N (· <s.nx) s.h w j u (· <s'.nx) s'.h x∧Fits j u s' nt y x∧Q e s'
theorem ny.later{nt:NT}{M j:Mem}{N u:Nm}{s s':AS}{w y:World}{Q:AQ}{e:Exit}{a:Act}{A:World}
  (x:Ext M N (· <s.nx) s.h w j u (· <s'.nx) s'.h y) (h:ny nt j u s' y Q e a A):ny nt M N s w Q e a A:=by
 obtain⟨B,C,I,h1,D,G⟩:=h;exact⟨B,C,I,x.trans h1,D,G⟩
theorem ny.now{nt:NT}{M:Mem}{N:Nm}{s:AS}{w:World}{Q:AQ}{e:Exit}{a:Act}(hf:Fits M N s nt a w)(h:Q e s):ny nt M N s w Q e a w:=
 ⟨M,N,s,.refl _ _ _ _ _,hf,h⟩
def AW(P:Program)(nt:NT)(c:Code)(Q:AQ)(s:AS):Prop:= ∀M N a w,Fits M N s nt a w->c.wp P (ny nt M N s w Q) a w
def AL(P:Program)(nt:NT)(all rest:List Oper)(Q:AQ)(s:AS):Prop:= ∀M N a w,Fits M N s nt a w->wpList P all.toArray (ny nt M N s w Q) rest a w
def SL(P:Program)(nt:NT)(all rest:List Oper)(Q:AQ)(s:AS):Prop:= ∀M N a w,Fits M N s nt a w->
 wpStill P all.toArray w (fun j=> ∃s',s'.h=s.h∧s'.nx=s.nx∧Fits M N s' nt j w∧Q .normal s') rest a
def waits(o:Oper)(i:Nat):Bool:=o.after.toList.any fun e=>Region.binds .any e&&VP e.on i
def looks(all:List Oper)(o x:Oper):Bool:=match x.dst with
 |some d=>(o.looksAt all.toArray).contains d
 |none=>jp
def iF:Nat->List Oper->Bool
 |_,[]=>is
 |n,o::r=>(o.after.toList.all fun e=>!Region.binds .any e||VV e.on n)&&iF (n+1) r
structure Bs where
 M:Mem
 N:Nm
 n:Nat
 h:AH
 w:World
def Bs.ext(B:Bs)(M:Mem)(N:Nm)(s:AS)(w:World):Prop:=Ext B.M B.N (· <B.n) B.h B.w M N (· <s.nx) s.h w
def O9(nt:NT)(B:Bs)(Q:AQ):Exit->Act->World->Prop:=fun e y x=> ∃j u s',B.ext j u s' x∧Fits j u s' nt y x∧Q e s'
def aS(o:Oper):Bool:=match o.op with
 | .alloc _=>is
 |_=>jp
def pE(P:Program)(M:Mem)(N:Nm)(s:AS)(B:Bs)(a:Act)(w:World)(o:Oper)(az:Nat):Prop:=
 ∃t v d,o.op= .alloc t∧(∀w,(zeroValue t).run P w= .ok v w)∧o.dst=co d∧a.tmps[d]? =co (.pointer (co ⟨az,0,io⟩))∧w.heap[az]? =co (.cells v.cells t (0,0))∧M az=io∧
  (∀i o,s.h.get i=co o->o.real=is->N.az i≠az)∧B.w.heap.size<=az
structure ni (P:Program) (nt:NT) (all:List Oper) (todo pend:List (Nat×Oper)) (B:Bs) (M:Mem) (N:Nm) (s:AS) (listed:Array Bool) (a:Act) (w:World):Prop where
 size:listed.size=all.length
 tl: ∀x∈todo,all[x.1]? =co x.2
 pl: ∀x∈pend,all[x.1]? =co x.2
 dj: ∀x∈pend,∀y∈todo,y.1≠x.1
 MN: ∀i o,all[i]? =co o->listed.getD i is=jp->(i,o)∈todo∨(i,o)∈pend
 pw:pend.Pairwise fun x y=>looks all y.2 x.2=jp∧ ∀d,x.2.dst=co d->y.2.dst≠co d
 pp: ∀x∈pend,∀y∈pend,waits y.2 x.1=is∨looks all y.2 x.2=jp
 pa: ∀y∈pend,∀x∈todo,aS x.2=is->waits y.2 x.1=jp
 er: ∃bl:Nat->Nat,(∀x∈todo,listed.getD x.1 is=is->pE P M N s B a w x.2 (bl x.1))∧ ∀x∈todo,∀y∈todo,listed.getD x.1 is=is->listed.getD y.1 is=is->x.1≠y.1->bl x.1≠bl y.1
 ap: ∃b:Act,Fits M N s nt b w∧a.tmps.size=b.tmps.size∧a.defers=b.defers∧
  (∀d,(∀x∈pend,listed.getD x.1 is=jp->x.2.dst≠co d)->(∀x∈todo,listed.getD x.1 is=is->x.2.dst≠co d)->a.tmps[d]? =b.tmps[d]?)∧
  (∀x∈pend,listed.getD x.1 is=jp-> ∃v,YieldsAt P all.toArray w x.2 v b∧b.put x.2.dst v=b)
def jw(P:Program)(nt:NT)(all:List Oper):Prop:= ∀i o,all[i]? =co o->aS o=is->
 o.guard=io∧(∃d,o.dst=co d∧d<nt)∧(∃t v,o.op= .alloc t∧ ∀w,(zeroValue t).run P w= .ok v w)∧(∀k,waits o k=jp)∧
 ∀k q,all[k]? =co q->k≠i->(waits q i=is∨looks all q o=jp)∧ ∀d,o.dst=co d->q.dst≠co d
def DL(P:Program)(nt:NT)(all:List Oper)(todo pend:List (Nat×Oper))(Q:AQ)(s:AS):Prop:=
 Region.noSelect all.toArray=is->iF 0 all=is->jw P nt all-> ∀B M N listed a w j,B.ext M N s w->ni P nt all todo pend B M N s listed a w->listed.toList.count jp<=j->wpAny P .any all.toArray (O9 nt B Q) j listed a w
def putDst(nt:NT)(o:Oper)(p:PV)(s:AS):Option AS:=
 match o.dst with
 |none=>co s
 |some d=>bif VV d nt then(match s with|⟨f,h,n⟩=>vq p fun j=>co ⟨(d,j)::f,h,n⟩) else io
theorem dF{nt:NT}{o:Oper}{p:PV}{s s':AS}(h:putDst nt o p s=co s')(hd:o.dst=io):s'=s:=by
 simp only[putDst,hd,Vq]at h;exact h.symm
theorem dE{nt:NT}{o:Oper}{p:PV}{s s':AS}(h:putDst nt o p s=co s'){d:Nat}(hd:o.dst=co d):d<nt∧s'={s with f:=(d,p)::s.f}:=by
 simp only[putDst,hd]at h;cases hb:VV d nt with
 |false=>simp[hb]at h
 |true=>
  obtain⟨f,hh,n⟩:=s;simp only[hb,cond_true,dB,Vq]at h;exact⟨Vm hb,h.symm⟩
def eQ(P:Program)(nt:NT)(all:List Oper)(s:AS)(o:Oper):Prop:=
 ∀M N b w,Fits M N s nt b w-> ∃v,YieldsAt P all.toArray w o v b∧Fits M N s nt (b.put o.dst v) w
def aX(pend:List (Nat×Oper))(o:Oper):List (Nat×Oper):=pend.filter fun x=>!waits o x.1
def UA(P:Program)(nt:NT)(b:Code)(Q:AQ):Nat->AS->Prop
 |0,_=>False
 |n+1,s=>AW P nt b (fun e s'=>match e with| .normal=>UA P nt b Q n s'|e=>Q e s') s
inductive KI where
 |code (c:Code)
 |az (id:Nat)
 |ops (all rest:List Oper)
 |lp (R:AS->Prop)
 |tw (all rest:List Oper)
 |bR (all:List Oper) (todo pend:List (Nat×Oper))
 |ER (b:Code) (n:Nat)
 |Gh
 |MC (nt:NT) (f:AF) (res:AS->Option PV) (o:Oper) (all rest:List Oper)
 |MD (nt:NT) (f:AF) (res:AS->Option PV) (j:Nat) (o:Oper) (all:List Oper) (todo pend:List (Nat×Oper))
def kp(P:Program):NT->List KI->AQ->AQ
 |_,[],Q=>Q
 |nt,.code c::k,Q=>fun e s=>match e with| .normal=>AW P nt c (kp P nt k Q) s|e=>kp P nt k Q e s
 |nt,.ops all rest::k,Q=>fun e s=>match e with| .normal=>AL P nt all rest (kp P nt k Q) s|e=>kp P nt k Q e s
 |nt,.tw all rest::k,Q=>fun e s=>match e with| .normal=>SL P nt all rest (kp P nt k Q) s|e=>kp P nt k Q e s
 |nt,.bR all todo pend::k,Q=>fun e s=>match e with| .normal=>DL P nt all todo pend (kp P nt k Q) s|e=>kp P nt k Q e s
 |nt,.lp R::k,Q=>fun e s=>match e with| .normal=>R s|e=>kp P nt k Q e s
 |nt,.az id::k,Q=>fun e s=>match e with| .exit j=>if j=id then kp P nt k Q .normal s else kp P nt k Q (.exit j) s|e=>kp P nt k Q e s
 |nt,.ER b n::k,Q=>fun e s=>match e with| .normal=>UA P nt b (kp P nt k Q) n s|e=>kp P nt k Q e s
 |nt,.Gh::k,Q=>fun e s=>match e with| .goto _=>False|e=>kp P nt k Q e s
 |_,.MC nt f res o all rest::k,Q=>fun e s=>(e= .normal∨e= .ret)∧ ∃r s',res s=co r∧putDst nt o r ⟨f,s.h,s.nx⟩=co s'∧AL P nt all rest (kp P nt k Q) s'
 | _,.MD nt f res j o all todo pend::k,Q=>fun e s=>(e= .normal∨e= .ret)∧ ∃r s',res s=co r∧putDst nt o r ⟨f,s.h,s.nx⟩=co s'∧
   (∀x∈aX pend o,eQ P nt all s' x.2)∧DL P nt all (todo.filter fun x=>!VP x.1 j) (aX pend o) (kp P nt k Q) s'
def GO(P:Program)(nt:NT)(k:List KI)(Q:AQ)(s:AS):Prop:=kp P nt k Q .normal s
section
variable {P:Program} {nt:NT} {Q:AQ} {k:List KI} {s:AS}
theorem AW.then{c:Code}{R:AQ}(h:AW P nt c R s){M:Mem}{N:Nm}{a:Act}{w:World}(hf:Fits M N s nt a w){Z:Exit->Act->World->Prop}
  (A: ∀e y j u x s',Ext M N (· <s.nx) s.h w u x (· <s'.nx) s'.h j->Fits u x s' nt y j->R e s'->Z e y j):c.wp P Z a w:=
 wp_mono (h M N a w hf) fun e y j ⟨u,x,s',h1,h2,h3⟩=>A e y j u x s' h1 h2 h3
theorem go_skip(h:GO P nt k Q s):GO P nt (.code .skip::k) Q s:=fun _ _ _ _ hf=>wp_skip (.now hf h)
theorem Ip{l:Nat}(h:GO P nt k Q s):GO P nt (.code (.label l)::k) Q s:=fun _ _ _ _ hf=>wp_label (.now hf h)
theorem go_ret(h:kp P nt k Q .ret s):GO P nt (.code .ret::k) Q s:=fun _ _ _ _ hf=>wp_ret (.now hf h)
theorem Mt{id:Nat}(h:kp P nt k Q (.exit id) s):GO P nt (.code (.exit id)::k) Q s:=fun _ _ _ _ hf=>wp_exit (.now hf h)
theorem Il{c:Code}(h:GO P nt (.code c:: .Gh::k) Q s):GO P nt (.code (.scope c)::k) Q s:=by
 intro M N a w hf;refine wp_scope_straight (AW.then h hf fun e B C x y s' A j u=>?_);cases e with
 |goto l=>exact u
 |_=>exact⟨x,y,s',A,j,u⟩
theorem Q5{id:Nat}(h:GO P nt k Q s):GO P nt (.az id::k) Q s:=h
theorem QZ{x y:Code}(h:GO P nt (.code x:: .code y::k) Q s):GO P nt (.code (.seq x y)::k) Q s:=by
 intro M N a w hf;refine wp_seq (AW.then h hf fun e a' w' G J s' D j C=>?_);cases e with
 |normal=>exact AW.then C j fun e a2 w2 I Y s2 B u A=>⟨I,Y,s2,D.trans B,u,A⟩
 |_=>exact⟨G,J,s',D,j,C⟩
theorem Iv{id:Nat}{x:Code}(h:GO P nt (.code x:: .az id::k) Q s):GO P nt (.code (.block id x)::k) Q s:=by
 intro M N a w hf;refine wp_block (AW.then h hf fun e G I A B s' D u y=>?_);cases e with
 |exit j=>
  simp only[kp]at y;simp only[Exit.inBlock];split
  .rename_i C;rw[am C]at y;exact⟨A,B,s',D,u,y⟩
  .rename_i C;rw[be C]at y;exact⟨A,B,s',D,u,y⟩
 |_=>exact⟨A,B,s',D,u,y⟩
theorem go_region{id:Nat}{ops:Array Oper}(h:GO P nt (.ops ops.toList ops.toList::k) Q s):GO P nt (.code (.region id ops jp)::k) Q s:=by
 intro M N a w hf;refine wp_region_list ?_;have:=h M N a w hf;simpa using this
theorem CY{all:List Oper}(h:GO P nt k Q s):GO P nt (.ops all []::k) Q s:=fun _ _ _ _ hf=>wpList_nil (ny.now hf h)
theorem Fits.bool{M:Mem}{N:Nm}{a:Act}{w:World}(hf:Fits M N s nt a w){c:Operand}{t:Bool}(hc:ev s.f c= .iv (.v (.bool t))):a.eval c= .bool t:=by
 have h:=aN hf.2.1 c;rw[hc]at h;generalize a.eval c=v at h;cases h with
 |iv _ _ h=>cases h with
  |v=>rfl
theorem Fits.put{M:Mem}{N:Nm}{a:Act}{w:World}(hf:Fits M N s nt a w)(d:Nat)(p:PV)(x:Value)(hd:d<nt)(hp:VR M N (· <s.nx) p x):Fits M N {s with f:=(d,p)::s.f} nt (a.put (co d) x) w:=
 ⟨hf.1,hf.2.1.put d p x (by rw[hf.2.2.2];exact hd) hp,hf.2.2.1,by simp[Act.put,hf.2.2.2]⟩
def setBool(s:AS)(c:Operand)(t:Bool):AS:=
 match c with
 | .tmp d=>match s with
  |⟨f,h,n⟩=>⟨(d,.kb t)::f,h,n⟩
 |_=>s
theorem Fits.setBool{M:Mem}{N:Nm}{a:Act}{w:World}(hf:Fits M N s nt a w){c:Operand}{t:Bool}(hc:ev s.f c= .iv (.v (.bool t))):Fits M N (setBool s c t) nt a w:=by
 cases c with
 |tmp d=>
  refine⟨hf.1,fun j=>?_,hf.2.2⟩;simp only[Al.setBool,AF.ax];split
  .rename_i u;subst u;have:=hf.bool (c:= .tmp j) hc;simp only[Act.eval]at this;rw[this];exact .kb _
  .exact hf.2.1 j
 |_=>exact hf
theorem vn{c:Operand}{x y:Code}{t:Bool}(hc:ev s.f c= .kb t)(h:GO P nt (.code (bif t then x else y)::k) Q s):GO P nt (.code (.cond c x y)::k) Q s:=by
 intro M N a w hf;have hb:a.eval c= .bool t:=by
  have:=aN hf.2.1 c;rw[hc]at this;generalize a.eval c=v at this;cases this;rfl
 refine wp_cond hb ?_;cases t
 .exact h M N a w hf
 .exact h M N a w hf
theorem Mw{c:Operand}{x y:Code}{t:Bool}(hc:ev s.f c= .iv (.v (.bool t)))(h1:t=is->GO P nt (.code x::k) Q (setBool s c is))(I:t=jp->GO P nt (.code y::k) Q (setBool s c jp)):
  GO P nt (.code (.cond c x y)::k) Q s:=by
 intro M N a w hf;have B:=hf.setBool hc;refine wp_cond_split (hf.bool hc) (fun ht=>?_) (fun ht=>?_)
 .subst ht;exact AW.then (h1 Z) B fun e a2 J C D G A j u=>⟨C,D,G,by cases c<;>exact A,j,u⟩
 .subst ht;exact AW.then (I Z) B fun e a2 J C D G A j u=>⟨C,D,G,by cases c<;>exact A,j,u⟩
theorem q9{Q j:Exit->Act->World->Prop}(u: ∀e a w,Q e a w->j e a w)(h:LetsOut Q):LetsOut j:=let ⟨a,w,x⟩:=h;⟨a,w,u _ _ _ x⟩
theorem AV{o:Oper}{a:Act}{w:World}{K K':Act->World->Prop}{Q y:Exit->Act->World->Prop}(h: ∀a w,K a w->K' a w)(u: ∀e a w,Q e a w->y e a w)(hh:o.wp P a w K Q):o.wp P a w K' y:=by
 unfold Oper.wp at*
 generalize(execOp a.eval o).run P w=r at*
 cases r with
 |ok n w'=>
  cases n<;>simp only[Oper.upon]at hh ⊢ <;>
   first
    |exact h _ _ hh
    |exact Calls.mono hh (fun e A j=>by cases e<;>first|exact h _ _ j|exact q9 u j|exact u _ _ _ j)
    |exact Rows.mono hh (fun _ _ j=>h _ _ j)
 |halt x w'=>cases x<;>simp only[Oper.upon]at hh ⊢ <;>exact u _ _ _ hh
theorem fC{ops:Array Oper}{Q x:Exit->Act->World->Prop}(j: ∀e a w,Q e a w->x e a w): ∀(l:List Oper) (a:Act) (w:World),wpList P ops Q l a w->wpList P ops x l a w
 | [],_,_,h=>j _ _ _ h
 |o::r,a,w,h=>by
  unfold wpList at*
  split
  .rename_i u;rw[am u]at h;exact h.imp (AV (fC j r) j) (fun⟨h1,h2⟩=>⟨h1,q9 j h2⟩)
  .rename_i u;rw[be u]at h;exact fC j r _ _ h
theorem AL.later{all rest:List Oper}(h:AL P nt all rest Q s){M j:Mem}{N u:Nm}{s0:AS}{a:Act}{w y:World}(x:Ext j u (· <s0.nx) s0.h y M N (· <s.nx) s.h w)(hf:Fits M N s nt a w):
  wpList P all.toArray (ny nt j u s0 y Q) rest a w:=
 fC (fun _ _ _=>ny.later x) rest a w (h M N a w hf)
def OT(P:Program)(nt:NT)(o:Oper)(s:AS)(R:AS->Prop):Prop:=
 ∀M N a w,Fits M N s nt a w-> ∀(K:Act->World->Prop) (Q:Exit->Act->World->Prop),
  (∀u x s' y j,Ext M N (· <s.nx) s.h w u x (· <s'.nx) s'.h j->Fits u x s' nt y j->R s'->K y j)->o.wp P a w K Q
theorem fD{o:Oper}(h:o.guard=io)(y:Nat->Option Bool):Region.wanted o y=is:=by simp[Region.wanted,h]
theorem bz{all rest:List Oper}{o:Oper}{R:AS->Prop}(hg:o.guard=io)(ho:OT P nt o s R)(h: ∀s',R s'->GO P nt (.ops all rest::k) Q s'):GO P nt (.ops all (o::rest)::k) Q s:=by
 intro M N a w hf;unfold wpList;rw[am (fD hg _)];refine .inl (ho M N a w hf _ _ fun y A s' B C x j u=>?_);exact AL.later (h s' u) x j
def guardOf(all:List Oper)(f:AF)(j:Nat):Option (Nat×PV):=
 match all[j]? with
 |some o=>match o.dst with
  |some d=>co (d,f.get d)
  |none=>io
 |none=>io
theorem Fits.yielded{M:Mem}{N:Nm}{a:Act}{w:World}(hf:Fits M N s nt a w){all:List Oper}{j d:Nat}{t:Bool}(hg:guardOf all s.f j=co (d,.iv (.v (.bool t))))(hd:d<nt):Go.yielded all.toArray a.tmps j=co t:=by
 unfold guardOf at hg;cases ho:all[j]? with
 |none=>simp[ho]at hg
 |some o=>
  cases hod:o.dst with
  |none=>simp[ho,hod]at hg
  |some d'=>
   simp only[ho,hod,Vq,VC]at hg;obtain⟨rfl,B⟩:=hg;have h1:=hf.2.1 d';rw[B]at h1;have u:d'<a.tmps.size:=by rw[hf.2.2.2];exact hd
   have x:a.tmps[d']? =co (a.tmps.getD d' undef):=by simp[Vn,u]
   have y:a.tmps.getD d' undef= .bool t:=by
    generalize a.tmps.getD d' undef=v at h1;cases h1 with
    |iv _ _ h=>cases h with
     |v=>rfl
   have A:all.toArray[j]? =co o:=by simpa using ho
   simp[Go.yielded,A,hod,x,y]
def gP(o:Oper)(s:AS):AS:=
 match o.dst with
 |some e=>match s with
  |⟨f,h,n⟩=>⟨(e,.iv (.v (.tuple #[])))::f,h,n⟩
 |none=>s
theorem Fits.skip{M:Mem}{N:Nm}{a:Act}{w:World}(hf:Fits M N s nt a w)(o:Oper):Fits M N (gP o s) nt (a.put o.dst undef) w:=by
 unfold gP;cases o.dst with
 |none=>exact hf
 |some e=>
  refine⟨hf.1,fun i=>?_,hf.2.2.1,by simp[Act.put,hf.2.2.2]⟩;simp only[AF.ax];by_cases j:i=e
  .rw[am j];subst j;have:(a.put (co i) undef).tmps.getD i undef=undef:=by
    simp only[Act.put,Vn,V1,if_true];split<;>rfl
   rw[this];exact .iv _ _ (.v _)
  .rw[be j];have:=hf.2.1 i;simp only[Act.put,Vn,V1]at this ⊢;rw[be (fun e=>j e.symm)];exact this
theorem jd(o:Oper)(s:AS):(gP o s).h=s.h∧(gP o s).nx=s.nx:=by unfold gP;cases o.dst<;>exact⟨rfl,rfl⟩
theorem jL(c:Operand)(t:Bool)(s:AS):(setBool s c t).h=s.h∧(setBool s c t).nx=s.nx:=by cases c<;>exact⟨rfl,rfl⟩
theorem AL.same{all rest:List Oper}{s':AS}(h:AL P nt all rest Q s')(e:s'.h=s.h∧s'.nx=s.nx){M:Mem}{N:Nm}{a:Act}{w:World}(hf:Fits M N s' nt a w):
  wpList P all.toArray (ny nt M N s w Q) rest a w:=by
 have:=h M N a w hf;refine fC (fun u j x ⟨M2,N2,s2,h1,h2,h3⟩=>⟨M2,N2,s2,?_,h2,h3⟩) rest a w this;rw[e.1,e.2]at h1;exact h1
theorem Fits.uj{M:Mem}{N:Nm}{a:Act}{w:World}(hf:Fits M N s nt a w){all:List Oper}{j d:Nat}{t:Bool}(hg:guardOf all s.f j=co (d,.kb t))(hd:d<nt):Go.yielded all.toArray a.tmps j=co t:=by
 unfold guardOf at hg;cases ho:all[j]? with
 |none=>simp[ho]at hg
 |some o=>
  cases hod:o.dst with
  |none=>simp[ho,hod]at hg
  |some d'=>
   simp only[ho,hod,Vq,VC]at hg;obtain⟨rfl,B⟩:=hg;have h1:=hf.2.1 d';rw[B]at h1;have u:d'<a.tmps.size:=by rw[hf.2.2.2];exact hd
   have x:a.tmps[d']? =co (a.tmps.getD d' undef):=by simp[Vn,u]
   have y:a.tmps.getD d' undef= .bool t:=by
    generalize a.tmps.getD d' undef=v at h1;cases h1;rfl
   have A:all.toArray[j]? =co o:=by simpa using ho
   simp[Go.yielded,A,hod,x,y]
theorem Fits.ui{M:Mem}{N:Nm}{a:Act}{w:World}(hf:Fits M N s nt a w){all:List Oper}{j d:Nat}{vs:Array Value}(hg:guardOf all s.f j=co (d,.iv (.v (.tuple vs)))):Go.yielded all.toArray a.tmps j=io:=by
 unfold guardOf at hg;cases ho:all[j]? with
 |none=>simp[ho]at hg
 |some o=>
  cases hod:o.dst with
  |none=>simp[ho,hod]at hg
  |some d'=>
   simp only[ho,hod,Vq,VC]at hg;obtain⟨rfl,y⟩:=hg;have h1:=hf.2.1 d';rw[y]at h1;have u:a.tmps.getD d' undef= .tuple vs:=by
    generalize a.tmps.getD d' undef=v at h1;cases h1 with
    |iv _ _ h=>cases h with
     |v=>rfl
   have x:all.toArray[j]? =co o:=by simpa using ho
   rw[Vn]at u;cases h5:a.tmps[d']? with
   |none=>simp[Go.yielded,x,hod,h5]
   |some v=>
    rw[h5]at u;simp only[Wv]at u;subst u;simp[Go.yielded,x,hod,h5]
theorem Br{all rest:List Oper}{o:Oper}{j d:Nat}{u:Bool}{vs:Array Value}(hg:o.guard=co (j,u))(A:guardOf all s.f j=co (d,.iv (.v (.tuple vs))))(h:GO P nt (.ops all rest::k) Q (gP o s)):GO P nt (.ops all (o::rest)::k) Q s:=by
 intro M N a w hf;have x:=hf.ui A;unfold wpList;have y:Region.wanted o (Go.yielded all.toArray a.tmps)=jp:=by simp[Region.wanted,hg,x]
 rw[y,be (by simp)];exact AL.same (s:=s) h (jd _ _) (hf.skip o)
theorem Bt{all rest:List Oper}{o:Oper}{j d:Nat}{u t:Bool}(hg:o.guard=co (j,u))(A:guardOf all s.f j=co (d,.kb t))(hd:d<nt)
  (h:GO P nt (.ops all (bif t==u then{o with guard:=io}::rest else rest)::k) Q (bif t==u then s else gP o s)):GO P nt (.ops all (o::rest)::k) Q s:=by
 intro M N a w hf;have x:=hf.uj A hd;unfold wpList;by_cases ht:t=u
 .have y:Region.wanted o (Go.yielded all.toArray a.tmps)=is:=by simp[Region.wanted,hg,x,ht]
  have hb:(t==u)=is:=by simp[ht]
  rw[am y];rw[hb]at h;have:=h M N a w hf;simp only[cond_true]at this;unfold wpList at this;rw[am (fD Z _)]at this;exact this
 .have y:Region.wanted o (Go.yielded all.toArray a.tmps)=jp:=by simp[Region.wanted,hg,x,ht]
  have hb:(t==u)=jp:=by simp[ht]
  rw[y,be (by simp)];rw[hb]at h;exact AL.same (s:=s) h (jd _ _) (hf.skip o)
theorem Iq{all rest:List Oper}{o:Oper}{j d:Nat}{u t:Bool}(hg:o.guard=co (j,u))(y:guardOf all s.f j=co (d,.iv (.v (.bool t))))(hd:d<nt)
  (h1:t=u->GO P nt (.ops all ({o with guard:=io}::rest)::k) Q (setBool s (.tmp d) u)) (G:t=!u->GO P nt (.ops all rest::k) Q (gP o (setBool s (.tmp d) (!u)))):
  GO P nt (.ops all (o::rest)::k) Q s:=by
 intro M N a w hf;have B:=hf.yielded y hd;have C:ev s.f (.tmp d)= .iv (.v (.bool t)):=by
  unfold guardOf at y;cases ho:all[j]? with
  |none=>simp[ho]at y
  |some o'=>
   cases hod:o'.dst with
   |none=>simp[ho,hod]at y
   |some d'=>
    simp only[ho,hod,Vq,VC]at y;obtain⟨rfl,I⟩:=y;exact I
 have x:=hf.setBool C;unfold wpList;by_cases ht:t=u
 .have D:Region.wanted o (Go.yielded all.toArray a.tmps)=is:=by simp[Region.wanted,hg,B,ht]
  rw[am D];rw[ht]at x;have:=AL.same (s:=s) (h1 ht) (jL _ _ _) x;unfold wpList at this;rw[am (fD Z _)]at this;exact this
 .have D:Region.wanted o (Go.yielded all.toArray a.tmps)=jp:=by simp[Region.wanted,hg,B,ht]
  have A:t=!u:=by cases t<;>cases u<;>simp_all
  rw[D,be (by simp)];rw[A]at x;exact AL.same (s:=s) (G A) ⟨(jd _ _).1.trans (jL _ _ _).1,(jd _ _).2.trans (jL _ _ _).2⟩ (x.skip o)
end
section
variable {P:Program} {nt:NT} {Q:AQ} {k:List KI} {s:AS}
theorem Rel.drew{M:Mem}{N:Nm}{U:Nat->Prop}{h:AH}{w:World}(hr:Rel M N U h w):Rel M N U h {w with drawn:=w.drawn+1}:=
 ⟨hr.dA,hr.used,hr.dG,fun i o j=>(hr.obj i o j).mono (.refl _) (.refl _ _) (fun _ h=>h) (hr.used i o j) Z,hr.inj⟩
theorem Fits.drew{M:Mem}{N:Nm}{a:Act}{w:World}(hf:Fits M N s nt a w):Fits M N s nt a {w with drawn:=w.drawn+1}:=⟨hf.1.drew,hf.2⟩
theorem Ext.drew{M:Mem}{N:Nm}{U:Nat->Prop}{h:AH}{w:World}:Ext M N U h w M N U h {w with drawn:=w.drawn+1}:=
 ⟨rfl,rfl,⟨rfl,Xx _⟩,VA _,fun _ _ _=>rfl,.refl _,fun b c h1 u=>by simp[h1]at u,.refl _ _,fun _ h=>h,fun i o x j=> .inr ⟨i,o,x,j,rfl⟩⟩
end
section
variable {P:Program} {M:Mem} {N:Nm} {w:World} {n:Nat} {h:AH}
def Nm.with(N:Nm)(n b e:Nat):Nm:={az:=fun i=>if i=n then b else N.az i,ext:=fun i=>if i=n then e else N.ext i}
theorem Nm.dm(N:Nm)(n b e:Nat):N.agree (N.with n b e) (· <n):=
 ⟨fun i j=>by simp[Nm.with,YC j],fun i j=>by simp[Nm.with,YC j]⟩
@[simp] theorem Nm.Gr(N:Nm)(n b e:Nat):(N.with n b e).az n=b:=by simp[Nm.with]
@[simp] theorem Nm.RL(N:Nm)(n b e:Nat):(N.with n b e).ext n=e:=by simp[Nm.with]
theorem Rel.lt(hr:Rel M N (· <n) h w){i:Nat}{o:AO}(hi:h.get i=co o)(j:o.real=is):N.az i<w.heap.size:=(hr.obj i o hi).lt j
theorem Rel.A0(hr:Rel M N (· <n) h w):M w.heap.size=io:=by
 cases hm:M w.heap.size with
 |none=>rfl
 |some c=>have:=(hr.dA _ _ hm).lt;omega
theorem Rel.alloc(hr:Rel M N (· <n) h w)(obj:Obj)(o:AO)(e:Nat)(ho: ∀C,C.az n=w.heap.size->C.ext n=e->N.agree C (· <n)->OR M C (· <n+1) (w.alloc obj) n o):
  ∃C,C.az n=w.heap.size∧C.ext n=e∧N.agree C (· <n)∧Ext M N (· <n) h w M C (· <n+1) ((n,co o)::h) (w.alloc obj)∧Rel M C (· <n+1) ((n,co o)::h) (w.alloc obj):=by
 have D:=N.dm n w.heap.size e;have u: ∀i p,AH.get ((n,co o)::h) i=co p->(i=n∧p=o)∨(i<n∧h.get i=co p):=by
  intro i p x;rw[AH.ax]at x;split at x
  .rename_i G;exact .inl ⟨G,by simpa using x.symm⟩
  .exact .inr ⟨hr.used i p x,x⟩
 refine⟨N.with n w.heap.size e,by simp,by simp,D,?_,?_⟩
 .refine⟨rfl,rfl,⟨rfl,VA _⟩,by simp,fun b hb _=>zi w obj b hb,.refl _,fun b c h1 B=>by simp[h1]at B,D,fun i x=>by omega,fun i p x y=>?_⟩;rcases u i p x with⟨rfl,rfl⟩|⟨h1,B⟩
  .exact .inl (by simp)
  .exact .inr ⟨i,p,B,y,(D.az i h1).symm⟩
 .refine⟨fun b c hb=>?_,fun i p x=>?_,fun i p x y=>?_,fun i p x=>?_,fun i j p q x hj Y hq A=>?_⟩
  .exact(hr.dA b c hb).mono (zi w obj b (hr.dA b c hb).lt)
  .rcases u i p x with⟨rfl,rfl⟩|⟨h1,B⟩<;>omega
  .rcases u i p x with⟨rfl,rfl⟩|⟨h1,B⟩
   .simpa using hr.A0
   .rw[D.az i h1];exact hr.dG i p B y
  .rcases u i p x with⟨rfl,rfl⟩|⟨h1,B⟩
   .exact ho _ (by simp) (by simp) D
   .cases y:p.real with
    |true=>exact(hr.obj i p B).mono (.refl _) D (fun i x=>by omega) h1 (zi w obj _ (hr.lt B y))
    |false=>
     cases p with
     |row sz es=>cases es with
      |nil=>exact .inl Z
      |cons=>cases y
     |bu l T=>cases l with
      |nil=>exact .inl Z
      |cons=>cases y
     |_=>cases y
  .rcases u i p x with⟨rfl,rfl⟩|⟨h1,B⟩<;>rcases u j q hj with⟨rfl,rfl⟩|⟨I,J⟩
   .rfl
   .rw[D.az j I]at A;simp at A;have:=hr.lt J hq;omega
   .rw[D.az i h1]at A;simp at A;have:=hr.lt B Y;omega
   .rw[D.az i h1,D.az j I]at A;exact hr.inj i j p q B J Y hq A
theorem Rel.B1(hr:Rel M N (· <n) h w)(sz:Nat):Ext M N (· <n) h w M N (· <n+1) ((n,co (.row sz []))::h) w∧Rel M N (· <n+1) ((n,co (.row sz []))::h) w:=by
 have u: ∀i p,AH.get ((n,co (.row sz []))::h) i=co p->(i=n∧p= .row sz [])∨(i<n∧h.get i=co p):=by
  intro i p x;rw[AH.ax]at x;split at x
  .rename_i C;exact .inl ⟨C,by simpa using x.symm⟩
  .exact .inr ⟨hr.used i p x,x⟩
 refine⟨⟨rfl,rfl,⟨rfl,VA _⟩,VA _,fun _ _ _=>rfl,.refl _,fun b c h1 A=>by simp[h1]at A,.refl _ _,fun i x=>by omega,fun i p x y=>?_⟩,⟨hr.dA,fun i p x=>?_,fun i p x y=>?_,fun i p x=>?_,fun i j p q x J D G B=>?_⟩⟩
 .rcases u i p x with⟨rfl,rfl⟩|⟨h1,A⟩
  .cases y
  .exact .inr ⟨i,p,A,y,rfl⟩
 .rcases u i p x with⟨rfl,rfl⟩|⟨h1,A⟩<;>omega
 .rcases u i p x with⟨rfl,rfl⟩|⟨h1,A⟩
  .cases y
  .exact hr.dG i p A y
 .rcases u i p x with⟨rfl,rfl⟩|⟨h1,A⟩
  .exact .inl Z
  .exact(hr.obj i p A).mono (.refl _) (.refl _ _) (fun i x=>by omega) h1 Z
 .rcases u i p x with⟨rfl,rfl⟩|⟨h1,A⟩<;>rcases u j q J with⟨rfl,rfl⟩|⟨Y,I⟩
  .rfl
  .cases D
  .cases G
  .exact hr.inj i j p q A I D G B
theorem Rel.write(hr:Rel M N (· <n) h w){i:Nat}{o0:AO}(hi:h.get i=co o0)(h0:o0.real=is)(B:World)(o:AO)(a0:B.os=w.os)(G:B.tape=w.tape)(I:B.output=w.output)(b0:B.heap.size=w.heap.size)
  (hk: ∀b,b≠N.az i->B.heap[b]? =w.heap[b]?) (ho:OR M N (· <n) B i o) (hd:w.drawn<=B.drawn:=by first|exact VA _|exact Xx _):
  Ext M N (· <n) h w M N (· <n) ((i,co o)::h) B∧Rel M N (· <n) ((i,co o)::h) B:=by
 have u: ∀j p,AH.get ((i,co o)::h) j=co p->(j=i∧p=o)∨(j≠i∧h.get j=co p):=by
  intro j p A;rw[AH.ax]at A;split at A
  .rename_i C;exact .inl ⟨C,by simpa using A.symm⟩
  .rename_i C;exact .inr ⟨C,A⟩
 refine⟨⟨a0,G,⟨I,hd⟩,by omega,fun b hb hn=>hk b (fun e=>hn i o0 hi h0 e.symm),.refl _,fun b c h1 y=>by simp[h1]at y,.refl _ _,fun _ h=>h,fun j p A x=>?_⟩,?_⟩
 .rcases u j p A with⟨rfl,rfl⟩|⟨h1,y⟩
  .exact .inr ⟨j,o0,hi,h0,rfl⟩
  .exact .inr ⟨j,p,y,x,rfl⟩
 .refine⟨fun b c hb=>?_,fun j p A=>?_,fun j p A x=>?_,fun j p A=>?_,fun j k p q A J hp hq D=>?_⟩
  .have Y:b≠N.az i:=fun e=>by
    have:=hr.dG i o0 hi h0;rw[<-e,hb]at this;simp at this
   exact(hr.dA b c hb).mono (hk b Y)
  .rcases u j p A with⟨rfl,rfl⟩|⟨h1,y⟩
   .exact hr.used j o0 hi
   .exact hr.used j p y
  .rcases u j p A with⟨rfl,rfl⟩|⟨h1,y⟩
   .exact hr.dG j o0 hi h0
   .exact hr.dG j p y x
  .rcases u j p A with⟨rfl,rfl⟩|⟨h1,y⟩
   .exact ho
   .cases x:p.real with
    |true=>exact(hr.obj j p y).mono (.refl _) (.refl _ _) (fun _ h=>h) (hr.used j p y) (hk _ (fun e=>h1 (hr.inj j i p o0 y hi x h0 e)))
    |false=>
     cases p with
     |row sz es=>cases es with
      |nil=>exact .inl Z
      |cons=>cases x
     |bu l T=>cases l with
      |nil=>exact .inl Z
      |cons=>cases x
     |_=>cases x
  .rcases u j p A with⟨rfl,rfl⟩|⟨h1,y⟩<;>rcases u k q J with⟨rfl,rfl⟩|⟨h3,h4⟩
   .rfl
   .exact hr.inj _ _ _ _ hi h4 h0 hq D
   .exact hr.inj _ _ _ _ y hi hp h0 D
   .exact hr.inj _ _ _ _ y h4 hp hq D
end
def B7(ty:Ty)(s:AS)(t:TypeId)(p x:PV):Option AS:=
 match ty t with
 |some e=>match x.cells with
  |some xs=>match VP xs.length e.size,dt xs with
   |true,is=>match p with
    | .ptr i off=>match s.h.get i with
     |some (.cells cs T0)=>match Xr (off+xs.length) cs.length with
      |true=>match s with
       |⟨f,h,n⟩=>force (setCells cs off xs) fun j=>co ⟨f,(i,co (.cells j T0))::h,n⟩
      |false=>io
     |_=>io
    |_=>io
   |_,_=>io
  |none=>io
 |none=>io
def newObj(s:AS)(o:AO):AS:=match s with|⟨f,h,n⟩=>⟨f,(n,co o)::h,n+1⟩
def nw(s:AS)(g:Nat->PV)(o:AO):Option (PV×AS):=match s with|⟨f,h,n⟩=>co (g n,⟨f,(n,co o)::h,n+1⟩)
theorem uX(s:AS)(g:Nat->PV)(o:AO):nw s g o=co (g s.nx,newObj s o):=by cases s;rfl
def yz:Nat->List PV->List PV
 |0,_=> []
 |n+1,l=>l++yz n l
theorem kQ: ∀(n:Nat) (l:List PV),(yz n l).length=n*l.length
 |0,l=>by simp[yz]
 |n+1,l=>by simp[yz,kQ n l,W8,Nat.add_comm]
theorem Ap: ∀(n:Nat) (l:List PV) (j:Nat) (p:PV),(yz n l)[j]? =co p->l[j % l.length]? =co p
 |0,l,j,p,h=>by simp[yz]at h
 |n+1,l,j,p,h=>by
  simp only[yz]at h;rcases Wp j l.length with hj|hj
  .rw[VJ hj]at h;rw[XH hj];exact h
  .rw[VK hj]at h;have:=Ap n l _ p h;rwa[Nat.mod_eq_sub_mod hj]
def mY(sz:Nat):Nat->List PV->List (List PV)
 |0,_=> []
 |n+1,cs=>cs.take sz::mY sz n (cs.drop sz)
def y8{α:Type _}(sz:Nat):Nat->List PV->(List (List PV)->α)->α
 |0,_,k=>k []
 |n+1,cs,k=>force (cs.take sz) fun c=>force (cs.drop sz) fun d=>y8 sz n d fun r=>k (c::r)
theorem xX{α:Type _}(sz:Nat): ∀(n:Nat) (cs:List PV) (k:List (List PV)->α),y8 sz n cs k=k (mY sz n cs)
 |0,_,_=>rfl
 |n+1,cs,k=>by simp only[y8,force_eq,xX sz n,mY]
theorem pD(sz:Nat): ∀(n:Nat) (cs:List PV),(mY sz n cs).length=n
 |0,_=>rfl
 |n+1,cs=>by simp[mY,pD sz n]
theorem mX(sz:Nat): ∀(n:Nat) (cs:List PV) (k:Nat) (e:List PV),cs.length=n*sz->(mY sz n cs)[k]? =co e->e.length=sz∧ ∀j,j<sz->e[j]? =cs[k*sz+j]?
 |0,cs,k,e,_,h=>by simp[mY]at h
 |n+1,cs,k,e,hl,h=>by
  simp only[mY]at h;rw[W8]at hl;cases k with
  |zero=>
   simp at h;subst h;refine⟨by simp;omega,fun j u=>by simp[u]⟩
  |succ k=>
   obtain⟨h1,x⟩:=mX sz n (cs.drop sz) k e (by simp;omega) (by simpa using h);refine⟨h1,fun j u=>?_⟩;rw[x j u,Wl,W8];congr 1;omega
def OL(ty:Ty)(e:bC):Bool:=
 match e.k with
 | .cp ((0,u)::_)=>match ty u with
  |some ⟨.cp ((0,q)::_),_,_,_,_⟩=>match ty q with
   |some ⟨.aP (.pointer v),_,_,_,_⟩=>VP u v
   |_=>jp
  |_=>jp
 |_=>jp
def Ss(ty:Ty)(t:TypeId):Bool:=
 match ty t with
 |some e=>OL ty e
 |none=>jp
def HT(ty:Ty)(s:AS):Op->Option (PV×AS)
 | .alloc t=>match ty t with
  |some e=>match OL ty e with
   |true=>force (b4 e.zero) fun j=>nw s (fun n=> .ptr n 0) (.cells j (co t))
   |false=>force (b4 e.zero) fun j=>nw s (fun n=> .ptr n 0) (.cells j)
  |none=>io
 | .box t x=>match(ev s.f x).cells with
  |some j=>match dt j with
   |true=>match Ss ty t with
    |true=>force j fun y=>nw s (fun n=> .ptr n 0) (.cells y (co t))
    |false=>force j fun y=>nw s (fun n=> .ptr n 0) (.cells y)
   |false=>io
  |none=>io
 | .store t a x=>match B7 ty s t (ev s.f a) (ev s.f x) with
  |some s'=>co (.any,s')
  |none=>io
 | .makeMap _ io=>nw s (fun n=> .mp n) .fh
 | .makeMap t (co r)=>match ev s.f r,ty t with
  | .iv (.v (.int _ _)),co ⟨.aP (.map _ _),_,_,_,_⟩=>nw s (fun n=> .mp n) .fh
  |_,_=>io
 | .range t x=>match ev s.f x,ty t with
  | .iv (.eG kc e _ _ m),co ⟨.aP (.map _ _),_,_,_,_⟩=>nw s (fun n=> .ptr n 0) (.bX kc e m [] io)
  |_,_=>io
 | .buildSlice t len parts=>match ty t with
  |some e=>match e.k with
   | .aP (.slice u)=>match ty u with
    |some eu=>match VP eu.zero.cells.size eu.size,VV 0 (len*eu.size),Xr (len*eu.size) 16777216 with
     |true,is,is=>match pz (fun i=>co (i*eu.size,eu.size)) (yz len (b4 eu.zero)) (parts.toList.map fun x=>(x.1,ev s.f x.2)) with
      |some j=>y8 eu.size len j fun es=>nw s (fun n=> .sl n 0 len eu.size) (.row eu.size es)
      |none=>io
     |_,_,_=>io
    |none=>io
   |_=>io
  |none=>io
 |_=>io
section
variable {P:Program} {ty:Ty} {nt:NT} {s:AS}
theorem dW{M:Mem}{N:Nm}{a:Act}{w:World}(hf:Fits M N s nt a w){obj:Obj}{o:AO}{j:Nm}(u:Ext M N (· <s.nx) s.h w M j (· <s.nx+1) ((s.nx,co o)::s.h) (w.alloc obj))
  (hr:Rel M j (· <s.nx+1) ((s.nx,co o)::s.h) (w.alloc obj)):Fits M j (newObj s o) nt a (w.alloc obj):=
 ⟨hr,hf.2.1.ext u,hf.2.2⟩
theorem OT.value{o:Oper}{s1 s':AS}{p:PV}(hp:putDst nt o p s1=co s')
  (h: ∀M N a w,Fits M N s nt a w-> ∃x y j u,(execOp a.eval o).run P w= .ok (.value x) y∧Ext M N (· <s.nx) s.h w j u (· <s1.nx) s1.h y∧Fits j u s1 nt a y∧VR j u (· <s1.nx) p x):OT P nt o s (fun t=>t=s'):=by
 intro M N a w hf K Z hk;obtain⟨x,y,j,u,D,B,A,C⟩:=h M N a w hf;unfold Oper.wp;rw[D];simp only[Oper.upon];cases hd:o.dst with
 |none=>
  have:=dF hp hd;subst this;exact hk j u s' _ y B A rfl
 |some d=>
  obtain⟨h1,rfl⟩:=dE hp hd;exact hk j u {s1 with f:=(d,p)::s1.f} _ y B (A.put d p x h1 C) rfl
theorem OT.skip{o:Oper}{s1 s':AS}(hp:putDst nt o .any s1=co s')
  (h: ∀M N a w,Fits M N s nt a w-> ∃j u x,(execOp a.eval o).run P w= .ok .skip j∧Ext M N (· <s.nx) s.h w u x (· <s1.nx) s1.h j∧Fits u x s1 nt a j):OT P nt o s (fun t=>t=s'):=by
 intro M N a w hf K Z hk;obtain⟨j,u,x,B,A,y⟩:=h M N a w hf;unfold Oper.wp;rw[B];simp only[Oper.upon];cases hd:o.dst with
 |none=>
  have:=dF hp hd;subst this;exact hk u x s' _ j A y rfl
 |some d=>
  obtain⟨h1,rfl⟩:=dE hp hd;exact hk u x {s1 with f:=(d,.any)::s1.f} _ j A (y.put d .any undef h1 (.any _)) rfl
theorem EV(g0:bn P ty){t:TypeId}{p x:PV}{s1:AS}(h:B7 ty s t p x=co s1){M:Mem}{N:Nm}{a:Act}{w:World}(hf:Fits M N s nt a w){u y:Value}(hu:VR M N (· <s.nx) p u)(hy:VR M N (· <s.nx) x y):
  ∃w',(Instr.storeAt t u y).run P w= .ok () w'∧Ext M N (· <s.nx) s.h w M N (· <s1.nx) s1.h w'∧Fits M N s1 nt a w':=by
 unfold B7 at h;split at h
 .rename_i e he;split at h
  .rename_i C j0;split at h
   .rename_i h1 h2;split at h
    .rename_i i a0;split at h
     .rename_i cs T0 A;split at h
      .rename_i d0;obtain⟨sf,sh,sn⟩:=s;simp only[force_eq,Vq]at h;subst h;simp only at A;cases hu with
       |ptr _ _ hU=>
        obtain⟨hl,hv⟩:=ow hy j0;have f0:y.cells.size=e.size:=by rw[<-hl];exact VN h1
        obtain⟨c,T,g1,g2,g3,g4,g5⟩:=hf.1.obj i _ A;have e0:a0+C.length<=c.size:=by rw[<-g3];exact Vm d0
        have J: ∀v∈y.cells.toList,v.oneCell'=is:=by
         intro v i0;obtain⟨j,hj⟩:=Wh i0;have D:j<y.cells.toList.length:=(Vs.1 hj).1;have G:C[j]? =co (C[j]'(by simp at D;omega)):=Vt _;have:=(hv j _ G).one (gk h2 j _ G);rw[Vn]at this;have c0:y.cells[j]? =co v:=by simpa using hj
         rw[c0]at this;exact this
        have b0:=run_storeCells_at P (N.az i) a0 T y.cells.toList 0 c w g1 (by simp;omega) J;refine⟨w.setRow (N.az i) (c.toList.take (a0+0)++y.cells.toList++c.toList.drop (a0+0+y.cells.toList.length)).toArray,?_,?_⟩
        .have B:=aQ (w:=w) (g0 t e he);simp only[Instr.storeAt,Instr.sureAddr,pure_bind,storeVar,Sem.run_bind,B,Result.andThen_ok,f0,ne_eq,not_true_eq_false,if_false,b0]
        .have Y:=setRow_heap w (N.az i) c (c.toList.take (a0+0)++y.cells.toList++c.toList.drop (a0+0+y.cells.toList.length)).toArray T (0,0) g1;have I: ∀b,b≠N.az i->(w.setRow (N.az i) (c.toList.take (a0+0)++y.cells.toList++c.toList.drop (a0+0+y.cells.toList.length)).toArray).heap[b]? =w.heap[b]? :=by
          intro b hb;simp only[World.setRow,VZ];rw[be (fun e=>hb e.symm)]
         have:=hf.1.write A Z (w.setRow (N.az i) (c.toList.take (a0+0)++y.cells.toList++c.toList.drop (a0+0+y.cells.toList.length)).toArray) (.cells (setCells cs a0 C) T0) Z Z Z (by simp) I
          ⟨_,T,Y,by simp;omega,by rw[cZ];simp;omega,fun j q hq=>?_,g5⟩
         .exact⟨this.1,this.2,hf.2.1,hf.2.2⟩
         .rcases iw cs a0 C j q hq with⟨k1,k2⟩|⟨k1,k2⟩
          .have:=hv _ _ k2;have D:j-a0<C.length:=(Vs.1 k2).1;rw[Vn]at this ⊢;have e1:(c.toList.take (a0+0)++y.cells.toList++c.toList.drop (a0+0+y.cells.toList.length)).toArray[j]? =y.cells[j-a0]? :=by
            simp only[Wd];rw[VJ (by simp;omega),VK (by simp;omega)];simp only[V7,Xw,VY];congr 1;omega
           rw[e1];exact this
          .have:=g4 _ _ k2;rw[Vn]at this ⊢;have e1:(c.toList.take (a0+0)++y.cells.toList++c.toList.drop (a0+0+y.cells.toList.length)).toArray[j]? =c[j]? :=by
            simp only[Wd];rcases k1 with k1|k1
            .rw[VF,VJ (by simp;omega),V8,am (by omega),VY]
            .rw[VK (by simp;omega),Wl,VY];congr 1;simp;omega
           rw[e1];exact this
      .cases h
     .cases h
    .cases h
   .cases h
  .cases h
 .cases h
theorem CD(D:bn P ty){o:Oper}{p:PV}{s1 s':AS}(h:HT ty s o.op=co (p,s1))(hp:putDst nt o p s1=co s'):OT P nt o s (fun t=>t=s'):=by
 cases ho:o.op with
 |alloc t=>
  rw[ho]at h;simp only[HT,uX]at h;split at h
  .rename_i e he;obtain⟨J,f0,h⟩: ∃J,zP J t∧co (PV.ptr s.nx 0,newObj s (.cells (b4 e.zero) J))=co (p,s1):=by
    split at h
    .exact⟨co t,fun x I=>by cases I;rfl,by rw[<-h,force_eq]⟩
    .exact⟨io,.none _,by rw[<-h,force_eq]⟩
   simp only[Vq,VC]at h;obtain⟨rfl,rfl⟩:=h;refine OT.value hp fun M N a w hf=>?_
   obtain⟨B,h1,h2,h3,C,G⟩:=hf.1.alloc (.cells e.zero.cells t) (.cells (b4 e.zero) J) e.zero.cells.size (fun B g1 g2 g3=>
    ⟨e.zero.cells,t,by rw[g1];exact heap_alloc_new w _,g2.symm,(fo (M:=M) (N:=B) (U:=(· <s.nx+1)) e.zero).1,(fo e.zero).2,f0⟩)
   refine⟨.pointer (co ⟨w.heap.size,0,io⟩),_,M,B,?_,C,dW hf C G,?_⟩
   .simp only[execOp,ho];have hz:=dp (w:=w) (D t e he);simp[Instr.alloc,hz,newVar,newRow]
   .have:=VR.ptr (M:=M) (N:=B) (U:=(· <s.nx+1)) s.nx 0 (by omega);rw[h1]at this;exact this
  .cases h
 |box t x=>
  rw[ho]at h;simp only[HT,uX]at h;split at h
  .rename_i cs c0;split at h
   .rename_i a1;obtain⟨J,f0,h⟩: ∃J,zP J t∧co (PV.ptr s.nx 0,newObj s (.cells cs J))=co (p,s1):=by
     split at h
     .exact⟨co t,fun x I=>by cases I;rfl,by rw[<-h,force_eq]⟩
     .exact⟨io,.none _,by rw[<-h,force_eq]⟩
    simp only[Vq,VC]at h;obtain⟨rfl,rfl⟩:=h;refine OT.value hp fun M N a w hf=>?_;obtain⟨hl,hv⟩:=ow (aN hf.2.1 x) c0
    obtain⟨B,h1,h2,h3,C,G⟩:=hf.1.alloc (.cells (a.eval x).cells t) (.cells cs J) (a.eval x).cells.size (fun B g1 g2 g3=>
     ⟨(a.eval x).cells,t,by rw[g1];exact heap_alloc_new w _,g2.symm,hl,fun j q hq=>(hv j q hq).mono (.refl _) g3 (fun i hi=>by omega),f0⟩)
    refine⟨.pointer (co ⟨w.heap.size,0,io⟩),_,M,B,?_,C,dW hf C G,?_⟩
    .simp only[execOp,ho];simp[Instr.box,newVar,newRow]
    .have:=VR.ptr (M:=M) (N:=B) (U:=(· <s.nx+1)) s.nx 0 (by omega);rw[h1]at this;exact this
   .cases h
  .cases h
 |store t a x=>
  rw[ho]at h;simp only[HT,uX]at h;split at h
  .rename_i s2 hs;simp only[Vq,VC]at h;obtain⟨rfl,rfl⟩:=h;refine OT.skip hp fun M N b w hf=>?_;obtain⟨w',h1,h2,h3⟩:=EV (P:=P) D hs hf (aN hf.2.1 a) (aN hf.2.1 x);refine⟨w',M,N,?_,h2,h3⟩;simp only[execOp,ho];simp[h1]
  .cases h
 |makeMap t r=>
  rw[ho]at h;cases r with
  |some r=>
   simp only[HT,uX]at h;split at h
   .rename_i q n _ _ _ _ _ _ hr he;have hu:=(D _ _ he).2.1.1;simp only[Vq,VC]at h;obtain⟨rfl,rfl⟩:=h;refine OT.value hp fun M N a w hf=>?_
    obtain⟨B,h1,h2,h3,C,G⟩:=hf.1.alloc (.map #[] 0) .fh 0 (fun B g1 g2 g3=>
     (by rw[g1];exact heap_alloc_new w _:(w.alloc (.map #[] 0)).heap[B.az s.nx]? =_))
    have g0:=aN hf.2.1 r;rw[hr]at g0;have b1:a.eval r= .int q n:=by
     generalize a.eval r=y at g0;cases g0 with
     |iv _ _ h=>cases h;rfl
    refine⟨.map (co w.heap.size),_,M,B,?_,C,dW hf C G,?_⟩
    .simp only[execOp,ho];simp[Instr.makeMap,b1,run_underlying hu,asInt,asIntOf]
    .have:=VR.mp (M:=M) (N:=B) (U:=(· <s.nx+1)) s.nx (by omega);rw[h1]at this;exact this
   .cases h
  |none=>
   simp only[HT,uX,Vq,VC]at h;obtain⟨rfl,rfl⟩:=h;refine OT.value hp fun M N a w hf=>?_
   obtain⟨B,h1,h2,h3,C,G⟩:=hf.1.alloc (.map #[] 0) .fh 0 (fun B g1 g2 g3=>
    (by rw[g1];exact heap_alloc_new w _:(w.alloc (.map #[] 0)).heap[B.az s.nx]? =_))
   refine⟨.map (co w.heap.size),_,M,B,?_,C,dW hf C G,?_⟩
   .simp only[execOp,ho];simp[Instr.makeMap]
   .have:=VR.mp (M:=M) (N:=B) (U:=(· <s.nx+1)) s.nx (by omega);rw[h1]at this;exact this
 |range t x=>
  rw[ho]at h;simp only[HT,uX]at h;split at h
  .rename_i V kc e z zv m kt et _ _ _ _ s0 he;have hu:=(D _ _ he).2.1.1;simp only[Vq,VC]at h;obtain⟨rfl,rfl⟩:=h;refine OT.value hp fun M N a w hf=>?_;have I:=aN hf.2.1 x;rw[s0]at I;generalize hv:a.eval x=y at I
   cases I with
   |iv _ _ hi=>cases hi with
    |eG _ _ _ _ _ b ents clock hb hs hk hv' hz hi' hc=>
     obtain⟨B,h1,h2,h3,C,G⟩:=hf.1.alloc (.mapIter (co b) clock #[] clock) (.bX kc e m [] io) 0 (fun B g1 g2 g3=>
      .inr ⟨b,ents,clock, #[],by rw[g1];exact heap_alloc_new w _,hb,⟨hs,hk,hv',hi',hc⟩,rfl,by simp,Wn,by simp⟩)
     have a0:w.heap[b]? =co (.map ents clock):=hf.1.dA _ _ hb;refine⟨.pointer (co ⟨w.heap.size,0,io⟩),_,M,B,?_,C,dW hf C G,?_⟩
     .simp only[execOp,ho,hv];simp[Instr.range,run_underlying hu,getObj,Sem.run,a0,Result.andThen]
     .have:=VR.ptr (M:=M) (N:=B) (U:=(· <s.nx+1)) s.nx 0 (by omega);rw[h1]at this;exact this
  .cases h
 |buildSlice t len parts=>
  rw[ho]at h;simp only[HT,uX]at h;split at h
  .rename_i e he;split at h
   .rename_i u hk;split at h
    .rename_i A k0;split at h
     .rename_i p0 q0 r0;split at h
      .rename_i cs c0;rw[xX]at h;simp only[Vq,VC]at h;obtain⟨rfl,rfl⟩:=h;have j0:A.zero.cells.size=A.size:=VN p0;have n0:0<len*A.size:=Vm q0;have i1:len*A.size<=16777216:=Vm r0;have i0:0<A.size:=Nat.pos_of_ne_zero fun e=>by simp[e]at n0
       have w0:0<len:=Nat.pos_of_ne_zero fun e=>by simp[e]at n0
       have f1:len<=len*A.size:=Nat.le_mul_of_pos_right _ i0;have b0:=(D t e he).2.1;rw[hk]at b0;refine OT.value hp fun M N a w hf=>?_;have d0:(b4 A.zero).length=A.size:=by rw[(fo (M:=M) (N:=N) (U:=(· <s.nx)) A.zero).1,j0]
       obtain⟨e0,h3,C⟩:=ru (M:=M) (N:=N) (U:=(· <s.nx)) (zt:=(parts.map fun x=>(x.1,a.eval x.2)).toList) (ys:=(Yu (len*A.size)).map (A.zero.cells[· % A.zero.cells.size]!)) c0 (by simp) (fun j x y I hy=>by
        rw[Vv,Vw]at I;obtain⟨z,hz,rfl⟩:=I;have e1:parts[j]? =co z:=by simpa using hz
        have:co (z.1,a.eval z.2)=co y:=by rw[<-hy];simp[e1]
        simp only[Vq]at this;subst this
        exact⟨rfl,aN hf.2.1 z.2⟩) (by
        refine⟨by rw[kQ,d0];simp,fun j p hj=>?_⟩;have G:=Ap _ _ _ _ hj;have t0:j<len*A.size:=by
         have:=(Vs.1 hj).1;rwa[kQ,d0]at this
        rw[d0]at G;have h6:=(fo (M:=M) (N:=N) (U:=(· <s.nx)) A.zero).2 _ _ G;have h7:((Yu (len*A.size)).map (A.zero.cells[· % A.zero.cells.size]!)).getD j undef=A.zero.cells.getD (j % A.size) undef:=by
         have hm:j % A.size<A.zero.cells.size:=by rw[j0];exact Nat.mod_lt _ i0
         have I:(Yu (len*A.size))[j]? =co j:=by simp[t0]
         rw[Vn,X6,I];simp only[Ww,Wv,j0];rw[Vn,getElem!_pos A.zero.cells (j % A.size) hm,V6 hm];rfl
        rw[h7];exact h6)
       have Y:cs.length=len*A.size:=by
        have:(yz len (b4 A.zero)).length=cs.length:=by
         have:=rv c0;exact this.symm
        rw[<-this,kQ,d0]
       have m0:e0.size=len*A.size:=by rw[<-C.1,Y]
       obtain⟨B,h1,h2,h8,h9,o0⟩:=hf.1.alloc (.cells e0 u) (.row A.size (mY A.size len cs)) e0.size (fun B g1 g2 g3=>
        .inr ⟨i0,e0,u,by rw[g1];exact heap_alloc_new w _,g2.symm,by rw[pD,m0];exact VA _,fun k e hk=>(mX _ _ _ _ _ Y hk).1,fun k e j p hk hj=>by
         have v0:j<A.size:=by rw[<-(mX _ _ _ _ _ Y hk).1];exact(Vs.1 hj).1
         have:=(mX _ _ _ _ _ Y hk).2 j v0;rw[hj]at this
         exact(C.2 _ _ this.symm).mono (.refl _) g3 (fun i hi=>by omega)⟩)
       refine⟨.slice (co ⟨w.heap.size,0,io⟩) len len,_,M,B,?_,h9,dW hf h9 o0,?_⟩
       .simp only[execOp,ho];have hz:=dp (w:=w) (D u A k0);have d1:=aQ (w:=w) (D u A k0);have x0: ¬len*A.size=0:=by omega
        have z0: ¬len*A.size>2 ^ 24:=by omega
        simp only[Instr.buildSlice,Sem.run_bind,run_underlying b0.1,Result.andThen_ok,d1,be z0,be x0,hz,Sem.run_pure];rw[h3];simp[newRow]
       .have:=VR.sl (M:=M) (N:=B) (U:=(· <s.nx+1)) s.nx 0 len A.size len (by omega) w0 (VA _) (by simp only[maxLen];omega) (by rw[h2,m0];simp);rw[h1,W0]at this;exact this
      .cases h
     .cases h
    .cases h
   .cases h
  .cases h
 |_=>rw[ho]at h;simp[HT]at h
end
mutual
def PV.bY(σ:Nat->Nat):PV->PV
 | .iv x=> .iv x
 | .agg cs=> .agg (c7 σ cs)
 | .aZ cs=> .aZ (c7 σ cs)
 | .ptr i off=> .ptr (σ i) off
 | .cM i sz k off=> .cM (σ i) sz k off
 | .eL z i=> .eL z (σ i)
 | .nI i o n=> .nI (σ i) o n
 | .sl i off len sz=> .sl (σ i) off len sz
 | .mp i=> .mp (σ i)
 | .cm fn first caps=> .cm fn (c7 σ first) (c7 σ caps)
 | .kb b=> .kb b
 | .any=> .any
def c7(σ:Nat->Nat):List PV->List PV
 | []=> []
 |p::r=>PV.bY σ p::c7 σ r
end
theorem bG(σ:Nat->Nat): ∀l:List PV,c7 σ l=l.map (PV.bY σ)
 | []=>rfl
 |p::r=>by simp[c7,bG σ r]
def AO.bY(σ:Nat->Nat):AO->AO
 | .cells cs T=> .cells (c7 σ cs) T
 | .row sz es=> .row sz (es.map (c7 σ))
 | .bu l T=> .bu l T
 | .fh=> .fh
 | .map kc ev z zv dv m=> .map kc ev z zv dv m
 | .bX kc ev m l cu=> .bX kc ev m l cu
 | .ef s p=> .ef s p
 | .hQ kc e z zv dv m bs c=> .hQ kc e z zv dv m bs c
 | .eh q c l=> .eh (q.bY σ) c l
 | .n3 l c f=> .n3 l c (f.map fun x=>(x.1,x.2.bY σ))
theorem uO(σ:Nat->Nat): ∀(f:AF) (d:Nat),AF.get (f.map fun x=>(x.1,x.2.bY σ)) d=(AF.get f d).bY σ
 | [],_=>rfl
 |(i,p)::r,d=>by
  rw[Vy,AF.ax,AF.ax,uO σ r d];split<;>rfl
theorem AO.cg(σ:Nat->Nat)(o:AO):(o.bY σ).real=o.real:=by
 cases o with
 |row sz es=>cases es<;>rfl
 |bu l T=>cases l<;>rfl
 |_=>rfl
def nA(σ:Nat->Nat):AH->AH
 | []=> []
 |(i,io)::r=>(σ i,io)::nA σ r
 |(i,co o)::r=>(σ i,co (o.bY σ))::nA σ r
def Nm.comp(N:Nm)(σ:Nat->Nat):Nm:={az:=fun i=>N.az (σ i),ext:=fun i=>N.ext (σ i)}
section
variable {M:Mem} {N:Nm} {U:Nat->Prop} {σ:Nat->Nat}
theorem VR.bY{p:PV}{x:Value}(h:VR M (N.comp σ) (fun i=>U (σ i)) p x):VR M N U (p.bY σ) x:=by
 induction h with
 |iv x y h=>exact .iv x y h
 |agg cs ys hl hr ih=>
  refine .agg _ _ (by simpa[bG]using hl) (fun j p u=>?_);rw[bG,Vv,Vw]at u;obtain⟨q,A,rfl⟩:=u;exact ih j q A
 |aZ cs ys hl hr ih=>
  refine .aZ _ _ (by simpa[bG]using hl) (fun j p u=>?_);rw[bG,Vv,Vw]at u;obtain⟨q,A,rfl⟩:=u;exact ih j q A
 |ptr i off h=>exact .ptr _ _ h
 |cM i sz k off h=>exact .cM _ _ _ _ h
 |eL z i h=>exact .eL _ _ h
 |nI i o n h=>exact .nI _ _ _ h
 |sl i off len sz cap h h0 hl hc he=>exact .sl _ _ _ _ _ h h0 hl hc he
 |kP i sz h=>exact .kP _ _ h
 |sle i sz cap h hc he=>exact .sle _ _ _ h hc he
 |mp i h=>exact .mp _ h
 |cm fn first caps f' c' h1 h2 hr1 hr2 ih1 ih2=>
  refine .cm _ _ _ _ _ (by simpa[bG]using h1) (by simpa[bG]using h2) (fun j p u=>?_) (fun j p u=>?_)
  .rw[bG,Vv,Vw]at u;obtain⟨q,A,rfl⟩:=u;exact ih1 j q A
  .rw[bG,Vv,Vw]at u;obtain⟨q,A,rfl⟩:=u;exact ih2 j q A
 |kb b=>exact .kb b
 |any x=>exact .any x
theorem VR.qC: ∀{q:PV} {x:Value},VR M N U q x-> ∀{p:PV},q=p.bY σ->VR M (N.comp σ) (fun i=>U (σ i)) p x:=by
 intro q x h
 induction h with
 |iv x y h=>intro p u;cases p<;>simp[PV.bY]at u;subst u;exact .iv _ _ h
 |agg cs ys hl hr ih=>
  intro p u;cases p<;>simp[PV.bY]at u;subst u;refine .agg _ _ (by simpa[bG]using hl) (fun j p A=>ih j (p.bY σ) (by rw[bG,Vv,A];rfl) Z)
 |aZ cs ys hl hr ih=>
  intro p u;cases p<;>simp[PV.bY]at u;subst u;refine .aZ _ _ (by simpa[bG]using hl) (fun j p A=>ih j (p.bY σ) (by rw[bG,Vv,A];rfl) Z)
 |ptr i off h=>intro p u;cases p<;>simp[PV.bY]at u;obtain⟨rfl,rfl⟩:=u;exact VR.ptr (N:=N.comp σ) (U:=fun i=>U (σ i)) _ _ h
 |cM i sz k off h=>intro p u;cases p<;>simp[PV.bY]at u;obtain⟨rfl,rfl,rfl,rfl⟩:=u;exact VR.cM (N:=N.comp σ) (U:=fun i=>U (σ i)) _ _ _ _ h
 |eL z i h=>intro p u;cases p<;>simp[PV.bY]at u;obtain⟨rfl,rfl⟩:=u;exact VR.eL (N:=N.comp σ) (U:=fun i=>U (σ i)) _ _ h
 |nI i o n h=>intro p u;cases p<;>simp[PV.bY]at u;obtain⟨rfl,rfl,rfl⟩:=u;exact VR.nI (N:=N.comp σ) (U:=fun i=>U (σ i)) _ _ _ h
 |sl i off len sz cap h h0 hl hc he=>intro p u;cases p<;>simp[PV.bY]at u;obtain⟨rfl,rfl,rfl,rfl⟩:=u;exact VR.sl (N:=N.comp σ) (U:=fun i=>U (σ i)) _ _ _ _ _ h h0 hl hc he
 |kP i sz h=>intro p u;cases p<;>simp[PV.bY]at u;obtain⟨rfl,rfl,rfl,rfl⟩:=u;exact VR.kP (N:=N.comp σ) (U:=fun i=>U (σ i)) _ _ h
 |sle i sz cap h hc he=>intro p u;cases p<;>simp[PV.bY]at u;obtain⟨rfl,rfl,rfl,rfl⟩:=u;exact VR.sle (N:=N.comp σ) (U:=fun i=>U (σ i)) _ _ _ h hc he
 |mp i h=>intro p u;cases p<;>simp[PV.bY]at u;subst u;exact VR.mp (N:=N.comp σ) (U:=fun i=>U (σ i)) _ h
 |cm fn first caps f' c' h1 h2 hr1 hr2 ih1 ih2=>
  intro p u;cases p<;>simp[PV.bY]at u;obtain⟨rfl,rfl,rfl⟩:=u;refine .cm _ _ _ _ _ (by simpa[bG]using h1) (by simpa[bG]using h2) (fun j p A=>ih1 j (p.bY σ) (by rw[bG,Vv,A];rfl) Z) (fun j p A=>ih2 j (p.bY σ) (by rw[bG,Vv,A];rfl) Z)
 |kb b=>intro p u;cases p<;>simp[PV.bY]at u;subst u;exact .kb _
 |any x=>intro p u;cases p<;>simp[PV.bY]at u;exact .any _
theorem OR.bY{w:World}{i:Nat}{o:AO}(h:OR M (N.comp σ) (fun i=>U (σ i)) w i o):OR M N U w (σ i) (o.bY σ):=by
 cases o with
 |cells cs T0=>
  obtain⟨c,T,h1,u,y,A,B⟩:=h;refine⟨c,T,h1,u,by simpa[bG]using y,fun j p D=>?_,B⟩;rw[bG,Vv,Vw]at D;obtain⟨q,J,rfl⟩:=D;exact(A j q J).bY
 |row sz es=>
  rcases h with rfl|⟨I,c,T,h1,u,y,A,B⟩
  .exact .inl Z
  refine .inr ⟨I,c,T,h1,u,by simpa using y,fun k e C=>?_,fun k e j p C D=>?_⟩
  .rw[Vv,Vw]at C;obtain⟨G,x,rfl⟩:=C;rw[bG,VS];exact A k G x
  .rw[Vv,Vw]at C;obtain⟨G,x,rfl⟩:=C;rw[bG,Vv,Vw]at D;obtain⟨q,J,rfl⟩:=D;exact(B k G j q x J).bY
 |bu l T=>exact h
 |fh=>exact h
 |map kc ev z zv dv m=>exact h
 |bX kc ev m l cu=>exact h
 |ef s p=>exact h
 |hQ kc ev z zv dv m bs c=>exact h
 |eh q c l=>obtain⟨b,h1,u⟩:=h;exact⟨b,h1.bY,u⟩
 |n3 l c f=>
  obtain⟨I,r,h1,u,y,A,B,Y,h7,h8⟩:=h;exact⟨I,r,h1,u,y,A,B,Y,h7,fun d=>by rw[uO];exact(h8 d).bY⟩
theorem OR.qC{w:World}{i:Nat}{o:AO}(h:OR M N U w (σ i) (o.bY σ)):OR M (N.comp σ) (fun i=>U (σ i)) w i o:=by
 cases o with
 |cells cs T0=>
  obtain⟨c,T,h1,u,x,y,A⟩:=h;exact⟨c,T,h1,u,by simpa[bG]using x,fun j p D=>(y j (p.bY σ) (by rw[bG,Vv,D];rfl)).qC Z,A⟩
 |row sz es=>
  rcases h with h|⟨B,c,T,h1,u,x,y,A⟩
  .exact .inl (by simpa using h)
  refine .inr ⟨B,c,T,h1,u,by simpa using x,fun k e C=>?_,fun k e j p C D=>?_⟩
  .have:=y k (c7 σ e) (by rw[Vv,C];rfl);simpa[bG]using this
  .exact(A k (c7 σ e) j (p.bY σ) (by rw[Vv,C];rfl) (by rw[bG,Vv,D];rfl)).qC Z
 |bu l T=>exact h
 |fh=>exact h
 |map kc ev z zv dv m=>exact h
 |bX kc ev m l cu=>exact h
 |ef s p=>exact h
 |hQ kc ev z zv dv m bs c=>exact h
 |eh q c l=>obtain⟨b,h1,u⟩:=h;exact⟨b,h1.qC Z,u⟩
 |n3 l c f=>
  obtain⟨B,r,h1,u,x,y,A,G,I,J⟩:=h;exact⟨B,r,h1,u,x,y,A,G,I,fun d=>(J d).qC (uO σ f d)⟩
end
def sig(L:List Nat)(n:Nat)(i:Nat):Nat:=bif VV i L.length then L.getD i 0 else n+(i-L.length)
theorem jy{L:List Nat}{n i:Nat}(h:i<L.length):sig L n i=L[i]:=by
 have:VV i L.length=is:=Wo h;simp[sig,this,h]
theorem pW{L:List Nat}{n i:Nat}(h:L.length<=i):sig L n i=n+(i-L.length):=by
 have:VV i L.length=jp:=by
  cases hb:VV i L.length with
  |false=>rfl
  |true=>have:=Vm hb;omega
 simp[sig,this]
theorem uN{σ:Nat->Nat}: ∀(h:AH) (j:Nat) (o:AO),(nA σ h).get j=co o->(∀i k,i∈h.map Wy->σ i=σ k->i=k)-> ∃i p,j=σ i∧h.get i=co p∧o=p.bY σ
 | [],j,o,hj,_=>by simp[nA,AH.get]at hj
 |(i,io)::r,j,o,hj,hi=>by
  simp only[nA]at hj;rw[AH.ax]at hj;split at hj
  .cases hj
  .rename_i u;obtain⟨k,p,h1,x,y⟩:=uN r j o hj (fun a b A=>hi a b (VE _ A));refine⟨k,p,h1,?_,y⟩;rw[AH.ax,be (fun e=>u (by rw[h1,e]))];exact x
 |(i,co q)::r,j,o,hj,hi=>by
  simp only[nA]at hj;rw[AH.ax]at hj;split at hj
  .rename_i B;exact⟨i,q,B,by rw[AH.ax,am Z],by simpa using hj.symm⟩
  .rename_i u;obtain⟨k,p,h1,x,y⟩:=uN r j o hj (fun a b A=>hi a b (VE _ A));refine⟨k,p,h1,?_,y⟩;rw[AH.ax,be (fun e=>u (by rw[h1,e]))];exact x
def cF:Nat->List AO->AH
 |_,[]=> []
 |n,o::r=>(n,co o)::cF (n+1) r
theorem su: ∀(os:List AO) (n i:Nat),(cF n os).get i=if n<=i then os[i-n]? else io
 | [],n,i=>by simp[cF,AH.get]
 |o::r,n,i=>by
  simp only[cF];rw[AH.ax,su r (n+1) i];by_cases h:i=n
  .subst h;simp
  .by_cases j:n<=i
   .rw[be h,am (by omega),am j,show i-n=(i-(n+1))+1 by omega];simp
   .rw[be h,be (by omega),be j]
def fm(P:Program)(k:FuncId):Prop:= ∀(args:Array Value) (w:World),(callFunc k args).run P w= .ok (.enter k args) w
theorem bb {P:Program} {k:FuncId} {fn:Func} {c:Code} (hf:P.funcs[k]? =co fn) (hb:fn.body=co c) (hn:(fn.name== "runtime.NumGoroutine")=jp):fm P k:=by
 intro args w;have j: ¬fn.name= "runtime.NumGoroutine" :=by simpa using hn
 simp[callFunc,program,Sem.run,hf,hb,j]
def Fn(P:Program)(k:FuncId)(args:List PV)(os:List AO)(R:PV->AH->Nat->Prop):Prop:=
 fm P k∧ ∀M N w (vs:List Value),Rel M N (· <os.length) (cF 0 os) w->args.length=vs.length->(∀(j:Nat) (p:PV),args[j]? =co p->VR M N (· <os.length) p (vs.getD j undef))->
  Calls P k vs.toArray w fun e C=> ∃x y A r B u,e= .returned x∧R r B u∧Ext M N (· <os.length) (cF 0 os) w y A (· <u) B C∧Rel y A (· <u) B C∧VR y A (· <u) r x
def BG:List Nat->AH
 | []=> []
 |j::r=>(j,io)::BG r
def AH.keys:AH->List Nat
 | []=> []
 |(i,_)::r=>i::AH.keys r
theorem AH.get_append: ∀(a b:AH) (j:Nat),AH.get (a++b) j=if j∈a.keys then a.get j else b.get j
 | [],b,j=>by simp[AH.keys]
 |(i,o)::r,b,j=>by
  rw[VT,AH.ax,AH.ax,AH.get_append r b j];by_cases h:j=i
  .simp[h,AH.keys]
  .simp[h,AH.keys]
theorem xT: ∀L:List Nat,(BG L).keys=L
 | []=>rfl
 |j::r=>by simp[BG,AH.keys,xT r]
theorem BF: ∀(L:List Nat) (j:Nat),(BG L).get j=io
 | [],_=>rfl
 |i::r,j=>by rw[BG,AH.ax,BF r j];split<;>rfl
theorem Dz{L:List Nat}{n:Nat}(hnd:L.Nodup)(x: ∀j∈L,j<n): ∀i k,sig L n i=sig L n k->i=k:=by
 intro i k h;rcases Wp i L.length with hi|hi<;>rcases Wp k L.length with hk|hk
 .rw[jy hi,jy hk]at h;have y:=WI.1 hnd;rcases XA i k with u|he|hgt
  .exact absurd h (y i k hi hk u)
  .exact he
  .exact absurd h.symm (y k i hk hi hgt)
 .rw[jy hi,pW hk]at h;have:=x _ (Wj hi);omega
 .rw[pW hi,jy hk]at h;have:=x _ (Wj hk);omega
 .rw[pW hi,pW hk]at h;omega
section
variable {P:Program} {nt:NT} {s:AS}
def aA(s:AS)(L:List Nat)(j:AH)(u:Nat):AS:={f:=s.f,h:=nA (sig L s.nx) j++(BG L++s.h),nx:=s.nx+(u-L.length)}
def RK(C:Array Value->World->(Ending->World->Prop)->Prop)(args:List PV)(os:List AO)(R:PV->AH->Nat->Prop):Prop:=
 ∀M N w (vs:List Value),Rel M N (· <os.length) (cF 0 os) w->args.length=vs.length->(∀(j:Nat) (p:PV),args[j]? =co p->VR M N (· <os.length) p (vs.getD j undef))->
  C vs.toArray w fun e D=> ∃x y A r B u,e= .returned x∧R r B u∧Ext M N (· <os.length) (cF 0 os) w y A (· <u) B D∧Rel y A (· <u) B D∧VR y A (· <u) r x
theorem RK.calls{C:Array Value->World->(Ending->World->Prop)->Prop}(hC: ∀vs w (R R':Ending->World->Prop),C vs w R->(∀e w',R e w'->R' e w')->C vs w R'){args:List PV}{os:List AO}{R:PV->AH->Nat->Prop}(hc:RK C args os R){L:List Nat}(hnd:L.Nodup)(hL: ∀j∈L,j<s.nx)
  (j0:L.map s.h.get=os.map fun o=>co (o.bY (sig L s.nx))) {M:Mem} {N:Nm} {w:World} (hr:Rel M N (· <s.nx) s.h w) {vs:List Value} (hl:args.length=vs.length)
  (hv: ∀(j:Nat) (p:PV),args[j]? =co p->VR M N (· <s.nx) (p.bY (sig L s.nx)) (vs.getD j undef)):
  C vs.toArray w fun e w'=> ∃x M' N' r h' n',e= .returned x∧R r h' n'∧Ext M N (· <s.nx) s.h w M' N' (· <(aA s L h' n').nx) (aA s L h' n').h w'∧
   Rel M' N' (· <(aA s L h' n').nx) (aA s L h' n').h w'∧VR M' N' (· <(aA s L h' n').nx) (r.bY (sig L s.nx)) x:=by
 have c0:L.length=os.length:=by simpa using congrArg XS j0
 have hU:(fun i=>sig L s.nx i<s.nx)=(· <os.length):=by
  funext i
  apply propext;rcases Wp i L.length with hi|hi
  .rw[jy hi];exact⟨fun _=>by omega,fun _=>hL _ (Wj hi)⟩
  .rw[pW hi];omega
 have f0: ∀i (hi:i<L.length),s.h.get L[i]=(os[i]?).map (AO.bY (sig L s.nx)):=by
  intro i hi;have:=congrArg (fun l=>l[i]?) j0;simp only[Vv,Vt hi,Ww]at this;have J:os[i]? =co (os[i]'(by omega)):=Vt (by omega);rw[J]at this ⊢;simpa using this
 have A: ∀i o,(cF 0 os).get i=co o->i<L.length∧s.h.get (sig L s.nx i)=co (o.bY (sig L s.nx)):=by
  intro i o hi;rw[su,am (VB _),Yb]at hi;have d0:i<L.length:=by rw[c0];exact(Vs.1 hi).1
  refine⟨d0,?_⟩;rw[jy d0,f0 i d0,hi];rfl
 have i0:Rel M (N.comp (sig L s.nx)) (· <os.length) (cF 0 os) w:=by
  refine⟨hr.dA,fun i o hi=>by rw[<-c0];exact(A i o hi).1,fun i o hi u=>hr.dG _ _ (A i o hi).2 ((AO.cg _ o).trans u),fun i o hi=>?_,fun i j o p hi B J hp D=>?_⟩
  .have:=OR.qC (hr.obj _ _ (A i o hi).2);rw[hU]at this;exact this
  .exact Dz hnd hL i j (hr.inj _ _ _ _ (A i o hi).2 (A j p B).2 ((AO.cg _ o).trans J) ((AO.cg _ p).trans hp) D)
 refine hC _ _ _ _ (hc M (N.comp (sig L s.nx)) w vs i0 hl (fun j p hp=>by have:=(hv j p hp).qC Z;rw[hU]at this;exact this)) ?_;rintro e w' ⟨x,M',N',r,h',n',rfl,hR,hx,hr',hvr⟩;have m0:os.length<=n':=W9 fun d0=>by have:=hx.ule n' d0;omega
 let N2:Nm:={az:=fun j=>if j<s.nx then N.az j else N'.az (L.length+(j-s.nx)),ext:=fun j=>if j<s.nx then N.ext j else N'.ext (L.length+(j-s.nx))}
 have Y:N.agree N2 (· <s.nx):=⟨fun i hi=>by simp[N2,hi],fun i hi=>by simp[N2,hi]⟩
 have a0: ∀i,N2.az (sig L s.nx i)=N'.az i∧N2.ext (sig L s.nx i)=N'.ext i:=by
  intro i;rcases Wp i L.length with hi|hi
  .have h1:sig L s.nx i<s.nx:=by rw[jy hi];exact hL _ (Wj hi)
   have y:=hx.nm.az i (by omega);have I:=hx.nm.ext i (by omega);simp only[Nm.comp]at y I;simp[N2,h1,y,I]
  .rw[pW hi];have h1: ¬s.nx+(i-L.length)<s.nx:=by omega
   have y:L.length+(s.nx+(i-L.length)-s.nx)=i:=by omega
   constructor<;>simp only[N2,be h1,y]
 have b0:N'.agree (N2.comp (sig L s.nx)) (· <n'):=⟨fun i _=>(a0 i).1,fun i _=>(a0 i).2⟩
 have e0: ∀i,i<n'->sig L s.nx i<s.nx+(n'-L.length):=by
  intro i hi;rcases Wp i L.length with h1|h1
  .rw[jy h1];have:=hL _ (Wj h1);omega
  .rw[pW h1];omega
 have G: ∀j o,(aA s L h' n').h.get j=co o->(∃i p,j=sig L s.nx i∧h'.get i=co p∧o=p.bY (sig L s.nx))∨(j∉L∧s.h.get j=co o):=by
  intro j o B;simp only[aA]at B;rw[AH.get_append]at B;split at B
  .exact .inl (uN h' j o B (fun i k _ h=>Dz hnd hL i k h))
  .rw[AH.get_append]at B;split at B
   .rw[BF]at B;cases B
   .rename_i hd;rw[xT]at hd;exact .inr ⟨hd,B⟩
 have g0: ∀j o,j∉L->s.h.get j=co o->o.real=is->w'.heap[N.az j]? =w.heap[N.az j]? :=by
  intro j o B J u;refine hx.gu _ (hr.lt J u) (fun i p hi hp he=>?_);obtain⟨h1,y⟩:=A i p hi;have:=hr.inj _ _ _ _ y J ((AO.cg _ p).trans hp) u he;rw[jy h1]at this;exact B (this▸Wj h1)
 refine⟨x,M',N2,r,h',n',rfl,hR,?_,?_,?_⟩
 .refine⟨hx.os,hx.tape,hx.output,hx.size,fun b hb k0=>hx.gu b hb (fun i o hi J he=>k0 _ _ (A i o hi).2 ((AO.cg _ o).trans J) he),hx.nZ,fun b c h1 y=>?_,Y,fun i hi=>by simp only[aA];omega,fun j o B u=>?_⟩
  .rcases hx.iq b c h1 y with I|⟨i,o,I,J,h4⟩
   .exact .inl I
   .exact .inr ⟨_,_,(A i o I).2,(AO.cg _ o).trans J,h4⟩
  .rcases G j o B with⟨i,p,rfl,h1,rfl⟩|⟨h1,y⟩
   .rw[AO.cg]at u;rw[(a0 i).1];rcases hx.gh i p h1 u with I|⟨k,q,I,hq,h4⟩
    .exact .inl I
    .exact .inr ⟨_,_,(A k q I).2,(AO.cg _ q).trans hq,h4⟩
   .exact .inr ⟨j,o,y,u,(Y.az j (hr.used j o y)).symm⟩
 .refine⟨hr'.dA,fun j o B=>?_,fun j o B u=>?_,fun j o B=>?_,fun i j o p hi B J hp D=>?_⟩
  .rcases G j o B with⟨i,p,rfl,h1,rfl⟩|⟨h1,y⟩
   .exact e0 i (hr'.used i p h1)
   .have:=hr.used j o y;simp only[aA];omega
  .rcases G j o B with⟨i,p,rfl,h1,rfl⟩|⟨h1,y⟩
   .rw[AO.cg]at u;rw[(a0 i).1];exact hr'.dG i p h1 u
   .rw[Y.az j (hr.used j o y)];cases hm:M' (N.az j) with
    |none=>rfl
    |some c=>
     rcases hx.iq _ c (hr.dG j o y u) hm with I|⟨i,q,I,hq,h4⟩
     .have:=hr.lt y u;omega
     .obtain⟨h5,h6⟩:=A i q I;have:=hr.inj _ _ _ _ h6 y ((AO.cg _ q).trans hq) u h4;rw[jy h5]at this;exact absurd (this▸Wj h5) h1
  .rcases G j o B with⟨i,p,rfl,h1,rfl⟩|⟨h1,y⟩
   .refine OR.bY ?_;exact(hr'.obj i p h1).mono (.refl _) b0 (fun i hi=>e0 i hi) (hr'.used i p h1) Z
   .cases u:o.real with
    |true=>exact(hr.obj j o y).mono hx.nZ Y (fun i hi=>by simp only[aA];omega) (hr.used j o y) (g0 j o h1 y u)
    |false=>
     cases o with
     |row sz es=>cases es with
      |nil=>exact .inl Z
      |cons=>cases u
     |bu l T=>cases l with
      |nil=>exact .inl Z
      |cons=>cases u
     |_=>cases u
  .rcases G i o hi with⟨i',o',rfl,h1,rfl⟩|⟨h1,y⟩<;>rcases G j p B with⟨j',p',rfl,I,rfl⟩|⟨I,h4⟩
   .rw[AO.cg]at J hp;rw[(a0 i').1,(a0 j').1]at D;rw[hr'.inj i' j' o' p' h1 I J hp D]
   .rw[AO.cg]at J;rw[(a0 i').1,Y.az j (hr.used j p h4)]at D;rcases hx.gh i' o' h1 J with h5|⟨k,q,h5,hq,h6⟩
    .have:=hr.lt h4 hp;omega
    .obtain⟨h7,h8⟩:=A k q h5;have:=hr.inj _ _ _ _ h8 h4 ((AO.cg _ q).trans hq) hp (h6.trans D);rw[jy h7]at this;exact absurd (this▸Wj h7) I
   .rw[AO.cg]at hp;rw[Y.az i (hr.used i o y),(a0 j').1]at D;rcases hx.gh j' p' I hp with h5|⟨k,q,h5,hq,h6⟩
    .have:=hr.lt y J;omega
    .obtain⟨h7,h8⟩:=A k q h5;have:=hr.inj _ _ _ _ h8 y ((AO.cg _ q).trans hq) J (h6.trans D.symm);rw[jy h7]at this;exact absurd (this▸Wj h7) h1
   .rw[Y.az i (hr.used i o y),Y.az j (hr.used j p h4)]at D;exact hr.inj _ _ _ _ y h4 J hp D
 .exact VR.bY (hvr.mono (.refl _) b0 (fun i hi=>e0 i hi))
theorem Fn.calls{k:FuncId}{args:List PV}{os:List AO}{R:PV->AH->Nat->Prop}(hc:Fn P k args os R){L:List Nat}(hnd:L.Nodup)(I: ∀j∈L,j<s.nx)
  (D:L.map s.h.get=os.map fun o=>co (o.bY (sig L s.nx))) {M:Mem} {N:Nm} {w:World} (hr:Rel M N (· <s.nx) s.h w) {vs:List Value} (hl:args.length=vs.length)
  (J: ∀(j:Nat) (p:PV),args[j]? =co p->VR M N (· <s.nx) (p.bY (sig L s.nx)) (vs.getD j undef)):
  Calls P k vs.toArray w fun e G=> ∃x A B r u y,e= .returned x∧R r u y∧Ext M N (· <s.nx) s.h w A B (· <(aA s L u y).nx) (aA s L u y).h G∧
   Rel A B (· <(aA s L u y).nx) (aA s L u y).h G∧VR A B (· <(aA s L u y).nx) (r.bY (sig L s.nx)) x:=
 RK.calls (C:=Calls P k) (fun _ _ _ _ h g=>h.mono g) hc.2 hnd I D hr hl J
def PV.plain:PV->PV
 | .kb b=> .iv (.v (.bool b))
 |p=>p
theorem VR.plain{M:Mem}{N:Nm}{U:Nat->Prop}{p:PV}{x:Value}(h:VR M N U p x):VR M N U p.plain x:=by
 cases h with
 |kb=>exact .iv _ _ (.v _)
 |iv _ _ h1=>exact .iv _ _ h1
 |agg _ _ h1 h2=>exact .agg _ _ h1 h2
 |aZ _ _ h1 h2=>exact .aZ _ _ h1 h2
 |ptr _ _ h1=>exact .ptr _ _ h1
 |cM _ _ _ _ h1=>exact .cM _ _ _ _ h1
 |eL _ _ h1=>exact .eL _ _ h1
 |nI _ _ _ h1=>exact .nI _ _ _ h1
 |sl _ _ _ _ _ h1 h2 h3 h4 h5=>exact .sl _ _ _ _ _ h1 h2 h3 h4 h5
 |kP _ _ h1=>exact .kP _ _ h1
 |sle _ _ _ h1 h2 h3=>exact .sle _ _ _ h1 h2 h3
 |mp _ h1=>exact .mp _ h1
 |cm _ _ _ _ _ h1 h2 h3 h4=>exact .cm _ _ _ _ _ h1 h2 h3 h4
 |any=>exact .any _
def bN(f:AF)(c:Call):Option (FuncId×List PV):=
 match c.callee with
 | .value g=>match ev f g with
  | .cm (.func k) first caps=>co (k,first++(c.args.toList.map (fun x=>(ev f x).plain)++caps))
  |_=>io
 |_=>io
theorem vB{M:Mem}{N:Nm}{a:Act}{w:World}(hf:Fits M N s nt a w){o:Oper}{c:Call}(ho:o.op= .call c){k:FuncId}{asv:List PV}(ha:bN s.f c=co (k,asv))(hc:fm P k):
  ∃vs:List Value,(execOp a.eval o).run P w= .ok (.enter k vs.toArray) w∧asv.length=vs.length∧ ∀(j:Nat) (p:PV),asv[j]? =co p->VR M N (· <s.nx) p (vs.getD j undef):=by
 unfold bN at ha;obtain⟨callee,u,B⟩:=c;cases callee with
 |value g=>
  simp only at ha;have C:=aN hf.2.1 g;split at ha
  .rename_i k' first caps hev;simp only[Vq,VC]at ha;obtain⟨rfl,rfl⟩:=ha;rw[hev]at C;generalize Y:a.eval g=v at C;cases C with
   |cm _ _ _ f' c' h1 h2 hr1 hr2=>
    have I:(u.toList.map (fun x=>(ev s.f x).plain)).length=(u.map a.eval).size∧ ∀j p,(u.toList.map (fun x=>(ev s.f x).plain))[j]? =co p->VR M N (· <s.nx) p ((u.map a.eval).getD j undef):=by
     refine⟨by simp,fun j p y=>?_⟩;rw[Vv,Vw]at y;obtain⟨x,hx,rfl⟩:=y;have G:u[j]? =co x:=by simpa using hx
     rw[Vn,X6,G];exact(aN hf.2.1 x).plain
    have A:(execOp a.eval o).run P w= .ok (.enter k' (f'++u.map a.eval++c')) w:=by
     simp only[execOp,ho,resolve,Y,Deferred.ofValue,pure_bind,invoke];exact hc _ w
    have D: ∀(j:Nat) (p:PV),(first++(u.toList.map (fun x=>(ev s.f x).plain)++caps))[j]? =co p->VR M N (· <s.nx) p ((f'++u.map a.eval++c').toList.getD j undef):=by
     intro j p y;have J:(u.toList.map (fun x=>(ev s.f x).plain)).length=(u.map a.eval).size:=I.1;rw[Vr,YS,YS,VF];rcases Wp j first.length with hj|hj
     .rw[VJ hj]at y;rw[VJ (by simpa[<-h1]using hj)];have:=hr1 j p y;rw[Vn]at this;simpa using this
     .rw[VK hj]at y;rw[VK (by simpa[<-h1]using hj)];rcases Wp (j-first.length) (u.toList.map (fun x=>(ev s.f x).plain)).length with hj2|hj2
      .rw[VJ hj2]at y;rw[VJ (by simp[<-h1]at hj2 ⊢;omega)];have:=I.2 _ p y;rw[Vn]at this;simpa[<-h1]using this
      .rw[VK hj2]at y;rw[VK (by simp[<-h1]at hj2 ⊢;omega)];have:=hr2 _ p y;rw[Vn]at this;simpa[<-h1]using this
    refine⟨(f'++u.map a.eval++c').toList,by rw[W5];exact A,?_,D⟩;simp[<-h1,<-h2]
  .cases ha
 |_=>simp at ha
theorem lj{o:Oper}{c:Call}(ho:o.op= .call c){k:FuncId}{asv:List PV}(ha:bN s.f c=co (k,asv)){args:List PV}{os:List AO}{R:PV->AH->Nat->Prop}(hc:Fn P k args os R)
  {L:List Nat} (hnd:L.Nodup) (hL: ∀j∈L,j<s.nx) (J:L.map s.h.get=os.map fun o=>co (o.bY (sig L s.nx))) (u:asv=c7 (sig L s.nx) args) {S:AS->Prop}
  (hS: ∀r y A,R r y A-> ∃s',putDst nt o (r.bY (sig L s.nx)) (aA s L y A)=co s'∧S s'):OT P nt o s S:=by
 intro M N a w hf K Z hk;obtain⟨vs,h1,Y,h3⟩:=vB hf ho ha hc.1;have C:args.length=vs.length:=by rw[<-Y,u,bG,VS]
 unfold Oper.wp;rw[h1];simp only[Oper.upon];refine(hc.calls hnd hL J hf.1 C (fun j p G=>h3 j (p.bY (sig L s.nx)) (by rw[u,bG,Vv,G];rfl))).mono ?_;rintro e I ⟨x,M',N',r,y,A,rfl,hR,hx,hr,hvr⟩;obtain⟨s',G,D⟩:=hS r y A hR;have B:Fits M' N' (aA s L y A) nt a I:=⟨hr,hf.2.1.ext hx,hf.2.2⟩
 show K (a.put o.dst x) I;cases hd:o.dst with
 |none=>
  have:=dF G hd;subst this;exact hk M' N' _ _ I hx B D
 |some d=>
  obtain⟨h1,rfl⟩:=dE G hd;exact hk M' N' {aA s L y A with f:=(d,r.bY (sig L s.nx))::(aA s L y A).f} _ I hx (B.put d _ x h1 hvr) D
def mj:Nat->List PV->AF
 |_,[]=> []
 |n,p::r=>(n,p)::mj (n+1) r
theorem vR: ∀(l:List PV) (n i:Nat),(mj n l).get i=if n<=i then l.getD (i-n) .any else .any
 | [],n,i=>by simp[mj,AF.get]
 |p::r,n,i=>by
  simp only[mj];rw[AF.ax,vR r (n+1) i];by_cases h:i=n
  .subst h;simp
  .by_cases j:n<=i
   .rw[be h,am (by omega),am j,show i-n=(i-(n+1))+1 by omega];simp
   .rw[be h,be (by omega),be j]
def yy(ty:Ty)(s:AS):ResultVar->Option PV
 | .tmp t=>match s.f.get t with
  | .kb b=>co (.iv (.v (.bool b)))
  |p=>co p
 | .cell a t=>match ty t with
  |some e=>match behind s.h (s.f.get a) with
   |some cs=>gU e cs
   |none=>io
  |none=>io
def rX(ty:Ty)(s:AS):List ResultVar->Option (List PV)
 | []=>co []
 |v::r=>match yy ty s v with
  |some p=>match rX ty s r with
   |some l=>co (p::l)
   |none=>io
  |none=>io
def iL(ty:Ty)(s:AS)(l:List ResultVar):Option PV:=
 match rX ty s l with
 |some [p]=>co p
 |some l=>co (.aZ l)
 |none=>io
def p3(tmps:Array Value):ResultVar->Sem Value
 | .tmp t=>pure (tmps.getD t undef)
 | .cell a t=>do loadVar t (<-asAddr (tmps.getD a undef))
theorem Fh{ty:Ty}(A:bn P ty){M:Mem}{N:Nm}{a:Act}{w:World}(hf:Fits M N s nt a w){v:ResultVar}{p:PV}(h:yy ty s v=co p):
  ∃x,(p3 a.tmps v).run P w= .ok x w∧VR M N (· <s.nx) p x:=by
 cases v with
 |tmp t=>
  simp only[yy]at h;have:=hf.2.1 t;split at h
  .rename_i b hb;simp only[Vq]at h;subst h;rw[hb]at this;refine⟨_,rfl,?_⟩;show VR M N _ _ (a.tmps.getD t undef);generalize a.tmps.getD t undef=v at this;cases this;exact .iv _ _ (.v _)
  .simp only[Vq]at h;subst h;exact⟨_,rfl,this⟩
 |cell b t=>
  simp only[yy]at h;split at h
  .rename_i e B;split at h
   .rename_i J u;obtain⟨I,a0,D,j⟩:=x6 hf.1 (hf.2.1 b) u;obtain⟨y,G,C⟩:=sU (P:=P) (A t e B) j h;refine⟨y,?_,C⟩;simp only[p3,D,asAddr,pure_bind];exact G
   .cases h
  .cases h
theorem xb{ty:Ty}(y:bn P ty){M:Mem}{N:Nm}{a:Act}{w:World}(hf:Fits M N s nt a w): ∀{l:List ResultVar} {A:List PV},rX ty s l=co A->
  ∃B:List Value,(l.mapM (p3 a.tmps)).run P w= .ok B w∧A.length=B.length∧ ∀(j:Nat) (p:PV),A[j]? =co p->VR M N (· <s.nx) p (B.getD j undef)
 | [],A,h=>by
  simp only[rX,Vq]at h;subst h;exact⟨[],rfl,rfl,by simp⟩
 |v::r,A,h=>by
  simp only[rX]at h;split at h
  .rename_i p I;split at h
   .rename_i l hl;simp only[Vq]at h;subst h;obtain⟨x,Y,J⟩:=Fh y hf I;obtain⟨B,G,u,D⟩:=xb y hf hl;refine⟨x::B,?_,by simp[u],fun j q C=>?_⟩
    .rw[List.mapM_cons,Sem.run_bind,Y,Result.andThen_ok,Sem.run_bind,G];rfl
    .cases j with
     |zero=>simp at C;subst C;exact J
     |succ j=>simpa using D j q (by simpa using C)
   .cases h
  .cases h
theorem tM{ty:Ty}(I:bn P ty){M:Mem}{N:Nm}{a:Act}{w:World}(hf:Fits M N s nt a w){fn:Func}{l:List ResultVar}(hl:fn.results.toList=l){p:PV}(h:iL ty s l=co p):
  ∃x,(results fn a.tmps).run P w= .ok x w∧VR M N (· <s.nx) p x:=by
 unfold iL at h;have key: ∀D,rX ty s l=co D-> ∃y:List Value,(fn.results.mapM (p3 a.tmps)).run P w= .ok y.toArray w∧D.length=y.length∧ ∀(j:Nat) (p:PV),D[j]? =co p->VR M N (· <s.nx) p (y.getD j undef):=by
  intro D C;obtain⟨y,h1,u,G⟩:=xb I hf C;refine⟨y,?_,u,G⟩;have e:fn.results.mapM (p3 a.tmps)=(List.toArray<$>(fn.results.toList.mapM (p3 a.tmps))):=by
   rw[Ys]
  rw[e,hl,Sem.run_map,h1];rfl
 have A:results fn a.tmps=(do let vs<-fn.results.mapM (p3 a.tmps);pure (if h:vs.size=1 then vs[0] else .tuple vs)):=by
  unfold results;rfl
 split at h
 .rename_i q Y;simp only[Vq]at h;subst h;obtain⟨y,h1,u,G⟩:=key _ Y
  match y,u with
  | [x],_=>
   refine⟨x,?_,by simpa using G 0 q Z⟩;rw[A,Sem.run_bind,h1];rfl
 .rename_i D B C;simp only[Vq]at h;subst h;obtain⟨y,h1,u,G⟩:=key _ C;refine⟨.tuple y.toArray,?_,.aZ _ _ (by simpa using u) (fun j p J=>?_)⟩
  .rw[A,Sem.run_bind,h1,Result.andThen_ok];have: ¬y.toArray.size=1:=by
    intro e
    match D,B,u with
    | [q],B,_=>exact B q Z
    | [],_,u=>simp at u e;omega
    |_::_::_,_,u=>simp at u e;omega
   rw[dif_neg this];rfl
  .have:=G j p J;rw[Vn];rw[Vr]at this;simpa using this
 .cases h
theorem Ep{fn:Func}{nt:Nat}(A:fn.ntmps=nt){args:List PV}(y:args.length<=nt){os:List AO}{M:Mem}{N:Nm}{w:World}{vs:List Value}(hr:Rel M N (· <os.length) (cF 0 os) w)(u:args.length=vs.length)
  (B: ∀(j:Nat) (p:PV),args[j]? =co p->VR M N (· <os.length) p (vs.getD j undef)):Fits M N ⟨mj 0 args,cF 0 os,os.length⟩ nt {tmps:=vs.toArray++Xv (fn.ntmps-vs.toArray.size) undef,defers:=[]} w:=by
 refine⟨hr,fun i=>?_,rfl,by simp;omega⟩;rw[vR,am (VB _),Yb,Vr];cases hi:args[i]? with
 |none=>exact .any _
 |some p=>
  have x:i<vs.length:=by rw[<-u];exact(Vs.1 hi).1
  have:=B i p hi;have e:(vs.toArray++Xv (fn.ntmps-vs.toArray.size) undef).getD i undef=vs.getD i undef:=by
   rw[Vn,V3 (by simpa using x),Vr];simp
  simp only[Wv];rw[e];exact this
theorem EG{ty:Ty}(a0:bn P ty){fn:Func}{c:Code}{nt:Nat}(I:fn.ntmps=nt)
  {l:List ResultVar} (hl:fn.results.toList=l) {args:List PV} (G:args.length<=nt) {os:List AO} {R:PV->AH->Nat->Prop}
  (h:GO P nt [.code c] (fun e s=>(e= .normal∨e= .ret)∧ ∃r,iL ty s l=co r∧R r s.h s.nx) ⟨mj 0 args,cF 0 os,os.length⟩):
  RK (fun vs w R=>c.wp P (bodyPost P fn R) {tmps:=vs++Xv (fn.ntmps-vs.size) undef,defers:=[]} w) args os R:=by
 intro M N w vs hr A hv;refine AW.then h (Ep I G hr A hv) fun e a' C u y s' hx j hq=>?_;simp only[kp]at hq;obtain⟨he,r,J,Y⟩:=hq;obtain⟨x,b0,c0⟩:=tM a0 j hl J
 have:a'.defers=[]∧ ∃v,(results fn a'.tmps).run P C= .ok v C∧(∃x u y r D B,Ending.returned v= .returned x∧R r D B∧Ext M N (· <os.length) (cF 0 os) w u y (· <B) D C∧Rel u y (· <B) D C∧VR u y (· <B) r x):=
  ⟨j.2.2.1,x,b0,x,u,y,r,s'.h,s'.nx,rfl,Y,hx,j.1,c0⟩
 rcases he with rfl|rfl<;>exact this
theorem C4 {ty:Ty} (y:bn P ty) {k:FuncId} {fn:Func} {c:Code} (hf:P.funcs[k]? =co fn) (hb:fn.body=co c) (hn:(fn.name== "runtime.NumGoroutine")=jp) {nt:Nat} (x:fn.ntmps=nt)
  {l:List ResultVar} (hl:fn.results.toList=l) {args:List PV} (u:args.length<=nt) {os:List AO} {R:PV->AH->Nat->Prop}
  (h:GO P nt [.code c] (fun e s=>(e= .normal∨e= .ret)∧ ∃r,iL ty s l=co r∧R r s.h s.nx) ⟨mj 0 args,cF 0 os,os.length⟩):Fn P k args os R:=
 ⟨bb hf hb hn,fun M N w vs A j B=>calls_of_wp hf hb (EG y x hl u h M N w vs A j B)⟩
end
theorem FE{ops:Array Oper}{o:Oper}(hs: ∀u b,o.op≠ .select u b){a b:Act}(h: ∀d∈o.looksAt ops,a.tmps[d]? =b.tmps[d]?):
  execOp a.eval o=execOp b.eval o∧Region.wanted o (Go.yielded ops a.tmps)=Region.wanted o (Go.yielded ops b.tmps):=by
 constructor
 .refine execOp_congr o hs fun x y=>?_
  cases x with
  |tmp t=>
   have:=h t (Wi _ (List.mem_filterMap.2 ⟨.tmp t,by simpa using y,rfl⟩));simp only[Act.eval,Vn,this]
  |_=>rfl
 .unfold Region.wanted;cases hg:o.guard with
  |none=>rfl
  |some gw=>
   obtain⟨g,j⟩:=gw;have A:Go.yielded ops a.tmps g=Go.yielded ops b.tmps g:=by
    unfold Go.yielded;cases ht:(ops[g]?).bind (·.dst) with
    |none=>rfl
    |some t=>
     have:=h t (by simp[Oper.looksAt,hg,ht]);simp[this]
   simp only[A]
theorem kU{all:List Oper}{o x:Oper}(h:looks all o x=jp){d:Nat}(hd:x.dst=co d):d∉o.looksAt all.toArray:=by
 simp only[looks,hd]at h;simpa using h
theorem gK{o:Oper}{i:Nat}(h:waits o i=is): ∃e∈o.after,Region.binds .any e=is∧e.on=i:=by
 unfold waits at h;obtain⟨e,j,hb⟩:=WN.1 h;simp only[Wf]at hb;exact⟨e,by simpa using j,hb.1,VN hb.2⟩
theorem ju: ∀(l:List Oper) (n i:Nat) (o:Oper),iF n l=is->l[i]? =co o-> ∀e∈o.after,Region.binds .any e=is->e.on<n+i
 | [],n,i,o,_,h=>by simp at h
 |c::l,n,i,o,hd,h=>by
  simp only[iF,Wf,Wc]at hd;cases i with
  |zero=>
   simp at h;subst h;intro e j hb;have:=hd.1 e (by simpa using j);simp only[hb,XO,Xn]at this;exact Vm this
  |succ i=>
   have:=ju l (n+1) i o hd.2 (by simpa using h);intro e j hb;have:=this e j hb;omega
theorem count_set: ∀(l:List Bool) (i:Nat),l[i]? =co jp->(l.set i is).count jp+1=l.count jp
 | [],i,h=>by simp at h
 |c::l,0,h=>by simp at h;subst h;simp
 |c::l,i+1,h=>by
  have:=count_set l i (by simpa using h);simp only[List.set_cons_succ,List.count_cons];omega
theorem eS{listed:Array Bool}{i:Nat}(h:listed.getD i is=jp):(listed.setIfInBounds i is).toList.count jp+1=listed.toList.count jp:=by
 have j:listed.toList[i]? =co jp:=by
  rw[Vn]at h;cases hc:listed[i]? with
  |none=>simp[hc]at h
  |some c=>simp[hc]at h;subst h;simpa using hc
 have:=count_set _ _ j;rw[Array.toList_setIfInBounds];exact this
theorem sD{listed:Array Bool}{i:Nat}(h:listed.getD i is=jp):0<listed.toList.count jp:=by have:=eS h;omega
theorem fe{listed:Array Bool}{i k:Nat}(hi:i<listed.size):(listed.setIfInBounds i is).getD k is=if k=i then is else listed.getD k is:=by
 by_cases hk:k=i
 .subst hk;simp[Vn,hi]
 .rw[be hk,Vn,V1,be (fun e=>hk e.symm),Vn]
theorem eF{listed:Array Bool}{i:Nat}(h:listed.getD i is=jp):i<listed.size:=by
 rcases Wp i listed.size with h'|h'
 .exact h'
 .simp[Vn,XN h']at h
theorem mZ{listed:Array Bool}{i:Nat}(h:listed.getD i is=jp):listed.getD i jp=jp:=by
 have:=eF h;rw[Vn] at*
 simpa[this]using h
theorem p6{all:List Oper}{listed:Array Bool}(A:listed.size=all.length)(hd:iF 0 all=is)(hr:Region.ready .any all.toArray listed=[]): ∀i,listed.getD i is=is:=by
 intro i
 induction i using Nat.strongRecOn with
 |_ i ih=>
  cases hc:listed.getD i is with
  |true=>rfl
  |false=>
   have B:=eF hc;have u:all[i]? =co (all[i]'(by omega)):=Vt (by omega);have:i∈Region.ready .any all.toArray listed:=by
    refine mem_ready.2 ⟨hc,_,(by rw[Wd];exact u),fun e x hb=>?_⟩;have y:=ju all 0 i _ hd u e x hb;have:=ih e.on (by omega);have j:e.on<listed.size:=by omega
    rw[Vn]at this ⊢;simpa[j]using this
   rw[hr]at this;cases this
section
variable {P:Program} {nt:NT} {all:List Oper} {todo pend:List (Nat×Oper)} {M:Mem} {N:Nm} {s:AS} {listed:Array Bool} {a:Act} {w:World} {Q:AQ}
theorem pE.alloc{B:Bs}{o:Oper}{az:Nat}(h:pE P M N s B a w o az):aS o=is:=by
 obtain⟨t,v,d,h1,_⟩:=h;simp[aS,h1]
theorem jw.wc(u:jw P nt all){i j:Nat}{o q:Oper}(hi:all[i]? =co o)(hj:all[j]? =co q)(ha:aS o=is)(hw:waits q i=jp)(hne:j≠i):looks all q o=jp:=by
 rcases((u i o hi ha).2.2.2.2 j q hj hne).1 with h|h
 .rw[hw]at h;cases h
 .exact h
theorem ni.same{b:Act}(hb: ∀d,(∀x∈pend,listed.getD x.1 is=jp->x.2.dst≠co d)->(∀x∈todo,listed.getD x.1 is=is->x.2.dst≠co d)->a.tmps[d]? =b.tmps[d]?)
  (hns:Region.noSelect all.toArray=is) {i:Nat} {o:Oper} (ho:all[i]? =co o) (hr:i∈Region.ready .any all.toArray listed) (hp: ∀x∈pend,waits o x.1=is∨looks all o x.2=jp)
  (D: ∀x∈todo,listed.getD x.1 is=is->looks all o x.2=jp):
  execOp a.eval o=execOp b.eval o∧Region.wanted o (Go.yielded all.toArray a.tmps)=Region.wanted o (Go.yielded all.toArray b.tmps):=by
 refine FE (Region.noSelect_spec hns i o · · (by simpa using ho)) fun d hd=>hb d (fun x C hl u=>?_) (fun x C hl u=>kU (D x C hl) u hd);rcases hp x C with h|h
 .obtain⟨e,u,y,B⟩:=gK h;obtain⟨_,G,A,j⟩:=mem_ready.1 hr;have:G=o:=by have:=A.symm.trans (by simpa using ho:all.toArray[i]? =co o);exact Wq this
  subst this;have h1:=j e u y;rw[B,mZ hl]at h1;cases h1
 .exact kU h u hd
theorem fI(a:Act)(a0:Option Tmp)(v:Value)(d:Nat):(a.put a0 v).tmps[d]? =if a0=co d∧d<a.tmps.size then co v else a.tmps[d]? :=by
 cases a0 with
 |none=>simp[Act.put]
 |some e=>
  simp only[Act.put,Vq];rw[V1];by_cases h:e=d
  .subst h;by_cases j:e<a.tmps.size
   .simp[j]
   .simp[j]
  .simp[h]
theorem jh(a:Act)(a0:Option Tmp)(v:Value):(a.put a0 v).tmps.size=a.tmps.size:=by cases a0<;>simp[Act.put]
theorem kR(a:Act)(a0:Option Tmp)(v:Value):(a.put a0 v).defers=a.defers:=by cases a0<;>rfl
theorem xf(a:Act)(a0:Option Tmp)(v:Value):(a.put a0 v).put a0 v=a.put a0 v:=by cases a0<;>simp[Act.put]
theorem pE.put{B:Bs}{o:Oper}{az:Nat}(h:pE P M N s B a w o az){a0:Option Tmp}{v:Value}(hd: ∀d,o.dst=co d->a0≠co d):pE P M N s B (a.put a0 v) w o az:=by
 obtain⟨t,u,d,h1,x,j,y,A⟩:=h;refine⟨t,u,d,h1,x,j,?_,A⟩;rw[fI,be (fun C=>hd d j C.1)];exact y
theorem ni.take{B:Bs}(hi:ni P nt all todo pend B M N s listed a w)(hns:Region.noSelect all.toArray=is)(e0:jw P nt all){x:Nat×Oper}(C:x∈pend)(hr:x.1∈Region.ready .any all.toArray listed):
  ∃v,YieldsAt P all.toArray w x.2 v a∧ni P nt all todo pend B M N s (listed.setIfInBounds x.1 is) (a.put x.2.dst v) w:=by
 obtain⟨b,hb,c0,m0,d0,G⟩:=hi.ap;obtain⟨bl,f0,n0⟩:=hi.er;have hl:=(mem_ready.1 hr).1;obtain⟨v,hv,b0⟩:=G x C hl;have I: ∀y∈todo,listed.getD y.1 is=is->looks all x.2 y.2=jp∧ ∀d,y.2.dst=co d->x.2.dst≠co d:=fun y j u=>by
  have J:=(f0 y j u).alloc;exact⟨e0.wc (hi.tl y j) (hi.pl x C) J (hi.pa x C y j J) (fun e=>hi.dj x C y j e.symm),((e0 _ _ (hi.tl y j) J).2.2.2.2 _ _ (hi.pl x C) (fun e=>hi.dj x C y j e.symm)).2⟩
 have A:=ni.same d0 hns (hi.pl x C) hr (fun y G=>hi.pp y G x C) (fun y j u=>(I y j u).1);have a0:=eF hl;have g0: ∀k,(listed.setIfInBounds x.1 is).getD k is=jp->k≠x.1∧listed.getD k is=jp:=by
  intro k hk;rw[fe a0]at hk;split at hk
  .cases hk
  .rename_i h;exact⟨h,hk⟩
 have D: ∀y∈todo,(listed.setIfInBounds x.1 is).getD y.1 is=listed.getD y.1 is:=fun y G=>by rw[fe a0,be (hi.dj x C y G)]
 refine⟨v,hv.of_same A.1 A.2,⟨by simp[hi.size],hi.tl,hi.pl,hi.dj,fun i o ho hu=>hi.MN i o ho (g0 i hu).2,hi.pw,hi.pp,hi.pa,⟨bl,fun y j u=>?_,fun y j z j0 h1 h2=>?_⟩,b,hb,by rw[jh,c0],by rw[kR,m0],fun d hd k0=>?_,fun y o0 hu=>?_⟩⟩
 .rw[D y j]at u;exact(f0 y j u).put (I y j u).2
 .rw[D y j]at h1;rw[D z j0]at h2;exact n0 y j z j0 h1 h2
 .rw[fI];split
  .rename_i h;rw[<-b0,fI,am ⟨h.1,by rw[<-c0];exact h.2⟩]
  .rename_i h;by_cases Y:x.2.dst=co d
   .have h2: ¬d<a.tmps.size:=fun h3=>h ⟨Y,h3⟩
    rw[XN (W9 h2),XN (by rw[<-c0];exact W9 h2)]
   .refine d0 d (fun y G hu he=>?_) (fun y j u=>k0 y j (by rw[D y j];exact u));by_cases i0:y.1=x.1
    .have h3:=hi.pl y G;rw[i0,hi.pl x C]at h3;rw[Wq h3]at Y;exact Y he
    .exact hd y G (by rw[fe a0,be i0];exact hu) he
 .exact G y o0 (g0 _ hu).2
theorem Rel.more{M:Mem}{N:Nm}{n:Nat}{h:AH}{w u:World}(hr:Rel M N (· <n) h w)(hk: ∀b,b<w.heap.size->u.heap[b]? =w.heap[b]?):Rel M N (· <n) h u:=by
 refine⟨fun b c hb=>?_,hr.used,hr.dG,fun i o j=>?_,hr.inj⟩
 .exact(hr.dA b c hb).mono (hk b (hr.dA b c hb).lt)
 .cases hre:o.real with
  |true=>exact(hr.obj i o j).mono (.refl _) (.refl _ _) (fun _ h=>h) (hr.used i o j) (hk _ (hr.lt j hre))
  |false=>
   cases o with
   |row sz es=>cases es with
    |nil=>exact .inl Z
    |cons=>cases hre
   |bu l T=>cases l with
    |nil=>exact .inl Z
    |cons=>cases hre
   |_=>cases hre
theorem Cy{ops:Array Oper}(h: ∀i,listed.getD i is=is):Region.ready .any ops listed=[]:=by
 cases hr:Region.ready .any ops listed with
 |nil=>rfl
 |cons i r=>
  have:i∈Region.ready .any ops listed:=by rw[hr];simp
  have:=(mem_ready.1 this).1;rw[h i]at this;cases this
theorem ni.done{B:Bs}(hi:ni P nt all [] pend B M N s listed a w)(j: ∀i,listed.getD i is=is):Fits M N s nt a w:=by
 obtain⟨b,hb,A,u,y,_⟩:=hi.ap;have ht:a.tmps=b.tmps:=Array.ext_getElem? fun d=>y d (fun x _ hu=>by rw[j]at hu;cases hu) (fun _ C=>(nomatch C));have:a=b:=by cases a;cases b;simp only at ht u;subst ht;subst u;rfl
 rw[this];exact hb
theorem Rf(h:Q .normal s):DL P nt all [] pend Q s:=by
 intro D hd A B M N listed a w j J
 induction j generalizing listed a with
 |zero=>
  intro x hc;have u: ∀i,listed.getD i is=is:=fun i=>by
   cases hx:listed.getD i is with
   |true=>rfl
   |false=>have:=sD hx;omega
  exact⟨Cy u,M,N,s,J,x.done u,h⟩
 |succ j ih=>
  intro x hc;refine⟨fun hr=>⟨M,N,s,J,x.done (p6 x.size hd hr),h⟩,fun i y=>?_⟩;obtain⟨hu,o,Y,_⟩:=mem_ready.1 y;have G:all[i]? =co o:=by simpa using Y
  rcases x.MN i o G hu with hm|hm
  .cases hm
  .obtain⟨v,hv,C⟩:=x.take D A hm y;refine wpOp_of_stOp (K:=fun I=>I=a.put o.dst v) (fun I ha=>?_) (hv.stOp Y Z);subst ha;exact ih _ _ C (by have:=eS hu;omega)
def wI(all:List Oper)(pend:List (Nat×Oper))(o:Oper):Bool:=
 !looks all o o&&pend.all fun y=>!looks all y.2 o&&(waits o y.1||!looks all o y.2)&&(match o.dst,y.2.dst with|some d,co e=>!VP d e|_,_=>is)
theorem ni.read{B:Bs}(hi:ni P nt all todo pend B M N s listed a w)(hns:Region.noSelect all.toArray=is){i:Nat}{o:Oper}{s':AS}(C:(i,o)∈todo)(m0:aS o=jp)(q0: ∀x∈todo,waits o x.1=jp)(j:wI all pend o=is)(he:s'.h=s.h∧s'.nx=s.nx)
  (hy: ∀M N b w,Fits M N s nt b w-> ∃v,YieldsAt P all.toArray w o v b∧Fits M N s' nt (b.put o.dst v) w):ni P nt all (todo.filter fun x=>!VP x.1 i) ((i,o)::pend) B M N s' listed a w:=by
 have G: ∀x∈todo.filter fun x=>!VP x.1 i,x∈todo∧x.1≠i:=fun x hx=>by
  obtain⟨h7,h8⟩:=V4.1 hx;exact⟨h7,fun e=>by simp[e]at h8⟩
 have h1: ∀x∈todo,x=(i,o)∨x∈todo.filter fun x=>!VP x.1 i:=fun x hx=>by
  by_cases D:x.1=i
  .have I:=hi.tl x hx;rw[D,hi.tl _ C]at I;exact .inl (by obtain⟨x1,x2⟩:=x;simp only at D I;rw[D,Wq I])
  .exact .inr (V4.2 ⟨hx,by cases hb:VP x.1 i with|false=>rfl|true=>exact absurd (VN hb) D⟩)
 simp only[wI,Wf,Wc,WA]at j;obtain⟨b,hb,n0,i0,c0,r0⟩:=hi.ap;obtain⟨bl,a0,k0⟩:=hi.er;have b0:listed.getD i is=jp:=by
  cases hl:listed.getD i is with
  |false=>rfl
  |true=>have:=(a0 _ C hl).alloc;simp only at this;rw[m0]at this;cases this
 obtain⟨v,hv,hf⟩:=hy M N b w hb;refine⟨hi.size,fun x hx=>hi.tl x (G x hx).1,fun x hx=>?_,fun x hx y hy=>?_,fun k q hk hu=>?_,?_,fun x hx y hy=>?_,fun y hyp x hx d0=>?_,⟨bl,fun x hx hl=>?_,fun x hx y hy=>k0 x (G x hx).1 y (G y hy).1⟩,b.put o.dst v,hf,by rw[jh,n0],by rw[kR,i0],fun d J g0=>?_,fun x hx hu=>?_⟩
 .rcases VH.1 hx with rfl|hx
  .exact hi.tl _ C
  .exact hi.pl x hx
 .rcases VH.1 hx with rfl|hx
  .exact(G y hy).2
  .exact hi.dj x hx y (G y hy).1
 .rcases hi.MN k q hk hu with hm|hm
  .rcases h1 _ hm with e|hm
   .exact .inr (by rw[e];simp)
   .exact .inl hm
  .exact .inr (VE _ hm)
 .refine Wz.2 ⟨fun y hy=>⟨(j.2 y hy).1.1,fun d Y j0=>?_⟩,hi.pw⟩;have:=(j.2 y hy).2;simp only at Y;rw[Y,j0]at this;simp at this
 .rcases VH.1 hx with rfl|hx<;>rcases VH.1 hy with rfl|hy
  .exact .inr j.1
  .exact .inr (j.2 y hy).1.1
  .have:=(j.2 x hx).1.2;simpa using this
  .exact hi.pp x hx y hy
 .rcases VH.1 hyp with rfl|hyp
  .exact q0 x (G x hx).1
  .exact hi.pa y hyp x (G x hx).1 d0
 .have I:=a0 x (G x hx).1 hl;unfold pE at*
  rw[he.1];exact I
 .rw[fI,be (fun hc=>J (i,o) (by simp) b0 hc.1)];refine c0 d (fun x hx=>J x (VE _ hx)) (fun x hx hl=>?_);rcases h1 x hx with e|hx
  .rw[e]at hl;simp only at hl;rw[b0]at hl;cases hl
  .exact g0 x hx hl
 .have A: ∀x:Oper,looks all x o=jp-> ∀d,o.dst=co d->d∉x.looksAt all.toArray:=fun x hx d hd=>kU hx hd
  rcases VH.1 hx with rfl|hx
  .exact⟨v,hv.of_same (execOp_put o (fun cs b=>Region.noSelect_spec hns i o cs b (by simpa using hi.tl _ C)) b o.dst v (A o j.1)) (wanted_put o b o.dst v (A o j.1)),xf _ _ _⟩
  .obtain⟨u,o0,p0⟩:=r0 x hx hu;have hl:=(j.2 x hx).1.1;refine⟨u,o0.of_same (execOp_put x.2 (fun cs b=>Region.noSelect_spec hns x.1 x.2 cs b (by simpa using hi.pl x hx)) b o.dst v (A x.2 hl)) (wanted_put x.2 b o.dst v (A x.2 hl)),?_⟩;rw[Act.put_comm b v u (fun d e0 f0=>?_),p0];have:=(j.2 x hx).2;rw[e0,f0]at this;simp at this
theorem Ew{i:Nat}{o:Oper}{s':AS}(C:(i,o)∈todo)(D:aS o=jp)(G: ∀x∈todo,waits o x.1=jp)(u:wI all pend o=is)(he:s'.h=s.h∧s'.nx=s.nx)
  (hy: ∀M N b w,Fits M N s nt b w-> ∃v,YieldsAt P all.toArray w o v b∧Fits M N s' nt (b.put o.dst v) w) (h:DL P nt all (todo.filter fun x=>!VP x.1 i) ((i,o)::pend) Q s'):DL P nt all todo pend Q s:=by
 intro y hd A B M N listed a w j I Y J;exact h y hd A B M N listed a w j (by unfold Bs.ext at*;rw[he.1,he.2];exact I) (Y.read y C D G u he hy) J
theorem oY(hns:Region.noSelect all.toArray=is): ∀{pend:List (Nat×Oper)},(∀x∈pend,all[x.1]? =co x.2)->(pend.Pairwise fun x y=>looks all y.2 x.2=jp∧ ∀d,x.2.dst=co d->y.2.dst≠co d)->
  (∀x∈pend,looks all x.2 x.2=jp)->(∀x∈pend,eQ P nt all s x.2)-> ∀{b:Act},Fits M N s nt b w->
  ∃c:Act,Fits M N s nt c w∧c.tmps.size=b.tmps.size∧c.defers=b.defers∧(∀d,(∀x∈pend,listed.getD x.1 is=jp->x.2.dst≠co d)->c.tmps[d]? =b.tmps[d]?)∧
   (∀x∈pend,listed.getD x.1 is=jp-> ∃v,YieldsAt P all.toArray w x.2 v c∧c.put x.2.dst v=c)
 | [],_,_,_,_,b,hb=>⟨b,hb,rfl,rfl,fun _ _=>rfl,fun x hx=>by cases hx⟩
 |(i,o)::pend,hpl,hpw,hse,hag,b,hb=>by
  rw[Wz]at hpw;obtain⟨c,hc,G,D,B,C⟩:=oY hns (pend:=pend) (fun x hx=>hpl x (VE _ hx)) hpw.2 (fun x hx=>hse x (VE _ hx)) (fun x hx=>hag x (VE _ hx)) hb;cases hu:listed.getD i is with
  |true=>
   refine⟨c,hc,G,D,fun d hd=>B d fun x hx=>hd x (VE _ hx),fun x hx A=>?_⟩;rcases VH.1 hx with rfl|hx
   .rw[hu]at A;cases A
   .exact C x hx A
  |false=>
   obtain⟨v,hv,hf⟩:=hag (i,o) (by simp) M N c w hc;have j: ∀x:Oper,looks all x o=jp-> ∀d,o.dst=co d->d∉x.looksAt all.toArray:=fun x hx d hd=>kU hx hd;refine⟨c.put o.dst v,hf,by rw[jh,G],by rw[kR,D],fun d hd=>?_,fun x hx A=>?_⟩
   .rw[fI,be (fun h=>hd (i,o) (by simp) hu h.1)];exact B d fun x hx=>hd x (VE _ hx)
   .rcases VH.1 hx with rfl|hx
    .have hl:=hse (i,o) (by simp);exact⟨v,hv.of_same (execOp_put o (fun I b=>Region.noSelect_spec hns i o I b (by simpa using hpl (i,o) (by simp))) c o.dst v (j o hl)) (wanted_put o c o.dst v (j o hl)),xf _ _ _⟩
    .obtain⟨u,a0,b0⟩:=C x hx A;have hl:=(hpw.1 x hx).1;refine⟨u,a0.of_same (execOp_put x.2 (fun I b=>Region.noSelect_spec hns x.1 x.2 I b (by simpa using hpl x (VE _ hx))) c o.dst v (j x.2 hl)) (wanted_put x.2 c o.dst v (j x.2 hl)),?_⟩;rw[Act.put_comm c v u (fun d J Y=>(hpw.1 x hx).2 d J Y),b0]
theorem JJ{o:Oper}{a b:Act}{w:World}{K K':Act->World->Prop}{Q:Exit->Act->World->Prop}(he:execOp a.eval o=execOp b.eval o)(u: ∀d j,¬K' ({b with defers:=d::b.defers}.put o.dst undef) j)
  (hk: ∀v j,K' (b.put o.dst v) j->K (a.put o.dst v) j) (h:o.wp P b w K' fun _ _ _=>False):o.wp P a w K Q:=by
 unfold Oper.wp at*
 rw[he];generalize(execOp b.eval o).run P w=r at*
 cases r with
 |ok n j=>
  cases n<;>simp only[Oper.upon]at h ⊢
  case value v=>exact hk _ _ h
  case skip=>exact hk _ _ h
  case defer d=>exact absurd h (u d j)
  case enter f args=>
   refine Calls.mono h fun e y he=>?_
   cases e with
   |returned v=>exact hk _ _ he
   |panicked c=>exact he.elim
   |outgrown=>obtain⟨_,_,h⟩:=he;exact h.elim
  case row row args=>exact Rows.mono h fun v y he=>hk _ _ he
 |halt x j=>cases x<;>simp only[Oper.upon]at h ⊢
def gC(all:List Oper)(pend:List (Nat×Oper))(o:Oper):Bool:=pend.all fun x=>waits o x.1||!looks all o x.2
theorem ni.early{B:Bs}(hi:ni P nt all todo pend B M N s listed a w)(hns:Region.noSelect all.toArray=is)(hd:iF 0 all=is)(m0:jw P nt all)(hB:B.ext M N s w)(c0: ∀x∈pend,eQ P nt all s x.2){j:Nat}{o:Oper}(hm:(j,o)∈todo)(ha:aS o=is)
  (hu:listed.getD j is=jp): ∃v w',(execOp a.eval o).run P w= .ok (.value v) w'∧B.ext M N s w'∧ni P nt all todo pend B M N s (listed.setIfInBounds j is) (a.put o.dst v) w':=by
 obtain⟨b,hb,j0,s0,k0,hy⟩:=hi.ap;obtain⟨bl,i0,v0⟩:=hi.er;obtain⟨h1,⟨d,I,t0⟩,⟨t,z,ht,hz⟩,_,d0⟩:=m0 j o (hi.tl _ hm) ha;have C:=eF hu;have hk: ∀b,b<w.heap.size->(w.alloc (.cells z.cells t)).heap[b]? =w.heap[b]? :=fun b hb=>zi w _ b hb
 have a0:Ext M N (· <s.nx) s.h w M N (· <s.nx) s.h (w.alloc (.cells z.cells t)):=
  ⟨rfl,rfl,⟨rfl,VA _⟩,by simp,fun b hb _=>hk b hb,.refl _,fun b c h1 h2=>by simp[h1]at h2,.refl _ _,fun _ h=>h,fun i o hi e0=> .inr ⟨i,o,hi,e0,rfl⟩⟩
 have x0: ∀x∈pend,looks all x.2 x.2=jp:=fun x A=>by
  rcases hi.pp x A x A with h7|h7
  .obtain⟨e,he,hb,d1⟩:=gK h7;have:=ju all 0 x.1 x.2 hd (hi.pl x A) e he hb;omega
  .exact h7
 obtain⟨c,p0,q0,o0,n0,r0⟩:=oY (listed:=listed.setIfInBounds j is) hns hi.pl hi.pw x0 c0 (M:=M) (N:=N) (w:=w.alloc (.cells z.cells t)) (b:=b) ⟨hb.1.more hk,hb.2⟩;refine⟨.pointer (co ⟨w.heap.size,0,io⟩),w.alloc (.cells z.cells t),?_,hB.trans a0,by simp[hi.size],hi.tl,hi.pl,hi.dj,fun i q hq b0=>?_,hi.pw,hi.pp,hi.pa,⟨fun k=>if k=j then w.heap.size else bl k,fun x A hl=>?_,fun x A y hy D J Y=>?_⟩,c,p0,by rw[jh,q0,j0],by rw[kR,o0,s0],fun d' f0 g0=>?_,r0⟩
 .simp only[execOp,ht];simp[Instr.alloc,hz,newVar,newRow]
 .rw[fe C]at b0;split at b0
  .cases b0
  .exact hi.MN i q hq b0
 .simp only;by_cases u:x.1=j
  .have a1:x.2=o:=by
    have:=hi.tl x A;rw[u,hi.tl _ hm]at this;exact(Wq this).symm
   rw[am u,a1];refine⟨t,z,d,ht,hz,I,?_,heap_alloc_new w _,hb.1.A0,fun i o w0 e0 he=>?_,hB.size⟩
   .rw[fI,am ⟨I,by rw[j0,hb.2.2.2];exact t0⟩]
   .have:=hb.1.lt w0 e0;omega
  .rw[be u];rw[fe C,be u]at hl;obtain⟨t',v',d',k1,k2,k3,k4,k5,k6⟩:=i0 x A hl;refine⟨t',v',d',k1,k2,k3,?_,?_,k6⟩
   .rw[fI,be (fun hc=>(d0 x.1 x.2 (hi.tl x A) u).2 d I (by rw[k3,<-hc.1,I]))];exact k4
   .rw[hk _ (WC.1 k5).1];exact k5
 .simp only;rw[fe C]at D J;have Ti: ∀z∈todo,z.1≠j->(if z.1=j then is else listed.getD z.1 is)=is->bl z.1<w.heap.size:=fun z hz b1 hl=>by
   rw[be b1]at hl;obtain⟨_,_,_,_,_,_,_,k5,_⟩:=i0 z hz hl;exact(WC.1 k5).1
  by_cases u:x.1=j<;>by_cases G:y.1=j
  .exact absurd (u.trans G.symm) Y
  .rw[am u,be G];have:=Ti y hy G J;omega
  .rw[be u,am G];have:=Ti x A u D;omega
  .rw[be u,be G];rw[be u]at D;rw[be G]at J;exact v0 x A y hy D J Y
 .rw[fI,be (fun hc=>g0 (j,o) hm (by rw[fe C,am Z]) hc.1),n0 d' f0];refine k0 d' (fun x A z0=>f0 x A ?_) (fun x A D=>g0 x A ?_)
  .have Y:x.1≠j:=fun e=>hi.dj x A _ hm e.symm
   rw[fe C,be Y];exact z0
  .rw[fe C];split
   .rfl
   .exact D
theorem pE.step{B:Bs}{A:Mem}{Y:Nm}{s':AS}{w':World}{o:Oper}{az:Nat}(h:pE P M N s B a w o az)(J:Ext M N (· <s.nx) s.h w A Y (· <s'.nx) s'.h w'):pE P A Y s' B a w' o az:=by
 obtain⟨t,v,d,h1,h2,h3,h4,h5,h6,C,h8⟩:=h;have G:=(WC.1 h5).1;refine⟨t,v,d,h1,h2,h3,h4,by rw[J.gu az G C];exact h5,?_,fun i o D I he=>?_,h8⟩
 .cases hm:A az with
  |none=>rfl
  |some c=>
   rcases J.iq az c h6 hm with y|⟨i,o,y,u,x⟩
   .omega
   .exact absurd x (C i o y u)
 .rcases J.gh i o D I with y|⟨j,p,y,u,x⟩
  .omega
  .exact C j p y u (x.trans he)
def mW(todo:List (Nat×Oper))(E:List Nat):Bool:=todo.all fun x=>E.contains x.1||(aS x.2||todo.any fun y=>!aS y.2&&waits x.2 y.1)
theorem ni.T9{B:Bs}(hi:ni P nt all todo pend B M N s listed a w)(hns:Region.noSelect all.toArray=is)(hd:iF 0 all=is)(j0:jw P nt all){j:Nat}{o:Oper}(hm:(j,o)∈todo)(h0: ∀x∈todo,aS x.2=is->waits o x.1=jp)
  (h1:gC all pend o=is) (hj:j∈Region.ready .any all.toArray listed) (hu:listed.getD j is=jp): ∃b,Fits M N s nt b w∧execOp a.eval o=execOp b.eval o∧Region.wanted o (Go.yielded all.toArray a.tmps)=Region.wanted o (Go.yielded all.toArray b.tmps)∧
   ∀v M' N' s' w',Ext M N (· <s.nx) s.h w M' N' (· <s'.nx) s'.h w'->Fits M' N' s' nt (b.put o.dst v) w'->(∀x∈aX pend o,eQ P nt all s' x.2)->
    ni P nt all (todo.filter fun x=>!VP x.1 j) (aX pend o) B M' N' s' (listed.setIfInBounds j is) (a.put o.dst v) w':=by
 obtain⟨bl,m0,b1⟩:=hi.er;obtain⟨_,o2,o0,b0⟩:=mem_ready.1 hj;have d0:=hi.tl _ hm;have e1:o2=o:=by
  have:all[j]? =co o2:=by simpa using o0
  exact Wq (this.symm.trans d0)
 rw[e1]at o0 b0;have f0:=eF hu;obtain⟨b,hb,q0,a1,i0,j1⟩:=hi.ap;have f1: ∀x∈pend,waits o x.1=is∨looks all o x.2=jp:=fun x u=>by
  have:=Wc.1 h1 x u;simpa using this
 have c0: ∀x∈todo,listed.getD x.1 is=is->looks all o x.2=jp∧ ∀d,x.2.dst=co d->o.dst≠co d:=fun x u D=>by
  have g0:=(m0 x u D).alloc;have J:j≠x.1:=fun e=>by rw[<-e,hu]at D;cases D
  exact⟨j0.wc (hi.tl x u) d0 g0 (h0 x u g0) J,((j0 _ _ (hi.tl x u) g0).2.2.2.2 _ _ d0 J).2⟩
 have a0:=ni.same i0 hns d0 hj f1 (fun x u D=>(c0 x u D).1);have Y: ∀x∈pend,listed.getD x.1 is=jp->x∈aX pend o:=fun x u e0=>by
  refine V4.2 ⟨u,?_⟩;cases hw:waits o x.1 with
  |false=>rfl
  |true=>
   obtain⟨e,he,hb,p0⟩:=gK hw;have:=b0 e he hb;rw[p0,mZ e0]at this;cases this
 have i1: ∀k,(listed.setIfInBounds j is).getD k is=jp->k≠j∧listed.getD k is=jp:=by
  intro k hk;rw[fe f0]at hk;split at hk
  .cases hk
  .rename_i h;exact⟨h,hk⟩
 have C: ∀x∈aX pend o,x∈pend:=fun x u=>(V4.1 u).1
 have A: ∀x∈todo.filter (fun x=>!VP x.1 j),x∈todo∧x.1≠j:=fun x u=>by
  obtain⟨h7,h8⟩:=V4.1 u;exact⟨h7,fun e=>by simp[e]at h8⟩
 refine⟨b,hb,a0.1,a0.2,fun v M' N' s' w' u hf h5=>?_⟩;have g1: ∀x∈aX pend o,looks all x.2 x.2=jp:=fun x u=>by
  rcases hi.pp x (C x u) x (C x u) with h7|h7
  .obtain⟨e,he,hb,p0⟩:=gK h7;have:=ju all 0 x.1 x.2 hd (hi.pl x (C x u)) e he hb;omega
  .exact h7
 obtain⟨c,v0,w0,t0,s0,x0⟩:=oY (listed:=listed.setIfInBounds j is) hns (fun x u=>hi.pl x (C x u)) (hi.pw.sublist List.filter_sublist) g1 h5 hf;have G: ∀x∈todo.filter (fun x=>!VP x.1 j),(listed.setIfInBounds j is).getD x.1 is=listed.getD x.1 is:=fun x u=>by rw[fe f0,be (A x u).2]
 refine⟨by simp[hi.size],fun x u=>hi.tl x (A x u).1,fun x u=>hi.pl x (C x u),fun x u y hy=>hi.dj x (C x u) y (A y hy).1,fun k q hk d1=>?_,hi.pw.sublist List.filter_sublist,
      fun x u y hy=>hi.pp x (C x u) y (C y hy),fun y hy x u=>hi.pa y (C y hy) x (A x u).1,⟨bl,fun x I D=>?_,fun x I y r0 h1 h2=>?_⟩,c,v0,by rw[w0,jh,jh,q0],by rw[t0,kR,kR,a1],fun d k0 z0=>?_,x0⟩
 .obtain⟨h7,h8⟩:=i1 k d1;rcases hi.MN k q hk h8 with h9|h9
  .exact .inl (V4.2 ⟨h9,by cases hb:VP k j with|false=>rfl|true=>exact absurd (VN hb) h7⟩)
  .exact .inr (Y _ h9 h8)
 .rw[G x I]at D;exact((m0 x (A x I).1 D).step u).put (c0 x (A x I).1 D).2
 .rw[G x I]at h1;rw[G y r0]at h2;exact b1 x (A x I).1 y (A y r0).1 h1 h2
 .rw[s0 d k0,fI,fI,q0];split
  .rfl
  .refine i0 d (fun x u e0=>k0 x (Y x u e0) ?_) (fun x I D=>?_)
   .have J:x.1≠j:=fun e=>hi.dj x u _ hm e.symm
    rw[fe f0,be J];exact e0
   .have J:x.1≠j:=fun e=>by rw[e,hu]at D;cases D
    have n0:x∈todo.filter (fun x=>!VP x.1 j):=V4.2 ⟨I,by cases hb:VP x.1 j with|false=>rfl|true=>exact absurd (VN hb) J⟩;exact z0 x n0 (by rw[G x n0];exact D)
theorem Rh{E:List Nat}(hE:mW todo E=is)(hne: ∃x∈todo,aS x.2=jp)(c0: ∀x∈todo,aS x.2=is-> ∀x∈pend,eQ P nt all s x.2)
  (h: ∀j o,j∈E->(j,o)∈todo->(∀o',(j,o')∈todo->o'=o)->aS o=jp∧(∀x∈todo,aS x.2=is->waits o x.1=jp)∧gC all pend o=is∧(∀M N b w,Fits M N s nt b w->Region.wanted o (Go.yielded all.toArray b.tmps)=is)∧ ∃R,OT P nt o s R∧
   ∀s',R s'->(∀x∈aX pend o,eQ P nt all s' x.2)∧DL P nt all (todo.filter fun x=>!VP x.1 j) (aX pend o) Q s'):DL P nt all todo pend Q s:=by
 intro I hd A B M N listed a w u hB
 induction u generalizing listed a w with
 |zero=>
  intro G hc;obtain⟨x,D,C⟩:=hne;have p0:listed.getD x.1 is=jp:=by
   obtain⟨bl,e0,_⟩:=G.er;cases hl:listed.getD x.1 is with
   |false=>rfl
   |true=>have:=(e0 x D hl).alloc;rw[C]at this;cases this
  have:=sD p0;omega
 |succ u ih=>
  intro G hc;obtain⟨bl,e0,q0⟩:=G.er;have b0: ∀x∈todo,aS x.2=jp->listed.getD x.1 is=jp:=fun x D C=>by
   cases hl:listed.getD x.1 is with
   |false=>rfl
   |true=>have:=(e0 x D hl).alloc;rw[C]at this;cases this
  refine⟨fun hr=>?_,fun j hj=>?_⟩
  .obtain⟨x,D,C⟩:=hne;have:=p6 G.size hd hr x.1;rw[b0 x D C]at this;cases this
  obtain⟨hu,o,ho,d0⟩:=mem_ready.1 hj;have g0:all[j]? =co o:=by simpa using ho
  have r0:=eF hu;rcases G.MN j o g0 hu with hm|hm
  .cases hja:aS o with
   |true=>
    obtain⟨v,w',i0,k0,f0⟩:=G.early I hd A hB (c0 _ hm hja) hm hja hu;unfold wpOp;simp only[ho];rw[am (fD (A j o g0 hja).1 _)];refine .inl ?_;unfold Oper.wp;rw[i0];simp only[Oper.upon];exact ih _ _ _ k0 f0 (by have:=eS hu;omega)
   |false=>
   have m0:j∈E:=by
    have:=Wc.1 hE _ hm;simp only[Xz,WN,Wf,WA]at this;rcases this with h1|h1|⟨y,hy,h0,h1⟩
    .simpa using h1
    .rw[hja]at h1;cases h1
    .obtain⟨e,he,hb,o0⟩:=gK h1;have:=d0 e he hb;rw[o0,mZ (b0 y hy h0)]at this;cases this
   obtain⟨_,h0,h1,h2,R,h3,h4⟩:=h j o m0 hm (fun o' n0=>by
    have:=G.tl _ n0;simp only at this;rw[g0]at this
    exact(Wq this).symm)
   obtain⟨b,hb,a0,j0,hnew⟩:=G.T9 I hd A hm h0 h1 hj hu;unfold wpOp;simp only[ho];rw[am (by rw[j0];exact h2 M N b w hb)];refine .inl (JJ (K':=fun a' w'=> ∃J Y s',Ext M N (· <s.nx) s.h w J Y (· <s'.nx) s'.h w'∧Fits J Y s' nt a' w'∧R s') a0 ?_ ?_ (h3 M N b w hb _ _ fun J Y s' a' w' D hf hr=>⟨J,Y,s',D,hf,hr⟩))
   .rintro d w' ⟨J,Y,s',_,hf,_⟩;have:=hf.2.2.1;rw[kR]at this;have h9:d::b.defers=nt.df:=this;rw[hb.2.2.1]at h9;exact absurd (congrArg XS h9) (by simp)
   .rintro v w' ⟨J,Y,s',D,hf,hr⟩;obtain⟨h5,h6⟩:=h4 s' hr;exact h6 I hd A B J Y _ _ w' u (hB.trans D) (hnew v J Y s' w' D hf h5) (by have:=eS hu;omega)
  .obtain⟨v,hv,f0⟩:=G.take I A hm hj;refine wpOp_of_stOp (K:=fun a'=>a'=a.put o.dst v) (fun a' ha=>?_) (hv.stOp ho Z);subst ha;exact ih _ _ _ hB f0 (by have:=eS hu;omega)
theorem Rel.EM{M:Mem}{N:Nm}{n:Nat}{h:AH}{w:World}(hr:Rel M N (· <n) h w){az e:Nat}{o:AO}(hM:M az=io)(hne: ∀i p,h.get i=co p->p.real=is->N.az i≠az)(ho:OR M (N.with n az e) (· <n+1) w n o):
  Rel M (N.with n az e) (· <n+1) ((n,co o)::h) w:=by
 have B:=N.dm n az e;have u: ∀i p,AH.get ((n,co o)::h) i=co p->(i=n∧p=o)∨(i<n∧h.get i=co p):=by
  intro i p y;rw[AH.ax]at y;split at y
  .rename_i C;exact .inl ⟨C,by simpa using y.symm⟩
  .exact .inr ⟨hr.used i p y,y⟩
 refine⟨hr.dA,fun i p y=>?_,fun i p y D=>?_,fun i p y=>?_,fun i j p q y hj J Y x=>?_⟩
 .rcases u i p y with⟨rfl,rfl⟩|⟨h1,A⟩<;>omega
 .rcases u i p y with⟨rfl,rfl⟩|⟨h1,A⟩
  .simpa using hM
  .rw[B.az i h1];exact hr.dG i p A D
 .rcases u i p y with⟨rfl,rfl⟩|⟨h1,A⟩
  .exact ho
  .exact(hr.obj i p A).mono (.refl _) B (fun i y=>by omega) h1 Z
 .rcases u i p y with⟨rfl,rfl⟩|⟨h1,A⟩<;>rcases u j q hj with⟨rfl,rfl⟩|⟨G,I⟩
  .rfl
  .rw[B.az j G]at x;simp at x;exact absurd x.symm (hne _ _ I Y)
  .rw[B.az i h1]at x;simp at x;exact absurd x (hne _ _ A J)
  .rw[B.az i h1,B.az j G]at x;exact hr.inj i j p q A I J Y x
def zh(todo:List (Nat×Oper))(i:Nat):Bool:=todo.all fun x=>VP x.1 i||(aS x.2||(waits x.2 i||todo.any fun y=>!aS y.2&&waits x.2 y.1))
def kE(s:AS)(d:Nat)(cs:List PV):AS:=match s with|⟨f,h,n⟩=>⟨(d,.ptr n 0)::f,(n,co (.cells cs))::h,n+1⟩
theorem IT{i:Nat}{o:Oper}{t:TypeId}{z:Value}{d:Nat}(d0:(i,o)∈todo)(ht:o.op= .alloc t)(hz: ∀w,(zeroValue t).run P w= .ok z w)(p0:o.dst=co d)(hE:zh todo i=is)
  (n0: ∀x∈pend,eQ P nt all s x.2) (a0: ∀x∈pend,eQ P nt all (kE s d (b4 z)) x.2)
  (h:DL P nt all (todo.filter fun x=>!VP x.1 i) pend Q (kE s d (b4 z))):DL P nt all todo pend Q s:=by
 intro j0 hd b0 B M N listed a w C G;have i1:aS o=is:=by simp[aS,ht]
 have EM: ∀{C:Nat} {listed:Array Bool} {a:Act} {w:World},B.ext M N s w->ni P nt all todo pend B M N s listed a w->listed.getD i is=is->listed.toList.count jp<=C->wpAny P .any all.toArray (O9 nt B Q) C listed a w:=by
  intro C listed a w G A hl hc;obtain⟨b,hb,c2,w1,o1,j2⟩:=A.ap;obtain⟨Y,i0,q0⟩:=A.er;obtain⟨t',I,d',k1,k2,k3,k4,k5,k6,k7,k8⟩:=i0 _ d0 hl;simp only at k1 k3;have e1:t'=t:=by rw[ht]at k1;exact(Op.alloc.inj k1).symm
  subst e1;have e2:I=z:=by have:=(k2 w).symm.trans (hz w);simpa using this
  subst e2;have e3:d'=d:=by rw[p0]at k3;exact(Wq k3).symm
  subst e3;have f1:d'<nt:=by
   obtain⟨_,⟨d2,g1,g2⟩,_⟩:=b0 i o (A.tl _ d0) i1;rw[p0]at g1;rw[Wq g1];exact g2
  have ha:=N.dm s.nx (Y i) I.cells.size;have z0:=hb.1.EM (az:=Y i) (e:=I.cells.size) (o:= .cells (b4 I)) k6 k7
   ⟨I.cells,t',by simpa using k5,by simp,(fo (M:=M) (N:=N.with s.nx (Y i) I.cells.size) (U:=(· <s.nx+1)) I).1,(fo I).2,.none _⟩
  have x1:FR M (N.with s.nx (Y i) I.cells.size) (· <s.nx+1) s.f b.tmps:=hb.2.1.mono (.refl _) ha (fun i A=>by omega);have w0:VR M (N.with s.nx (Y i) I.cells.size) (· <s.nx+1) (.ptr s.nx 0) (.pointer (co ⟨Y i,0,io⟩)):=by
   have:=VR.ptr (M:=M) (N:=N.with s.nx (Y i) I.cells.size) (U:=(· <s.nx+1)) s.nx 0 (by omega);simpa using this
  have s0:Fits M (N.with s.nx (Y i) I.cells.size) (kE s d' (b4 I)) nt (b.put (co d') (.pointer (co ⟨Y i,0,io⟩))) w:=by
   obtain⟨sf,sh,sn⟩:=s;exact⟨z0,x1.put d' _ _ (by rw[hb.2.2.2];exact f1) w0,hb.2.2.1,by rw[jh];exact hb.2.2.2⟩
  have c0: ∀j p,(kE s d' (b4 I)).h.get j=co p->j=s.nx∨(j<s.nx∧s.h.get j=co p):=by
   intro j p D;obtain⟨sf,sh,sn⟩:=s;simp only[kE]at D;rw[AH.ax]at D;split at D
   .rename_i e;exact .inl e
   .exact .inr ⟨hb.1.used j p D,D⟩
  have a2:(kE s d' (b4 I)).nx=s.nx+1:=by obtain⟨sf,sh,sn⟩:=s;rfl
  have m0:B.ext M (N.with s.nx (Y i) I.cells.size) (kE s d' (b4 I)) w:=by
   unfold Bs.ext at*
   refine⟨G.os,G.tape,G.output,G.size,G.gu,G.nZ,G.iq,⟨fun j D=>(ha.az j (G.ule j D)).trans (G.nm.az j D),fun j D=>(ha.ext j (G.ule j D)).trans (G.nm.ext j D)⟩,fun j D=>by have:=G.ule j D;rw[a2];omega,fun j p D x0=>?_⟩;rcases c0 j p D with rfl|⟨h1,h2⟩
   .exact .inl (by simpa using k8)
   .rw[ha.az j h1];exact G.gh j p h2 x0
  have b2: ∀x∈pend,looks all x.2 x.2=jp:=fun x J=>by
   rcases A.pp x J x J with h7|h7
   .obtain⟨e,he,hb,j1⟩:=gK h7;have:=ju all 0 x.1 x.2 hd (A.pl x J) e he hb;omega
   .exact h7
  have u: ∀x∈todo.filter (fun x=>!VP x.1 i),x∈todo∧x.1≠i:=fun x J=>by
   obtain⟨h7,h8⟩:=V4.1 J;exact⟨h7,fun e=>by simp[e]at h8⟩
  obtain⟨c,r1,s1,q1,p1,t1⟩:=oY (listed:=listed) j0 A.pl A.pw b2 a0 s0;refine h j0 hd b0 B M _ listed a w C m0 ⟨A.size,fun x J=>A.tl x (u x J).1,A.pl,fun x J y hy=>A.dj x J y (u y hy).1,fun k q hk v0=>?_,A.pw,A.pp,fun y hy x J=>A.pa y hy x (u x J).1,⟨Y,fun x f0 k0=>?_,fun x f0 y i2=>q0 x (u x f0).1 y (u y i2).1⟩,c,r1,by rw[s1,jh,c2],by rw[q1,kR,w1],fun e d1 v1=>?_,t1⟩ hc
  .rcases A.MN k q hk v0 with h9|h9
   .refine .inl (V4.2 ⟨h9,?_⟩);cases hbq:VP k i with
    |false=>rfl
    |true=>rw[VN hbq,hl]at v0;cases v0
   .exact .inr h9
  .obtain⟨t2,z2,d2,m1,m2,m3,m4,m5,m6,m7,m8⟩:=i0 x (u x f0).1 k0;refine⟨t2,z2,d2,m1,m2,m3,m4,m5,m6,fun j p D x0=>?_,m8⟩;rcases c0 j p D with rfl|⟨h1,h2⟩
   .rw[Nm.Gr];exact fun e=>q0 x (u x f0).1 _ d0 k0 hl (u x f0).2 e.symm
   .rw[ha.az j h1];exact m7 j p h2 x0
  .rw[p1 e d1,fI];by_cases r0:d'=e
   .subst r0;rw[am ⟨rfl,by rw[hb.2.2.2];exact f1⟩];exact k4
   .rw[be (fun hc=>r0 (Wq hc.1))];refine o1 e d1 (fun x J k0 he=>?_);by_cases n1:x.1=i
    .have h3:=A.tl x J;rw[n1,A.tl _ d0]at h3;rw[<-Wq h3,p0]at he;exact r0 (Wq he)
    .exact v1 x (V4.2 ⟨J,by cases hb:VP x.1 i with|false=>rfl|true=>exact absurd (VN hb) n1⟩) k0 he
 clear h a0
 induction C generalizing listed a w with
 |zero=>
  intro A hc;cases hl:listed.getD i is with
  |true=>exact EM G A hl hc
  |false=>have:=sD hl;omega
 |succ C ih=>
  intro A hc;cases hl:listed.getD i is with
  |true=>exact EM G A hl hc
  |false=>
   obtain⟨Y,i0,q0⟩:=A.er;have b1: ∀x∈todo,aS x.2=jp->listed.getD x.1 is=jp:=fun x J f2=>by
    cases hl:listed.getD x.1 is with
    |false=>rfl
    |true=>have:=(i0 x J hl).alloc;rw[f2]at this;cases this
   refine⟨fun hr=>?_,fun j D=>?_⟩
   .have:=p6 A.size hd hr i;rw[hl]at this;cases this
   obtain⟨hu,q,hq,o0⟩:=mem_ready.1 D;have e0:all[j]? =co q:=by simpa using hq
   rcases A.MN j q e0 hu with hm|hm
   .cases hja:aS q with
    |true=>
     obtain⟨v,w',a1,m0,t0⟩:=A.early j0 hd b0 G n0 hm hja hu;unfold wpOp;simp only[hq];rw[am (fD (b0 j q e0 hja).1 _)];refine .inl ?_;unfold Oper.wp;rw[a1];simp only[Oper.upon];exact ih _ _ _ m0 t0 (by have:=eS hu;omega)
    |false=>
     exfalso;have g0: ∀k,listed.getD k is=jp->waits q k=is->False:=fun k hk hw=>by
      obtain⟨e,he,hb,j1⟩:=gK hw;have:=o0 e he hb;rw[j1,mZ hk]at this;cases this
     have:=Wc.1 hE _ hm;simp only[Xz,WN,Wf,WA]at this;rcases this with h1|h1|h1|⟨y,hy,h0,h1⟩
     .have z1:=VN h1;subst z1;rw[A.tl _ d0]at e0;simp only[Vq]at e0;rw[<-e0,i1]at hja;cases hja
     .rw[hja]at h1;cases h1
     .exact g0 i hl h1
     .exact g0 y.1 (b1 y hy h0) h1
   .obtain⟨v,hv,t0⟩:=A.take j0 b0 hm D;refine wpOp_of_stOp (K:=fun a'=>a'=a.put q.dst v) (fun a' ha=>?_) (hv.stOp hq Z);subst ha;exact ih _ _ _ G t0 (by have:=eS hu;omega)
def jj:Nat->List Oper->List (Nat×Oper)
 |_,[]=> []
 |n,o::r=>(n,o)::jj (n+1) r
theorem mB: ∀(l:List Oper) (n i:Nat) (o:Oper),(i,o)∈jj n l↔n<=i∧l[i-n]? =co o
 | [],n,i,o=>by simp[jj]
 |c::l,n,i,o=>by
  simp only[jj,VH,VC];rw[mB l (n+1) i o];by_cases h:i=n
  .subst h;simp only[true_and,VA,Ya,List.getElem?_cons_zero,Vq];exact⟨fun h=>h.elim Eq.symm (fun h=>by omega),fun h=> .inl h.symm⟩
  .by_cases j:n<=i
   .rw[show i-n=(i-(n+1))+1 by omega,X8];constructor
    .rintro(⟨h3,_⟩|⟨_,h3⟩)
     .exact absurd h3 h
     .exact⟨j,h3⟩
    .rintro⟨_,h3⟩;exact .inr ⟨by omega,h3⟩
   .constructor
    .rintro(⟨h3,_⟩|⟨h3,_⟩)
     .exact absurd h3 h
     .omega
    .rintro⟨h3,_⟩;exact absurd h3 j
def u1:List Oper->Bool
 | []=>is
 |o::r=>match o.op with
  | .select ..=>jp
  |_=>u1 r
theorem Fx{ops:Array Oper}(h:u1 ops.toList=is):Region.noSelect ops=is:=by
 have key: ∀l:List Oper,u1 l=is-> ∀o∈l,(match o.op with| .select ..=>jp|_=>is)=is:=by
  intro l
  induction l with
  |nil=>intro _ o ho;cases ho
  |cons c l ih=>
   intro hl o ho;unfold u1 at hl;split at hl
   .cases hl
   .rename_i j;rcases VH.1 ho with rfl|ho
    .split
     .rename_i h;exact absurd h (j _ _)
     .rfl
    .exact ih hl o ho
 unfold Region.noSelect;rw[Array.all_eq_true_iff_forall_mem];exact fun o ho=>key _ h o (by simpa using ho)
variable {k:List KI}
theorem It{id:Nat}{ops:Array Oper}(hm:P.follows .mixedOrders=is)(hns:Region.noSelect ops=is)(hd:iF 0 ops.toList=is)(A:jw P nt ops.toList)(h:GO P nt (.bR ops.toList (jj 0 ops.toList) []::k) Q s):GO P nt (.code (.region id ops is)::k) Q s:=by
 intro M N a w hf;refine wp_region_any hm ?_;have B:=hf.drew;have u: ∀x∈jj 0 ops.toList,ops.toList[x.1]? =co x.2:=fun x j=>by
  obtain⟨_,D⟩:=(mB _ 0 x.1 x.2).1 j;simpa using D
 have C: ∀i,i<ops.size->(Xv ops.size jp).getD i is=jp:=fun i G=>by simp[Vn,G]
 have y: ∀x∈jj 0 ops.toList,(Xv ops.size jp).getD x.1 is=is->False:=fun x j hl=>by
  have:x.1<ops.size:=by simpa using(Vs.1 (u x j)).1
  rw[C _ this]at hl;cases hl
 have:=h (by rw[W5];exact hns) hd A ⟨M,N,s.nx,s.h,w⟩ M N (Xv ops.size jp) a {w with drawn:=w.drawn+1} ops.size Ext.drew
  ⟨by simp,u,fun _ j=>(nomatch j),fun _ j=>(nomatch j),fun i o I _=> .inl ((mB _ 0 i o).2 ⟨VB _,by simpa using I⟩),XB,fun _ j=>(nomatch j),fun _ j=>(nomatch j),
   ⟨fun _=>0,fun x j hl=>(y x j hl).elim,fun x j _ _ hl=>(y x j hl).elim⟩,⟨a,B,rfl,rfl,fun _ _ _=>rfl,fun _ j=>(nomatch j)⟩⟩ (by simp)
 rw[W5]at this;exact this
theorem Bu(h:GO P nt k Q s):GO P nt (.bR all [] pend::k) Q s:=Rf h
def eqB:Bool->Bool->Bool
 |true,b=>b
 |false,is=>jp
 |false,jp=>is
theorem Ra(a b:Bool):eqB a b=(a==b):=by cases a<;>cases b<;>rfl
def bQ(nt:NT)(all:List Oper)(f:AF)(o:Oper):Option Bool:=
 match o.guard with
 |none=>co is
 |some (g,want)=>match guardOf all f g with
  |some (d,.kb t)=>bif VV d nt then co (eqB t want) else io
  |some (_,.iv (.v (.tuple _)))=>co jp
  |_=>io
theorem fN{o:Oper}{c:Bool}(h:bQ nt all s.f o=co c){b:Act}(hf:Fits M N s nt b w):Region.wanted o (Go.yielded all.toArray b.tmps)=c:=by
 unfold bQ at h;split at h
 .rename_i j;simp only[Vq]at h;rw[fD j,h]
 .rename_i g x j;split at h
  .rename_i d t u;cases hb:VV d nt with
   |false=>simp[hb]at h
   |true=>
    simp only[hb,cond_true,Vq,Ra]at h;have:=hf.uj u (Vm hb);simp[Region.wanted,j,this,<-h]
  .rename_i d vs u;simp only[Vq]at h;have:=hf.ui u;simp[Region.wanted,j,this,<-h]
  .cases h
theorem vm{i:Nat}{o:Oper}{s':AS}(u:(i,o)∈todo)(y:aS o=jp)(A: ∀x∈todo,waits o x.1=jp)(hg:bQ nt all s.f o=co is)(j:wI all pend o=is)(he:s'.h=s.h∧s'.nx=s.nx)
  (ho: ∀M N a w,Fits M N s nt a w-> ∃x,(execOp a.eval o).run P w= .ok (.value x) w∧Fits M N s' nt (a.put o.dst x) w) (h:GO P nt (.bR all (todo.filter fun x=>!VP x.1 i) ((i,o)::pend)::k) Q s'):GO P nt (.bR all todo pend::k) Q s:=
 Ew u y A j he (fun M N b w hf=>let ⟨x,h1,h2⟩:=ho M N b w hf;⟨x,.inl ⟨fN hg hf,.inl h1⟩,h2⟩) h
theorem Is{i:Nat}{o:Oper}(u:(i,o)∈todo)(y:aS o=jp)(A: ∀x∈todo,waits o x.1=jp)(hg:bQ nt all s.f o=co jp)(j:wI all pend o=is)
  (h:GO P nt (.bR all (todo.filter fun x=>!VP x.1 i) ((i,o)::pend)::k) Q (gP o s)):GO P nt (.bR all todo pend::k) Q s:=
 Ew u y A j (jd o s) (fun _ _ _ _ hf=>⟨undef,.inr ⟨fN hg hf,rfl⟩,hf.skip o⟩) h
theorem sv{d:Nat}{t:Bool}(I:s.f.get d= .iv (.v (.bool t)))(h1:t=is->GO P nt (.bR all todo pend::k) Q (setBool s (.tmp d) is))(C:t=jp->GO P nt (.bR all todo pend::k) Q (setBool s (.tmp d) jp)):
  GO P nt (.bR all todo pend::k) Q s:=by
 have key:GO P nt (.bR all todo pend::k) Q (setBool s (.tmp d) t):=by
  cases t
  .exact C Z
  .exact h1 Z
 intro A hd y B M N listed a w x D j G;obtain⟨b,hb,u⟩:=j.ap;exact key A hd y B M N listed a w x D ⟨j.size,j.tl,j.pl,j.dj,j.MN,j.pw,j.pp,j.pa,j.er,b,hb.setBool (c:= .tmp d) I,u⟩ G
theorem oP{E:List Nat}(hE:mW todo E=is)(hne: ∃x∈todo,aS x.2=jp)(u: ∀x∈todo,aS x.2=is-> ∀x∈pend,eQ P nt all s x.2)
  (h: ∀j o,j∈E->(j,o)∈todo->(∀y,(j,y)∈todo->y=o)->aS o=jp∧(∀x∈todo,aS x.2=is->waits o x.1=jp)∧gC all pend o=is∧bQ nt all s.f o=co is∧ ∃R,OT P nt o s R∧
   ∀s',R s'->(∀x∈aX pend o,eQ P nt all s' x.2)∧GO P nt (.bR all (todo.filter fun x=>!VP x.1 j) (aX pend o)::k) Q s'):GO P nt (.bR all todo pend::k) Q s:=
 Rh hE hne u fun j o h1 A B=>let ⟨a,b,c,d,e⟩:=h j o h1 A B;⟨a,b,c, @fun _ _ _ _=>fN d,e⟩
theorem FX{i:Nat}{o:Oper}{t:TypeId}{z:Value}{d:Nat}(A:(i,o)∈todo)(ht:o.op= .alloc t)(B: ∀w,(zeroValue t).run P w= .ok z w)(y:o.dst=co d)(hE:zh todo i=is)
  (u: ∀x∈pend,eQ P nt all s x.2) (j: ∀x∈pend,eQ P nt all (kE s d (b4 z)) x.2)
  (h:GO P nt (.bR all (todo.filter fun x=>!VP x.1 i) pend::k) Q (kE s d (b4 z))):GO P nt (.bR all todo pend::k) Q s:=IT A ht B y hE u j h
end
section
variable {P:Program} {nt:NT} {Q:AQ} {k:List KI} {s:AS}
theorem Ie{ty:Ty}(b0:bn P ty){o:Oper}{c:Call}(ho:o.op= .call c){g:FuncId}{asv:List PV}(ha:bN s.f c=co (g,asv)){fn:Func}{cb:Code}(B:P.funcs[g]? =co fn)(hb:fn.body=co cb)
  (hn:(fn.name== "runtime.NumGoroutine")=jp) {G:Nat} (f0:fn.ntmps=G) {l:List ResultVar} (hl:fn.results.toList=l) (e0:asv.length<=G) {R:AS->Prop}
  (h:AW P G cb (fun e t=>(e= .normal∨e= .ret)∧ ∃r s',iL ty t l=co r∧putDst nt o r ⟨s.f,t.h,t.nx⟩=co s'∧R s') ⟨mj 0 asv,s.h,s.nx⟩):OT P nt o s R:=by
 intro M N a w hf K Z hk;obtain⟨vs,D,C,hv⟩:=vB hf ho ha (bb B hb hn);unfold Oper.wp;rw[D];simp only[Oper.upon];refine calls_of_wp B hb ?_;have A:Fits M N ⟨mj 0 asv,s.h,s.nx⟩ G {tmps:=vs.toArray++Xv (fn.ntmps-vs.toArray.size) undef,defers:=[]} w:=by
  refine⟨hf.1,fun i=>?_,rfl,by simp;omega⟩;rw[vR,am (VB _),Yb,Vr];cases hi:asv[i]? with
  |none=>exact .any _
  |some p=>
   have Y:i<vs.length:=by rw[<-C];exact(Vs.1 hi).1
   have:=hv i p hi;have e:(vs.toArray++Xv (fn.ntmps-vs.toArray.size) undef).getD i undef=vs.getD i undef:=by
    rw[Vn,V3 (by simpa using Y),Vr];simp
   simp only[Wv];rw[e];exact this
 refine AW.then h A fun e a' u I J t hx j hq=>?_;obtain⟨he,r,s',a0,hp,hR⟩:=hq;obtain⟨x,c0,d0⟩:=tM b0 j hl a0;have y:Fits I J ⟨s.f,t.h,t.nx⟩ nt a u:=⟨j.1,hf.2.1.ext hx,hf.2.2⟩
 have hK:K (a.put o.dst x) u:=by
  cases hd:o.dst with
  |none=>
   have:=dF hp hd;subst this;exact hk I J {f:=s.f,h:=t.h,nx:=t.nx} _ u hx y hR
  |some d=>
   obtain⟨h1,rfl⟩:=dE hp hd;exact hk I J {f:=(d,r)::s.f,h:=t.h,nx:=t.nx} _ u hx (y.put d _ x h1 d0) hR
 have:a'.defers=[]∧ ∃v,(results fn a'.tmps).run P u= .ok v u∧K (a.put o.dst v) u:=⟨j.2.2.1,x,c0,hK⟩
 rcases he with rfl|rfl<;>exact this
theorem Q3{ty:Ty}(A:bn P ty){all rest:List Oper}{o:Oper}{c:Call}(hg:o.guard=io)(ho:o.op= .call c){g:FuncId}{asv:List PV}(ha:bN s.f c=co (g,asv)){fn:Func}{C:Code}(u:P.funcs[g]? =co fn)(hb:fn.body=co C)
  (hn:(fn.name== "runtime.NumGoroutine")=jp) {B:Nat} (y:fn.ntmps=B) {l:List ResultVar} (hl:fn.results.toList=l) (x:asv.length<=B)
  (h:GO P B (.code C:: .MC nt s.f (iL ty · l) o all rest::k) Q ⟨mj 0 asv,s.h,s.nx⟩):GO P nt (.ops all (o::rest)::k) Q s:=by
 refine bz (R:=fun t=>GO P nt (.ops all rest::k) Q t) hg (Ie A ho ha u hb hn y hl x ?_) (fun t ht=>ht);intro M N a w hf;refine AW.then h hf fun e a' w' G I t hx j D=>⟨G,I,t,hx,j,?_⟩
 simp only[kp]at D;obtain⟨he,r,s',h1,J,Y⟩:=D;exact⟨he,r,s',h1,J,Y⟩
theorem Mv{ty:Ty}(G:bn P ty){all:List Oper}{todo pend:List (Nat×Oper)}{j:Nat}{o:Oper}{c:Call}(hrd:(j,o)∈todo)(hE:mW todo [j]=is)(I: ∀x∈todo,waits o x.1=jp)(u: ∀x∈todo,aS x.2=is-> ∀x∈pend,eQ P nt all s x.2)(hpb:gC all pend o=is)(hg:bQ nt all s.f o=co is)(ho:o.op= .call c){g:FuncId}{asv:List PV}
  (ha:bN s.f c=co (g,asv)) {fn:Func} {cb:Code} (B:P.funcs[g]? =co fn) (hb:fn.body=co cb)
  (hn:(fn.name== "runtime.NumGoroutine")=jp) {Y:Nat} (D:fn.ntmps=Y) {l:List ResultVar} (hl:fn.results.toList=l) (C:asv.length<=Y)
  (h:GO P Y (.code cb:: .MD nt s.f (iL ty · l) j o all todo pend::k) Q ⟨mj 0 asv,s.h,s.nx⟩):GO P nt (.bR all todo pend::k) Q s:=by
 have y:aS o=jp:=by simp[aS,ho]
 refine oP hE ⟨_,hrd,y⟩ u fun j' o' hj _ hu=>?_;simp only[Vz]at hj;subst hj;have:=hu o hrd;subst this;refine⟨y,fun x J _=>I x J,hpb,hg,_,Ie G ho ha B hb hn D hl C (R:=fun s'=>(∀x∈aX pend o,eQ P nt all s' x.2)∧GO P nt (.bR all (todo.filter fun x=>!VP x.1 j') (aX pend o)::k) Q s') ?_,fun s' hs=>hs⟩;intro M N a w hf;refine AW.then h hf fun e a' w' M' N' t J A hq=>⟨M',N',t,J,A,?_⟩
 simp only[kp]at hq;obtain⟨he,r,s',h1,h2,h3,h4⟩:=hq;exact⟨he,r,s',h1,h2,h3,h4⟩
theorem UA.more{b:Code}{Q:AQ}: ∀{n:Nat} {s:AS},UA P nt b Q n s->n≠0
 |0,_,h=>h.elim
 |_+1,_,_=>by simp
theorem mR{b:Code}{n:Nat}(h:GO P nt (.code b:: .ER b n::k) Q s):GO P nt (.code (.loop b)::k) Q s:=by
 have h0:UA P nt b (kp P nt k Q) (n+1) s:=by
  intro M N a w hf;refine AW.then h hf fun e A G x y t D j hq=>⟨x,y,t,D,j,?_⟩
  cases e<;>exact hq
 intro M0 N0 a0 w0 c0
 let J:Act->World->Nat->Prop:=fun a w m=> ∃t M N,Ext M0 N0 (· <s.nx) s.h w0 M N (· <t.nx) t.h w∧Fits M N t nt a w∧UA P nt b (kp P nt k Q) m t
 have Y:J a0 w0 (n+1):=⟨s,M0,N0,.refl _ _ _ _ _,c0,h0⟩
 have c5: ∀{p:Nat->Prop},(∃n,p n)-> ∃n,p n∧ ∀m,p m->n<=m:=by
  intro p ⟨n,hn⟩
  induction n using Nat.strongRecOn with
  |_ n ih=>
   by_cases C: ∃m,m<n∧p m
   .obtain⟨m,h1,I⟩:=C;exact ih m h1 I
   .exact⟨n,hn,fun m I=>W9 fun h1=>C ⟨m,h1,I⟩⟩
 refine wp_loop (fun a w=> ∃n,J a w n) (fun a w=>by classical exact if h: ∃n,J a w n then XW (c5 h) else 0) ⟨_,Y⟩ fun a w b0=>?_;obtain⟨⟨t,M,N,D,hf,hu⟩,d0⟩:=Xm (c5 b0);obtain⟨m,C⟩: ∃m,XW (c5 b0)=m+1:=⟨XW (c5 b0)-1,by have:=hu.more;omega⟩
 rw[C]at hu;refine AW.then hu hf fun e A G x y s' u j hr=>?_
 cases e with
 |normal=>
  have B:J A G m:=⟨s',x,y,D.trans u,j,hr⟩
  refine⟨⟨_,B⟩,?_⟩;simp only[dif_pos b0,dif_pos (⟨_,B⟩: ∃n,J A G n)];have:=(Xm (c5 (⟨_,B⟩: ∃n,J A G n))).2 _ B;omega
 |_=>exact⟨x,y,s',D.trans u,j,hr⟩
theorem go_round{b:Code}{n:Nat}(h:GO P nt (.code b:: .ER b n::k) Q s):GO P nt (.ER b (n+1)::k) Q s:=by
 intro M N a w hf;refine AW.then h hf fun e B C u x t A j y=>⟨u,x,t,A,j,?_⟩
 cases e<;>exact y
end
section
variable {M:Mem} {N:Nm} {w:World} {n:Nat} {h:AH}
theorem bj{i:Nat}{h:AH}: ∀j o,AH.get ((i,io)::h) j=co o->j≠i∧h.get j=co o:=by
 intro j o u;rw[AH.ax]at u;split at u
 .cases u
 .rename_i x;exact⟨x,u⟩
theorem Rel.move(hr:Rel M N (· <n) h w){i:Nat}{o0:AO}(hi:h.get i=co o0)(h0:o0.real=is)(D:World)(o:AO)(c0:D.os=w.os)(I:D.tape=w.tape)(J:D.output=w.output)(e0:D.heap.size=w.heap.size)
  (hk: ∀b,b≠N.az i->D.heap[b]? =w.heap[b]?) (ho:OR M (N.with n (N.az i) (N.ext i)) (· <n+1) D n o) (hd:w.drawn<=D.drawn:=by first|exact VA _|exact Xx _):
  Ext M N (· <n) h w M (N.with n (N.az i) (N.ext i)) (· <n+1) ((n,co o)::(i,io)::h) D∧Rel M (N.with n (N.az i) (N.ext i)) (· <n+1) ((n,co o)::(i,io)::h) D:=by
 have G:=N.dm n (N.az i) (N.ext i);have u: ∀j p,AH.get ((n,co o)::(i,io)::h) j=co p->(j=n∧p=o)∨(j<n∧j≠i∧h.get j=co p):=by
  intro j p A;rw[AH.ax]at A;split at A
  .rename_i Y;exact .inl ⟨Y,by simpa using A.symm⟩
  .obtain⟨h1,B⟩:=bj j p A;exact .inr ⟨hr.used j p B,h1,B⟩
 have d0:=hr.used i o0 hi;refine⟨⟨c0,I,⟨J,hd⟩,by omega,fun b hb hn=>hk b (fun e=>hn i o0 hi h0 e.symm),.refl _,fun b c h1 B=>by simp[h1]at B,G,fun i hi=>by omega,fun j p A y=>?_⟩,?_⟩
 .rcases u j p A with⟨rfl,rfl⟩|⟨h1,B,C⟩
  .exact .inr ⟨i,o0,hi,h0,by simp⟩
  .exact .inr ⟨j,p,C,y,(G.az j h1).symm⟩
 .refine⟨fun b c hb=>?_,fun j p A=>?_,fun j p A y=>?_,fun j p A=>?_,fun j k p q A a0 hp hq x=>?_⟩
  .have b0:b≠N.az i:=fun e=>by
    have:=hr.dG i o0 hi h0;rw[<-e,hb]at this;simp at this
   exact(hr.dA b c hb).mono (hk b b0)
  .rcases u j p A with⟨rfl,rfl⟩|⟨h1,B,C⟩<;>omega
  .rcases u j p A with⟨rfl,rfl⟩|⟨h1,B,C⟩
   .simpa using hr.dG i o0 hi h0
   .rw[G.az j h1];exact hr.dG j p C y
  .rcases u j p A with⟨rfl,rfl⟩|⟨h1,B,C⟩
   .exact ho
   .cases y:p.real with
    |true=>exact(hr.obj j p C).mono (.refl _) G (fun i hi=>by omega) h1 (hk _ (fun e=>B (hr.inj j i p o0 C hi y h0 e)))
    |false=>
     cases p with
     |row sz es=>cases es with
      |nil=>exact .inl Z
      |cons=>cases y
     |bu l T=>cases l with
      |nil=>exact .inl Z
      |cons=>cases y
     |_=>cases y
  .rcases u j p A with⟨rfl,rfl⟩|⟨h1,B,C⟩<;>rcases u k q a0 with⟨rfl,rfl⟩|⟨h4,h5,h6⟩
   .rfl
   .rw[G.az k h4]at x;simp at x;exact absurd (hr.inj _ _ _ _ hi h6 h0 hq x).symm h5
   .rw[G.az j h1]at x;simp at x;exact absurd (hr.inj _ _ _ _ C hi hp h0 x) B
   .rw[G.az j h1,G.az k h4]at x;exact hr.inj _ _ _ _ C h6 hp hq x
theorem Rel.del{U:Nat->Prop}(hr:Rel M N U h w)(i:Nat):Rel M N U ((i,io)::h) w:=
 ⟨hr.dA,fun j o u=>hr.used j o (bj j o u).2,fun j o u x=>hr.dG j o (bj j o u).2 x,fun j o u=>hr.obj j o (bj j o u).2,
  fun j k o p u hk=>hr.inj j k o p (bj j o u).2 (bj k p hk).2⟩
theorem Ext.del{y:Mem}{A:Nm}{U B:Nat->Prop}{C:AH}{D:World}(u:Ext M N U h w y A B C D)(i:Nat):Ext M N U h w y A B ((i,io)::C) D:=
 ⟨u.os,u.tape,u.output,u.size,u.gu,u.nZ,u.iq,u.nm,u.ule,fun j o G x=>u.gh j o (bj j o G).2 x⟩
theorem Rel.swap{U:Nat->Prop}{i j:Nat}(u:i≠j){o p:Option AO}(hr:Rel M N U ((i,o)::(j,p)::h) w):Rel M N U ((j,p)::(i,o)::h) w:=by
 have e: ∀k,AH.get ((j,p)::(i,o)::h) k=AH.get ((i,o)::(j,p)::h) k:=by
  intro k;simp only[AH.ax];by_cases h1:k=i
  .subst h1;rw[be u,am Z,am Z]
  .simp[h1]
 exact⟨hr.dA,fun k o hk=>hr.used k o (by rw[<-e];exact hk),fun k o hk=>hr.dG k o (by rw[<-e];exact hk),fun k o hk=>hr.obj k o (by rw[<-e];exact hk),
  fun k l o p hk hl=>hr.inj k l o p (by rw[<-e];exact hk) (by rw[<-e];exact hl)⟩
end
inductive Src (h:AH) (sz:Nat):PV->List (List PV)->Prop
 |bK (n:Nat) (el:Nat->List IV):Src h sz (.iv (.bK sz n el)) ((V0 n).map fun k=>(el k).map .iv)
 |row (j off n:Nat) (fs:List (List PV)) (hj:h.get j=co (.row sz fs)) (hle:off+n<=fs.length):Src h sz (.sl j off n sz) ((fs.drop off).take n)
 |nil:Src h sz (.iv (.v (.slice io 0 0))) []
theorem js{sz:Nat}: ∀{es:List (List PV)},(∀(k:Nat) (e:List PV),es[k]? =co e->e.length=sz)-> ∀j p,es.flatten[j]? =co p-> ∃k e i,es[k]? =co e∧e[i]? =co p∧j=k*sz+i
 | [],_,j,p,h=>by simp at h
 |e::r,hl,j,p,h=>by
  rw[Yv]at h;have A:=hl 0 e Z;rcases Wp j e.length with hj|hj
  .rw[VJ hj]at h;exact⟨0,e,j,rfl,h,by simp⟩
  .rw[VK hj]at h;obtain⟨k,u,i,h1,x,y⟩:=js (fun k e h=>hl (k+1) e (by simpa using h)) _ p h;exact⟨k+1,u,i,by simpa using h1,x,by rw[Wg];omega⟩
theorem fi{sz:Nat}: ∀{es:List (List PV)},(∀(k:Nat) (e:List PV),es[k]? =co e->e.length=sz)->es.flatten.length=es.length*sz
 | [],_=>by simp
 |e::r,hl=>by
  rw[Yv,Vp,fi (fun k e h=>hl (k+1) e (by simpa using h)),hl 0 e Z,VX,Wg];omega
theorem jr{sz:Nat}: ∀{es:List (List PV)},(∀(k:Nat) (e:List PV),es[k]? =co e->e.length=sz)-> ∀k e i p,es[k]? =co e->e[i]? =co p->es.flatten[k*sz+i]? =co p
 | [],_,k,e,i,p,h,_=>by simp at h
 |e0::r,hl,k,e,i,p,h,hi=>by
  rw[Yv];have j:=hl 0 e0 Z;cases k with
  |zero=>
   simp at h;subst h;rw[W0,VL,VJ (Vs.1 hi).1];exact hi
  |succ k=>
   rw[VK (by rw[j,Wg];omega)];rw[show(k+1)*sz+i-e0.length=k*sz+i by rw[j,Wg];omega];exact jr (fun k e h=>hl (k+1) e (by simpa using h)) k e i p (by simpa using h) hi
section
variable {P:Program} {ty:Ty} {M:Mem} {N:Nm} {w:World} {nt:NT} {s:AS} {a:Act}
theorem Src.ok{sz:Nat}{p:PV}{news:List (List PV)}(hs:Src s.h sz p news)(hf:Fits M N s nt a w){y:Value}(hy:VR M N (· <s.nx) p y):
  (∀(k:Nat) (e:List PV),news[k]? =co e->e.length=sz)∧ ∃I c,y= .slice I news.length c∧(news≠ []-> ∃b a0,I=co ⟨b,a0,io⟩∧
   ∀j p,news.flatten[j]? =co p-> ∃u,w.cell? ⟨b,a0+j,io⟩=co u∧VR M N (· <s.nx) p u):=by
 cases hs with
 |bK n el=>
  cases hy with
  |iv _ _ D=>
   cases D with
   |fz _ _ I c=>exact⟨by simp,I,c,by simp,by simp⟩
   |bK _ _ _ b a0 c hn hc hl hm hr=>
    have B: ∀(k:Nat) (e:List PV),((V0 n).map fun k=>(el k).map PV.iv)[k]? =co e->e.length=sz:=by
     intro k e x;rw[Vv,Vw]at x;obtain⟨k',C,rfl⟩:=x;obtain⟨h1,A⟩:=Vs.1 C;simp at A h1;subst A;simpa using hl k h1
    refine⟨B,_,c,by simp,fun _=>⟨b,a0,rfl,fun j p hp=>?_⟩⟩;obtain⟨k,e,i,h1,A,rfl⟩:=js B j p hp;rw[Vv,Vw]at h1;obtain⟨k',C,rfl⟩:=h1;obtain⟨J,h4⟩:=Vs.1 C;simp at h4 J;subst h4;rw[Vv,Vw]at A;obtain⟨q,hq,rfl⟩:=A;have D:i<sz:=by rw[<-hl k J];exact(Vs.1 hq).1
    have h5:=hm k i J D;cases hv:M.cell b (a0+k*sz+i) with
    |none=>simp[hv]at h5
    |some u=>
     refine⟨u,by rw[<-WB];exact hf.1.HX hv,.iv _ _ ?_⟩;have:=hr k i q J hq;rw[hv]at this;exact this
 |row j a0 n fs hj hle=>
  have Y:=hf.1.obj j _ hj;have base:(∀(k:Nat) (e:List PV),fs[k]? =co e->e.length=sz)-> ∀(k:Nat) (e:List PV),((fs.drop a0).take n)[k]? =co e->e.length=sz:=by
   intro h k e x;rw[V8]at x;split at x
   .rw[Wl]at x;exact h _ e x
   .cases x
  cases hy with
  |kP _ _ hU=>exact⟨by simp,io,0,by simp,by simp⟩
  |sle _ _ cap hU hc x=>exact⟨by simp,co ⟨N.az j,0,io⟩,cap,by simp,by simp⟩
  |sl _ _ _ _ cap hU h0 hl hc x=>
   rcases Y with rfl|⟨hsz,c,T,g1,g2,g3,g4,g5⟩
   .simp at hle;omega
   refine⟨base g4,_,cap,by simp;rw[Nat.min_eq_left (by omega)],fun _=>⟨N.az j,a0*sz,rfl,fun i p hp=>?_⟩⟩;obtain⟨k,e,G,h1,A,rfl⟩:=js (base g4) i p hp;rw[V8]at h1;split at h1
   .rename_i hk;rw[Wl]at h1;have d0:G<sz:=by rw[<-g4 _ e h1];exact(Vs.1 A).1
    have b0:a0+k<fs.length:=(Vs.1 h1).1;have c0:(a0+k)*sz+G<c.size:=by
     have:(a0+k+1)*sz<=fs.length*sz:=VO _ b0;rw[Wg]at this;omega
    refine⟨c.getD ((a0+k)*sz+G) undef,?_,g5 _ e _ p h1 A⟩;rw[show a0*sz+(k*sz+G)=(a0+k)*sz+G by rw[Wg];omega];simp[World.cell?,g1,Vn,c0]
   .cases h1
 |nil=>
  cases hy with
  |iv _ _ D=>cases D with
   |v=>exact⟨by simp,io,0,rfl,by simp⟩
theorem kN{l:List PV}{b off:Nat}(h: ∀j p,l[j]? =co p-> ∃u,w.cell? ⟨b,off+j,io⟩=co u∧VR M N (· <s.nx) p u):
  ∃vs:List Value,vs.length=l.length∧(∀(j:Nat) (u:Value),vs[j]? =co u->w.cell? ((⟨b,off,io⟩:Addr).add j)=co u)∧ ∀(j:Nat) (p:PV),l[j]? =co p->VR M N (· <s.nx) p (vs.getD j undef):=by
 refine⟨(V0 l.length).map fun j=>(w.cell? ⟨b,off+j,io⟩).getD undef,by simp,fun j u hu=>?_,fun j p B=>?_⟩
 .rw[Vv,Vw]at hu;obtain⟨D,x,rfl⟩:=hu;obtain⟨h1,A⟩:=Vs.1 x;simp at h1 A;subst A;obtain⟨u,hu,_⟩:=h j _ (Vt h1);rw[cY,hu];rfl
 .have y:j<l.length:=(Vs.1 B).1;obtain⟨u,hu,C⟩:=h j p B;rw[Vr];simp[y,hu,C]
theorem iQ(t ty e:TypeId)(i:TypeInfo)(ht:P.underlying t=co (.slice e))(hi:P.info? e=co i)(T:TypeId)
  (g x A:Nat) (y:Array Value) (hg:w.heap[g]? =co (.cells y T (0,0)))
  (a:Addr) (m c:Nat) (news:List Value) (hl:news.length=m*i.size) (B: ∀(j:Nat) (u:Value),news[j]? =co u->w.cell? (a.add j)=co u) (h1: ∀u∈news,u.oneCell'=is)
  (C:x+m<=A) (D:x*i.size+news.length<=y.size):
  (Builtin.append_ #[t,t] ty #[.slice (co ⟨g,0,io⟩) x A,.slice (co a) m c]).run P w=
   .ok (.slice (co ⟨g,0,io⟩) (x+m) A) (w.setRow g (y.toList.take (x*i.size)++news++y.toList.drop (x*i.size+news.length)).toArray):=by
 have hf:=run_firstCells_some (P:=P) w i.size m a m c news hl B;have G:=run_storeCells_at P g (x*i.size) T news 0 y w hg (by simpa using D) h1;simp only[WZ]at G;simp[Builtin.append_,run_underlying ht,sizeOf,typeInfo,hi,Builtin.lenOf,C,hf,Addr.add_lit,G]
theorem ff(t ty e:TypeId)(i:TypeInfo)(ht:P.underlying t=co (.slice e))(hi:P.info? e=co i)(y:Option Addr)(u j:Nat)(x:u<=j)(A:Option Addr)(c:Nat)(hs:y=io∨ ∃b o,y=co ⟨b,o,io⟩):
  (Builtin.append_ #[t,t] ty #[.slice y u j,.slice A 0 c]).run P w= .ok (.slice y u j) w:=by
 have hf:(Builtin.firstCells i.size 0 (.slice A 0 c)).run P w= .ok #[] w:=by
  cases A with
  |none=>simp[Builtin.firstCells]
  |some a=>simp[Builtin.firstCells,loadCells,loadCellsFrom]
 rcases hs with rfl|⟨b,o,rfl⟩
 .simp[Builtin.append_,run_underlying ht,sizeOf,typeInfo,hi,Builtin.lenOf,x,hf]
 .simp[Builtin.append_,run_underlying ht,sizeOf,typeInfo,hi,Builtin.lenOf,x,hf,storeCells]
def ir(s:AS)(i sz:Nat)(es news:List (List PV)):AS:=match s with|⟨f,h,n⟩=>⟨f,(n,co (.row sz (es++news)))::(i,io)::h,n+1⟩
theorem Jt(s:AS)(i sz:Nat)(es news:List (List PV)):(ir s i sz es news).h=(s.nx,co (.row sz (es++news)))::(i,io)::s.h:=by cases s;rfl
theorem Rr(s:AS)(i sz:Nat)(es news:List (List PV)):(ir s i sz es news).f=s.f:=by cases s;rfl
theorem gI(s:AS)(i sz:Nat)(es news:List (List PV)):(ir s i sz es news).nx=s.nx+1:=by cases s;rfl
theorem iJ{i sz:Nat}{es news:List (List PV)}{j:Mem}{u:Nm}{x:World}(hf:Fits M N s nt a w)(y:Ext M N (· <s.nx) s.h w j u (· <s.nx+1) ((s.nx,co (.row sz (es++news)))::(i,io)::s.h) x)
  (hr:Rel j u (· <s.nx+1) ((s.nx,co (.row sz (es++news)))::(i,io)::s.h) x):
  Ext M N (· <s.nx) s.h w j u (· <(ir s i sz es news).nx) (ir s i sz es news).h x∧Fits j u (ir s i sz es news) nt a x:=by
 rw[Jt,gI];refine⟨y,?_,?_,hf.2.2⟩
 .rw[Jt,gI];exact hr
 .rw[Rr,gI];exact hf.2.1.ext y
theorem Ext.swap{U C:Nat->Prop}{h x:AH}{A:Mem}{B:Nm}{D:World}{i j:Nat}(y:i≠j){o p:Option AO}(u:Ext M N U h w A B C ((i,o)::(j,p)::x) D):Ext M N U h w A B C ((j,p)::(i,o)::x) D:=by
 have e: ∀k,AH.get ((j,p)::(i,o)::x) k=AH.get ((i,o)::(j,p)::x) k:=by
  intro k;simp only[AH.ax];by_cases h1:k=i
  .subst h1;rw[be y,am Z,am Z]
  .simp[h1]
 exact⟨u.os,u.tape,u.output,u.size,u.gu,u.nZ,u.iq,u.nm,u.ule,fun k o hk=>u.gh k o (by rw[<-e];exact hk)⟩
theorem Rq(z1:bn P ty){o:Oper}{x y:Operand}{t u:TypeId}(ho:o.op= .call ⟨.builtin .append, #[x,y], #[t,t]⟩){e eu:bC}(ht:ty t=co e)(hk:e.k= .aP (.slice u))(hu:ty u=co eu)
  {i len sz:Nat} {es news:List (List PV)} {py:PV} (hx:ev s.f x= .sl i 0 len sz) (hi:s.h.get i=co (.row sz es)) (D:es.length=len) (m2:eu.size=sz) (hz:eu.zero.cells.size=sz) (l2:0<sz)
  (j2:ev s.f y=py) (hy:Src s.h sz py news) (n1: ∀e∈news,dt e=is) (hb:(len+news.length)*eu.bytes<=140737488355328) (s2:len+news.length<=140737488355328)
  {s':AS} (hp:putDst nt o (.sl s.nx 0 (len+news.length) sz) (ir s i sz es news)=co s'):OT P nt o s (fun t=>t=s'):=by
 refine OT.value hp fun M N a w hf=>?_;subst m2;obtain⟨⟨ii,r0,x0,e2,w1⟩,_⟩:=z1 u _ hu
 have t0:P.underlying t=co (.slice u):=by
  have:=(z1 t _ ht).2.1;rw[hk]at this;exact this.1
 have r1:=aN hf.2.1 x;rw[hx]at r1;have a2:=aN hf.2.1 y;rw[j2]at a2;obtain⟨J,ao,c,r2,e0⟩:=hy.ok hf a2;have B: ∀v w',(Builtin.append_ #[t,t] o.type #[a.eval x,a.eval y]).run P w= .ok v w'->(execOp a.eval o).run P w= .ok (.value v) w':=by
  intro v w' h;simp only[execOp,ho,resolve];simp[invoke,builtin,h]
 rw[r2]at B;have t2:i<s.nx:=hf.1.used i _ hi;have z0:s.nx≠i:=by omega
 have i2:=hf.1.obj i _ hi;have c0:(len+news.length)*ii.bytes<=140737488355328:=by rw[e2];exact hb
 have i0: ∀(G vs:List Value) (a0:Nat),G.length=es.length*eu.size->vs.length=news.length*eu.size->(∀(k:Nat) (e:List PV) (j:Nat) (p:PV),es[k]? =co e->e[j]? =co p->VR M N (· <s.nx) p (G.getD (k*eu.size+j) undef))->
   (∀(k:Nat) (e:List PV),es[k]? =co e->e.length=eu.size)->(∀(j:Nat) (p:PV),news.flatten[j]? =co p->VR M N (· <s.nx) p (vs.getD j undef))->len+news.length<=a0->a0<=maxLen->0<len+news.length->
   ∀z:Array Value,z=G.toArray++vs.toArray++Builtin.zeroCells eu.zero.cells (a0-(len+news.length))->
   ∃M' N',Ext M N (· <s.nx) s.h w M' N' (· <(ir s i eu.size es news).nx) (ir s i eu.size es news).h (w.drew.alloc (.cells z u))∧Fits M' N' (ir s i eu.size es news) nt a (w.drew.alloc (.cells z u))∧
    VR M' N' (· <(ir s i eu.size es news).nx) (.sl s.nx 0 (len+news.length) eu.size) (.slice (co ⟨w.heap.size,0,io⟩) (len+news.length) a0):=by
  intro G vs a0 m1 Y o2 v1 n2 m0 d2 o1 z s1;have g0:z.size=a0*eu.size:=by
   rw[s1,W1,W1,size_zeroCells,hz];simp only[XC,m1,Y,D];rw[<-Wg,<-Wg,Nat.add_sub_cancel' m0]
  obtain⟨N',h1,h2,h3,h4,h5⟩:=hf.1.drew.alloc (.cells z u) (.row eu.size (es++news)) z.size (fun N' g1 g2 g3=>by
   refine .inr ⟨l2,z,u,by rw[g1];exact heap_alloc_new _ _,g2.symm,?_,fun k e A=>?_,fun k e j p A I=>?_⟩
   .rw[g0,Vp,D];exact VO _ m0
   .rcases Wp k es.length with hk|hk
    .rw[VJ hk]at A;exact v1 k e A
    .rw[VK hk]at A;exact J _ e A
   .rcases Wp k es.length with hk|hk
    .rw[VJ hk]at A;have j1:j<eu.size:=by rw[<-v1 k e A];exact(Vs.1 I).1
     have q0:k*eu.size+j<G.length:=by
      rw[m1];have:(k+1)*eu.size<=es.length*eu.size:=VO _ hk;rw[Wg]at this;omega
     have:=o2 k e j p A I;have e1:z.getD (k*eu.size+j) undef=G.getD (k*eu.size+j) undef:=by
      rw[s1,Vn,X7,V3 (by simpa using q0),Vr];simp
     rw[e1];exact this.mono (.refl _) g3 (fun i hi=>by omega)
    .rw[VK hk]at A;have j1:j<eu.size:=by rw[<-J _ e A];exact(Vs.1 I).1
     have k1:k-es.length<news.length:=(Vs.1 A).1;have i1:=jr J _ e j p A I;have q0:(k-es.length)*eu.size+j<vs.length:=by
      rw[Y];have:(k-es.length+1)*eu.size<=news.length*eu.size:=VO _ k1;rw[Wg]at this;omega
     have f0:k*eu.size+j=G.length+((k-es.length)*eu.size+j):=by
      rw[m1,YM];have:es.length*eu.size<=k*eu.size:=VO _ hk;omega
     have:=n2 _ p i1;have e1:z.getD (k*eu.size+j) undef=vs.getD ((k-es.length)*eu.size+j) undef:=by
      rw[s1,Vn,f0,V3 (by simp;omega),Xi (by simp),Vr];simp
     rw[e1];exact this.mono (.refl _) g3 (fun i hi=>by omega))
  have k2:=(h5.del i).swap (Ne.symm z0);have p2:=(((Ext.drew (M:=M) (N:=N) (U:=(· <s.nx)) (h:=s.h) (w:=w)).trans h4).del i).swap (Ne.symm z0);obtain⟨g1,g2⟩:=iJ hf p2 k2;refine⟨M,N',g1,g2,?_⟩;rw[gI];have:=VR.sl (M:=M) (N:=N') (U:=(· <s.nx+1)) s.nx 0 (len+news.length) eu.size a0 (by omega) o1 m0 d2 (by rw[h2,g0];simp);rw[h1,W0]at this;exact this
 have o0: ∀vs:List Value,vs.length=news.flatten.length->vs.length=news.length*ii.size:=fun vs h=>by rw[h,fi J,x0]
 generalize a.eval x=vx at r1 B;cases r1 with
 |kP _ _ hU=>
  have A:es=[]:=by simpa using D
  subst A;by_cases hm:news=[]
  .subst hm;have C:=ff (P:=P) (w:=w) t o.type u ii t0 r0 io 0 0 (VA _) ao c (.inl Z);obtain⟨h1,h2⟩:=hf.1.B1 eu.size;obtain⟨g1,g2⟩:=iJ (es:=[]) (news:=[]) (i:=i) hf ((h1.del i).swap (Ne.symm z0)) ((h2.del i).swap (Ne.symm z0));exact⟨_,w,M,N,B _ _ C,g1,g2,.kP _ _ (by rw[gI];omega)⟩
  .obtain⟨b,b1,d1,b0⟩:=e0 hm;subst d1;obtain⟨vs,Y,a1,w0⟩:=kN (s:=s) b0;have x1:0<news.length:=WD.2 hm;have C:=run_append_nil (P:=P) w t o.type u ii eu.zero t0 r0 w1 ⟨b,b1,io⟩ news.length c vs (o0 vs Y) a1 x1 (by omega) (by simp only[WH,VL]at c0;omega);obtain⟨M',N',g1,g2,g3⟩:=i0 [] vs (grownCap w news.length 0 u) (by simp) (by rw[Y,fi J]) (by simp) (by simp) w0 (by simpa using grownCap_ge w news.length 0 u) (grownCap_le_maxLen w _ _ _ (by simp only[maxLen];omega)) (by omega) _ Z;simp only[VL,VU] at*
   exact⟨_,_,M',N',B _ _ C,by simpa using g1,by simpa using g2,by simpa using g3⟩
 |sl _ _ _ _ a0 hU h0 hl hc hext=>
  rcases i2 with rfl|⟨hsz0,cur,T,q1,q2,q3,q4,q5⟩
  .simp at D;omega
  have k0:(AO.row eu.size es).real=is:=by cases es with
   |nil=>simp at D;omega
   |cons=>rfl
  rw[W0]at B;have n0:cur.size=a0*eu.size:=by rw[q2,<-hext,VL]
  by_cases hm:news=[]
  .subst hm;have C:=ff (P:=P) (w:=w) t o.type u ii t0 r0 (co ⟨N.az i,0,io⟩) len a0 hl ao c (.inr ⟨_,_,rfl⟩)
   obtain⟨h1,h2⟩:=hf.1.move hi k0 w (.row eu.size (es++ [])) Z Z Z Z (fun _ _=>rfl) (by
    rw[We]
    exact .inr ⟨hsz0,cur,T,by simpa using q1,by simpa using q2,q3,q4,fun k e j p A I=>(q5 k e j p A I).mono (.refl _) (N.dm _ _ _) (fun i hi=>by omega)⟩)
   obtain⟨g1,g2⟩:=iJ (es:=es) (news:=[]) (i:=i) hf h1 h2;refine⟨_,w,M,_,B _ _ C,g1,g2,?_⟩;have:=VR.sl (M:=M) (N:=N.with s.nx (N.az i) (N.ext i)) (U:=(· <s.nx+1)) s.nx 0 len eu.size a0 (by omega) h0 hl hc (by simpa using hext);rw[gI];simpa using this
  .obtain⟨b,b1,d1,b0⟩:=e0 hm;subst d1;obtain⟨vs,Y,a1,w0⟩:=kN (s:=s) b0;have x1:0<news.length:=WD.2 hm;have p0:vs.length=news.length*eu.size:=by rw[Y,fi J]
   have s0: ∀(j:Nat) (v:Value),(cur.toList.take (len*eu.size))[j]? =co v->w.cell? ((⟨N.az i,0,io⟩:Addr).add j)=co v:=by
    intro j v hv;rw[V8]at hv;split at hv
    .rw[cY,VL];simp only[World.cell?,q1];simpa using hv
    .cases hv
   have v2:len*eu.size<=cur.size:=by rw[n0];exact VO _ hl
   have j0: ∀(k:Nat) (e:List PV) (j:Nat) (p:PV),es[k]? =co e->e[j]? =co p->k*eu.size+j<len*eu.size:=by
    intro k e j p A I;have hk:k<len:=by rw[<-D];exact(Vs.1 A).1
    have j1:j<eu.size:=by rw[<-q4 k e A];exact(Vs.1 I).1
    have:(k+1)*eu.size<=len*eu.size:=VO _ hk;rw[Wg]at this;omega
   by_cases d0:len+news.length<=a0
   .have f1:len*eu.size+vs.length<=cur.size:=by rw[p0,<-Wg,n0];exact VO _ d0
    have v0: ∀v∈vs,v.oneCell'=is:=by
     intro v hv;obtain⟨j,I⟩:=Wh hv;have f2:j<news.flatten.length:=by rw[<-Y];exact(Vs.1 I).1
     have hp:=Vt f2;obtain⟨k,e,i',h1,h2,_⟩:=js J j _ hp;have:=(w0 j _ hp).one (gk (n1 e (V2 h1)) i' _ h2);rw[Vr,I]at this;exact this
    have C:=iQ (P:=P) (w:=w) t o.type u ii t0 r0 T (N.az i) len a0 cur q1 ⟨b,b1,io⟩ news.length c vs (o0 vs Y) a1 v0 d0 (by rw[x0];exact f1);rw[x0]at C;generalize hL:(cur.toList.take (len*eu.size)++vs++cur.toList.drop (len*eu.size+vs.length)).toArray=L at C;have t1:L.size=cur.size:=by rw[<-hL];simp;omega
    have p1:=setRow_heap w (N.az i) cur L T (0,0) q1;have c2: ∀j,j<len*eu.size->L.getD j undef=cur.getD j undef:=by
     intro j I;rw[<-hL,Vn,Vn];simp only[Wd];rw[VF,VJ (by simp;omega),V8,am I,VY]
    have b2: ∀j,j<vs.length->L.getD (len*eu.size+j) undef=vs.getD j undef:=by
     intro j I;rw[<-hL,Vn,Vr];simp only[Wd];rw[VJ (by simp;omega),VK (by simp;omega)];congr 2;simp;omega
    obtain⟨h1,h2⟩:=hf.1.move hi k0 (w.setRow (N.az i) L) (.row eu.size (es++news)) Z Z Z (by simp) (fun b hb=>by
      simp only[World.setRow,VZ]
      rw[be (fun e=>hb e.symm)]) (by
     refine .inr ⟨hsz0,L,T,by simpa using p1,by rw[t1];simpa using q2,?_,fun k e A=>?_,fun k e j p A I=>?_⟩
     .rw[t1,n0,Vp,D];exact VO _ d0
     .rcases Wp k es.length with hk|hk
      .rw[VJ hk]at A;exact q4 k e A
      .rw[VK hk]at A;exact J _ e A
     .rcases Wp k es.length with hk|hk
      .rw[VJ hk]at A;rw[c2 _ (j0 k e j p A I)];exact(q5 k e j p A I).mono (.refl _) (N.dm _ _ _) (fun i hi=>by omega)
      .rw[VK hk]at A;have j1:j<eu.size:=by rw[<-J _ e A];exact(Vs.1 I).1
       have k1:k-es.length<news.length:=(Vs.1 A).1;have i1:=jr J _ e j p A I;have q0:(k-es.length)*eu.size+j<vs.length:=by
        rw[p0];have:(k-es.length+1)*eu.size<=news.length*eu.size:=VO _ k1;rw[Wg]at this;omega
       have f0:k*eu.size+j=len*eu.size+((k-es.length)*eu.size+j):=by
        rw[<-D,YM];have:es.length*eu.size<=k*eu.size:=VO _ hk;omega
       rw[f0,b2 _ q0]
       exact(w0 _ p i1).mono (.refl _) (N.dm _ _ _) (fun i hi=>by omega))
    obtain⟨g1,g2⟩:=iJ (es:=es) (news:=news) (i:=i) hf h1 h2;refine⟨_,_,M,_,B _ _ C,g1,g2,?_⟩;have:=VR.sl (M:=M) (N:=N.with s.nx (N.az i) (N.ext i)) (U:=(· <s.nx+1)) s.nx 0 (len+news.length) eu.size a0 (by omega) (by omega) d0 hc (by simpa using hext);rw[gI];simpa using this
   .have C:=run_append_grow (P:=P) w t o.type u ii eu.zero t0 r0 w1 ⟨N.az i,0,io⟩ len a0 (cur.toList.take (len*eu.size)) (by rw[x0];simp;omega) s0 ⟨b,b1,io⟩ news.length c vs (o0 vs Y) a1 (by omega) (by omega)
     (growslice_fits (by omega) c0)
    obtain⟨M',N',g1,g2,g3⟩:=i0 (cur.toList.take (len*eu.size)) vs (grownCap w (len+news.length) a0 u) (by rw[D];simp;omega) p0 (fun k e j p A I=>by
      have:=q5 k e j p A I;have q0:=j0 k e j p A I;rw[Vr,V8,am q0,VY]
      rw[Vn]at this;exact this) q4 w0 (grownCap_ge w _ _ _) (grownCap_le_maxLen w _ _ _ (by simp only[maxLen];omega)) (by omega) _ Z
    exact⟨_,_,M',N',B _ _ C,g1,g2,g3⟩
def wo(h:AH)(sz:Nat):PV->Option (List (List PV))
 | .iv (.bK sz' n el)=>match VP sz' sz with
  |true=>co ((V0 n).map fun k=>(el k).map .iv)
  |false=>io
 | .iv (.v (.slice io 0 0))=>co []
 | .sl j off n sz'=>match VP sz' sz,h.get j with
  |true,co (.row sz2 fs)=>match VP sz2 sz,Xr (off+n) fs.length with
   |true,is=>co ((fs.drop off).take n)
   |_,_=>io
  |_,_=>io
 |_=>io
theorem gG{h:AH}{sz:Nat}{p:PV}{news:List (List PV)}(hs:wo h sz p=co news):Src h sz p news:=by
 unfold wo at hs;split at hs
 .split at hs
  .rename_i hb;simp only[Vq]at hs;have:=VN hb;subst this;subst hs;exact .bK _ _
  .cases hs
 .simp only[Vq]at hs;subst hs;exact .nil
 .split at hs
  .rename_i j A;split at hs
   .rename_i u x;simp only[Vq]at hs;have h1:=VN j;have y:=VN u;subst h1;subst y;subst hs;exact .row _ _ _ _ A (Vm x)
   .cases hs
  .cases hs
 .cases hs
def allOnes:List (List PV)->Bool
 | []=>is
 |e::r=>match dt e with
  |true=>allOnes r
  |false=>jp
theorem fW: ∀{l:List (List PV)},allOnes l=is-> ∀e∈l,dt e=is
 | [],_,e,h=>by cases h
 |c::l,h,e,he=>by
  simp only[allOnes]at h;split at h
  .rename_i j;rcases VH.1 he with rfl|he
   .exact j
   .exact fW h e he
  .cases h
def uq(s:AS)(t sz:Nat):AS:=match s with|⟨f,h,n⟩=>⟨(t,.sl n 0 0 sz)::f,(n,co (.row sz []))::h,n+1⟩
theorem JK{o:Oper}{R:AS->Prop}{t sz:Nat}(ht:s.f.get t= .iv (.v (.slice io 0 0)))(h:OT P nt o (uq s t sz) R):OT P nt o s R:=by
 intro M N a w hf K Z hk;obtain⟨J,Y,sn⟩:=s;obtain⟨h1,C⟩:=hf.1.B1 sz;have u:Fits M N (uq ⟨J,Y,sn⟩ t sz) nt a w:=by
  refine⟨C,fun k=>?_,hf.2.2⟩;simp only[uq];rw[AF.ax];split
  .rename_i x;subst x;have:=hf.2.1 k;simp only at ht this;rw[ht]at this;generalize a.tmps.getD k undef=v at this;cases this with
   |iv _ _ h=>cases h with
    |v=>exact .kP _ _ (Xa _)
  .exact(hf.2.1 k).mono (.refl _) (.refl _ _) (fun i D=>W2 D)
 exact h M N a w u K Z fun y A s' B w' I j G=>hk y A s' B w' (h1.trans I) j G
def Cz(s:AS)(op:Op):Option (Nat×TypeId):=
 match op with
 | .call ⟨.builtin .append,args,tys⟩=>match args.toList,tys.toList with
  | [.tmp t0,_],[t,_]=>match s.f.get t0 with
   | .iv (.v (.slice io 0 0))=>co (t0,t)
   |_=>io
  |_,_=>io
 |_=>io
theorem Fy{op:Op}{t0:Nat}{t:TypeId}(h:Cz s op=co (t0,t)):s.f.get t0= .iv (.v (.slice io 0 0)):=by
 unfold Cz at h;split at h
 .split at h
  .split at h
   .rename_i j;simp only[Vq,VC]at h;rw[<-h.1];exact j
   .cases h
  .cases h
 .cases h
end
end
section
section
variable {kc:KC} {V:Type} {M:Mem} {e:V->IV} {m:List (kc.K×V)} {ents:Array MapEntry} {clock:Nat}
theorem jG.CZ(h:jG M kc e m ents clock){j:Nat}(hj:j<ents.size):ents.getD j ci=ents[j]:=by simp[Vn,hj]
theorem jG.set(h:jG M kc e m ents clock){i:Nat}{k:kc.K}{v:V}{y:Value}(hv:IR M (e v) y):jG M kc e (m.set i (k,v)) (ents.modify i fun x=>{x with key:=kc.ek k,val:=y}) clock:=by
 have hb: ∀(j:Nat) (f:MapEntry),(ents.modify i fun x=>{x with key:=kc.ek k,val:=y})[j]? =co f-> ∃g,ents[j]? =co g∧g.born=f.born:=by
  intro j f hf;rw[VZ]at hf;split at hf
  .obtain⟨g,I,rfl⟩:=Vw.1 hf;exact⟨g,I,rfl⟩
  .exact⟨f,hf,rfl⟩
 have J: ∀(j:Nat) (x:kc.K×V),(m.set i (k,v))[j]? =co x->(j=i∧x=(k,v)∧i<m.length)∨(j≠i∧m[j]? =co x):=by
  intro j x u;rw[Xd]at u;split at u
  .rename_i B;split at u
   .simp only[Vq]at u;exact .inl ⟨B.symm,u.symm,by assumption⟩
   .cases u
  .rename_i B;exact .inr ⟨fun e=>B e.symm,u⟩
 refine⟨by simp[h.size],fun j x u=>?_,fun j x u=>?_,fun j l f g hf I G=>?_,fun j f hf=>?_⟩
 .rcases J j x u with⟨rfl,rfl,C⟩|⟨h1,A⟩
  .have:j<ents.size:=by rw[h.size];exact C
   rw[Vn,VZ,am Z,V6 this];rfl
  .have:=h.key j x A;rw[Vn,VZ,be (fun e=>h1 e.symm),<-Vn];exact this
 .rcases J j x u with⟨rfl,rfl,C⟩|⟨h1,A⟩
  .have:j<ents.size:=by rw[h.size];exact C
   rw[Vn,VZ,am Z,V6 this];exact hv
  .have:=h.val j x A;rw[Vn,VZ,be (fun e=>h1 e.symm),<-Vn];exact this
 .obtain⟨D,h1,A⟩:=hb j f hf;obtain⟨Y,h3,h4⟩:=hb l g I;exact h.inj j l D Y h1 h3 (by rw[A,h4,G])
 .obtain⟨D,h1,A⟩:=hb j f hf;rw[<-A];exact h.lt j D h1
theorem jG.push(h:jG M kc e m ents clock){k:kc.K}{v:V}{y:Value}(hv:IR M (e v) y):jG M kc e (m++ [(k,v)]) (ents.push {key:=kc.ek k,val:=y,born:=clock}) (clock+1):=by
 have D: ∀(j:Nat) (x:kc.K×V),(m++ [(k,v)])[j]? =co x->(j=ents.size∧x=(k,v))∨(j<ents.size∧m[j]? =co x):=by
  intro j x u;rw[h.size];rcases Wp j m.length with hj|hj
  .rw[VJ hj]at u;exact .inr ⟨hj,u⟩
  .rw[VK hj]at u;have G:j-m.length=0:=by
    rcases Nat.eq_zero_or_pos (j-m.length) with h1|h1
    .exact h1
    .rw[List.getElem?_eq_none (by simp;omega)]at u;cases u
   rw[G]at u;exact .inl ⟨by omega,by simpa using u.symm⟩
 have hb: ∀(j:Nat) (f:MapEntry),(ents.push {key:=kc.ek k,val:=y,born:=clock})[j]? =co f->(j=ents.size∧f.born=clock)∨(j<ents.size∧ents[j]? =co f∧f.born<clock):=by
  intro j f hf;rw[XF]at hf;split at hf
  .rename_i hj;simp only[Vq]at hf;subst hf;exact .inl ⟨hj,rfl⟩
  .exact .inr ⟨(WC.1 hf).1,hf,h.lt j f hf⟩
 refine⟨by simp[h.size],fun j x u=>?_,fun j x u=>?_,fun j l f g hf Y B=>?_,fun j f hf=>?_⟩
 .rcases D j x u with⟨rfl,rfl⟩|⟨h1,A⟩
  .simp[Vn]
  .have:=h.key j x A;rw[Vn,XF,be (by omega),<-Vn];exact this
 .rcases D j x u with⟨rfl,rfl⟩|⟨h1,A⟩
  .simpa[Vn]using hv
  .have:=h.val j x A;rw[Vn,XF,be (by omega),<-Vn];exact this
 .rcases hb j f hf with⟨h1,A⟩|⟨h1,A,I⟩<;>rcases hb l g Y with⟨J,C⟩|⟨J,C,h6⟩
  .omega
  .omega
  .omega
  .exact h.inj j l f g A C B
 .rcases hb j f hf with⟨h1,A⟩|⟨h1,A,I⟩<;>omega
theorem jG.erase(h:jG M kc e m ents clock){i:Nat}(hi:i<m.length):jG M kc e (m.eraseIdx i) (ents.eraseIdxIfInBounds i) clock:=by
 have C:i<ents.size:=by rw[h.size];exact hi
 have D: ∀j,(ents.eraseIdxIfInBounds i)[j]? =if j<i then ents[j]? else ents[j+1]? :=by
  intro j;simp only[Yx,C,dif_pos];rw[Array.getElem?_eraseIdx]
 have G: ∀j,(m.eraseIdx i)[j]? =if j<i then m[j]? else m[j+1]? :=fun j=>List.getElem?_eraseIdx;refine⟨?_,fun j x A=>?_,fun j x A=>?_,fun j l f g hf u y=>?_,fun j f hf=>?_⟩
 .simp only[Yx,C,dif_pos,Array.size_eraseIdx,List.length_eraseIdx,hi,if_true,h.size]
 .rw[G]at A;rw[Vn,D];split at A
  .rename_i B;rw[am B,<-Vn];exact h.key j x A
  .rename_i B;rw[be B,<-Vn];exact h.key _ x A
 .rw[G]at A;rw[Vn,D];split at A
  .rename_i B;rw[am B,<-Vn];exact h.val j x A
  .rename_i B;rw[be B,<-Vn];exact h.val _ x A
 .rw[D]at hf u;split at hf<;>split at u
  .exact h.inj _ _ f g hf u y
  .have:=h.inj _ _ f g hf u y;omega
  .have:=h.inj _ _ f g hf u y;omega
  .have:=h.inj _ _ f g hf u y;omega
 .rw[D]at hf;split at hf<;>exact h.lt _ f hf
theorem yr(kc:KC)(k:kc.K):Instr.sameBits 10000 (kc.ek k) (kc.ek k)=is:=by
 have hs: ∀(n:Nat) (a:ByteArray),Instr.sameBits n (.string a) (.string a)=is:=by
  intro n a;cases n<;>(simp only[Instr.sameBits];rw[beq_toListBytes,uy];simp)
 have j: ∀(n:Nat) (q:IntKind) (a:Int),Instr.sameBits n (.int q a) (.int q a)=is:=by
  intro n q a;cases n<;>simp[Instr.sameBits]
 cases kc with
 |str=>exact hs _ _
 |int q=>exact j _ _ _
 |si q=>
  simp only[KC.ek];show((#[Value.string k.1,.int q k.2].size== #[Value.string k.1,.int q k.2].size)&&(Instr.sameBits 9999 (.string k.1) (.string k.1)&&(Instr.sameBits 9999 (.int q k.2) (.int q k.2)&&is)))=is;rw[hs,j];rfl
 |fl s=>
  have u: ∀(t:FS) (l:List Value),wg t l->(l.zip l).all (fun(x:Value×Value)=>Instr.sameBits 9999 x.1 x.2)=is:=by
   intro t
   induction t with
   |nil=>intro l h;match l,h with
    | [],_=>rfl
   |cons o t ih=>intro l h;match l,h with
    |v::l,h=>
     rw[List.zip_cons_cons,List.all_cons,ih l h.2,Bool.and_true];cases o with
     |none=>obtain⟨a,rfl⟩:=h.1;exact hs _ _
     |some q=>obtain⟨n,rfl⟩:=h.1;exact j _ _ _
  simp only[KC.ek];show(((FK.vs s k).toArray.size==(FK.vs s k).toArray.size)&&(((FK.vs s k).toArray.toList.zip (FK.vs s k).toArray.toList).all fun(x:Value×Value)=>Instr.sameBits 9999 x.1 x.2))=is;rw[List.toList_toArray,u s _ (lF s k)];simp
end
def Pg(ty:Ty)(s:AS):Op->Option (Prop×AS)
 | .mapUpdate t m k x=>match ev s.f m with
  | .mp i=>match s.h.get i with
   |some (.map kc e z zv dv mm)=>match ty t with
    |some ⟨.aP (.map kt _),_,_,_,_⟩=>match dK ty kt with
     |some kc'=>match kw (kc'=kc),kc.dk (ev s.f k) with
      |true,co kk=>match s with
       |⟨f,h,n⟩=>vq (ev f x) fun p=>co (ae p (.iv (e (dv p))),⟨f,(i,co (.map kc e z zv dv (cJ kc mm kk (dv p))))::h,n⟩)
      |_,_=>io
     |none=>io
    |_=>io
   |_=>io
  |_=>io
 | .call ⟨.builtin .delete,args,tys⟩=>match args.toList,tys.toList with
  | [m,k],[t,_]=>match ev s.f m with
   | .mp i=>match s.h.get i with
    |some (.map kc e z zv dv mm)=>match ty t with
     |some ⟨.aP (.map kt _),_,_,_,_⟩=>match dK ty kt with
      |some kc'=>match kw (kc'=kc),kc.dk (ev s.f k) with
       |true,co kk=>match s with
        |⟨f,h,n⟩=>co (True,⟨f,(i,co (.map kc e z zv dv (kL kc mm kk)))::h,n⟩)
       |_,_=>io
      |none=>io
     |_=>io
    |_=>io
   |_=>io
  |_,_=>io
 |_=>io
section
variable {P:Program} {ty:Ty} {nt:NT} {s:AS} {M:Mem} {N:Nm} {w:World}
def nR(w:World)(b:Nat)(o:Obj):World:={w with heap:=w.heap.setIfInBounds b o}
theorem s5{nx:Nat}{h:AH}(hr:Rel M N (· <nx) h w){i:Nat}{kc:KC}{V:Type}{e:V->IV}{z:V}{B:Value}{x:PV->V}{G A:List (kc.K×V)}(hi:h.get i=co (.map kc e z B x G)){u:Array MapEntry}{j:Nat}
  (hm:jG M kc e A u j):Ext M N (· <nx) h w M N (· <nx) ((i,co (.map kc e z B x A))::h) (nR w (N.az i) (.map u j))∧Rel M N (· <nx) ((i,co (.map kc e z B x A))::h) (nR w (N.az i) (.map u j)):=by
 have C:=hr.obj i _ hi;have y:=OR.lt C Z;obtain⟨ents,clock,h1,I,D⟩:=C;refine hr.write hi Z _ _ Z Z Z (by simp[nR]) (fun b hb=>?_) ⟨u,j,?_,hm,D⟩
 .show(w.heap.setIfInBounds _ _)[b]? =_;rw[V1,be (fun e=>hb e.symm)]
 .show(w.heap.setIfInBounds _ _)[_]? =_;rw[V1,am Z,am y]
theorem jf{r:Nat}{es:Array MapEntry}{clock:Nat}(o:Obj)(hb:w.heap[r]? =co (.map es clock)):(setObj r o).run P w= .ok () (nR w r o):=by
 simp[setObj,Sem.run,hb,nR]
theorem JN(J:bn P ty){o:Oper}{C:Prop}{s1 s':AS}(h:Pg ty s o.op=co (C,s1))(hC:C)(hp:putDst nt o .any s1=co s'):OT P nt o s (fun t=>t=s'):=by
 unfold Pg at h;split at h
 .rename_i t m k x ho;split at h
  .rename_i i c0;split at h
   .rename_i V kc e z zv dv mm hi;split at h
    .rename_i kt et _ _ _ _ he;have hu:=(J _ _ he).2.1.1;split at h
     .rename_i u d0;split at h
      .rename_i G hd e0;have hd:=of_decide_eq_true hd;subst hd;obtain⟨f,hh,n⟩:=s;simp only[dB,Vq,VC]at h;obtain⟨rfl,rfl⟩:=h;refine OT.skip hp fun M N a w hf=>?_;have f0:=Ex e0 (aN hf.2.1 k);have I:=aN hf.2.1 m;simp only at c0;rw[c0]at I
       have m0:IR M (e (dv (ev f x))) (a.eval x):=by
        have:=hC M N (· <n) _ (aN hf.2.1 x);generalize a.eval x=y at this;cases this with
        |iv _ _ h=>exact h
       obtain⟨ents,clock,h1,h2,h3⟩:=hf.1.obj i _ hi;have Y:=kX (P:=P) (w:=w) J d0 G jp 9994;have D:=mU (P:=P) (w:=w) J d0 G h2.keys;have hg:(getObj (N.az i)).run P w= .ok (.map ents clock) w:=by simp[getObj,Sem.run,h1]
       have a0: ∀B A,jG M u e (cJ u mm G (dv (ev f x))) B A->(Instr.mapUpdate t (.map (co (N.az i))) (u.ek G) (a.eval x)).run P w= .ok () (nR w (N.az i) (.map B A))->
         ∃w' M' N',(execOp a.eval o).run P w= .ok .skip w'∧Ext M N (· <n) hh w M' N' (· <n) ((i,co (.map u e z zv dv (cJ u mm G (dv (ev f x)))))::hh) w'∧
          Fits M' N' ⟨f,(i,co (.map u e z zv dv (cJ u mm G (dv (ev f x)))))::hh,n⟩ nt a w':=by
        intro B A g1 g2;obtain⟨g3,g4⟩:=s5 hf.1 hi g1;refine⟨_,M,N,?_,g3,g4,hf.2.1,hf.2.2⟩;have i0:a.eval m= .map (co (N.az i)):=by
         generalize a.eval m=y at I;cases I;rfl
        simp only[execOp,ho,i0,f0];simp[g2]
       cases hfi:kz u mm G with
       |none=>
        obtain⟨_,_,g3,_⟩:=oS hfi;rw[hfi]at D;refine a0 _ _ (by rw[g3];exact h2.push m0) ?_;simp[Instr.mapUpdate,run_underlying hu,hg,Y,D,jf (P:=P) _ h1]
       |some j=>
        obtain⟨v,g0,_,_,g3,_⟩:=l4 hfi;rw[hfi]at D;refine a0 _ _ (by rw[g3];exact h2.set m0) ?_;have hj:j<ents.size:=by rw[h2.size];exact(Vs.1 g0).1
        have k0:=h2.key j _ g0;rw[h2.CZ hj]at k0;have o0:(Instr.keyThatStays (u.ek G) (u.ek G)).run P w= .ok (u.ek G) w:=by simp[Instr.keyThatStays,yr]
        simp[Instr.mapUpdate,run_underlying hu,hg,Y,D,hj,k0,o0,jf (P:=P) _ h1]
      .cases h
     .cases h
    .cases h
   .cases h
  .cases h
 .rename_i args n0 ho;split at h
  .rename_i m k t t' b0 j0;have ha:args= #[m,k]:=by rw[<-W5 (xs:=args),b0]
   have ht:n0= #[t,t']:=by rw[<-W5 (xs:=n0),j0]
   subst ha ht;split at h
   .rename_i i c0;split at h
    .rename_i V kc e z zv dv mm hi;split at h
     .rename_i kt et _ _ _ _ he;have hu:=(J _ _ he).2.1.1;split at h
      .rename_i u d0;split at h
       .rename_i G hd e0;have hd:=of_decide_eq_true hd;subst hd;obtain⟨f,hh,n⟩:=s;simp only[Vq,VC]at h;obtain⟨rfl,rfl⟩:=h;refine OT.value hp fun M N a w hf=>?_;have f0:=Ex e0 (aN hf.2.1 k);have I:=aN hf.2.1 m;simp only at c0;rw[c0]at I;obtain⟨ents,clock,h1,h2,h3⟩:=hf.1.obj i _ hi;have Y:=kX (P:=P) (w:=w) J d0 G ents.isEmpty 9994;have D:=mU (P:=P) (w:=w) J d0 G h2.keys;have hg:(getObj (N.az i)).run P w= .ok (.map ents clock) w:=by simp[getObj,Sem.run,h1]
        have a0: ∀B A,jG M u e (kL u mm G) B A->(Builtin.delete_ #[t,t'] o.type #[.map (co (N.az i)),u.ek G]).run P w= .ok (.tuple #[]) (nR w (N.az i) (.map B A))->
          ∃x w' M' N',(execOp a.eval o).run P w= .ok (.value x) w'∧Ext M N (· <n) hh w M' N' (· <n) ((i,co (.map u e z zv dv (kL u mm G)))::hh) w'∧
           Fits M' N' ⟨f,(i,co (.map u e z zv dv (kL u mm G)))::hh,n⟩ nt a w'∧VR M' N' (· <n) .any x:=by
         intro B A g1 g2;obtain⟨g3,g4⟩:=s5 hf.1 hi g1;refine⟨.tuple #[],_,M,N,?_,g3,⟨g4,hf.2.1,hf.2.2⟩,.any _⟩;have i0:a.eval m= .map (co (N.az i)):=by
          generalize a.eval m=y at I;cases I;rfl
         simp only[execOp,ho,resolve];simp[invoke,builtin,i0,f0,g2]
        cases hfi:kz u mm G with
        |none=>
         obtain⟨_,_,_,g3⟩:=oS hfi;rw[hfi]at D;refine a0 _ _ (by rw[g3];exact h2) ?_;simp[Builtin.delete_,run_underlying hu,hg,Y,D,jf (P:=P) _ h1]
        |some j=>
         obtain⟨v,g0,_,_,_,g3⟩:=l4 hfi;rw[hfi]at D;refine a0 _ _ (by rw[g3];exact h2.erase (Vs.1 g0).1) ?_;simp[Builtin.delete_,run_underlying hu,hg,Y,D,jf (P:=P) _ h1]
       .cases h
      .cases h
     .cases h
    .cases h
   .cases h
  .cases h
 .cases h
end
end
end Go.Al
