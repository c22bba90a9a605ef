/-
  What the proofs of the claims need: part 1 of 5.
-/
import GoSem.Core.World
import Derived.Calls
import Derived.Laws.AppendOwn
import Derived.Below
import Derived.Laws.Cells
import Derived.Laws.Entries
import Derived.Laws.StructEq
import Derived.ChangeKeysEq
import Derived.WideLaws
import Derived.Tactics
import Derived.IntWalk
import Derived.WideShapes
import Derived.Lib.Strings
import Derived.MapKept
import Derived.Maps.RangeRun
import Derived.Still
import Derived.Scope
import Derived.Laws.CopyRow
import Derived.Laws.Append
open Array renaming append_assoc→Zs,eq_empty_of_size_eq_zero→Yb,eraseIdxIfInBounds→ZS,getD_eq_getD_getElem?→WM,getElem?_append_left→Xt,getElem?_append_right→YJ,getElem?_eq_getElem→Xx,getElem?_eq_none→Zc,getElem?_eq_some_iff→X4,getElem?_map→Zr,getElem?_modify→Xp,getElem?_push→Y4,getElem?_setIfInBounds→Xr,getElem?_toList→Xo,length_toList→YW,mapM_eq_mapM_toList→ZN,mem_filter→ZE,range→ZP,replicate→YV,size_append→Yr,toArray_toList→Yv,toList_append→aab,toList_inj→ZT
open Bool renaming and_eq_true→XE,eq_iff_iff→Yk,false_eq_true→YE,false_or→YO,not_eq_true'→X0,not_true→Zd,or_eq_true→YY
open Classical renaming choose→Zj,choose_spec→YN
open Int renaming toNat_of_nonneg→Y5
open List.Pairwise renaming nil→Y0
open List renaming all_eq_true→XC,any_eq_true→Yf,append_assoc→W6,append_inj→aaq,append_nil→XA,cons_append→Xe,flatten_cons→ZQ,foldl_cons→XU,forIn_cons→aar,getD_cons_zero→YL,getD_eq_getElem?_getD→WQ,getElem?_append_left→Xb,getElem?_append_right→Xc,getElem?_cons_succ→Zt,getElem?_drop→XK,getElem?_eq_getElem→WU,getElem?_eq_some_iff→WT,getElem?_map→WX,getElem?_of_mem→XH,getElem?_set→YD,getElem?_take→Xy,getElem?_toArray→XD,getElem_mem→XF,headD_cons→ZI,length→Y9,length_append→WO,length_cons→Xn,length_drop→XT,length_map→Xk,length_nil→X8,length_pos_iff→X5,length_take→Xv,map_append→W4,map_cons→WW,map_nil→W7,mem_append_left→XJ,mem_cons→Xa,mem_cons_of_mem→W5,mem_cons_self→W8,mem_filter→Xu,mem_map→Xw,mem_of_getElem?→Xs,mem_singleton→W1,nil_append→Xg,nodup_cons→XB,nodup_nil→XM,pairwise_cons→XZ,pairwise_iff_getElem→X9,range→Xq,range'_succ→aak,size_toArray→Y1
open List.cons renaming injEq→Z2
open Nat renaming add_assoc→X3,add_mul→XG,add_zero→Yp,beq→Xj,ble→YR,ble_eq_true_of_le→XN,blt→Xm,eq_of_beq_eq_true→Xh,le_of_ble_eq_true→WL,le_of_not_lt→Yz,le_refl→WY,le_succ→Yh,le_trans→XR,lt_of_lt_of_le→Yu,lt_or_ge→XO,lt_succ_of_lt→Ys,lt_succ_self→YA,lt_trichotomy→YZ,mod_eq_of_lt→Y6,mul_le_mul_right→Xi,ne_of_lt→ZX,not_lt_zero→YM,sub_mul→Z7,sub_self→Zv,sub_zero→Zw,succ_mul→Yy,zero_add→Xd,zero_le→W2,zero_mul→Yq
open Option renaming getD_some→XV,map_eq_none_iff→Zb,map_eq_some_iff→WZ,map_map→Z6,map_none→YU,map_some→XW
open Option.some renaming inj→XP,injEq→WR
open Prod renaming fst→XY
open Prod.mk renaming injEq→W3
set_option maxRecDepth 100000
open Bool renaming false→kw,true→jp
open Decidable renaming decide→lc
open Inhabited renaming default→co
open Option renaming none→is,some→io
namespace Go
theorem Z.{u}{α:Sort u}{a:α}:a=a:=rfl
theorem ac:True:=trivial
theorem am.{u}{c:Prop}{h:Decidable c}(hc:c){α:Sort u}{t e:α}:(@ite α c h t e)=t:=if_pos hc
theorem be.{u}{c:Prop}{h:Decidable c}(hc:¬c){α:Sort u}{t e:α}:(@ite α c h t e)=e:=if_neg hc
end Go
namespace Go.Al
section
def qK:List Int:=[1,10,100,1000,10000,100000,1000000,10000000,100000000,1000000000,10000000000,100000000000,1000000000000,10000000000000,100000000000000,1000000000000000,10000000000000000,100000000000000000,1000000000000000000,10000000000000000000]
def Ss:Nat->Option (Array Value)
 |1=>io (qK.map fun z=>Value.int .u64 z).toArray
 |_=>is
abbrev FS:=List (Option IntKind)
@[reducible] def FK:FS->Type
 | []=>Unit
 |none::r=>ByteArray×FK r
 |some _::r=>Int×FK r
instance FK.VD:(s:FS)->DecidableEq (FK s)
 | []=>inferInstanceAs (DecidableEq Unit)
 |none::r=>have:=FK.VD r;inferInstanceAs (DecidableEq (ByteArray×FK r))
 |some _::r=>have:=FK.VD r;inferInstanceAs (DecidableEq (Int×FK r))
def FK.vs:(s:FS)->FK s->List Value
 | [],_=> []
 |none::r,k=> .string k.1::FK.vs r k.2
 |some q::r,k=> .int q k.1::FK.vs r k.2
inductive KC where
 |str
 |int (k:IntKind)
 |si (k:IntKind)
 |fl (s:FS)
 deriving DecidableEq
@[reducible] def KC.K:KC->Type
 | .str=>ByteArray
 | .int _=>Int
 | .si _=>ByteArray×Int
 | .fl s=>FK s
instance KC.VD:(c:KC)->DecidableEq c.K
 | .str=>inferInstanceAs (DecidableEq ByteArray)
 | .int _=>inferInstanceAs (DecidableEq Int)
 | .si _=>inferInstanceAs (DecidableEq (ByteArray×Int))
 | .fl s=>FK.VD s
def KC.ek:(c:KC)->c.K->Value
 | .str,s=> .string s
 | .int k,n=> .int k n
 | .si k,x=> .agg #[.string x.1,.int k x.2]
 | .fl s,x=> .agg (FK.vs s x).toArray
inductive IV:Type 1 where
 |v (x:Value)
 |bL (sz n:Nat) (el:Nat->List IV)
 |lh (cs:List IV)
 |agg (cs:List IV)
 |eO {V:Type} (kc:KC) (ev:V->IV) (z:V) (zv:Value) (m:List (kc.K×V))
 |S8 (t:TypeId) (x:IV)
inductive PV:Type 1 where
 |iv (x:IV)
 |agg (cs:List PV)
 |aY (cs:List PV)
 |ptr (i off:Nat)
 |cR (i sz k off:Nat)
 |eS (z:Bool) (i:Nat)
 |og (i off n:Nat)
 |sl (i off len sz:Nat)
 |mp (i:Nat)
 |cv (fn:Fn) (first caps:List PV)
 |kb (b:Bool)
 |any
structure LC where
 ps:Array Tmp
 as_:Code
 bd:Code
 nt:Nat
inductive AO:Type 1 where
 |cells (cs:List PV) (T:Option TypeId:=is)
 |row (sz:Nat) (es:List (List PV))
 |bw (l:List UInt8) (T:TypeId)
 |ft
 |map {V:Type} (kc:KC) (ev:V->IV) (z:V) (zv:Value) (dv:PV->V) (m:List (kc.K×V))
 |bX {V:Type} (kc:KC) (ev:V->IV) (m:List (kc.K×V)) (vs:List Nat) (cur:Option (kc.K×V))
 |ey (s:ByteArray) (pos:Nat)
 |ix {V:Type} (kc:KC) (ev:V->IV) (z:V) (zv:Value) (dv:PV->V) (m:List (kc.K×V)) (bs:List Nat) (clock:Nat)
 |eB (mp:PV) (clock:Nat) (seen:List Nat)
 |oD (l:Nat) (c:LC) (f:List (Nat×PV))
inductive MB where
 |cells (c:Array Value)
 |map (ents:Array MapEntry) (clock:Nat)
structure Mem where
 fn:Nat->Option MB
 NI: ∀b c,Ss b=io c->fn b=io (.cells c)
instance:CoeFun Mem (fun _=>Nat->Option MB):=⟨Mem.fn⟩
def Mem.base:Mem:=⟨fun b=>(Ss b).map .cells,fun b c h=>by rw[h];rfl⟩
def AU(a:Option TypeId)(T:TypeId):Prop:= ∀t,a=io t->T=t
theorem AU.none(T:TypeId):AU is T:=fun _ h=>nomatch h
def Mem.cell(M:Mem)(b o:Nat):Option Value:=match M b with|some (.cells c)=>c[o]? |_=>is
def Mem.set(M:Mem)(b:Nat)(c:MB)(h:M b=is):Mem:=
 ⟨fun x=>if x=b then io c else M x,fun x d j=>by
  rw[be fun e=>by have:=M.NI x d j;rw[e]at this;exact absurd (this.symm.trans h) (by simp)]
  exact M.NI x d j⟩
def MB.GG(w:World)(b:Nat):MB->Prop
 | .cells c=> ∃T j,w.heap[b]? =io (.cells c T j)
 | .map es cl=>w.heap[b]? =io (.map es cl)
theorem MB.GG.lt{w:World}{b:Nat}{m:MB}(h:m.GG w b):b<w.heap.size:=by
 cases m with
 |cells c=>obtain⟨T,j,h1⟩:=h;exact(X4.1 h1).1
 |map es cl=>exact(X4.1 h).1
theorem MB.GG.mono{w j:World}{b:Nat}{m:MB}(h:m.GG w b)(e:j.heap[b]? =w.heap[b]?):m.GG j b:=by
 cases m with
 |cells c=>obtain⟨T,u,h1⟩:=h;exact⟨T,u,e.trans h1⟩
 |map es cl=>exact e.trans h
structure Nm where
 aA:Nat->Nat
 ext:Nat->Nat
inductive IR (M:Mem):IV->Value->Prop
 |v (x:Value):IR M (.v x) x
 |fL (sz:Nat) (el:Nat->List IV) (a:Option Addr) (cap:Nat):IR M (.bL sz 0 el) (.slice a 0 cap)
 | bL (sz n:Nat) (el:Nat->List IV) (b off cap:Nat) (hn:n<=cap) (hc:cap<=maxLen) (hl: ∀k,k<n->(el k).length=sz)
   (hm: ∀k j,k<n->j<sz->(M.cell b (off+k*sz+j)).isSome=jp)
   (hr: ∀k j p,k<n->(el k)[j]? =io p->IR M p ((M.cell b (off+k*sz+j)).getD undef)):
   IR M (.bL sz n el) (.slice (io ⟨b,off,is⟩) n cap)
 | lh (cs:List IV) (b off:Nat) (hm: ∀j,j<cs.length->(M.cell b (off+j)).isSome=jp)
   (hr: ∀j p,cs[j]? =io p->IR M p ((M.cell b (off+j)).getD undef)):IR M (.lh cs) (.pointer (io ⟨b,off,is⟩))
 |agg (cs:List IV) (ys:Array Value) (hl:cs.length=ys.size) (hr: ∀j p,cs[j]? =io p->IR M p (ys.getD j undef)):IR M (.agg cs) (.agg ys)
 | eO {V:Type} (kc:KC) (ev:V->IV) (z:V) (zv:Value) (m:List (kc.K×V)) (b:Nat) (ents:Array MapEntry) (clock:Nat) (hb:M b=io (.map ents clock)) (hs:ents.size=m.length)
   (hk: ∀(j:Nat) (x:kc.K×V),m[j]? =io x->(ents.getD j co).key=kc.ek x.1) (hv: ∀(j:Nat) (x:kc.K×V),m[j]? =io x->IR M (ev x.2) (ents.getD j co).val) (hz:IR M (ev z) zv)
   (hi: ∀(j k:Nat) (e f:MapEntry),ents[j]? =io e->ents[k]? =io f->e.born=f.born->j=k) (hc: ∀(j:Nat) (e:MapEntry),ents[j]? =io e->e.born<clock):IR M (.eO kc ev z zv m) (.map (io b))
 |S8 (t:TypeId) (p:IV) (x:Value) (h:IR M p x):IR M (.S8 t p) (.iface t x)
inductive VR (M:Mem) (N:Nm) (U:Nat->Prop):PV->Value->Prop
 |iv (x:IV) (y:Value) (h:IR M x y):VR M N U (.iv x) y
 |agg (cs:List PV) (ys:Array Value) (hl:cs.length=ys.size) (hr: ∀j p,cs[j]? =io p->VR M N U p (ys.getD j undef)):VR M N U (.agg cs) (.agg ys)
 |aY (cs:List PV) (ys:Array Value) (hl:cs.length=ys.size) (hr: ∀j p,cs[j]? =io p->VR M N U p (ys.getD j undef)):VR M N U (.aY cs) (.tuple ys)
 |ptr (i off:Nat) (h:U i):VR M N U (.ptr i off) (.pointer (io ⟨N.aA i,off,is⟩))
 |cR (i sz k off:Nat) (h:U i):VR M N U (.cR i sz k off) (.pointer (io ⟨N.aA i,k*sz+off,is⟩))
 |eS (z:Bool) (i:Nat) (h:U i):VR M N U (.eS z i) (.pointer (bif z then is else io ⟨N.aA i,0,is⟩))
 |og (i off n:Nat) (h:U i):VR M N U (.og i off n) (.slice (io ⟨N.aA i,off,is⟩) n n)
 |sl (i off len sz cap:Nat) (h:U i) (h0:0<len) (hl:len<=cap) (hc:cap<=maxLen) (he:(off+cap)*sz=N.ext i):VR M N U (.sl i off len sz) (.slice (io ⟨N.aA i,off*sz,is⟩) len cap)
 |lq (i sz:Nat) (h:U i):VR M N U (.sl i 0 0 sz) (.slice is 0 0)
 |sle (i sz cap:Nat) (h:U i) (hc:cap<=maxLen) (he:cap*sz=N.ext i):VR M N U (.sl i 1 0 sz) (.slice (io ⟨N.aA i,0,is⟩) 0 cap)
 |mp (i:Nat) (h:U i):VR M N U (.mp i) (.map (io (N.aA i)))
 | cv (fn:Fn) (first caps:List PV) (f' c':Array Value) (h1:first.length=f'.size) (h2:caps.length=c'.size)
   (hr1: ∀j p,first[j]? =io p->VR M N U p (f'.getD j undef)) (hr2: ∀j p,caps[j]? =io p->VR M N U p (c'.getD j undef)):VR M N U (.cv fn first caps) (.func fn f' c')
 |kb (b:Bool):VR M N U (.kb b) (.bool b)
 |any (x:Value):VR M N U .any x
def Mem.le(M j:Mem):Prop:= ∀b c,M b=io c->j b=io c
theorem Mem.le.refl(M:Mem):M.le M:=fun _ _ h=>h
theorem Mem.le.trans{A B C:Mem}(h:A.le B)(k:B.le C):A.le C:=fun b c e=>k b c (h b c e)
theorem Mem.le.cell{M j:Mem}(h:M.le j){b o:Nat}{v:Value}(hc:M.cell b o=io v):j.cell b o=io v:=by
 unfold Mem.cell at*
 cases hb:M b with
 |none=>simp[hb]at hc
 |some c=>rw[hb]at hc;rw[h b c hb];exact hc
theorem Mem.le.isSome{M j:Mem}(h:M.le j){b o:Nat}(hc:(M.cell b o).isSome=jp):(j.cell b o).isSome=jp∧(j.cell b o).getD undef=(M.cell b o).getD undef:=by
 cases hv:M.cell b o with
 |none=>simp[hv]at hc
 |some v=>rw[h.cell hv];simp
theorem IR.mono{M A:Mem}(hM:M.le A){p:IV}{x:Value}(h:IR M p x):IR A p x:=by
 induction h with
 |v x=>exact .v x
 |fL sz el a cap=>exact .fL sz el a cap
 |bL sz n el b off cap hn hc hl hm hr ih=>
  refine .bL sz n el b off cap hn hc hl (fun k j hk u=>(hM.isSome (hm k j hk u)).1) (fun k j p hk y=>?_);have u:j<sz:=by rw[<-hl k hk];exact(WT.1 y).1
  rw[(hM.isSome (hm k j hk u)).2];exact ih k j p hk y
 |lh cs b off hm hr ih=>
  refine .lh cs b off (fun j u=>(hM.isSome (hm j u)).1) (fun j p y=>?_);have u:j<cs.length:=(WT.1 y).1;rw[(hM.isSome (hm j u)).2];exact ih j p y
 |agg cs ys hl hr ih=>exact .agg cs ys hl ih
 |eO kc ev z zv m b ents clock hb hs hk hv hz hi hc ihv ihz=>exact .eO kc ev z zv m b ents clock (hM _ _ hb) hs hk ihv ihz hi hc
 |S8 t p x h ih=>exact .S8 t p x ih
structure j3 {V:Type} (M:Mem) (kc:KC) (ev:V->IV) (m:List (kc.K×V)) (ents:Array MapEntry) (clock:Nat):Prop where
 size:ents.size=m.length
 key: ∀(j:Nat) (x:kc.K×V),m[j]? =io x->(ents.getD j co).key=kc.ek x.1
 val: ∀(j:Nat) (x:kc.K×V),m[j]? =io x->IR M (ev x.2) (ents.getD j co).val
 inj: ∀(j k:Nat) (e f:MapEntry),ents[j]? =io e->ents[k]? =io f->e.born=f.born->j=k
 lt: ∀(j:Nat) (e:MapEntry),ents[j]? =io e->e.born<clock
theorem j3.mono{V:Type}{M u:Mem}(hM:M.le u){kc:KC}{ev:V->IV}{m:List (kc.K×V)}{ents:Array MapEntry}{clock:Nat}(h:j3 M kc ev m ents clock):j3 u kc ev m ents clock:=
 ⟨h.size,h.key,fun j x y=>(h.val j x y).mono hM,h.inj,h.lt⟩
structure Nm.agree (N N':Nm) (U:Nat->Prop):Prop where
 aA: ∀i,U i->N'.aA i=N.aA i
 ext: ∀i,U i->N'.ext i=N.ext i
theorem Nm.agree.refl(N:Nm)(U:Nat->Prop):N.agree N U:=⟨fun _ _=>rfl,fun _ _=>rfl⟩
theorem VR.mono{M A:Mem}{N B:Nm}{U C:Nat->Prop}(hM:M.le A)(j:N.agree B U)(u: ∀i,U i->C i){p:PV}{x:Value}(h:VR M N U p x):VR A B C p x:=by
 induction h with
 |iv x y h=>exact .iv x y (h.mono hM)
 |agg cs ys hl hr ih=>exact .agg cs ys hl ih
 |aY cs ys hl hr ih=>exact .aY cs ys hl ih
 |ptr i off h=>rw[<-j.aA i h];exact .ptr i off (u i h)
 |cR i sz k off h=>rw[<-j.aA i h];exact .cR i sz k off (u i h)
 |eS z i h=>rw[<-j.aA i h];exact .eS z i (u i h)
 |og i off n h=>rw[<-j.aA i h];exact .og i off n (u i h)
 |sl i off len sz cap h h0 hl hc he=>rw[<-j.aA i h];exact .sl i off len sz cap (u i h) h0 hl hc (by rw[j.ext i h];exact he)
 |lq i sz h=>exact .lq i sz (u i h)
 |sle i sz cap h hc he=>rw[<-j.aA i h];exact .sle i sz cap (u i h) hc (by rw[j.ext i h];exact he)
 |mp i h=>rw[<-j.aA i h];exact .mp i (u i h)
 |cv fn first caps f' c' h1 h2 hr1 hr2 ih1 ih2=>exact .cv fn first caps f' c' h1 h2 ih1 ih2
 |kb b=>exact .kb b
 |any x=>exact .any x
abbrev AH:=List (Nat×Option AO)
def AH.get:AH->Nat->Option AO
 | [],_=>is
 |(i,o)::r,k=>bif Xj k i then o else AH.get r k
abbrev AF:=List (Nat×PV)
def AF.get:AF->Nat->PV
 | [],_=> .any
 |(i,p)::r,k=>bif Xj k i then p else AF.get r k
theorem AF.ax(i:Nat)(p:PV)(r:AF)(k:Nat):AF.get ((i,p)::r) k=if k=i then p else AF.get r k:=by
 by_cases h:k=i
 .subst h;simp[AF.get]
 .have:Xj k i=kw:=Bool.eq_false_iff.2 (fun e=>h (Xh e));simp[AF.get,this,h]
theorem AH.ax(i:Nat)(o:Option AO)(r:AH)(k:Nat):AH.get ((i,o)::r) k=if k=i then o else AH.get r k:=by
 by_cases h:k=i
 .subst h;simp[AH.get]
 .have:Xj k i=kw:=Bool.eq_false_iff.2 (fun e=>h (Xh e));simp[AH.get,this,h]
def OR(M:Mem)(N:Nm)(U:Nat->Prop)(w:World)(i:Nat):AO->Prop
 | .cells cs T0=> ∃c T,w.heap[N.aA i]? =io (.cells c T (0,0))∧c.size=N.ext i∧cs.length=c.size∧(∀j p,cs[j]? =io p->VR M N U p (c.getD j undef))∧AU T0 T
 | .row sz es=>es=[]∨0<sz∧ ∃c T,w.heap[N.aA i]? =io (.cells c T (0,0))∧c.size=N.ext i∧es.length*sz<=c.size∧(∀(k:Nat) (e:List PV),es[k]? =io e->e.length=sz)∧
   ∀(k:Nat) (e:List PV) (j:Nat) (p:PV),es[k]? =io e->e[j]? =io p->VR M N U p (c.getD (k*sz+j) undef)
 | .bw l T=>l=[]∨ ∃c,w.heap[N.aA i]? =io (.cells c T (0,0))∧c.size=N.ext i∧l.length<=c.size∧ ∀(j:Nat) (x:UInt8),l[j]? =io x->c.getD j undef= .int .u8 (x.toNat:Int)
 | .ft=>w.heap[N.aA i]? =io (.map #[] 0)
 | .map kc ev z zv _ m=> ∃(ents:Array MapEntry) (clock:Nat),w.heap[N.aA i]? =io (.map ents clock)∧j3 M kc ev m ents clock∧IR M (ev z) zv
 | .bX kc ev m vs cur=>(m=[]∧vs=[]∧cur=is∧w.heap[N.aA i]? =io (.mapIter is 0 #[] 0))∨ ∃(b:Nat) (ents:Array MapEntry) (clock:Nat) (u:Array Nat),w.heap[N.aA i]? =io (.mapIter (io b) clock u clock)∧M b=io (.map ents clock)∧j3 M kc ev m ents clock∧
   u.toList=vs.reverse.map (fun j=>(ents.getD j co).born)∧(∀j∈vs,j<m.length)∧vs.Nodup∧ ∀x,cur=io x-> ∃j r,vs=j::r∧m[j]? =io x
 | .ey s pos=>w.heap[N.aA i]? =io (.stringIter s pos)
 | .ix kc ev z zv _ m bs clock=> ∃ents:Array MapEntry,w.heap[N.aA i]? =io (.map ents clock)∧j3 M kc ev m ents clock∧IR M (ev z) zv∧ents.toList.map MapEntry.born=bs
 | .eB mp clock u=> ∃b,VR M N U mp (.map (io b))∧w.heap[N.aA i]? =io (.mapIter (io b) clock u.toArray clock)
 | .oD l c f=>N.aA i=l∧ ∃r:Loop,w.heap[l]? =io (.loop r)∧r.state= .ready∧r.pending=is∧r.params=c.ps∧r.assign=c.as_∧r.body=c.bd∧r.tmps.size=c.nt∧ ∀d,VR M N U (AF.get f d) (r.tmps.getD d undef)
def AO.real:AO->Bool
 | .row _ []=>kw
 | .bw [] _=>kw
 |_=>jp
structure Rel (M:Mem) (N:Nm) (U:Nat->Prop) (h:AH) (w:World):Prop where
 dF: ∀b c,M b=io c->c.GG w b
 used: ∀i o,h.get i=io o->U i
 dM: ∀i o,h.get i=io o->o.real=jp->M (N.aA i)=is
 obj: ∀i o,h.get i=io o->OR M N U w i o
 inj: ∀i j o p,h.get i=io o->h.get j=io p->o.real=jp->p.real=jp->N.aA i=N.aA j->i=j
theorem OR.lt{M:Mem}{N:Nm}{U:Nat->Prop}{w:World}{i:Nat}{o:AO}(h:OR M N U w i o)(j:o.real=jp):N.aA i<w.heap.size:=by
 have key: ∀x,w.heap[N.aA i]? =io x->N.aA i<w.heap.size:=fun x u=>(X4.1 u).1
 cases o with
 |cells cs T0=>obtain⟨c,T,h1,_⟩:=h;exact key _ h1
 |row sz es=>
  rcases h with rfl|⟨_,c,T,h1,_⟩
  .cases j
  .exact key _ h1
 |bw l T=>
  rcases h with rfl|⟨c,h1,_⟩
  .cases j
  .exact key _ h1
 |ft=>exact key _ h
 |map kc ev z zv dv m=>obtain⟨e,cl,h1,_⟩:=h;exact key _ h1
 |bX kc ev m l cu=>rcases h with⟨_,_,_,h1⟩|⟨b,e,cl,y,h1,_⟩<;>exact key _ h1
 |ey s p=>exact key _ h
 |ix kc ev z zv dv m bs clock=>obtain⟨e,h1,_⟩:=h;exact key _ h1
 |eB mp clock seen=>obtain⟨b,_,h1⟩:=h;exact key _ h1
 |oD l c f=>obtain⟨rfl,r,h1,_⟩:=h;exact key _ h1
theorem OR.mono{M J:Mem}{N C:Nm}{U Y:Nat->Prop}{w G:World}{i:Nat}{o:AO}(hM:M.le J)(u:N.agree C U)(D: ∀i,U i->Y i)(hi:U i)(hb:G.heap[N.aA i]? =w.heap[N.aA i]?)
  (h:OR M N U w i o):OR J C Y G i o:=by
 cases o with
 |cells cs T0=>
  obtain⟨c,T,h1,x,y,A,B⟩:=h;exact⟨c,T,by rw[u.aA i hi,hb,h1],by rw[u.ext i hi,x],y,fun j p I=>(A j p I).mono hM u D,B⟩
 |row sz es=>
  rcases h with h|⟨h0,c,T,h1,x,y,A,B⟩
  .exact .inl h
  exact .inr ⟨h0,c,T,by rw[u.aA i hi,hb,h1],by rw[u.ext i hi,x],y,A,fun k e j p he I=>(B k e j p he I).mono hM u D⟩
 |bw l T=>
  rcases h with h|⟨c,h1,x,y,A⟩
  .exact .inl h
  exact .inr ⟨c,by rw[u.aA i hi,hb,h1],by rw[u.ext i hi,x],y,A⟩
 |ft=>show G.heap[C.aA i]? =_;rw[u.aA i hi,hb];exact h
 |map kc ev z zv dv m=>
  obtain⟨e,cl,h1,x,y⟩:=h;exact⟨e,cl,by rw[u.aA i hi,hb,h1],x.mono hM,y.mono hM⟩
 |bX kc ev m l cu=>
  rcases h with⟨h1,x,y,A⟩|⟨b,e,cl,se,h1,x,y,A⟩
  .exact .inl ⟨h1,x,y,by rw[u.aA i hi,hb,A]⟩
  .exact .inr ⟨b,e,cl,se,by rw[u.aA i hi,hb,h1],hM _ _ x,y.mono hM,A⟩
 |ey s p=>show G.heap[C.aA i]? =_;rw[u.aA i hi,hb];exact h
 |ix kc ev z zv dv m bs clock=>
  obtain⟨e,h1,x,y,A⟩:=h;exact⟨e,by rw[u.aA i hi,hb,h1],x.mono hM,y.mono hM,A⟩
 |eB mp clock seen=>
  obtain⟨b,h1,x⟩:=h;exact⟨b,h1.mono hM u D,by rw[u.aA i hi,hb,x]⟩
 |oD l c f=>
  obtain⟨rfl,r,h1,x,y,A,B,h6,h7,h8⟩:=h;exact⟨u.aA i hi,r,by rw[hb];exact h1,x,y,A,B,h6,h7,fun d=>(h8 d).mono hM u D⟩
structure uj (w w':World):Prop where
 out:w'.output=w.output
 drawn:w.drawn<=w'.drawn
theorem uj.refl(w:World):uj w w:=⟨rfl,WY _⟩
theorem uj.trans{w j u:World}(b:uj j u)(a:uj w j):uj w u:=⟨b.out.trans a.out,XR a.drawn b.drawn⟩
structure Ext (M:Mem) (N:Nm) (U:Nat->Prop) (h:AH) (w:World) (M':Mem) (N':Nm) (U':Nat->Prop) (h':AH) (w':World):Prop where
 os:w'.os=w.os
 tape:w'.tape=w.tape
 output:uj w w'
 size:w.heap.size<=w'.heap.size
 gK: ∀b,b<w.heap.size->(∀i o,h.get i=io o->o.real=jp->N.aA i≠b)->w'.heap[b]? =w.heap[b]?
 oC:M.le M'
 iK: ∀b c,M b=is->M' b=io c->w.heap.size<=b∨ ∃i o,h.get i=io o∧o.real=jp∧N.aA i=b
 nm:N.agree N' U
 ule: ∀i,U i->U' i
 gx: ∀i o,h'.get i=io o->o.real=jp->w.heap.size<=N'.aA i∨ ∃j p,h.get j=io p∧p.real=jp∧N.aA j=N'.aA i
theorem Ext.refl(M:Mem)(N:Nm)(U:Nat->Prop)(h:AH)(w:World):Ext M N U h w M N U h w:=
 ⟨rfl,rfl,⟨rfl,WY _⟩,WY _,fun _ _ _=>rfl,.refl _,fun b c h1 j=>by simp[h1]at j,.refl _ _,fun _ h=>h,fun i o hi hr=> .inr ⟨i,o,hi,hr,rfl⟩⟩
theorem Ext.trans{M D G:Mem}{N I J:Nm}{U Y U2:Nat->Prop}{h h1 h2:AH}{w w1 w2:World}
  (a:Ext M N U h w D I Y h1 w1) (b:Ext D I Y h1 w1 G J U2 h2 w2):Ext M N U h w G J U2 h2 w2 where
 os:=b.os.trans a.os
 tape:=b.tape.trans a.tape
 output:=b.output.trans a.output
 size:=XR a.size b.size
 gK:=fun k hk hn=>by
  rw[b.gK k (Yu hk a.size) (fun i o hi u he=>?_),a.gK k hk hn];rcases a.gx i o hi u with x|⟨j,p,x,C,y⟩
  .omega
  .exact hn j p x C (y.trans he)
 oC:=a.oC.trans b.oC
 iK:=fun k c x y=>by
  cases A:D k with
  |some c'=>exact a.iK k c' x A
  |none=>
   rcases b.iK k c A y with B|⟨i,o,B,u,h7⟩
   .exact .inl (XR a.size B)
   .rcases a.gx i o B u with h8|⟨j,p,h8,C,h9⟩
    .exact .inl (by omega)
    .exact .inr ⟨j,p,h8,C,h9.trans h7⟩
 nm:=⟨fun i hi=>(b.nm.aA i (a.ule i hi)).trans (a.nm.aA i hi),fun i hi=>(b.nm.ext i (a.ule i hi)).trans (a.nm.ext i hi)⟩
 ule:=fun i hi=>b.ule i (a.ule i hi)
 gx:=fun i o hi u=>by
  rcases b.gx i o hi u with x|⟨j,p,x,C,y⟩
  .exact .inl (XR a.size x)
  .rcases a.gx j p x C with A|⟨k,q,A,hq,B⟩
   .exact .inl (by omega)
   .exact .inr ⟨k,q,A,hq,B.trans y⟩
def ae(p q:PV):Prop:= ∀(M:Mem) (N:Nm) (U:Nat->Prop) (x:Value),VR M N U p x->VR M N U q x
def jR(p q:IV):Prop:= ∀(M:Mem) (x:Value),IR M p x->IR M q x
theorem ae.refl(p:PV):ae p p:=fun _ _ _ _ h=>h
theorem Aw(w:World)(o:Obj)(i:Nat)(h:i<w.heap.size):(w.alloc o).heap[i]? =w.heap[i]? :=by
 show(w.heap.push o)[i]? =_;rw[Y4,be (by omega)]
def FR(M:Mem)(N:Nm)(U:Nat->Prop)(f:AF)(t:Array Value):Prop:= ∀k,VR M N U (f.get k) (t.getD k undef)
theorem FR.mono{M j:Mem}{N u:Nm}{U x:Nat->Prop}{f:AF}{t:Array Value}(hM:M.le j)(y:N.agree u U)(A: ∀i,U i->x i)(h:FR M N U f t):FR j u x f t:=fun k=>(h k).mono hM y A
theorem FR.ext{M j:Mem}{N u:Nm}{U x:Nat->Prop}{h y:AH}{w A:World}{f:AF}{t:Array Value}(e:Ext M N U h w j u x y A)(hf:FR M N U f t):FR j u x f t:=hf.mono e.oC e.nm e.ule
theorem FR.put{M:Mem}{N:Nm}{U:Nat->Prop}{f:AF}{t:Array Value}(h:FR M N U f t)(d:Nat)(p:PV)(x:Value)(hd:d<t.size)(hp:VR M N U p x):FR M N U ((d,p)::f) (t.setIfInBounds d x):=by
 intro k;rw[AF.ax];by_cases hk:k=d
 .subst hk;simp[WM,hd,hp]
 .rw[be hk];have:=h k;simp only[WM,Xr]at this ⊢;rw[be (fun e=>hk e.symm)];exact this
inductive TK where
  |aP (d:TypeDesc)
  |cx (fs:List (Nat×TypeId))
  |arr (n:Nat) (e:TypeId)
structure bD where
  k:TK
  size:Nat
  bytes:Nat
  zero:Value
  eq:Bool
abbrev Ty:=Nat->Option bD
def xZ:TypeDesc->Bool
  | .struct _=>kw
  | .array _ _=>kw
  |_=>jp
def KB(P:Program)(t:TypeId):TK->Prop
  | .aP d=>P.underlying t=io d∧xZ d=jp
  | .cx fs=> ∃F,P.underlying t=io (.struct F)∧F.toList.map (fun f=>(f.offset,f.type))=fs
  | .arr n e=>P.underlying t=io (.array n e)
def Vu(P:Program)(t:TypeId):Prop:=P.stoodInHeld t=kw∧P.eqGuardType P.depth t=kw∧ ∀f∈(P.fieldsOf t).toList,f.name≠ "_"
def aj(P:Program)(t:TypeId)(e:bD):Prop:=
  (∃i,P.info? t=io i∧i.size=e.size∧i.bytes=e.bytes∧i.zero=io e.zero)∧KB P t e.k∧(e.eq=jp->Vu P t)
def bp(P:Program)(ty:Ty):Prop:= ∀t e,ty t=io e->aj P t e
section
variable {P:Program} {w:World}
theorem aQ{t:TypeId}{e:bD}(h:aj P t e):(sizeOf t).run P w= .ok e.size w:=by
  obtain⟨⟨i,hi,hs,_⟩,_⟩:=h;simp[sizeOf,run_typeInfo w hi,hs]
theorem du{t:TypeId}{e:bD}(h:aj P t e):(zeroValue t).run P w= .ok e.zero w:=by
  obtain⟨⟨i,hi,hs,hb,j⟩,_⟩:=h;simp[zeroValue,run_typeInfo w hi,j]
def TK.agg:TK->Bool
  | .aP _=>kw
  |_=>jp
theorem fP{t:TypeId}{e:bD}(h:aj P t e):(isAgg t).run P w= .ok e.k.agg w:=by
  obtain⟨_,hk,_⟩:=h;cases hek:e.k with
  | aP d=>
    rw[hek]at hk;obtain⟨h1,j⟩:=hk;simp only[isAgg,Sem.run_bind,run_underlying h1,Result.andThen_ok];cases d<;>simp_all [xZ,TK.agg]
  | cx fs=>
    rw[hek]at hk;obtain⟨F,h1,_⟩:=hk;simp[isAgg,run_underlying h1,TK.agg]
  | arr n el=>
    rw[hek]at hk;simp only[KB]at hk;simp[isAgg,run_underlying hk,TK.agg]
end
structure AS where
  f:AF
  h:AH
  nx:Nat
structure NT where
  n:Nat
  df:List Deferred
instance:Coe NT Nat:=⟨NT.n⟩
instance:Coe Nat NT:=⟨fun n=>⟨n,[]⟩⟩
def Fits(M:Mem)(N:Nm)(s:AS)(nt:NT)(a:Act)(w:World):Prop:=
  Rel M N (· <s.nx) s.h w∧FR M N (· <s.nx) s.f a.tmps∧a.defers=nt.df∧a.tmps.size=nt.n
def ofV:Value->PV
  | .agg cs=> .agg (cs.toList.map fun v=> .iv (.v v))
  | .bool b=> .kb b
  |v=> .iv (.v v)
def ev(f:AF):Operand->PV
  | .tmp t=>f.get t
  | .const v=>ofV v
  | .global _=> .any
  | .func g=> .cv (.func g) [] []
theorem Sb{M:Mem}{N:Nm}{U:Nat->Prop}(v:Value):VR M N U (ofV v) v:=by
  cases v<;>first
    |exact .iv _ _ (.v _)
    |exact .kb _
    | (refine .agg _ _ (by simp) (fun j p y=>?_)
       rw[WX,WZ]at y;obtain⟨x,B,rfl⟩:=y;rename_i A;have u:A[j]? =io x:=by simpa using B
       rw[WM,u]
       exact .iv _ _ (.v _))
theorem aN{M:Mem}{N:Nm}{U:Nat->Prop}{f:AF}{a:Act}(h:FR M N U f a.tmps)(x:Operand):VR M N U (ev f x) (a.eval x):=by
  cases x with
  |tmp t=>exact h t
  |const v=>exact Sb v
  |global g=>exact .any _
  |func g=>exact .cv _ _ _ _ _ Z Z (by simp) (by simp)
def l3(cs:List PV)(off n:Nat):Option (List PV):=let l:=(cs.drop off).take n;bif Xj l.length n then io l else is
def wi{α:Type _}(p:PV)(k:PV->α):α:=
  match p with
  | .iv x=>k (.iv x)
  | .agg cs=>k (.agg cs)
  | .aY cs=>k (.aY cs)
  | .ptr i o=>k (.ptr i o)
  | .cR i sz a o=>k (.cR i sz a o)
  | .eS z i=>k (.eS z i)
  | .og i o n=>k (.og i o n)
  | .sl i o n sz=>k (.sl i o n sz)
  | .mp i=>k (.mp i)
  | .cv fn a b=>k (.cv fn a b)
  | .kb b=>k (.kb b)
  | .any=>k .any
theorem dG{α:Type _}(p:PV)(k:PV->α):wi p k=k p:=by cases p<;>rfl
def force{α:Type _}:List PV->(List PV->α)->α
  | [],k=>k []
  |x::r,k=>wi x fun u=>force r fun j=>k (u::j)
theorem force_eq{α:Type _}: ∀(l:List PV) (k:List PV->α),force l k=k l
  | [],_=>rfl
  |x::r,k=>by simp only[force,dG];rw[force_eq r]
def PV.one:PV->Bool
  | .iv (.v (.agg _))=>kw
  | .iv (.v (.tuple _))=>kw
  | .iv (.agg _)=>kw
  | .iv _=>jp
  | .agg _=>kw
  | .aY _=>kw
  | .any=>kw
  |_=>jp
def PV.cells:PV->Option (List PV)
  | .agg cs=>io cs
  | p=>match p.one with
    |true=>io [p]
    |false=>is
def dy:List PV->Bool
  | []=>jp
  | p::r=>match p.one with
    |true=>dy r
    |false=>kw
def setCells:List PV->Nat->List PV->List PV
  | [],_,_=> []
  |c::cs,0,[]=>c::cs
  |_::cs,0,x::xs=>x::setCells cs 0 xs
  |c::cs,n+1,xs=>c::setCells cs n xs
theorem c8: ∀(cs:List PV) (n:Nat) (xs:List PV),(setCells cs n xs).length=cs.length
  | [],_,_=>rfl
  |c::cs,0,[]=>rfl
  |_::cs,0,x::xs=>by simp[setCells,c8 cs 0 xs]
  |c::cs,n+1,xs=>by simp[setCells,c8 cs n xs]
theorem iO: ∀(cs:List PV) (n:Nat) (xs:List PV) (j:Nat) (p:PV),(setCells cs n xs)[j]? =io p->(n<=j∧xs[j-n]? =io p)∨((j<n∨n+xs.length<=j)∧cs[j]? =io p)
  | [],_,_,j,p,h=>by simp[setCells]at h
  |c::cs,0,[],j,p,h=> .inr ⟨.inr (by simp),h⟩
  | c::cs,0,x::xs,j,p,h=>by
    simp only[setCells]at h;cases j with
    |zero=>exact .inl ⟨WY _,by simpa using h⟩
    | succ j=>
      rcases iO cs 0 xs j p (by simpa using h) with⟨_,h1⟩|⟨h1,u⟩
      · exact .inl ⟨W2 _,by simpa using h1⟩
      · exact .inr ⟨by simp at h1 ⊢;omega,by simpa using u⟩
  | c::cs,n+1,xs,j,p,h=>by
    simp only[setCells]at h;cases j with
    |zero=>exact .inr ⟨.inl (by omega),by simpa using h⟩
    | succ j=>
      rcases iO cs n xs j p (by simpa using h) with⟨h1,u⟩|⟨h1,u⟩
      · exact .inl ⟨by omega,by rw[show j+1-(n+1)=j-n by omega];exact u⟩
      · exact .inr ⟨by omega,by simpa using u⟩
def b6(v:Value):List PV:=v.cells.toList.map fun x=> .iv (.v x)
def qj(j:Nat->Option (Nat×Nat)):List PV->List (Nat×PV)->Option (List PV)
  |cs,[]=>io cs
  | cs,(i,p)::r=>match j i with
    | some (off,size)=>match p.cells with
      | some l=>match Xj l.length size,YR (off+l.length) cs.length with
        |true,jp=>force (setCells cs off l) fun u=>qj j u r
        |_,_=>is
      |none=>is
    |none=>is
def kK:List PV->Option PV
  | []=>is
  |p::_=>io p
def behind(h:AH):PV->Option (List PV)
  | .ptr i off=>match h.get i with
    |some (.cells cs _)=>io (cs.drop off)
    |_=>is
  | .cR i sz k off=>match h.get i with
    | some (.row sz' es)=>match Xj sz' sz,es[k]? with
      |true,io e=>io (e.drop off)
      |_,_=>is
    |_=>is
  | .iv (.lh cs)=>io (cs.map .iv)
  |_=>is
def il(e:bD)(cs:List PV):Option PV:=
  match e.k.agg with
  | true=>match l3 cs 0 e.size with
    |some l=>force l fun j=>io (.agg j)
    |none=>is
  |false=>kK cs
def uO(e:bD)(k:Nat):Option (Nat×TypeId):=
  match e.k with
  | .cx fs=>fs[k]?
  |_=>is
def rI(ty:Ty):List (Nat×TypeId)->Option (List (Nat×Nat))
  | []=>io []
  | (off,u)::r=>match ty u with
    | some e=>match rI ty r with
      |some l=>io ((off,e.size)::l)
      |none=>is
    |none=>is
def qJ(n:Nat):PV->Option PV
  | .ptr i off=>io (.ptr i (off+n))
  | .cR i sz k off=>io (.cR i sz k (off+n))
  | .iv (.lh cs)=>io (.iv (.lh (cs.drop n)))
  |_=>is
abbrev PV.bool(b:Bool):PV:= .iv (.v (.bool b))
abbrev PV.int(n:Int):PV:= .iv (.v (.int .i64 n))
abbrev PV.str(s:ByteArray):PV:= .iv (.v (.string s))
def sb(n:Int):Prop:= -9223372036854775808<=n∧n<=9223372036854775807
def E6(op:BinOp)(k:IntKind)(a b:Int):Option (PV×Prop):=
  match op,k with
  | .add,.i64=>io (.int (a+b),sb (a+b))
  | .sub,.i64=>io (.int (a-b),sb (a-b))
  | .mul,.i64=>io (.int (a*b),sb (a*b))
  | .rem,.i64=>io (.int (Int.tmod a b),¬b=0)
  | .quo,.i64=>io (.int (Int.tdiv a b),¬b=0∧sb (Int.tdiv a b))
  | .add,k=>io (.iv (.v (.int k (k.wrap (a+b)))),True)
  | .sub,k=>io (.iv (.v (.int k (k.wrap (a-b)))),True)
  | .mul,k=>io (.iv (.v (.int k (k.wrap (a*b)))),True)
  | .quo,k=>io (.iv (.v (.int k (k.wrap (Int.tdiv a b)))),¬b=0)
  | .rem,k=>io (.iv (.v (.int k (Int.tmod a b))),¬b=0)
  | .eql,_=>io (.bool (lc (a=b)),True)
  | .neq,_=>io (.bool (!lc (a=b)),True)
  | .lss,_=>io (.bool (lc (a<b)),True)
  | .leq,_=>io (.bool (lc (a<=b)),True)
  | .gtr,_=>io (.bool (lc (a>b)),True)
  | .geq,_=>io (.bool (lc (a>=b)),True)
  | .and,k=>io (.iv (.v (.int k (k.wrap ((BitVec.ofInt k.bits a&&&BitVec.ofInt k.bits b).toNat:Int)))),True)
  | .or,k=>io (.iv (.v (.int k (k.wrap ((BitVec.ofInt k.bits a|||BitVec.ofInt k.bits b).toNat:Int)))),True)
  | .xor,k=>io (.iv (.v (.int k (k.wrap ((BitVec.ofInt k.bits a ^^^ BitVec.ofInt k.bits b).toNat:Int)))),True)
  |_,_=>is
def tC(op:BinOp)(k:IntKind)(a b:Int):Option (PV×Prop):=
  match op with
  | .shr=>match lc (0<=b) with
    |true=>io (.iv (.v (.int k (a.fdiv (2 ^ min b.toNat k.bits)))),True)
    |false=>is
  | .shl=>match lc (0<=b) with
    |true=>io (.iv (.v (.int k (k.wrap (a*2 ^ min b.toNat k.bits)))),True)
    |false=>is
  |_=>is
def DJ(op:BinOp)(k:IntKind)(a b:Int):Option (PV×Prop):=
  match op with
  | .shr=>tC .shr k a b
  | .shl=>tC .shl k a b
  |op=>E6 op k a b
def El(op:BinOp)(a b:ByteArray):Option (PV×Prop):=
  match op with
  | .eql=>io (.bool (lc (a=b)),True)
  | .neq=>io (.bool (!lc (a=b)),True)
  | .add=>io (.str (a++b),a.size+b.size<=9223372036854775807)
  | .lss=>io (.bool (Op.bytesLess a.toList b.toList),True)
  | .gtr=>io (.bool (!(Op.bytesLess a.toList b.toList||decide (a=b))),True)
  | .leq=>io (.bool (Op.bytesLess a.toList b.toList||decide (a=b)),True)
  | .geq=>io (.bool (!(Op.bytesLess a.toList b.toList)),True)
  |_=>is
def oY(ty:Ty)(t:TypeId)(op:BinOp)(a b:Bool):Option (PV×Prop):=
  match ty t with
  | some ⟨.aP .bool,_,_,_,_⟩=>match op with
    | .eql=>io (.bool (a==b),True)
    | .neq=>io (.bool (!(a==b)),True)
    |_=>is
  |_=>is
def Jf:TypeDesc->Bool
  | .pointer _=>jp
  |_=>kw
def Sn:TypeDesc->Bool
  | .map _ _=>jp
  |_=>kw
def Nv:TypeDesc->Bool
  | .func _ _ _=>jp
  |_=>kw
def vN(ty:Ty)(t:TypeId)(wd:TypeDesc->Bool)(op:BinOp)(b:Bool):Option (PV×Prop):=
  match ty t with
  | some ⟨.aP d,_,_,_,_⟩=>match wd d,op with
    |true,.eql=>io (.bool b,True)
    |true,.neq=>io (.bool (!b),True)
    |_,_=>is
  |_=>is
def Ao(ty:Ty)(t:TypeId)(op:BinOp)(x y:PV):Option (PV×Prop):=
  match x,y with
  | .iv (.v (.int j a)),.iv (.v (.int k b))=>if j=k then DJ op j a b else tC op j a b
  | .iv (.v (.string a)),.iv (.v (.string b))=>El op a b
  | .iv (.v (.bool a)),y=>match y with
    | .iv (.v (.bool b))=>oY ty t op a b
    | .kb b=>oY ty t op a b
    |_=>is
  | .kb a,y=>match y with
    | .iv (.v (.bool b))=>oY ty t op a b
    | .kb b=>oY ty t op a b
    |_=>is
  | .ptr _ _,.iv (.v (.pointer is))=>vN ty t Jf op kw
  | .iv (.v (.pointer is)),.iv (.v (.pointer is))=>vN ty t Jf op jp
  | .mp _,.iv (.v (.map is))=>vN ty t Sn op kw
  | .cv _ _ _,.iv (.v .nilFunc)=>vN ty t Nv op kw
  |_,_=>is
def xm:PV->Option (PV×Prop)
  | .iv (.bL _ n _)=>io (.int n,True)
  | .iv (.v (.slice is 0 0))=>io (.int 0,True)
  | .iv (.v (.string s))=>io (.int s.size,True)
  | .sl _ _ len _=>io (.int len,True)
  |_=>is
def kJ(x:PV)(i:Int):Option (PV×Prop):=
  match x with
  | .iv (.bL _ n el)=>io (.iv (.lh (el i.toNat)),0<=i∧i<n)
  | .sl j off len sz=>io (.cR j sz (off+i.toNat) 0,0<=i∧i<len)
  |_=>is
def FK.rd:(s:FS)->List PV->Option (FK s)
  | [],cs=>match cs with
    | []=>io ()
    |_=>is
  | none::r,cs=>match cs with
    | .iv (.v (.string a))::cs=>match FK.rd r cs with
      |some k=>io (a,k)
      |none=>is
    |_=>is
  | some q::r,cs=>match cs with
    | .iv (.v (.int j n))::cs=>match lc (j=q),FK.rd r cs with
      |true,io k=>io (n,k)
      |_,_=>is
    |_=>is
def KC.pk:(c:KC)->c.K->PV
  | .str,s=> .iv (.v (.string s))
  | .int k,n=> .iv (.v (.int k n))
  | .si k,x=> .agg [.iv (.v (.string x.1)),.iv (.v (.int k x.2))]
  | .fl s,x=> .agg ((FK.vs s x).map fun v=> .iv (.v v))
def KC.dk:(c:KC)->PV->Option c.K
  | .str,p=>match p with
    | .iv (.v (.string s))=>io s
    |_=>is
  | .int k,p=>match p with
    | .iv (.v (.int j n))=>if j=k then io n else is
    |_=>is
  | .si k,p=>match p with
    | .agg [.iv (.v (.string s)),.iv (.v (.int j n))]=>if j=k then io (s,n) else is
    |_=>is
  | .fl s,p=>match p with
    | .agg cs=>FK.rd s cs
    |_=>is
def qX(f:TypeId->Option FS):List (Nat×TypeId)->Nat->Option FS
  | [],_=>io []
  | (off,u)::r,at_=>match Xj off at_,f u with
    | true,io s=>match qX f r (at_+s.length) with
      |some q=>io (s++q)
      |none=>is
    |_,_=>is
def Dk(s:FS):Nat->FS
  |0=> []
  |n+1=>s++Dk s n
def wj(ty:Ty):Nat->TypeId->Option FS
  |0,_=>is
  | d+1,t=>match ty t with
    |some ⟨.aP .string,1,_,_,_⟩=>io [is]
    |some ⟨.aP (.int q),1,_,_,_⟩=>io [io q]
    | some ⟨.cx fs,n,_,_,jp⟩=>match qX (wj ty d) fs 0 with
      | some s=>match Xj s.length n with
        |true=>io s
        |false=>is
      |none=>is
    | some ⟨.arr n e,m,_,_,_⟩=>match wj ty d e with
      | some s=>match Xj (n*s.length) m with
        |true=>io (Dk s n)
        |false=>is
      |none=>is
    |_=>is
def dQ(ty:Ty)(j:TypeId):Option KC:=
  match ty j with
  |some ⟨.aP .string,_,_,_,_⟩=>io .str
  |some ⟨.aP (.int k),_,_,_,_⟩=>io (.int k)
  | some ⟨.cx [(0,a),(1,b)],_,_,_,jp⟩=>match ty a,ty b with
    |some ⟨.aP .string,1,_,_,_⟩,io ⟨.aP (.int k),1,_,_,_⟩=>io (.si k)
    |_,_=>is
  | some ⟨.cx _,_,_,_,jp⟩=>match wj ty 6 j with
    |some s=>io (.fl s)
    |none=>is
  |_=>is
section
variable (kc:KC) {V:Type}
def dW:List (kc.K×V)->kc.K->V->V
  | [],_,z=>z
  |(a,b)::r,k,z=>if a=k then b else dW r k z
def dx:List (kc.K×V)->kc.K->Bool
  | [],_=>kw
  |(a,_)::r,k=>if a=k then jp else dx r k
def cP:List (kc.K×V)->kc.K->V->List (kc.K×V)
  | [],k,v=> [(k,v)]
  |(a,b)::r,k,v=>if a=k then(k,v)::r else(a,b)::cP r k v
def lj:List (kc.K×V)->kc.K->List (kc.K×V)
  | [],_=> []
  |(a,b)::r,k=>if a=k then r else(a,b)::lj r k
end
def Eh:Value->Value->Bool
  | .int j a,.int k b=>lc (j=k)&&lc (a=b)
  | .string a,.string b=>lc (a=b)
  | .bool a,.bool b=>a==b
  | .slice is 0 0,.slice is 0 0=>jp
  | .map is,.map is=>jp
  |_,_=>kw
def xC:List Value->List Value->Bool
  | [],[]=>jp
  |a::r,b::q=>Eh a b&&xC r q
  |_,_=>kw
def lM:Value->Value->Bool
  | .agg a,.agg b=>xC a.toList b.toList
  |a,b=>Eh a b
def IV.pv:IV->PV
  | .agg cs=> .agg (cs.map .iv)
  |x=> .iv x
def vU(ty:Ty)(t:TypeId)(ok:Bool)(kc:KC){V:Type}(e:V->IV)(z:V)(j:Value)(m:List (kc.K×V))(key:PV):Option (PV×Prop):=
  match ty t with
  | some ⟨.aP (.map kt et),_,_,_,_⟩=>match dQ ty kt,ty et with
    | some kc',io ee=>match lc (kc'=kc),lM ee.zero j,kc.dk key with
      | true,jp,io k=>match ok with
        |true=>io (.aY [(e (dW kc m k z)).pv,.iv (.v (.bool (dx kc m k)))],True)
        |false=>io ((e (dW kc m k z)).pv,True)
      |_,_,_=>is
    |_,_=>is
  |_=>is
def G3(f:TypeId->PV->PV->Option Bool)(ty:Ty):List (Nat×TypeId)->List PV->List PV->Option Bool
  | [],_,_=>io jp
  | (off,u)::r,cs,ds=>match ty u with
    | some eu=>match il eu (cs.drop off),il eu (ds.drop off) with
      | some a,io b=>match f u a b,G3 f ty r cs ds with
        |some x,io y=>io (x&&y)
        |_,_=>is
      |_,_=>is
    |none=>is
def G4(ty:Ty):Nat->TypeId->PV->PV->Option Bool
  |0,_,_,_=>is
  | d+1,t,p,q=>match ty t with
    | some ⟨.aP (.int _),_,_,_,_⟩=>match p,q with
      | .iv (.v (.int j a)),.iv (.v (.int k b))=>if j=k then io (lc (a=b)) else is
      |_,_=>is
    | some ⟨.aP .string,_,_,_,_⟩=>match p,q with
      | .iv (.v (.string a)),.iv (.v (.string b))=>io (lc (a=b))
      |_,_=>is
    | some ⟨.aP .bool,_,_,_,_⟩=>match p,q with
      | .iv (.v (.bool a)),.iv (.v (.bool b))=>io (a==b)
      |_,_=>is
    | some ⟨.cx fs,_,_,_,jp⟩=>match p,q with
      | .agg cs,.agg ds=>G3 (G4 ty d) ty fs cs ds
      |_,_=>is
    |_=>is
def FH(ty:Ty)(t:TypeId)(op:BinOp)(p q:PV):Option (PV×Prop):=
  match op with
  | .eql=>match G4 ty 10 t p q with
    |some b=>io (.bool b,True)
    |none=>is
  | .neq=>match G4 ty 10 t p q with
    |some b=>io (.bool (!b),True)
    |none=>is
  |_=>is
def jf(ty:Ty)(s:AS):Op->Option (PV×Prop)
  | .move x=>io (ev s.f x,True)
  | .assign x=>io (ev s.f x,True)
  | .pick c a b=>match ev s.f c with
    | .kb jp=>io (ev s.f a,True)
    | .kb kw=>io (ev s.f b,True)
    |_=>is
  | .load t x=>match ty t with
    | some e=>match behind s.h (ev s.f x) with
      | some cs=>match il e cs with
        |some p=>io (p,True)
        |none=>is
      |none=>is
    |none=>is
  | .nilCheck x=>match ev s.f x with
    | .ptr i o=>io (.ptr i o,True)
    | .cR i sz k o=>io (.cR i sz k o,True)
    | .iv (.lh cs)=>io (.iv (.lh cs),True)
    | .cv (.func g) a b=>io (.cv (.func g) a b,True)
    |_=>is
  | .binOp op t x y _=>match ev s.f x,ev s.f y with
    | .agg cs,.agg ds=>FH ty t op (.agg cs) (.agg ds)
    |p,q=>Ao ty t op p q
  | .lookup t x i ok=>match ev s.f x with
    | .iv (.eO kc e z zv m)=>vU ty t ok kc e z zv m (ev s.f i)
    | .mp j=>match s.h.get j with
      |some (.map kc e z zv _ m)=>vU ty t ok kc e z zv m (ev s.f i)
      |_=>is
    |_=>is
  | .entry it=>match ev s.f it with
    | .ptr i 0=>match s.h.get i with
      |some (.bX kc e _ _ (io x))=>io (.aY [kc.pk x.1,(e x.2).pv],True)
      |_=>is
    |_=>is
  | .unOp .not _ x=>match ev s.f x with
    | .kb jp=>io (.kb kw,True)
    | .kb kw=>io (.kb jp,True)
    | .iv (.v (.bool b))=>io (.bool (!b),True)
    |_=>is
  | .fieldAddr t x k=>match ty t with
    | some e=>match uO e k with
      | some (off,u)=>match ty u with
        | some eu=>match eu.size with
          |0=>is
          | _+1=>match qJ off (ev s.f x) with
            |some p=>io (p,True)
            |none=>is
        |none=>is
      |none=>is
    |none=>is
  | .field t x k=>match ty t with
    | some e=>match uO e k with
      | some (off,u)=>match ty u with
        | some eu=>match ev s.f x with
          | .agg cs=>match il eu (cs.drop off) with
            |some p=>io (p,True)
            |none=>is
          |_=>is
        |none=>is
      |none=>is
    |none=>is
  | .indexAddr t x i=>match ty t with
    | some ⟨.aP (.slice u),_,_,_,_⟩=>match ty u with
      | some eu=>match ev s.f i with
        | .iv (.v (.int _ n))=>match ev s.f x with
          | .iv (.bL sz m el)=>bif Xj sz eu.size then kJ (.iv (.bL sz m el)) n else is
          | .sl j off len sz=>bif Xj sz eu.size then kJ (.sl j off len sz) n else is
          |_=>is
        |_=>is
      |none=>is
    | some ⟨.arr len u,_,_,_,_⟩=>match ty u with
      | some eu=>match ev s.f i with
        | .iv (.v (.int _ n))=>match ev s.f x with
          | .ptr j off=>io (.ptr j (off+n.toNat*eu.size),0<=n∧n<len)
          |_=>is
        |_=>is
      |none=>is
    |_=>is
  | .index t x i=>match ty t with
    | some ⟨.aP .string,_,_,_,_⟩=>match ev s.f i with
      | .iv (.v (.int _ n))=>match ev s.f x with
        | .iv (.v (.string b))=>io (.iv (.v (.int .u8 ((b.data.toList.getD n.toNat 0).toNat:Int))),0<=n∧n<b.size)
        |_=>is
      |_=>is
    |_=>is
  | .slice t x (io lo) (io hi) is=>match ty t with
    | some ⟨.aP (.slice u),_,_,_,_⟩=>match ty u with
      | some eu=>match ev s.f lo with
        | .iv (.v (.int _ a))=>match ev s.f hi with
          | .iv (.v (.int _ b))=>match ev s.f x with
            | .iv (.bL sz m el)=>bif Xj sz eu.size then io (.iv (.bL sz (b.toNat-a.toNat) (fun k=>el (a.toNat+k))),0<=a∧a<=b∧b<=m) else is
            |_=>is
          |_=>is
        |_=>is
      |none=>is
    | some ⟨.aP .string,_,_,_,_⟩=>match ev s.f lo with
      | .iv (.v (.int _ a))=>match ev s.f hi with
        | .iv (.v (.int _ b))=>match ev s.f x with
          | .iv (.v (.string y))=>io (.iv (.v (.string (y.extract a.toNat b.toNat))),0<=a∧a<=b∧b<=y.size)
          |_=>is
        |_=>is
      |_=>is
    |_=>is
  | .slice t x (io lo) is is=>match ty t with
    | some ⟨.aP (.slice u),_,_,_,_⟩=>match ty u with
      | some eu=>match ev s.f lo with
        | .iv (.v (.int _ a))=>match ev s.f x with
          | .iv (.bL sz m el)=>bif Xj sz eu.size then io (.iv (.bL sz (m-a.toNat) (fun k=>el (a.toNat+k))),0<=a∧a<=m) else is
          |_=>is
        |_=>is
      |none=>is
    |_=>is
  | .slice t x is (io hi) (io mx)=>match ty t with
    | some ⟨.aP (.slice u),_,_,_,_⟩=>match ty u with
      | some eu=>match ev s.f hi with
        | .iv (.v (.int _ b))=>match ev s.f mx with
          | .iv (.v (.int _ c))=>match ev s.f x with
            | .iv (.bL sz m el)=>bif Xj sz eu.size then io (.iv (.bL sz b.toNat el),0<=b∧b<=c∧c<=m) else is
            |_=>is
          |_=>is
        |_=>is
      |none=>is
    |_=>is
  | .convert t t' x=>match ty t with
    | some ⟨.aP (.int _),_,_,_,_⟩=>match ty t' with
      | some ⟨.aP (.int k),_,_,_,_⟩=>match ev s.f x with
        | .iv (.v (.int _ n))=>io (.iv (.v (.int k (k.wrap n))),True)
        |_=>is
      |_=>is
    |_=>is
  | .build t parts=>match ty t with
    | some e=>match e.k with
      | .cx fs=>match rI ty fs with
        | some pl=>match qj (pl[·]?) (b6 e.zero) (parts.toList.map fun x=>(x.1,ev s.f x.2)) with
          |some cs=>force cs fun A=>io (.agg A,True)
          |none=>is
        |none=>is
      | .arr _ u=>match ty u with
        | some eu=>match qj (fun i=>io (i*eu.size,eu.size)) (b6 e.zero) (parts.toList.map fun x=>(x.1,ev s.f x.2)) with
          |some cs=>force cs fun A=>io (.agg A,True)
          |none=>is
        |none=>is
      |_=>is
    |none=>is
  | .extract x k=>match ev s.f x with
    | .aY cs=>match cs[k]? with
      |some p=>io (p,True)
      |none=>is
    |_=>is
  | .makeFunc fn first caps=>force (first.toList.map (ev s.f)) fun a=>force (caps.toList.map (ev s.f)) fun b=>io (.cv fn a b,True)
  | .call ⟨.builtin .len,args,argTypes⟩=>match args.toList,argTypes.toList with
    | [x],[t]=>match ty t with
      | some ⟨.aP (.slice _),_,_,_,_⟩=>match ev s.f x with
        | .iv (.bL sz n el)=>xm (.iv (.bL sz n el))
        | .sl i off len sz=>xm (.sl i off len sz)
        | .iv (.v (.slice is 0 0))=>xm (.iv (.v (.slice is 0 0)))
        |_=>is
      | some ⟨.aP .string,_,_,_,_⟩=>match ev s.f x with
        | .iv (.v (.string b))=>xm (.iv (.v (.string b)))
        |_=>is
      | some ⟨.aP (.map _ _),_,_,_,_⟩=>match ev s.f x with
        | .iv (.eO _ _ _ _ m)=>io (.int m.length,True)
        | .mp j=>match s.h.get j with
          |some (.map _ _ _ _ _ m)=>io (.int m.length,True)
          |_=>is
        |_=>is
      |_=>is
    |_,_=>is
  | .call ⟨.builtin .max,args,_⟩=>match args.toList with
    | [x,y]=>match ev s.f x,ev s.f y with
      | .iv (.v (.int k a)),.iv (.v (.int _ b))=>io (.iv (.v (.int k (max a b))),True)
      |_,_=>is
    |_=>is
  | .call ⟨.builtin .min,args,_⟩=>match args.toList with
    | [x,y]=>match ev s.f x,ev s.f y with
      | .iv (.v (.int k a)),.iv (.v (.int _ b))=>io (.iv (.v (.int k (min a b))),True)
      |_,_=>is
    |_=>is
  |_=>is
inductive TT where
  |leaf
  |node (l:TT) (k:Nat) (e:bD) (r:TT)
def TT.find:TT->Nat->Option bD
  | .leaf,_=>is
  | .node l k e r,t=>bif Xj t k then io e else bif Xm t k then l.find t else r.find t
def TT.VI(p:Nat->bD->Prop):TT->Prop
  | .leaf=>True
  | .node l k e r=>p k e∧l.VI p∧r.VI p
theorem TT.wm{p:Nat->bD->Prop}: ∀{x:TT},x.VI p-> ∀t e,x.find t=io e->p t e
  | .leaf,_,t,e,h=>by simp[TT.find]at h
  | .node l k e0 r,ha,t,e,h=>by
    simp only[TT.find]at h;cases hb:Xj t k with
    | true=>
      simp only[hb,cond_true,WR]at h;subst h;rw[Xh hb];exact ha.1
    | false=>
      simp only[hb,cond_false]at h;cases hl:Xm t k with
      |true=>simp only[hl,cond_true]at h;exact TT.wm ha.2.1 t e h
      |false=>simp only[hl,cond_false]at h;exact TT.wm ha.2.2 t e h
theorem ad{P:Program}{t:TypeId}{e:bD}(h:(P.info? t).map (fun i=>(i.size,i.bytes,i.zero))=io (e.size,e.bytes,io e.zero)): ∃i,P.info? t=io i∧i.size=e.size∧i.bytes=e.bytes∧i.zero=io e.zero:=by
  rw[WZ]at h;obtain⟨i,h1,j⟩:=h;simp only[W3]at j;exact⟨i,h1,j.1,j.2.1,j.2.2⟩
theorem VR.one{M:Mem}{N:Nm}{U:Nat->Prop}{p:PV}{x:Value}(h:VR M N U p x)(ho:p.one=jp):x.oneCell'=jp:=by
  cases h with
  | iv y x hi=>
    cases hi with
    |v x=>cases x<;>first|rfl|(simp[PV.one]at ho)
    |agg=>simp[PV.one]at ho
    |_=>rfl
  |agg=>simp[PV.one]at ho
  |aY=>simp[PV.one]at ho
  |any=>simp[PV.one]at ho
  |_=>rfl
section
variable {M:Mem} {N:Nm}
theorem VR.kq{U:Nat->Prop}{cs:List PV}{x:Value}(h:VR M N U (.agg cs) x): ∃u:Array Value,x= .agg u∧cs.length=u.size∧ ∀j p,cs[j]? =io p->VR M N U p (u.getD j undef):=by
  cases h with
  |agg _ u hl hr=>exact⟨u,rfl,hl,hr⟩
theorem oV{U:Nat->Prop}{p:PV}{x:Value}{cs:List PV}(h:VR M N U p x)(hc:p.cells=io cs):cs.length=x.cells.size∧ ∀j q,cs[j]? =io q->VR M N U q (x.cells.getD j undef):=by
  have one:p.one=jp->cs=[p]->cs.length=x.cells.size∧ ∀j q,cs[j]? =io q->VR M N U q (x.cells.getD j undef):=by
    intro y u;subst u;have h1:=h.one y;have B:x.cells= #[x]:=by cases x<;>first|rfl|(simp[Value.oneCell']at h1)
    rw[B];refine⟨rfl,fun j q A=>?_⟩;cases j with
    |zero=>simp at A;subst A;exact h
    |succ j=>simp at A
  cases p with
  | agg l=>
    simp only[PV.cells,WR]at hc;subst hc;obtain⟨C,rfl,hl,hr⟩:=h.kq;exact⟨hl,hr⟩
  | _=>
    simp only[PV.cells]at hc;split at hc
    · rename_i y
      simp only[WR]at hc;exact one y hc.symm
    · cases hc
theorem gE: ∀{cs:List PV},dy cs=jp-> ∀(j:Nat) (p:PV),cs[j]? =io p->p.one=jp
  | [],_,j,p,h=>by simp at h
  | c::cs,h,j,p,hj=>by
    simp only[dy]at h;split at h
    · rename_i u
      cases j with
      |zero=>simp at hj;subst hj;exact u
      |succ j=>exact gE h j p (by simpa using hj)
    · cases h
theorem fC{U:Nat->Prop}(v:Value):(b6 v).length=v.cells.size∧ ∀j p,(b6 v)[j]? =io p->VR M N U p (v.cells.getD j undef):=by
  refine⟨by simp[b6],fun j p u=>?_⟩;simp only[b6]at u;rw[WX,WZ]at u;obtain⟨x,A,rfl⟩:=u;have y:v.cells[j]? =io x:=by simpa using A
  rw[WM,y];exact .iv _ _ (.v _)
theorem yy: ∀(l:List Value) (k off:Nat) (cs:Array Value),off+k+l.length<=cs.size->
    ((l.zipIdx k).foldl (fun cs x=>cs.setIfInBounds (off+x.2) x.1) cs).size=cs.size∧
    ∀j,((l.zipIdx k).foldl (fun cs x=>cs.setIfInBounds (off+x.2) x.1) cs)[j]? =if off+k<=j∧j<off+k+l.length then l[j-(off+k)]? else cs[j]?
  | [],k,off,cs,_=>⟨rfl,fun j=>by simp;omega⟩
  | v::l,k,off,cs,h=>by
    simp only[List.zipIdx_cons,XU];simp only[Xn]at h;obtain⟨h1,A⟩:=yy l (k+1) off (cs.setIfInBounds (off+k) v) (by simp;omega);refine⟨by rw[h1];simp,fun j=>?_⟩;rw[A j];simp only[Xn];by_cases y:off+(k+1)<=j∧j<off+(k+1)+l.length
    · rw[am y,am (by omega),show j-(off+k)=(j-(off+(k+1)))+1 by omega,Zt]
    · rw[be y]
      by_cases u:j=off+k
      · subst u
        have hb:off+k<cs.size:=by omega
        rw[am (by omega),Zv];simp[hb]
      · rw[be (by omega),Xr,be (fun e=>u e.symm)]
def WI(M:Mem)(N:Nm)(U:Nat->Prop)(cs:List PV)(ys:Array Value):Prop:=cs.length=ys.size∧ ∀j p,cs[j]? =io p->VR M N U p (ys.getD j undef)
theorem sd{x:Nat->Option (Nat×Nat)}: ∀{u:List (Nat×PV)} {cs j:List PV},qj x cs u=io j->j.length=cs.length
  | [],cs,j,h=>by simp only[qj,WR]at h;rw[h]
  | (i,p)::r,cs,j,h=>by
    simp only[qj]at h;split at h
    · split at h
      · split at h
        · rw[force_eq]at h
          rw[sd h,c8]
        · cases h
      · cases h
    · cases h
theorem sc{U:Nat->Prop}{A:Nat->Option (Nat×Nat)}: ∀{u:List (Nat×PV)} {AJ:List (Nat×Value)} {cs B:List PV} {ys:Array Value},
    qj A cs u=io B->u.length=AJ.length->(∀(j:Nat) (x:Nat×PV) (y:Nat×Value),u[j]? =io x->AJ[j]? =io y->x.1=y.1∧VR M N U x.2 y.2)->WI M N U cs ys->
    ∃C,Instr.fill A ys AJ=io C∧WI M N U B C
  | [],[],cs,B,ys,h,_,_,hv=>by
    simp only[qj,WR]at h;subst h;exact⟨ys,rfl,hv⟩
  | (i,p)::r,(i',v)::vr,cs,B,ys,h,hl,hp,hv=>by
    obtain⟨h1,h2⟩:=hp 0 _ _ Z Z;simp only at h1 h2;subst h1;simp only[qj]at h;split at h
    · rename_i a0 size d0
      split at h
      · rename_i l c0
        split at h
        · rename_i Y b0
          rw[force_eq]at h;obtain⟨g1,g2⟩:=oV h2 c0;have e0:v.cells.size=size:=by rw[<-g1];exact Xh Y
          have I:a0+v.cells.size<=ys.size:=by rw[<-g1,<-hv.1];exact WL b0
          obtain⟨k1,k2⟩:=yy v.cells.toList 0 a0 ys (by simpa using I);have D:v.cells.zipIdx.foldl (fun cs x=>cs.setIfInBounds (a0+x.2) x.1) ys=(v.cells.toList.zipIdx 0).foldl (fun cs x=>cs.setIfInBounds (a0+x.2) x.1) ys:=by
            rw[<-Array.foldl_toList,Array.toList_zipIdx]
          have f0:WI M N U (setCells cs a0 l) (v.cells.zipIdx.foldl (fun cs x=>cs.setIfInBounds (a0+x.2) x.1) ys):=by
            rw[D];refine⟨by rw[c8,k1];exact hv.1,fun j q hq=>?_⟩;rw[WM,k2 j];rcases iO cs a0 l j q hq with⟨J,G⟩|⟨J,G⟩
            · have g0:j-a0<l.length:=(WT.1 G).1
              rw[am (by simp;omega)];have:=g2 _ q G;rw[WM]at this;simpa using this
            · rw[be (by simp;omega)]
              have:=hv.2 j q G;rw[WM]at this;exact this
          obtain⟨C,J,G⟩:=sc h (by simpa using hl) (fun j x y hx hy=>hp (j+1) x y (by simpa using hx) (by simpa using hy)) f0;refine⟨C,?_,G⟩;simp only[Instr.fill,d0];rw[be (by simp[e0];omega)];exact J
        · cases h
      · cases h
    · cases h
end
section
variable {P:Program} {M:Mem} {N:Nm} {U:Nat->Prop} {h:AH} {w:World}
theorem Rel.I3(hr:Rel M N U h w){b o:Nat}{v:Value}(hc:M.cell b o=io v):w.cell? ⟨b,o,is⟩=io v:=by
  unfold Mem.cell at hc;cases hb:M b with
  |none=>simp[hb]at hc
  | some c=>
    cases c with
    |map es cl=>simp[hb]at hc
    | cells c=>
      obtain⟨T,u,j⟩:=hr.dF b _ hb;rw[hb]at hc;simp only[World.cell?,j];simpa using hc
theorem IR.DI{cs:List IV}{x:Value}(hr:Rel M N U h w)(hp:IR M (.lh cs) x):
    ∃b a0,x= .pointer (io ⟨b,a0,is⟩)∧ ∀j q,cs[j]? =io q-> ∃y,w.cell? ⟨b,a0+j,is⟩=io y∧IR M q y:=by
  cases hp with
  | lh _ b a0 hm hq=>
    refine⟨b,a0,rfl,fun j q B=>?_⟩;have u:j<cs.length:=(WT.1 B).1;have h1:=hm j u;cases hv:M.cell b (a0+j) with
    |none=>simp[hv]at h1
    | some y=>
      have A:=hq j q B;rw[hv]at A;exact⟨y,hr.I3 hv,A⟩
theorem yR{p:PV}{x:Value}{cs:List PV}(hr:Rel M N U h w)(hp:VR M N U p x)(hb:behind h p=io cs):
    ∃b a0,x= .pointer (io ⟨b,a0,is⟩)∧ ∀j q,cs[j]? =io q-> ∃y,w.cell? ⟨b,a0+j,is⟩=io y∧VR M N U q y:=by
  cases p with
  | ptr i a0=>
    cases hp with
    | ptr _ _ hU=>
      simp only[behind]at hb;cases ho:h.get i with
      |none=>simp[ho]at hb
      | some o=>
        cases o with
        | cells cs0 T0=>
          simp only[ho,WR]at hb;subst hb;obtain⟨c,T,h1,h2,Y,C,h5⟩:=hr.obj i _ ho;refine⟨N.aA i,a0,rfl,fun j q u=>?_⟩;rw[XK]at u;have A:a0+j<c.size:=by rw[<-Y];exact(WT.1 u).1
          refine⟨c.getD (a0+j) undef,?_,C _ _ u⟩;simp[World.cell?,h1,WM,A]
        |_=>simp[ho]at hb
  | cR i sz k a0=>
    cases hp with
    | cR _ _ _ _ hU=>
      simp only[behind]at hb;cases ho:h.get i with
      |none=>simp[ho]at hb
      | some o=>
        cases o with
        | row sz' es=>
          simp only[ho]at hb;split at hb
          · rename_i e D B
            simp only[WR]at hb;have:=Xh D;subst this;subst hb;rcases hr.obj i _ ho with J|⟨J,c,T,h1,h2,Y,C,h5⟩
            · subst J;simp at B
            refine⟨N.aA i,k*sz'+a0,rfl,fun j q u=>?_⟩;rw[XK]at u;have b0:a0+j<sz':=by rw[<-C k e B];exact(WT.1 u).1
            have hk:k<es.length:=(WT.1 B).1;have I:(k+1)*sz'<=es.length*sz':=Xi _ hk;rw[Yy]at I;have A:k*sz'+a0+j<c.size:=by omega
            refine⟨c.getD (k*sz'+a0+j) undef,?_,?_⟩
            · simp[World.cell?,h1,WM,A]
            · rw[X3];exact h5 k e _ q B u
          · cases hb
        |_=>simp[ho]at hb
  | iv x=>
    cases x with
    | lh cs0=>
      cases hp with
      | iv _ _ hi=>
        simp only[behind,WR]at hb;subst hb;obtain⟨b,a0,rfl,hc⟩:=hi.DI hr;refine⟨b,a0,rfl,fun j q u=>?_⟩;rw[WX,WZ]at u;obtain⟨q0,G,rfl⟩:=u;obtain⟨y,hy,hq⟩:=hc j q0 G;exact⟨y,hy,.iv _ _ hq⟩
    |_=>simp[behind]at hb
  |_=>simp[behind]at hb
theorem ot{cs l:List PV}{off n:Nat}(hh:l3 cs off n=io l):l.length=n∧ ∀j q,l[j]? =io q->cs[off+j]? =io q∧j<n:=by
  unfold l3 at hh;cases hb:Xj ((cs.drop off).take n).length n with
  |false=>simp only[hb,cond_false]at hh;cases hh
  | true=>
    simp only[hb,cond_true,WR]at hh;subst hh;have hl:=Xh hb;refine⟨hl,fun j q x=>?_⟩;have u:j<n:=by rw[<-hl];exact(WT.1 x).1
    rw[Xy,am u,XK]at x;exact⟨x,u⟩
theorem qh{cs:List PV}{p:PV}(hh:kK cs=io p):cs[0]? =io p:=by
  cases cs with
  |nil=>simp[kK]at hh
  |cons a r=>simpa[kK]using hh
theorem c7(b off j:Nat):(⟨b,off,is⟩:Addr).add j=⟨b,off+j,is⟩:=by
  unfold Addr.add;split
  · subst_vars;rfl
  · rfl
theorem tG{t:TypeId}{e:bD}(he:aj P t e){cs:List PV}{b off:Nat}(hc: ∀j q,cs[j]? =io q-> ∃y,w.cell? ⟨b,off+j,is⟩=io y∧VR M N U q y)
    {p:PV} (hp:il e cs=io p): ∃y,(loadVar t ⟨b,off,is⟩).run P w= .ok y w∧VR M N U p y:=by
  unfold il at hp;cases hk:e.k.agg with
  | true=>
    simp only[hk]at hp;cases ht:l3 cs 0 e.size with
    |none=>simp[ht]at hp
    | some l=>
      simp only[ht,force_eq,WR]at hp;subst hp;obtain⟨hl,C⟩:=ot ht;have u: ∀j,j<e.size->w.cell? ((⟨b,off,is⟩:Addr).add j)=io (((w.cell? ⟨b,off+j,is⟩)).getD undef):=by
        intro j I;have A:l[j]? =io (l[j]'(by omega)):=WU (by omega);obtain⟨y,x,_⟩:=hc j _ (by simpa using(C j _ A).1);rw[c7,x];rfl
      refine⟨.agg (((Xq e.size).map fun j=>(w.cell? ⟨b,off+j,is⟩).getD undef).toArray),?_,?_⟩
      · have:=run_loadCells (P:=P) w ⟨b,off,is⟩ e.size (fun j=>(w.cell? ⟨b,off+j,is⟩).getD undef) u
        simp[loadVar,fP he,hk,aQ he,this]
      · refine .agg _ _ (by simp[hl]) (fun j q J=>?_)
        obtain⟨h1,D⟩:=C j q J;obtain⟨y,x,B⟩:=hc j q (by simpa using h1);have G:(((Xq e.size).map fun j=>(w.cell? ⟨b,off+j,is⟩).getD undef).toArray).getD j undef=y:=by
          simp[WM,D,x]
        rw[G];exact B
  | false=>
    simp only[hk]at hp;obtain⟨y,x,B⟩:=hc 0 p (qh hp);refine⟨y,?_,B⟩;simp only[loadVar,Sem.run_bind,fP he,Result.andThen_ok,hk,YE,if_false];simp only[Yp]at x;simp[x]
theorem jz{t:TypeId}{e:bD}(he:aj P t e){cs:List PV}{ys:Array Value}{off:Nat}(hl:cs.length=ys.size)(hc: ∀j q,cs[j]? =io q->VR M N U q (ys.getD j undef))
    {p:PV} (hp:il e (cs.drop off)=io p): ∃y,(part t ys off).run P w= .ok y w∧VR M N U p y:=by
  unfold il at hp;cases hk:e.k.agg with
  | true=>
    simp only[hk]at hp;cases ht:l3 (cs.drop off) 0 e.size with
    |none=>simp[ht]at hp
    | some l=>
      simp only[ht,force_eq,WR]at hp;subst hp;obtain⟨B,D⟩:=ot ht;refine⟨.agg (ys.extract off (off+e.size)),by simp[part,fP he,hk,aQ he],.agg _ _ ?_ (fun j q G=>?_)⟩
      · rw[B,Array.size_extract]
        by_cases x:e.size=0
        · omega
        · have u:l[e.size-1]? =io (l[e.size-1]'(by omega)):=WU (by omega)
          have:=(D _ _ u).1;rw[XK]at this;have:=(WT.1 this).1;omega
      · obtain⟨h1,J⟩:=D j q G
        rw[XK]at h1;have A:=hc _ _ h1;have C:off+(0+j)<cs.length:=(WT.1 h1).1;have:(ys.extract off (off+e.size)).getD j undef=ys.getD (off+(0+j)) undef:=by
          simp only[WM,Array.getElem?_extract,Xd];rw[am (by omega)]
        rw[this];exact A
  | false=>
    simp only[hk]at hp;have x:=qh hp;rw[XK]at x;have A:=hc _ _ x;have C:off+0<cs.length:=(WT.1 x).1;refine⟨ys.getD (off+0) undef,?_,A⟩;have I:ys[off]? =io (ys.getD off undef):=by
      simp[WM,show off<ys.size by omega]
    simp only[part,Sem.run_bind,fP he,Result.andThen_ok,hk,YE,if_false,I];rfl
theorem vc(a b:ByteArray):(a.toList==b.toList)=lc (a=b):=by
  rw[Lib.toList_data,Lib.toList_data,Yk];simp only[beq_iff_eq,decide_eq_true_eq];exact⟨fun h=>WideShapes.bytes_inj h,fun h=>by rw[h]⟩
theorem Jh{t:TypeId}{op:BinOp}{k:IntKind}{a b:Int}{p:PV}{C:Prop}(h:E6 op k a b=io (p,C))(hC:C): ∃x,(binOp op t (.int k a) (.int k b)).run P w= .ok x w∧VR M N U p x:=by
  have hi: ∀n:Int,sb n->IntKind.i64.wrap n=n:=fun n u=>IntWalk.i64_in n u;unfold E6 at h;split at h
  all_goals first
    |cases h;done
    | (simp only[WR,W3]at h
       obtain⟨rfl,rfl⟩:=h;refine⟨_,?_,.iv _ _ (.v _)⟩
       first
       |(simp[binOp,Op.intCmp];done)
       |rfl
       |(simp[binOp,Op.intCmp];rfl)
       |(have j:=hi _ hC;simp[binOp,Op.intArith,j];done)
       |(simp[binOp,Op.intDiv,hC];done)
       |(have j:=hi _ hC.2;simp[binOp,Op.intDiv,hC.1,j];done))
theorem vh{t:TypeId}{op:BinOp}{k j:IntKind}{a b:Int}{p:PV}{C:Prop}(h:tC op k a b=io (p,C)): ∃x,(binOp op t (.int k a) (.int j b)).run P w= .ok x w∧VR M N U p x:=by
  unfold tC at h;split at h
  case h_3=>cases h
  all_goals
    split at h
    · rename_i hb
      simp only[WR,W3]at h;obtain⟨rfl,rfl⟩:=h;have u: ¬b<0:=by have:=of_decide_eq_true hb;omega
      refine⟨_,?_,.iv _ _ (.v _)⟩;simp only[binOp,Op.shift,be u];rfl
    · cases h
theorem HN{t:TypeId}{op:BinOp}{a b:ByteArray}{p:PV}{C:Prop}(h:El op a b=io (p,C))(hC:C): ∃x,(binOp op t (.string a) (.string b)).run P w= .ok x w∧VR M N U p x:=by
  unfold El at h;split at h
  all_goals first
    |cases h;done
    | (simp only[WR,W3]at h
       obtain⟨rfl,rfl⟩:=h;refine⟨_,?_,.iv _ _ (.v _)⟩
       first
       |(simp[binOp,Op.stringOp,<-vc];done)
       | (have j: ¬(((a.size+b.size:Nat):Int)>IntKind.i64.max):=by(have:IntKind.i64.max=9223372036854775807:=by decide);rw[this];omega
          simp only[binOp,Op.stringOp,be j];rfl))
theorem dp{op:BinOp}{t:TypeId}{x y:Operand}{a b:Value}(h1:a≠ .nilIface)(u: ∀j,a≠ .agg j):(eqGuard op t x y a b).run P w= .ok () w:=by
  unfold eqGuard;cases op<;>cases a<;>first|rfl|exact absurd Z h1|exact absurd Z (u _)
theorem Ai{t:TypeId}(hu:P.underlying t=io .bool)(d:Nat)(a b:Bool):(Op.equalIn (d+1) t (.bool a) (.bool b)).run P w= .ok (a==b) w:=by
  simp[Op.equalIn,run_underlying hu]
theorem wu{t:TypeId}(hu:P.underlying t=io .bool)(a b:Bool):(Op.equal t (.bool a) (.bool b)).run P w= .ok (a==b) w:=
  Ai hu 9999 a b
theorem wK{t:TypeId}(hu:P.underlying t=io .bool)(a b:Bool):(binOp .eql t (.bool a) (.bool b)).run P w= .ok (.bool (a==b)) w:=by
  show(Op.equal t (.bool a) (.bool b)>>=fun r=>(pure (.bool r):Sem Value)).run P w=_;rw[Sem.run_bind,wu hu];rfl
theorem wJ{t:TypeId}(hu:P.underlying t=io .bool)(a b:Bool):(binOp .neq t (.bool a) (.bool b)).run P w= .ok (.bool (!(a==b))) w:=by
  show(Op.equal t (.bool a) (.bool b)>>=fun r=>(pure (.bool (!r)):Sem Value)).run P w=_;rw[Sem.run_bind,wu hu];rfl
theorem pE{ty:Ty}(j:bp P ty){t:TypeId}{op:BinOp}{a b:Bool}{r:PV}{C:Prop}{u v:Operand}(h:oY ty t op a b=io (r,C)):
    ∃z,(do eqGuard op t u v (.bool a) (.bool b);binOp op t (.bool a) (.bool b):Sem Value).run P w= .ok z w∧VR M N U r z:=by
  unfold oY at h;split at h
  · rename_i ht
    have hu:P.underlying t=io .bool:=(j t _ ht).2.1.1;split at h
    all_goals first
      |cases h;done
      | (simp only[WR,W3]at h
         obtain⟨rfl,rfl⟩:=h;refine⟨_,?_,.iv _ _ (.v _)⟩;rw[Sem.run_bind,dp (by simp) (by simp)]
         first|exact wK hu _ _|exact wJ hu _ _)
  · cases h
theorem rP{ty:Ty}(j:bp P ty){t:TypeId}{wd:TypeDesc->Bool}{op:BinOp}{b:Bool}{r:PV}{C:Prop}{u v:Operand}{x y:Value}(h:vN ty t wd op b=io (r,C))(h1:x≠ .nilIface)(B: ∀G,x≠ .agg G)
    (he:binOp .eql t x y=(Op.equal t x y>>=fun r=>(pure (.bool r):Sem Value))) (hn:binOp .neq t x y=(Op.equal t x y>>=fun r=>(pure (.bool (!r)):Sem Value)))
    (D: ∀d,wd d=jp->P.underlying t=io d->(Op.equal t x y).run P w= .ok b w):
    ∃z,(do eqGuard op t u v x y;binOp op t x y:Sem Value).run P w= .ok z w∧VR M N U r z:=by
  unfold vN at h;split at h
  · rename_i d _ _ _ _ ht
    have hu:P.underlying t=io d:=(j t _ ht).2.1.1;split at h
    · rename_i A
      simp only[WR,W3]at h;obtain⟨rfl,rfl⟩:=h;refine⟨.bool b,?_,.iv _ _ (.v _)⟩;rw[Sem.run_bind,dp h1 B,Result.andThen_ok,he,Sem.run_bind,D d A hu];rfl
    · rename_i A
      simp only[WR,W3]at h;obtain⟨rfl,rfl⟩:=h;refine⟨.bool (!b),?_,.iv _ _ (.v _)⟩;rw[Sem.run_bind,dp h1 B,Result.andThen_ok,hn,Sem.run_bind,D d A hu];rfl
    · cases h
  · cases h
theorem uv{t e:TypeId}(hu:P.underlying t=io (.pointer e))(d:Nat)(a:Addr):(Op.equalIn (d+1) t (.pointer (io a)) (.pointer is)).run P w= .ok kw w:=by
  simp[Op.equalIn,run_underlying hu]
theorem xo{t e:TypeId}(hu:P.underlying t=io (.pointer e))(a:Addr):(Op.equal t (.pointer (io a)) (.pointer is)).run P w= .ok kw w:=uv hu 9999 a
theorem uw{t e:TypeId}(hu:P.underlying t=io (.pointer e))(d:Nat):(Op.equalIn (d+1) t (.pointer is) (.pointer is)).run P w= .ok jp w:=by
  simp[Op.equalIn,run_underlying hu]
theorem xp{t e:TypeId}(hu:P.underlying t=io (.pointer e)):(Op.equal t (.pointer is) (.pointer is)).run P w= .ok jp w:=uw hu 9999
theorem ux{t k e:TypeId}(hu:P.underlying t=io (.map k e))(d:Nat)(a:Nat):(Op.equalIn (d+1) t (.map (io a)) (.map is)).run P w= .ok kw w:=by
  simp[Op.equalIn,run_underlying hu]
theorem xq{t k e:TypeId}(hu:P.underlying t=io (.map k e))(a:Nat):(Op.equal t (.map (io a)) (.map is)).run P w= .ok kw w:=ux hu 9999 a
theorem tj{t:TypeId}{p q:Array TypeId}{b:Bool}(hu:P.underlying t=io (.func p q b))(d:Nat)(f:Fn)(x y:Array Value):(Op.equalIn (d+1) t (.func f x y) .nilFunc).run P w= .ok kw w:=by
  simp[Op.equalIn,run_underlying hu]
theorem wq{t:TypeId}{p q:Array TypeId}{b:Bool}(hu:P.underlying t=io (.func p q b))(f:Fn)(x y:Array Value):(Op.equal t (.func f x y) .nilFunc).run P w= .ok kw w:=tj hu 9999 f x y
theorem Ha{ty:Ty}(B:bp P ty){t:TypeId}{op:BinOp}{p q:PV}{r:PV}{C:Prop}{u v:Operand}{x y:Value}(h:Ao ty t op p q=io (r,C))(hC:C)(A:VR M N U p x)(j:VR M N U q y):
    ∃z,(do eqGuard op t u v x y;binOp op t x y:Sem Value).run P w= .ok z w∧VR M N U r z:=by
  unfold Ao at h;split at h
  · cases A with
    | iv _ _ A=>cases A with
      | v=>
        cases j with
        | iv _ _ j=>cases j with
          | v=>
            split at h
            · rename_i I
              subst I;unfold DJ at h;split at h
              · obtain⟨z,G,D⟩:=vh (P:=P) (M:=M) (N:=N) (U:=U) (w:=w) (t:=t) h
                exact⟨z,by rw[Sem.run_bind,dp (by simp) (by simp)];exact G,D⟩
              · obtain⟨z,G,D⟩:=vh (P:=P) (M:=M) (N:=N) (U:=U) (w:=w) (t:=t) h
                exact⟨z,by rw[Sem.run_bind,dp (by simp) (by simp)];exact G,D⟩
              obtain⟨z,G,D⟩:=Jh (P:=P) (M:=M) (N:=N) (U:=U) (w:=w) (t:=t) h hC;exact⟨z,by rw[Sem.run_bind,dp (by simp) (by simp)];exact G,D⟩
            · obtain⟨z,G,D⟩:=vh (P:=P) (M:=M) (N:=N) (U:=U) (w:=w) (t:=t) h
              exact⟨z,by rw[Sem.run_bind,dp (by simp) (by simp)];exact G,D⟩
  · cases A with
    | iv _ _ A=>cases A with
      | v=>
        cases j with
        | iv _ _ j=>cases j with
          | v=>
            obtain⟨z,G,D⟩:=HN (P:=P) (M:=M) (N:=N) (U:=U) (w:=w) (t:=t) h hC;exact⟨z,by rw[Sem.run_bind,dp (by simp) (by simp)];exact G,D⟩
  · split at h
    · cases A with
      | iv _ _ A=>cases A with
        | v=>
          cases j with
          | iv _ _ j=>cases j with
            |v=>exact pE B h
    · cases A with
      | iv _ _ A=>cases A with
        | v=>
          cases j with
          |kb=>exact pE B h
    · cases h
  · split at h
    · cases A with
      | kb=>
        cases j with
        | iv _ _ j=>cases j with
          |v=>exact pE B h
    · cases A with
      | kb=>
        cases j with
        |kb=>exact pE B h
    · cases h
  · cases A with
    | ptr i off hU=>
      cases j with
      | iv _ _ j=>cases j with
        | v=>
          refine rP B h (by simp) (by simp) Z Z fun d hd hu=>?_;cases d<;>first|(cases hd;done)|exact xo hu _
  · cases A with
    | iv _ _ A=>cases A with
      | v=>cases j with
        | iv _ _ j=>cases j with
          | v=>
            refine rP B h (by simp) (by simp) Z Z fun d hd hu=>?_;cases d<;>first|(cases hd;done)|exact xp hu
  · cases A with
    | mp i hU=>
      cases j with
      | iv _ _ j=>cases j with
        | v=>
          refine rP B h (by simp) (by simp) Z Z fun d hd hu=>?_;cases d<;>first|(cases hd;done)|exact xq hu _
  · cases A with
    | cv=>
      cases j with
      | iv _ _ j=>cases j with
        | v=>
          refine rP B h (by simp) (by simp) Z Z fun d hd hu=>?_;cases d<;>first|(cases hd;done)|exact wq hu _ _ _
  · cases h
theorem I4{f:AF}{a:Act}(hf:FR M N U f a.tmps)(xs:Array Operand):(xs.toList.map (ev f)).length=(xs.map a.eval).size∧ ∀j p,(xs.toList.map (ev f))[j]? =io p->VR M N U p ((xs.map a.eval).getD j undef):=by
  refine⟨by simp,fun j p y=>?_⟩;rw[WX,WZ]at y;obtain⟨x,A,rfl⟩:=y;have u:xs[j]? =io x:=by simpa using A
  rw[WM,Zr,u];exact aN hf x
theorem sk{t:TypeId}{e:bD}(he:aj P t e){k off:Nat}{u:TypeId}(hf:uO e k=io (off,u)): ∃(F:Array Field) (fd:Field),P.underlying t=io (.struct F)∧F[k]? =io fd∧fd.offset=off∧fd.type=u:=by
  unfold uO at hf;cases hk:e.k with
  | cx fs=>
    simp only[hk]at hf;obtain⟨_,x,_⟩:=he;rw[hk]at x;obtain⟨F,y,A⟩:=x;rw[<-A,WX,WZ]at hf;obtain⟨fd,B,j⟩:=hf;simp only[W3]at j;exact⟨F,fd,y,by simpa using B,j.1,j.2⟩
  |_=>simp[hk]at hf
theorem Gk{n:Nat}{p q:PV}{x:Value}(B:VR M N U p x)(h:qJ n p=io q): ∃b o,x= .pointer (io ⟨b,o,is⟩)∧VR M N U q (.pointer (io ⟨b,o+n,is⟩)):=by
  cases B with
  |ptr i off hU=>simp only[qJ,WR]at h;subst h;exact⟨_,_,rfl,.ptr _ _ hU⟩
  |cR i sz k off hU=>simp only[qJ,WR]at h;subst h;exact⟨_,_,rfl,by rw[X3];exact .cR _ _ _ _ hU⟩
  | iv y _ hi=>
    cases hi with
    | lh cs b off hm hr=>
      simp only[qJ,WR]at h;subst h;refine⟨b,off,rfl,.iv _ _ (.lh _ _ _ (fun j A=>?_) (fun j p u=>?_))⟩
      · rw[XT]at A
        rw[X3];exact hm (n+j) (by omega)
      · rw[XK]at u
        rw[X3];exact hr (n+j) p u
    |_=>simp[qJ]at h
  |_=>simp[qJ]at h
theorem p9{t u:TypeId}{eu:bD}(hu:P.underlying t=io (.slice u))(A:aj P u eu){p q:PV}{k:IntKind}{n:Int}{C:Prop}{x:Value}(I:VR M N U p x)
    (D:(∃m B,p= .iv (.bL eu.size m B))∨ ∃i a0 len,p= .sl i a0 len eu.size) (h:kJ p n=io (q,C)) (hC:C): ∃y,(Instr.indexAt t x (.int k n)).run P w= .ok y w∧VR M N U q y:=by
  rcases D with⟨m,B,rfl⟩|⟨i,a0,len,rfl⟩
  · simp only[kJ,WR,W3]at h
    obtain⟨rfl,rfl⟩:=h;cases I with
    | iv _ _ hi=>
      cases hi with
      |fL sz B a cap=>omega
      | bL sz m B b a0 cap hn hc hl hm hr=>
        refine⟨.pointer (io ⟨b,a0+n.toNat*eu.size,is⟩),?_,.iv _ _ (.lh _ _ _ (fun j G=>?_) (fun j p J=>hr n.toNat j p (by omega) J))⟩
        · simp only[Instr.indexAt,asIntOf]
          simp[run_underlying hu,hC.1,hC.2,aQ A,c7]
        · rw[hl n.toNat (by omega)]at G
          exact hm n.toNat j (by omega) G
  · simp only[kJ,WR,W3]at h
    obtain⟨rfl,rfl⟩:=h;cases I with
    |lq=>omega
    |sle=>omega
    | sl _ _ _ _ cap hU h0 hl hc he=>
      refine⟨.pointer (io ⟨N.aA i,(a0+n.toNat)*eu.size+0,is⟩),?_,.cR _ _ _ _ hU⟩;simp only[Instr.indexAt,asIntOf];simp[run_underlying hu,hC.1,hC.2,aQ A,c7,XG]
theorem F0{t u:TypeId}{eu:bD}(hu:P.underlying t=io (.slice u))(A:aj P u eu){m:Nat}{el:Nat->List IV}{ka kb:IntKind}{na nb:Int}{q:PV}{C:Prop}{x:Value}(Y:VR M N U (.iv (.bL eu.size m el)) x)
    (h:io (PV.iv (.bL eu.size (nb.toNat-na.toNat) (fun k=>el (na.toNat+k))),0<=na∧na<=nb∧nb<=m)=io (q,C)) (hC:C): ∃y,(Instr.sliceAt t x (io (.int ka na)) (io (.int kb nb)) is).run P w= .ok y w∧VR M N U q y:=by
  simp only[WR,W3]at h;obtain⟨rfl,rfl⟩:=h;obtain⟨G,h1,h2⟩:=hC;have hb:(nb.toNat:Int)=nb:=Y5 (by omega);cases Y with
  | iv _ _ hi=>
    cases hi with
    | fL sz el a cap=>
      have B:na=0:=by omega
      have D:nb=0:=by omega
      subst B;subst D;refine⟨.slice (if cap=0 then a else a.map (·.add (0*eu.size))) 0 cap,?_,.iv _ _ (.fL _ _ _ _)⟩;simp[Instr.sliceAt,Instr.slice,Instr.sliceBounds,Instr.sliceBound,asIntOf,run_underlying hu,aQ A]
    | bL sz m el b off cap hn hc hl hm hr=>
      refine⟨.slice (if cap=na.toNat then io ⟨b,off,is⟩ else(io (⟨b,off,is⟩:Addr)).map (·.add (na.toNat*eu.size))) (nb.toNat-na.toNat) (cap-na.toNat),?_,?_⟩
      · have g1:nb<=(cap:Int):=by omega
        have g2:na<=(nb.toNat:Int):=by omega
        simp[Instr.sliceAt,Instr.slice,Instr.sliceBounds,Instr.sliceBound,asIntOf,run_underlying hu,aQ A,G,g1,(by omega:0<=nb)];intro hh;omega
      · by_cases hz:nb.toNat-na.toNat=0
        · rw[hz];exact .iv _ _ (.fL _ _ _ _)
        · rw[be (by omega),XW,c7]
          refine .iv _ _ (IR.bL (sz:=eu.size) (n:=nb.toNat-na.toNat) (el:=fun k=>el (na.toNat+k)) (b:=b) (off:=off+na.toNat*eu.size) (cap:=cap-na.toNat) (by omega) (by omega) (fun k hk=>hl _ (by omega)) (fun k j hk I=>?_) (fun k j p hk J=>?_))
          · have:=hm (na.toNat+k) j (by omega) I
            rwa[XG,<-X3]at this
          · have:=hr (na.toNat+k) j p (by omega) J
            rwa[XG,<-X3]at this
theorem FZ{t u:TypeId}{eu:bD}(hu:P.underlying t=io (.slice u))(A:aj P u eu){m:Nat}{el:Nat->List IV}{ka:IntKind}{na:Int}{q:PV}{C:Prop}{x:Value}(J:VR M N U (.iv (.bL eu.size m el)) x)
    (h:io (PV.iv (.bL eu.size (m-na.toNat) (fun k=>el (na.toNat+k))),0<=na∧na<=m)=io (q,C)) (hC:C): ∃y,(Instr.sliceAt t x (io (.int ka na)) is is).run P w= .ok y w∧VR M N U q y:=by
  simp only[WR,W3]at h;obtain⟨rfl,rfl⟩:=h;obtain⟨D,h1⟩:=hC;cases J with
  | iv _ _ hi=>
    cases hi with
    | fL sz el a cap=>
      have B:na=0:=by omega
      subst B;refine⟨.slice (if cap=0 then a else a.map (·.add (0*eu.size))) 0 cap,?_,.iv _ _ (.fL _ _ _ _)⟩;simp[Instr.sliceAt,Instr.slice,Instr.sliceBounds,Instr.sliceBound,asIntOf,run_underlying hu,aQ A]
    | bL sz m el b off cap hn hc hl hm hr=>
      refine⟨.slice (if cap=na.toNat then io ⟨b,off,is⟩ else(io (⟨b,off,is⟩:Addr)).map (·.add (na.toNat*eu.size))) (m-na.toNat) (cap-na.toNat),?_,?_⟩
      · simp[Instr.sliceAt,Instr.slice,Instr.sliceBounds,Instr.sliceBound,asIntOf,run_underlying hu,aQ A,D,h1]
      · by_cases Y:m-na.toNat=0
        · rw[Y];exact .iv _ _ (.fL _ _ _ _)
        · rw[be (by omega),XW,c7]
          refine .iv _ _ (IR.bL (sz:=eu.size) (n:=m-na.toNat) (el:=fun k=>el (na.toNat+k)) (b:=b) (off:=off+na.toNat*eu.size) (cap:=cap-na.toNat) (by omega) (by omega) (fun k hk=>hl _ (by omega)) (fun k j hk G=>?_) (fun k j p hk I=>?_))
          · have:=hm (na.toNat+k) j (by omega) G
            rwa[XG,<-X3]at this
          · have:=hr (na.toNat+k) j p (by omega) I
            rwa[XG,<-X3]at this
theorem C3{t u:TypeId}{eu:bD}(hu:P.underlying t=io (.slice u))(A:aj P u eu){m:Nat}{el:Nat->List IV}{kb kc:IntKind}{nb nc:Int}{q:PV}{C:Prop}{x:Value}(hx:VR M N U (.iv (.bL eu.size m el)) x)
    (h:io (PV.iv (.bL eu.size nb.toNat el),0<=nb∧nb<=nc∧nc<=m)=io (q,C)) (hC:C): ∃y,(Instr.sliceAt t x is (io (.int kb nb)) (io (.int kc nc))).run P w= .ok y w∧VR M N U q y:=by
  simp only[WR,W3]at h;obtain⟨rfl,rfl⟩:=h;obtain⟨G,h1,h2⟩:=hC;have hb:(nb.toNat:Int)=nb:=Y5 (by omega);have I:(nc.toNat:Int)=nc:=Y5 (by omega);cases hx with
  | iv _ _ hi=>
    cases hi with
    | fL sz el a cap=>
      have B:nb=0:=by omega
      have D:nc=0:=by omega
      subst B;subst D;refine⟨.slice a 0 0,?_,.iv _ _ (.fL _ _ _ _)⟩;simp[Instr.sliceAt,Instr.slice,Instr.sliceBounds,Instr.sliceBound,asIntOf,run_underlying hu,aQ A]
    | bL sz m el b off cap hn hc hl hm hr=>
      refine⟨.slice (if nc.toNat=0 then io ⟨b,off,is⟩ else(io (⟨b,off,is⟩:Addr)).map (·.add (0*eu.size))) nb.toNat nc.toNat,?_,?_⟩
      · have g1:nc<=(cap:Int):=by omega
        have g2:nb<=(nc.toNat:Int):=by omega
        simp[Instr.sliceAt,Instr.slice,Instr.sliceBounds,Instr.sliceBound,asIntOf,run_underlying hu,aQ A,G,g1,(by omega:0<=nc)];intro hh;omega
      · by_cases hz:nb.toNat=0
        · rw[hz];exact .iv _ _ (.fL _ _ _ _)
        · rw[be (by omega),XW,c7,Yq,Yp]
          exact .iv _ _ (IR.bL (sz:=eu.size) (n:=nb.toNat) (el:=el) (b:=b) (off:=off) (cap:=nc.toNat) (by omega) (by omega) (fun k hk=>hl _ (by omega)) (fun k j hk J=>hm k j (by omega) J) (fun k j p hk Y=>hr k j p (by omega) Y))
theorem A0{t:TypeId}(hu:P.underlying t=io .string){b:ByteArray}{ka kb:IntKind}{na nb:Int}(hC:0<=na∧na<=nb∧nb<=b.size):
    (Instr.sliceAt t (.string b) (io (.int ka na)) (io (.int kb nb)) is).run P w= .ok (.string (b.extract na.toNat nb.toNat)) w:=by
  obtain⟨j,h1,u⟩:=hC;have hb:(nb.toNat:Int)=nb:=Y5 (by omega);have g2:na<=(nb.toNat:Int):=by omega
  simp[Instr.sliceAt,Instr.slice,Instr.sliceBounds,Instr.sliceBound,asIntOf,run_underlying hu,j,u,(by omega:0<=nb)];intro hh;omega
end
end
end Go.Al
namespace Go.Al
open Go.MapKept
section
section
variable {P:Program} {ty:Ty} {M:Mem} {N:Nm} {U:Nat->Prop} {w:World}
theorem iE{t:TypeId}{F:Array Field}(h:P.underlying t=io (.struct F)):P.fieldsOf t=F:=by
  simp[Program.fieldsOf,h]
theorem bM {t:TypeId} {F:Array Field} (h:P.underlying t=io (.struct F)) (h1:P.stoodInHeld t=kw) (j:P.eqGuardType P.depth t=kw) (u:(F.toList.all fun f=>f.name != "_")=jp):Vu P t:=
  ⟨h1,j,fun f hf=>by
    rw[iE h]at hf;have:=XC.1 u f hf
    simpa using this⟩
theorem Fm(j:bp P ty){f:TypeId->PV->PV->Option Bool}{D:Nat}(hf: ∀u p q b,f u p q=io b-> ∀x y,VR M N U p x->VR M N U q y->(Op.equalIn D u x y).run P w= .ok b w)
    {cs ds:List PV} {xs ys:Array Value} (hx:VR M N U (.agg cs) (.agg xs)) (hy:VR M N U (.agg ds) (.agg ys)):
    ∀(F:List Field) (b:Bool),(∀g∈F,g.name≠ "_")->G3 f ty (F.map fun g=>(g.offset,g.type)) cs ds=io b->(Op.eqFields D xs ys F).run P w= .ok b w
  | [],b,_,h=>by simp only[W7,G3,WR]at h;subst h;simp[Op.eqFields]
  | g::F,b,hn,h=>by
    simp only[WW,G3]at h;split at h
    · rename_i eu A
      split at h
      · rename_i p q hp hq
        split at h
        · rename_i b1 b2 h1 h2
          simp only[WR]at h;subst h;obtain⟨_,B,C,G⟩:=hx.kq;cases B;obtain⟨_,Y,a0,b0⟩:=hy.kq;cases Y;obtain⟨x,I,J⟩:=jz (P:=P) (w:=w) (j _ _ A) C G hp;obtain⟨y,c0,d0⟩:=jz (P:=P) (w:=w) (j _ _ A) a0 b0 hq;have h3:=hf _ _ _ _ h1 x y J d0;have h4:=Fm j hf hx hy F b2 (fun g hg=>hn g (W5 _ hg)) h2;simp only[Op.eqFields,am (hn g W8),Sem.run_bind,I,c0,h3,Result.andThen_ok];cases b1 with
          |false=>simp
          |true=>simpa using h4
        · cases h
      · cases h
    · cases h
theorem DW(j:bp P ty): ∀(d:Nat) (t:TypeId) (p q:PV) (b:Bool),G4 ty d t p q=io b-> ∀x y,VR M N U p x->VR M N U q y-> ∀m,(Op.equalIn (d+m) t x y).run P w= .ok b w
  |0,_,_,_,_,h,_,_,_,_,_=>by simp[G4]at h
  | d+1,t,p,q,b,h,x,y,A,B,m=>by
    rw[show d+1+m=(d+m)+1 by omega];simp only[G4]at h;split at h
    · rename_i k _ _ _ _ C
      have hu:=(j t _ C).2.1.1;split at h
      · split at h
        · simp only[WR]at h
          subst h;cases A with
          | iv _ _ A => cases A
                        cases B with
                        | iv _ _ B => cases B
                                      rename_i e;subst e;rw[run_equalIn_int _ _ _ _ _ _ _ hu];congr 1
        · cases h
      · cases h
    · rename_i _ _ _ _ C
      have hu:=(j t _ C).2.1.1;split at h
      · simp only[WR]at h
        subst h;cases A with
        | iv _ _ A => cases A
                      cases B with
                      | iv _ _ B => cases B
                                    rw[run_equalIn_string _ _ _ _ _ hu,vc]
      · cases h
    · rename_i _ _ _ _ C
      have hu:=(j t _ C).2.1.1;split at h
      · simp only[WR]at h
        subst h;cases A with
        | iv _ _ A => cases A
                      cases B with
                      |iv _ _ B=>cases B;rw[run_equalIn_bool' _ _ _ _ _ hu]
      · cases h
    · rename_i fs _ _ _ C
      obtain⟨_,⟨F,hu,hF⟩,J⟩:=j t _ C;obtain⟨I,Y,G⟩:=J Z;split at h
      · obtain⟨xs,rfl,_,_⟩:=A.kq
        obtain⟨ys,rfl,_,_⟩:=B.kq;have D:=iE hu;rw[run_equalIn_struct _ _ _ _ _ (by rw[D];exact hu) I,D];rw[D]at G;refine Fm j (f:=G4 ty d) (fun u p q b hb x y A B=>DW j d u p q b hb x y A B m) A B _ _ G ?_;rw[hF];exact h
      · cases h
    · cases h
theorem Kz(B:bp P ty){t:TypeId}{op:BinOp}{cs D:List PV}{r:PV}{C:Prop}{u v:Operand}{x y:Value}(h:FH ty t op (.agg cs) (.agg D)=io (r,C))(I:VR M N U (.agg cs) x)(J:VR M N U (.agg D) y):
    C∧ ∃z,(do eqGuard op t u v x y;binOp op t x y:Sem Value).run P w= .ok z w∧VR M N U r z:=by
  have key: ∀b,G4 ty 10 t (.agg cs) (.agg D)=io b-> ∃j A,x= .agg j∧y= .agg A∧P.eqGuardType P.depth t=kw∧(Op.equalIn 10000 t (.agg j) (.agg A)).run P w= .ok b w:=by
    intro b hb;have h1:=DW (P:=P) (w:=w) B 10 t _ _ b hb x y I J 9990;obtain⟨j,rfl,_,_⟩:=I.kq;obtain⟨A,rfl,_,_⟩:=J.kq;refine⟨j,A,rfl,rfl,?_,h1⟩;simp only[G4]at hb;split at hb
    · cases hb
    · cases hb
    · cases hb
    · rename_i Y
      exact((B t _ Y).2.2 Z).2.1
    · cases hb
  unfold FH at h;split at h
  · split at h
    · rename_i b hb
      simp only[WR,W3]at h;obtain⟨rfl,rfl⟩:=h;obtain⟨j,A,rfl,rfl,h1,G⟩:=key b hb;refine⟨ac,.bool b,?_,.iv _ _ (.v _)⟩;rw[Sem.run_bind,run_eqGuard_agg _ _ _ _ _ _ _ h1,Result.andThen_ok,run_eql_struct,G];rfl
    · cases h
  · split at h
    · rename_i b hb
      simp only[WR,W3]at h;obtain⟨rfl,rfl⟩:=h;obtain⟨j,A,rfl,rfl,h1,G⟩:=key b hb;refine⟨ac,.bool (!b),?_,.iv _ _ (.v _)⟩;rw[Sem.run_bind,run_eqGuard_agg _ _ _ _ _ _ _ h1,Result.andThen_ok,run_neq_struct,G];rfl
    · cases h
  · cases h
theorem x7(kc:KC)(k:kc.K):VR M N U (kc.pk k) (kc.ek k):=by
  cases kc with
  |str=>exact .iv _ _ (.v _)
  |int k=>exact .iv _ _ (.v _)
  | si j=>
    refine .agg _ _ (by rfl) fun i p u=>?_
    match i with
    |0=>simp at u;subst u;exact .iv _ _ (.v _)
    |1=>simp at u;subst u;exact .iv _ _ (.v _)
    |i+2=>simp at u
  | fl s=>
    refine .agg _ _ (by simp) fun i p u=>?_;rw[WX,WZ]at u;obtain⟨v,x,rfl⟩:=u;have:((FK.vs s k).toArray).getD i undef=v:=by simp[WM,x]
    rw[this];exact .iv _ _ (.v _)
theorem Iw: ∀{s:FS} {cs:List PV} {k:FK s} {ys:List Value},FK.rd s cs=io k->cs.length=ys.length->(∀j q,cs[j]? =io q->VR M N U q (ys.getD j undef))->ys=FK.vs s k
  | [],cs,k,ys,h,hl,hr=>by
    unfold FK.rd at h;split at h
    · match ys,hl with
      | [],_=>rfl
    · cases h
  | none::r,cs,k,ys,h,hl,hr=>by
    unfold FK.rd at h;split at h
    · rename_i a A
      split at h
      · rename_i B hk
        simp only[WR]at h;subst h
        match ys,hl with
        | y::ys,hl=>
          have u:=hr 0 _ Z;have h1:=Iw hk (by simpa using hl) fun j q x=>by simpa using hr (j+1) q (by simpa using x)
          rw[YL]at u;cases u with
          |iv _ _ u=>cases u;simp only[FK.vs,h1]
      · cases h
    · cases h
  | some q::r,cs,k,ys,h,hl,hr=>by
    unfold FK.rd at h;split at h
    · rename_i j n A
      split at h
      · rename_i B x hk
        have x:=of_decide_eq_true x;subst x;simp only[WR]at h;subst h
        match ys,hl with
        | y::ys,hl=>
          have u:=hr 0 _ Z;have h1:=Iw hk (by simpa using hl) fun j q x=>by simpa using hr (j+1) q (by simpa using x)
          rw[YL]at u;cases u with
          |iv _ _ u=>cases u;simp only[FK.vs,h1]
      · cases h
    · cases h
theorem Fs{kc:KC}{p:PV}{k:kc.K}{x:Value}(h:kc.dk p=io k)(u:VR M N U p x):x=kc.ek k:=by
  cases kc with
  | str=>
    simp only[KC.dk]at h;split at h
    · simp only[WR]at h
      subst h;cases u with
      |iv _ _ u=>cases u;rfl
    · cases h
  | int j=>
    simp only[KC.dk]at h;split at h
    · split at h
      · rename_i e
        subst e;simp only[WR]at h;subst h;cases u with
        |iv _ _ u=>cases u;rfl
      · cases h
    · cases h
  | si j=>
    simp only[KC.dk]at h;split at h
    · split at h
      · rename_i e
        subst e;simp only[WR]at h;subst h;obtain⟨ys,rfl,h1,y⟩:=u.kq;have g0:=y 0 _ Z;have g1:=y 1 _ Z;obtain⟨ys⟩:=ys
        match ys,h1 with
        | [a,b],_=>
          simp at g0 g1;cases g0 with
          | iv _ _ g0=>
            cases g1 with
            |iv _ _ g1=>cases g0;cases g1;rfl
      · cases h
    · cases h
  | fl s=>
    simp only[KC.dk]at h;split at h
    · obtain⟨ys,rfl,h1,y⟩:=u.kq
      have:=Iw (ys:=ys.toList) h (by simpa using h1) fun j q A=>by
        have:=y j q A;rwa[WM,<-Xo,<-WQ]at this
      show Value.agg ys=Value.agg (FK.vs s k).toArray;rw[<-this]
    · cases h
theorem tQ{u:TypeId}(j:bp P ty)(h:dQ ty u=io .str):P.underlying u=io .string:=by
  unfold dQ at h;split at h
  · rename_i x;exact(j _ _ x).2.1.1
  · cases h
  · split at h<;>cases h
  · split at h<;>cases h
  · cases h
theorem tT{u:TypeId}{k:IntKind}(j:bp P ty)(h:dQ ty u=io (.int k)):P.underlying u=io (.int k):=by
  unfold dQ at h;split at h
  · cases h
  · rename_i x;simp only[WR,KC.int.injEq]at h;subst h;exact(j _ _ x).2.1.1
  · split at h<;>cases h
  · split at h<;>cases h
  · cases h
def Sa:Option IntKind->Value->Prop
  |none,v=> ∃a,v= .string a
  |some q,v=> ∃n,v= .int q n
def xc:FS->List Value->Prop
  | [],[]=>True
  |o::s,v::l=>Sa o v∧xc s l
  |_,_=>False
theorem xc.length: ∀{s:FS} {l:List Value},xc s l->l.length=s.length
  | [],[],_=>rfl
  |_::s,_::l,h=>by simp[xc.length h.2]
  | [],_::_,h=>h.elim
  |_::_,[],h=>h.elim
theorem xc.split: ∀{s q:FS} {l:List Value},xc (s++q) l-> ∃a b,l=a++b∧xc s a∧xc q b
  | [],_,l,h=>⟨[],l,rfl,ac,h⟩
  | o::s,q,v::l,h=>by
    obtain⟨a,b,h1,j,u⟩:=xc.split (s:=s) h.2;exact⟨v::a,b,by rw[h1];rfl,⟨h.1,j⟩,u⟩
  |_::_,_,[],h=>h.elim
theorem lZ: ∀(s:FS) (k:FK s),xc s (FK.vs s k)
  | [],_=>trivial
  |none::r,k=>⟨⟨_,rfl⟩,lZ r k.2⟩
  |some q::r,k=>⟨⟨_,rfl⟩,lZ r k.2⟩
theorem CS: ∀{s:FS} {a b:FK s},FK.vs s a=FK.vs s b->a=b
  | [],_,_,_=>rfl
  | none::r,a,b,h=>by
    simp only[FK.vs,Z2,Value.string.injEq]at h;exact Prod.ext h.1 (CS h.2)
  | some q::r,a,b,h=>by
    simp only[FK.vs,Z2,Value.int.injEq,true_and]at h;exact Prod.ext h.1 (CS h.2)
def I0(e:bD)(l:List Value):Value:=match e.k.agg with
  |true=> .agg l.toArray
  |false=>l.headD undef
theorem ku{u:TypeId}{e:bD}(he:aj P u e)(hn:e.k.agg=kw->e.size=1)(pre a j:List Value)(ha:a.length=e.size):(part u (pre++(a++j)).toArray pre.length).run P w= .ok (I0 e a) w:=by
  cases hk:e.k.agg with
  | true=>
    have:(pre++(a++j)).toArray.extract pre.length (pre.length+e.size)=a.toArray:=by
      apply Array.ext';rw[<-ha];simp
    simp only[part,fP he,hk,aQ he,I0,this,Sem.run_bind,Result.andThen_ok,if_true,Sem.run_pure]
  | false=>
    have h1:=hn hk
    match a,ha with
    | [],h=>rw[h1]at h;cases h
    | [v],_=>simp[part,fP he,hk,I0]
    |_::_::_,h=>rw[h1]at h;simp at h
def Ay(P:Program)(ty:Ty)(d:Nat)(t:TypeId)(s:FS):Prop:=
  ∃e,ty t=io e∧e.size=s.length∧(e.k.agg=kw->e.size=1)∧(∀(w:World) a b,xc s a->xc s b-> ∀D,∃r:Bool,(Op.equalIn (d+D) t (I0 e a) (I0 e b)).run P w= .ok r w∧(r=jp↔a=b))∧ ∀(w:World) a,xc s a-> ∀j D,(Instr.checkKey j (d+D) t (I0 e a)).run P w= .ok () w
theorem yB(A:bp P ty){f:TypeId->Option FS}{d:Nat}(hf: ∀u s,f u=io s->Ay P ty d u s)(D:Nat): ∀(F:List Field) (q:FS) (j x a b:List Value),j.length=x.length->(∀g∈F,g.name≠ "_")->qX f (F.map fun g=>(g.offset,g.type)) j.length=io q->xc q a->xc q b->
    ∃r:Bool,(Op.eqFields (d+D) (j++a).toArray (x++b).toArray F).run P w= .ok r w∧(r=jp↔a=b)
  | [],q,_,_,a,b,_,_,h,ha,hb=>by
    simp only[W7,qX,WR]at h;subst h
    match a,b,ha,hb with
    | [],[],_,_=>exact⟨jp,by simp[Op.eqFields],by simp⟩
  | g::F,q,j,x,a,b,hp,hn,h,ha,hb=>by
    simp only[WW,qX]at h;split at h
    · rename_i s ho hs
      have ho:=Xh ho;split at h
      · rename_i q' hq
        simp only[WR]at h;subst h;obtain⟨B,a2,rfl,G,Y⟩:=ha.split;obtain⟨C,J,rfl,I,a0⟩:=hb.split;obtain⟨e,he,c0,y,b0,_⟩:=hf _ _ hs;have la:=G.length;have lb:=I.length;have p1:=ku (P:=P) (w:=w) (A _ _ he) y j B a2 (by omega);have p2:=ku (P:=P) (w:=w) (A _ _ he) y x C J (by omega);obtain⟨r2,ih,i2⟩:=yB A hf D F q' (j++B) (x++C) a2 J (by simp[hp,la,lb]) (fun g hg=>hn g (W5 _ hg)) (by rw[WO,la];exact hq) Y a0;simp only[W6]at ih;simp only[Op.eqFields,am (hn g W8),Sem.run_bind,ho,p1,Result.andThen_ok];rw[hp,p2];obtain⟨r1,j1,j2⟩:=b0 w B C G I D;simp only[Result.andThen_ok,j1];have hd:B++a2=C++J↔B=C∧a2=J:=⟨fun h=>aaq h (by omega),fun h=>by rw[h.1,h.2]⟩
        cases r1 with
        |true=>exact⟨r2,by simpa using ih,by rw[hd,i2];exact⟨fun h=>⟨j2.1 Z,h⟩,fun h=>h.2⟩⟩
        |false=>exact⟨kw,by simp,by rw[hd];exact⟨(fun h=>nomatch h),fun h=>j2.2 h.1⟩⟩
      · cases h
    · cases h
theorem yA(B:bp P ty){d:Nat}{u:TypeId}{s:FS}(hf:Ay P ty d u s)(D c:Nat)(hc:c=s.length): ∀(m j:Nat) (x y a b:List Value),x.length=j*c->y.length=j*c->xc (Dk s m) a->xc (Dk s m) b->
    ∃r:Bool,(Op.eqItems (d+D) u c (x++a).toArray (y++b).toArray (List.range' j m)).run P w= .ok r w∧(r=jp↔a=b)
  | 0,j,_,_,a,b,_,_,ha,hb=>by
    match a,b,ha,hb with
    | [],[],_,_=>exact⟨jp,by simp[Op.eqItems],by simp⟩
  | m+1,j,x,y,a,b,h1,h2,ha,hb=>by
    obtain⟨C,a2,rfl,I,a0⟩:=xc.split ha;obtain⟨G,Y,rfl,J,b0⟩:=xc.split hb;obtain⟨e,he,d0,A,c0,_⟩:=id hf;have la:=I.length;have lb:=J.length;have p1:=ku (P:=P) (w:=w) (B _ _ he) A x C a2 (by omega);have p2:=ku (P:=P) (w:=w) (B _ _ he) A y G Y (by omega);obtain⟨r2,ih,i2⟩:=yA B hf D c hc m (j+1) (x++C) (y++G) a2 Y (by rw[WO,h1,la,Yy,hc]) (by rw[WO,h2,lb,Yy,hc]) a0 b0;simp only[W6]at ih;rw[aak];rw[h1]at p1;rw[h2]at p2;obtain⟨r1,j1,j2⟩:=c0 w C G I J D;simp only[Op.eqItems,Sem.run_bind,p1,p2,Result.andThen_ok,j1];have hd:C++a2=G++Y↔C=G∧a2=Y:=⟨fun h=>aaq h (by omega),fun h=>by rw[h.1,h.2]⟩
    cases r1 with
    |true=>exact⟨r2,by simpa using ih,by rw[hd,i2];exact⟨fun h=>⟨j2.1 Z,h⟩,fun h=>h.2⟩⟩
    |false=>exact⟨kw,by simp,by rw[hd];exact⟨(fun h=>nomatch h),fun h=>j2.2 h.1⟩⟩
theorem D1(j:bp P ty){u:TypeId}{e:bD}(he:ty u=io e): ∃i,P.info? u=io i∧P.cellsOf u=e.size:=by
  obtain⟨⟨i,hi,hs,_⟩,_⟩:=j _ _ he;exact⟨i,hi,by simp[Program.cellsOf,hi,hs]⟩
theorem Ah(A:bp P ty): ∀(d:Nat) (t:TypeId) (s:FS),wj ty d t=io s->Ay P ty d t s
  |0,_,_,h=>by simp[wj]at h
  | d+1,t,s,h=>by
    have key:=fun u s=>Ah A d u s;unfold wj at h;split at h
    · rename_i _ _ _ C
      simp only[WR]at h;subst h;have hu:=(A _ _ C).2.1.1;refine⟨_,C,rfl,fun _=>rfl,fun w a b G hb D=>?_,fun w a G em D=>?_⟩
      · match a,b,G,hb with
        | [_],[_],⟨⟨x,rfl⟩,_⟩,⟨⟨y,rfl⟩,_⟩=>
          simp only[I0,TK.agg,ZI];rw[show d+1+D=(d+D)+1 by omega,run_equalIn_string _ _ _ _ _ hu,vc];exact⟨_,rfl,by simp⟩
      · match a,G with
        | [_],⟨⟨x,rfl⟩,_⟩=>
          simp only[I0,TK.agg,ZI];rw[show d+1+D=(d+D)+1 by omega];exact run_checkKey hu (by simp[IsKey]) _ _
    · rename_i q _ _ _ C
      simp only[WR]at h;subst h;have hu:=(A _ _ C).2.1.1;refine⟨_,C,rfl,fun _=>rfl,fun w a b G hb D=>?_,fun w a G em D=>?_⟩
      · match a,b,G,hb with
        | [_],[_],⟨⟨x,rfl⟩,_⟩,⟨⟨y,rfl⟩,_⟩=>
          simp only[I0,TK.agg,ZI];rw[show d+1+D=(d+D)+1 by omega,run_equalIn_int _ _ _ _ _ _ _ hu];exact⟨_,rfl,by simp⟩
      · match a,G with
        | [_],⟨⟨x,rfl⟩,_⟩=>
          simp only[I0,TK.agg,ZI];rw[show d+1+D=(d+D)+1 by omega];exact run_checkKey hu (by simp[IsKey]) _ _
    · rename_i fs n _ _ C
      split at h
      · rename_i s' hs
        split at h
        · rename_i J
          simp only[WR]at h;subst h;have hl:=Xh J;obtain⟨F,h1,h2⟩:=(A _ _ C).2.1;obtain⟨q1,_,q3⟩:=(A _ _ C).2.2 Z;rw[iE h1]at q3;refine⟨_,C,hl.symm,(fun h=>nomatch h),fun w a b G hb D=>?_,fun w a G em D=>?_⟩
          · have h3:=yB (w:=w) A key D F.toList s' [] [] a b Z q3 (by rw[h2];exact hs) G hb
            simp only[Xg]at h3;show∃r:Bool,(Op.equalIn (d+1+D) t (.agg a.toArray) (.agg b.toArray)).run P w= .ok r w∧_;rw[show d+1+D=(d+D)+1 by omega,run_equalIn_struct w (d+D) t _ _ (by rw[iE h1];exact h1) q1,iE h1];exact h3
          · show(Instr.checkKey em (d+1+D) t (.agg a.toArray)).run P w=_
            rw[show d+1+D=(d+D)+1 by omega,Instr.checkKey];simp only[Sem.run_bind,run_underlying h1,Result.andThen_ok];rw[<-Array.forIn_toList];obtain⟨a0,hp⟩: ∃a0:List Value,a0=[]:=⟨[],rfl⟩
            rw[show a.toArray=(a0++a).toArray by rw[hp];rfl];have B:qX (wj ty d) (F.toList.map fun g=>(g.offset,g.type)) a0.length=io s':=by rw[h2,hp];exact hs
            clear hs hp h2 h1 hl J C;generalize F.toList=L at B q3
            induction L generalizing a0 a s' with
            |nil=>simp
            | cons g L ih=>
              simp only[WW,qX]at B;split at B
              · rename_i s1 ho k0
                have ho:=Xh ho;split at B
                · rename_i q' hq
                  simp only[WR]at B;subst B;obtain⟨a1,a2,rfl,I,c0⟩:=xc.split G;obtain⟨e,C,f0,Y,_,d0⟩:=key _ _ k0;have la:=I.length;have p1:=ku (P:=P) (w:=w) (A _ _ C) Y a0 a1 a2 (by omega);have ih:=ih q' a2 c0 (a0++a1) (by rw[WO,la];exact hq) (fun g hg=>q3 g (W5 _ hg));simp only[W6]at ih;simp only[aar,Sem.run_bind,ho,q3 g W8,ne_eq,not_false_eq_true,if_true,Result.andThen_ok,p1,d0 w a1 I em D,Sem.run_pure];exact ih
                · cases B
              · cases B
        · cases h
      · cases h
    · rename_i n u m _ _ _ C
      split at h
      · rename_i s' hs
        split at h
        · rename_i J
          simp only[WR]at h;subst h;have hl:=Xh J;have h1:P.underlying t=io (.array n u):=(A _ _ C).2.1;have hf:=key u s' hs;obtain⟨e,b0,f0,_,_,_⟩:=id hf;obtain⟨i,hi,i0⟩:=D1 A b0;have e0: ∀n,(Dk s' n).length=n*s'.length:=fun n=>by
            induction n with
            |zero=>simp[Dk]
            |succ n ih=>simp only[Dk,WO,ih,Yy];omega
          refine⟨_,C,by rw[e0];exact hl.symm,(fun h=>nomatch h),fun w a b G hb D=>?_,fun w a G em D=>?_⟩
          · have h3:=yA (w:=w) A hf D (P.cellsOf u) (by rw[i0,f0]) n 0 [] [] a b (by simp) (by simp) G hb
            simp only[Xg]at h3;show∃r:Bool,(Op.equalIn (d+1+D) t (.agg a.toArray) (.agg b.toArray)).run P w= .ok r w∧_;rw[show d+1+D=(d+D)+1 by omega,run_equalIn_array w (d+D) _ _ h1 hi,List.range_eq_range'];exact h3
          · show(Instr.checkKey em (d+1+D) t (.agg a.toArray)).run P w=_
            rw[show d+1+D=(d+D)+1 by omega,Instr.checkKey];simp only[Sem.run_bind,run_underlying h1,Result.andThen_ok];simp only[Std.Legacy.Range.forIn_eq_forIn_range',Std.Legacy.Range.size,Zw,Nat.add_one_sub_one,Nat.div_one];obtain⟨e',j0,m0,Y,_,d0⟩:=id hf;have:e'=e:=XP (j0.symm.trans b0);subst this;obtain⟨a0,hp,g0⟩: ∃a0:List Value,a0.length=0*e'.size∧a.toArray=(a0++a).toArray:=⟨[],by simp,rfl⟩
            rw[g0];clear g0;clear hl J h1 C;generalize 0=j at hp ⊢
            induction n generalizing j a0 a with
            |zero=>simp
            | succ n ih=>
              obtain⟨a1,a2,rfl,I,c0⟩:=xc.split G;have la:=I.length;have p1:=ku (P:=P) (w:=w) (A _ _ b0) Y a0 a1 a2 (by omega);have ih:=ih a2 c0 (a0++a1) (j+1) (by rw[WO,hp,la,Yy,f0]);simp only[W6]at ih;rw[aak];rw[hp]at p1;simp only[aar,Sem.run_bind,aQ (A _ _ b0),Result.andThen_ok,p1,d0 w a1 I em D,Sem.run_pure];exact ih
        · cases h
      · cases h
    · cases h
theorem JJ{u:TypeId}{s:FS}(j:bp P ty)(h:dQ ty u=io (.fl s)):(∃F,P.underlying u=io (.struct F))∧ ∃e,e.k.agg=jp∧Ay P ty 6 u s∧ty u=io e:=by
  unfold dQ at h;split at h
  · cases h
  · cases h
  · split at h<;>cases h
  · rename_i x
    split at h
    · rename_i s' hs
      simp only[WR,KC.fl.injEq]at h;subst h;obtain⟨F,h1,_⟩:=(j _ _ x).2.1;exact⟨⟨F,h1⟩,_,rfl,Ah j 6 u s' hs,x⟩
    · cases h
  · cases h
theorem Cp{kc:KC}{u:TypeId}(x:bp P ty)(h:dQ ty u=io kc)(a b:kc.K):(Op.equal u (kc.ek a) (kc.ek b)).run P w= .ok (lc (a=b)) w:=by
  have key: ∀(r:Bool),G4 ty 10 u (kc.pk a) (kc.pk b)=io r->(Op.equal u (kc.ek a) (kc.ek b)).run P w= .ok r w:=fun r hr=>
    DW (M:=Mem.base) (N:=⟨fun _=>0,fun _=>0⟩) (U:=fun _=>True) x 10 u _ _ r hr _ _ (x7 kc a) (x7 kc b) 9990
  unfold dQ at h;split at h
  · rename_i j
    simp only[WR]at h;subst h;refine key _ ?_;simp[G4,j,KC.pk]
  · rename_i j
    simp only[WR]at h;subst h;refine key _ ?_;simp[G4,j,KC.pk]
  · rename_i j
    split at h
    · rename_i C hb
      simp only[WR]at h;subst h;refine key _ ?_;obtain⟨G,a2⟩:=a;obtain⟨I,J⟩:=b;simp[G4,G3,j,C,hb,KC.pk,il,TK.agg,kK]
    · cases h
  · rename_i Y j
    split at h
    · rename_i s hs
      simp only[WR]at h;subst h;obtain⟨e,y,D,_,A,_⟩:=Ah x 6 u s hs;have:e=_:=XP (y.symm.trans j);subst this;obtain⟨r,h1,B⟩:=A w (FK.vs s a) (FK.vs s b) (lZ s a) (lZ s b) 9994;have hd:r=lc (a=b):=by
        rw[Yk,B,decide_eq_true_iff];exact⟨CS,fun h=>by rw[h]⟩
      rw[<-hd];exact h1
    · cases h
  · cases h
def kS(kc:KC){V:Type}:List (kc.K×V)->kc.K->Option Nat
  | [],_=>is
  |(a,_)::r,k=>if a=k then io 0 else(kS kc r k).map (· +1)
section
variable {kc:KC} {V:Type}
theorem mE: ∀{m:List (kc.K×V)} {k:kc.K} {i:Nat},kS kc m k=io i-> ∃v,m[i]? =io (k,v)∧(∀z,dW kc m k z=v)∧dx kc m k=jp∧(∀u,cP kc m k u=m.set i (k,u))∧lj kc m k=m.eraseIdx i
  | [],_,_,h=>by simp[kS]at h
  | (a,b)::r,k,i,h=>by
    simp only[kS]at h;split at h
    · rename_i e
      simp only[WR]at h;subst h;subst e;exact⟨b,rfl,fun z=>by simp[dW],by simp[dx],fun u=>by simp[cP],by simp[lj]⟩
    · rename_i e
      obtain⟨j,C,rfl⟩:=WZ.1 h;obtain⟨v,h1,x,y,A,B⟩:=mE C;exact⟨v,by simpa using h1,fun z=>by simp[dW,e,x],by simp[dx,e,y],fun u=>by simp[cP,e,A],by simp[lj,e,B]⟩
theorem pz: ∀{m:List (kc.K×V)} {k:kc.K},kS kc m k=is->(∀z,dW kc m k z=z)∧dx kc m k=kw∧(∀j,cP kc m k j=m++ [(k,j)])∧lj kc m k=m
  | [],_,_=>⟨fun z=>rfl,rfl,fun v=>rfl,rfl⟩
  | (a,b)::r,k,h=>by
    simp only[kS]at h;split at h
    · cases h
    · rename_i e
      obtain⟨u,x,y,A⟩:=pz (Zb.1 h);exact⟨fun z=>by simp[dW,e,u],by simp[dx,e,x],fun j=>by simp[cP,e,y],by simp[lj,e,A]⟩
def w7(kc:KC){V:Type}:List MapEntry->List (kc.K×V)->Prop
  | [],[]=>True
  |e::r,x::m=>e.key=kc.ek x.1∧w7 kc r m
  |_,_=>False
theorem B4: ∀{es:List MapEntry} {m:List (kc.K×V)},es.length=m.length->(∀(j:Nat) (x:kc.K×V),m[j]? =io x->(es.getD j co).key=kc.ek x.1)->w7 kc es m
  | [],[],_,_=>trivial
  |e::r,x::m,hl,h=>⟨by simpa using h 0 x Z,B4 (by simpa using hl) fun j x u=>by simpa using h (j+1) x (by simpa using u)⟩
  | [],_::_,hl,_=>by simp at hl
  |_::_,[],hl,_=>by simp at hl
theorem tY: ∀{es:List MapEntry} {m:List ((KC.str).K×V)} {k:ByteArray} (i:Nat),w7 .str es m->Instr.findNow .string (.string k) es i=io ((kS .str m k).map fun j=>(i+j,(es.getD j co).val))
  | [],[],_,_,_=>rfl
  | e::r,(a,b)::m,k,i,h=>by
    obtain⟨h1,u⟩:=h;simp only[KC.ek]at h1;simp only[Instr.findNow,h1,Instr.sameNow,kS];rw[beq_toListBytes,vc];by_cases hk:a=k
    · subst hk;simp
    · have hb:lc (k=a)=kw:=by simpa using fun e=>hk e.symm
      rw[hb,be hk,tY (i+1) u];simp only[Z6,WR];congr 1
      funext j
      simp;omega
  | [],_::_,_,_,h=>h.elim
  |_::_,[],_,_,h=>h.elim
theorem tZ{q:IntKind}: ∀{es:List MapEntry} {m:List ((KC.int q).K×V)} {k:Int} (i:Nat),w7 (.int q) es m->Instr.findNow (.int q) (.int q k) es i=io ((kS (.int q) m k).map fun j=>(i+j,(es.getD j co).val))
  | [],[],_,_,_=>rfl
  | e::r,(a,b)::m,k,i,h=>by
    obtain⟨h1,u⟩:=h;simp only[KC.ek]at h1;simp only[Instr.findNow,h1,Instr.sameNow,kS,if_true];by_cases hk:a=k
    · subst hk;simp
    · have: ¬k=a:=fun e=>hk e.symm
      have hb:(k==a)=kw:=by simpa using this
      rw[hb,be hk,tZ (i+1) u];simp only[Z6,WR];congr 1
      funext j
      simp;omega
  | [],_::_,_,_,h=>h.elim
  |_::_,[],_,_,h=>h.elim
theorem qi{y:TypeId}(x:bp P ty)(hk:dQ ty y=io kc): ∀{es:List MapEntry} {m:List (kc.K×V)} {k:kc.K} (i:Nat),w7 kc es m->
    (Instr.findAsking y (kc.ek k) es i).run P w= .ok ((kS kc m k).map fun j=>(i+j,(es.getD j co).val)) w
  | [],[],_,_,_=>by simp[Instr.findAsking,kS]
  | e::r,(a,b)::m,k,i,h=>by
    obtain⟨h1,A⟩:=h;simp only[Instr.findAsking,h1,Sem.run_bind,Cp (P:=P) (w:=w) x hk,Result.andThen_ok,kS];by_cases u:a=k
    · subst u;simp
    · have: ¬k=a:=fun e=>u e.symm
      rw[be u];simp only[this,decide_false,YE,if_false,qi x hk (i+1) A,Z6];congr 2
      funext j
      simp;omega
  | [],_::_,_,_,h=>h.elim
  |_::_,[],_,_,h=>h.elim
theorem nF{B:TypeId}(u:bp P ty)(hk:dQ ty B=io kc){es:List MapEntry}{m:List (kc.K×V)}(k:kc.K)(h:w7 kc es m):
    (Instr.findKey B (kc.ek k) es).run P w= .ok ((kS kc m k).map fun j=>(j,(es.getD j co).val)) w:=by
  have hu: ∃d,P.underlying B=io d:=by
    unfold dQ at hk;split at hk
    · rename_i y;exact⟨_,(u _ _ y).2.1.1⟩
    · rename_i y;exact⟨_,(u _ _ y).2.1.1⟩
    · rename_i y;obtain⟨F,h1,_⟩:=(u _ _ y).2.1;exact⟨_,h1⟩
    · rename_i y;obtain⟨F,h1,_⟩:=(u _ _ y).2.1;exact⟨_,h1⟩
    · cases hk
  obtain⟨d,hd⟩:=hu;unfold Instr.findKey;rw[Sem.run_bind,run_underlying hd,Result.andThen_ok];have x:=qi (P:=P) (w:=w) u hk (k:=k) 0 h;simp only[Xd]at x;cases kc with
  | str=>
    have:=tQ u hk;rw[hd]at this;cases this;simp only[KC.ek,tY 0 h,Xd];rfl
  | int q=>
    have:=tT u hk;rw[hd]at this;cases this;simp only[KC.ek,tZ 0 h,Xd];rfl
  | si q=>
    cases es with
    | nil=>
      cases m with
      |nil=>simp[Instr.findNow,kS]
      |cons=>exact h.elim
    | cons e r=>
      have A:Instr.findNow d (KC.ek (.si q) k) (e::r) 0=is:=by
        simp only[Instr.findNow,KC.ek];have:Instr.sameNow d (.agg #[.string k.1,.int q k.2]) e.key=is:=by cases d<;>rfl
        rw[this]
      rw[A];exact x
  | fl s=>
    cases es with
    | nil=>
      cases m with
      |nil=>simp[Instr.findNow,kS]
      |cons=>exact h.elim
    | cons e r=>
      have A:Instr.findNow d (KC.ek (.fl s) k) (e::r) 0=is:=by
        simp only[Instr.findNow,KC.ek];have:Instr.sameNow d (.agg (FK.vs s k).toArray) e.key=is:=by cases d<;>rfl
        rw[this]
      rw[A];exact x
theorem j3.keys{V:Type}{e:V->IV}{m:List (kc.K×V)}{ents:Array MapEntry}{clock:Nat}(h:j3 M kc e m ents clock):w7 kc ents.toList m:=
  B4 (by simpa using h.size) fun j x u=>by
    have:=h.key j x u;rwa[WM,<-Xo,<-WQ]at this
theorem j3.VN{V:Type}{e:V->IV}{m:List (kc.K×V)}{ents:Array MapEntry}{clock:Nat}(h:j3 M kc e m ents clock){j:Nat}{x:kc.K×V}(hj:m[j]? =io x):IR M (e x.2) (ents.toList.getD j co).val:=by
  have:=h.val j x hj;rwa[WM,<-Xo,<-WQ]at this
theorem xV{i:IV}{x:Value}(h:IR M i x):VR M N U i.pv x:=by
  cases h with
  | agg cs ys hl hr=>
    refine .agg _ _ (by simpa using hl) fun j p u=>?_;rw[WX,WZ]at u;obtain⟨q,y,rfl⟩:=u
    exact .iv _ _ (hr j q y)
  |v x=>exact .iv _ _ (.v x)
  |fL=>exact .iv _ _ (.fL _ _ _ _)
  |bL _ _ _ _ _ _ h1 h2 h3 h4 h5=>exact .iv _ _ (.bL _ _ _ _ _ _ h1 h2 h3 h4 h5)
  |lh _ _ _ h1 h2=>exact .iv _ _ (.lh _ _ _ h1 h2)
  |eO _ _ _ _ _ _ _ _ h1 h2 h3 h4 h5 h6 h7=>exact .iv _ _ (.eO _ _ _ _ _ _ _ _ h1 h2 h3 h4 h5 h6 h7)
  |S8 _ _ _ h=>exact .iv _ _ (.S8 _ _ _ h)
theorem lC{kt:TypeId}(u:bp P ty)(hk:dQ ty kt=io kc)(k:kc.K)(b:Bool)(n:Nat):(Instr.checkKey b (n+6) kt (kc.ek k)).run P w= .ok () w:=by
  cases kc with
  |str=>exact run_checkKey (tQ u hk) (by simp[KC.ek,IsKey]) _ _
  |int q=>exact run_checkKey (tT u hk) (by simp[KC.ek,IsKey]) _ _
  | si q=>
    unfold dQ at hk;split at hk
    · cases hk
    · cases hk
    · rename_i a c _ _ _ I
      split at hk
      · rename_i _ _ _ _ B _ _ _ G hc
        simp only[WR,KC.si.injEq]at hk;have a0:B=q:=hk;subst a0;obtain⟨F,h1,A⟩:=(u _ _ I).2.1;have D:=((u _ _ I).2.2 Z).2.2;rw[iE h1]at D;have d0:=(u _ _ G).2.1.1;have e0:=(u _ _ hc).2.1.1;have b0:(part a #[.string k.1,.int B k.2] 0).run P w= .ok (.string k.1) w:=by
          have:=jz (P:=P) (w:=w) (M:=Mem.base) (N:=⟨fun _=>0,fun _=>0⟩) (U:=fun _=>True) (off:=0) (cs:=[.iv (.v (.string k.1)),.iv (.v (.int B k.2))]) (ys:= #[.string k.1,.int B k.2]) (u _ _ G) Z
            (fun j p x=>by match j with
              |0=>simp at x;subst x;exact .iv _ _ (.v _)
              |1=>simp at x;subst x;exact .iv _ _ (.v _)
              |j+2=>simp at x) (p:= .iv (.v (.string k.1))) (by simp[il,TK.agg,kK])
          obtain⟨y,hy,C⟩:=this;cases C with
          |iv _ _ C=>cases C;exact hy
        have c0:(part c #[.string k.1,.int B k.2] 1).run P w= .ok (.int B k.2) w:=by
          have:=jz (P:=P) (w:=w) (M:=Mem.base) (N:=⟨fun _=>0,fun _=>0⟩) (U:=fun _=>True) (off:=1) (cs:=[.iv (.v (.string k.1)),.iv (.v (.int B k.2))]) (ys:= #[.string k.1,.int B k.2]) (u _ _ hc) Z
            (fun j p x=>by match j with
              |0=>simp at x;subst x;exact .iv _ _ (.v _)
              |1=>simp at x;subst x;exact .iv _ _ (.v _)
              |j+2=>simp at x) (p:= .iv (.v (.int B k.2))) (by simp[il,TK.agg,kK])
          obtain⟨y,hy,C⟩:=this;cases C with
          |iv _ _ C=>cases C;exact hy
        obtain⟨F⟩:=F
        match F,A,D with
        | [],A,_=>simp at A
        | [_],A,_=>simp at A
        |_::_::_::_,A,_=>simp at A
        | [f,g],A,D=>
          simp at A;obtain⟨⟨h3,h4⟩,h5,h6⟩:=A;have hf:=D f (by simp);have hg:=D g (by simp);have ca:=run_checkKey (w:=w) d0 (k:= .string k.1) (by simp[IsKey]) b (n+4);have cc:=run_checkKey (w:=w) e0 (k:= .int B k.2) (by simp[IsKey]) b (n+4);unfold Instr.checkKey;simp[KC.ek,run_underlying h1,hf,hg,h3,h4,h5,h6,b0,c0,ca,cc]
      · cases hk
    · split at hk<;>cases hk
    · cases hk
  | fl s=>
    obtain⟨_,e,G,⟨e',Y,_,_,_,J⟩,I⟩:=JJ u hk;have:e'=e:=XP (Y.symm.trans I);subst this;have:=J w (FK.vs s k) (lZ s k) b n;rw[Nat.add_comm 6 n]at this;unfold I0 at this;rw[G]at this;exact this
theorem AM{a b:Value}(h:Eh a b=jp):a=b:=by
  unfold Eh at h;split at h<;>simp_all
theorem AK: ∀{a b:List Value},xC a b=jp->a=b
  | [],[],_=>rfl
  | x::r,y::q,h=>by
    simp only[xC,XE]at h;rw[AM h.1,AK h.2]
  | [],_::_,h=>by simp[xC]at h
  |_::_,[],h=>by simp[xC]at h
theorem KR{a b:Value}(h:lM a b=jp):a=b:=by
  unfold lM at h;split at h
  · have:=AK h
    congr 1;exact ZT.1 this
  · exact AM h
theorem BW(y:bp P ty){t:TypeId}{ok:Bool}{V:Type}{e:V->IV}{z:V}{zv:Value}{m:List (kc.K×V)}{key p:PV}{C:Prop}(h:vU ty t ok kc e z zv m key=io (p,C)){r:Nat}{ents:Array MapEntry}{clock:Nat}
    (hb:w.heap[r]? =io (.map ents clock)) (hm:j3 M kc e m ents clock) (hz:IR M (e z) zv) {k:Value} (hk:VR M N U key k):
    C∧ ∃x,(Instr.lookup t (.map (io r)) k ok).run P w= .ok x w∧VR M N U p x:=by
  unfold vU at h;split at h
  · rename_i kt et _ _ _ _ he
    have hu:=(y _ _ he).2.1.1;split at h
    · rename_i A ee D a0
      split at h
      · rename_i k0 hd hv Y
        have hd:=of_decide_eq_true hd;subst hd;have b0:=Fs Y hk;subst b0;have hv:=KR hv;have u:=nF (P:=P) (w:=w) y D k0 hm.keys;have B:=lC (P:=P) (w:=w) y D k0 ents.isEmpty 9994;have c0:=du (P:=P) (w:=w) (y _ _ a0);have hg:(getObj r).run P w= .ok (.map ents clock) w:=by simp[getObj,Sem.run,hb]
        have I: ∃v J,(Instr.lookup t (.map (io r)) (A.ek k0) ok).run P w= .ok (if ok then .tuple #[v,.bool J] else v) w∧J=dx A m k0∧IR M (e (dW A m k0 z)) v:=by
          cases hfi:kS A m k0 with
          | none=>
            obtain⟨g1,g2,_⟩:=pz hfi;rw[hfi]at u;refine⟨ee.zero,kw,?_,by rw[g2],by rw[g1,hv];exact hz⟩;simp[Instr.lookup,run_underlying hu,hg,B,u,c0]
          | some i=>
            obtain⟨v,g0,g1,g2,_⟩:=mE hfi;rw[hfi]at u;refine⟨(ents.toList.getD i co).val,jp,?_,by rw[g2],by rw[g1];exact hm.VN g0⟩;simp[Instr.lookup,run_underlying hu,hg,B,u]
        obtain⟨v,J,h1,h2,h3⟩:=I;split at h
        · simp only[WR,W3]at h
          obtain⟨rfl,rfl⟩:=h;refine⟨ac,_,h1,.aY _ _ Z fun j q G=>?_⟩
          match j with
          |0=>simp at G;subst G;exact xV h3
          |1=>simp at G;subst G;subst h2;exact .iv _ _ (.v _)
          |j+2=>simp at G
        · simp only[WR,W3]at h
          obtain⟨rfl,rfl⟩:=h;exact⟨ac,_,h1,xV h3⟩
      · cases h
    · cases h
  · cases h
end
end
section
variable {P:Program} {ty:Ty} {M:Mem} {N:Nm} {w:World} {nt:NT} {s:AS} {a:Act}
theorem aZ{x:Value}{m:Sem Value}(h:m.run P w= .ok x w):(do pure (.value (<-m)):Sem Next).run P w= .ok (.value x) w:=by
  rw[Sem.run_bind,h];rfl
theorem sQ(D:bp P ty)(hf:Fits M N s nt a w){o:Oper}{p:PV}{C:Prop}(h:jf ty s o.op=io (p,C))(hC:C):
    ∃x,(execOp a.eval o).run P w= .ok (.value x) w∧VR M N (· <s.nx) p x:=by
  obtain⟨e0,B,_,_⟩:=hf;cases ho:o.op with
  | move x=>
    rw[ho]at h;simp only[jf,WR,W3]at h;obtain⟨rfl,rfl⟩:=h;exact⟨_,by simp only[execOp,ho];rfl,aN B x⟩
  | assign x=>
    rw[ho]at h;simp only[jf,WR,W3]at h;obtain⟨rfl,rfl⟩:=h;exact⟨_,by simp only[execOp,ho];rfl,aN B x⟩
  | pick c x y=>
    rw[ho]at h;simp only[jf]at h;have hc:=aN B c;split at h
    · rename_i I
      rw[I]at hc;simp only[WR,W3]at h;obtain⟨rfl,rfl⟩:=h;generalize J:a.eval c=v at hc;cases hc with
      |kb=>exact⟨_,by simp only[execOp,ho,J];simp[asBool],aN B x⟩
    · rename_i I
      rw[I]at hc;simp only[WR,W3]at h;obtain⟨rfl,rfl⟩:=h;generalize J:a.eval c=v at hc;cases hc with
      |kb=>exact⟨_,by simp only[execOp,ho,J];simp[asBool],aN B y⟩
    · cases h
  | load t x=>
    rw[ho]at h;simp only[jf]at h;split at h
    · rename_i e I
      split at h
      · rename_i cs hb
        split at h
        · rename_i q hq
          simp only[WR,W3]at h;obtain⟨rfl,rfl⟩:=h;obtain⟨b,o0,A,r0⟩:=yR e0 (aN B x) hb;obtain⟨y,hy,J⟩:=tG (P:=P) (D t e I) r0 hq;exact⟨y,by simp only[execOp,ho];exact aZ (by rw[A];simpa[Instr.loadAt,Instr.sureAddr]using hy),J⟩
        · cases h
      · cases h
    · cases h
  | nilCheck x=>
    rw[ho]at h;simp only[jf]at h;have A:=aN B x;split at h
    all_goals first
      |cases h;done
      | (rename_i I
         simp only[WR,W3]at h;obtain⟨rfl,rfl⟩:=h;rw[I]at A;refine⟨_,?_,A⟩;generalize J:a.eval x=v at A
         first
         |(cases A;simp only[execOp,ho,J];rfl)
         | (cases A with
            |iv _ _ A=>cases A;simp only[execOp,ho,J];rfl))
  | binOp op t x y t'=>
    rw[ho]at h;simp only[jf]at h;split at h
    · rename_i cs ds k0 x1
      have h1:=aN B x;have h2:=aN B y;rw[k0]at h1;rw[x1]at h2;obtain⟨_,z,hz,J⟩:=Kz (P:=P) (w:=w) D (u:=x) (v:=y) h h1 h2;exact⟨z,by simp only[execOp,ho];exact aZ hz,J⟩
    · obtain⟨z,hz,J⟩:=Ha (P:=P) (w:=w) D (u:=x) (v:=y) h hC (aN B x) (aN B y)
      exact⟨z,by simp only[execOp,ho];exact aZ hz,J⟩
  | unOp op t x=>
    rw[ho]at h;cases op with
    | not=>
      simp only[jf]at h;have A:=aN B x;split at h
      · rename_i I
        simp only[WR,W3]at h;obtain⟨rfl,rfl⟩:=h;rw[I]at A;generalize J:a.eval x=v at A;cases A with
        |kb=>exact⟨_,by simp only[execOp,ho,J];exact aZ Z,.kb _⟩
      · rename_i I
        simp only[WR,W3]at h;obtain⟨rfl,rfl⟩:=h;rw[I]at A;generalize J:a.eval x=v at A;cases A with
        |kb=>exact⟨_,by simp only[execOp,ho,J];exact aZ Z,.kb _⟩
      · rename_i I
        simp only[WR,W3]at h;obtain⟨rfl,rfl⟩:=h;rw[I]at A;cases A with
        | iv _ _ A=>generalize J:a.eval x=v at A;cases A with
          |v=>exact⟨_,by simp only[execOp,ho,J];exact aZ Z,.iv _ _ (.v _)⟩
      · cases h
    |_=>simp[jf]at h
  | fieldAddr t x k=>
    rw[ho]at h;simp only[jf]at h;split at h
    · rename_i e I
      split at h
      · rename_i o0 u k1
        split at h
        · rename_i eu c0
          split at h
          · cases h
          · rename_i n hn
            split at h
            · rename_i q hq
              simp only[WR,W3]at h;obtain⟨rfl,rfl⟩:=h;obtain⟨F,fd,h1,h2,rfl,rfl⟩:=sk (D t e I) k1;obtain⟨b,o',A,J⟩:=Gk (aN B x) hq;refine⟨_,?_,J⟩;simp only[execOp,ho,A];refine aZ ?_;have hs:=aQ (w:=w) (D _ _ c0);simp[Instr.fieldAt,run_underlying h1,h2,Instr.sureAddr,fieldPlace,hs,hn,c7]
            · cases h
        · cases h
      · cases h
    · cases h
  | field t x k=>
    rw[ho]at h;simp only[jf]at h;split at h
    · rename_i e I
      split at h
      · rename_i o0 u k1
        split at h
        · rename_i eu c0
          split at h
          · rename_i cs k0
            split at h
            · rename_i q hq
              simp only[WR,W3]at h;obtain⟨rfl,rfl⟩:=h;obtain⟨F,fd,h1,h2,rfl,rfl⟩:=sk (D t e I) k1;have A:=aN B x;rw[k0]at A;generalize J:a.eval x=v at A;cases A with
              | agg _ ys hl hr=>
                obtain⟨y,hy,l2⟩:=jz (P:=P) (w:=w) (D _ _ c0) hl hr hq;refine⟨y,?_,l2⟩;simp only[execOp,ho,J];refine aZ ?_;simp[Instr.field,run_underlying h1,h2,asAgg,hy]
            · cases h
          · cases h
        · cases h
      · cases h
    · cases h
  | indexAddr t x i=>
    rw[ho]at h;simp only[jf]at h;split at h
    · rename_i u sz i0 z _ I
      have hu:P.underlying t=io (.slice u):=(D t _ I).2.1.1;split at h
      · rename_i eu c0
        split at h
        · rename_i k n hn
          have hi:=aN B i;rw[hn]at hi;have j0:a.eval i= .int k n:=by
            generalize a.eval i=v at hi;cases hi with
            | iv _ _ hi=>cases hi with
              |v=>rfl
          split at h
          · rename_i g0 m el A
            cases hb:Xj g0 eu.size with
            |false=>simp only[hb,cond_false]at h;cases h
            | true=>
              simp only[hb,cond_true]at h;have hs:=Xh hb;subst hs;have G:=aN B x;rw[A]at G;obtain⟨y,hy,J⟩:=p9 (P:=P) (k:=k) hu (D _ _ c0) G (.inl ⟨m,el,rfl⟩) h hC;exact⟨y,by simp only[execOp,ho,j0];exact aZ hy,J⟩
          · rename_i j o0 len g0 A
            cases hb:Xj g0 eu.size with
            |false=>simp only[hb,cond_false]at h;cases h
            | true=>
              simp only[hb,cond_true]at h;have hs:=Xh hb;subst hs;have G:=aN B x;rw[A]at G;obtain⟨y,hy,J⟩:=p9 (P:=P) (k:=k) hu (D _ _ c0) G (.inr ⟨j,o0,len,rfl⟩) h hC;exact⟨y,by simp only[execOp,ho,j0];exact aZ hy,J⟩
          · cases h
        · cases h
      · cases h
    · rename_i len u sz i0 z _ I
      have hu:P.underlying t=io (.array len u):=(D t _ I).2.1;split at h
      · rename_i eu c0
        split at h
        · rename_i k n hn
          have hi:=aN B i;rw[hn]at hi;have j0:a.eval i= .int k n:=by
            generalize a.eval i=v at hi;cases hi with
            | iv _ _ hi=>cases hi with
              |v=>rfl
          split at h
          · rename_i j o0 A
            simp only[WR,W3]at h;obtain⟨rfl,rfl⟩:=h;have G:=aN B x;rw[A]at G;generalize J:a.eval x=v at G;cases G with
            | ptr _ _ hU=>
              refine⟨.pointer (io ⟨N.aA j,o0+n.toNat*eu.size,is⟩),?_,.ptr _ _ hU⟩;simp only[execOp,ho,j0,J];refine aZ ?_;simp only[Instr.indexAt,asIntOf];simp[run_underlying hu,hC.1,hC.2,aQ (D _ _ c0),c7,Instr.sureAddr]
          · cases h
        · cases h
      · cases h
    · cases h
  | slice t x lo hi mx=>
    rw[ho]at h;have d0: ∀(o:Operand) (k:IntKind) (n:Int),ev s.f o= .iv (.v (.int k n))->a.eval o= .int k n:=fun o k n I=>by
      have hi:=aN B o;rw[I]at hi;generalize a.eval o=v at hi;cases hi with
      | iv _ _ hi=>cases hi with
        |v=>rfl
    cases lo with
    | none=>
      cases hi with
      |none=>simp only[jf]at h;cases h
      |some hi=>
      cases mx with
      |none=>simp only[jf]at h;cases h
      |some mx=>
      simp only[jf]at h;split at h
      · rename_i u sz i0 z _ I
        have hu:P.underlying t=io (.slice u):=(D t _ I).2.1.1;split at h
        · rename_i eu c0
          split at h
          · rename_i kb nb a1
            split at h
            · rename_i kc nc f2
              split at h
              · rename_i g0 m el A
                cases hb:Xj g0 eu.size with
                |false=>simp only[hb,cond_false]at h;cases h
                | true=>
                  simp only[hb,cond_true]at h;have hs:=Xh hb;subst hs;have G:=aN B x;rw[A]at G;have w0:=d0 hi _ _ a1;have c2:=d0 mx _ _ f2;obtain⟨y,hy,J⟩:=C3 (P:=P) (w:=w) (M:=M) (N:=N) (U:=(· <s.nx)) (kb:=kb) (kc:=kc) (nb:=nb) (nc:=nc) hu (D _ _ c0) G h hC;exact⟨y,by simp only[execOp,ho,w0,c2,XW,YU];exact aZ hy,J⟩
              · cases h
            · cases h
          · cases h
        · cases h
      · cases h
    |some lo=>
    cases hi with
    | none=>
      cases mx with
      |some mx=>simp only[jf]at h;cases h
      |none=>
      simp only[jf]at h;split at h
      · rename_i u sz i0 z _ I
        have hu:P.underlying t=io (.slice u):=(D t _ I).2.1.1;split at h
        · rename_i eu c0
          split at h
          · rename_i ka na x0
            split at h
            · rename_i g0 m el A
              cases hb:Xj g0 eu.size with
              |false=>simp only[hb,cond_false]at h;cases h
              | true=>
                simp only[hb,cond_true]at h;have hs:=Xh hb;subst hs;have G:=aN B x;rw[A]at G;have v0:=d0 lo _ _ x0;obtain⟨y,hy,J⟩:=FZ (P:=P) (w:=w) (M:=M) (N:=N) (U:=(· <s.nx)) (ka:=ka) (na:=na) hu (D _ _ c0) G h hC;exact⟨y,by simp only[execOp,ho,v0,XW,YU];exact aZ hy,J⟩
            · cases h
          · cases h
        · cases h
      · cases h
    |some hi=>
    cases mx with
    |some mx=>simp only[jf]at h;cases h
    |none=>
    simp only[jf]at h;split at h
    · rename_i u sz i0 z _ I
      have hu:P.underlying t=io (.slice u):=(D t _ I).2.1.1;split at h
      · rename_i eu c0
        split at h
        · rename_i ka na x0
          split at h
          · rename_i kb nb a1
            split at h
            · rename_i g0 m el A
              cases hb:Xj g0 eu.size with
              |false=>simp only[hb,cond_false]at h;cases h
              | true=>
                simp only[hb,cond_true]at h;have hs:=Xh hb;subst hs;have G:=aN B x;rw[A]at G;have v0:=d0 lo _ _ x0;have w0:=d0 hi _ _ a1;obtain⟨y,hy,J⟩:=F0 (P:=P) (w:=w) (M:=M) (N:=N) (U:=(· <s.nx)) (ka:=ka) (kb:=kb) (na:=na) (nb:=nb) hu (D _ _ c0) G h hC;exact⟨y,by simp only[execOp,ho,v0,w0,XW,YU];exact aZ hy,J⟩
            · cases h
          · cases h
        · cases h
      · cases h
    · rename_i sz i0 z _ I
      have hu:P.underlying t=io .string:=(D t _ I).2.1.1;split at h
      · rename_i ka na x0
        split at h
        · rename_i kb nb a1
          split at h
          · rename_i b A
            simp only[WR,W3]at h;obtain⟨rfl,rfl⟩:=h;have G:=aN B x;rw[A]at G;have p1:a.eval x= .string b:=by
              generalize a.eval x=v at G;cases G with
              | iv _ _ hi=>cases hi with
                |v=>rfl
            have v0:=d0 lo _ _ x0;have w0:=d0 hi _ _ a1;refine⟨.string (b.extract na.toNat nb.toNat),?_,.iv _ _ (.v _)⟩;simp only[execOp,ho,v0,w0,p1,XW,YU];exact aZ (A0 hu hC)
          · cases h
        · cases h
      · cases h
    · cases h
  | convert t t' x=>
    rw[ho]at h;simp only[jf]at h;split at h
    · rename_i q0 p2 m2 z0 _ a2
      have k2:P.underlying t=io (.int q0):=(D t _ a2).2.1.1;split at h
      · rename_i k sz i0 z _ I
        have hu:P.underlying t'=io (.int k):=(D t' _ I).2.1.1;split at h
        · rename_i q n hn
          simp only[WR,W3]at h;obtain⟨rfl,rfl⟩:=h;have hi:=aN B x;rw[hn]at hi;have j0:a.eval x= .int q n:=by
            generalize a.eval x=v at hi;cases hi with
            | iv _ _ hi=>cases hi with
              |v=>rfl
          refine⟨_,?_,.iv _ _ (.v _)⟩;simp only[execOp,ho,j0];refine aZ ?_;simp[convert,run_underlying k2,run_underlying hu,Conv.intToInt]
        · cases h
      · cases h
    · cases h
  | index t x i=>
    rw[ho]at h;simp only[jf]at h;split at h
    · rename_i sz i0 z _ I
      have hu:P.underlying t=io .string:=(D t _ I).2.1.1;split at h
      · rename_i k n hn
        split at h
        · rename_i b A
          simp only[WR,W3]at h;obtain⟨rfl,rfl⟩:=h;have hi:=aN B i;rw[hn]at hi;have j0:a.eval i= .int k n:=by
            generalize a.eval i=v at hi;cases hi with
            | iv _ _ hi=>cases hi with
              |v=>rfl
          have G:=aN B x;rw[A]at G;have p1:a.eval x= .string b:=by
            generalize a.eval x=v at G;cases G with
            | iv _ _ hi=>cases hi with
              |v=>rfl
          refine⟨_,?_,.iv _ _ (.v _)⟩;simp only[execOp,ho,j0,p1];refine aZ ?_;have j1:n.toNat<b.size:=by omega
          have hg:b[n.toNat]? =io (b.data.toList.getD n.toNat 0):=by
            rw[getElem?_pos b n.toNat j1];have h0:n.toNat<b.data.size:=j1;have h1:b.data.toList.getD n.toNat 0=b.data[n.toNat]:=by
              rw[WQ,Xo,Xx h0];rfl
            rw[h1];rfl
          simp only[Instr.index,asIntOf];simp[run_underlying hu,hC.1,hg]
        · cases h
      · cases h
    · cases h
  | build t parts=>
    rw[ho]at h;simp only[jf]at h;split at h
    · rename_i e I
      split at h
      · rename_i fs hk
        split at h
        · rename_i pl j2
          split at h
          · rename_i cs k0
            rw[force_eq]at h;simp only[WR,W3]at h;obtain⟨rfl,rfl⟩:=h;have f0:=D t e I;have m0:=f0.2.1;rw[hk]at m0;obtain⟨F,h1,h2⟩:=m0;have hz:=du (w:=w) f0
            obtain⟨s1,h3,h4⟩:=sc (M:=M) (N:=N) (U:=(· <s.nx)) (AJ:=(parts.map fun x=>(x.1,a.eval x.2)).toList) k0 (by simp) (fun j x y A hy=>by
              rw[WX,WZ]at A;obtain⟨z,hz,rfl⟩:=A;have q1:parts[j]? =io z:=by simpa using hz
              have:io (z.1,a.eval z.2)=io y:=by rw[<-hy];simp[q1]
              simp only[WR]at this;subst this
              exact⟨rfl,aN B z.2⟩) (fC e.zero)
            refine⟨.agg s1,?_,.agg _ _ h4.1 h4.2⟩;simp only[execOp,ho];refine aZ ?_;have m1: ∀(fl:List Field) (pl:List (Nat×Nat)),rI ty (fl.map fun f=>(f.offset,f.type))=io pl->(fl.mapM (fun f=>do pure (f.offset,<-sizeOf f.type):Field->Sem (Nat×Nat))).run P w= .ok pl w:=by
              intro fl
              induction fl with
              |nil=>intro pl hp;simp only[W7,rI,WR]at hp;subst hp;rfl
              | cons f fl ih=>
                intro pl hp;simp only[WW,rI]at hp;split at hp
                · rename_i e' z1
                  split at hp
                  · rename_i l hl
                    simp only[WR]at hp;subst hp;rw[List.mapM_cons,Sem.run_bind,Sem.run_bind,aQ (D _ _ z1),Result.andThen_ok,Sem.run_pure,Result.andThen_ok,Sem.run_bind,ih l hl];rfl
                  · cases hp
                · cases hp
            have hm:=m1 F.toList pl (by rw[h2];exact j2);have d2:(F.mapM (fun f=>do pure (f.offset,<-sizeOf f.type):Field->Sem (Nat×Nat))).run P w= .ok pl.toArray w:=by
              rw[ZN,Sem.run_map,hm];rfl
            have n0:(fun(i:Nat)=>pl.toArray[i]?)=(fun(i:Nat)=>pl[i]?):=by funext i;simp
            simp only[Instr.build,Sem.run_bind,hz,Result.andThen_ok,run_underlying h1,d2];rw[n0,h3];rfl
          · cases h
        · cases h
      · rename_i n u hk
        split at h
        · rename_i eu c0
          split at h
          · rename_i cs k0
            rw[force_eq]at h;simp only[WR,W3]at h;obtain⟨rfl,rfl⟩:=h;have f0:=D t e I;have m0:=f0.2.1;rw[hk]at m0;have hz:=du (w:=w) f0
            obtain⟨s1,h3,h4⟩:=sc (M:=M) (N:=N) (U:=(· <s.nx)) (AJ:=(parts.map fun x=>(x.1,a.eval x.2)).toList) k0 (by simp) (fun j x y A hy=>by
              rw[WX,WZ]at A;obtain⟨z,hz,rfl⟩:=A;have q1:parts[j]? =io z:=by simpa using hz
              have:io (z.1,a.eval z.2)=io y:=by rw[<-hy];simp[q1]
              simp only[WR]at this;subst this
              exact⟨rfl,aN B z.2⟩) (fC e.zero)
            refine⟨.agg s1,?_,.agg _ _ h4.1 h4.2⟩;simp only[execOp,ho];refine aZ ?_;simp only[Instr.build,Sem.run_bind,hz,Result.andThen_ok,run_underlying m0,aQ (D _ _ c0)];rw[h3];rfl
          · cases h
        · cases h
      · cases h
    · cases h
  | extract x k=>
    rw[ho]at h;simp only[jf]at h;split at h
    · rename_i cs k0
      split at h
      · rename_i q hq
        simp only[WR,W3]at h;obtain⟨rfl,rfl⟩:=h;have A:=aN B x;rw[k0]at A;generalize J:a.eval x=v at A;cases A with
        | aY _ ys hl hr=>
          have j1:k<ys.size:=by rw[<-hl];exact(WT.1 hq).1
          refine⟨ys.getD k undef,?_,hr _ _ hq⟩;simp only[execOp,ho,J];refine aZ ?_;simp[Instr.extract,WM,j1]
      · cases h
    · cases h
  | makeFunc fn first caps=>
    rw[ho]at h;simp only[jf,force_eq,WR,W3]at h;obtain⟨rfl,rfl⟩:=h;have h1:=I4 B first;have h2:=I4 B caps;exact⟨_,by simp only[execOp,ho];exact aZ Z,.cv _ _ _ _ _ h1.1 h2.1 h1.2 h2.2⟩
  | call c=>
    obtain⟨callee,args,a0⟩:=c;rw[ho]at h;cases callee with
    | builtin b=>
      cases b with
      | len=>
        simp only[jf]at h;split at h
        · rename_i x t v1 o2
          have b0:args= #[x]:=by cases args;simp_all
          have o1:a0= #[t]:=by cases a0;simp_all
          subst b0 o1;have A:=aN B x;have p0: ∀v,(Builtin.len_ #[t] o.type #[a.eval x]).run P w= .ok v w->(execOp a.eval o).run P w= .ok (.value v) w:=by
            intro v J;simp only[execOp,ho,resolve];simp[invoke,builtin,J]
          split at h
          · rename_i u sz i0 z _ I
            have hu:P.underlying t=io (.slice u):=(D t _ I).2.1.1;split at h
            · rename_i g0 n el Y
              rw[Y]at A;simp only[xm,WR,W3]at h;obtain⟨rfl,rfl⟩:=h;refine⟨.int .i64 n,p0 _ ?_,.iv _ _ (.v _)⟩;generalize a.eval x=v at A;cases A with
              |iv _ _ hi=>cases hi<;>simp[Builtin.len_,run_underlying hu,goInt]
            · rename_i i o0 len g0 Y
              rw[Y]at A;simp only[xm,WR,W3]at h;obtain⟨rfl,rfl⟩:=h;refine⟨.int .i64 len,p0 _ ?_,.iv _ _ (.v _)⟩;generalize a.eval x=v at A;cases A<;>(simp[Builtin.len_,run_underlying hu,goInt];done)
            · rename_i Y
              rw[Y]at A;simp only[xm,WR,W3]at h;obtain⟨rfl,rfl⟩:=h;refine⟨.int .i64 0,p0 _ ?_,.iv _ _ (.v _)⟩;generalize a.eval x=v at A;cases A with
              |iv _ _ hi=>cases hi;simp[Builtin.len_,run_underlying hu,goInt]
            · cases h
          · rename_i sz i0 z _ I
            have hu:P.underlying t=io .string:=(D t _ I).2.1.1;split at h
            · rename_i b Y
              rw[Y]at A;simp only[xm,WR,W3]at h;obtain⟨rfl,rfl⟩:=h;refine⟨.int .i64 b.size,p0 _ ?_,.iv _ _ (.v _)⟩;generalize a.eval x=v at A;cases A with
              |iv _ _ hi=>cases hi;simp[Builtin.len_,run_underlying hu,goInt]
            · cases h
          · rename_i kt et sz i0 z _ I
            have hu:P.underlying t=io (.map kt et):=(D t _ I).2.1.1;have s0: ∀{r:Nat} {ents:Array MapEntry} {clock n:Nat},w.heap[r]? =io (.map ents clock)->ents.size=n->(Builtin.len_ #[t] o.type #[.map (io r)]).run P w= .ok (.int .i64 n) w:=by
              intro r ents clock n h1 h2;simp[Builtin.len_,run_underlying hu,goInt,getObj,Sem.run,h1,h2,Result.andThen]
            split at h
            · rename_i V f1 i1 z' t1 m' Y
              rw[Y]at A;simp only[WR,W3]at h;obtain⟨rfl,rfl⟩:=h;refine⟨.int .i64 m'.length,p0 _ ?_,.iv _ _ (.v _)⟩;generalize a.eval x=v at A;cases A with
              | iv _ _ hi=>cases hi with
                |eO _ _ _ _ _ b ents clock hb hs=>exact s0 (e0.dF _ _ hb) hs
            · rename_i j Y
              rw[Y]at A;split at h
              · rename_i V f1 i1 z' t1 w1 m' hg
                simp only[WR,W3]at h;obtain⟨rfl,rfl⟩:=h;refine⟨.int .i64 m'.length,p0 _ ?_,.iv _ _ (.v _)⟩;obtain⟨ents,clock,h1,h2,h3⟩:=e0.obj _ _ hg;generalize a.eval x=v at A;cases A with
                |mp=>exact s0 h1 h2.size
              · cases h
            · cases h
          · cases h
        · cases h
      | max=>
        simp only[jf]at h;split at h
        · rename_i x y v1
          have b0:args= #[x,y]:=by cases args;simp_all
          subst b0;split at h
          · rename_i k n j m hn hm
            simp only[WR,W3]at h;obtain⟨rfl,rfl⟩:=h;have h1:=aN B x;have h2:=aN B y;rw[hn]at h1;rw[hm]at h2;have e1:a.eval x= .int k n:=by
              generalize a.eval x=v at h1;cases h1 with
              | iv _ _ hi=>cases hi with
                |v=>rfl
            have e2:a.eval y= .int j m:=by
              generalize a.eval y=v at h2;cases h2 with
              | iv _ _ hi=>cases hi with
                |v=>rfl
            have e3:(if m>n then m else n)=max n m:=by split<;>omega
            refine⟨.int k (max n m),?_,.iv _ _ (.v _)⟩;simp only[execOp,ho,resolve];simp[invoke,builtin,Builtin.max_,Builtin.max2,e1,e2,<-e3]
          · cases h
        · cases h
      | min=>
        simp only[jf]at h;split at h
        · rename_i x y v1
          have b0:args= #[x,y]:=by cases args;simp_all
          subst b0;split at h
          · rename_i k n j m hn hm
            simp only[WR,W3]at h;obtain⟨rfl,rfl⟩:=h;have h1:=aN B x;have h2:=aN B y;rw[hn]at h1;rw[hm]at h2;have e1:a.eval x= .int k n:=by
              generalize a.eval x=v at h1;cases h1 with
              | iv _ _ hi=>cases hi with
                |v=>rfl
            have e2:a.eval y= .int j m:=by
              generalize a.eval y=v at h2;cases h2 with
              | iv _ _ hi=>cases hi with
                |v=>rfl
            have e3:(if m<n then m else n)=min n m:=by split<;>omega
            refine⟨.int k (min n m),?_,.iv _ _ (.v _)⟩;simp only[execOp,ho,resolve];simp[invoke,builtin,Builtin.min_,Builtin.min2,e1,e2,<-e3]
          · cases h
        · cases h
      |_=>simp[jf]at h
    |_=>simp[jf]at h
  | lookup t x i ok=>
    rw[ho]at h;simp only[jf]at h;have A:=aN B x;have hi:=aN B i;split at h
    · rename_i V f1 i1 z' t1 m' Y
      rw[Y]at A;generalize J:a.eval x=v at A;cases A with
      | iv _ _ hxi=>cases hxi with
        | eO _ _ _ _ _ b ents clock hb hs m0 hv' hz j0 hc=>
          obtain⟨_,y,h1,h2⟩:=BW (P:=P) D h (e0.dF _ _ hb) ⟨hs,m0,hv',j0,hc⟩ hz hi;exact⟨y,by simp only[execOp,ho,J];exact aZ h1,h2⟩
    · rename_i j Y
      rw[Y]at A;split at h
      · rename_i V f1 i1 z' t1 w1 m' hg
        obtain⟨ents,clock,h1,h2,h3⟩:=e0.obj _ _ hg;generalize J:a.eval x=v at A;cases A with
        | mp=>
          obtain⟨_,y,g1,g2⟩:=BW (P:=P) D h h1 h2 h3 hi;exact⟨y,by simp only[execOp,ho,J];exact aZ g1,g2⟩
      · cases h
    · cases h
  | entry it=>
    rw[ho]at h;simp only[jf]at h;have A:=aN B it;split at h
    · rename_i i Y
      rw[Y]at A;split at h
      · rename_i V f1 i1 m' vs x' hg
        simp only[WR,W3]at h;obtain⟨rfl,rfl⟩:=h;obtain⟨b,ents,clock,r1,h1,h2,h3,h4,h5,h6,h7⟩:=(e0.obj _ _ hg).resolve_left fun hh=>nomatch hh.2.2.1;obtain⟨j,r,rfl,h8⟩:=h7 x' Z;generalize J:a.eval it=v at A
        cases A with
        | ptr=>
          have hj:j<ents.size:=by rw[h3.size];exact(WT.1 h8).1
          have b2:ents.getD j co=ents[j]:=by simp[WM,hj]
          have b1:r1=(r.reverse.map fun j=>(ents.getD j co).born).toArray.push (ents[j]).born:=by
            apply ZT.1;rw[h4];simp[hj]
          rw[b1]at h1;have i2:(ents.toList.map (·.born)).Nodup:=by
            rw[List.nodup_iff_pairwise_ne,X9];intro p q hp hq n2 I;simp at hp hq I;have:=h3.inj p q ents[p] ents[q] (by simp[hp]) (by simp[hq]) I;omega
          have n1:=run_entry_at (P:=P) w (N.aA i) b clock _ ents clock ents[j] h1 (e0.dF _ _ h2) (by simp) i2;refine⟨_,by simp only[execOp,ho,J];exact aZ n1,.aY _ _ Z fun q p hp=>?_⟩;have t0:=h3.key j _ h8;have d1:=h3.val j _ h8;rw[b2]at t0 d1
          match q with
          |0=>simp at hp;subst hp;simp only[WM];simp;rw[t0];exact x7 f1 _
          |1=>simp at hp;subst hp;exact xV d1
          |q+2=>simp at hp
      · cases h
    · cases h
  |_=>rw[ho]at h;simp[jf]at h
end
abbrev AQ:=Exit->AS->Prop
def nY(nt:NT)(M:Mem)(N:Nm)(s:AS)(w:World)(Q:AQ):Exit->Act->World->Prop:=fun e y x=>
 ∃j u s',Ext M N (· <s.nx) s.h w j u (· <s'.nx) s'.h x∧Fits j u s' nt y x∧Q e s'
theorem nY.later{nt:NT}{M j:Mem}{N u:Nm}{s s':AS}{w y:World}{Q:AQ}{e:Exit}{a:Act}{A:World}
  (x:Ext M N (· <s.nx) s.h w j u (· <s'.nx) s'.h y) (h:nY nt j u s' y Q e a A):nY nt M N s w Q e a A:=by
 obtain⟨B,C,I,h1,D,G⟩:=h;exact⟨B,C,I,x.trans h1,D,G⟩
theorem nY.now{nt:NT}{M:Mem}{N:Nm}{s:AS}{w:World}{Q:AQ}{e:Exit}{a:Act}(hf:Fits M N s nt a w)(h:Q e s):nY nt M N s w Q e a w:=
 ⟨M,N,s,.refl _ _ _ _ _,hf,h⟩
def AW(P:Program)(nt:NT)(c:Code)(Q:AQ)(s:AS):Prop:= ∀M N a w,Fits M N s nt a w->c.wp P (nY nt M N s w Q) a w
def AL(P:Program)(nt:NT)(all rest:List Oper)(Q:AQ)(s:AS):Prop:= ∀M N a w,Fits M N s nt a w->wpList P all.toArray (nY nt M N s w Q) rest a w
def SL(P:Program)(nt:NT)(all rest:List Oper)(Q:AQ)(s:AS):Prop:= ∀M N a w,Fits M N s nt a w->
 wpStill P all.toArray w (fun j=> ∃s',s'.h=s.h∧s'.nx=s.nx∧Fits M N s' nt j w∧Q .normal s') rest a
def waits(o:Oper)(i:Nat):Bool:=o.after.toList.any fun e=>Region.binds .any e&&Xj e.on i
def looks(all:List Oper)(o x:Oper):Bool:=match x.dst with
 |some d=>(o.looksAt all.toArray).contains d
 |none=>kw
def ja:Nat->List Oper->Bool
 |_,[]=>jp
 |n,o::r=>(o.after.toList.all fun e=>!Region.binds .any e||Xm e.on n)&&ja (n+1) r
structure Bs where
 M:Mem
 N:Nm
 n:Nat
 h:AH
 w:World
def Bs.ext(B:Bs)(M:Mem)(N:Nm)(s:AS)(w:World):Prop:=Ext B.M B.N (· <B.n) B.h B.w M N (· <s.nx) s.h w
def Qs(nt:NT)(B:Bs)(Q:AQ):Exit->Act->World->Prop:=fun e y x=> ∃j u s',B.ext j u s' x∧Fits j u s' nt y x∧Q e s'
def aS(o:Oper):Bool:=match o.op with
 | .alloc _=>jp
 |_=>kw
def qm(P:Program)(M:Mem)(N:Nm)(s:AS)(B:Bs)(a:Act)(w:World)(o:Oper)(aA:Nat):Prop:=
 ∃t v d,o.op= .alloc t∧(∀w,(zeroValue t).run P w= .ok v w)∧o.dst=io d∧a.tmps[d]? =io (.pointer (io ⟨aA,0,is⟩))∧w.heap[aA]? =io (.cells v.cells t (0,0))∧M aA=is∧
  (∀i o,s.h.get i=io o->o.real=jp->N.aA i≠aA)∧B.w.heap.size<=aA
structure nP (P:Program) (nt:NT) (all:List Oper) (todo pend:List (Nat×Oper)) (B:Bs) (M:Mem) (N:Nm) (s:AS) (listed:Array Bool) (a:Act) (w:World):Prop where
 size:listed.size=all.length
 tl: ∀x∈todo,all[x.1]? =io x.2
 pl: ∀x∈pend,all[x.1]? =io x.2
 dj: ∀x∈pend,∀y∈todo,y.1≠x.1
 NW: ∀i o,all[i]? =io o->listed.getD i jp=kw->(i,o)∈todo∨(i,o)∈pend
 pw:pend.Pairwise fun x y=>looks all y.2 x.2=kw∧ ∀d,x.2.dst=io d->y.2.dst≠io d
 pp: ∀x∈pend,∀y∈pend,waits y.2 x.1=jp∨looks all y.2 x.2=kw
 pa: ∀y∈pend,∀x∈todo,aS x.2=jp->waits y.2 x.1=kw
 er: ∃bl:Nat->Nat,(∀x∈todo,listed.getD x.1 jp=jp->qm P M N s B a w x.2 (bl x.1))∧ ∀x∈todo,∀y∈todo,listed.getD x.1 jp=jp->listed.getD y.1 jp=jp->x.1≠y.1->bl x.1≠bl y.1
 ap: ∃b:Act,Fits M N s nt b w∧a.tmps.size=b.tmps.size∧a.defers=b.defers∧
  (∀d,(∀x∈pend,listed.getD x.1 jp=kw->x.2.dst≠io d)->(∀x∈todo,listed.getD x.1 jp=jp->x.2.dst≠io d)->a.tmps[d]? =b.tmps[d]?)∧
  (∀x∈pend,listed.getD x.1 jp=kw-> ∃v,YieldsAt P all.toArray w x.2 v b∧b.put x.2.dst v=b)
def jS(P:Program)(nt:NT)(all:List Oper):Prop:= ∀i o,all[i]? =io o->aS o=jp->
 o.guard=is∧(∃d,o.dst=io d∧d<nt)∧(∃t v,o.op= .alloc t∧ ∀w,(zeroValue t).run P w= .ok v w)∧(∀k,waits o k=kw)∧
 ∀k q,all[k]? =io q->k≠i->(waits q i=jp∨looks all q o=kw)∧ ∀d,o.dst=io d->q.dst≠io d
def DL(P:Program)(nt:NT)(all:List Oper)(todo pend:List (Nat×Oper))(Q:AQ)(s:AS):Prop:=
 Region.noSelect all.toArray=jp->ja 0 all=jp->jS P nt all-> ∀B M N listed a w j,B.ext M N s w->nP P nt all todo pend B M N s listed a w->listed.toList.count kw<=j->wpAny P .any all.toArray (Qs nt B Q) j listed a w
def putDst(nt:NT)(o:Oper)(p:PV)(s:AS):Option AS:=
 match o.dst with
 |none=>io s
 |some d=>bif Xm d nt then(match s with|⟨f,h,n⟩=>wi p fun j=>io ⟨(d,j)::f,h,n⟩) else is
theorem dL{nt:NT}{o:Oper}{p:PV}{s s':AS}(h:putDst nt o p s=io s')(hd:o.dst=is):s'=s:=by
 simp only[putDst,hd,WR]at h;exact h.symm
theorem dK{nt:NT}{o:Oper}{p:PV}{s s':AS}(h:putDst nt o p s=io s'){d:Nat}(hd:o.dst=io d):d<nt∧s'={s with f:=(d,p)::s.f}:=by
 simp only[putDst,hd]at h;cases hb:Xm d nt with
 |false=>simp[hb]at h
 |true=>
  obtain⟨f,hh,n⟩:=s;simp only[hb,cond_true,dG,WR]at h;exact⟨WL hb,h.symm⟩
def fb(P:Program)(nt:NT)(all:List Oper)(s:AS)(o:Oper):Prop:=
 ∀M N b w,Fits M N s nt b w-> ∃v,YieldsAt P all.toArray w o v b∧Fits M N s nt (b.put o.dst v) w
def a7(pend:List (Nat×Oper))(o:Oper):List (Nat×Oper):=pend.filter fun x=>!waits o x.1
def UA(P:Program)(nt:NT)(b:Code)(Q:AQ):Nat->AS->Prop
 |0,_=>False
 |n+1,s=>AW P nt b (fun e s'=>match e with| .normal=>UA P nt b Q n s'|e=>Q e s') s
inductive KI where
 |code (c:Code)
 |aA (id:Nat)
 |ops (all rest:List Oper)
 |lp (R:AS->Prop)
 |uk (all rest:List Oper)
 |bR (all:List Oper) (todo pend:List (Nat×Oper))
 |FO (b:Code) (n:Nat)
 |Hj
 |NL (nt:NT) (f:AF) (res:AS->Option PV) (o:Oper) (all rest:List Oper)
 |NN (nt:NT) (f:AF) (res:AS->Option PV) (j:Nat) (o:Oper) (all:List Oper) (todo pend:List (Nat×Oper))
def kp(P:Program):NT->List KI->AQ->AQ
 |_,[],Q=>Q
 |nt,.code c::k,Q=>fun e s=>match e with| .normal=>AW P nt c (kp P nt k Q) s|e=>kp P nt k Q e s
 |nt,.ops all rest::k,Q=>fun e s=>match e with| .normal=>AL P nt all rest (kp P nt k Q) s|e=>kp P nt k Q e s
 |nt,.uk all rest::k,Q=>fun e s=>match e with| .normal=>SL P nt all rest (kp P nt k Q) s|e=>kp P nt k Q e s
 |nt,.bR all todo pend::k,Q=>fun e s=>match e with| .normal=>DL P nt all todo pend (kp P nt k Q) s|e=>kp P nt k Q e s
 |nt,.lp R::k,Q=>fun e s=>match e with| .normal=>R s|e=>kp P nt k Q e s
 |nt,.aA id::k,Q=>fun e s=>match e with| .exit j=>if j=id then kp P nt k Q .normal s else kp P nt k Q (.exit j) s|e=>kp P nt k Q e s
 |nt,.FO b n::k,Q=>fun e s=>match e with| .normal=>UA P nt b (kp P nt k Q) n s|e=>kp P nt k Q e s
 |nt,.Hj::k,Q=>fun e s=>match e with| .goto _=>False|e=>kp P nt k Q e s
 |_,.NL nt f res o all rest::k,Q=>fun e s=>(e= .normal∨e= .ret)∧ ∃r s',res s=io r∧putDst nt o r ⟨f,s.h,s.nx⟩=io s'∧AL P nt all rest (kp P nt k Q) s'
 | _,.NN nt f res j o all todo pend::k,Q=>fun e s=>(e= .normal∨e= .ret)∧ ∃r s',res s=io r∧putDst nt o r ⟨f,s.h,s.nx⟩=io s'∧
   (∀x∈a7 pend o,fb P nt all s' x.2)∧DL P nt all (todo.filter fun x=>!Xj x.1 j) (a7 pend o) (kp P nt k Q) s'
def GO(P:Program)(nt:NT)(k:List KI)(Q:AQ)(s:AS):Prop:=kp P nt k Q .normal s
section
variable {P:Program} {nt:NT} {Q:AQ} {k:List KI} {s:AS}
theorem AW.then{c:Code}{R:AQ}(h:AW P nt c R s){M:Mem}{N:Nm}{a:Act}{w:World}(hf:Fits M N s nt a w){Z:Exit->Act->World->Prop}
  (A: ∀e y j u x s',Ext M N (· <s.nx) s.h w u x (· <s'.nx) s'.h j->Fits u x s' nt y j->R e s'->Z e y j):c.wp P Z a w:=
 wp_mono (h M N a w hf) fun e y j ⟨u,x,s',h1,h2,h3⟩=>A e y j u x s' h1 h2 h3
theorem go_skip(h:GO P nt k Q s):GO P nt (.code .skip::k) Q s:=fun _ _ _ _ hf=>wp_skip (.now hf h)
theorem Jr{l:Nat}(h:GO P nt k Q s):GO P nt (.code (.label l)::k) Q s:=fun _ _ _ _ hf=>wp_label (.now hf h)
theorem go_ret(h:kp P nt k Q .ret s):GO P nt (.code .ret::k) Q s:=fun _ _ _ _ hf=>wp_ret (.now hf h)
theorem NC{id:Nat}(h:kp P nt k Q (.exit id) s):GO P nt (.code (.exit id)::k) Q s:=fun _ _ _ _ hf=>wp_exit (.now hf h)
theorem Jo{c:Code}(h:GO P nt (.code c:: .Hj::k) Q s):GO P nt (.code (.scope c)::k) Q s:=by
 intro M N a w hf;refine wp_scope_straight (AW.then h hf fun e A B u x s' y j hr=>?_);cases e with
 |goto l=>exact hr
 |_=>exact⟨u,x,s',y,j,hr⟩
theorem Sz{id:Nat}(h:GO P nt k Q s):GO P nt (.aA id::k) Q s:=h
theorem Sw{x y:Code}(h:GO P nt (.code x:: .code y::k) Q s):GO P nt (.code (.seq x y)::k) Q s:=by
 intro M N a w hf;refine wp_seq (AW.then h hf fun e a' w' D I s' C j hr=>?_);cases e with
 |normal=>exact AW.then hr j fun e a2 w2 G J Y B u A=>⟨G,J,Y,C.trans B,u,A⟩
 |_=>exact⟨D,I,s',C,j,hr⟩
theorem Jx{id:Nat}{x:Code}(h:GO P nt (.code x:: .aA id::k) Q s):GO P nt (.code (.block id x)::k) Q s:=by
 intro M N a w hf;refine wp_block (AW.then h hf fun e D G y A s' C u hr=>?_);cases e with
 |exit j=>
  simp only[kp]at hr;simp only[Exit.inBlock];split
  .rename_i B;rw[am B]at hr;exact⟨y,A,s',C,u,hr⟩
  .rename_i B;rw[be B]at hr;exact⟨y,A,s',C,u,hr⟩
 |_=>exact⟨y,A,s',C,u,hr⟩
theorem go_region{id:Nat}{ops:Array Oper}(h:GO P nt (.ops ops.toList ops.toList::k) Q s):GO P nt (.code (.region id ops kw)::k) Q s:=by
 intro M N a w hf;refine wp_region_list ?_;have:=h M N a w hf;simpa using this
theorem DQ{all:List Oper}(h:GO P nt k Q s):GO P nt (.ops all []::k) Q s:=fun _ _ _ _ hf=>wpList_nil (nY.now hf h)
theorem Fits.bool{M:Mem}{N:Nm}{a:Act}{w:World}(hf:Fits M N s nt a w){c:Operand}{t:Bool}(hc:ev s.f c= .iv (.v (.bool t))):a.eval c= .bool t:=by
 have h:=aN hf.2.1 c;rw[hc]at h;generalize a.eval c=v at h;cases h with
 |iv _ _ h=>cases h with
  |v=>rfl
theorem Fits.put{M:Mem}{N:Nm}{a:Act}{w:World}(hf:Fits M N s nt a w)(d:Nat)(p:PV)(x:Value)(hd:d<nt)(hp:VR M N (· <s.nx) p x):Fits M N {s with f:=(d,p)::s.f} nt (a.put (io d) x) w:=
 ⟨hf.1,hf.2.1.put d p x (by rw[hf.2.2.2];exact hd) hp,hf.2.2.1,by simp[Act.put,hf.2.2.2]⟩
def setBool(s:AS)(c:Operand)(t:Bool):AS:=
 match c with
 | .tmp d=>match s with
  |⟨f,h,n⟩=>⟨(d,.kb t)::f,h,n⟩
 |_=>s
theorem Fits.setBool{M:Mem}{N:Nm}{a:Act}{w:World}(hf:Fits M N s nt a w){c:Operand}{t:Bool}(hc:ev s.f c= .iv (.v (.bool t))):Fits M N (setBool s c t) nt a w:=by
 cases c with
 |tmp d=>
  refine⟨hf.1,fun j=>?_,hf.2.2⟩;simp only[Al.setBool,AF.ax];split
  .rename_i u;subst u;have:=hf.bool (c:= .tmp j) hc;simp only[Act.eval]at this;rw[this];exact .kb _
  .exact hf.2.1 j
 |_=>exact hf
theorem we{c:Operand}{x y:Code}{t:Bool}(hc:ev s.f c= .kb t)(h:GO P nt (.code (bif t then x else y)::k) Q s):GO P nt (.code (.cond c x y)::k) Q s:=by
 intro M N a w hf;have hb:a.eval c= .bool t:=by
  have:=aN hf.2.1 c;rw[hc]at this;generalize a.eval c=v at this;cases this;rfl
 refine wp_cond hb ?_;cases t
 .exact h M N a w hf
 .exact h M N a w hf
theorem NG{c:Operand}{x y:Code}{t:Bool}(hc:ev s.f c= .iv (.v (.bool t)))(h1:t=jp->GO P nt (.code x::k) Q (setBool s c jp))(I:t=kw->GO P nt (.code y::k) Q (setBool s c kw)):
  GO P nt (.code (.cond c x y)::k) Q s:=by
 intro M N a w hf;have B:=hf.setBool hc;refine wp_cond_split (hf.bool hc) (fun ht=>?_) (fun ht=>?_)
 .subst ht;exact AW.then (h1 Z) B fun e a2 J C D G A j u=>⟨C,D,G,by cases c<;>exact A,j,u⟩
 .subst ht;exact AW.then (I Z) B fun e a2 J C D G A j u=>⟨C,D,G,by cases c<;>exact A,j,u⟩
theorem rV{Q j:Exit->Act->World->Prop}(u: ∀e a w,Q e a w->j e a w)(h:LetsOut Q):LetsOut j:=let ⟨a,w,x⟩:=h;⟨a,w,u _ _ _ x⟩
theorem BK{o:Oper}{a:Act}{w:World}{K K':Act->World->Prop}{Q y:Exit->Act->World->Prop}(h: ∀a w,K a w->K' a w)(u: ∀e a w,Q e a w->y e a w)(hh:o.wp P a w K Q):o.wp P a w K' y:=by
 unfold Oper.wp at*
 generalize(execOp a.eval o).run P w=r at*
 cases r with
 |ok n w'=>
  cases n<;>simp only[Oper.upon]at hh ⊢ <;>
   first
    |exact h _ _ hh
    |exact Calls.mono hh (fun e A j=>by cases e<;>first|exact h _ _ j|exact rV u j|exact u _ _ _ j)
    |exact Rows.mono hh (fun _ _ j=>h _ _ j)
 |halt x w'=>cases x<;>simp only[Oper.upon]at hh ⊢ <;>exact u _ _ _ hh
theorem fM{ops:Array Oper}{Q x:Exit->Act->World->Prop}(j: ∀e a w,Q e a w->x e a w): ∀(l:List Oper) (a:Act) (w:World),wpList P ops Q l a w->wpList P ops x l a w
 | [],_,_,h=>j _ _ _ h
 |o::r,a,w,h=>by
  unfold wpList at*
  split
  .rename_i u;rw[am u]at h;exact h.imp (BK (fM j r) j) (fun⟨h1,h2⟩=>⟨h1,rV j h2⟩)
  .rename_i u;rw[be u]at h;exact fM j r _ _ h
theorem AL.later{all rest:List Oper}(h:AL P nt all rest Q s){M j:Mem}{N u:Nm}{s0:AS}{a:Act}{w y:World}(x:Ext j u (· <s0.nx) s0.h y M N (· <s.nx) s.h w)(hf:Fits M N s nt a w):
  wpList P all.toArray (nY nt j u s0 y Q) rest a w:=
 fM (fun _ _ _=>nY.later x) rest a w (h M N a w hf)
def OT(P:Program)(nt:NT)(o:Oper)(s:AS)(R:AS->Prop):Prop:=
 ∀M N a w,Fits M N s nt a w-> ∀(K:Act->World->Prop) (Q:Exit->Act->World->Prop),
  (∀u x s' y j,Ext M N (· <s.nx) s.h w u x (· <s'.nx) s'.h j->Fits u x s' nt y j->R s'->K y j)->o.wp P a w K Q
theorem fN{o:Oper}(h:o.guard=is)(y:Nat->Option Bool):Region.wanted o y=jp:=by simp[Region.wanted,h]
theorem bB{all rest:List Oper}{o:Oper}{R:AS->Prop}(hg:o.guard=is)(ho:OT P nt o s R)(h: ∀s',R s'->GO P nt (.ops all rest::k) Q s'):GO P nt (.ops all (o::rest)::k) Q s:=by
 intro M N a w hf;unfold wpList;rw[am (fN hg _)];refine .inl (ho M N a w hf _ _ fun x y s' A B u j hr=>?_);exact AL.later (h s' hr) u j
def guardOf(all:List Oper)(f:AF)(j:Nat):Option (Nat×PV):=
 match all[j]? with
 |some o=>match o.dst with
  |some d=>io (d,f.get d)
  |none=>is
 |none=>is
theorem Fits.yielded{M:Mem}{N:Nm}{a:Act}{w:World}(hf:Fits M N s nt a w){all:List Oper}{j d:Nat}{t:Bool}(hg:guardOf all s.f j=io (d,.iv (.v (.bool t))))(hd:d<nt):Go.yielded all.toArray a.tmps j=io t:=by
 unfold guardOf at hg;cases ho:all[j]? with
 |none=>simp[ho]at hg
 |some o=>
  cases hod:o.dst with
  |none=>simp[ho,hod]at hg
  |some d'=>
   simp only[ho,hod,WR,W3]at hg;obtain⟨rfl,B⟩:=hg;have h1:=hf.2.1 d';rw[B]at h1;have u:d'<a.tmps.size:=by rw[hf.2.2.2];exact hd
   have x:a.tmps[d']? =io (a.tmps.getD d' undef):=by simp[WM,u]
   have y:a.tmps.getD d' undef= .bool t:=by
    generalize a.tmps.getD d' undef=v at h1;cases h1 with
    |iv _ _ h=>cases h with
     |v=>rfl
   have A:all.toArray[j]? =io o:=by simpa using ho
   simp[Go.yielded,A,hod,x,y]
def ig(o:Oper)(s:AS):AS:=
 match o.dst with
 |some e=>match s with
  |⟨f,h,n⟩=>⟨(e,.iv (.v (.tuple #[])))::f,h,n⟩
 |none=>s
theorem Fits.skip{M:Mem}{N:Nm}{a:Act}{w:World}(hf:Fits M N s nt a w)(o:Oper):Fits M N (ig o s) nt (a.put o.dst undef) w:=by
 unfold ig;cases o.dst with
 |none=>exact hf
 |some e=>
  refine⟨hf.1,fun i=>?_,hf.2.2.1,by simp[Act.put,hf.2.2.2]⟩;simp only[AF.ax];by_cases hi:i=e
  .rw[am hi];subst hi;have:(a.put (io i) undef).tmps.getD i undef=undef:=by
    simp only[Act.put,WM,Xr,if_true];split<;>rfl
   rw[this];exact .iv _ _ (.v _)
  .rw[be hi];have:=hf.2.1 i;simp only[Act.put,WM,Xr]at this ⊢;rw[be (fun e=>hi e.symm)];exact this
theorem jw(o:Oper)(s:AS):(ig o s).h=s.h∧(ig o s).nx=s.nx:=by unfold ig;cases o.dst<;>exact⟨rfl,rfl⟩
theorem j8(c:Operand)(t:Bool)(s:AS):(setBool s c t).h=s.h∧(setBool s c t).nx=s.nx:=by cases c<;>exact⟨rfl,rfl⟩
theorem AL.same{all rest:List Oper}{s':AS}(h:AL P nt all rest Q s')(e:s'.h=s.h∧s'.nx=s.nx){M:Mem}{N:Nm}{a:Act}{w:World}(hf:Fits M N s' nt a w):
  wpList P all.toArray (nY nt M N s w Q) rest a w:=by
 have:=h M N a w hf;refine fM (fun u j x ⟨M2,N2,s2,h1,h2,h3⟩=>⟨M2,N2,s2,?_,h2,h3⟩) rest a w this;rw[e.1,e.2]at h1;exact h1
theorem Fits.uY{M:Mem}{N:Nm}{a:Act}{w:World}(hf:Fits M N s nt a w){all:List Oper}{j d:Nat}{t:Bool}(hg:guardOf all s.f j=io (d,.kb t))(hd:d<nt):Go.yielded all.toArray a.tmps j=io t:=by
 unfold guardOf at hg;cases ho:all[j]? with
 |none=>simp[ho]at hg
 |some o=>
  cases hod:o.dst with
  |none=>simp[ho,hod]at hg
  |some d'=>
   simp only[ho,hod,WR,W3]at hg;obtain⟨rfl,B⟩:=hg;have h1:=hf.2.1 d';rw[B]at h1;have u:d'<a.tmps.size:=by rw[hf.2.2.2];exact hd
   have x:a.tmps[d']? =io (a.tmps.getD d' undef):=by simp[WM,u]
   have y:a.tmps.getD d' undef= .bool t:=by
    generalize a.tmps.getD d' undef=v at h1;cases h1;rfl
   have A:all.toArray[j]? =io o:=by simpa using ho
   simp[Go.yielded,A,hod,x,y]
theorem Fits.uX{M:Mem}{N:Nm}{a:Act}{w:World}(hf:Fits M N s nt a w){all:List Oper}{j d:Nat}{vs:Array Value}(hg:guardOf all s.f j=io (d,.iv (.v (.tuple vs)))):Go.yielded all.toArray a.tmps j=is:=by
 unfold guardOf at hg;cases ho:all[j]? with
 |none=>simp[ho]at hg
 |some o=>
  cases hod:o.dst with
  |none=>simp[ho,hod]at hg
  |some d'=>
   simp only[ho,hod,WR,W3]at hg;obtain⟨rfl,y⟩:=hg;have h1:=hf.2.1 d';rw[y]at h1;have u:a.tmps.getD d' undef= .tuple vs:=by
    generalize a.tmps.getD d' undef=v at h1;cases h1 with
    |iv _ _ h=>cases h with
     |v=>rfl
   have x:all.toArray[j]? =io o:=by simpa using ho
   rw[WM]at u;cases h5:a.tmps[d']? with
   |none=>simp[Go.yielded,x,hod,h5]
   |some v=>
    rw[h5]at u;simp only[XV]at u;subst u;simp[Go.yielded,x,hod,h5]
theorem Cc{all rest:List Oper}{o:Oper}{j d:Nat}{u:Bool}{vs:Array Value}(hg:o.guard=io (j,u))(A:guardOf all s.f j=io (d,.iv (.v (.tuple vs))))(h:GO P nt (.ops all rest::k) Q (ig o s)):GO P nt (.ops all (o::rest)::k) Q s:=by
 intro M N a w hf;have x:=hf.uX A;unfold wpList;have y:Region.wanted o (Go.yielded all.toArray a.tmps)=kw:=by simp[Region.wanted,hg,x]
 rw[y,be (by simp)];exact AL.same (s:=s) h (jw _ _) (hf.skip o)
theorem Cd{all rest:List Oper}{o:Oper}{j d:Nat}{u t:Bool}(hg:o.guard=io (j,u))(A:guardOf all s.f j=io (d,.kb t))(hd:d<nt)
  (h:GO P nt (.ops all (bif t==u then{o with guard:=is}::rest else rest)::k) Q (bif t==u then s else ig o s)):GO P nt (.ops all (o::rest)::k) Q s:=by
 intro M N a w hf;have x:=hf.uY A hd;unfold wpList;by_cases ht:t=u
 .have y:Region.wanted o (Go.yielded all.toArray a.tmps)=jp:=by simp[Region.wanted,hg,x,ht]
  have hb:(t==u)=jp:=by simp[ht]
  rw[am y];rw[hb]at h;have:=h M N a w hf;simp only[cond_true]at this;unfold wpList at this;rw[am (fN Z _)]at this;exact this
 .have y:Region.wanted o (Go.yielded all.toArray a.tmps)=kw:=by simp[Region.wanted,hg,x,ht]
  have hb:(t==u)=kw:=by simp[ht]
  rw[y,be (by simp)];rw[hb]at h;exact AL.same (s:=s) h (jw _ _) (hf.skip o)
theorem Js{all rest:List Oper}{o:Oper}{j d:Nat}{u t:Bool}(hg:o.guard=io (j,u))(y:guardOf all s.f j=io (d,.iv (.v (.bool t))))(hd:d<nt)
  (h1:t=u->GO P nt (.ops all ({o with guard:=is}::rest)::k) Q (setBool s (.tmp d) u)) (G:t=!u->GO P nt (.ops all rest::k) Q (ig o (setBool s (.tmp d) (!u)))):
  GO P nt (.ops all (o::rest)::k) Q s:=by
 intro M N a w hf;have B:=hf.yielded y hd;have C:ev s.f (.tmp d)= .iv (.v (.bool t)):=by
  unfold guardOf at y;cases ho:all[j]? with
  |none=>simp[ho]at y
  |some o'=>
   cases hod:o'.dst with
   |none=>simp[ho,hod]at y
   |some d'=>
    simp only[ho,hod,WR,W3]at y;obtain⟨rfl,I⟩:=y;exact I
 have x:=hf.setBool C;unfold wpList;by_cases ht:t=u
 .have D:Region.wanted o (Go.yielded all.toArray a.tmps)=jp:=by simp[Region.wanted,hg,B,ht]
  rw[am D];rw[ht]at x;have:=AL.same (s:=s) (h1 ht) (j8 _ _ _) x;unfold wpList at this;rw[am (fN Z _)]at this;exact this
 .have D:Region.wanted o (Go.yielded all.toArray a.tmps)=kw:=by simp[Region.wanted,hg,B,ht]
  have A:t=!u:=by cases t<;>cases u<;>simp_all
  rw[D,be (by simp)];rw[A]at x;exact AL.same (s:=s) (G A) ⟨(jw _ _).1.trans (j8 _ _ _).1,(jw _ _).2.trans (j8 _ _ _).2⟩ (x.skip o)
end
section
variable {P:Program} {nt:NT} {Q:AQ} {k:List KI} {s:AS}
theorem Rel.drew{M:Mem}{N:Nm}{U:Nat->Prop}{h:AH}{w:World}(hr:Rel M N U h w):Rel M N U h {w with drawn:=w.drawn+1}:=
 ⟨hr.dF,hr.used,hr.dM,fun i o hi=>(hr.obj i o hi).mono (.refl _) (.refl _ _) (fun _ h=>h) (hr.used i o hi) Z,hr.inj⟩
theorem Fits.drew{M:Mem}{N:Nm}{a:Act}{w:World}(hf:Fits M N s nt a w):Fits M N s nt a {w with drawn:=w.drawn+1}:=⟨hf.1.drew,hf.2⟩
theorem Ext.drew{M:Mem}{N:Nm}{U:Nat->Prop}{h:AH}{w:World}:Ext M N U h w M N U h {w with drawn:=w.drawn+1}:=
 ⟨rfl,rfl,⟨rfl,Yh _⟩,WY _,fun _ _ _=>rfl,.refl _,fun b c h1 u=>by simp[h1]at u,.refl _ _,fun _ h=>h,fun i o hi j=> .inr ⟨i,o,hi,j,rfl⟩⟩
end
section
variable {P:Program} {M:Mem} {N:Nm} {w:World} {n:Nat} {h:AH}
def Nm.with(N:Nm)(n b e:Nat):Nm:={aA:=fun i=>if i=n then b else N.aA i,ext:=fun i=>if i=n then e else N.ext i}
theorem Nm.dt(N:Nm)(n b e:Nat):N.agree (N.with n b e) (· <n):=
 ⟨fun i hi=>by simp[Nm.with,ZX hi],fun i hi=>by simp[Nm.with,ZX hi]⟩
@[simp] theorem Nm.Hr(N:Nm)(n b e:Nat):(N.with n b e).aA n=b:=by simp[Nm.with]
@[simp] theorem Nm.Te(N:Nm)(n b e:Nat):(N.with n b e).ext n=e:=by simp[Nm.with]
theorem Rel.lt(hr:Rel M N (· <n) h w){i:Nat}{o:AO}(hi:h.get i=io o)(j:o.real=jp):N.aA i<w.heap.size:=(hr.obj i o hi).lt j
theorem Rel.BN(hr:Rel M N (· <n) h w):M w.heap.size=is:=by
 cases hm:M w.heap.size with
 |none=>rfl
 |some c=>have:=(hr.dF _ _ hm).lt;omega
theorem Rel.alloc(hr:Rel M N (· <n) h w)(obj:Obj)(o:AO)(e:Nat)(ho: ∀B,B.aA n=w.heap.size->B.ext n=e->N.agree B (· <n)->OR M B (· <n+1) (w.alloc obj) n o):
  ∃B,B.aA n=w.heap.size∧B.ext n=e∧N.agree B (· <n)∧Ext M N (· <n) h w M B (· <n+1) ((n,io o)::h) (w.alloc obj)∧Rel M B (· <n+1) ((n,io o)::h) (w.alloc obj):=by
 have C:=N.dt n w.heap.size e;have u: ∀i p,AH.get ((n,io o)::h) i=io p->(i=n∧p=o)∨(i<n∧h.get i=io p):=by
  intro i p hi;rw[AH.ax]at hi;split at hi
  .rename_i D;exact .inl ⟨D,by simpa using hi.symm⟩
  .exact .inr ⟨hr.used i p hi,hi⟩
 refine⟨N.with n w.heap.size e,by simp,by simp,C,?_,?_⟩
 .refine⟨rfl,rfl,⟨rfl,WY _⟩,by simp,fun b hb _=>Aw w obj b hb,.refl _,fun b c h1 A=>by simp[h1]at A,C,fun i hi=>by omega,fun i p hi x=>?_⟩;rcases u i p hi with⟨rfl,rfl⟩|⟨h1,A⟩
  .exact .inl (by simp)
  .exact .inr ⟨i,p,A,x,(C.aA i h1).symm⟩
 .refine⟨fun b c hb=>?_,fun i p hi=>?_,fun i p hi x=>?_,fun i p hi=>?_,fun i j p q hi hj J Y y=>?_⟩
  .exact(hr.dF b c hb).mono (Aw w obj b (hr.dF b c hb).lt)
  .rcases u i p hi with⟨rfl,rfl⟩|⟨h1,A⟩<;>omega
  .rcases u i p hi with⟨rfl,rfl⟩|⟨h1,A⟩
   .simpa using hr.BN
   .rw[C.aA i h1];exact hr.dM i p A x
  .rcases u i p hi with⟨rfl,rfl⟩|⟨h1,A⟩
   .exact ho _ (by simp) (by simp) C
   .cases x:p.real with
    |true=>exact(hr.obj i p A).mono (.refl _) C (fun i hi=>by omega) h1 (Aw w obj _ (hr.lt A x))
    |false=>
     cases p with
     |row sz es=>cases es with
      |nil=>exact .inl Z
      |cons=>cases x
     |bw l T=>cases l with
      |nil=>exact .inl Z
      |cons=>cases x
     |_=>cases x
  .rcases u i p hi with⟨rfl,rfl⟩|⟨h1,A⟩<;>rcases u j q hj with⟨rfl,rfl⟩|⟨G,I⟩
   .rfl
   .rw[C.aA j G]at y;simp at y;have:=hr.lt I Y;omega
   .rw[C.aA i h1]at y;simp at y;have:=hr.lt A J;omega
   .rw[C.aA i h1,C.aA j G]at y;exact hr.inj i j p q A I J Y y
theorem Rel.CU(hr:Rel M N (· <n) h w)(sz:Nat):Ext M N (· <n) h w M N (· <n+1) ((n,io (.row sz []))::h) w∧Rel M N (· <n+1) ((n,io (.row sz []))::h) w:=by
 have u: ∀i p,AH.get ((n,io (.row sz []))::h) i=io p->(i=n∧p= .row sz [])∨(i<n∧h.get i=io p):=by
  intro i p hi;rw[AH.ax]at hi;split at hi
  .rename_i B;exact .inl ⟨B,by simpa using hi.symm⟩
  .exact .inr ⟨hr.used i p hi,hi⟩
 refine⟨⟨rfl,rfl,⟨rfl,WY _⟩,WY _,fun _ _ _=>rfl,.refl _,fun b c h1 y=>by simp[h1]at y,.refl _ _,fun i hi=>by omega,fun i p hi x=>?_⟩,⟨hr.dF,fun i p hi=>?_,fun i p hi x=>?_,fun i p hi=>?_,fun i j p q hi I C D A=>?_⟩⟩
 .rcases u i p hi with⟨rfl,rfl⟩|⟨h1,y⟩
  .cases x
  .exact .inr ⟨i,p,y,x,rfl⟩
 .rcases u i p hi with⟨rfl,rfl⟩|⟨h1,y⟩<;>omega
 .rcases u i p hi with⟨rfl,rfl⟩|⟨h1,y⟩
  .cases x
  .exact hr.dM i p y x
 .rcases u i p hi with⟨rfl,rfl⟩|⟨h1,y⟩
  .exact .inl Z
  .exact(hr.obj i p y).mono (.refl _) (.refl _ _) (fun i hi=>by omega) h1 Z
 .rcases u i p hi with⟨rfl,rfl⟩|⟨h1,y⟩<;>rcases u j q I with⟨rfl,rfl⟩|⟨J,G⟩
  .rfl
  .cases C
  .cases D
  .exact hr.inj i j p q y G C D A
theorem Rel.write(hr:Rel M N (· <n) h w){i:Nat}{o0:AO}(hi:h.get i=io o0)(h0:o0.real=jp)(B:World)(o:AO)(a0:B.os=w.os)(G:B.tape=w.tape)(I:B.output=w.output)(b0:B.heap.size=w.heap.size)
  (hk: ∀b,b≠N.aA i->B.heap[b]? =w.heap[b]?) (ho:OR M N (· <n) B i o) (hd:w.drawn<=B.drawn:=by first|exact WY _|exact Yh _):
  Ext M N (· <n) h w M N (· <n) ((i,io o)::h) B∧Rel M N (· <n) ((i,io o)::h) B:=by
 have u: ∀j p,AH.get ((i,io o)::h) j=io p->(j=i∧p=o)∨(j≠i∧h.get j=io p):=by
  intro j p A;rw[AH.ax]at A;split at A
  .rename_i C;exact .inl ⟨C,by simpa using A.symm⟩
  .rename_i C;exact .inr ⟨C,A⟩
 refine⟨⟨a0,G,⟨I,hd⟩,by omega,fun b hb hn=>hk b (fun e=>hn i o0 hi h0 e.symm),.refl _,fun b c h1 y=>by simp[h1]at y,.refl _ _,fun _ h=>h,fun j p A x=>?_⟩,?_⟩
 .rcases u j p A with⟨rfl,rfl⟩|⟨h1,y⟩
  .exact .inr ⟨j,o0,hi,h0,rfl⟩
  .exact .inr ⟨j,p,y,x,rfl⟩
 .refine⟨fun b c hb=>?_,fun j p A=>?_,fun j p A x=>?_,fun j p A=>?_,fun j k p q A J hp hq D=>?_⟩
  .have Y:b≠N.aA i:=fun e=>by
    have:=hr.dM i o0 hi h0;rw[<-e,hb]at this;simp at this
   exact(hr.dF b c hb).mono (hk b Y)
  .rcases u j p A with⟨rfl,rfl⟩|⟨h1,y⟩
   .exact hr.used j o0 hi
   .exact hr.used j p y
  .rcases u j p A with⟨rfl,rfl⟩|⟨h1,y⟩
   .exact hr.dM j o0 hi h0
   .exact hr.dM j p y x
  .rcases u j p A with⟨rfl,rfl⟩|⟨h1,y⟩
   .exact ho
   .cases x:p.real with
    |true=>exact(hr.obj j p y).mono (.refl _) (.refl _ _) (fun _ h=>h) (hr.used j p y) (hk _ (fun e=>h1 (hr.inj j i p o0 y hi x h0 e)))
    |false=>
     cases p with
     |row sz es=>cases es with
      |nil=>exact .inl Z
      |cons=>cases x
     |bw l T=>cases l with
      |nil=>exact .inl Z
      |cons=>cases x
     |_=>cases x
  .rcases u j p A with⟨rfl,rfl⟩|⟨h1,y⟩<;>rcases u k q J with⟨rfl,rfl⟩|⟨h3,h4⟩
   .rfl
   .exact hr.inj _ _ _ _ hi h4 h0 hq D
   .exact hr.inj _ _ _ _ y hi hp h0 D
   .exact hr.inj _ _ _ _ y h4 hp hq D
end
def CZ(ty:Ty)(s:AS)(t:TypeId)(p x:PV):Option AS:=
 match ty t with
 |some e=>match x.cells with
  |some xs=>match Xj xs.length e.size,dy xs with
   |true,jp=>match p with
    | .ptr i off=>match s.h.get i with
     |some (.cells cs T0)=>match YR (off+xs.length) cs.length with
      |true=>match s with
       |⟨f,h,n⟩=>force (setCells cs off xs) fun j=>io ⟨f,(i,io (.cells j T0))::h,n⟩
      |false=>is
     |_=>is
    |_=>is
   |_,_=>is
  |none=>is
 |none=>is
def newObj(s:AS)(o:AO):AS:=match s with|⟨f,h,n⟩=>⟨f,(n,io o)::h,n+1⟩
def nw(s:AS)(g:Nat->PV)(o:AO):Option (PV×AS):=match s with|⟨f,h,n⟩=>io (g n,⟨f,(n,io o)::h,n+1⟩)
theorem vI(s:AS)(g:Nat->PV)(o:AO):nw s g o=io (g s.nx,newObj s o):=by cases s;rfl
def zl:Nat->List PV->List PV
 |0,_=> []
 |n+1,l=>l++zl n l
theorem lr: ∀(n:Nat) (l:List PV),(zl n l).length=n*l.length
 |0,l=>by simp[zl]
 |n+1,l=>by simp[zl,lr n l,Yy,Nat.add_comm]
theorem Bk: ∀(n:Nat) (l:List PV) (j:Nat) (p:PV),(zl n l)[j]? =io p->l[j % l.length]? =io p
 |0,l,j,p,h=>by simp[zl]at h
 |n+1,l,j,p,h=>by
  simp only[zl]at h;rcases XO j l.length with hj|hj
  .rw[Xb hj]at h;rw[Y6 hj];exact h
  .rw[Xc hj]at h;have:=Bk n l _ p h;rwa[Nat.mod_eq_sub_mod hj]
def nK(sz:Nat):Nat->List PV->List (List PV)
 |0,_=> []
 |n+1,cs=>cs.take sz::nK sz n (cs.drop sz)
def Am{α:Type _}(sz:Nat):Nat->List PV->(List (List PV)->α)->α
 |0,_,k=>k []
 |n+1,cs,k=>force (cs.take sz) fun c=>force (cs.drop sz) fun d=>Am sz n d fun r=>k (c::r)
theorem yL{α:Type _}(sz:Nat): ∀(n:Nat) (cs:List PV) (k:List (List PV)->α),Am sz n cs k=k (nK sz n cs)
 |0,_,_=>rfl
 |n+1,cs,k=>by simp only[Am,force_eq,yL sz n,nK]
theorem ql(sz:Nat): ∀(n:Nat) (cs:List PV),(nK sz n cs).length=n
 |0,_=>rfl
 |n+1,cs=>by simp[nK,ql sz n]
theorem nJ(sz:Nat): ∀(n:Nat) (cs:List PV) (k:Nat) (e:List PV),cs.length=n*sz->(nK sz n cs)[k]? =io e->e.length=sz∧ ∀j,j<sz->e[j]? =cs[k*sz+j]?
 |0,cs,k,e,_,h=>by simp[nK]at h
 |n+1,cs,k,e,hl,h=>by
  simp only[nK]at h;rw[Yy]at hl;cases k with
  |zero=>
   simp at h;subst h;refine⟨by simp;omega,fun j u=>by simp[u]⟩
  |succ k=>
   obtain⟨h1,x⟩:=nJ sz n (cs.drop sz) k e (by simp;omega) (by simpa using h);refine⟨h1,fun j u=>?_⟩;rw[x j u,XK,Yy];congr 1;omega
def P2(ty:Ty)(e:bD):Bool:=
 match e.k with
 | .cx ((0,u)::_)=>match ty u with
  |some ⟨.cx ((0,q)::_),_,_,_,_⟩=>match ty q with
   |some ⟨.aP (.pointer v),_,_,_,_⟩=>Xj u v
   |_=>kw
  |_=>kw
 |_=>kw
def T4(ty:Ty)(t:TypeId):Bool:=
 match ty t with
 |some e=>P2 ty e
 |none=>kw
def IZ(ty:Ty)(s:AS):Op->Option (PV×AS)
 | .alloc t=>match ty t with
  |some e=>match P2 ty e with
   |true=>force (b6 e.zero) fun j=>nw s (fun n=> .ptr n 0) (.cells j (io t))
   |false=>force (b6 e.zero) fun j=>nw s (fun n=> .ptr n 0) (.cells j)
  |none=>is
 | .box t x=>match(ev s.f x).cells with
  |some j=>match dy j with
   |true=>match T4 ty t with
    |true=>force j fun y=>nw s (fun n=> .ptr n 0) (.cells y (io t))
    |false=>force j fun y=>nw s (fun n=> .ptr n 0) (.cells y)
   |false=>is
  |none=>is
 | .store t a x=>match CZ ty s t (ev s.f a) (ev s.f x) with
  |some s'=>io (.any,s')
  |none=>is
 | .makeMap _ is=>nw s (fun n=> .mp n) .ft
 | .makeMap t (io r)=>match ev s.f r,ty t with
  | .iv (.v (.int _ _)),io ⟨.aP (.map _ _),_,_,_,_⟩=>nw s (fun n=> .mp n) .ft
  |_,_=>is
 | .range t x=>match ev s.f x,ty t with
  | .iv (.eO kc e _ _ m),io ⟨.aP (.map _ _),_,_,_,_⟩=>nw s (fun n=> .ptr n 0) (.bX kc e m [] is)
  |_,_=>is
 | .buildSlice t len parts=>match ty t with
  |some e=>match e.k with
   | .aP (.slice u)=>match ty u with
    |some eu=>match Xj eu.zero.cells.size eu.size,Xm 0 (len*eu.size),YR (len*eu.size) 16777216 with
     |true,jp,jp=>match qj (fun i=>io (i*eu.size,eu.size)) (zl len (b6 eu.zero)) (parts.toList.map fun x=>(x.1,ev s.f x.2)) with
      |some j=>Am eu.size len j fun es=>nw s (fun n=> .sl n 0 len eu.size) (.row eu.size es)
      |none=>is
     |_,_,_=>is
    |none=>is
   |_=>is
  |none=>is
 |_=>is
section
variable {P:Program} {ty:Ty} {nt:NT} {s:AS}
theorem ei{M:Mem}{N:Nm}{a:Act}{w:World}(hf:Fits M N s nt a w){obj:Obj}{o:AO}{j:Nm}(u:Ext M N (· <s.nx) s.h w M j (· <s.nx+1) ((s.nx,io o)::s.h) (w.alloc obj))
  (hr:Rel M j (· <s.nx+1) ((s.nx,io o)::s.h) (w.alloc obj)):Fits M j (newObj s o) nt a (w.alloc obj):=
 ⟨hr,hf.2.1.ext u,hf.2.2⟩
theorem OT.value{o:Oper}{s1 s':AS}{p:PV}(hp:putDst nt o p s1=io s')
  (h: ∀M N a w,Fits M N s nt a w-> ∃x y j u,(execOp a.eval o).run P w= .ok (.value x) y∧Ext M N (· <s.nx) s.h w j u (· <s1.nx) s1.h y∧Fits j u s1 nt a y∧VR j u (· <s1.nx) p x):OT P nt o s (fun t=>t=s'):=by
 intro M N a w hf K Z hk;obtain⟨x,y,j,u,D,B,A,C⟩:=h M N a w hf;unfold Oper.wp;rw[D];simp only[Oper.upon];cases hd:o.dst with
 |none=>
  have:=dL hp hd;subst this;exact hk j u s' _ y B A rfl
 |some d=>
  obtain⟨h1,rfl⟩:=dK hp hd;exact hk j u {s1 with f:=(d,p)::s1.f} _ y B (A.put d p x h1 C) rfl
theorem OT.skip{o:Oper}{s1 s':AS}(hp:putDst nt o .any s1=io s')
  (h: ∀M N a w,Fits M N s nt a w-> ∃j u x,(execOp a.eval o).run P w= .ok .skip j∧Ext M N (· <s.nx) s.h w u x (· <s1.nx) s1.h j∧Fits u x s1 nt a j):OT P nt o s (fun t=>t=s'):=by
 intro M N a w hf K Z hk;obtain⟨j,u,x,B,A,y⟩:=h M N a w hf;unfold Oper.wp;rw[B];simp only[Oper.upon];cases hd:o.dst with
 |none=>
  have:=dL hp hd;subst this;exact hk u x s' _ j A y rfl
 |some d=>
  obtain⟨h1,rfl⟩:=dK hp hd;exact hk u x {s1 with f:=(d,.any)::s1.f} _ j A (y.put d .any undef h1 (.any _)) rfl
theorem FV(g0:bp P ty){t:TypeId}{p x:PV}{s1:AS}(h:CZ ty s t p x=io s1){M:Mem}{N:Nm}{a:Act}{w:World}(hf:Fits M N s nt a w){u y:Value}(hu:VR M N (· <s.nx) p u)(hy:VR M N (· <s.nx) x y):
  ∃w',(Instr.storeAt t u y).run P w= .ok () w'∧Ext M N (· <s.nx) s.h w M N (· <s1.nx) s1.h w'∧Fits M N s1 nt a w':=by
 unfold CZ at h;split at h
 .rename_i e he;split at h
  .rename_i C j0;split at h
   .rename_i h1 h2;split at h
    .rename_i i a0;split at h
     .rename_i cs T0 A;split at h
      .rename_i d0;obtain⟨sf,sh,sn⟩:=s;simp only[force_eq,WR]at h;subst h;simp only at A;cases hu with
       |ptr _ _ hU=>
        obtain⟨hl,hv⟩:=oV hy j0;have f0:y.cells.size=e.size:=by rw[<-hl];exact Xh h1
        obtain⟨c,T,g1,g2,g3,g4,g5⟩:=hf.1.obj i _ A;have e0:a0+C.length<=c.size:=by rw[<-g3];exact WL d0
        have J: ∀v∈y.cells.toList,v.oneCell'=jp:=by
         intro v i0;obtain⟨j,hj⟩:=XH i0;have D:j<y.cells.toList.length:=(WT.1 hj).1;have G:C[j]? =io (C[j]'(by simp at D;omega)):=WU _;have:=(hv j _ G).one (gE h2 j _ G);rw[WM]at this;have c0:y.cells[j]? =io v:=by simpa using hj
         rw[c0]at this;exact this
        have b0:=run_storeCells_at P (N.aA i) a0 T y.cells.toList 0 c w g1 (by simp;omega) J;refine⟨w.setRow (N.aA i) (c.toList.take (a0+0)++y.cells.toList++c.toList.drop (a0+0+y.cells.toList.length)).toArray,?_,?_⟩
        .have B:=aQ (w:=w) (g0 t e he);simp only[Instr.storeAt,Instr.sureAddr,pure_bind,storeVar,Sem.run_bind,B,Result.andThen_ok,f0,ne_eq,not_true_eq_false,if_false,b0]
        .have Y:=setRow_heap w (N.aA i) c (c.toList.take (a0+0)++y.cells.toList++c.toList.drop (a0+0+y.cells.toList.length)).toArray T (0,0) g1;have I: ∀b,b≠N.aA i->(w.setRow (N.aA i) (c.toList.take (a0+0)++y.cells.toList++c.toList.drop (a0+0+y.cells.toList.length)).toArray).heap[b]? =w.heap[b]? :=by
          intro b hb;simp only[World.setRow,Xp];rw[be (fun e=>hb e.symm)]
         have:=hf.1.write A Z (w.setRow (N.aA i) (c.toList.take (a0+0)++y.cells.toList++c.toList.drop (a0+0+y.cells.toList.length)).toArray) (.cells (setCells cs a0 C) T0) Z Z Z (by simp) I
          ⟨_,T,Y,by simp;omega,by rw[c8];simp;omega,fun j q hq=>?_,g5⟩
         .exact⟨this.1,this.2,hf.2.1,hf.2.2⟩
         .rcases iO cs a0 C j q hq with⟨k1,k2⟩|⟨k1,k2⟩
          .have:=hv _ _ k2;have D:j-a0<C.length:=(WT.1 k2).1;rw[WM]at this ⊢;have e1:(c.toList.take (a0+0)++y.cells.toList++c.toList.drop (a0+0+y.cells.toList.length)).toArray[j]? =y.cells[j-a0]? :=by
            simp only[XD];rw[Xb (by simp;omega),Xc (by simp;omega)];simp only[Xv,YW,Xo];congr 1;omega
           rw[e1];exact this
          .have:=g4 _ _ k2;rw[WM]at this ⊢;have e1:(c.toList.take (a0+0)++y.cells.toList++c.toList.drop (a0+0+y.cells.toList.length)).toArray[j]? =c[j]? :=by
            simp only[XD];rcases k1 with k1|k1
            .rw[W6,Xb (by simp;omega),Xy,am (by omega),Xo]
            .rw[Xc (by simp;omega),XK,Xo];congr 1;simp;omega
           rw[e1];exact this
      .cases h
     .cases h
    .cases h
   .cases h
  .cases h
 .cases h
theorem Dx(D:bp P ty){o:Oper}{p:PV}{s1 s':AS}(h:IZ ty s o.op=io (p,s1))(hp:putDst nt o p s1=io s'):OT P nt o s (fun t=>t=s'):=by
 cases ho:o.op with
 |alloc t=>
  rw[ho]at h;simp only[IZ,vI]at h;split at h
  .rename_i e he;obtain⟨J,f0,h⟩: ∃J,AU J t∧io (PV.ptr s.nx 0,newObj s (.cells (b6 e.zero) J))=io (p,s1):=by
    split at h
    .exact⟨io t,fun x I=>by cases I;rfl,by rw[<-h,force_eq]⟩
    .exact⟨is,.none _,by rw[<-h,force_eq]⟩
   simp only[WR,W3]at h;obtain⟨rfl,rfl⟩:=h;refine OT.value hp fun M N a w hf=>?_
   obtain⟨B,h1,h2,h3,C,G⟩:=hf.1.alloc (.cells e.zero.cells t) (.cells (b6 e.zero) J) e.zero.cells.size (fun B g1 g2 g3=>
    ⟨e.zero.cells,t,by rw[g1];exact heap_alloc_new w _,g2.symm,(fC (M:=M) (N:=B) (U:=(· <s.nx+1)) e.zero).1,(fC e.zero).2,f0⟩)
   refine⟨.pointer (io ⟨w.heap.size,0,is⟩),_,M,B,?_,C,ei hf C G,?_⟩
   .simp only[execOp,ho];have hz:=du (w:=w) (D t e he);simp[Instr.alloc,hz,newVar,newRow]
   .have:=VR.ptr (M:=M) (N:=B) (U:=(· <s.nx+1)) s.nx 0 (by omega);rw[h1]at this;exact this
  .cases h
 |box t x=>
  rw[ho]at h;simp only[IZ,vI]at h;split at h
  .rename_i cs c0;split at h
   .rename_i a1;obtain⟨J,f0,h⟩: ∃J,AU J t∧io (PV.ptr s.nx 0,newObj s (.cells cs J))=io (p,s1):=by
     split at h
     .exact⟨io t,fun x I=>by cases I;rfl,by rw[<-h,force_eq]⟩
     .exact⟨is,.none _,by rw[<-h,force_eq]⟩
    simp only[WR,W3]at h;obtain⟨rfl,rfl⟩:=h;refine OT.value hp fun M N a w hf=>?_;obtain⟨hl,hv⟩:=oV (aN hf.2.1 x) c0
    obtain⟨B,h1,h2,h3,C,G⟩:=hf.1.alloc (.cells (a.eval x).cells t) (.cells cs J) (a.eval x).cells.size (fun B g1 g2 g3=>
     ⟨(a.eval x).cells,t,by rw[g1];exact heap_alloc_new w _,g2.symm,hl,fun j q hq=>(hv j q hq).mono (.refl _) g3 (fun i hi=>by omega),f0⟩)
    refine⟨.pointer (io ⟨w.heap.size,0,is⟩),_,M,B,?_,C,ei hf C G,?_⟩
    .simp only[execOp,ho];simp[Instr.box,newVar,newRow]
    .have:=VR.ptr (M:=M) (N:=B) (U:=(· <s.nx+1)) s.nx 0 (by omega);rw[h1]at this;exact this
   .cases h
  .cases h
 |store t a x=>
  rw[ho]at h;simp only[IZ,vI]at h;split at h
  .rename_i s2 hs;simp only[WR,W3]at h;obtain⟨rfl,rfl⟩:=h;refine OT.skip hp fun M N b w hf=>?_;obtain⟨w',h1,h2,h3⟩:=FV (P:=P) D hs hf (aN hf.2.1 a) (aN hf.2.1 x);refine⟨w',M,N,?_,h2,h3⟩;simp only[execOp,ho];simp[h1]
  .cases h
 |makeMap t r=>
  rw[ho]at h;cases r with
  |some r=>
   simp only[IZ,vI]at h;split at h
   .rename_i q n _ _ _ _ _ _ hr he;have hu:=(D _ _ he).2.1.1;simp only[WR,W3]at h;obtain⟨rfl,rfl⟩:=h;refine OT.value hp fun M N a w hf=>?_
    obtain⟨B,h1,h2,h3,C,G⟩:=hf.1.alloc (.map #[] 0) .ft 0 (fun B g1 g2 g3=>
     (by rw[g1];exact heap_alloc_new w _:(w.alloc (.map #[] 0)).heap[B.aA s.nx]? =_))
    have g0:=aN hf.2.1 r;rw[hr]at g0;have b1:a.eval r= .int q n:=by
     generalize a.eval r=y at g0;cases g0 with
     |iv _ _ h=>cases h;rfl
    refine⟨.map (io w.heap.size),_,M,B,?_,C,ei hf C G,?_⟩
    .simp only[execOp,ho];simp[Instr.makeMap,b1,run_underlying hu,asInt,asIntOf]
    .have:=VR.mp (M:=M) (N:=B) (U:=(· <s.nx+1)) s.nx (by omega);rw[h1]at this;exact this
   .cases h
  |none=>
   simp only[IZ,vI,WR,W3]at h;obtain⟨rfl,rfl⟩:=h;refine OT.value hp fun M N a w hf=>?_
   obtain⟨B,h1,h2,h3,C,G⟩:=hf.1.alloc (.map #[] 0) .ft 0 (fun B g1 g2 g3=>
    (by rw[g1];exact heap_alloc_new w _:(w.alloc (.map #[] 0)).heap[B.aA s.nx]? =_))
   refine⟨.map (io w.heap.size),_,M,B,?_,C,ei hf C G,?_⟩
   .simp only[execOp,ho];simp[Instr.makeMap]
   .have:=VR.mp (M:=M) (N:=B) (U:=(· <s.nx+1)) s.nx (by omega);rw[h1]at this;exact this
 |range t x=>
  rw[ho]at h;simp only[IZ,vI]at h;split at h
  .rename_i V kc e z zv m kt et _ _ _ _ s0 he;have hu:=(D _ _ he).2.1.1;simp only[WR,W3]at h;obtain⟨rfl,rfl⟩:=h;refine OT.value hp fun M N a w hf=>?_;have I:=aN hf.2.1 x;rw[s0]at I;generalize hv:a.eval x=y at I
   cases I with
   |iv _ _ hi=>cases hi with
    |eO _ _ _ _ _ b ents clock hb hs hk hv' hz hi' hc=>
     obtain⟨B,h1,h2,h3,C,G⟩:=hf.1.alloc (.mapIter (io b) clock #[] clock) (.bX kc e m [] is) 0 (fun B g1 g2 g3=>
      .inr ⟨b,ents,clock, #[],by rw[g1];exact heap_alloc_new w _,hb,⟨hs,hk,hv',hi',hc⟩,rfl,by simp,XM,by simp⟩)
     have a0:w.heap[b]? =io (.map ents clock):=hf.1.dF _ _ hb;refine⟨.pointer (io ⟨w.heap.size,0,is⟩),_,M,B,?_,C,ei hf C G,?_⟩
     .simp only[execOp,ho,hv];simp[Instr.range,run_underlying hu,getObj,Sem.run,a0,Result.andThen]
     .have:=VR.ptr (M:=M) (N:=B) (U:=(· <s.nx+1)) s.nx 0 (by omega);rw[h1]at this;exact this
  .cases h
 |buildSlice t len parts=>
  rw[ho]at h;simp only[IZ,vI]at h;split at h
  .rename_i e he;split at h
   .rename_i u hk;split at h
    .rename_i A k0;split at h
     .rename_i p0 q0 r0;split at h
      .rename_i cs c0;rw[yL]at h;simp only[WR,W3]at h;obtain⟨rfl,rfl⟩:=h;have j0:A.zero.cells.size=A.size:=Xh p0;have n0:0<len*A.size:=WL q0;have i1:len*A.size<=16777216:=WL r0;have i0:0<A.size:=Nat.pos_of_ne_zero fun e=>by simp[e]at n0
       have w0:0<len:=Nat.pos_of_ne_zero fun e=>by simp[e]at n0
       have f1:len<=len*A.size:=Nat.le_mul_of_pos_right _ i0;have b0:=(D t e he).2.1;rw[hk]at b0;refine OT.value hp fun M N a w hf=>?_;have d0:(b6 A.zero).length=A.size:=by rw[(fC (M:=M) (N:=N) (U:=(· <s.nx)) A.zero).1,j0]
       obtain⟨e0,h3,C⟩:=sc (M:=M) (N:=N) (U:=(· <s.nx)) (AJ:=(parts.map fun x=>(x.1,a.eval x.2)).toList) (ys:=(ZP (len*A.size)).map (A.zero.cells[· % A.zero.cells.size]!)) c0 (by simp) (fun j x y I hy=>by
        rw[WX,WZ]at I;obtain⟨z,hz,rfl⟩:=I;have e1:parts[j]? =io z:=by simpa using hz
        have:io (z.1,a.eval z.2)=io y:=by rw[<-hy];simp[e1]
        simp only[WR]at this;subst this
        exact⟨rfl,aN hf.2.1 z.2⟩) (by
        refine⟨by rw[lr,d0];simp,fun j p hj=>?_⟩;have G:=Bk _ _ _ _ hj;have t0:j<len*A.size:=by
         have:=(WT.1 hj).1;rwa[lr,d0]at this
        rw[d0]at G;have h6:=(fC (M:=M) (N:=N) (U:=(· <s.nx)) A.zero).2 _ _ G;have h7:((ZP (len*A.size)).map (A.zero.cells[· % A.zero.cells.size]!)).getD j undef=A.zero.cells.getD (j % A.size) undef:=by
         have hm:j % A.size<A.zero.cells.size:=by rw[j0];exact Nat.mod_lt _ i0
         have I:(ZP (len*A.size))[j]? =io j:=by simp[t0]
         rw[WM,Zr,I];simp only[XW,XV,j0];rw[WM,getElem!_pos A.zero.cells (j % A.size) hm,Xx hm];rfl
        rw[h7];exact h6)
       have Y:cs.length=len*A.size:=by
        have:(zl len (b6 A.zero)).length=cs.length:=by
         have:=sd c0;exact this.symm
        rw[<-this,lr,d0]
       have m0:e0.size=len*A.size:=by rw[<-C.1,Y]
       obtain⟨B,h1,h2,h8,h9,o0⟩:=hf.1.alloc (.cells e0 u) (.row A.size (nK A.size len cs)) e0.size (fun B g1 g2 g3=>
        .inr ⟨i0,e0,u,by rw[g1];exact heap_alloc_new w _,g2.symm,by rw[ql,m0];exact WY _,fun k e hk=>(nJ _ _ _ _ _ Y hk).1,fun k e j p hk hj=>by
         have v0:j<A.size:=by rw[<-(nJ _ _ _ _ _ Y hk).1];exact(WT.1 hj).1
         have:=(nJ _ _ _ _ _ Y hk).2 j v0;rw[hj]at this
         exact(C.2 _ _ this.symm).mono (.refl _) g3 (fun i hi=>by omega)⟩)
       refine⟨.slice (io ⟨w.heap.size,0,is⟩) len len,_,M,B,?_,h9,ei hf h9 o0,?_⟩
       .simp only[execOp,ho];have hz:=du (w:=w) (D u A k0);have d1:=aQ (w:=w) (D u A k0);have x0: ¬len*A.size=0:=by omega
        have z0: ¬len*A.size>2 ^ 24:=by omega
        simp only[Instr.buildSlice,Sem.run_bind,run_underlying b0.1,Result.andThen_ok,d1,be z0,be x0,hz,Sem.run_pure];rw[h3];simp[newRow]
       .have:=VR.sl (M:=M) (N:=B) (U:=(· <s.nx+1)) s.nx 0 len A.size len (by omega) w0 (WY _) (by simp only[maxLen];omega) (by rw[h2,m0];simp);rw[h1,Yq]at this;exact this
      .cases h
     .cases h
    .cases h
   .cases h
  .cases h
 |_=>rw[ho]at h;simp[IZ]at h
end
mutual
def PV.b3(σ:Nat->Nat):PV->PV
 | .iv x=> .iv x
 | .agg cs=> .agg (dc σ cs)
 | .aY cs=> .aY (dc σ cs)
 | .ptr i off=> .ptr (σ i) off
 | .cR i sz k off=> .cR (σ i) sz k off
 | .eS z i=> .eS z (σ i)
 | .og i o n=> .og (σ i) o n
 | .sl i off len sz=> .sl (σ i) off len sz
 | .mp i=> .mp (σ i)
 | .cv fn first caps=> .cv fn (dc σ first) (dc σ caps)
 | .kb b=> .kb b
 | .any=> .any
def dc(σ:Nat->Nat):List PV->List PV
 | []=> []
 |p::r=>PV.b3 σ p::dc σ r
end
theorem bI(σ:Nat->Nat): ∀l:List PV,dc σ l=l.map (PV.b3 σ)
 | []=>rfl
 |p::r=>by simp[dc,bI σ r]
def AO.b3(σ:Nat->Nat):AO->AO
 | .cells cs T=> .cells (dc σ cs) T
 | .row sz es=> .row sz (es.map (dc σ))
 | .bw l T=> .bw l T
 | .ft=> .ft
 | .map kc ev z zv dv m=> .map kc ev z zv dv m
 | .bX kc ev m l cu=> .bX kc ev m l cu
 | .ey s p=> .ey s p
 | .ix kc e z zv dv m bs c=> .ix kc e z zv dv m bs c
 | .eB q c l=> .eB (q.b3 σ) c l
 | .oD l c f=> .oD l c (f.map fun x=>(x.1,x.2.b3 σ))
theorem vv(σ:Nat->Nat): ∀(f:AF) (d:Nat),AF.get (f.map fun x=>(x.1,x.2.b3 σ)) d=(AF.get f d).b3 σ
 | [],_=>rfl
 |(i,p)::r,d=>by
  rw[WW,AF.ax,AF.ax,vv σ r d];split<;>rfl
theorem AO.cj(σ:Nat->Nat)(o:AO):(o.b3 σ).real=o.real:=by
 cases o with
 |row sz es=>cases es<;>rfl
 |bw l T=>cases l<;>rfl
 |_=>rfl
def n3(σ:Nat->Nat):AH->AH
 | []=> []
 |(i,is)::r=>(σ i,is)::n3 σ r
 |(i,io o)::r=>(σ i,io (o.b3 σ))::n3 σ r
def Nm.comp(N:Nm)(σ:Nat->Nat):Nm:={aA:=fun i=>N.aA (σ i),ext:=fun i=>N.ext (σ i)}
section
variable {M:Mem} {N:Nm} {U:Nat->Prop} {σ:Nat->Nat}
theorem VR.b3{p:PV}{x:Value}(h:VR M (N.comp σ) (fun i=>U (σ i)) p x):VR M N U (p.b3 σ) x:=by
 induction h with
 |iv x y h=>exact .iv x y h
 |agg cs ys hl hr ih=>
  refine .agg _ _ (by simpa[bI]using hl) (fun j p u=>?_);rw[bI,WX,WZ]at u;obtain⟨q,A,rfl⟩:=u;exact ih j q A
 |aY cs ys hl hr ih=>
  refine .aY _ _ (by simpa[bI]using hl) (fun j p u=>?_);rw[bI,WX,WZ]at u;obtain⟨q,A,rfl⟩:=u;exact ih j q A
 |ptr i off h=>exact .ptr _ _ h
 |cR i sz k off h=>exact .cR _ _ _ _ h
 |eS z i h=>exact .eS _ _ h
 |og i o n h=>exact .og _ _ _ h
 |sl i off len sz cap h h0 hl hc he=>exact .sl _ _ _ _ _ h h0 hl hc he
 |lq i sz h=>exact .lq _ _ h
 |sle i sz cap h hc he=>exact .sle _ _ _ h hc he
 |mp i h=>exact .mp _ h
 |cv fn first caps f' c' h1 h2 hr1 hr2 ih1 ih2=>
  refine .cv _ _ _ _ _ (by simpa[bI]using h1) (by simpa[bI]using h2) (fun j p u=>?_) (fun j p u=>?_)
  .rw[bI,WX,WZ]at u;obtain⟨q,A,rfl⟩:=u;exact ih1 j q A
  .rw[bI,WX,WZ]at u;obtain⟨q,A,rfl⟩:=u;exact ih2 j q A
 |kb b=>exact .kb b
 |any x=>exact .any x
theorem VR.rr: ∀{q:PV} {x:Value},VR M N U q x-> ∀{p:PV},q=p.b3 σ->VR M (N.comp σ) (fun i=>U (σ i)) p x:=by
 intro q x h
 induction h with
 |iv x y h=>intro p u;cases p<;>simp[PV.b3]at u;subst u;exact .iv _ _ h
 |agg cs ys hl hr ih=>
  intro p u;cases p<;>simp[PV.b3]at u;subst u;refine .agg _ _ (by simpa[bI]using hl) (fun j p A=>ih j (p.b3 σ) (by rw[bI,WX,A];rfl) Z)
 |aY cs ys hl hr ih=>
  intro p u;cases p<;>simp[PV.b3]at u;subst u;refine .aY _ _ (by simpa[bI]using hl) (fun j p A=>ih j (p.b3 σ) (by rw[bI,WX,A];rfl) Z)
 |ptr i off h=>intro p u;cases p<;>simp[PV.b3]at u;obtain⟨rfl,rfl⟩:=u;exact VR.ptr (N:=N.comp σ) (U:=fun i=>U (σ i)) _ _ h
 |cR i sz k off h=>intro p u;cases p<;>simp[PV.b3]at u;obtain⟨rfl,rfl,rfl,rfl⟩:=u;exact VR.cR (N:=N.comp σ) (U:=fun i=>U (σ i)) _ _ _ _ h
 |eS z i h=>intro p u;cases p<;>simp[PV.b3]at u;obtain⟨rfl,rfl⟩:=u;exact VR.eS (N:=N.comp σ) (U:=fun i=>U (σ i)) _ _ h
 |og i o n h=>intro p u;cases p<;>simp[PV.b3]at u;obtain⟨rfl,rfl,rfl⟩:=u;exact VR.og (N:=N.comp σ) (U:=fun i=>U (σ i)) _ _ _ h
 |sl i off len sz cap h h0 hl hc he=>intro p u;cases p<;>simp[PV.b3]at u;obtain⟨rfl,rfl,rfl,rfl⟩:=u;exact VR.sl (N:=N.comp σ) (U:=fun i=>U (σ i)) _ _ _ _ _ h h0 hl hc he
 |lq i sz h=>intro p u;cases p<;>simp[PV.b3]at u;obtain⟨rfl,rfl,rfl,rfl⟩:=u;exact VR.lq (N:=N.comp σ) (U:=fun i=>U (σ i)) _ _ h
 |sle i sz cap h hc he=>intro p u;cases p<;>simp[PV.b3]at u;obtain⟨rfl,rfl,rfl,rfl⟩:=u;exact VR.sle (N:=N.comp σ) (U:=fun i=>U (σ i)) _ _ _ h hc he
 |mp i h=>intro p u;cases p<;>simp[PV.b3]at u;subst u;exact VR.mp (N:=N.comp σ) (U:=fun i=>U (σ i)) _ h
 |cv fn first caps f' c' h1 h2 hr1 hr2 ih1 ih2=>
  intro p u;cases p<;>simp[PV.b3]at u;obtain⟨rfl,rfl,rfl⟩:=u;refine .cv _ _ _ _ _ (by simpa[bI]using h1) (by simpa[bI]using h2) (fun j p A=>ih1 j (p.b3 σ) (by rw[bI,WX,A];rfl) Z) (fun j p A=>ih2 j (p.b3 σ) (by rw[bI,WX,A];rfl) Z)
 |kb b=>intro p u;cases p<;>simp[PV.b3]at u;subst u;exact .kb _
 |any x=>intro p u;cases p<;>simp[PV.b3]at u;exact .any _
theorem OR.b3{w:World}{i:Nat}{o:AO}(h:OR M (N.comp σ) (fun i=>U (σ i)) w i o):OR M N U w (σ i) (o.b3 σ):=by
 cases o with
 |cells cs T0=>
  obtain⟨c,T,h1,u,y,A,B⟩:=h;refine⟨c,T,h1,u,by simpa[bI]using y,fun j p D=>?_,B⟩;rw[bI,WX,WZ]at D;obtain⟨q,J,rfl⟩:=D;exact(A j q J).b3
 |row sz es=>
  rcases h with rfl|⟨I,c,T,h1,u,y,A,B⟩
  .exact .inl Z
  refine .inr ⟨I,c,T,h1,u,by simpa using y,fun k e C=>?_,fun k e j p C D=>?_⟩
  .rw[WX,WZ]at C;obtain⟨G,x,rfl⟩:=C;rw[bI,Xk];exact A k G x
  .rw[WX,WZ]at C;obtain⟨G,x,rfl⟩:=C;rw[bI,WX,WZ]at D;obtain⟨q,J,rfl⟩:=D;exact(B k G j q x J).b3
 |bw l T=>exact h
 |ft=>exact h
 |map kc ev z zv dv m=>exact h
 |bX kc ev m l cu=>exact h
 |ey s p=>exact h
 |ix kc ev z zv dv m bs c=>exact h
 |eB q c l=>obtain⟨b,h1,u⟩:=h;exact⟨b,h1.b3,u⟩
 |oD l c f=>
  obtain⟨I,r,h1,u,y,A,B,Y,h7,h8⟩:=h;exact⟨I,r,h1,u,y,A,B,Y,h7,fun d=>by rw[vv];exact(h8 d).b3⟩
theorem OR.rr{w:World}{i:Nat}{o:AO}(h:OR M N U w (σ i) (o.b3 σ)):OR M (N.comp σ) (fun i=>U (σ i)) w i o:=by
 cases o with
 |cells cs T0=>
  obtain⟨c,T,h1,u,x,y,A⟩:=h;exact⟨c,T,h1,u,by simpa[bI]using x,fun j p D=>(y j (p.b3 σ) (by rw[bI,WX,D];rfl)).rr Z,A⟩
 |row sz es=>
  rcases h with h|⟨B,c,T,h1,u,x,y,A⟩
  .exact .inl (by simpa using h)
  refine .inr ⟨B,c,T,h1,u,by simpa using x,fun k e C=>?_,fun k e j p C D=>?_⟩
  .have:=y k (dc σ e) (by rw[WX,C];rfl);simpa[bI]using this
  .exact(A k (dc σ e) j (p.b3 σ) (by rw[WX,C];rfl) (by rw[bI,WX,D];rfl)).rr Z
 |bw l T=>exact h
 |ft=>exact h
 |map kc ev z zv dv m=>exact h
 |bX kc ev m l cu=>exact h
 |ey s p=>exact h
 |ix kc ev z zv dv m bs c=>exact h
 |eB q c l=>obtain⟨b,h1,u⟩:=h;exact⟨b,h1.rr Z,u⟩
 |oD l c f=>
  obtain⟨B,r,h1,u,x,y,A,G,I,J⟩:=h;exact⟨B,r,h1,u,x,y,A,G,I,fun d=>(J d).rr (vv σ f d)⟩
end
def sig(L:List Nat)(n:Nat)(i:Nat):Nat:=bif Xm i L.length then L.getD i 0 else n+(i-L.length)
theorem jU{L:List Nat}{n i:Nat}(h:i<L.length):sig L n i=L[i]:=by
 have:Xm i L.length=jp:=XN h;simp[sig,this,h]
theorem qC{L:List Nat}{n i:Nat}(h:L.length<=i):sig L n i=n+(i-L.length):=by
 have:Xm i L.length=kw:=by
  cases hb:Xm i L.length with
  |false=>rfl
  |true=>have:=WL hb;omega
 simp[sig,this]
theorem vu{σ:Nat->Nat}: ∀(h:AH) (j:Nat) (o:AO),(n3 σ h).get j=io o->(∀i k,i∈h.map XY->σ i=σ k->i=k)-> ∃i p,j=σ i∧h.get i=io p∧o=p.b3 σ
 | [],j,o,hj,_=>by simp[n3,AH.get]at hj
 |(i,is)::r,j,o,hj,hi=>by
  simp only[n3]at hj;rw[AH.ax]at hj;split at hj
  .cases hj
  .rename_i u;obtain⟨k,p,h1,x,y⟩:=vu r j o hj (fun a b A=>hi a b (W5 _ A));refine⟨k,p,h1,?_,y⟩;rw[AH.ax,be (fun e=>u (by rw[h1,e]))];exact x
 |(i,io q)::r,j,o,hj,hi=>by
  simp only[n3]at hj;rw[AH.ax]at hj;split at hj
  .rename_i B;exact⟨i,q,B,by rw[AH.ax,am Z],by simpa using hj.symm⟩
  .rename_i u;obtain⟨k,p,h1,x,y⟩:=vu r j o hj (fun a b A=>hi a b (W5 _ A));refine⟨k,p,h1,?_,y⟩;rw[AH.ax,be (fun e=>u (by rw[h1,e]))];exact x
def cK:Nat->List AO->AH
 |_,[]=> []
 |n,o::r=>(n,io o)::cK (n+1) r
theorem tc: ∀(os:List AO) (n i:Nat),(cK n os).get i=if n<=i then os[i-n]? else is
 | [],n,i=>by simp[cK,AH.get]
 |o::r,n,i=>by
  simp only[cK];rw[AH.ax,tc r (n+1) i];by_cases h:i=n
  .subst h;simp
  .by_cases j:n<=i
   .rw[be h,am (by omega),am j,show i-n=(i-(n+1))+1 by omega];simp
   .rw[be h,be (by omega),be j]
def fz(P:Program)(k:FuncId):Prop:= ∀(args:Array Value) (w:World),(callFunc k args).run P w= .ok (.enter k args) w
theorem bc {P:Program} {k:FuncId} {fn:Func} {c:Code} (hf:P.funcs[k]? =io fn) (hb:fn.body=io c) (hn:(fn.name== "runtime.NumGoroutine")=kw):fz P k:=by
 intro args w;have j: ¬fn.name= "runtime.NumGoroutine" :=by simpa using hn
 simp[callFunc,program,Sem.run,hf,hb,j]
def Fn(P:Program)(k:FuncId)(args:List PV)(os:List AO)(R:PV->AH->Nat->Prop):Prop:=
 fz P k∧ ∀M N w (vs:List Value),Rel M N (· <os.length) (cK 0 os) w->args.length=vs.length->(∀(j:Nat) (p:PV),args[j]? =io p->VR M N (· <os.length) p (vs.getD j undef))->
  Calls P k vs.toArray w fun e C=> ∃x y A r B u,e= .returned x∧R r B u∧Ext M N (· <os.length) (cK 0 os) w y A (· <u) B C∧Rel y A (· <u) B C∧VR y A (· <u) r x
def Cs:List Nat->AH
 | []=> []
 |j::r=>(j,is)::Cs r
def AH.keys:AH->List Nat
 | []=> []
 |(i,_)::r=>i::AH.keys r
theorem AH.get_append: ∀(a b:AH) (j:Nat),AH.get (a++b) j=if j∈a.keys then a.get j else b.get j
 | [],b,j=>by simp[AH.keys]
 |(i,o)::r,b,j=>by
  rw[Xe,AH.ax,AH.ax,AH.get_append r b j];by_cases h:j=i
  .simp[h,AH.keys]
  .simp[h,AH.keys]
theorem yH: ∀L:List Nat,(Cs L).keys=L
 | []=>rfl
 |j::r=>by simp[Cs,AH.keys,yH r]
theorem Cr: ∀(L:List Nat) (j:Nat),(Cs L).get j=is
 | [],_=>rfl
 |i::r,j=>by rw[Cs,AH.ax,Cr r j];split<;>rfl
theorem Ep{L:List Nat}{n:Nat}(hnd:L.Nodup)(x: ∀j∈L,j<n): ∀i k,sig L n i=sig L n k->i=k:=by
 intro i k h;rcases XO i L.length with hi|hi<;>rcases XO k L.length with hk|hk
 .rw[jU hi,jU hk]at h;have y:=X9.1 hnd;rcases YZ i k with u|he|hgt
  .exact absurd h (y i k hi hk u)
  .exact he
  .exact absurd h.symm (y k i hk hi hgt)
 .rw[jU hi,qC hk]at h;have:=x _ (XF hi);omega
 .rw[qC hi,jU hk]at h;have:=x _ (XF hk);omega
 .rw[qC hi,qC hk]at h;omega
section
variable {P:Program} {nt:NT} {s:AS}
def aB(s:AS)(L:List Nat)(j:AH)(u:Nat):AS:={f:=s.f,h:=n3 (sig L s.nx) j++(Cs L++s.h),nx:=s.nx+(u-L.length)}
def Td(C:Array Value->World->(Ending->World->Prop)->Prop)(args:List PV)(os:List AO)(R:PV->AH->Nat->Prop):Prop:=
 ∀M N w (vs:List Value),Rel M N (· <os.length) (cK 0 os) w->args.length=vs.length->(∀(j:Nat) (p:PV),args[j]? =io p->VR M N (· <os.length) p (vs.getD j undef))->
  C vs.toArray w fun e D=> ∃x y A r B u,e= .returned x∧R r B u∧Ext M N (· <os.length) (cK 0 os) w y A (· <u) B D∧Rel y A (· <u) B D∧VR y A (· <u) r x
theorem Td.calls{C:Array Value->World->(Ending->World->Prop)->Prop}(hC: ∀vs w (R R':Ending->World->Prop),C vs w R->(∀e w',R e w'->R' e w')->C vs w R'){args:List PV}{os:List AO}{R:PV->AH->Nat->Prop}(hc:Td C args os R){L:List Nat}(hnd:L.Nodup)(hL: ∀j∈L,j<s.nx)
  (j0:L.map s.h.get=os.map fun o=>io (o.b3 (sig L s.nx))) {M:Mem} {N:Nm} {w:World} (hr:Rel M N (· <s.nx) s.h w) {vs:List Value} (hl:args.length=vs.length)
  (hv: ∀(j:Nat) (p:PV),args[j]? =io p->VR M N (· <s.nx) (p.b3 (sig L s.nx)) (vs.getD j undef)):
  C vs.toArray w fun e w'=> ∃x M' N' r h' n',e= .returned x∧R r h' n'∧Ext M N (· <s.nx) s.h w M' N' (· <(aB s L h' n').nx) (aB s L h' n').h w'∧
   Rel M' N' (· <(aB s L h' n').nx) (aB s L h' n').h w'∧VR M' N' (· <(aB s L h' n').nx) (r.b3 (sig L s.nx)) x:=by
 have c0:L.length=os.length:=by simpa using congrArg Y9 j0
 have hU:(fun i=>sig L s.nx i<s.nx)=(· <os.length):=by
  funext i
  apply propext;rcases XO i L.length with hi|hi
  .rw[jU hi];exact⟨fun _=>by omega,fun _=>hL _ (XF hi)⟩
  .rw[qC hi];omega
 have f0: ∀i (hi:i<L.length),s.h.get L[i]=(os[i]?).map (AO.b3 (sig L s.nx)):=by
  intro i hi;have:=congrArg (fun l=>l[i]?) j0;simp only[WX,WU hi,XW]at this;have J:os[i]? =io (os[i]'(by omega)):=WU (by omega);rw[J]at this ⊢;simpa using this
 have A: ∀i o,(cK 0 os).get i=io o->i<L.length∧s.h.get (sig L s.nx i)=io (o.b3 (sig L s.nx)):=by
  intro i o hi;rw[tc,am (W2 _),Zw]at hi;have d0:i<L.length:=by rw[c0];exact(WT.1 hi).1
  refine⟨d0,?_⟩;rw[jU d0,f0 i d0,hi];rfl
 have i0:Rel M (N.comp (sig L s.nx)) (· <os.length) (cK 0 os) w:=by
  refine⟨hr.dF,fun i o hi=>by rw[<-c0];exact(A i o hi).1,fun i o hi u=>hr.dM _ _ (A i o hi).2 ((AO.cj _ o).trans u),fun i o hi=>?_,fun i j o p hi B J hp D=>?_⟩
  .have:=OR.rr (hr.obj _ _ (A i o hi).2);rw[hU]at this;exact this
  .exact Ep hnd hL i j (hr.inj _ _ _ _ (A i o hi).2 (A j p B).2 ((AO.cj _ o).trans J) ((AO.cj _ p).trans hp) D)
 refine hC _ _ _ _ (hc M (N.comp (sig L s.nx)) w vs i0 hl (fun j p hp=>by have:=(hv j p hp).rr Z;rw[hU]at this;exact this)) ?_;rintro e w' ⟨x,M',N',r,h',n',rfl,hR,hx,hr',hvr⟩;have m0:os.length<=n':=Yz fun d0=>by have:=hx.ule n' d0;omega
 let N2:Nm:={aA:=fun j=>if j<s.nx then N.aA j else N'.aA (L.length+(j-s.nx)),ext:=fun j=>if j<s.nx then N.ext j else N'.ext (L.length+(j-s.nx))}
 have Y:N.agree N2 (· <s.nx):=⟨fun i hi=>by simp[N2,hi],fun i hi=>by simp[N2,hi]⟩
 have a0: ∀i,N2.aA (sig L s.nx i)=N'.aA i∧N2.ext (sig L s.nx i)=N'.ext i:=by
  intro i;rcases XO i L.length with hi|hi
  .have h1:sig L s.nx i<s.nx:=by rw[jU hi];exact hL _ (XF hi)
   have y:=hx.nm.aA i (by omega);have I:=hx.nm.ext i (by omega);simp only[Nm.comp]at y I;simp[N2,h1,y,I]
  .rw[qC hi];have h1: ¬s.nx+(i-L.length)<s.nx:=by omega
   have y:L.length+(s.nx+(i-L.length)-s.nx)=i:=by omega
   constructor<;>simp only[N2,be h1,y]
 have b0:N'.agree (N2.comp (sig L s.nx)) (· <n'):=⟨fun i _=>(a0 i).1,fun i _=>(a0 i).2⟩
 have e0: ∀i,i<n'->sig L s.nx i<s.nx+(n'-L.length):=by
  intro i hi;rcases XO i L.length with h1|h1
  .rw[jU h1];have:=hL _ (XF h1);omega
  .rw[qC h1];omega
 have G: ∀j o,(aB s L h' n').h.get j=io o->(∃i p,j=sig L s.nx i∧h'.get i=io p∧o=p.b3 (sig L s.nx))∨(j∉L∧s.h.get j=io o):=by
  intro j o B;simp only[aB]at B;rw[AH.get_append]at B;split at B
  .exact .inl (vu h' j o B (fun i k _ h=>Ep hnd hL i k h))
  .rw[AH.get_append]at B;split at B
   .rw[Cr]at B;cases B
   .rename_i hd;rw[yH]at hd;exact .inr ⟨hd,B⟩
 have g0: ∀j o,j∉L->s.h.get j=io o->o.real=jp->w'.heap[N.aA j]? =w.heap[N.aA j]? :=by
  intro j o B J u;refine hx.gK _ (hr.lt J u) (fun i p hi hp he=>?_);obtain⟨h1,y⟩:=A i p hi;have:=hr.inj _ _ _ _ y J ((AO.cj _ p).trans hp) u he;rw[jU h1]at this;exact B (this▸XF h1)
 refine⟨x,M',N2,r,h',n',rfl,hR,?_,?_,?_⟩
 .refine⟨hx.os,hx.tape,hx.output,hx.size,fun b hb k0=>hx.gK b hb (fun i o hi J he=>k0 _ _ (A i o hi).2 ((AO.cj _ o).trans J) he),hx.oC,fun b c h1 y=>?_,Y,fun i hi=>by simp only[aB];omega,fun j o B u=>?_⟩
  .rcases hx.iK b c h1 y with I|⟨i,o,I,J,h4⟩
   .exact .inl I
   .exact .inr ⟨_,_,(A i o I).2,(AO.cj _ o).trans J,h4⟩
  .rcases G j o B with⟨i,p,rfl,h1,rfl⟩|⟨h1,y⟩
   .rw[AO.cj]at u;rw[(a0 i).1];rcases hx.gx i p h1 u with I|⟨k,q,I,hq,h4⟩
    .exact .inl I
    .exact .inr ⟨_,_,(A k q I).2,(AO.cj _ q).trans hq,h4⟩
   .exact .inr ⟨j,o,y,u,(Y.aA j (hr.used j o y)).symm⟩
 .refine⟨hr'.dF,fun j o B=>?_,fun j o B u=>?_,fun j o B=>?_,fun i j o p hi B J hp D=>?_⟩
  .rcases G j o B with⟨i,p,rfl,h1,rfl⟩|⟨h1,y⟩
   .exact e0 i (hr'.used i p h1)
   .have:=hr.used j o y;simp only[aB];omega
  .rcases G j o B with⟨i,p,rfl,h1,rfl⟩|⟨h1,y⟩
   .rw[AO.cj]at u;rw[(a0 i).1];exact hr'.dM i p h1 u
   .rw[Y.aA j (hr.used j o y)];cases hm:M' (N.aA j) with
    |none=>rfl
    |some c=>
     rcases hx.iK _ c (hr.dM j o y u) hm with I|⟨i,q,I,hq,h4⟩
     .have:=hr.lt y u;omega
     .obtain⟨h5,h6⟩:=A i q I;have:=hr.inj _ _ _ _ h6 y ((AO.cj _ q).trans hq) u h4;rw[jU h5]at this;exact absurd (this▸XF h5) h1
  .rcases G j o B with⟨i,p,rfl,h1,rfl⟩|⟨h1,y⟩
   .refine OR.b3 ?_;exact(hr'.obj i p h1).mono (.refl _) b0 (fun i hi=>e0 i hi) (hr'.used i p h1) Z
   .cases u:o.real with
    |true=>exact(hr.obj j o y).mono hx.oC Y (fun i hi=>by simp only[aB];omega) (hr.used j o y) (g0 j o h1 y u)
    |false=>
     cases o with
     |row sz es=>cases es with
      |nil=>exact .inl Z
      |cons=>cases u
     |bw l T=>cases l with
      |nil=>exact .inl Z
      |cons=>cases u
     |_=>cases u
  .rcases G i o hi with⟨i',o',rfl,h1,rfl⟩|⟨h1,y⟩<;>rcases G j p B with⟨j',p',rfl,I,rfl⟩|⟨I,h4⟩
   .rw[AO.cj]at J hp;rw[(a0 i').1,(a0 j').1]at D;rw[hr'.inj i' j' o' p' h1 I J hp D]
   .rw[AO.cj]at J;rw[(a0 i').1,Y.aA j (hr.used j p h4)]at D;rcases hx.gx i' o' h1 J with h5|⟨k,q,h5,hq,h6⟩
    .have:=hr.lt h4 hp;omega
    .obtain⟨h7,h8⟩:=A k q h5;have:=hr.inj _ _ _ _ h8 h4 ((AO.cj _ q).trans hq) hp (h6.trans D);rw[jU h7]at this;exact absurd (this▸XF h7) I
   .rw[AO.cj]at hp;rw[Y.aA i (hr.used i o y),(a0 j').1]at D;rcases hx.gx j' p' I hp with h5|⟨k,q,h5,hq,h6⟩
    .have:=hr.lt y J;omega
    .obtain⟨h7,h8⟩:=A k q h5;have:=hr.inj _ _ _ _ h8 y ((AO.cj _ q).trans hq) J (h6.trans D.symm);rw[jU h7]at this;exact absurd (this▸XF h7) h1
   .rw[Y.aA i (hr.used i o y),Y.aA j (hr.used j p h4)]at D;exact hr.inj _ _ _ _ y h4 J hp D
 .exact VR.b3 (hvr.mono (.refl _) b0 (fun i hi=>e0 i hi))
theorem Fn.calls{k:FuncId}{args:List PV}{os:List AO}{R:PV->AH->Nat->Prop}(hc:Fn P k args os R){L:List Nat}(hnd:L.Nodup)(I: ∀j∈L,j<s.nx)
  (D:L.map s.h.get=os.map fun o=>io (o.b3 (sig L s.nx))) {M:Mem} {N:Nm} {w:World} (hr:Rel M N (· <s.nx) s.h w) {vs:List Value} (hl:args.length=vs.length)
  (J: ∀(j:Nat) (p:PV),args[j]? =io p->VR M N (· <s.nx) (p.b3 (sig L s.nx)) (vs.getD j undef)):
  Calls P k vs.toArray w fun e G=> ∃x A B r u y,e= .returned x∧R r u y∧Ext M N (· <s.nx) s.h w A B (· <(aB s L u y).nx) (aB s L u y).h G∧
   Rel A B (· <(aB s L u y).nx) (aB s L u y).h G∧VR A B (· <(aB s L u y).nx) (r.b3 (sig L s.nx)) x:=
 Td.calls (C:=Calls P k) (fun _ _ _ _ h g=>h.mono g) hc.2 hnd I D hr hl J
def PV.plain:PV->PV
 | .kb b=> .iv (.v (.bool b))
 |p=>p
theorem VR.plain{M:Mem}{N:Nm}{U:Nat->Prop}{p:PV}{x:Value}(h:VR M N U p x):VR M N U p.plain x:=by
 cases h with
 |kb=>exact .iv _ _ (.v _)
 |iv _ _ h1=>exact .iv _ _ h1
 |agg _ _ h1 h2=>exact .agg _ _ h1 h2
 |aY _ _ h1 h2=>exact .aY _ _ h1 h2
 |ptr _ _ h1=>exact .ptr _ _ h1
 |cR _ _ _ _ h1=>exact .cR _ _ _ _ h1
 |eS _ _ h1=>exact .eS _ _ h1
 |og _ _ _ h1=>exact .og _ _ _ h1
 |sl _ _ _ _ _ h1 h2 h3 h4 h5=>exact .sl _ _ _ _ _ h1 h2 h3 h4 h5
 |lq _ _ h1=>exact .lq _ _ h1
 |sle _ _ _ h1 h2 h3=>exact .sle _ _ _ h1 h2 h3
 |mp _ h1=>exact .mp _ h1
 |cv _ _ _ _ _ h1 h2 h3 h4=>exact .cv _ _ _ _ _ h1 h2 h3 h4
 |any=>exact .any _
def bN(f:AF)(c:Call):Option (FuncId×List PV):=
 match c.callee with
 | .value g=>match ev f g with
  | .cv (.func k) first caps=>io (k,first++(c.args.toList.map (fun x=>(ev f x).plain)++caps))
  |_=>is
 |_=>is
theorem wv{M:Mem}{N:Nm}{a:Act}{w:World}(hf:Fits M N s nt a w){o:Oper}{c:Call}(ho:o.op= .call c){k:FuncId}{asv:List PV}(ha:bN s.f c=io (k,asv))(hc:fz P k):
  ∃vs:List Value,(execOp a.eval o).run P w= .ok (.enter k vs.toArray) w∧asv.length=vs.length∧ ∀(j:Nat) (p:PV),asv[j]? =io p->VR M N (· <s.nx) p (vs.getD j undef):=by
 unfold bN at ha;obtain⟨callee,u,B⟩:=c;cases callee with
 |value g=>
  simp only at ha;have C:=aN hf.2.1 g;split at ha
  .rename_i k' first caps hev;simp only[WR,W3]at ha;obtain⟨rfl,rfl⟩:=ha;rw[hev]at C;generalize Y:a.eval g=v at C;cases C with
   |cv _ _ _ f' c' h1 h2 hr1 hr2=>
    have I:(u.toList.map (fun x=>(ev s.f x).plain)).length=(u.map a.eval).size∧ ∀j p,(u.toList.map (fun x=>(ev s.f x).plain))[j]? =io p->VR M N (· <s.nx) p ((u.map a.eval).getD j undef):=by
     refine⟨by simp,fun j p y=>?_⟩;rw[WX,WZ]at y;obtain⟨x,hx,rfl⟩:=y;have G:u[j]? =io x:=by simpa using hx
     rw[WM,Zr,G];exact(aN hf.2.1 x).plain
    have A:(execOp a.eval o).run P w= .ok (.enter k' (f'++u.map a.eval++c')) w:=by
     simp only[execOp,ho,resolve,Y,Deferred.ofValue,pure_bind,invoke];exact hc _ w
    have D: ∀(j:Nat) (p:PV),(first++(u.toList.map (fun x=>(ev s.f x).plain)++caps))[j]? =io p->VR M N (· <s.nx) p ((f'++u.map a.eval++c').toList.getD j undef):=by
     intro j p y;have J:(u.toList.map (fun x=>(ev s.f x).plain)).length=(u.map a.eval).size:=I.1;rw[WQ,aab,aab,W6];rcases XO j first.length with hj|hj
     .rw[Xb hj]at y;rw[Xb (by simpa[<-h1]using hj)];have:=hr1 j p y;rw[WM]at this;simpa using this
     .rw[Xc hj]at y;rw[Xc (by simpa[<-h1]using hj)];rcases XO (j-first.length) (u.toList.map (fun x=>(ev s.f x).plain)).length with hj2|hj2
      .rw[Xb hj2]at y;rw[Xb (by simp[<-h1]at hj2 ⊢;omega)];have:=I.2 _ p y;rw[WM]at this;simpa[<-h1]using this
      .rw[Xc hj2]at y;rw[Xc (by simp[<-h1]at hj2 ⊢;omega)];have:=hr2 _ p y;rw[WM]at this;simpa[<-h1]using this
    refine⟨(f'++u.map a.eval++c').toList,by rw[Yv];exact A,?_,D⟩;simp[<-h1,<-h2]
  .cases ha
 |_=>simp at ha
theorem lJ{o:Oper}{c:Call}(ho:o.op= .call c){k:FuncId}{asv:List PV}(ha:bN s.f c=io (k,asv)){args:List PV}{os:List AO}{R:PV->AH->Nat->Prop}(hc:Fn P k args os R)
  {L:List Nat} (hnd:L.Nodup) (hL: ∀j∈L,j<s.nx) (J:L.map s.h.get=os.map fun o=>io (o.b3 (sig L s.nx))) (u:asv=dc (sig L s.nx) args) {S:AS->Prop}
  (hS: ∀r y A,R r y A-> ∃s',putDst nt o (r.b3 (sig L s.nx)) (aB s L y A)=io s'∧S s'):OT P nt o s S:=by
 intro M N a w hf K Z hk;obtain⟨vs,h1,Y,h3⟩:=wv hf ho ha hc.1;have C:args.length=vs.length:=by rw[<-Y,u,bI,Xk]
 unfold Oper.wp;rw[h1];simp only[Oper.upon];refine(hc.calls hnd hL J hf.1 C (fun j p G=>h3 j (p.b3 (sig L s.nx)) (by rw[u,bI,WX,G];rfl))).mono ?_;rintro e I ⟨x,M',N',r,y,A,rfl,hR,hx,hr,hvr⟩;obtain⟨s',G,D⟩:=hS r y A hR;have B:Fits M' N' (aB s L y A) nt a I:=⟨hr,hf.2.1.ext hx,hf.2.2⟩
 show K (a.put o.dst x) I;cases hd:o.dst with
 |none=>
  have:=dL G hd;subst this;exact hk M' N' _ _ I hx B D
 |some d=>
  obtain⟨h1,rfl⟩:=dK G hd;exact hk M' N' {aB s L y A with f:=(d,r.b3 (sig L s.nx))::(aB s L y A).f} _ I hx (B.put d _ x h1 hvr) D
def mN:Nat->List PV->AF
 |_,[]=> []
 |n,p::r=>(n,p)::mN (n+1) r
theorem wR: ∀(l:List PV) (n i:Nat),(mN n l).get i=if n<=i then l.getD (i-n) .any else .any
 | [],n,i=>by simp[mN,AF.get]
 |p::r,n,i=>by
  simp only[mN];rw[AF.ax,wR r (n+1) i];by_cases h:i=n
  .subst h;simp
  .by_cases j:n<=i
   .rw[be h,am (by omega),am j,show i-n=(i-(n+1))+1 by omega];simp
   .rw[be h,be (by omega),be j]
def zk(ty:Ty)(s:AS):ResultVar->Option PV
 | .tmp t=>match s.f.get t with
  | .kb b=>io (.iv (.v (.bool b)))
  |p=>io p
 | .cell a t=>match ty t with
  |some e=>match behind s.h (s.f.get a) with
   |some cs=>il e cs
   |none=>is
  |none=>is
def sS(ty:Ty)(s:AS):List ResultVar->Option (List PV)
 | []=>io []
 |v::r=>match zk ty s v with
  |some p=>match sS ty s r with
   |some l=>io (p::l)
   |none=>is
  |none=>is
def je(ty:Ty)(s:AS)(l:List ResultVar):Option PV:=
 match sS ty s l with
 |some [p]=>io p
 |some l=>io (.aY l)
 |none=>is
def qF(tmps:Array Value):ResultVar->Sem Value
 | .tmp t=>pure (tmps.getD t undef)
 | .cell a t=>do loadVar t (<-asAddr (tmps.getD a undef))
theorem Gg{ty:Ty}(A:bp P ty){M:Mem}{N:Nm}{a:Act}{w:World}(hf:Fits M N s nt a w){v:ResultVar}{p:PV}(h:zk ty s v=io p):
  ∃x,(qF a.tmps v).run P w= .ok x w∧VR M N (· <s.nx) p x:=by
 cases v with
 |tmp t=>
  simp only[zk]at h;have:=hf.2.1 t;split at h
  .rename_i b hb;simp only[WR]at h;subst h;rw[hb]at this;refine⟨_,rfl,?_⟩;show VR M N _ _ (a.tmps.getD t undef);generalize a.tmps.getD t undef=v at this;cases this;exact .iv _ _ (.v _)
  .simp only[WR]at h;subst h;exact⟨_,rfl,this⟩
 |cell b t=>
  simp only[zk]at h;split at h
  .rename_i e B;split at h
   .rename_i J u;obtain⟨I,a0,D,j⟩:=yR hf.1 (hf.2.1 b) u;obtain⟨y,G,C⟩:=tG (P:=P) (A t e B) j h;refine⟨y,?_,C⟩;simp only[qF,D,asAddr,pure_bind];exact G
   .cases h
  .cases h
theorem xT{ty:Ty}(y:bp P ty){M:Mem}{N:Nm}{a:Act}{w:World}(hf:Fits M N s nt a w): ∀{l:List ResultVar} {A:List PV},sS ty s l=io A->
  ∃B:List Value,(l.mapM (qF a.tmps)).run P w= .ok B w∧A.length=B.length∧ ∀(j:Nat) (p:PV),A[j]? =io p->VR M N (· <s.nx) p (B.getD j undef)
 | [],A,h=>by
  simp only[sS,WR]at h;subst h;exact⟨[],rfl,rfl,by simp⟩
 |v::r,A,h=>by
  simp only[sS]at h;split at h
  .rename_i p I;split at h
   .rename_i l hl;simp only[WR]at h;subst h;obtain⟨x,Y,J⟩:=Gg y hf I;obtain⟨B,G,u,D⟩:=xT y hf hl;refine⟨x::B,?_,by simp[u],fun j q C=>?_⟩
    .rw[List.mapM_cons,Sem.run_bind,Y,Result.andThen_ok,Sem.run_bind,G];rfl
    .cases j with
     |zero=>simp at C;subst C;exact J
     |succ j=>simpa using D j q (by simpa using C)
   .cases h
  .cases h
theorem uB{ty:Ty}(I:bp P ty){M:Mem}{N:Nm}{a:Act}{w:World}(hf:Fits M N s nt a w){fn:Func}{l:List ResultVar}(hl:fn.results.toList=l){p:PV}(h:je ty s l=io p):
  ∃x,(results fn a.tmps).run P w= .ok x w∧VR M N (· <s.nx) p x:=by
 unfold je at h;have key: ∀D,sS ty s l=io D-> ∃y:List Value,(fn.results.mapM (qF a.tmps)).run P w= .ok y.toArray w∧D.length=y.length∧ ∀(j:Nat) (p:PV),D[j]? =io p->VR M N (· <s.nx) p (y.getD j undef):=by
  intro D C;obtain⟨y,h1,u,G⟩:=xT I hf C;refine⟨y,?_,u,G⟩;have e:fn.results.mapM (qF a.tmps)=(List.toArray<$>(fn.results.toList.mapM (qF a.tmps))):=by
   rw[ZN]
  rw[e,hl,Sem.run_map,h1];rfl
 have A:results fn a.tmps=(do let vs<-fn.results.mapM (qF a.tmps);pure (if h:vs.size=1 then vs[0] else .tuple vs)):=by
  unfold results;rfl
 split at h
 .rename_i q Y;simp only[WR]at h;subst h;obtain⟨y,h1,u,G⟩:=key _ Y
  match y,u with
  | [x],_=>
   refine⟨x,?_,by simpa using G 0 q Z⟩;rw[A,Sem.run_bind,h1];rfl
 .rename_i D B C;simp only[WR]at h;subst h;obtain⟨y,h1,u,G⟩:=key _ C;refine⟨.tuple y.toArray,?_,.aY _ _ (by simpa using u) (fun j p J=>?_)⟩
  .rw[A,Sem.run_bind,h1,Result.andThen_ok];have: ¬y.toArray.size=1:=by
    intro e
    match D,B,u with
    | [q],B,_=>exact B q Z
    | [],_,u=>simp at u e;omega
    |_::_::_,_,u=>simp at u e;omega
   rw[dif_neg this];rfl
  .have:=G j p J;rw[WM];rw[WQ]at this;simpa using this
 .cases h
theorem Fh{fn:Func}{nt:Nat}(A:fn.ntmps=nt){args:List PV}(y:args.length<=nt){os:List AO}{M:Mem}{N:Nm}{w:World}{vs:List Value}(hr:Rel M N (· <os.length) (cK 0 os) w)(u:args.length=vs.length)
  (B: ∀(j:Nat) (p:PV),args[j]? =io p->VR M N (· <os.length) p (vs.getD j undef)):Fits M N ⟨mN 0 args,cK 0 os,os.length⟩ nt {tmps:=vs.toArray++YV (fn.ntmps-vs.toArray.size) undef,defers:=[]} w:=by
 refine⟨hr,fun i=>?_,rfl,by simp;omega⟩;rw[wR,am (W2 _),Zw,WQ];cases hi:args[i]? with
 |none=>exact .any _
 |some p=>
  have x:i<vs.length:=by rw[<-u];exact(WT.1 hi).1
  have:=B i p hi;have e:(vs.toArray++YV (fn.ntmps-vs.toArray.size) undef).getD i undef=vs.getD i undef:=by
   rw[WM,Xt (by simpa using x),WQ];simp
  simp only[XV];rw[e];exact this
theorem FB{ty:Ty}(a0:bp P ty){fn:Func}{c:Code}{nt:Nat}(I:fn.ntmps=nt)
  {l:List ResultVar} (hl:fn.results.toList=l) {args:List PV} (G:args.length<=nt) {os:List AO} {R:PV->AH->Nat->Prop}
  (h:GO P nt [.code c] (fun e s=>(e= .normal∨e= .ret)∧ ∃r,je ty s l=io r∧R r s.h s.nx) ⟨mN 0 args,cK 0 os,os.length⟩):
  Td (fun vs w R=>c.wp P (bodyPost P fn R) {tmps:=vs++YV (fn.ntmps-vs.size) undef,defers:=[]} w) args os R:=by
 intro M N w vs hr A hv;refine AW.then h (Fh I G hr A hv) fun e a' C u y s' hx j hq=>?_;simp only[kp]at hq;obtain⟨he,r,J,Y⟩:=hq;obtain⟨x,b0,c0⟩:=uB a0 j hl J
 have:a'.defers=[]∧ ∃v,(results fn a'.tmps).run P C= .ok v C∧(∃x u y r D B,Ending.returned v= .returned x∧R r D B∧Ext M N (· <os.length) (cK 0 os) w u y (· <B) D C∧Rel u y (· <B) D C∧VR u y (· <B) r x):=
  ⟨j.2.2.1,x,b0,x,u,y,r,s'.h,s'.nx,rfl,Y,hx,j.1,c0⟩
 rcases he with rfl|rfl<;>exact this
theorem DT {ty:Ty} (y:bp P ty) {k:FuncId} {fn:Func} {c:Code} (hf:P.funcs[k]? =io fn) (hb:fn.body=io c) (hn:(fn.name== "runtime.NumGoroutine")=kw) {nt:Nat} (x:fn.ntmps=nt)
  {l:List ResultVar} (hl:fn.results.toList=l) {args:List PV} (u:args.length<=nt) {os:List AO} {R:PV->AH->Nat->Prop}
  (h:GO P nt [.code c] (fun e s=>(e= .normal∨e= .ret)∧ ∃r,je ty s l=io r∧R r s.h s.nx) ⟨mN 0 args,cK 0 os,os.length⟩):Fn P k args os R:=
 ⟨bc hf hb hn,fun M N w vs hr j A=>calls_of_wp hf hb (FB y x hl u h M N w vs hr j A)⟩
end
theorem GF{ops:Array Oper}{o:Oper}(hs: ∀u b,o.op≠ .select u b){a b:Act}(h: ∀d∈o.looksAt ops,a.tmps[d]? =b.tmps[d]?):
  execOp a.eval o=execOp b.eval o∧Region.wanted o (Go.yielded ops a.tmps)=Region.wanted o (Go.yielded ops b.tmps):=by
 constructor
 .refine execOp_congr o hs fun x y=>?_
  cases x with
  |tmp t=>
   have:=h t (XJ _ (List.mem_filterMap.2 ⟨.tmp t,by simpa using y,rfl⟩));simp only[Act.eval,WM,this]
  |_=>rfl
 .unfold Region.wanted;cases hg:o.guard with
  |none=>rfl
  |some gw=>
   obtain⟨g,j⟩:=gw;have A:Go.yielded ops a.tmps g=Go.yielded ops b.tmps g:=by
    unfold Go.yielded;cases ht:(ops[g]?).bind (·.dst) with
    |none=>rfl
    |some t=>
     have:=h t (by simp[Oper.looksAt,hg,ht]);simp[this]
   simp only[A]
theorem lx{all:List Oper}{o x:Oper}(h:looks all o x=kw){d:Nat}(hd:x.dst=io d):d∉o.looksAt all.toArray:=by
 simp only[looks,hd]at h;simpa using h
theorem ic{o:Oper}{i:Nat}(h:waits o i=jp): ∃e∈o.after,Region.binds .any e=jp∧e.on=i:=by
 unfold waits at h;obtain⟨e,j,hb⟩:=Yf.1 h;simp only[XE]at hb;exact⟨e,by simpa using j,hb.1,Xh hb.2⟩
theorem jP: ∀(l:List Oper) (n i:Nat) (o:Oper),ja n l=jp->l[i]? =io o-> ∀e∈o.after,Region.binds .any e=jp->e.on<n+i
 | [],n,i,o,_,h=>by simp at h
 |c::l,n,i,o,hd,h=>by
  simp only[ja,XE,XC]at hd;cases i with
  |zero=>
   simp at h;subst h;intro e j hb;have:=hd.1 e (by simpa using j);simp only[hb,Zd,YO]at this;exact WL this
  |succ i=>
   have:=jP l (n+1) i o hd.2 (by simpa using h);intro e j hb;have:=this e j hb;omega
theorem count_set: ∀(l:List Bool) (i:Nat),l[i]? =io kw->(l.set i jp).count kw+1=l.count kw
 | [],i,h=>by simp at h
 |c::l,0,h=>by simp at h;subst h;simp
 |c::l,i+1,h=>by
  have:=count_set l i (by simpa using h);simp only[List.set_cons_succ,List.count_cons];omega
theorem fe{listed:Array Bool}{i:Nat}(h:listed.getD i jp=kw):(listed.setIfInBounds i jp).toList.count kw+1=listed.toList.count kw:=by
 have hi:listed.toList[i]? =io kw:=by
  rw[WM]at h;cases hc:listed[i]? with
  |none=>simp[hc]at h
  |some c=>simp[hc]at h;subst h;simpa using hc
 have:=count_set _ _ hi;rw[Array.toList_setIfInBounds];exact this
theorem tm{listed:Array Bool}{i:Nat}(h:listed.getD i jp=kw):0<listed.toList.count kw:=by have:=fe h;omega
theorem fo{listed:Array Bool}{i k:Nat}(hi:i<listed.size):(listed.setIfInBounds i jp).getD k jp=if k=i then jp else listed.getD k jp:=by
 by_cases hk:k=i
 .subst hk;simp[WM,hi]
 .rw[be hk,WM,Xr,be (fun e=>hk e.symm),WM]
theorem eN{listed:Array Bool}{i:Nat}(h:listed.getD i jp=kw):i<listed.size:=by
 rcases XO i listed.size with h'|h'
 .exact h'
 .simp[WM,Zc h']at h
theorem nL{listed:Array Bool}{i:Nat}(h:listed.getD i jp=kw):listed.getD i kw=kw:=by
 have:=eN h;rw[WM] at*
 simpa[this]using h
theorem qI{all:List Oper}{listed:Array Bool}(A:listed.size=all.length)(hd:ja 0 all=jp)(hr:Region.ready .any all.toArray listed=[]): ∀i,listed.getD i jp=jp:=by
 intro i
 induction i using Nat.strongRecOn with
 |_ i ih=>
  cases hc:listed.getD i jp with
  |true=>rfl
  |false=>
   have hi:=eN hc;have u:all[i]? =io (all[i]'(by omega)):=WU (by omega);have:i∈Region.ready .any all.toArray listed:=by
    refine mem_ready.2 ⟨hc,_,(by rw[XD];exact u),fun e x hb=>?_⟩;have y:=jP all 0 i _ hd u e x hb;have:=ih e.on (by omega);have j:e.on<listed.size:=by omega
    rw[WM]at this ⊢;simpa[j]using this
   rw[hr]at this;cases this
section
variable {P:Program} {nt:NT} {all:List Oper} {todo pend:List (Nat×Oper)} {M:Mem} {N:Nm} {s:AS} {listed:Array Bool} {a:Act} {w:World} {Q:AQ}
theorem qm.alloc{B:Bs}{o:Oper}{aA:Nat}(h:qm P M N s B a w o aA):aS o=jp:=by
 obtain⟨t,v,d,h1,_⟩:=h;simp[aS,h1]
theorem jS.xa(u:jS P nt all){i j:Nat}{o q:Oper}(hi:all[i]? =io o)(hj:all[j]? =io q)(ha:aS o=jp)(hw:waits q i=kw)(hne:j≠i):looks all q o=kw:=by
 rcases((u i o hi ha).2.2.2.2 j q hj hne).1 with h|h
 .rw[hw]at h;cases h
 .exact h
theorem nP.same{b:Act}(hb: ∀d,(∀x∈pend,listed.getD x.1 jp=kw->x.2.dst≠io d)->(∀x∈todo,listed.getD x.1 jp=jp->x.2.dst≠io d)->a.tmps[d]? =b.tmps[d]?)
  (hns:Region.noSelect all.toArray=jp) {i:Nat} {o:Oper} (ho:all[i]? =io o) (hr:i∈Region.ready .any all.toArray listed) (hp: ∀x∈pend,waits o x.1=jp∨looks all o x.2=kw)
  (D: ∀x∈todo,listed.getD x.1 jp=jp->looks all o x.2=kw):
  execOp a.eval o=execOp b.eval o∧Region.wanted o (Go.yielded all.toArray a.tmps)=Region.wanted o (Go.yielded all.toArray b.tmps):=by
 refine GF (Region.noSelect_spec hns i o · · (by simpa using ho)) fun d hd=>hb d (fun x C hl u=>?_) (fun x C hl u=>lx (D x C hl) u hd);rcases hp x C with h|h
 .obtain⟨e,u,y,B⟩:=ic h;obtain⟨_,G,A,j⟩:=mem_ready.1 hr;have:G=o:=by have:=A.symm.trans (by simpa using ho:all.toArray[i]? =io o);exact XP this
  subst this;have h1:=j e u y;rw[B,nL hl]at h1;cases h1
 .exact lx h u hd
theorem fT(a:Act)(a0:Option Tmp)(v:Value)(d:Nat):(a.put a0 v).tmps[d]? =if a0=io d∧d<a.tmps.size then io v else a.tmps[d]? :=by
 cases a0 with
 |none=>simp[Act.put]
 |some e=>
  simp only[Act.put,WR];rw[Xr];by_cases h:e=d
  .subst h;by_cases j:e<a.tmps.size
   .simp[j]
   .simp[j]
  .simp[h]
theorem jA(a:Act)(a0:Option Tmp)(v:Value):(a.put a0 v).tmps.size=a.tmps.size:=by cases a0<;>simp[Act.put]
theorem lu(a:Act)(a0:Option Tmp)(v:Value):(a.put a0 v).defers=a.defers:=by cases a0<;>rfl
theorem xW(a:Act)(a0:Option Tmp)(v:Value):(a.put a0 v).put a0 v=a.put a0 v:=by cases a0<;>simp[Act.put]
theorem qm.put{B:Bs}{o:Oper}{aA:Nat}(h:qm P M N s B a w o aA){a0:Option Tmp}{v:Value}(hd: ∀d,o.dst=io d->a0≠io d):qm P M N s B (a.put a0 v) w o aA:=by
 obtain⟨t,u,d,h1,x,j,y,A⟩:=h;refine⟨t,u,d,h1,x,j,?_,A⟩;rw[fT,be (fun C=>hd d j C.1)];exact y
theorem nP.take{B:Bs}(hi:nP P nt all todo pend B M N s listed a w)(hns:Region.noSelect all.toArray=jp)(e0:jS P nt all){x:Nat×Oper}(C:x∈pend)(hr:x.1∈Region.ready .any all.toArray listed):
  ∃v,YieldsAt P all.toArray w x.2 v a∧nP P nt all todo pend B M N s (listed.setIfInBounds x.1 jp) (a.put x.2.dst v) w:=by
 obtain⟨b,hb,c0,m0,d0,G⟩:=hi.ap;obtain⟨bl,f0,n0⟩:=hi.er;have hl:=(mem_ready.1 hr).1;obtain⟨v,hv,b0⟩:=G x C hl;have I: ∀y∈todo,listed.getD y.1 jp=jp->looks all x.2 y.2=kw∧ ∀d,y.2.dst=io d->x.2.dst≠io d:=fun y j u=>by
  have J:=(f0 y j u).alloc;exact⟨e0.xa (hi.tl y j) (hi.pl x C) J (hi.pa x C y j J) (fun e=>hi.dj x C y j e.symm),((e0 _ _ (hi.tl y j) J).2.2.2.2 _ _ (hi.pl x C) (fun e=>hi.dj x C y j e.symm)).2⟩
 have A:=nP.same d0 hns (hi.pl x C) hr (fun y G=>hi.pp y G x C) (fun y j u=>(I y j u).1);have a0:=eN hl;have g0: ∀k,(listed.setIfInBounds x.1 jp).getD k jp=kw->k≠x.1∧listed.getD k jp=kw:=by
  intro k hk;rw[fo a0]at hk;split at hk
  .cases hk
  .rename_i h;exact⟨h,hk⟩
 have D: ∀y∈todo,(listed.setIfInBounds x.1 jp).getD y.1 jp=listed.getD y.1 jp:=fun y G=>by rw[fo a0,be (hi.dj x C y G)]
 refine⟨v,hv.of_same A.1 A.2,⟨by simp[hi.size],hi.tl,hi.pl,hi.dj,fun i o ho hu=>hi.NW i o ho (g0 i hu).2,hi.pw,hi.pp,hi.pa,⟨bl,fun y j u=>?_,fun y j z j0 h1 h2=>?_⟩,b,hb,by rw[jA,c0],by rw[lu,m0],fun d hd k0=>?_,fun y o0 hu=>?_⟩⟩
 .rw[D y j]at u;exact(f0 y j u).put (I y j u).2
 .rw[D y j]at h1;rw[D z j0]at h2;exact n0 y j z j0 h1 h2
 .rw[fT];split
  .rename_i h;rw[<-b0,fT,am ⟨h.1,by rw[<-c0];exact h.2⟩]
  .rename_i h;by_cases Y:x.2.dst=io d
   .have h2: ¬d<a.tmps.size:=fun h3=>h ⟨Y,h3⟩
    rw[Zc (Yz h2),Zc (by rw[<-c0];exact Yz h2)]
   .refine d0 d (fun y G hu he=>?_) (fun y j u=>k0 y j (by rw[D y j];exact u));by_cases i0:y.1=x.1
    .have h3:=hi.pl y G;rw[i0,hi.pl x C]at h3;rw[XP h3]at Y;exact Y he
    .exact hd y G (by rw[fo a0,be i0];exact hu) he
 .exact G y o0 (g0 _ hu).2
theorem Rel.more{M:Mem}{N:Nm}{n:Nat}{h:AH}{w j:World}(hr:Rel M N (· <n) h w)(hk: ∀b,b<w.heap.size->j.heap[b]? =w.heap[b]?):Rel M N (· <n) h j:=by
 refine⟨fun b c hb=>?_,hr.used,hr.dM,fun i o hi=>?_,hr.inj⟩
 .exact(hr.dF b c hb).mono (hk b (hr.dF b c hb).lt)
 .cases hre:o.real with
  |true=>exact(hr.obj i o hi).mono (.refl _) (.refl _ _) (fun _ h=>h) (hr.used i o hi) (hk _ (hr.lt hi hre))
  |false=>
   cases o with
   |row sz es=>cases es with
    |nil=>exact .inl Z
    |cons=>cases hre
   |bw l T=>cases l with
    |nil=>exact .inl Z
    |cons=>cases hre
   |_=>cases hre
theorem Du{ops:Array Oper}(h: ∀i,listed.getD i jp=jp):Region.ready .any ops listed=[]:=by
 cases hr:Region.ready .any ops listed with
 |nil=>rfl
 |cons i r=>
  have:i∈Region.ready .any ops listed:=by rw[hr];simp
  have:=(mem_ready.1 this).1;rw[h i]at this;cases this
theorem nP.done{B:Bs}(hi:nP P nt all [] pend B M N s listed a w)(j: ∀i,listed.getD i jp=jp):Fits M N s nt a w:=by
 obtain⟨b,hb,A,u,y,_⟩:=hi.ap;have ht:a.tmps=b.tmps:=Array.ext_getElem? fun d=>y d (fun x _ hu=>by rw[j]at hu;cases hu) (fun _ C=>(nomatch C));have:a=b:=by cases a;cases b;simp only at ht u;subst ht;subst u;rfl
 rw[this];exact hb
theorem SG(h:Q .normal s):DL P nt all [] pend Q s:=by
 intro C hd y B M N listed a w j I
 induction j generalizing listed a with
 |zero=>
  intro hi hc;have u: ∀i,listed.getD i jp=jp:=fun i=>by
   cases hx:listed.getD i jp with
   |true=>rfl
   |false=>have:=tm hx;omega
  exact⟨Du u,M,N,s,I,hi.done u,h⟩
 |succ j ih=>
  intro hi hc;refine⟨fun hr=>⟨M,N,s,I,hi.done (qI hi.size hd hr),h⟩,fun i x=>?_⟩;obtain⟨hu,o,J,_⟩:=mem_ready.1 x;have D:all[i]? =io o:=by simpa using J
  rcases hi.NW i o D hu with hm|hm
  .cases hm
  .obtain⟨v,hv,A⟩:=hi.take C y hm x;refine wpOp_of_stOp (K:=fun G=>G=a.put o.dst v) (fun G Y=>?_) (hv.stOp J Z);subst Y;exact ih _ _ A (by have:=fe hu;omega)
def xx(all:List Oper)(pend:List (Nat×Oper))(o:Oper):Bool:=
 !looks all o o&&pend.all fun y=>!looks all y.2 o&&(waits o y.1||!looks all o y.2)&&(match o.dst,y.2.dst with|some d,io e=>!Xj d e|_,_=>jp)
theorem nP.read{B:Bs}(hi:nP P nt all todo pend B M N s listed a w)(hns:Region.noSelect all.toArray=jp){i:Nat}{o:Oper}{s':AS}(C:(i,o)∈todo)(m0:aS o=kw)(q0: ∀x∈todo,waits o x.1=kw)(j:xx all pend o=jp)(he:s'.h=s.h∧s'.nx=s.nx)
  (hy: ∀M N b w,Fits M N s nt b w-> ∃v,YieldsAt P all.toArray w o v b∧Fits M N s' nt (b.put o.dst v) w):nP P nt all (todo.filter fun x=>!Xj x.1 i) ((i,o)::pend) B M N s' listed a w:=by
 have G: ∀x∈todo.filter fun x=>!Xj x.1 i,x∈todo∧x.1≠i:=fun x hx=>by
  obtain⟨h7,h8⟩:=Xu.1 hx;exact⟨h7,fun e=>by simp[e]at h8⟩
 have h1: ∀x∈todo,x=(i,o)∨x∈todo.filter fun x=>!Xj x.1 i:=fun x hx=>by
  by_cases D:x.1=i
  .have I:=hi.tl x hx;rw[D,hi.tl _ C]at I;exact .inl (by obtain⟨x1,x2⟩:=x;simp only at D I;rw[D,XP I])
  .exact .inr (Xu.2 ⟨hx,by cases hb:Xj x.1 i with|false=>rfl|true=>exact absurd (Xh hb) D⟩)
 simp only[xx,XE,XC,X0]at j;obtain⟨b,hb,n0,i0,c0,r0⟩:=hi.ap;obtain⟨bl,a0,k0⟩:=hi.er;have b0:listed.getD i jp=kw:=by
  cases hl:listed.getD i jp with
  |false=>rfl
  |true=>have:=(a0 _ C hl).alloc;simp only at this;rw[m0]at this;cases this
 obtain⟨v,hv,hf⟩:=hy M N b w hb;refine⟨hi.size,fun x hx=>hi.tl x (G x hx).1,fun x hx=>?_,fun x hx y hy=>?_,fun k q hk hu=>?_,?_,fun x hx y hy=>?_,fun y hyp x hx d0=>?_,⟨bl,fun x hx hl=>?_,fun x hx y hy=>k0 x (G x hx).1 y (G y hy).1⟩,b.put o.dst v,hf,by rw[jA,n0],by rw[lu,i0],fun d J g0=>?_,fun x hx hu=>?_⟩
 .rcases Xa.1 hx with rfl|hx
  .exact hi.tl _ C
  .exact hi.pl x hx
 .rcases Xa.1 hx with rfl|hx
  .exact(G y hy).2
  .exact hi.dj x hx y (G y hy).1
 .rcases hi.NW k q hk hu with hm|hm
  .rcases h1 _ hm with e|hm
   .exact .inr (by rw[e];simp)
   .exact .inl hm
  .exact .inr (W5 _ hm)
 .refine XZ.2 ⟨fun y hy=>⟨(j.2 y hy).1.1,fun d Y j0=>?_⟩,hi.pw⟩;have:=(j.2 y hy).2;simp only at Y;rw[Y,j0]at this;simp at this
 .rcases Xa.1 hx with rfl|hx<;>rcases Xa.1 hy with rfl|hy
  .exact .inr j.1
  .exact .inr (j.2 y hy).1.1
  .have:=(j.2 x hx).1.2;simpa using this
  .exact hi.pp x hx y hy
 .rcases Xa.1 hyp with rfl|hyp
  .exact q0 x (G x hx).1
  .exact hi.pa y hyp x (G x hx).1 d0
 .have I:=a0 x (G x hx).1 hl;unfold qm at*
  rw[he.1];exact I
 .rw[fT,be (fun hc=>J (i,o) (by simp) b0 hc.1)];refine c0 d (fun x hx=>J x (W5 _ hx)) (fun x hx hl=>?_);rcases h1 x hx with e|hx
  .rw[e]at hl;simp only at hl;rw[b0]at hl;cases hl
  .exact g0 x hx hl
 .have A: ∀x:Oper,looks all x o=kw-> ∀d,o.dst=io d->d∉x.looksAt all.toArray:=fun x hx d hd=>lx hx hd
  rcases Xa.1 hx with rfl|hx
  .exact⟨v,hv.of_same (execOp_put o (fun cs b=>Region.noSelect_spec hns i o cs b (by simpa using hi.tl _ C)) b o.dst v (A o j.1)) (wanted_put o b o.dst v (A o j.1)),xW _ _ _⟩
  .obtain⟨u,o0,p0⟩:=r0 x hx hu;have hl:=(j.2 x hx).1.1;refine⟨u,o0.of_same (execOp_put x.2 (fun cs b=>Region.noSelect_spec hns x.1 x.2 cs b (by simpa using hi.pl x hx)) b o.dst v (A x.2 hl)) (wanted_put x.2 b o.dst v (A x.2 hl)),?_⟩;rw[Act.put_comm b v u (fun d e0 f0=>?_),p0];have:=(j.2 x hx).2;rw[e0,f0]at this;simp at this
theorem Fq{i:Nat}{o:Oper}{s':AS}(C:(i,o)∈todo)(D:aS o=kw)(G: ∀x∈todo,waits o x.1=kw)(u:xx all pend o=jp)(he:s'.h=s.h∧s'.nx=s.nx)
  (Y: ∀M N b w,Fits M N s nt b w-> ∃v,YieldsAt P all.toArray w o v b∧Fits M N s' nt (b.put o.dst v) w) (h:DL P nt all (todo.filter fun x=>!Xj x.1 i) ((i,o)::pend) Q s'):DL P nt all todo pend Q s:=by
 intro y hd A B M N listed a w j I hi J;exact h y hd A B M N listed a w j (by unfold Bs.ext at*;rw[he.1,he.2];exact I) (hi.read y C D G u he Y) J
theorem pH(hns:Region.noSelect all.toArray=jp): ∀{pend:List (Nat×Oper)},(∀x∈pend,all[x.1]? =io x.2)->(pend.Pairwise fun x y=>looks all y.2 x.2=kw∧ ∀d,x.2.dst=io d->y.2.dst≠io d)->
  (∀x∈pend,looks all x.2 x.2=kw)->(∀x∈pend,fb P nt all s x.2)-> ∀{b:Act},Fits M N s nt b w->
  ∃c:Act,Fits M N s nt c w∧c.tmps.size=b.tmps.size∧c.defers=b.defers∧(∀d,(∀x∈pend,listed.getD x.1 jp=kw->x.2.dst≠io d)->c.tmps[d]? =b.tmps[d]?)∧
   (∀x∈pend,listed.getD x.1 jp=kw-> ∃v,YieldsAt P all.toArray w x.2 v c∧c.put x.2.dst v=c)
 | [],_,_,_,_,b,hb=>⟨b,hb,rfl,rfl,fun _ _=>rfl,fun x hx=>by cases hx⟩
 |(i,o)::pend,hpl,hpw,hse,hag,b,hb=>by
  rw[XZ]at hpw;obtain⟨c,hc,G,D,B,C⟩:=pH hns (pend:=pend) (fun x hx=>hpl x (W5 _ hx)) hpw.2 (fun x hx=>hse x (W5 _ hx)) (fun x hx=>hag x (W5 _ hx)) hb;cases hu:listed.getD i jp with
  |true=>
   refine⟨c,hc,G,D,fun d hd=>B d fun x hx=>hd x (W5 _ hx),fun x hx A=>?_⟩;rcases Xa.1 hx with rfl|hx
   .rw[hu]at A;cases A
   .exact C x hx A
  |false=>
   obtain⟨v,hv,hf⟩:=hag (i,o) (by simp) M N c w hc;have j: ∀x:Oper,looks all x o=kw-> ∀d,o.dst=io d->d∉x.looksAt all.toArray:=fun x hx d hd=>lx hx hd;refine⟨c.put o.dst v,hf,by rw[jA,G],by rw[lu,D],fun d hd=>?_,fun x hx A=>?_⟩
   .rw[fT,be (fun h=>hd (i,o) (by simp) hu h.1)];exact B d fun x hx=>hd x (W5 _ hx)
   .rcases Xa.1 hx with rfl|hx
    .have hl:=hse (i,o) (by simp);exact⟨v,hv.of_same (execOp_put o (fun I b=>Region.noSelect_spec hns i o I b (by simpa using hpl (i,o) (by simp))) c o.dst v (j o hl)) (wanted_put o c o.dst v (j o hl)),xW _ _ _⟩
    .obtain⟨u,a0,b0⟩:=C x hx A;have hl:=(hpw.1 x hx).1;refine⟨u,a0.of_same (execOp_put x.2 (fun I b=>Region.noSelect_spec hns x.1 x.2 I b (by simpa using hpl x (W5 _ hx))) c o.dst v (j x.2 hl)) (wanted_put x.2 c o.dst v (j x.2 hl)),?_⟩;rw[Act.put_comm c v u (fun d J Y=>(hpw.1 x hx).2 d J Y),b0]
theorem KP{o:Oper}{a b:Act}{w:World}{K K':Act->World->Prop}{Q:Exit->Act->World->Prop}(he:execOp a.eval o=execOp b.eval o)(u: ∀d j,¬K' ({b with defers:=d::b.defers}.put o.dst undef) j)
  (hk: ∀v j,K' (b.put o.dst v) j->K (a.put o.dst v) j) (h:o.wp P b w K' fun _ _ _=>False):o.wp P a w K Q:=by
 unfold Oper.wp at*
 rw[he];generalize(execOp b.eval o).run P w=r at*
 cases r with
 |ok n j=>
  cases n<;>simp only[Oper.upon]at h ⊢
  case value v=>exact hk _ _ h
  case skip=>exact hk _ _ h
  case defer d=>exact absurd h (u d j)
  case enter f args=>
   refine Calls.mono h fun e y he=>?_
   cases e with
   |returned v=>exact hk _ _ he
   |panicked c=>exact he.elim
   |outgrown=>obtain⟨_,_,h⟩:=he;exact h.elim
  case row row args=>exact Rows.mono h fun v y he=>hk _ _ he
 |halt x j=>cases x<;>simp only[Oper.upon]at h ⊢
def gX(all:List Oper)(pend:List (Nat×Oper))(o:Oper):Bool:=pend.all fun x=>waits o x.1||!looks all o x.2
theorem nP.early{B:Bs}(hi:nP P nt all todo pend B M N s listed a w)(hns:Region.noSelect all.toArray=jp)(hd:ja 0 all=jp)(m0:jS P nt all)(hB:B.ext M N s w)(c0: ∀x∈pend,fb P nt all s x.2){j:Nat}{o:Oper}(hm:(j,o)∈todo)(ha:aS o=jp)
  (hu:listed.getD j jp=kw): ∃v w',(execOp a.eval o).run P w= .ok (.value v) w'∧B.ext M N s w'∧nP P nt all todo pend B M N s (listed.setIfInBounds j jp) (a.put o.dst v) w':=by
 obtain⟨b,hb,j0,s0,k0,hy⟩:=hi.ap;obtain⟨bl,i0,v0⟩:=hi.er;obtain⟨h1,⟨d,I,t0⟩,⟨t,z,ht,hz⟩,_,d0⟩:=m0 j o (hi.tl _ hm) ha;have C:=eN hu;have hk: ∀b,b<w.heap.size->(w.alloc (.cells z.cells t)).heap[b]? =w.heap[b]? :=fun b hb=>Aw w _ b hb
 have a0:Ext M N (· <s.nx) s.h w M N (· <s.nx) s.h (w.alloc (.cells z.cells t)):=
  ⟨rfl,rfl,⟨rfl,WY _⟩,by simp,fun b hb _=>hk b hb,.refl _,fun b c h1 h2=>by simp[h1]at h2,.refl _ _,fun _ h=>h,fun i o hi e0=> .inr ⟨i,o,hi,e0,rfl⟩⟩
 have x0: ∀x∈pend,looks all x.2 x.2=kw:=fun x A=>by
  rcases hi.pp x A x A with h7|h7
  .obtain⟨e,he,hb,d1⟩:=ic h7;have:=jP all 0 x.1 x.2 hd (hi.pl x A) e he hb;omega
  .exact h7
 obtain⟨c,p0,q0,o0,n0,r0⟩:=pH (listed:=listed.setIfInBounds j jp) hns hi.pl hi.pw x0 c0 (M:=M) (N:=N) (w:=w.alloc (.cells z.cells t)) (b:=b) ⟨hb.1.more hk,hb.2⟩;refine⟨.pointer (io ⟨w.heap.size,0,is⟩),w.alloc (.cells z.cells t),?_,hB.trans a0,by simp[hi.size],hi.tl,hi.pl,hi.dj,fun i q hq b0=>?_,hi.pw,hi.pp,hi.pa,⟨fun k=>if k=j then w.heap.size else bl k,fun x A hl=>?_,fun x A y hy D J Y=>?_⟩,c,p0,by rw[jA,q0,j0],by rw[lu,o0,s0],fun d' f0 g0=>?_,r0⟩
 .simp only[execOp,ht];simp[Instr.alloc,hz,newVar,newRow]
 .rw[fo C]at b0;split at b0
  .cases b0
  .exact hi.NW i q hq b0
 .simp only;by_cases u:x.1=j
  .have a1:x.2=o:=by
    have:=hi.tl x A;rw[u,hi.tl _ hm]at this;exact(XP this).symm
   rw[am u,a1];refine⟨t,z,d,ht,hz,I,?_,heap_alloc_new w _,hb.1.BN,fun i o w0 e0 he=>?_,hB.size⟩
   .rw[fT,am ⟨I,by rw[j0,hb.2.2.2];exact t0⟩]
   .have:=hb.1.lt w0 e0;omega
  .rw[be u];rw[fo C,be u]at hl;obtain⟨t',v',d',k1,k2,k3,k4,k5,k6⟩:=i0 x A hl;refine⟨t',v',d',k1,k2,k3,?_,?_,k6⟩
   .rw[fT,be (fun hc=>(d0 x.1 x.2 (hi.tl x A) u).2 d I (by rw[k3,<-hc.1,I]))];exact k4
   .rw[hk _ (X4.1 k5).1];exact k5
 .simp only;rw[fo C]at D J;have UO: ∀z∈todo,z.1≠j->(if z.1=j then jp else listed.getD z.1 jp)=jp->bl z.1<w.heap.size:=fun z hz b1 hl=>by
   rw[be b1]at hl;obtain⟨_,_,_,_,_,_,_,k5,_⟩:=i0 z hz hl;exact(X4.1 k5).1
  by_cases u:x.1=j<;>by_cases G:y.1=j
  .exact absurd (u.trans G.symm) Y
  .rw[am u,be G];have:=UO y hy G J;omega
  .rw[be u,am G];have:=UO x A u D;omega
  .rw[be u,be G];rw[be u]at D;rw[be G]at J;exact v0 x A y hy D J Y
 .rw[fT,be (fun hc=>g0 (j,o) hm (by rw[fo C,am Z]) hc.1),n0 d' f0];refine k0 d' (fun x A z0=>f0 x A ?_) (fun x A D=>g0 x A ?_)
  .have Y:x.1≠j:=fun e=>hi.dj x A _ hm e.symm
   rw[fo C,be Y];exact z0
  .rw[fo C];split
   .rfl
   .exact D
theorem qm.step{B:Bs}{A:Mem}{Y:Nm}{s':AS}{w':World}{o:Oper}{aA:Nat}(h:qm P M N s B a w o aA)(J:Ext M N (· <s.nx) s.h w A Y (· <s'.nx) s'.h w'):qm P A Y s' B a w' o aA:=by
 obtain⟨t,v,d,h1,h2,h3,h4,h5,h6,C,h8⟩:=h;have G:=(X4.1 h5).1;refine⟨t,v,d,h1,h2,h3,h4,by rw[J.gK aA G C];exact h5,?_,fun i o D I he=>?_,h8⟩
 .cases hm:A aA with
  |none=>rfl
  |some c=>
   rcases J.iK aA c h6 hm with y|⟨i,o,y,u,x⟩
   .omega
   .exact absurd x (C i o y u)
 .rcases J.gx i o D I with y|⟨j,p,y,u,x⟩
  .omega
  .exact C j p y u (x.trans he)
def nI(todo:List (Nat×Oper))(E:List Nat):Bool:=todo.all fun x=>E.contains x.1||(aS x.2||todo.any fun y=>!aS y.2&&waits x.2 y.1)
theorem nP.VB{B:Bs}(hi:nP P nt all todo pend B M N s listed a w)(hns:Region.noSelect all.toArray=jp)(hd:ja 0 all=jp)(j0:jS P nt all){j:Nat}{o:Oper}(hm:(j,o)∈todo)(h0: ∀x∈todo,aS x.2=jp->waits o x.1=kw)
  (h1:gX all pend o=jp) (hj:j∈Region.ready .any all.toArray listed) (hu:listed.getD j jp=kw): ∃b,Fits M N s nt b w∧execOp a.eval o=execOp b.eval o∧Region.wanted o (Go.yielded all.toArray a.tmps)=Region.wanted o (Go.yielded all.toArray b.tmps)∧
   ∀v M' N' s' w',Ext M N (· <s.nx) s.h w M' N' (· <s'.nx) s'.h w'->Fits M' N' s' nt (b.put o.dst v) w'->(∀x∈a7 pend o,fb P nt all s' x.2)->
    nP P nt all (todo.filter fun x=>!Xj x.1 j) (a7 pend o) B M' N' s' (listed.setIfInBounds j jp) (a.put o.dst v) w':=by
 obtain⟨bl,m0,b1⟩:=hi.er;obtain⟨_,o2,o0,b0⟩:=mem_ready.1 hj;have d0:=hi.tl _ hm;have e1:o2=o:=by
  have:all[j]? =io o2:=by simpa using o0
  exact XP (this.symm.trans d0)
 rw[e1]at o0 b0;have f0:=eN hu;obtain⟨b,hb,q0,a1,i0,j1⟩:=hi.ap;have f1: ∀x∈pend,waits o x.1=jp∨looks all o x.2=kw:=fun x u=>by
  have:=XC.1 h1 x u;simpa using this
 have c0: ∀x∈todo,listed.getD x.1 jp=jp->looks all o x.2=kw∧ ∀d,x.2.dst=io d->o.dst≠io d:=fun x u D=>by
  have g0:=(m0 x u D).alloc;have J:j≠x.1:=fun e=>by rw[<-e,hu]at D;cases D
  exact⟨j0.xa (hi.tl x u) d0 g0 (h0 x u g0) J,((j0 _ _ (hi.tl x u) g0).2.2.2.2 _ _ d0 J).2⟩
 have a0:=nP.same i0 hns d0 hj f1 (fun x u D=>(c0 x u D).1);have Y: ∀x∈pend,listed.getD x.1 jp=kw->x∈a7 pend o:=fun x u e0=>by
  refine Xu.2 ⟨u,?_⟩;cases hw:waits o x.1 with
  |false=>rfl
  |true=>
   obtain⟨e,he,hb,p0⟩:=ic hw;have:=b0 e he hb;rw[p0,nL e0]at this;cases this
 have i1: ∀k,(listed.setIfInBounds j jp).getD k jp=kw->k≠j∧listed.getD k jp=kw:=by
  intro k hk;rw[fo f0]at hk;split at hk
  .cases hk
  .rename_i h;exact⟨h,hk⟩
 have C: ∀x∈a7 pend o,x∈pend:=fun x u=>(Xu.1 u).1
 have A: ∀x∈todo.filter (fun x=>!Xj x.1 j),x∈todo∧x.1≠j:=fun x u=>by
  obtain⟨h7,h8⟩:=Xu.1 u;exact⟨h7,fun e=>by simp[e]at h8⟩
 refine⟨b,hb,a0.1,a0.2,fun v M' N' s' w' u hf h5=>?_⟩;have g1: ∀x∈a7 pend o,looks all x.2 x.2=kw:=fun x u=>by
  rcases hi.pp x (C x u) x (C x u) with h7|h7
  .obtain⟨e,he,hb,p0⟩:=ic h7;have:=jP all 0 x.1 x.2 hd (hi.pl x (C x u)) e he hb;omega
  .exact h7
 obtain⟨c,v0,w0,t0,s0,x0⟩:=pH (listed:=listed.setIfInBounds j jp) hns (fun x u=>hi.pl x (C x u)) (hi.pw.sublist List.filter_sublist) g1 h5 hf;have G: ∀x∈todo.filter (fun x=>!Xj x.1 j),(listed.setIfInBounds j jp).getD x.1 jp=listed.getD x.1 jp:=fun x u=>by rw[fo f0,be (A x u).2]
 refine⟨by simp[hi.size],fun x u=>hi.tl x (A x u).1,fun x u=>hi.pl x (C x u),fun x u y hy=>hi.dj x (C x u) y (A y hy).1,fun k q hk d1=>?_,hi.pw.sublist List.filter_sublist,
      fun x u y hy=>hi.pp x (C x u) y (C y hy),fun y hy x u=>hi.pa y (C y hy) x (A x u).1,⟨bl,fun x I D=>?_,fun x I y r0 h1 h2=>?_⟩,c,v0,by rw[w0,jA,jA,q0],by rw[t0,lu,lu,a1],fun d k0 z0=>?_,x0⟩
 .obtain⟨h7,h8⟩:=i1 k d1;rcases hi.NW k q hk h8 with h9|h9
  .exact .inl (Xu.2 ⟨h9,by cases hb:Xj k j with|false=>rfl|true=>exact absurd (Xh hb) h7⟩)
  .exact .inr (Y _ h9 h8)
 .rw[G x I]at D;exact((m0 x (A x I).1 D).step u).put (c0 x (A x I).1 D).2
 .rw[G x I]at h1;rw[G y r0]at h2;exact b1 x (A x I).1 y (A y r0).1 h1 h2
 .rw[s0 d k0,fT,fT,q0];split
  .rfl
  .refine i0 d (fun x u e0=>k0 x (Y x u e0) ?_) (fun x I D=>?_)
   .have J:x.1≠j:=fun e=>hi.dj x u _ hm e.symm
    rw[fo f0,be J];exact e0
   .have J:x.1≠j:=fun e=>by rw[e,hu]at D;cases D
    have n0:x∈todo.filter (fun x=>!Xj x.1 j):=Xu.2 ⟨I,by cases hb:Xj x.1 j with|false=>rfl|true=>exact absurd (Xh hb) J⟩;exact z0 x n0 (by rw[G x n0];exact D)
theorem SH{E:List Nat}(hE:nI todo E=jp)(hne: ∃x∈todo,aS x.2=kw)(b0: ∀x∈todo,aS x.2=jp-> ∀x∈pend,fb P nt all s x.2)
  (h: ∀j o,j∈E->(j,o)∈todo->(∀o',(j,o')∈todo->o'=o)->aS o=kw∧(∀x∈todo,aS x.2=jp->waits o x.1=kw)∧gX all pend o=jp∧(∀M N b w,Fits M N s nt b w->Region.wanted o (Go.yielded all.toArray b.tmps)=jp)∧ ∃R,OT P nt o s R∧
   ∀s',R s'->(∀x∈a7 pend o,fb P nt all s' x.2)∧DL P nt all (todo.filter fun x=>!Xj x.1 j) (a7 pend o) Q s'):DL P nt all todo pend Q s:=by
 intro G hd A B M N listed a w u hB
 induction u generalizing listed a w with
 |zero=>
  intro hi hc;obtain⟨x,D,C⟩:=hne;have o0:listed.getD x.1 jp=kw:=by
   obtain⟨bl,d0,_⟩:=hi.er;cases hl:listed.getD x.1 jp with
   |false=>rfl
   |true=>have:=(d0 x D hl).alloc;rw[C]at this;cases this
  have:=tm o0;omega
 |succ u ih=>
  intro hi hc;obtain⟨bl,d0,p0⟩:=hi.er;have Y: ∀x∈todo,aS x.2=kw->listed.getD x.1 jp=kw:=fun x D C=>by
   cases hl:listed.getD x.1 jp with
   |false=>rfl
   |true=>have:=(d0 x D hl).alloc;rw[C]at this;cases this
  refine⟨fun hr=>?_,fun j hj=>?_⟩
  .obtain⟨x,D,C⟩:=hne;have:=qI hi.size hd hr x.1;rw[Y x D C]at this;cases this
  obtain⟨hu,o,ho,c0⟩:=mem_ready.1 hj;have f0:all[j]? =io o:=by simpa using ho
  have q0:=eN hu;rcases hi.NW j o f0 hu with hm|hm
  .cases hja:aS o with
   |true=>
    obtain⟨v,w',g0,j0,e0⟩:=hi.early G hd A hB (b0 _ hm hja) hm hja hu;unfold wpOp;simp only[ho];rw[am (fN (A j o f0 hja).1 _)];refine .inl ?_;unfold Oper.wp;rw[g0];simp only[Oper.upon];exact ih _ _ _ j0 e0 (by have:=fe hu;omega)
   |false=>
   have k0:j∈E:=by
    have:=XC.1 hE _ hm;simp only[YY,Yf,XE,X0]at this;rcases this with h1|h1|⟨y,hy,h0,h1⟩
    .simpa using h1
    .rw[hja]at h1;cases h1
    .obtain⟨e,he,hb,n0⟩:=ic h1;have:=c0 e he hb;rw[n0,nL (Y y hy h0)]at this;cases this
   obtain⟨_,h0,h1,h2,R,h3,h4⟩:=h j o k0 hm (fun o' m0=>by
    have:=hi.tl _ m0;simp only at this;rw[f0]at this
    exact(XP this).symm)
   obtain⟨b,hb,a0,i0,hnew⟩:=hi.VB G hd A hm h0 h1 hj hu;unfold wpOp;simp only[ho];rw[am (by rw[i0];exact h2 M N b w hb)];refine .inl (KP (K':=fun a' w'=> ∃I J s',Ext M N (· <s.nx) s.h w I J (· <s'.nx) s'.h w'∧Fits I J s' nt a' w'∧R s') a0 ?_ ?_ (h3 M N b w hb _ _ fun I J s' a' w' D hf hr=>⟨I,J,s',D,hf,hr⟩))
   .rintro d w' ⟨I,J,s',_,hf,_⟩;have:=hf.2.2.1;rw[lu]at this;have h9:d::b.defers=nt.df:=this;rw[hb.2.2.1]at h9;exact absurd (congrArg Y9 h9) (by simp)
   .rintro v w' ⟨I,J,s',D,hf,hr⟩;obtain⟨h5,h6⟩:=h4 s' hr;exact h6 G hd A B I J _ _ w' u (hB.trans D) (hnew v I J s' w' D hf h5) (by have:=fe hu;omega)
  .obtain⟨v,hv,e0⟩:=hi.take G A hm hj;refine wpOp_of_stOp (K:=fun a'=>a'=a.put o.dst v) (fun a' ha=>?_) (hv.stOp ho Z);subst ha;exact ih _ _ _ hB e0 (by have:=fe hu;omega)
theorem Rel.FI{M:Mem}{N:Nm}{n:Nat}{h:AH}{w:World}(hr:Rel M N (· <n) h w){aA e:Nat}{o:AO}(hM:M aA=is)(hne: ∀i p,h.get i=io p->p.real=jp->N.aA i≠aA)(ho:OR M (N.with n aA e) (· <n+1) w n o):
  Rel M (N.with n aA e) (· <n+1) ((n,io o)::h) w:=by
 have A:=N.dt n aA e;have u: ∀i p,AH.get ((n,io o)::h) i=io p->(i=n∧p=o)∨(i<n∧h.get i=io p):=by
  intro i p hi;rw[AH.ax]at hi;split at hi
  .rename_i B;exact .inl ⟨B,by simpa using hi.symm⟩
  .exact .inr ⟨hr.used i p hi,hi⟩
 refine⟨hr.dF,fun i p hi=>?_,fun i p hi C=>?_,fun i p hi=>?_,fun i j p q hi Y I J x=>?_⟩
 .rcases u i p hi with⟨rfl,rfl⟩|⟨h1,y⟩<;>omega
 .rcases u i p hi with⟨rfl,rfl⟩|⟨h1,y⟩
  .simpa using hM
  .rw[A.aA i h1];exact hr.dM i p y C
 .rcases u i p hi with⟨rfl,rfl⟩|⟨h1,y⟩
  .exact ho
  .exact(hr.obj i p y).mono (.refl _) A (fun i hi=>by omega) h1 Z
 .rcases u i p hi with⟨rfl,rfl⟩|⟨h1,y⟩<;>rcases u j q Y with⟨rfl,rfl⟩|⟨D,G⟩
  .rfl
  .rw[A.aA j D]at x;simp at x;exact absurd x.symm (hne _ _ G J)
  .rw[A.aA i h1]at x;simp at x;exact absurd x (hne _ _ y I)
  .rw[A.aA i h1,A.aA j D]at x;exact hr.inj i j p q y G I J x
def Av(todo:List (Nat×Oper))(i:Nat):Bool:=todo.all fun x=>Xj x.1 i||(aS x.2||(waits x.2 i||todo.any fun y=>!aS y.2&&waits x.2 y.1))
def kX(s:AS)(d:Nat)(cs:List PV):AS:=match s with|⟨f,h,n⟩=>⟨(d,.ptr n 0)::f,(n,io (.cells cs))::h,n+1⟩
theorem JW{i:Nat}{o:Oper}{t:TypeId}{z:Value}{d:Nat}(c0:(i,o)∈todo)(ht:o.op= .alloc t)(hz: ∀w,(zeroValue t).run P w= .ok z w)(o0:o.dst=io d)(hE:Av todo i=jp)
  (m0: ∀x∈pend,fb P nt all s x.2) (Y: ∀x∈pend,fb P nt all (kX s d (b6 z)) x.2)
  (h:DL P nt all (todo.filter fun x=>!Xj x.1 i) pend Q (kX s d (b6 z))):DL P nt all todo pend Q s:=by
 intro i0 hd a0 B M N listed a w A D;have f1:aS o=jp:=by simp[aS,ht]
 have FI: ∀{A:Nat} {listed:Array Bool} {a:Act} {w:World},B.ext M N s w->nP P nt all todo pend B M N s listed a w->listed.getD i jp=jp->listed.toList.count kw<=A->wpAny P .any all.toArray (Qs nt B Q) A listed a w:=by
  intro A listed a w D hi hl hc;obtain⟨b,hb,b2,v1,n1,i2⟩:=hi.ap;obtain⟨J,g0,p0⟩:=hi.er;obtain⟨t',G,d',k1,k2,k3,k4,k5,k6,k7,k8⟩:=g0 _ c0 hl;simp only at k1 k3;have e1:t'=t:=by rw[ht]at k1;exact(Op.alloc.inj k1).symm
  subst e1;have e2:G=z:=by have:=(k2 w).symm.trans (hz w);simpa using this
  subst e2;have e3:d'=d:=by rw[o0]at k3;exact(XP k3).symm
  subst e3;have d1:d'<nt:=by
   obtain⟨_,⟨d2,g1,g2⟩,_⟩:=a0 i o (hi.tl _ c0) f1;rw[o0]at g1;rw[XP g1];exact g2
  have ha:=N.dt s.nx (J i) G.cells.size;have x0:=hb.1.FI (aA:=J i) (e:=G.cells.size) (o:= .cells (b6 G)) k6 k7
   ⟨G.cells,t',by simpa using k5,by simp,(fC (M:=M) (N:=N.with s.nx (J i) G.cells.size) (U:=(· <s.nx+1)) G).1,(fC G).2,.none _⟩
  have w1:FR M (N.with s.nx (J i) G.cells.size) (· <s.nx+1) s.f b.tmps:=hb.2.1.mono (.refl _) ha (fun i hi=>by omega);have v0:VR M (N.with s.nx (J i) G.cells.size) (· <s.nx+1) (.ptr s.nx 0) (.pointer (io ⟨J i,0,is⟩)):=by
   have:=VR.ptr (M:=M) (N:=N.with s.nx (J i) G.cells.size) (U:=(· <s.nx+1)) s.nx 0 (by omega);simpa using this
  have r0:Fits M (N.with s.nx (J i) G.cells.size) (kX s d' (b6 G)) nt (b.put (io d') (.pointer (io ⟨J i,0,is⟩))) w:=by
   obtain⟨sf,sh,sn⟩:=s;exact⟨x0,w1.put d' _ _ (by rw[hb.2.2.2];exact d1) v0,hb.2.2.1,by rw[jA];exact hb.2.2.2⟩
  have b0: ∀j p,(kX s d' (b6 G)).h.get j=io p->j=s.nx∨(j<s.nx∧s.h.get j=io p):=by
   intro j p C;obtain⟨sf,sh,sn⟩:=s;simp only[kX]at C;rw[AH.ax]at C;split at C
   .rename_i e;exact .inl e
   .exact .inr ⟨hb.1.used j p C,C⟩
  have z1:(kX s d' (b6 G)).nx=s.nx+1:=by obtain⟨sf,sh,sn⟩:=s;rfl
  have k0:B.ext M (N.with s.nx (J i) G.cells.size) (kX s d' (b6 G)) w:=by
   unfold Bs.ext at*
   refine⟨D.os,D.tape,D.output,D.size,D.gK,D.oC,D.iK,⟨fun j C=>(ha.aA j (D.ule j C)).trans (D.nm.aA j C),fun j C=>(ha.ext j (D.ule j C)).trans (D.nm.ext j C)⟩,fun j C=>by have:=D.ule j C;rw[z1];omega,fun j p C w0=>?_⟩;rcases b0 j p C with rfl|⟨h1,h2⟩
   .exact .inl (by simpa using k8)
   .rw[ha.aA j h1];exact D.gx j p h2 w0
  have a2: ∀x∈pend,looks all x.2 x.2=kw:=fun x I=>by
   rcases hi.pp x I x I with h7|h7
   .obtain⟨e,he,hb,i1⟩:=ic h7;have:=jP all 0 x.1 x.2 hd (hi.pl x I) e he hb;omega
   .exact h7
  have u: ∀x∈todo.filter (fun x=>!Xj x.1 i),x∈todo∧x.1≠i:=fun x I=>by
   obtain⟨h7,h8⟩:=Xu.1 I;exact⟨h7,fun e=>by simp[e]at h8⟩
  obtain⟨c,q1,r1,p1,o1,s1⟩:=pH (listed:=listed) i0 hi.pl hi.pw a2 Y r0;refine h i0 hd a0 B M _ listed a w A k0 ⟨hi.size,fun x I=>hi.tl x (u x I).1,hi.pl,fun x I y hy=>hi.dj x I y (u y hy).1,fun k q hk t0=>?_,hi.pw,hi.pp,fun y hy x I=>hi.pa y hy x (u x I).1,⟨J,fun x e0 j0=>?_,fun x e0 y f2=>p0 x (u x e0).1 y (u y f2).1⟩,c,q1,by rw[r1,jA,b2],by rw[p1,lu,v1],fun e b1 t1=>?_,s1⟩ hc
  .rcases hi.NW k q hk t0 with h9|h9
   .refine .inl (Xu.2 ⟨h9,?_⟩);cases hbq:Xj k i with
    |false=>rfl
    |true=>rw[Xh hbq,hl]at t0;cases t0
   .exact .inr h9
  .obtain⟨t2,z2,d2,m1,m2,m3,m4,m5,m6,m7,m8⟩:=g0 x (u x e0).1 j0;refine⟨t2,z2,d2,m1,m2,m3,m4,m5,m6,fun j p C w0=>?_,m8⟩;rcases b0 j p C with rfl|⟨h1,h2⟩
   .rw[Nm.Hr];exact fun e=>p0 x (u x e0).1 _ c0 j0 hl (u x e0).2 e.symm
   .rw[ha.aA j h1];exact m7 j p h2 w0
  .rw[o1 e b1,fT];by_cases q0:d'=e
   .subst q0;rw[am ⟨rfl,by rw[hb.2.2.2];exact d1⟩];exact k4
   .rw[be (fun hc=>q0 (XP hc.1))];refine n1 e b1 (fun x I j0 he=>?_);by_cases j1:x.1=i
    .have h3:=hi.tl x I;rw[j1,hi.tl _ c0]at h3;rw[<-XP h3,o0]at he;exact q0 (XP he)
    .exact t1 x (Xu.2 ⟨I,by cases hb:Xj x.1 i with|false=>rfl|true=>exact absurd (Xh hb) j1⟩) j0 he
 clear h Y
 induction A generalizing listed a w with
 |zero=>
  intro hi hc;cases hl:listed.getD i jp with
  |true=>exact FI D hi hl hc
  |false=>have:=tm hl;omega
 |succ A ih=>
  intro hi hc;cases hl:listed.getD i jp with
  |true=>exact FI D hi hl hc
  |false=>
   obtain⟨J,g0,p0⟩:=hi.er;have a1: ∀x∈todo,aS x.2=kw->listed.getD x.1 jp=kw:=fun x I c2=>by
    cases hl:listed.getD x.1 jp with
    |false=>rfl
    |true=>have:=(g0 x I hl).alloc;rw[c2]at this;cases this
   refine⟨fun hr=>?_,fun j C=>?_⟩
   .have:=qI hi.size hd hr i;rw[hl]at this;cases this
   obtain⟨hu,q,hq,n0⟩:=mem_ready.1 C;have d0:all[j]? =io q:=by simpa using hq
   rcases hi.NW j q d0 hu with hm|hm
   .cases hja:aS q with
    |true=>
     obtain⟨v,w',z0,k0,s0⟩:=hi.early i0 hd a0 D m0 hm hja hu;unfold wpOp;simp only[hq];rw[am (fN (a0 j q d0 hja).1 _)];refine .inl ?_;unfold Oper.wp;rw[z0];simp only[Oper.upon];exact ih _ _ _ k0 s0 (by have:=fe hu;omega)
    |false=>
     exfalso;have f0: ∀k,listed.getD k jp=kw->waits q k=jp->False:=fun k hk hw=>by
      obtain⟨e,he,hb,i1⟩:=ic hw;have:=n0 e he hb;rw[i1,nL hk]at this;cases this
     have:=XC.1 hE _ hm;simp only[YY,Yf,XE,X0]at this;rcases this with h1|h1|h1|⟨y,hy,h0,h1⟩
     .have x1:=Xh h1;subst x1;rw[hi.tl _ c0]at d0;simp only[WR]at d0;rw[<-d0,f1]at hja;cases hja
     .rw[hja]at h1;cases h1
     .exact f0 i hl h1
     .exact f0 y.1 (a1 y hy h0) h1
   .obtain⟨v,hv,s0⟩:=hi.take i0 a0 hm C;refine wpOp_of_stOp (K:=fun a'=>a'=a.put q.dst v) (fun a' ha=>?_) (hv.stOp hq Z);subst ha;exact ih _ _ _ D s0 (by have:=fe hu;omega)
def jD:Nat->List Oper->List (Nat×Oper)
 |_,[]=> []
 |n,o::r=>(n,o)::jD (n+1) r
theorem mW: ∀(l:List Oper) (n i:Nat) (o:Oper),(i,o)∈jD n l↔n<=i∧l[i-n]? =io o
 | [],n,i,o=>by simp[jD]
 |c::l,n,i,o=>by
  simp only[jD,Xa,W3];rw[mW l (n+1) i o];by_cases h:i=n
  .subst h;simp only[true_and,WY,Zv,List.getElem?_cons_zero,WR];exact⟨fun h=>h.elim Eq.symm (fun h=>by omega),fun h=> .inl h.symm⟩
  .by_cases j:n<=i
   .rw[show i-n=(i-(n+1))+1 by omega,Zt];constructor
    .rintro(⟨h3,_⟩|⟨_,h3⟩)
     .exact absurd h3 h
     .exact⟨j,h3⟩
    .rintro⟨_,h3⟩;exact .inr ⟨by omega,h3⟩
   .constructor
    .rintro(⟨h3,_⟩|⟨h3,_⟩)
     .exact absurd h3 h
     .omega
    .rintro⟨h3,_⟩;exact absurd h3 j
def vM:List Oper->Bool
 | []=>jp
 |o::r=>match o.op with
  | .select ..=>kw
  |_=>vM r
theorem Gx{ops:Array Oper}(h:vM ops.toList=jp):Region.noSelect ops=jp:=by
 have key: ∀l:List Oper,vM l=jp-> ∀o∈l,(match o.op with| .select ..=>kw|_=>jp)=jp:=by
  intro l
  induction l with
  |nil=>intro _ o ho;cases ho
  |cons c l ih=>
   intro hl o ho;unfold vM at hl;split at hl
   .cases hl
   .rename_i j;rcases Xa.1 ho with rfl|ho
    .split
     .rename_i h;exact absurd h (j _ _)
     .rfl
    .exact ih hl o ho
 unfold Region.noSelect;rw[Array.all_eq_true_iff_forall_mem];exact fun o ho=>key _ h o (by simpa using ho)
variable {k:List KI}
theorem Jv{id:Nat}{ops:Array Oper}(hm:P.follows .mixedOrders=jp)(hns:Region.noSelect ops=jp)(hd:ja 0 ops.toList=jp)(A:jS P nt ops.toList)(h:GO P nt (.bR ops.toList (jD 0 ops.toList) []::k) Q s):GO P nt (.code (.region id ops jp)::k) Q s:=by
 intro M N a w hf;refine wp_region_any hm ?_;have B:=hf.drew;have u: ∀x∈jD 0 ops.toList,ops.toList[x.1]? =io x.2:=fun x j=>by
  obtain⟨_,D⟩:=(mW _ 0 x.1 x.2).1 j;simpa using D
 have C: ∀i,i<ops.size->(YV ops.size kw).getD i jp=kw:=fun i hi=>by simp[WM,hi]
 have y: ∀x∈jD 0 ops.toList,(YV ops.size kw).getD x.1 jp=jp->False:=fun x j hl=>by
  have:x.1<ops.size:=by simpa using(WT.1 (u x j)).1
  rw[C _ this]at hl;cases hl
 have:=h (by rw[Yv];exact hns) hd A ⟨M,N,s.nx,s.h,w⟩ M N (YV ops.size kw) a {w with drawn:=w.drawn+1} ops.size Ext.drew
  ⟨by simp,u,fun _ j=>(nomatch j),fun _ j=>(nomatch j),fun i o G _=> .inl ((mW _ 0 i o).2 ⟨W2 _,by simpa using G⟩),Y0,fun _ j=>(nomatch j),fun _ j=>(nomatch j),
   ⟨fun _=>0,fun x j hl=>(y x j hl).elim,fun x j _ _ hl=>(y x j hl).elim⟩,⟨a,B,rfl,rfl,fun _ _ _=>rfl,fun _ j=>(nomatch j)⟩⟩ (by simp)
 rw[Yv]at this;exact this
theorem Ce(h:GO P nt k Q s):GO P nt (.bR all [] pend::k) Q s:=SG h
def eqB:Bool->Bool->Bool
 |true,b=>b
 |false,jp=>kw
 |false,kw=>jp
theorem SE(a b:Bool):eqB a b=(a==b):=by cases a<;>cases b<;>rfl
def bQ(nt:NT)(all:List Oper)(f:AF)(o:Oper):Option Bool:=
 match o.guard with
 |none=>io jp
 |some (g,want)=>match guardOf all f g with
  |some (d,.kb t)=>bif Xm d nt then io (eqB t want) else is
  |some (_,.iv (.v (.tuple _)))=>io kw
  |_=>is
theorem fZ{o:Oper}{c:Bool}(h:bQ nt all s.f o=io c){b:Act}(hf:Fits M N s nt b w):Region.wanted o (Go.yielded all.toArray b.tmps)=c:=by
 unfold bQ at h;split at h
 .rename_i j;simp only[WR]at h;rw[fN j,h]
 .rename_i g x j;split at h
  .rename_i d t u;cases hb:Xm d nt with
   |false=>simp[hb]at h
   |true=>
    simp only[hb,cond_true,WR,SE]at h;have:=hf.uY u (WL hb);simp[Region.wanted,j,this,<-h]
  .rename_i d vs u;simp only[WR]at h;have:=hf.uX u;simp[Region.wanted,j,this,<-h]
  .cases h
theorem wc{i:Nat}{o:Oper}{s':AS}(u:(i,o)∈todo)(y:aS o=kw)(A: ∀x∈todo,waits o x.1=kw)(hg:bQ nt all s.f o=io jp)(j:xx all pend o=jp)(he:s'.h=s.h∧s'.nx=s.nx)
  (ho: ∀M N a w,Fits M N s nt a w-> ∃x,(execOp a.eval o).run P w= .ok (.value x) w∧Fits M N s' nt (a.put o.dst x) w) (h:GO P nt (.bR all (todo.filter fun x=>!Xj x.1 i) ((i,o)::pend)::k) Q s'):GO P nt (.bR all todo pend::k) Q s:=
 Fq u y A j he (fun M N b w hf=>let ⟨x,h1,h2⟩:=ho M N b w hf;⟨x,.inl ⟨fZ hg hf,.inl h1⟩,h2⟩) h
theorem Ju{i:Nat}{o:Oper}(u:(i,o)∈todo)(y:aS o=kw)(A: ∀x∈todo,waits o x.1=kw)(hg:bQ nt all s.f o=io kw)(j:xx all pend o=jp)
  (h:GO P nt (.bR all (todo.filter fun x=>!Xj x.1 i) ((i,o)::pend)::k) Q (ig o s)):GO P nt (.bR all todo pend::k) Q s:=
 Fq u y A j (jw o s) (fun _ _ _ _ hf=>⟨undef,.inr ⟨fZ hg hf,rfl⟩,hf.skip o⟩) h
theorem td{d:Nat}{t:Bool}(G:s.f.get d= .iv (.v (.bool t)))(h1:t=jp->GO P nt (.bR all todo pend::k) Q (setBool s (.tmp d) jp))(A:t=kw->GO P nt (.bR all todo pend::k) Q (setBool s (.tmp d) kw)):
  GO P nt (.bR all todo pend::k) Q s:=by
 have key:GO P nt (.bR all todo pend::k) Q (setBool s (.tmp d) t):=by
  cases t
  .exact A Z
  .exact h1 Z
 intro y hd x B M N listed a w u C hi D;obtain⟨b,hb,j⟩:=hi.ap;exact key y hd x B M N listed a w u C ⟨hi.size,hi.tl,hi.pl,hi.dj,hi.NW,hi.pw,hi.pp,hi.pa,hi.er,b,hb.setBool (c:= .tmp d) G,j⟩ D
theorem pr{E:List Nat}(hE:nI todo E=jp)(hne: ∃x∈todo,aS x.2=kw)(u: ∀x∈todo,aS x.2=jp-> ∀x∈pend,fb P nt all s x.2)
  (h: ∀j o,j∈E->(j,o)∈todo->(∀y,(j,y)∈todo->y=o)->aS o=kw∧(∀x∈todo,aS x.2=jp->waits o x.1=kw)∧gX all pend o=jp∧bQ nt all s.f o=io jp∧ ∃R,OT P nt o s R∧
   ∀s',R s'->(∀x∈a7 pend o,fb P nt all s' x.2)∧GO P nt (.bR all (todo.filter fun x=>!Xj x.1 j) (a7 pend o)::k) Q s'):GO P nt (.bR all todo pend::k) Q s:=
 SH hE hne u fun j o h1 A B=>let ⟨a,b,c,d,e⟩:=h j o h1 A B;⟨a,b,c, @fun _ _ _ _=>fZ d,e⟩
theorem GY{i:Nat}{o:Oper}{t:TypeId}{z:Value}{d:Nat}(A:(i,o)∈todo)(ht:o.op= .alloc t)(B: ∀w,(zeroValue t).run P w= .ok z w)(y:o.dst=io d)(hE:Av todo i=jp)
  (u: ∀x∈pend,fb P nt all s x.2) (j: ∀x∈pend,fb P nt all (kX s d (b6 z)) x.2)
  (h:GO P nt (.bR all (todo.filter fun x=>!Xj x.1 i) pend::k) Q (kX s d (b6 z))):GO P nt (.bR all todo pend::k) Q s:=JW A ht B y hE u j h
end
section
variable {P:Program} {nt:NT} {Q:AQ} {k:List KI} {s:AS}
theorem Ji{ty:Ty}(b0:bp P ty){o:Oper}{c:Call}(ho:o.op= .call c){g:FuncId}{asv:List PV}(ha:bN s.f c=io (g,asv)){fn:Func}{cb:Code}(B:P.funcs[g]? =io fn)(hb:fn.body=io cb)
  (hn:(fn.name== "runtime.NumGoroutine")=kw) {G:Nat} (f0:fn.ntmps=G) {l:List ResultVar} (hl:fn.results.toList=l) (e0:asv.length<=G) {R:AS->Prop}
  (h:AW P G cb (fun e t=>(e= .normal∨e= .ret)∧ ∃r s',je ty t l=io r∧putDst nt o r ⟨s.f,t.h,t.nx⟩=io s'∧R s') ⟨mN 0 asv,s.h,s.nx⟩):OT P nt o s R:=by
 intro M N a w hf K Z hk;obtain⟨vs,D,C,hv⟩:=wv hf ho ha (bc B hb hn);unfold Oper.wp;rw[D];simp only[Oper.upon];refine calls_of_wp B hb ?_;have A:Fits M N ⟨mN 0 asv,s.h,s.nx⟩ G {tmps:=vs.toArray++YV (fn.ntmps-vs.toArray.size) undef,defers:=[]} w:=by
  refine⟨hf.1,fun i=>?_,rfl,by simp;omega⟩;rw[wR,am (W2 _),Zw,WQ];cases hi:asv[i]? with
  |none=>exact .any _
  |some p=>
   have Y:i<vs.length:=by rw[<-C];exact(WT.1 hi).1
   have:=hv i p hi;have e:(vs.toArray++YV (fn.ntmps-vs.toArray.size) undef).getD i undef=vs.getD i undef:=by
    rw[WM,Xt (by simpa using Y),WQ];simp
   simp only[XV];rw[e];exact this
 refine AW.then h A fun e a' u I J t hx j hq=>?_;obtain⟨he,r,s',a0,hp,hR⟩:=hq;obtain⟨x,c0,d0⟩:=uB b0 j hl a0;have y:Fits I J ⟨s.f,t.h,t.nx⟩ nt a u:=⟨j.1,hf.2.1.ext hx,hf.2.2⟩
 have hK:K (a.put o.dst x) u:=by
  cases hd:o.dst with
  |none=>
   have:=dL hp hd;subst this;exact hk I J {f:=s.f,h:=t.h,nx:=t.nx} _ u hx y hR
  |some d=>
   obtain⟨h1,rfl⟩:=dK hp hd;exact hk I J {f:=(d,r)::s.f,h:=t.h,nx:=t.nx} _ u hx (y.put d _ x h1 d0) hR
 have:a'.defers=[]∧ ∃v,(results fn a'.tmps).run P u= .ok v u∧K (a.put o.dst v) u:=⟨j.2.2.1,x,c0,hK⟩
 rcases he with rfl|rfl<;>exact this
theorem Sx{ty:Ty}(A:bp P ty){all rest:List Oper}{o:Oper}{c:Call}(hg:o.guard=is)(ho:o.op= .call c){g:FuncId}{asv:List PV}(ha:bN s.f c=io (g,asv)){fn:Func}{C:Code}(u:P.funcs[g]? =io fn)(hb:fn.body=io C)
  (hn:(fn.name== "runtime.NumGoroutine")=kw) {B:Nat} (y:fn.ntmps=B) {l:List ResultVar} (hl:fn.results.toList=l) (x:asv.length<=B)
  (h:GO P B (.code C:: .NL nt s.f (je ty · l) o all rest::k) Q ⟨mN 0 asv,s.h,s.nx⟩):GO P nt (.ops all (o::rest)::k) Q s:=by
 refine bB (R:=fun t=>GO P nt (.ops all rest::k) Q t) hg (Ji A ho ha u hb hn y hl x ?_) (fun t ht=>ht);intro M N a w hf;refine AW.then h hf fun e a' w' G I t hx j D=>⟨G,I,t,hx,j,?_⟩
 simp only[kp]at D;obtain⟨he,r,s',h1,J,Y⟩:=D;exact⟨he,r,s',h1,J,Y⟩
theorem NF{ty:Ty}(G:bp P ty){all:List Oper}{todo pend:List (Nat×Oper)}{j:Nat}{o:Oper}{c:Call}(hrd:(j,o)∈todo)(hE:nI todo [j]=jp)(I: ∀x∈todo,waits o x.1=kw)(u: ∀x∈todo,aS x.2=jp-> ∀x∈pend,fb P nt all s x.2)(hpb:gX all pend o=jp)(hg:bQ nt all s.f o=io jp)(ho:o.op= .call c){g:FuncId}{asv:List PV}
  (ha:bN s.f c=io (g,asv)) {fn:Func} {cb:Code} (B:P.funcs[g]? =io fn) (hb:fn.body=io cb)
  (hn:(fn.name== "runtime.NumGoroutine")=kw) {Y:Nat} (D:fn.ntmps=Y) {l:List ResultVar} (hl:fn.results.toList=l) (C:asv.length<=Y)
  (h:GO P Y (.code cb:: .NN nt s.f (je ty · l) j o all todo pend::k) Q ⟨mN 0 asv,s.h,s.nx⟩):GO P nt (.bR all todo pend::k) Q s:=by
 have y:aS o=kw:=by simp[aS,ho]
 refine pr hE ⟨_,hrd,y⟩ u fun j' o' hj _ hu=>?_;simp only[W1]at hj;subst hj;have:=hu o hrd;subst this;refine⟨y,fun x J _=>I x J,hpb,hg,_,Ji G ho ha B hb hn D hl C (R:=fun s'=>(∀x∈a7 pend o,fb P nt all s' x.2)∧GO P nt (.bR all (todo.filter fun x=>!Xj x.1 j') (a7 pend o)::k) Q s') ?_,fun s' hs=>hs⟩;intro M N a w hf;refine AW.then h hf fun e a' w' M' N' t J A hq=>⟨M',N',t,J,A,?_⟩
 simp only[kp]at hq;obtain⟨he,r,s',h1,h2,h3,h4⟩:=hq;exact⟨he,r,s',h1,h2,h3,h4⟩
theorem UA.more{b:Code}{Q:AQ}: ∀{n:Nat} {s:AS},UA P nt b Q n s->n≠0
 |0,_,h=>h.elim
 |_+1,_,_=>by simp
theorem nC{b:Code}{n:Nat}(h:GO P nt (.code b:: .FO b n::k) Q s):GO P nt (.code (.loop b)::k) Q s:=by
 have h0:UA P nt b (kp P nt k Q) (n+1) s:=by
  intro M N a w hf;refine AW.then h hf fun e A G x y t D j hq=>⟨x,y,t,D,j,?_⟩
  cases e<;>exact hq
 intro M0 N0 a0 w0 c0
 let J:Act->World->Nat->Prop:=fun a w m=> ∃t M N,Ext M0 N0 (· <s.nx) s.h w0 M N (· <t.nx) t.h w∧Fits M N t nt a w∧UA P nt b (kp P nt k Q) m t
 have Y:J a0 w0 (n+1):=⟨s,M0,N0,.refl _ _ _ _ _,c0,h0⟩
 have da: ∀{p:Nat->Prop},(∃n,p n)-> ∃n,p n∧ ∀m,p m->n<=m:=by
  intro p ⟨n,hn⟩
  induction n using Nat.strongRecOn with
  |_ n ih=>
   by_cases C: ∃m,m<n∧p m
   .obtain⟨m,h1,I⟩:=C;exact ih m h1 I
   .exact⟨n,hn,fun m I=>Yz fun h1=>C ⟨m,h1,I⟩⟩
 refine wp_loop (fun a w=> ∃n,J a w n) (fun a w=>by classical exact if h: ∃n,J a w n then Zj (da h) else 0) ⟨_,Y⟩ fun a w b0=>?_;obtain⟨⟨t,M,N,D,hf,hu⟩,d0⟩:=YN (da b0);obtain⟨m,C⟩: ∃m,Zj (da b0)=m+1:=⟨Zj (da b0)-1,by have:=hu.more;omega⟩
 rw[C]at hu;refine AW.then hu hf fun e A G x y s' u j hr=>?_
 cases e with
 |normal=>
  have B:J A G m:=⟨s',x,y,D.trans u,j,hr⟩
  refine⟨⟨_,B⟩,?_⟩;simp only[dif_pos b0,dif_pos (⟨_,B⟩: ∃n,J A G n)];have:=(YN (da (⟨_,B⟩: ∃n,J A G n))).2 _ B;omega
 |_=>exact⟨x,y,s',D.trans u,j,hr⟩
theorem go_round{b:Code}{n:Nat}(h:GO P nt (.code b:: .FO b n::k) Q s):GO P nt (.FO b (n+1)::k) Q s:=by
 intro M N a w hf;refine AW.then h hf fun e B C u x t A j y=>⟨u,x,t,A,j,?_⟩
 cases e<;>exact y
end
section
variable {M:Mem} {N:Nm} {w:World} {n:Nat} {h:AH}
theorem bm{i:Nat}{h:AH}: ∀j o,AH.get ((i,is)::h) j=io o->j≠i∧h.get j=io o:=by
 intro j o u;rw[AH.ax]at u;split at u
 .cases u
 .rename_i x;exact⟨x,u⟩
theorem Rel.move(hr:Rel M N (· <n) h w){i:Nat}{o0:AO}(hi:h.get i=io o0)(h0:o0.real=jp)(D:World)(o:AO)(c0:D.os=w.os)(I:D.tape=w.tape)(J:D.output=w.output)(e0:D.heap.size=w.heap.size)
  (hk: ∀b,b≠N.aA i->D.heap[b]? =w.heap[b]?) (ho:OR M (N.with n (N.aA i) (N.ext i)) (· <n+1) D n o) (hd:w.drawn<=D.drawn:=by first|exact WY _|exact Yh _):
  Ext M N (· <n) h w M (N.with n (N.aA i) (N.ext i)) (· <n+1) ((n,io o)::(i,is)::h) D∧Rel M (N.with n (N.aA i) (N.ext i)) (· <n+1) ((n,io o)::(i,is)::h) D:=by
 have G:=N.dt n (N.aA i) (N.ext i);have u: ∀j p,AH.get ((n,io o)::(i,is)::h) j=io p->(j=n∧p=o)∨(j<n∧j≠i∧h.get j=io p):=by
  intro j p A;rw[AH.ax]at A;split at A
  .rename_i Y;exact .inl ⟨Y,by simpa using A.symm⟩
  .obtain⟨h1,B⟩:=bm j p A;exact .inr ⟨hr.used j p B,h1,B⟩
 have d0:=hr.used i o0 hi;refine⟨⟨c0,I,⟨J,hd⟩,by omega,fun b hb hn=>hk b (fun e=>hn i o0 hi h0 e.symm),.refl _,fun b c h1 B=>by simp[h1]at B,G,fun i hi=>by omega,fun j p A y=>?_⟩,?_⟩
 .rcases u j p A with⟨rfl,rfl⟩|⟨h1,B,C⟩
  .exact .inr ⟨i,o0,hi,h0,by simp⟩
  .exact .inr ⟨j,p,C,y,(G.aA j h1).symm⟩
 .refine⟨fun b c hb=>?_,fun j p A=>?_,fun j p A y=>?_,fun j p A=>?_,fun j k p q A a0 hp hq x=>?_⟩
  .have b0:b≠N.aA i:=fun e=>by
    have:=hr.dM i o0 hi h0;rw[<-e,hb]at this;simp at this
   exact(hr.dF b c hb).mono (hk b b0)
  .rcases u j p A with⟨rfl,rfl⟩|⟨h1,B,C⟩<;>omega
  .rcases u j p A with⟨rfl,rfl⟩|⟨h1,B,C⟩
   .simpa using hr.dM i o0 hi h0
   .rw[G.aA j h1];exact hr.dM j p C y
  .rcases u j p A with⟨rfl,rfl⟩|⟨h1,B,C⟩
   .exact ho
   .cases y:p.real with
    |true=>exact(hr.obj j p C).mono (.refl _) G (fun i hi=>by omega) h1 (hk _ (fun e=>B (hr.inj j i p o0 C hi y h0 e)))
    |false=>
     cases p with
     |row sz es=>cases es with
      |nil=>exact .inl Z
      |cons=>cases y
     |bw l T=>cases l with
      |nil=>exact .inl Z
      |cons=>cases y
     |_=>cases y
  .rcases u j p A with⟨rfl,rfl⟩|⟨h1,B,C⟩<;>rcases u k q a0 with⟨rfl,rfl⟩|⟨h4,h5,h6⟩
   .rfl
   .rw[G.aA k h4]at x;simp at x;exact absurd (hr.inj _ _ _ _ hi h6 h0 hq x).symm h5
   .rw[G.aA j h1]at x;simp at x;exact absurd (hr.inj _ _ _ _ C hi hp h0 x) B
   .rw[G.aA j h1,G.aA k h4]at x;exact hr.inj _ _ _ _ C h6 hp hq x
theorem Rel.del{U:Nat->Prop}(hr:Rel M N U h w)(i:Nat):Rel M N U ((i,is)::h) w:=
 ⟨hr.dF,fun j o u=>hr.used j o (bm j o u).2,fun j o u x=>hr.dM j o (bm j o u).2 x,fun j o u=>hr.obj j o (bm j o u).2,
  fun j k o p u hk=>hr.inj j k o p (bm j o u).2 (bm k p hk).2⟩
theorem Ext.del{y:Mem}{A:Nm}{U B:Nat->Prop}{C:AH}{D:World}(u:Ext M N U h w y A B C D)(i:Nat):Ext M N U h w y A B ((i,is)::C) D:=
 ⟨u.os,u.tape,u.output,u.size,u.gK,u.oC,u.iK,u.nm,u.ule,fun j o G x=>u.gx j o (bm j o G).2 x⟩
theorem Rel.swap{U:Nat->Prop}{i j:Nat}(u:i≠j){o p:Option AO}(hr:Rel M N U ((i,o)::(j,p)::h) w):Rel M N U ((j,p)::(i,o)::h) w:=by
 have e: ∀k,AH.get ((j,p)::(i,o)::h) k=AH.get ((i,o)::(j,p)::h) k:=by
  intro k;simp only[AH.ax];by_cases h1:k=i
  .subst h1;rw[be u,am Z,am Z]
  .simp[h1]
 exact⟨hr.dF,fun k o hk=>hr.used k o (by rw[<-e];exact hk),fun k o hk=>hr.dM k o (by rw[<-e];exact hk),fun k o hk=>hr.obj k o (by rw[<-e];exact hk),
  fun k l o p hk hl=>hr.inj k l o p (by rw[<-e];exact hk) (by rw[<-e];exact hl)⟩
end
inductive Src (h:AH) (sz:Nat):PV->List (List PV)->Prop
 |bL (n:Nat) (el:Nat->List IV):Src h sz (.iv (.bL sz n el)) ((Xq n).map fun k=>(el k).map .iv)
 |row (j off n:Nat) (fs:List (List PV)) (hj:h.get j=io (.row sz fs)) (hle:off+n<=fs.length):Src h sz (.sl j off n sz) ((fs.drop off).take n)
 |nil:Src h sz (.iv (.v (.slice is 0 0))) []
theorem jM{sz:Nat}: ∀{es:List (List PV)},(∀(k:Nat) (e:List PV),es[k]? =io e->e.length=sz)-> ∀j p,es.flatten[j]? =io p-> ∃k e i,es[k]? =io e∧e[i]? =io p∧j=k*sz+i
 | [],_,j,p,h=>by simp at h
 |e::r,hl,j,p,h=>by
  rw[ZQ]at h;have A:=hl 0 e Z;rcases XO j e.length with hj|hj
  .rw[Xb hj]at h;exact⟨0,e,j,rfl,h,by simp⟩
  .rw[Xc hj]at h;obtain⟨k,u,i,h1,x,y⟩:=jM (fun k e h=>hl (k+1) e (by simpa using h)) _ p h;exact⟨k+1,u,i,by simpa using h1,x,by rw[XG];omega⟩
theorem fu{sz:Nat}: ∀{es:List (List PV)},(∀(k:Nat) (e:List PV),es[k]? =io e->e.length=sz)->es.flatten.length=es.length*sz
 | [],_=>by simp
 |e::r,hl=>by
  rw[ZQ,WO,fu (fun k e h=>hl (k+1) e (by simpa using h)),hl 0 e Z,Xn,XG];omega
theorem jL{sz:Nat}: ∀{es:List (List PV)},(∀(k:Nat) (e:List PV),es[k]? =io e->e.length=sz)-> ∀k e i p,es[k]? =io e->e[i]? =io p->es.flatten[k*sz+i]? =io p
 | [],_,k,e,i,p,h,_=>by simp at h
 |e0::r,hl,k,e,i,p,h,hi=>by
  rw[ZQ];have j:=hl 0 e0 Z;cases k with
  |zero=>
   simp at h;subst h;rw[Yq,Xd,Xb (WT.1 hi).1];exact hi
  |succ k=>
   rw[Xc (by rw[j,XG];omega)];rw[show(k+1)*sz+i-e0.length=k*sz+i by rw[j,XG];omega];exact jL (fun k e h=>hl (k+1) e (by simpa using h)) k e i p (by simpa using h) hi
section
variable {P:Program} {ty:Ty} {M:Mem} {N:Nm} {w:World} {nt:NT} {s:AS} {a:Act}
theorem Src.ok{sz:Nat}{p:PV}{news:List (List PV)}(hs:Src s.h sz p news)(hf:Fits M N s nt a w){y:Value}(hy:VR M N (· <s.nx) p y):
  (∀(k:Nat) (e:List PV),news[k]? =io e->e.length=sz)∧ ∃G c,y= .slice G news.length c∧(news≠ []-> ∃b a0,G=io ⟨b,a0,is⟩∧
   ∀j p,news.flatten[j]? =io p-> ∃u,w.cell? ⟨b,a0+j,is⟩=io u∧VR M N (· <s.nx) p u):=by
 cases hs with
 |bL n el=>
  cases hy with
  |iv _ _ hi=>
   cases hi with
   |fL _ _ G c=>exact⟨by simp,G,c,by simp,by simp⟩
   |bL _ _ _ b a0 c hn hc hl hm hr=>
    have B: ∀(k:Nat) (e:List PV),((Xq n).map fun k=>(el k).map PV.iv)[k]? =io e->e.length=sz:=by
     intro k e x;rw[WX,WZ]at x;obtain⟨k',C,rfl⟩:=x;obtain⟨h1,A⟩:=WT.1 C;simp at A h1;subst A;simpa using hl k h1
    refine⟨B,_,c,by simp,fun _=>⟨b,a0,rfl,fun j p hp=>?_⟩⟩;obtain⟨k,e,i,h1,A,rfl⟩:=jM B j p hp;rw[WX,WZ]at h1;obtain⟨k',C,rfl⟩:=h1;obtain⟨I,h4⟩:=WT.1 C;simp at h4 I;subst h4;rw[WX,WZ]at A;obtain⟨q,hq,rfl⟩:=A;have hi:i<sz:=by rw[<-hl k I];exact(WT.1 hq).1
    have h5:=hm k i I hi;cases hv:M.cell b (a0+k*sz+i) with
    |none=>simp[hv]at h5
    |some u=>
     refine⟨u,by rw[<-X3];exact hf.1.I3 hv,.iv _ _ ?_⟩;have:=hr k i q I hq;rw[hv]at this;exact this
 |row j a0 n fs hj hle=>
  have J:=hf.1.obj j _ hj;have base:(∀(k:Nat) (e:List PV),fs[k]? =io e->e.length=sz)-> ∀(k:Nat) (e:List PV),((fs.drop a0).take n)[k]? =io e->e.length=sz:=by
   intro h k e x;rw[Xy]at x;split at x
   .rw[XK]at x;exact h _ e x
   .cases x
  cases hy with
  |lq _ _ hU=>exact⟨by simp,is,0,by simp,by simp⟩
  |sle _ _ cap hU hc x=>exact⟨by simp,io ⟨N.aA j,0,is⟩,cap,by simp,by simp⟩
  |sl _ _ _ _ cap hU h0 hl hc x=>
   rcases J with rfl|⟨hsz,c,T,g1,g2,g3,g4,g5⟩
   .simp at hle;omega
   refine⟨base g4,_,cap,by simp;rw[Nat.min_eq_left (by omega)],fun _=>⟨N.aA j,a0*sz,rfl,fun i p hp=>?_⟩⟩;obtain⟨k,e,D,h1,A,rfl⟩:=jM (base g4) i p hp;rw[Xy]at h1;split at h1
   .rename_i hk;rw[XK]at h1;have c0:D<sz:=by rw[<-g4 _ e h1];exact(WT.1 A).1
    have Y:a0+k<fs.length:=(WT.1 h1).1;have b0:(a0+k)*sz+D<c.size:=by
     have:(a0+k+1)*sz<=fs.length*sz:=Xi _ Y;rw[XG]at this;omega
    refine⟨c.getD ((a0+k)*sz+D) undef,?_,g5 _ e _ p h1 A⟩;rw[show a0*sz+(k*sz+D)=(a0+k)*sz+D by rw[XG];omega];simp[World.cell?,g1,WM,b0]
   .cases h1
 |nil=>
  cases hy with
  |iv _ _ hi=>cases hi with
   |v=>exact⟨by simp,is,0,rfl,by simp⟩
theorem ll{l:List PV}{b off:Nat}(h: ∀j p,l[j]? =io p-> ∃u,w.cell? ⟨b,off+j,is⟩=io u∧VR M N (· <s.nx) p u):
  ∃vs:List Value,vs.length=l.length∧(∀(j:Nat) (u:Value),vs[j]? =io u->w.cell? ((⟨b,off,is⟩:Addr).add j)=io u)∧ ∀(j:Nat) (p:PV),l[j]? =io p->VR M N (· <s.nx) p (vs.getD j undef):=by
 refine⟨(Xq l.length).map fun j=>(w.cell? ⟨b,off+j,is⟩).getD undef,by simp,fun j u hu=>?_,fun j p B=>?_⟩
 .rw[WX,WZ]at hu;obtain⟨D,x,rfl⟩:=hu;obtain⟨h1,A⟩:=WT.1 x;simp at h1 A;subst A;obtain⟨u,hu,_⟩:=h j _ (WU h1);rw[c7,hu];rfl
 .have y:j<l.length:=(WT.1 B).1;obtain⟨u,hu,C⟩:=h j p B;rw[WQ];simp[y,hu,C]
theorem ji(t ty e:TypeId)(i:TypeInfo)(ht:P.underlying t=io (.slice e))(hi:P.info? e=io i)(T:TypeId)
  (g x A:Nat) (y:Array Value) (hg:w.heap[g]? =io (.cells y T (0,0)))
  (a:Addr) (m c:Nat) (news:List Value) (hl:news.length=m*i.size) (B: ∀(j:Nat) (u:Value),news[j]? =io u->w.cell? (a.add j)=io u) (h1: ∀u∈news,u.oneCell'=jp)
  (C:x+m<=A) (D:x*i.size+news.length<=y.size):
  (Builtin.append_ #[t,t] ty #[.slice (io ⟨g,0,is⟩) x A,.slice (io a) m c]).run P w=
   .ok (.slice (io ⟨g,0,is⟩) (x+m) A) (w.setRow g (y.toList.take (x*i.size)++news++y.toList.drop (x*i.size+news.length)).toArray):=by
 have hf:=run_firstCells_some (P:=P) w i.size m a m c news hl B;have G:=run_storeCells_at P g (x*i.size) T news 0 y w hg (by simpa using D) h1;simp only[Yp]at G;simp[Builtin.append_,run_underlying ht,sizeOf,typeInfo,hi,Builtin.lenOf,C,hf,Addr.add_lit,G]
theorem fp(t ty e:TypeId)(i:TypeInfo)(ht:P.underlying t=io (.slice e))(hi:P.info? e=io i)(y:Option Addr)(u j:Nat)(x:u<=j)(A:Option Addr)(c:Nat)(hs:y=is∨ ∃b o,y=io ⟨b,o,is⟩):
  (Builtin.append_ #[t,t] ty #[.slice y u j,.slice A 0 c]).run P w= .ok (.slice y u j) w:=by
 have hf:(Builtin.firstCells i.size 0 (.slice A 0 c)).run P w= .ok #[] w:=by
  cases A with
  |none=>simp[Builtin.firstCells]
  |some a=>simp[Builtin.firstCells,loadCells,loadCellsFrom]
 rcases hs with rfl|⟨b,o,rfl⟩
 .simp[Builtin.append_,run_underlying ht,sizeOf,typeInfo,hi,Builtin.lenOf,x,hf]
 .simp[Builtin.append_,run_underlying ht,sizeOf,typeInfo,hi,Builtin.lenOf,x,hf,storeCells]
def iM(s:AS)(i sz:Nat)(es news:List (List PV)):AS:=match s with|⟨f,h,n⟩=>⟨f,(n,io (.row sz (es++news)))::(i,is)::h,n+1⟩
theorem Kw(s:AS)(i sz:Nat)(es news:List (List PV)):(iM s i sz es news).h=(s.nx,io (.row sz (es++news)))::(i,is)::s.h:=by cases s;rfl
theorem SP(s:AS)(i sz:Nat)(es news:List (List PV)):(iM s i sz es news).f=s.f:=by cases s;rfl
theorem ib(s:AS)(i sz:Nat)(es news:List (List PV)):(iM s i sz es news).nx=s.nx+1:=by cases s;rfl
theorem jc{i sz:Nat}{es news:List (List PV)}{j:Mem}{u:Nm}{x:World}(hf:Fits M N s nt a w)(y:Ext M N (· <s.nx) s.h w j u (· <s.nx+1) ((s.nx,io (.row sz (es++news)))::(i,is)::s.h) x)
  (hr:Rel j u (· <s.nx+1) ((s.nx,io (.row sz (es++news)))::(i,is)::s.h) x):
  Ext M N (· <s.nx) s.h w j u (· <(iM s i sz es news).nx) (iM s i sz es news).h x∧Fits j u (iM s i sz es news) nt a x:=by
 rw[Kw,ib];refine⟨y,?_,?_,hf.2.2⟩
 .rw[Kw,ib];exact hr
 .rw[SP,ib];exact hf.2.1.ext y
theorem Ext.swap{U C:Nat->Prop}{h x:AH}{A:Mem}{B:Nm}{D:World}{i j:Nat}(y:i≠j){o p:Option AO}(u:Ext M N U h w A B C ((i,o)::(j,p)::x) D):Ext M N U h w A B C ((j,p)::(i,o)::x) D:=by
 have e: ∀k,AH.get ((j,p)::(i,o)::x) k=AH.get ((i,o)::(j,p)::x) k:=by
  intro k;simp only[AH.ax];by_cases h1:k=i
  .subst h1;rw[be y,am Z,am Z]
  .simp[h1]
 exact⟨u.os,u.tape,u.output,u.size,u.gK,u.oC,u.iK,u.nm,u.ule,fun k o hk=>u.gx k o (by rw[<-e];exact hk)⟩
theorem SO(z1:bp P ty){o:Oper}{x y:Operand}{t u:TypeId}(ho:o.op= .call ⟨.builtin .append, #[x,y], #[t,t]⟩){e eu:bD}(ht:ty t=io e)(hk:e.k= .aP (.slice u))(hu:ty u=io eu)
  {i len sz:Nat} {es news:List (List PV)} {py:PV} (hx:ev s.f x= .sl i 0 len sz) (hi:s.h.get i=io (.row sz es)) (D:es.length=len) (m2:eu.size=sz) (hz:eu.zero.cells.size=sz) (l2:0<sz)
  (j2:ev s.f y=py) (hy:Src s.h sz py news) (n1: ∀e∈news,dy e=jp) (hb:(len+news.length)*eu.bytes<=140737488355328) (s2:len+news.length<=140737488355328)
  {s':AS} (hp:putDst nt o (.sl s.nx 0 (len+news.length) sz) (iM s i sz es news)=io s'):OT P nt o s (fun t=>t=s'):=by
 refine OT.value hp fun M N a w hf=>?_;subst m2;obtain⟨⟨ii,r0,x0,e2,w1⟩,_⟩:=z1 u _ hu
 have t0:P.underlying t=io (.slice u):=by
  have:=(z1 t _ ht).2.1;rw[hk]at this;exact this.1
 have r1:=aN hf.2.1 x;rw[hx]at r1;have a2:=aN hf.2.1 y;rw[j2]at a2;obtain⟨J,ao,c,r2,e0⟩:=hy.ok hf a2;have B: ∀v w',(Builtin.append_ #[t,t] o.type #[a.eval x,a.eval y]).run P w= .ok v w'->(execOp a.eval o).run P w= .ok (.value v) w':=by
  intro v w' h;simp only[execOp,ho,resolve];simp[invoke,builtin,h]
 rw[r2]at B;have t2:i<s.nx:=hf.1.used i _ hi;have z0:s.nx≠i:=by omega
 have i2:=hf.1.obj i _ hi;have c0:(len+news.length)*ii.bytes<=140737488355328:=by rw[e2];exact hb
 have i0: ∀(G vs:List Value) (a0:Nat),G.length=es.length*eu.size->vs.length=news.length*eu.size->(∀(k:Nat) (e:List PV) (j:Nat) (p:PV),es[k]? =io e->e[j]? =io p->VR M N (· <s.nx) p (G.getD (k*eu.size+j) undef))->
   (∀(k:Nat) (e:List PV),es[k]? =io e->e.length=eu.size)->(∀(j:Nat) (p:PV),news.flatten[j]? =io p->VR M N (· <s.nx) p (vs.getD j undef))->len+news.length<=a0->a0<=maxLen->0<len+news.length->
   ∀z:Array Value,z=G.toArray++vs.toArray++Builtin.zeroCells eu.zero.cells (a0-(len+news.length))->
   ∃M' N',Ext M N (· <s.nx) s.h w M' N' (· <(iM s i eu.size es news).nx) (iM s i eu.size es news).h (w.drew.alloc (.cells z u))∧Fits M' N' (iM s i eu.size es news) nt a (w.drew.alloc (.cells z u))∧
    VR M' N' (· <(iM s i eu.size es news).nx) (.sl s.nx 0 (len+news.length) eu.size) (.slice (io ⟨w.heap.size,0,is⟩) (len+news.length) a0):=by
  intro G vs a0 m1 Y o2 v1 n2 m0 d2 o1 z s1;have g0:z.size=a0*eu.size:=by
   rw[s1,Yr,Yr,size_zeroCells,hz];simp only[Y1,m1,Y,D];rw[<-XG,<-XG,Nat.add_sub_cancel' m0]
  obtain⟨N',h1,h2,h3,h4,h5⟩:=hf.1.drew.alloc (.cells z u) (.row eu.size (es++news)) z.size (fun N' g1 g2 g3=>by
   refine .inr ⟨l2,z,u,by rw[g1];exact heap_alloc_new _ _,g2.symm,?_,fun k e A=>?_,fun k e j p A I=>?_⟩
   .rw[g0,WO,D];exact Xi _ m0
   .rcases XO k es.length with hk|hk
    .rw[Xb hk]at A;exact v1 k e A
    .rw[Xc hk]at A;exact J _ e A
   .rcases XO k es.length with hk|hk
    .rw[Xb hk]at A;have j1:j<eu.size:=by rw[<-v1 k e A];exact(WT.1 I).1
     have q0:k*eu.size+j<G.length:=by
      rw[m1];have:(k+1)*eu.size<=es.length*eu.size:=Xi _ hk;rw[XG]at this;omega
     have:=o2 k e j p A I;have e1:z.getD (k*eu.size+j) undef=G.getD (k*eu.size+j) undef:=by
      rw[s1,WM,Zs,Xt (by simpa using q0),WQ];simp
     rw[e1];exact this.mono (.refl _) g3 (fun i hi=>by omega)
    .rw[Xc hk]at A;have j1:j<eu.size:=by rw[<-J _ e A];exact(WT.1 I).1
     have k1:k-es.length<news.length:=(WT.1 A).1;have i1:=jL J _ e j p A I;have q0:(k-es.length)*eu.size+j<vs.length:=by
      rw[Y];have:(k-es.length+1)*eu.size<=news.length*eu.size:=Xi _ k1;rw[XG]at this;omega
     have f0:k*eu.size+j=G.length+((k-es.length)*eu.size+j):=by
      rw[m1,Z7];have:es.length*eu.size<=k*eu.size:=Xi _ hk;omega
     have:=n2 _ p i1;have e1:z.getD (k*eu.size+j) undef=vs.getD ((k-es.length)*eu.size+j) undef:=by
      rw[s1,WM,f0,Xt (by simp;omega),YJ (by simp),WQ];simp
     rw[e1];exact this.mono (.refl _) g3 (fun i hi=>by omega))
  have k2:=(h5.del i).swap (Ne.symm z0);have p2:=(((Ext.drew (M:=M) (N:=N) (U:=(· <s.nx)) (h:=s.h) (w:=w)).trans h4).del i).swap (Ne.symm z0);obtain⟨g1,g2⟩:=jc hf p2 k2;refine⟨M,N',g1,g2,?_⟩;rw[ib];have:=VR.sl (M:=M) (N:=N') (U:=(· <s.nx+1)) s.nx 0 (len+news.length) eu.size a0 (by omega) o1 m0 d2 (by rw[h2,g0];simp);rw[h1,Yq]at this;exact this
 have o0: ∀vs:List Value,vs.length=news.flatten.length->vs.length=news.length*ii.size:=fun vs h=>by rw[h,fu J,x0]
 generalize a.eval x=vx at r1 B;cases r1 with
 |lq _ _ hU=>
  have A:es=[]:=by simpa using D
  subst A;by_cases hm:news=[]
  .subst hm;have C:=fp (P:=P) (w:=w) t o.type u ii t0 r0 is 0 0 (WY _) ao c (.inl Z);obtain⟨h1,h2⟩:=hf.1.CU eu.size;obtain⟨g1,g2⟩:=jc (es:=[]) (news:=[]) (i:=i) hf ((h1.del i).swap (Ne.symm z0)) ((h2.del i).swap (Ne.symm z0));exact⟨_,w,M,N,B _ _ C,g1,g2,.lq _ _ (by rw[ib];omega)⟩
  .obtain⟨b,b1,d1,b0⟩:=e0 hm;subst d1;obtain⟨vs,Y,a1,w0⟩:=ll (s:=s) b0;have x1:0<news.length:=X5.2 hm;have C:=run_append_nil (P:=P) w t o.type u ii eu.zero t0 r0 w1 ⟨b,b1,is⟩ news.length c vs (o0 vs Y) a1 x1 (by omega) (by simp only[X8,Xd]at c0;omega);obtain⟨M',N',g1,g2,g3⟩:=i0 [] vs (grownCap w news.length 0 u) (by simp) (by rw[Y,fu J]) (by simp) (by simp) w0 (by simpa using grownCap_ge w news.length 0 u) (grownCap_le_maxLen w _ _ _ (by simp only[maxLen];omega)) (by omega) _ Z;simp only[Xd,Xg] at*
   exact⟨_,_,M',N',B _ _ C,by simpa using g1,by simpa using g2,by simpa using g3⟩
 |sl _ _ _ _ a0 hU h0 hl hc hext=>
  rcases i2 with rfl|⟨hsz0,cur,T,q1,q2,q3,q4,q5⟩
  .simp at D;omega
  have k0:(AO.row eu.size es).real=jp:=by cases es with
   |nil=>simp at D;omega
   |cons=>rfl
  rw[Yq]at B;have n0:cur.size=a0*eu.size:=by rw[q2,<-hext,Xd]
  by_cases hm:news=[]
  .subst hm;have C:=fp (P:=P) (w:=w) t o.type u ii t0 r0 (io ⟨N.aA i,0,is⟩) len a0 hl ao c (.inr ⟨_,_,rfl⟩)
   obtain⟨h1,h2⟩:=hf.1.move hi k0 w (.row eu.size (es++ [])) Z Z Z Z (fun _ _=>rfl) (by
    rw[XA]
    exact .inr ⟨hsz0,cur,T,by simpa using q1,by simpa using q2,q3,q4,fun k e j p A I=>(q5 k e j p A I).mono (.refl _) (N.dt _ _ _) (fun i hi=>by omega)⟩)
   obtain⟨g1,g2⟩:=jc (es:=es) (news:=[]) (i:=i) hf h1 h2;refine⟨_,w,M,_,B _ _ C,g1,g2,?_⟩;have:=VR.sl (M:=M) (N:=N.with s.nx (N.aA i) (N.ext i)) (U:=(· <s.nx+1)) s.nx 0 len eu.size a0 (by omega) h0 hl hc (by simpa using hext);rw[ib];simpa using this
  .obtain⟨b,b1,d1,b0⟩:=e0 hm;subst d1;obtain⟨vs,Y,a1,w0⟩:=ll (s:=s) b0;have x1:0<news.length:=X5.2 hm;have p0:vs.length=news.length*eu.size:=by rw[Y,fu J]
   have s0: ∀(j:Nat) (v:Value),(cur.toList.take (len*eu.size))[j]? =io v->w.cell? ((⟨N.aA i,0,is⟩:Addr).add j)=io v:=by
    intro j v hv;rw[Xy]at hv;split at hv
    .rw[c7,Xd];simp only[World.cell?,q1];simpa using hv
    .cases hv
   have v2:len*eu.size<=cur.size:=by rw[n0];exact Xi _ hl
   have j0: ∀(k:Nat) (e:List PV) (j:Nat) (p:PV),es[k]? =io e->e[j]? =io p->k*eu.size+j<len*eu.size:=by
    intro k e j p A I;have hk:k<len:=by rw[<-D];exact(WT.1 A).1
    have j1:j<eu.size:=by rw[<-q4 k e A];exact(WT.1 I).1
    have:(k+1)*eu.size<=len*eu.size:=Xi _ hk;rw[XG]at this;omega
   by_cases d0:len+news.length<=a0
   .have f1:len*eu.size+vs.length<=cur.size:=by rw[p0,<-XG,n0];exact Xi _ d0
    have v0: ∀v∈vs,v.oneCell'=jp:=by
     intro v hv;obtain⟨j,I⟩:=XH hv;have f2:j<news.flatten.length:=by rw[<-Y];exact(WT.1 I).1
     have hp:=WU f2;obtain⟨k,e,i',h1,h2,_⟩:=jM J j _ hp;have:=(w0 j _ hp).one (gE (n1 e (Xs h1)) i' _ h2);rw[WQ,I]at this;exact this
    have C:=ji (P:=P) (w:=w) t o.type u ii t0 r0 T (N.aA i) len a0 cur q1 ⟨b,b1,is⟩ news.length c vs (o0 vs Y) a1 v0 d0 (by rw[x0];exact f1);rw[x0]at C;generalize hL:(cur.toList.take (len*eu.size)++vs++cur.toList.drop (len*eu.size+vs.length)).toArray=L at C;have t1:L.size=cur.size:=by rw[<-hL];simp;omega
    have p1:=setRow_heap w (N.aA i) cur L T (0,0) q1;have c2: ∀j,j<len*eu.size->L.getD j undef=cur.getD j undef:=by
     intro j I;rw[<-hL,WM,WM];simp only[XD];rw[W6,Xb (by simp;omega),Xy,am I,Xo]
    have b2: ∀j,j<vs.length->L.getD (len*eu.size+j) undef=vs.getD j undef:=by
     intro j I;rw[<-hL,WM,WQ];simp only[XD];rw[Xb (by simp;omega),Xc (by simp;omega)];congr 2;simp;omega
    obtain⟨h1,h2⟩:=hf.1.move hi k0 (w.setRow (N.aA i) L) (.row eu.size (es++news)) Z Z Z (by simp) (fun b hb=>by
      simp only[World.setRow,Xp]
      rw[be (fun e=>hb e.symm)]) (by
     refine .inr ⟨hsz0,L,T,by simpa using p1,by rw[t1];simpa using q2,?_,fun k e A=>?_,fun k e j p A I=>?_⟩
     .rw[t1,n0,WO,D];exact Xi _ d0
     .rcases XO k es.length with hk|hk
      .rw[Xb hk]at A;exact q4 k e A
      .rw[Xc hk]at A;exact J _ e A
     .rcases XO k es.length with hk|hk
      .rw[Xb hk]at A;rw[c2 _ (j0 k e j p A I)];exact(q5 k e j p A I).mono (.refl _) (N.dt _ _ _) (fun i hi=>by omega)
      .rw[Xc hk]at A;have j1:j<eu.size:=by rw[<-J _ e A];exact(WT.1 I).1
       have k1:k-es.length<news.length:=(WT.1 A).1;have i1:=jL J _ e j p A I;have q0:(k-es.length)*eu.size+j<vs.length:=by
        rw[p0];have:(k-es.length+1)*eu.size<=news.length*eu.size:=Xi _ k1;rw[XG]at this;omega
       have f0:k*eu.size+j=len*eu.size+((k-es.length)*eu.size+j):=by
        rw[<-D,Z7];have:es.length*eu.size<=k*eu.size:=Xi _ hk;omega
       rw[f0,b2 _ q0]
       exact(w0 _ p i1).mono (.refl _) (N.dt _ _ _) (fun i hi=>by omega))
    obtain⟨g1,g2⟩:=jc (es:=es) (news:=news) (i:=i) hf h1 h2;refine⟨_,_,M,_,B _ _ C,g1,g2,?_⟩;have:=VR.sl (M:=M) (N:=N.with s.nx (N.aA i) (N.ext i)) (U:=(· <s.nx+1)) s.nx 0 (len+news.length) eu.size a0 (by omega) (by omega) d0 hc (by simpa using hext);rw[ib];simpa using this
   .have C:=run_append_grow (P:=P) w t o.type u ii eu.zero t0 r0 w1 ⟨N.aA i,0,is⟩ len a0 (cur.toList.take (len*eu.size)) (by rw[x0];simp;omega) s0 ⟨b,b1,is⟩ news.length c vs (o0 vs Y) a1 (by omega) (by omega)
     (growslice_fits (by omega) c0)
    obtain⟨M',N',g1,g2,g3⟩:=i0 (cur.toList.take (len*eu.size)) vs (grownCap w (len+news.length) a0 u) (by rw[D];simp;omega) p0 (fun k e j p A I=>by
      have:=q5 k e j p A I;have q0:=j0 k e j p A I;rw[WQ,Xy,am q0,Xo]
      rw[WM]at this;exact this) q4 w0 (grownCap_ge w _ _ _) (grownCap_le_maxLen w _ _ _ (by simp only[maxLen];omega)) (by omega) _ Z
    exact⟨_,_,M',N',B _ _ C,g1,g2,g3⟩
def xh(h:AH)(sz:Nat):PV->Option (List (List PV))
 | .iv (.bL sz' n el)=>match Xj sz' sz with
  |true=>io ((Xq n).map fun k=>(el k).map .iv)
  |false=>is
 | .iv (.v (.slice is 0 0))=>io []
 | .sl j off n sz'=>match Xj sz' sz,h.get j with
  |true,io (.row sz2 fs)=>match Xj sz2 sz,YR (off+n) fs.length with
   |true,jp=>io ((fs.drop off).take n)
   |_,_=>is
  |_,_=>is
 |_=>is
theorem hZ{h:AH}{sz:Nat}{p:PV}{news:List (List PV)}(hs:xh h sz p=io news):Src h sz p news:=by
 unfold xh at hs;split at hs
 .split at hs
  .rename_i hb;simp only[WR]at hs;have:=Xh hb;subst this;subst hs;exact .bL _ _
  .cases hs
 .simp only[WR]at hs;subst hs;exact .nil
 .split at hs
  .rename_i j A;split at hs
   .rename_i u x;simp only[WR]at hs;have h1:=Xh j;have y:=Xh u;subst h1;subst y;subst hs;exact .row _ _ _ _ A (WL x)
   .cases hs
  .cases hs
 .cases hs
def allOnes:List (List PV)->Bool
 | []=>jp
 |e::r=>match dy e with
  |true=>allOnes r
  |false=>kw
theorem gm: ∀{l:List (List PV)},allOnes l=jp-> ∀e∈l,dy e=jp
 | [],_,e,h=>by cases h
 |c::l,h,e,he=>by
  simp only[allOnes]at h;split at h
  .rename_i j;rcases Xa.1 he with rfl|he
   .exact j
   .exact gm h e he
  .cases h
def u2(s:AS)(t sz:Nat):AS:=match s with|⟨f,h,n⟩=>⟨(t,.sl n 0 0 sz)::f,(n,io (.row sz []))::h,n+1⟩
theorem KQ{o:Oper}{R:AS->Prop}{t sz:Nat}(ht:s.f.get t= .iv (.v (.slice is 0 0)))(h:OT P nt o (u2 s t sz) R):OT P nt o s R:=by
 intro M N a w hf K Z hk;obtain⟨G,I,J⟩:=s;obtain⟨h1,C⟩:=hf.1.CU sz;have u:Fits M N (u2 ⟨G,I,J⟩ t sz) nt a w:=by
  refine⟨C,fun k=>?_,hf.2.2⟩;simp only[u2];rw[AF.ax];split
  .rename_i x;subst x;have:=hf.2.1 k;simp only at ht this;rw[ht]at this;generalize a.tmps.getD k undef=v at this;cases this with
   |iv _ _ h=>cases h with
    |v=>exact .lq _ _ (YA _)
  .exact(hf.2.1 k).mono (.refl _) (.refl _ _) (fun i hi=>Ys hi)
 exact h M N a w u K Z fun y A s' B Y D j hr=>hk y A s' B Y (h1.trans D) j hr
def Dv(s:AS)(op:Op):Option (Nat×TypeId):=
 match op with
 | .call ⟨.builtin .append,args,tys⟩=>match args.toList,tys.toList with
  | [.tmp t0,_],[t,_]=>match s.f.get t0 with
   | .iv (.v (.slice is 0 0))=>io (t0,t)
   |_=>is
  |_,_=>is
 |_=>is
theorem Gy{op:Op}{t0:Nat}{t:TypeId}(h:Dv s op=io (t0,t)):s.f.get t0= .iv (.v (.slice is 0 0)):=by
 unfold Dv at h;split at h
 .split at h
  .split at h
   .rename_i j;simp only[WR,W3]at h;rw[<-h.1];exact j
   .cases h
  .cases h
 .cases h
end
end
section
section
variable {kc:KC} {V:Type} {M:Mem} {e:V->IV} {m:List (kc.K×V)} {ents:Array MapEntry} {clock:Nat}
theorem j3.DR(h:j3 M kc e m ents clock){j:Nat}(hj:j<ents.size):ents.getD j co=ents[j]:=by simp[WM,hj]
theorem j3.set(h:j3 M kc e m ents clock){i:Nat}{k:kc.K}{v:V}{y:Value}(hv:IR M (e v) y):j3 M kc e (m.set i (k,v)) (ents.modify i fun x=>{x with key:=kc.ek k,val:=y}) clock:=by
 have hb: ∀(j:Nat) (f:MapEntry),(ents.modify i fun x=>{x with key:=kc.ek k,val:=y})[j]? =io f-> ∃g,ents[j]? =io g∧g.born=f.born:=by
  intro j f hf;rw[Xp]at hf;split at hf
  .obtain⟨g,I,rfl⟩:=WZ.1 hf;exact⟨g,I,rfl⟩
  .exact⟨f,hf,rfl⟩
 have J: ∀(j:Nat) (x:kc.K×V),(m.set i (k,v))[j]? =io x->(j=i∧x=(k,v)∧i<m.length)∨(j≠i∧m[j]? =io x):=by
  intro j x u;rw[YD]at u;split at u
  .rename_i B;split at u
   .simp only[WR]at u;exact .inl ⟨B.symm,u.symm,by assumption⟩
   .cases u
  .rename_i B;exact .inr ⟨fun e=>B e.symm,u⟩
 refine⟨by simp[h.size],fun j x u=>?_,fun j x u=>?_,fun j l f g hf I G=>?_,fun j f hf=>?_⟩
 .rcases J j x u with⟨rfl,rfl,C⟩|⟨h1,A⟩
  .have:j<ents.size:=by rw[h.size];exact C
   rw[WM,Xp,am Z,Xx this];rfl
  .have:=h.key j x A;rw[WM,Xp,be (fun e=>h1 e.symm),<-WM];exact this
 .rcases J j x u with⟨rfl,rfl,C⟩|⟨h1,A⟩
  .have:j<ents.size:=by rw[h.size];exact C
   rw[WM,Xp,am Z,Xx this];exact hv
  .have:=h.val j x A;rw[WM,Xp,be (fun e=>h1 e.symm),<-WM];exact this
 .obtain⟨D,h1,A⟩:=hb j f hf;obtain⟨Y,h3,h4⟩:=hb l g I;exact h.inj j l D Y h1 h3 (by rw[A,h4,G])
 .obtain⟨D,h1,A⟩:=hb j f hf;rw[<-A];exact h.lt j D h1
theorem j3.push(h:j3 M kc e m ents clock){k:kc.K}{v:V}{y:Value}(hv:IR M (e v) y):j3 M kc e (m++ [(k,v)]) (ents.push {key:=kc.ek k,val:=y,born:=clock}) (clock+1):=by
 have D: ∀(j:Nat) (x:kc.K×V),(m++ [(k,v)])[j]? =io x->(j=ents.size∧x=(k,v))∨(j<ents.size∧m[j]? =io x):=by
  intro j x u;rw[h.size];rcases XO j m.length with hj|hj
  .rw[Xb hj]at u;exact .inr ⟨hj,u⟩
  .rw[Xc hj]at u;have G:j-m.length=0:=by
    rcases Nat.eq_zero_or_pos (j-m.length) with h1|h1
    .exact h1
    .rw[List.getElem?_eq_none (by simp;omega)]at u;cases u
   rw[G]at u;exact .inl ⟨by omega,by simpa using u.symm⟩
 have hb: ∀(j:Nat) (f:MapEntry),(ents.push {key:=kc.ek k,val:=y,born:=clock})[j]? =io f->(j=ents.size∧f.born=clock)∨(j<ents.size∧ents[j]? =io f∧f.born<clock):=by
  intro j f hf;rw[Y4]at hf;split at hf
  .rename_i hj;simp only[WR]at hf;subst hf;exact .inl ⟨hj,rfl⟩
  .exact .inr ⟨(X4.1 hf).1,hf,h.lt j f hf⟩
 refine⟨by simp[h.size],fun j x u=>?_,fun j x u=>?_,fun j l f g hf Y B=>?_,fun j f hf=>?_⟩
 .rcases D j x u with⟨rfl,rfl⟩|⟨h1,A⟩
  .simp[WM]
  .have:=h.key j x A;rw[WM,Y4,be (by omega),<-WM];exact this
 .rcases D j x u with⟨rfl,rfl⟩|⟨h1,A⟩
  .simpa[WM]using hv
  .have:=h.val j x A;rw[WM,Y4,be (by omega),<-WM];exact this
 .rcases hb j f hf with⟨h1,A⟩|⟨h1,A,I⟩<;>rcases hb l g Y with⟨J,C⟩|⟨J,C,h6⟩
  .omega
  .omega
  .omega
  .exact h.inj j l f g A C B
 .rcases hb j f hf with⟨h1,A⟩|⟨h1,A,I⟩<;>omega
theorem j3.erase(h:j3 M kc e m ents clock){i:Nat}(hi:i<m.length):j3 M kc e (m.eraseIdx i) (ents.eraseIdxIfInBounds i) clock:=by
 have C:i<ents.size:=by rw[h.size];exact hi
 have D: ∀j,(ents.eraseIdxIfInBounds i)[j]? =if j<i then ents[j]? else ents[j+1]? :=by
  intro j;simp only[ZS,C,dif_pos];rw[Array.getElem?_eraseIdx]
 have G: ∀j,(m.eraseIdx i)[j]? =if j<i then m[j]? else m[j+1]? :=fun j=>List.getElem?_eraseIdx;refine⟨?_,fun j x A=>?_,fun j x A=>?_,fun j l f g hf u y=>?_,fun j f hf=>?_⟩
 .simp only[ZS,C,dif_pos,Array.size_eraseIdx,List.length_eraseIdx,hi,if_true,h.size]
 .rw[G]at A;rw[WM,D];split at A
  .rename_i B;rw[am B,<-WM];exact h.key j x A
  .rename_i B;rw[be B,<-WM];exact h.key _ x A
 .rw[G]at A;rw[WM,D];split at A
  .rename_i B;rw[am B,<-WM];exact h.val j x A
  .rename_i B;rw[be B,<-WM];exact h.val _ x A
 .rw[D]at hf u;split at hf<;>split at u
  .exact h.inj _ _ f g hf u y
  .have:=h.inj _ _ f g hf u y;omega
  .have:=h.inj _ _ f g hf u y;omega
  .have:=h.inj _ _ f g hf u y;omega
 .rw[D]at hf;split at hf<;>exact h.lt _ f hf
theorem zb(kc:KC)(k:kc.K):Instr.sameBits 10000 (kc.ek k) (kc.ek k)=jp:=by
 have hs: ∀(n:Nat) (a:ByteArray),Instr.sameBits n (.string a) (.string a)=jp:=by
  intro n a;cases n<;>(simp only[Instr.sameBits];rw[beq_toListBytes,vc];simp)
 have j: ∀(n:Nat) (q:IntKind) (a:Int),Instr.sameBits n (.int q a) (.int q a)=jp:=by
  intro n q a;cases n<;>simp[Instr.sameBits]
 cases kc with
 |str=>exact hs _ _
 |int q=>exact j _ _ _
 |si q=>
  simp only[KC.ek];show((#[Value.string k.1,.int q k.2].size== #[Value.string k.1,.int q k.2].size)&&(Instr.sameBits 9999 (.string k.1) (.string k.1)&&(Instr.sameBits 9999 (.int q k.2) (.int q k.2)&&jp)))=jp;rw[hs,j];rfl
 |fl s=>
  have u: ∀(t:FS) (l:List Value),xc t l->(l.zip l).all (fun(x:Value×Value)=>Instr.sameBits 9999 x.1 x.2)=jp:=by
   intro t
   induction t with
   |nil=>intro l h;match l,h with
    | [],_=>rfl
   |cons o t ih=>intro l h;match l,h with
    |v::l,h=>
     rw[List.zip_cons_cons,List.all_cons,ih l h.2,Bool.and_true];cases o with
     |none=>obtain⟨a,rfl⟩:=h.1;exact hs _ _
     |some q=>obtain⟨n,rfl⟩:=h.1;exact j _ _ _
  simp only[KC.ek];show(((FK.vs s k).toArray.size==(FK.vs s k).toArray.size)&&(((FK.vs s k).toArray.toList.zip (FK.vs s k).toArray.toList).all fun(x:Value×Value)=>Instr.sameBits 9999 x.1 x.2))=jp;rw[List.toList_toArray,u s _ (lZ s k)];simp
end
def Qy(ty:Ty)(s:AS):Op->Option (Prop×AS)
 | .mapUpdate t m k x=>match ev s.f m with
  | .mp i=>match s.h.get i with
   |some (.map kc e z zv dv mm)=>match ty t with
    |some ⟨.aP (.map kt _),_,_,_,_⟩=>match dQ ty kt with
     |some kc'=>match lc (kc'=kc),kc.dk (ev s.f k) with
      |true,io kk=>match s with
       |⟨f,h,n⟩=>wi (ev f x) fun p=>io (ae p (.iv (e (dv p))),⟨f,(i,io (.map kc e z zv dv (cP kc mm kk (dv p))))::h,n⟩)
      |_,_=>is
     |none=>is
    |_=>is
   |_=>is
  |_=>is
 | .call ⟨.builtin .delete,args,tys⟩=>match args.toList,tys.toList with
  | [m,k],[t,_]=>match ev s.f m with
   | .mp i=>match s.h.get i with
    |some (.map kc e z zv dv mm)=>match ty t with
     |some ⟨.aP (.map kt _),_,_,_,_⟩=>match dQ ty kt with
      |some kc'=>match lc (kc'=kc),kc.dk (ev s.f k) with
       |true,io kk=>match s with
        |⟨f,h,n⟩=>io (True,⟨f,(i,io (.map kc e z zv dv (lj kc mm kk)))::h,n⟩)
       |_,_=>is
      |none=>is
     |_=>is
    |_=>is
   |_=>is
  |_,_=>is
 |_=>is
section
variable {P:Program} {ty:Ty} {nt:NT} {s:AS} {M:Mem} {N:Nm} {w:World}
def ou(w:World)(b:Nat)(o:Obj):World:={w with heap:=w.heap.setIfInBounds b o}
theorem tP{nx:Nat}{h:AH}(hr:Rel M N (· <nx) h w){i:Nat}{kc:KC}{V:Type}{e:V->IV}{z:V}{B:Value}{x:PV->V}{G A:List (kc.K×V)}(hi:h.get i=io (.map kc e z B x G)){u:Array MapEntry}{j:Nat}
  (hm:j3 M kc e A u j):Ext M N (· <nx) h w M N (· <nx) ((i,io (.map kc e z B x A))::h) (ou w (N.aA i) (.map u j))∧Rel M N (· <nx) ((i,io (.map kc e z B x A))::h) (ou w (N.aA i) (.map u j)):=by
 have C:=hr.obj i _ hi;have y:=OR.lt C Z;obtain⟨ents,clock,h1,I,D⟩:=C;refine hr.write hi Z _ _ Z Z Z (by simp[ou]) (fun b hb=>?_) ⟨u,j,?_,hm,D⟩
 .show(w.heap.setIfInBounds _ _)[b]? =_;rw[Xr,be (fun e=>hb e.symm)]
 .show(w.heap.setIfInBounds _ _)[_]? =_;rw[Xr,am Z,am y]
theorem jy{r:Nat}{es:Array MapEntry}{clock:Nat}(o:Obj)(hb:w.heap[r]? =io (.map es clock)):(setObj r o).run P w= .ok () (ou w r o):=by
 simp[setObj,Sem.run,hb,ou]
theorem KT(J:bp P ty){o:Oper}{C:Prop}{s1 s':AS}(h:Qy ty s o.op=io (C,s1))(hC:C)(hp:putDst nt o .any s1=io s'):OT P nt o s (fun t=>t=s'):=by
 unfold Qy at h;split at h
 .rename_i t m k x ho;split at h
  .rename_i i c0;split at h
   .rename_i V kc e z zv dv mm hi;split at h
    .rename_i kt et _ _ _ _ he;have hu:=(J _ _ he).2.1.1;split at h
     .rename_i u d0;split at h
      .rename_i G hd e0;have hd:=of_decide_eq_true hd;subst hd;obtain⟨f,hh,n⟩:=s;simp only[dG,WR,W3]at h;obtain⟨rfl,rfl⟩:=h;refine OT.skip hp fun M N a w hf=>?_;have f0:=Fs e0 (aN hf.2.1 k);have I:=aN hf.2.1 m;simp only at c0;rw[c0]at I
       have m0:IR M (e (dv (ev f x))) (a.eval x):=by
        have:=hC M N (· <n) _ (aN hf.2.1 x);generalize a.eval x=y at this;cases this with
        |iv _ _ h=>exact h
       obtain⟨ents,clock,h1,h2,h3⟩:=hf.1.obj i _ hi;have Y:=lC (P:=P) (w:=w) J d0 G kw 9994;have D:=nF (P:=P) (w:=w) J d0 G h2.keys;have hg:(getObj (N.aA i)).run P w= .ok (.map ents clock) w:=by simp[getObj,Sem.run,h1]
       have a0: ∀B A,j3 M u e (cP u mm G (dv (ev f x))) B A->(Instr.mapUpdate t (.map (io (N.aA i))) (u.ek G) (a.eval x)).run P w= .ok () (ou w (N.aA i) (.map B A))->
         ∃w' M' N',(execOp a.eval o).run P w= .ok .skip w'∧Ext M N (· <n) hh w M' N' (· <n) ((i,io (.map u e z zv dv (cP u mm G (dv (ev f x)))))::hh) w'∧
          Fits M' N' ⟨f,(i,io (.map u e z zv dv (cP u mm G (dv (ev f x)))))::hh,n⟩ nt a w':=by
        intro B A g1 g2;obtain⟨g3,g4⟩:=tP hf.1 hi g1;refine⟨_,M,N,?_,g3,g4,hf.2.1,hf.2.2⟩;have i0:a.eval m= .map (io (N.aA i)):=by
         generalize a.eval m=y at I;cases I;rfl
        simp only[execOp,ho,i0,f0];simp[g2]
       cases hfi:kS u mm G with
       |none=>
        obtain⟨_,_,g3,_⟩:=pz hfi;rw[hfi]at D;refine a0 _ _ (by rw[g3];exact h2.push m0) ?_;simp[Instr.mapUpdate,run_underlying hu,hg,Y,D,jy (P:=P) _ h1]
       |some j=>
        obtain⟨v,g0,_,_,g3,_⟩:=mE hfi;rw[hfi]at D;refine a0 _ _ (by rw[g3];exact h2.set m0) ?_;have hj:j<ents.size:=by rw[h2.size];exact(WT.1 g0).1
        have k0:=h2.key j _ g0;rw[h2.DR hj]at k0;have o0:(Instr.keyThatStays (u.ek G) (u.ek G)).run P w= .ok (u.ek G) w:=by simp[Instr.keyThatStays,zb]
        simp[Instr.mapUpdate,run_underlying hu,hg,Y,D,hj,k0,o0,jy (P:=P) _ h1]
      .cases h
     .cases h
    .cases h
   .cases h
  .cases h
 .rename_i args n0 ho;split at h
  .rename_i m k t t' b0 j0;have ha:args= #[m,k]:=by rw[<-Yv (xs:=args),b0]
   have ht:n0= #[t,t']:=by rw[<-Yv (xs:=n0),j0]
   subst ha ht;split at h
   .rename_i i c0;split at h
    .rename_i V kc e z zv dv mm hi;split at h
     .rename_i kt et _ _ _ _ he;have hu:=(J _ _ he).2.1.1;split at h
      .rename_i u d0;split at h
       .rename_i G hd e0;have hd:=of_decide_eq_true hd;subst hd;obtain⟨f,hh,n⟩:=s;simp only[WR,W3]at h;obtain⟨rfl,rfl⟩:=h;refine OT.value hp fun M N a w hf=>?_;have f0:=Fs e0 (aN hf.2.1 k);have I:=aN hf.2.1 m;simp only at c0;rw[c0]at I;obtain⟨ents,clock,h1,h2,h3⟩:=hf.1.obj i _ hi;have Y:=lC (P:=P) (w:=w) J d0 G ents.isEmpty 9994;have D:=nF (P:=P) (w:=w) J d0 G h2.keys;have hg:(getObj (N.aA i)).run P w= .ok (.map ents clock) w:=by simp[getObj,Sem.run,h1]
        have a0: ∀B A,j3 M u e (lj u mm G) B A->(Builtin.delete_ #[t,t'] o.type #[.map (io (N.aA i)),u.ek G]).run P w= .ok (.tuple #[]) (ou w (N.aA i) (.map B A))->
          ∃x w' M' N',(execOp a.eval o).run P w= .ok (.value x) w'∧Ext M N (· <n) hh w M' N' (· <n) ((i,io (.map u e z zv dv (lj u mm G)))::hh) w'∧
           Fits M' N' ⟨f,(i,io (.map u e z zv dv (lj u mm G)))::hh,n⟩ nt a w'∧VR M' N' (· <n) .any x:=by
         intro B A g1 g2;obtain⟨g3,g4⟩:=tP hf.1 hi g1;refine⟨.tuple #[],_,M,N,?_,g3,⟨g4,hf.2.1,hf.2.2⟩,.any _⟩;have i0:a.eval m= .map (io (N.aA i)):=by
          generalize a.eval m=y at I;cases I;rfl
         simp only[execOp,ho,resolve];simp[invoke,builtin,i0,f0,g2]
        cases hfi:kS u mm G with
        |none=>
         obtain⟨_,_,_,g3⟩:=pz hfi;rw[hfi]at D;refine a0 _ _ (by rw[g3];exact h2) ?_;simp[Builtin.delete_,run_underlying hu,hg,Y,D,jy (P:=P) _ h1]
        |some j=>
         obtain⟨v,g0,_,_,_,g3⟩:=mE hfi;rw[hfi]at D;refine a0 _ _ (by rw[g3];exact h2.erase (WT.1 g0).1) ?_;simp[Builtin.delete_,run_underlying hu,hg,Y,D,jy (P:=P) _ h1]
       .cases h
      .cases h
     .cases h
    .cases h
   .cases h
  .cases h
 .cases h
end
section
variable {P:Program} {ty:Ty} {nt:NT} {s:AS} {Q:AQ} {k:List KI}
def Vs(nt:NT)(o:Oper)(s:AS)(i:Nat)(kc:KC){V:Type}(e:V->IV)(m:List (kc.K×V))(vs:List Nat)(t:AS):Prop:=
 ((∀j,j<m.length->j∈vs)∧putDst nt o (.aY [.kb kw]) s=io t)∨
 ∃j x,m[j]? =io x∧j∉vs∧putDst nt o (.aY [.kb jp,kc.pk x.1,(e x.2).pv]) ⟨s.f,(i,io (.bX kc e m (j::vs) (io x)))::s.h,s.nx⟩=io t
theorem Nd{o:Oper}{it:Operand}(ho:o.op= .next it kw){i:Nat}(s0:ev s.f it= .ptr i 0){kc:KC}{V:Type}{e:V->IV}{m:List (kc.K×V)}{vs:List Nat}{r0:Option (kc.K×V)}
  (hi:s.h.get i=io (.bX kc e m vs r0)) {d:Nat} (hd:o.dst=io d) (hlt:d<nt):OT P nt o s (Vs nt o s i kc e m vs):=by
 intro M N a w hf K Z hk;have hx:=aN hf.2.1 it;rw[s0]at hx;have i0:=hf.1.obj i _ hi;have c0:N.aA i<w.heap.size:=OR.lt i0 rfl;have d0:a.eval it= .pointer (io ⟨N.aA i,0,is⟩):=by
  generalize a.eval it=y at hx;cases hx;rfl
 have J: ∀p s1,∃t,putDst nt o p s1=io t∧t={s1 with f:=(d,p)::s1.f}:=by
  intro p s1;have hb:Xm d nt=jp:=XN hlt;obtain⟨f,h,n⟩:=s1;exact⟨_,by simp only[putDst,hd,hb,cond_true,dG],rfl⟩
 rcases i0 with⟨rfl,rfl,rfl,h0⟩|⟨b,ents,clock,u,h1,h2,G,h4,h5,h6,h7⟩
 .have B:(execOp a.eval o).run P w= .ok (.value (.tuple #[.bool kw])) w:=by
   simp only[execOp,ho,d0];refine aZ ?_;simp only[Instr.next,getObj,Sem.run_bind,Sem.run,h0,Result.andThen];rfl
  unfold Oper.wp;rw[B];simp only[Oper.upon];obtain⟨t,ht,C⟩:=J (.aY [.kb kw]) s
  refine hk M N t _ w (by rw[C];exact .refl _ _ _ _ _) (by
   rw[C,hd]
   exact hf.put d _ _ hlt (.aY _ _ rfl fun j p D=>by
    match j with
    |0=>simp at D;subst D;exact .kb _
    |j+1=>simp at D)) (.inl ⟨fun j I=>absurd I (YM _),ht⟩)
 have hb:w.heap[b]? =io (.map ents clock):=hf.1.dF _ _ h2;have z0: ∀j,j<ents.size->ents.getD j co=ents[j]! :=fun j I=>by simp[WM,I,getElem!_pos]
 have g0: ∀x∈ents.toList,x.born<clock:=by
  intro x hx;obtain⟨j,I⟩:=XH hx;exact G.lt j x (by simpa using I)
 unfold Oper.wp;rcases run_next_at (P:=P) w o.type (N.aA i) b clock clock u ents clock h1 hb g0 (WY _) with⟨g1,g2⟩|⟨x,q0,w1,p0,g2⟩
 .have B:(execOp a.eval o).run P w= .ok (.value (.tuple #[.bool kw])) w:=by
   simp only[execOp,ho,d0];exact aZ g2
  rw[B];simp only[Oper.upon];obtain⟨t,ht,C⟩:=J (.aY [.kb kw]) s
  refine hk M N t _ w (by rw[C];exact .refl _ _ _ _ _) (by
   rw[C,hd]
   exact hf.put d _ _ hlt (.aY _ _ rfl fun j p D=>by
    match j with
    |0=>simp at D;subst D;exact .kb _
    |j+1=>simp at D)) (.inl ⟨fun j I=>?_,ht⟩)
  have t0:j<ents.size:=by rw[G.size];exact I
  have f0:(ents[j]).born∈u:=by
   refine Decidable.byContradiction fun hn=>?_
   have:ents[j]∈leftOf ents u:=by
    simp only[leftOf,ZE];exact⟨by simp,by simpa using hn⟩
   rw[Yb g1]at this;simp at this
  have:(ents[j]).born∈u.toList:=by simpa using f0
  rw[h4,Xw]at this;obtain⟨q,hq,n0⟩:=this;have o0:q∈vs:=by simpa using hq
  have m0:q<ents.size:=by rw[G.size];exact h5 q o0
  rw[G.DR m0]at n0;have:=G.inj q j ents[q] ents[j] (by simp[m0]) (by simp[t0]) n0;rw[<-this];exact o0
 .have B:(execOp a.eval o).run P w= .ok (.value (.tuple #[.bool jp,x.key,x.val])) (ou w1 (N.aA i) (.mapIter (io b) clock (u.push x.born) clock)):=by
   simp only[execOp,ho,d0];rw[Sem.run_bind,g2];rfl
  rw[B];simp only[Oper.upon];simp only[leftOf,Array.mem_toList_iff,ZE]at q0;obtain⟨w0,x0⟩:=q0;obtain⟨j,I,e0⟩:=Array.getElem_of_mem w0;have j0:j<m.length:=by rw[<-G.size];exact I
  have Y:m[j]? =io m[j]:=WU j0;have k0:j∉vs:=by
   intro hv;have:(ents[j]).born∈u.toList:=by
    rw[h4,Xw];exact⟨j,by simpa using hv,by rw[G.DR I]⟩
   rw[e0]at this;have:x.born∈u:=by simpa using this
   simp[this]at x0
  obtain⟨t,ht,C⟩:=J (.aY [.kb jp,kc.pk m[j].1,(e m[j].2).pv]) ⟨s.f,(i,io (.bX kc e m (j::vs) (io m[j])))::s.h,s.nx⟩;have A:w1.heap=w.heap∧w1.os=w.os∧w1.tape=w.tape∧w1.output=w.output:=by
   rcases p0 with rfl|rfl<;>exact⟨rfl,rfl,rfl,rfl⟩
  have v0:OR M N (· <s.nx) (ou w1 (N.aA i) (.mapIter (io b) clock (u.push x.born) clock)) i (.bX kc e m (j::vs) (io m[j])):=by
   refine .inr ⟨b,ents,clock,u.push x.born,?_,h2,G,?_,?_,?_,?_⟩
   .show(w1.heap.setIfInBounds _ _)[_]? =_;rw[Xr,am rfl,A.1,am c0]
   .simp only[Array.toList_push,h4,List.reverse_cons,W4,WW,W7];rw[G.DR I,e0]
   .intro q hq;rcases Xa.1 hq with rfl|hq
    .exact j0
    .exact h5 q hq
   .exact XB.2 ⟨k0,h6⟩
   .intro y hy;simp only[WR]at hy;subst hy;exact⟨j,vs,rfl,Y⟩
  obtain⟨q1,q2⟩:=hf.1.write hi rfl (ou w1 (N.aA i) (.mapIter (io b) clock (u.push x.born) clock)) _ A.2.1 A.2.2.1 A.2.2.2 (by simp[ou,A.1]) (fun c hc=>by
   show(w1.heap.setIfInBounds _ _)[c]? =_
   rw[Xr,be (fun e=>hc e.symm),A.1]) v0 (p0.elim (fun e=>e▸WY _) fun e=>e▸Yh _)
  have a0:=G.key j _ Y;have b0:=G.val j _ Y;rw[G.DR I,e0]at a0 b0
  refine hk M N t _ _ (by rw[C];exact q1) (by
   rw[C,hd];refine Fits.put (s:=⟨s.f,(i,io (.bX kc e m (j::vs) (io m[j])))::s.h,s.nx⟩) ⟨q2,hf.2⟩ d _ _ hlt (.aY _ _ rfl fun q p D=>?_)
   match q with
   |0=>simp at D;subst D;exact .kb _
   |1=>simp at D;subst D;simp only[WM];simp;rw[a0];exact x7 kc _
   |2=>simp at D;subst D;exact xV b0
   |q+3=>simp at D) (.inr ⟨j,m[j],Y,k0,ht⟩)
theorem dS{all rest:List Oper}{o:Oper}{A:Operand}{i:Nat}{kc:KC}{V:Type}{e:V->IV}{m:List (kc.K×V)}{vs:List Nat}{u:Option (kc.K×V)}{d:Nat}
  (ho:o.op= .next A kw) (hg:o.guard=is) (y:ev s.f A= .ptr i 0) (hi:s.h.get i=io (.bX kc e m vs u)) (hd:o.dst=io d) (hlt:d<nt)
  (h1:(∀j,j<m.length->j∈vs)->GO P nt (.ops all rest::k) Q ⟨(d,.aY [.kb kw])::s.f,s.h,s.nx⟩)
  (B: ∀j x,m[j]? =io x->j∉vs->GO P nt (.ops all rest::k) Q ⟨(d,.aY [.kb jp,kc.pk x.1,(e x.2).pv])::s.f,(i,io (.bX kc e m (j::vs) (io x)))::s.h,s.nx⟩):
  GO P nt (.ops all (o::rest)::k) Q s:=by
 refine bB hg (Nd ho y hi hd hlt) fun t ht=>?_;have hb:Xm d nt=jp:=XN hlt;rcases ht with⟨g1,g2⟩|⟨j,x,g1,g2,g3⟩
 .obtain⟨f,h,n⟩:=s;simp only[putDst,hd,hb,cond_true,dG,WR]at g2;subst g2;exact h1 g1
 .simp only[putDst,hd,hb,cond_true,dG,WR]at g3;subst g3;exact B j x g1 g2
mutual
def PV.gh(i:Nat)(x:IV):PV->PV
 | .iv x=> .iv x
 | .agg cs=> .agg (wh i x cs)
 | .aY cs=> .aY (wh i x cs)
 | .sl j off len sz'=> .sl j off len sz'
 | .ptr j o=> .ptr j o
 | .cR j a b c=> .cR j a b c
 | .eS z j=> .eS z j
 | .og j o n=> .og j o n
 | .mp j=>bif Xj j i then .iv x else .mp j
 | .cv fn a b=> .cv fn a b
 | .kb b=> .kb b
 | .any=> .any
def wh(i:Nat)(x:IV):List PV->List PV
 | []=> []
 |p::r=>PV.gh i x p::wh i x r
end
theorem iZ(i:Nat)(x:IV): ∀l:List PV,wh i x l=l.map (PV.gh i x)
 | []=>rfl
 |p::r=>by simp[wh,iZ i x r]
theorem NK{M:Mem}{N:Nm}{n:Nat}{h:AH}{w:World}(hr:Rel M N (· <n) h w){i:Nat}{kc:KC}{V:Type}{e:V->IV}{z:V}{zv:Value}{dv:PV->V}{m:List (kc.K×V)}(hi:h.get i=io (.map kc e z zv dv m)):
  ∃B,Ext M N (· <n) h w B N (· <n) ((i,is)::h) w∧Rel B N (· <n) ((i,is)::h) w∧M.le B∧
   ∀p x,VR M N (· <n) p x->VR B N (· <n) (p.gh i (.eO kc e z zv m)) x:=by
 have I:=hr.dM i _ hi Z;obtain⟨ents,clock,h1,C,h3⟩:=hr.obj i _ hi
 let B:Mem:=M.set (N.aA i) (.map ents clock) I
 have hM:M.le B:=fun b d hb=>by
  simp only[B,Mem.set];by_cases u:b=N.aA i
  .rw[u,I]at hb;cases hb
  .rw[be u];exact hb
 have hnew: ∀b d,M b=is->B b=io d->b=N.aA i:=fun b d h1 C=>by
  simp only[B,Mem.set]at C;by_cases u:b=N.aA i
  .exact u
  .rw[be u,h1]at C;cases C
 refine⟨B,?_,?_,hM,fun p x hx=>?_⟩
 .exact⟨rfl,rfl,⟨rfl,WY _⟩,WY _,fun _ _ _=>rfl,hM,fun b d h1 C=> .inr ⟨i,_,hi,rfl,(hnew b d h1 C).symm⟩,.refl _ _,fun _ h=>h,fun j o A Y=> .inr ⟨j,o,(bm j o A).2,Y,rfl⟩⟩
 .refine⟨fun b d hb=>?_,fun j o A=>hr.used j o (bm j o A).2,fun j o A D=>?_,fun j o A=>?_,fun j k o p A hk=>hr.inj j k o p (bm j o A).2 (bm k p hk).2⟩
  .simp only[B,Mem.set]at hb;by_cases u:b=N.aA i
   .rw[am u]at hb;cases hb;rw[u];exact h1
   .rw[be u]at hb;exact hr.dF b d hb
  .obtain⟨g1,g2⟩:=bm j o A;simp only[B,Mem.set];rw[be fun e=>g1 (hr.inj j i o _ g2 hi D Z e)];exact hr.dM j o g2 D
  .obtain⟨g1,g2⟩:=bm j o A;exact(hr.obj j o g2).mono hM (.refl _ _) (fun _ h=>h) (hr.used j o g2) Z
 .induction hx with
  |iv x y h=>exact .iv _ _ (h.mono hM)
  |agg cs ys hl _ ih=>
   refine .agg _ _ (by simpa[iZ]using hl) fun j q J=>?_;rw[iZ,WX,WZ]at J;obtain⟨q0,G,rfl⟩:=J
   exact ih j q0 G
  |aY cs ys hl _ ih=>
   refine .aY _ _ (by simpa[iZ]using hl) fun j q J=>?_;rw[iZ,WX,WZ]at J;obtain⟨q0,G,rfl⟩:=J
   exact ih j q0 G
  |ptr i off h=>exact .ptr _ _ h
  |cR i sz k off h=>exact .cR _ _ _ _ h
  |eS z i h=>exact .eS _ _ h
  |og i o n h=>exact .og _ _ _ h
  |sl j off len sz' cap h h0 hl hc he=>exact .sl _ _ _ _ _ h h0 hl hc he
  |lq j sz' h=>exact .lq _ _ h
  |sle j sz' cap h hc he=>exact .sle _ _ _ h hc he
  |mp j h=>
   simp only[PV.gh];cases hb:Xj j i with
   |true=>
    have A:=Xh hb;subst A;exact .iv _ _ (.eO _ _ _ _ _ _ ents clock (by simp[B,Mem.set]) C.size C.key (fun j x hx=>(C.val j x hx).mono hM) (h3.mono hM) C.inj C.lt)
   |false=>exact .mp _ h
  |cv fn first caps f' c' h1 C hr1 hr2 _ _=>exact .cv _ _ _ _ _ h1 C (fun j p A=>(hr1 j p A).mono hM (.refl _ _) (fun _ h=>h)) (fun j p A=>(hr2 j p A).mono hM (.refl _ _) (fun _ h=>h))
  |kb b=>exact .kb _
  |any x=>exact .any _
def AO.gh(i:Nat)(x:IV):AO->AO
 | .cells cs T=> .cells (wh i x cs) T
 | .row sz es=> .row sz (es.map (wh i x))
 | .bw l T=> .bw l T
 | .ft=> .ft
 | .map kc e z zv dv m=> .map kc e z zv dv m
 | .bX kc e m vs c=> .bX kc e m vs c
 | .ey s p=> .ey s p
 | .ix kc e z zv dv m bs c=> .ix kc e z zv dv m bs c
 | .eB q c l=> .eB q c l
 | .oD l c f=> .oD l c f
def AH.gh(i:Nat)(x:IV):AH->AH
 | []=> []
 |(k,is)::r=>(k,is)::AH.gh i x r
 |(k,io o)::r=>(k,io (o.gh i x))::AH.gh i x r
theorem AH.kP(i:Nat)(x:IV): ∀(h:AH) (j:Nat),(AH.gh i x h).get j=(h.get j).map (AO.gh i x)
 | [],_=>rfl
 |(k,is)::r,j=>by
  simp only[AH.gh,AH.ax,AH.kP i x r j];split<;>rfl
 |(k,io o)::r,j=>by
  simp only[AH.gh,AH.ax,AH.kP i x r j];split<;>rfl
theorem AO.ti(i:Nat)(x:IV)(o:AO):(o.gh i x).real=o.real:=by
 cases o with
 |row sz es=>cases es<;>rfl
 |bw l T=>cases l<;>rfl
 |_=>rfl
theorem sa{M:Mem}{N:Nm}{n:Nat}{h:AH}{w:World}(hr:Rel M N (· <n) h w){i:Nat}{kc:KC}{V:Type}{e:V->IV}{z:V}{G:Value}{dv:PV->V}{m:List (kc.K×V)}(hi:h.get i=io (.map kc e z G dv m)):
  ∃C,Ext M N (· <n) h w C N (· <n) ((i,is)::h.gh i (.eO kc e z G m)) w∧Rel C N (· <n) ((i,is)::h.gh i (.eO kc e z G m)) w∧M.le C∧
   ∀p x,VR M N (· <n) p x->VR C N (· <n) (p.gh i (.eO kc e z G m)) x:=by
 obtain⟨C,h1,u,h3,h4⟩:=NK hr hi;have D: ∀j o,AH.get ((i,is)::h.gh i (.eO kc e z G m)) j=io o-> ∃p,AH.get ((i,is)::h) j=io p∧h.get j=io p∧o=p.gh i (.eO kc e z G m):=by
  intro j o y;obtain⟨g1,g2⟩:=bm j o y;rw[AH.kP,WZ]at g2;obtain⟨p,g3,g4⟩:=g2;exact⟨p,by rw[AH.ax,be g1];exact g3,g3,g4.symm⟩
 refine⟨C,⟨h1.os,h1.tape,h1.output,h1.size,h1.gK,h1.oC,h1.iK,h1.nm,h1.ule,fun j o y A=>?_⟩,⟨u.dF,fun j o y=>?_,fun j o y A=>?_,fun j o y=>?_,fun j k o p y hk ho hp=>?_⟩,h3,h4⟩
 .obtain⟨p,g1,_,rfl⟩:=D j o y;rw[AO.ti]at A;exact h1.gx j p g1 A
 .obtain⟨p,g1,_,rfl⟩:=D j o y;exact u.used j p g1
 .obtain⟨p,g1,_,rfl⟩:=D j o y;rw[AO.ti]at A;exact u.dM j p g1 A
 .obtain⟨p,g1,g2,rfl⟩:=D j o y;have J:=hr.obj j p g2;cases p with
  |cells cs T0=>
   obtain⟨c,T,q1,q2,q3,q4,q5⟩:=J;refine⟨c,T,q1,q2,by simpa[iZ]using q3,fun k q Y=>?_,q5⟩;rw[iZ,WX,WZ]at Y;obtain⟨q0,b0,rfl⟩:=Y;exact h4 _ _ (q4 k q0 b0)
  |row sz es=>
   rcases J with rfl|⟨q0,c,T,q1,q2,q3,q4,q5⟩
   .exact .inl Z
   refine .inr ⟨q0,c,T,q1,q2,by simpa using q3,fun k e I=>?_,fun k e j q I Y=>?_⟩
   .rw[WX,WZ]at I;obtain⟨e0,B,rfl⟩:=I;rw[iZ,Xk];exact q4 k e0 B
   .rw[WX,WZ]at I;obtain⟨e0,B,rfl⟩:=I;rw[iZ,WX,WZ]at Y;obtain⟨q',a0,rfl⟩:=Y;exact h4 _ _ (q5 k e0 j q' B a0)
  |bw=>exact u.obj j _ g1
  |ft=>exact u.obj j _ g1
  |map=>exact u.obj j _ g1
  |bX=>exact u.obj j _ g1
  |ey=>exact u.obj j _ g1
  |ix=>exact u.obj j _ g1
  |eB=>exact u.obj j _ g1
  |oD=>exact u.obj j _ g1
 .obtain⟨o',g1,_,rfl⟩:=D j o y;obtain⟨p',g2,_,rfl⟩:=D k p hk;rw[AO.ti]at ho hp;exact u.inj j k o' p' g1 g2 ho hp
def AF.gh(i:Nat)(x:IV):AF->AF
 | []=> []
 |(d,p)::r=>(d,p.gh i x)::AF.gh i x r
theorem AF.kP(i:Nat)(x:IV): ∀(f:AF) (d:Nat),(AF.gh i x f).get d=(f.get d).gh i x
 | [],_=>rfl
 |(k,p)::r,d=>by
  simp only[AF.gh,AF.ax,AF.kP i x r d];split<;>rfl
theorem NA{c:Code}(i:Nat){kc:KC}{V:Type}{e:V->IV}{z:V}{j:Value}{G:PV->V}{m:List (kc.K×V)}(hi:s.h.get i=io (.map kc e z j G m))
  (h:GO P nt (.code c::k) Q ⟨s.f.gh i (.eO kc e z j m),(i,is)::s.h.gh i (.eO kc e z j m),s.nx⟩):GO P nt (.code c::k) Q s:=by
 intro M N a w hf;obtain⟨B,h1,I,h3,J⟩:=sa hf.1 hi
 have u:Fits B N ⟨s.f.gh i (.eO kc e z j m),(i,is)::s.h.gh i (.eO kc e z j m),s.nx⟩ nt a w:=⟨I,fun d=>by
  rw[AF.kP];exact J _ _ (hf.2.1 d),hf.2.2⟩
 exact AW.then h u fun e a2 w2 C D Y A x y=>⟨C,D,Y,h1.trans A,x,y⟩
end
def RY(ty:Ty)(s:AS):Op->Option (PV×AS)
 | .range t x=>match ev s.f x with
  | .mp i=>match s.h.get i with
   |some (.map kc e z zv _ m)=>match ty t with
    |some ⟨.aP (.map _ _),_,_,_,_⟩=>match s with
     |⟨f,h,n⟩=>io (.ptr n 0,⟨f.gh i (.eO kc e z zv m),(n,io (.bX kc e m [] is))::(i,is)::h.gh i (.eO kc e z zv m),n+1⟩)
    |_=>is
   |_=>is
  |_=>is
 |_=>is
theorem ML{P:Program}{ty:Ty}{nt:NT}{s:AS}(G:bp P ty){o:Oper}{p:PV}{s1 s':AS}(h:RY ty s o.op=io (p,s1))(hp:putDst nt o p s1=io s'):OT P nt o s (fun t=>t=s'):=by
 unfold RY at h;split at h
 .rename_i t x ho;split at h
  .rename_i i A;split at h
   .rename_i V kc e z zv dv m hi;split at h
    .rename_i kt et _ _ _ _ he;have hu:=(G _ _ he).2.1.1;obtain⟨f,hh,n⟩:=s;simp only[WR,W3]at h;obtain⟨rfl,rfl⟩:=h;refine OT.value hp fun M N a w hf=>?_;have I:=aN hf.2.1 x;simp only at A hi;rw[A]at I;obtain⟨ents,clock,g1,g2,g3⟩:=hf.1.obj i _ hi;obtain⟨C,h1,J,h3,Y⟩:=sa hf.1 hi;have j:VR C N (· <n) ((PV.mp i).gh i (.eO kc e z zv m)) (.map (io (N.aA i))):=Y _ _ (.mp i (hf.1.used i _ hi));have hb:Xj i i=jp:=by simp
     simp only[PV.gh,hb,cond_true]at j;cases j with
     |iv _ _ j=>cases j with
      |eO _ _ _ _ _ b ents' clock' hb' hs hk hv' hz hi' hc=>
       obtain⟨D,q1,q2,q3,q4,q5⟩:=J.alloc (.mapIter (io (N.aA i)) clock' #[] clock') (.bX kc e m [] is) 0 (fun D r1 r2 r3=>
        .inr ⟨N.aA i,ents',clock', #[],by rw[r1];exact heap_alloc_new w _,hb',⟨hs,hk,hv',hi',hc⟩,rfl,by simp,XM,by simp⟩)
       have u:w.heap[N.aA i]? =io (.map ents' clock'):=J.dF _ _ hb';have B:a.eval x= .map (io (N.aA i)):=by
        generalize a.eval x=y at I;cases I;rfl
       refine⟨.pointer (io ⟨w.heap.size,0,is⟩),_,C,D,?_,h1.trans q4,⟨q5,fun d=>?_,hf.2.2⟩,?_⟩
       .simp only[execOp,ho,B];simp[Instr.range,run_underlying hu,getObj,Sem.run,u,Result.andThen]
       .rw[AF.kP];exact(Y _ _ (hf.2.1 d)).mono (.refl _) q3 (fun i hi=>Ys hi)
       .have:=VR.ptr (M:=C) (N:=D) (U:=(· <n+1)) n 0 (by omega);rw[q1]at this;exact this
    .cases h
   .cases h
  .cases h
 .cases h
def Rw(h:AH)(sz:Nat):PV->Option (List (List PV)×Nat×Prop)
 | .iv (.bL sz' n el)=>match Xj sz' sz with
  |true=>io ((Xq n).map fun k=>(el k).map .iv,n,True)
  |false=>is
 | .iv (.v (.slice is 0 0))=>io ([],0,True)
 | .sl j off n sz'=>match Xj sz' sz,h.get j with
  |true,io (.row sz2 fs)=>match Xj sz2 sz with
   |true=>io ((fs.drop off).take n,n,off+n<=fs.length)
   |_=>is
  |_,_=>is
 |_=>is
theorem Mn{h:AH}{sz n:Nat}{p:PV}{news:List (List PV)}{C:Prop}(hs:Rw h sz p=io (news,n,C))(hC:C):Src h sz p news∧news.length=n:=by
 unfold Rw at hs;split at hs
 .split at hs
  .rename_i hb;simp only[WR,W3]at hs;have:=Xh hb;obtain⟨rfl,rfl,rfl⟩:=hs;subst this;exact⟨.bL _ _,by simp⟩
  .cases hs
 .simp only[WR,W3]at hs;obtain⟨rfl,rfl,rfl⟩:=hs;exact⟨.nil,rfl⟩
 .split at hs
  .rename_i j y;split at hs
   .rename_i u;simp only[WR,W3]at hs;have h1:=Xh j;have x:=Xh u;subst h1;subst x;obtain⟨rfl,rfl,rfl⟩:=hs;exact⟨.row _ _ _ _ y hC,by simp;omega⟩
   .cases hs
  .cases hs
 .cases hs
def Ov(ty:Ty)(s:AS)(op:Op):Option (Prop×PV×AS):=
 match op with
 | .call ⟨.builtin .append,args,tys⟩=>match args.toList,tys.toList with
  | [x,y],[t,t']=>match Xj t' t,ty t with
   |true,io ⟨.aP (.slice u),_,_,_,_⟩=>match ty u with
    |some ⟨_,esz,eby,ez,_⟩=>match Xj ez.cells.size esz,Xm 0 esz,ev s.f x with
     |true,jp,.sl i 0 len sz=>match Xj esz sz,s.h.get i with
      |true,io (.row sz' es)=>match Xj sz' sz,Rw s.h sz (ev s.f y) with
       |true,io (news,n,C)=>match s with
        |⟨f,h,nx⟩=>io (es.length=len∧C∧allOnes news=jp∧(len+n)*eby<=140737488355328∧len+n<=140737488355328,.sl nx 0 (len+n) sz,⟨f,(nx,io (.row sz (es++news)))::(i,is)::h,nx+1⟩)
       |_,_=>is
      |_,_=>is
     |_,_,_=>is
    |none=>is
   |_,_=>is
  |_,_=>is
 |_=>is
section
variable {P:Program} {ty:Ty} {nt:NT} {s:AS}
theorem FF(d0:bp P ty){o:Oper}{p:PV}{C:Prop}{s1 s':AS}(h:Ov ty s o.op=io (C,p,s1))(hC:C)(hp:putDst nt o p s1=io s'):OT P nt o s (fun t=>t=s'):=by
 unfold Ov at h;split at h
 .rename_i args A ho;split at h
  .rename_i x y t B ha ht;split at h
   .rename_i u _ _ _ _ I he;split at h
    .rename_i ek g0 G ez f0 hu;split at h
     .rename_i i len sz J Y hx;split at h
      .rename_i i0 es a0 hi;split at h
       .rename_i j n C' b0 hs;have h:io (es.length=len∧C'∧allOnes j=jp∧(len+n)*G<=140737488355328∧len+n<=140737488355328,PV.sl s.nx 0 (len+n) sz,iM s i sz es j)=io (C,p,s1):=by
         rw[<-h];cases s;rfl
        simp only[WR,W3]at h;obtain⟨rfl,rfl,rfl⟩:=h;have e0:=Xh I;have e4:=Xh b0;have D:=Xh a0;subst e0;subst e4;have c0:o.op= .call ⟨.builtin .append, #[x,y], #[B,B]⟩:=by
         rw[ho];have h1:args= #[x,y]:=by rw[<-Yv (xs:=args),ha]
         have h2:A= #[B,B]:=by rw[<-Yv (xs:=A),ht]
         rw[h1,h2]
        obtain⟨g1,g2,g3,g4,g5⟩:=hC;obtain⟨g6,g7⟩:=Mn hs g2;subst g7;exact SO d0 c0 he Z hu hx hi g1 D (by rw[Xh J,D]) (by rw[<-D];exact WL Y) Z g6 (gm g3) g4 g5 hp
       .cases h
      .cases h
     .cases h
    .cases h
   .cases h
  .cases h
 .cases h
def Kv(ty:Ty)(s:AS)(op:Op):Option (Prop×PV×AS):=
 match Ov ty s op with
 |some r=>io r
 |none=>match Dv s op with
  |some (t0,t)=>match ty t with
   |some ⟨.aP (.slice u),_,_,_,_⟩=>match ty u with
    |some ⟨_,esz,_,_,_⟩=>Ov ty (u2 s t0 esz) op
    |none=>is
   |_=>is
  |none=>is
theorem Ku(j:bp P ty){o:Oper}{p:PV}{C:Prop}{s1 s':AS}(h:Kv ty s o.op=io (C,p,s1))(hC:C)(hp:putDst nt o p s1=io s'):OT P nt o s (fun t=>t=s'):=by
 unfold Kv at h;split at h
 .rename_i r hr;simp only[WR]at h;subst h;exact FF j hr hC hp
 .split at h
  .rename_i t0 t u;split at h
   .split at h
    .exact KQ (Gy u) (FF j h hC hp)
    .cases h
   .cases h
  .cases h
def Vx(ty:Ty)(s:AS)(op:Op):Option (Prop×PV×AS):=
 match Qy ty s op with
 |some (C,s1)=>io (C,.any,s1)
 |none=>match RY ty s op with
  |some (p,s1)=>io (True,p,s1)
  |none=>Kv ty s op
theorem Hn(j:bp P ty){o:Oper}{p:PV}{C:Prop}{s1 s':AS}(h:Vx ty s o.op=io (C,p,s1))(hC:C)(hp:putDst nt o p s1=io s'):OT P nt o s (fun t=>t=s'):=by
 unfold Vx at h;split at h
 .rename_i x u hu;simp only[WR,W3]at h;obtain⟨rfl,rfl,rfl⟩:=h;exact KT j hu hC hp
 .split at h
  .rename_i y u hr;simp only[WR,W3]at h;obtain⟨rfl,rfl,rfl⟩:=h;exact ML j hr hp
  .exact Ku j h hC hp
end
end
end Go.Al
