/-
  What the proofs of the claims need: part 1 of 6.
-/
import GoSem.Core.World
import Derived.Calls
import Derived.Laws.AppendOwn
import Derived.Below
import Derived.Laws.Cells
import Derived.Laws.Entries
import Derived.Laws.StructEq
import Derived.ChangeKeysEq
import Derived.WideLaws
import Derived.Tactics
import Derived.IntWalk
import Derived.WideShapes
import Derived.Lib.Strings
import Derived.MapKept
import Derived.Maps.RangeRun
import Derived.Still
import Derived.Scope
import Derived.Laws.CopyRow
import Derived.Laws.Append
open Array renaming append_assoc→ZH,eq_empty_of_size_eq_zero→Yn,eraseIdxIfInBounds→Z6,getD_eq_getD_getElem?→WZ,getElem?_append_left→XF,getElem?_append_right→YV,getElem?_eq_getElem→XJ,getElem?_eq_none→Zr,getElem?_eq_some_iff→Yh,getElem?_map→ZG,getElem?_modify→XB,getElem?_push→Zj,getElem?_setIfInBounds→XD,getElem?_toList→Xz,length_toList→Za,mapM_eq_mapM_toList→Z1,mem_filter→ZR,range→Z3,replicate→Y8,size_append→YE,toArray_toList→YI,toList_append→aap,toList_inj→Z7
open Bool renaming and_eq_true→XR,eq_iff_iff→Yu,false_eq_true→YQ,false_or→Y0,not_eq_true'→Ye,not_true→Zs,or_eq_true→Zc
open Classical renaming choose→Zx,choose_spec→YZ
open Int renaming toNat_of_nonneg→Zk
open List.Pairwise renaming nil→Zf
open List renaming all_eq_true→XO,any_eq_true→Yr,append_assoc→Xf,append_inj→aaE,append_nil→XM,cons_append→Xp,flatten_cons→Z4,foldl_cons→X8,forIn_cons→aaF,getD_cons_zero→YX,getD_eq_getElem?_getD→W2,getElem?_append_left→Xn,getElem?_append_right→Xl,getElem?_cons_succ→ZI,getElem?_drop→XW,getElem?_eq_getElem→W5,getElem?_eq_some_iff→W4,getElem?_map→W9,getElem?_of_mem→XU,getElem?_set→YP,getElem?_take→XK,getElem?_toArray→XP,getElem_mem→XS,headD_cons→ZV,length→Ze,length_append→W1,length_cons→Xy,length_drop→X7,length_map→Xw,length_nil→Yg,length_pos_iff→Yi,length_take→XA,map_append→Xg,map_cons→W7,map_nil→Xj,mem_append_left→XV,mem_cons→Xm,mem_cons_of_mem→Xi,mem_cons_self→Xk,mem_filter→XG,mem_map→XH,mem_of_getElem?→XE,mem_singleton→Xd,nil_append→Xq,nodup_cons→XN,nodup_nil→XY,pairwise_cons→Yd,pairwise_iff_getElem→Yl,range→XC,range'_succ→aay,size_toArray→Zg
open List.cons renaming injEq→aag
open Nat renaming add_assoc→Yf,add_mul→XT,add_zero→YC,beq→Xv,ble→Y4,ble_eq_true_of_le→X0,blt→Xx,eq_of_beq_eq_true→Xs,le_of_ble_eq_true→WY,le_of_not_lt→YA,le_refl→W8,le_succ→Yw,le_trans→X6,lt_of_lt_of_le→YH,lt_or_ge→XZ,lt_succ_of_lt→YF,lt_succ_self→YM,lt_trichotomy→Zd,min_eq_left→Y9,mod_eq_of_lt→Zl,mul_le_mul_right→Xt,ne_of_lt→aab,not_lt_zero→YY,sub_mul→aal,sub_self→Zw,sub_zero→ZK,succ_mul→YL,zero_add→Xo,zero_le→Xc,zero_mul→YD
open Option renaming getD_some→X9,map_eq_none_iff→Zq,map_eq_some_iff→Xa,map_map→aak,map_none→Y7,map_some→Ya
open Option.some renaming inj→X4,injEq→W3
open Prod renaming fst→Yc
open Prod.mk renaming injEq→Xe
set_option maxRecDepth 100000
open Bool renaming false→kw,true→jp
open Decidable renaming decide→lc
open Inhabited renaming default→co
open Option renaming none→is,some→io
namespace Go
theorem Z.{u}{α:Sort u}{a:α}:a=a:=rfl
theorem ac:True:=trivial
theorem am.{u}{c:Prop}{h:Decidable c}(hc:c){α:Sort u}{t e:α}:(@ite α c h t e)=t:=if_pos hc
theorem be.{u}{c:Prop}{h:Decidable c}(hc:¬c){α:Sort u}{t e:α}:(@ite α c h t e)=e:=if_neg hc
end Go
namespace Go.Al
section
def qP:List Int:=[1,10,100,1000,10000,100000,1000000,10000000,100000000,1000000000,10000000000,100000000000,1000000000000,10000000000000,100000000000000,1000000000000000,10000000000000000,100000000000000000,1000000000000000000,10000000000000000000]
def SD:Nat->Option (Array Value)
 |1=>io (qP.map fun z=>Value.int .u64 z).toArray
 |_=>is
abbrev FS:=List (Option IntKind)
@[reducible] def FK:FS->Type
 | []=>Unit
 |none::r=>ByteArray×FK r
 |some _::r=>Int×FK r
instance FK.VL:(s:FS)->DecidableEq (FK s)
 | []=>inferInstanceAs (DecidableEq Unit)
 |none::r=>have:=FK.VL r;inferInstanceAs (DecidableEq (ByteArray×FK r))
 |some _::r=>have:=FK.VL r;inferInstanceAs (DecidableEq (Int×FK r))
def FK.vs:(s:FS)->FK s->List Value
 | [],_=> []
 |none::r,k=> .string k.1::FK.vs r k.2
 |some q::r,k=> .int q k.1::FK.vs r k.2
inductive KC where
 |str
 |int (k:IntKind)
 |si (k:IntKind)
 |fl (s:FS)
 deriving DecidableEq
@[reducible] def KC.K:KC->Type
 | .str=>ByteArray
 | .int _=>Int
 | .si _=>ByteArray×Int
 | .fl s=>FK s
instance KC.VL:(c:KC)->DecidableEq c.K
 | .str=>inferInstanceAs (DecidableEq ByteArray)
 | .int _=>inferInstanceAs (DecidableEq Int)
 | .si _=>inferInstanceAs (DecidableEq (ByteArray×Int))
 | .fl s=>FK.VL s
def KC.ek:(c:KC)->c.K->Value
 | .str,s=> .string s
 | .int k,n=> .int k n
 | .si k,x=> .agg #[.string x.1,.int k x.2]
 | .fl s,x=> .agg (FK.vs s x).toArray
inductive IV:Type 1 where
 |v (x:Value)
 |bI (sz n:Nat) (el:Nat->List IV)
 |ln (cs:List IV)
 |agg (cs:List IV)
 |fa {V:Type} (kc:KC) (ev:V->IV) (z:V) (zv:Value) (m:List (kc.K×V))
 |Ti (t:TypeId) (x:IV)
inductive PV:Type 1 where
 |iv (x:IV)
 |agg (cs:List PV)
 |a7 (cs:List PV)
 |ptr (i off:Nat)
 |cV (i sz k off:Nat)
 |fe (z:Bool) (i:Nat)
 |ot (i off n:Nat)
 |sl (i off len sz:Nat)
 |mp (i:Nat)
 |cB (fn:Fn) (first caps:List PV)
 |kb (b:Bool)
 |any
structure LC where
 ps:Array Tmp
 as_:Code
 bd:Code
 nt:Nat
inductive AO:Type 1 where
 |cells (cs:List PV) (T:Option TypeId:=is)
 |row (sz:Nat) (es:List (List PV))
 |bz (l:List UInt8) (T:TypeId)
 |fE
 |map {V:Type} (kc:KC) (ev:V->IV) (z:V) (zv:Value) (dv:PV->V) (m:List (kc.K×V))
 |bY {V:Type} (kc:KC) (ev:V->IV) (m:List (kc.K×V)) (vs:List Nat) (cur:Option (kc.K×V))
 |eG (s:ByteArray) (pos:Nat)
 |iA {V:Type} (kc:KC) (ev:V->IV) (z:V) (zv:Value) (dv:PV->V) (m:List (kc.K×V)) (bs:List Nat) (clock:Nat)
 |eJ (mp:PV) (clock:Nat) (seen:List Nat)
 |oK (l:Nat) (c:LC) (f:List (Nat×PV))
inductive MB where
 |cells (c:Array Value)
 |map (ents:Array MapEntry) (clock:Nat)
structure Mem where
 fn:Nat->Option MB
 NQ: ∀b c,SD b=io c->fn b=io (.cells c)
instance:CoeFun Mem (fun _=>Nat->Option MB):=⟨Mem.fn⟩
def Mem.base:Mem:=⟨fun b=>(SD b).map .cells,fun b c h=>by rw[h];rfl⟩
def A1(a:Option TypeId)(T:TypeId):Prop:= ∀t,a=io t->T=t
theorem A1.none(T:TypeId):A1 is T:=fun _ h=>nomatch h
def Mem.cell(M:Mem)(b o:Nat):Option Value:=match M b with|some (.cells c)=>c[o]? |_=>is
def Mem.set(M:Mem)(b:Nat)(c:MB)(h:M b=is):Mem:=
 ⟨fun x=>if x=b then io c else M x,fun x d j=>by
  rw[be fun e=>by have:=M.NQ x d j;rw[e]at this;exact absurd (this.symm.trans h) (by simp)]
  exact M.NQ x d j⟩
def MB.GV(w:World)(b:Nat):MB->Prop
 | .cells c=> ∃T j,w.heap[b]? =io (.cells c T j)
 | .map es cl=>w.heap[b]? =io (.map es cl)
theorem MB.GV.lt{w:World}{b:Nat}{m:MB}(h:m.GV w b):b<w.heap.size:=by
 cases m with
 |cells c=>obtain⟨T,j,h1⟩:=h;exact(Yh.1 h1).1
 |map es cl=>exact(Yh.1 h).1
theorem MB.GV.mono{w j:World}{b:Nat}{m:MB}(h:m.GV w b)(e:j.heap[b]? =w.heap[b]?):m.GV j b:=by
 cases m with
 |cells c=>obtain⟨T,u,h1⟩:=h;exact⟨T,u,e.trans h1⟩
 |map es cl=>exact e.trans h
structure Nm where
 aA:Nat->Nat
 ext:Nat->Nat
inductive IR (M:Mem):IV->Value->Prop
 |v (x:Value):IR M (.v x) x
 |fS (sz:Nat) (el:Nat->List IV) (a:Option Addr) (cap:Nat):IR M (.bI sz 0 el) (.slice a 0 cap)
 | bI (sz n:Nat) (el:Nat->List IV) (b off cap:Nat) (hn:n<=cap) (hc:cap<=maxLen) (hl: ∀k,k<n->(el k).length=sz)
   (hm: ∀k j,k<n->j<sz->(M.cell b (off+k*sz+j)).isSome=jp)
   (hr: ∀k j p,k<n->(el k)[j]? =io p->IR M p ((M.cell b (off+k*sz+j)).getD undef)):
   IR M (.bI sz n el) (.slice (io ⟨b,off,is⟩) n cap)
 | ln (cs:List IV) (b off:Nat) (hm: ∀j,j<cs.length->(M.cell b (off+j)).isSome=jp)
   (hr: ∀j p,cs[j]? =io p->IR M p ((M.cell b (off+j)).getD undef)):IR M (.ln cs) (.pointer (io ⟨b,off,is⟩))
 |agg (cs:List IV) (ys:Array Value) (hl:cs.length=ys.size) (hr: ∀j p,cs[j]? =io p->IR M p (ys.getD j undef)):IR M (.agg cs) (.agg ys)
 | fa {V:Type} (kc:KC) (ev:V->IV) (z:V) (zv:Value) (m:List (kc.K×V)) (b:Nat) (ents:Array MapEntry) (clock:Nat) (hb:M b=io (.map ents clock)) (hs:ents.size=m.length)
   (hk: ∀(j:Nat) (x:kc.K×V),m[j]? =io x->(ents.getD j co).key=kc.ek x.1) (hv: ∀(j:Nat) (x:kc.K×V),m[j]? =io x->IR M (ev x.2) (ents.getD j co).val) (hz:IR M (ev z) zv)
   (hi: ∀(j k:Nat) (e f:MapEntry),ents[j]? =io e->ents[k]? =io f->e.born=f.born->j=k) (hc: ∀(j:Nat) (e:MapEntry),ents[j]? =io e->e.born<clock):IR M (.fa kc ev z zv m) (.map (io b))
 |Ti (t:TypeId) (p:IV) (x:Value) (h:IR M p x):IR M (.Ti t p) (.iface t x)
inductive VR (M:Mem) (N:Nm) (U:Nat->Prop):PV->Value->Prop
 |iv (x:IV) (y:Value) (h:IR M x y):VR M N U (.iv x) y
 |agg (cs:List PV) (ys:Array Value) (hl:cs.length=ys.size) (hr: ∀j p,cs[j]? =io p->VR M N U p (ys.getD j undef)):VR M N U (.agg cs) (.agg ys)
 |a7 (cs:List PV) (ys:Array Value) (hl:cs.length=ys.size) (hr: ∀j p,cs[j]? =io p->VR M N U p (ys.getD j undef)):VR M N U (.a7 cs) (.tuple ys)
 |ptr (i off:Nat) (h:U i):VR M N U (.ptr i off) (.pointer (io ⟨N.aA i,off,is⟩))
 |cV (i sz k off:Nat) (h:U i):VR M N U (.cV i sz k off) (.pointer (io ⟨N.aA i,k*sz+off,is⟩))
 |fe (z:Bool) (i:Nat) (h:U i):VR M N U (.fe z i) (.pointer (bif z then is else io ⟨N.aA i,0,is⟩))
 |ot (i off n:Nat) (h:U i):VR M N U (.ot i off n) (.slice (io ⟨N.aA i,off,is⟩) n n)
 |sl (i off len sz cap:Nat) (h:U i) (h0:0<len) (hl:len<=cap) (hc:cap<=maxLen) (he:(off+cap)*sz=N.ext i):VR M N U (.sl i off len sz) (.slice (io ⟨N.aA i,off*sz,is⟩) len cap)
 |lx (i sz:Nat) (h:U i):VR M N U (.sl i 0 0 sz) (.slice is 0 0)
 |sle (i sz cap:Nat) (h:U i) (hc:cap<=maxLen) (he:cap*sz=N.ext i):VR M N U (.sl i 1 0 sz) (.slice (io ⟨N.aA i,0,is⟩) 0 cap)
 |mp (i:Nat) (h:U i):VR M N U (.mp i) (.map (io (N.aA i)))
 | cB (fn:Fn) (first caps:List PV) (f' c':Array Value) (h1:first.length=f'.size) (h2:caps.length=c'.size)
   (hr1: ∀j p,first[j]? =io p->VR M N U p (f'.getD j undef)) (hr2: ∀j p,caps[j]? =io p->VR M N U p (c'.getD j undef)):VR M N U (.cB fn first caps) (.func fn f' c')
 |kb (b:Bool):VR M N U (.kb b) (.bool b)
 |any (x:Value):VR M N U .any x
def Mem.le(M j:Mem):Prop:= ∀b c,M b=io c->j b=io c
theorem Mem.le.refl(M:Mem):M.le M:=fun _ _ h=>h
theorem Mem.le.trans{A B C:Mem}(h:A.le B)(k:B.le C):A.le C:=fun b c e=>k b c (h b c e)
theorem Mem.le.cell{M j:Mem}(h:M.le j){b o:Nat}{v:Value}(hc:M.cell b o=io v):j.cell b o=io v:=by
 unfold Mem.cell at*
 cases hb:M b with
 |none=>simp[hb]at hc
 |some c=>rw[hb]at hc;rw[h b c hb];exact hc
theorem Mem.le.isSome{M j:Mem}(h:M.le j){b o:Nat}(hc:(M.cell b o).isSome=jp):(j.cell b o).isSome=jp∧(j.cell b o).getD undef=(M.cell b o).getD undef:=by
 cases hv:M.cell b o with
 |none=>simp[hv]at hc
 |some v=>rw[h.cell hv];simp
theorem IR.mono{M A:Mem}(hM:M.le A){p:IV}{x:Value}(h:IR M p x):IR A p x:=by
 induction h with
 |v x=>exact .v x
 |fS sz el a cap=>exact .fS sz el a cap
 |bI sz n el b off cap hn hc hl hm hr ih=>
  refine .bI sz n el b off cap hn hc hl (fun k j hk u=>(hM.isSome (hm k j hk u)).1) (fun k j p hk y=>?_);have u:j<sz:=by rw[<-hl k hk];exact(W4.1 y).1
  rw[(hM.isSome (hm k j hk u)).2];exact ih k j p hk y
 |ln cs b off hm hr ih=>
  refine .ln cs b off (fun j u=>(hM.isSome (hm j u)).1) (fun j p y=>?_);have u:j<cs.length:=(W4.1 y).1;rw[(hM.isSome (hm j u)).2];exact ih j p y
 |agg cs ys hl hr ih=>exact .agg cs ys hl ih
 |fa kc ev z zv m b ents clock hb hs hk hv hz hi hc ihv ihz=>exact .fa kc ev z zv m b ents clock (hM _ _ hb) hs hk ihv ihz hi hc
 |Ti t p x h ih=>exact .Ti t p x ih
structure j8 {V:Type} (M:Mem) (kc:KC) (ev:V->IV) (m:List (kc.K×V)) (ents:Array MapEntry) (clock:Nat):Prop where
 size:ents.size=m.length
 key: ∀(j:Nat) (x:kc.K×V),m[j]? =io x->(ents.getD j co).key=kc.ek x.1
 val: ∀(j:Nat) (x:kc.K×V),m[j]? =io x->IR M (ev x.2) (ents.getD j co).val
 inj: ∀(j k:Nat) (e f:MapEntry),ents[j]? =io e->ents[k]? =io f->e.born=f.born->j=k
 lt: ∀(j:Nat) (e:MapEntry),ents[j]? =io e->e.born<clock
theorem j8.mono{V:Type}{M u:Mem}(hM:M.le u){kc:KC}{ev:V->IV}{m:List (kc.K×V)}{ents:Array MapEntry}{clock:Nat}(h:j8 M kc ev m ents clock):j8 u kc ev m ents clock:=
 ⟨h.size,h.key,fun j x y=>(h.val j x y).mono hM,h.inj,h.lt⟩
structure Nm.agree (N N':Nm) (U:Nat->Prop):Prop where
 aA: ∀i,U i->N'.aA i=N.aA i
 ext: ∀i,U i->N'.ext i=N.ext i
theorem Nm.agree.refl(N:Nm)(U:Nat->Prop):N.agree N U:=⟨fun _ _=>rfl,fun _ _=>rfl⟩
theorem VR.mono{M A:Mem}{N B:Nm}{U D:Nat->Prop}(hM:M.le A)(j:N.agree B U)(u: ∀i,U i->D i){p:PV}{x:Value}(h:VR M N U p x):VR A B D p x:=by
 induction h with
 |iv x y h=>exact .iv x y (h.mono hM)
 |agg cs ys hl hr ih=>exact .agg cs ys hl ih
 |a7 cs ys hl hr ih=>exact .a7 cs ys hl ih
 |ptr i off h=>rw[<-j.aA i h];exact .ptr i off (u i h)
 |cV i sz k off h=>rw[<-j.aA i h];exact .cV i sz k off (u i h)
 |fe z i h=>rw[<-j.aA i h];exact .fe z i (u i h)
 |ot i off n h=>rw[<-j.aA i h];exact .ot i off n (u i h)
 |sl i off len sz cap h h0 hl hc he=>rw[<-j.aA i h];exact .sl i off len sz cap (u i h) h0 hl hc (by rw[j.ext i h];exact he)
 |lx i sz h=>exact .lx i sz (u i h)
 |sle i sz cap h hc he=>rw[<-j.aA i h];exact .sle i sz cap (u i h) hc (by rw[j.ext i h];exact he)
 |mp i h=>rw[<-j.aA i h];exact .mp i (u i h)
 |cB fn first caps f' c' h1 h2 hr1 hr2 ih1 ih2=>exact .cB fn first caps f' c' h1 h2 ih1 ih2
 |kb b=>exact .kb b
 |any x=>exact .any x
abbrev AH:=List (Nat×Option AO)
def AH.get:AH->Nat->Option AO
 | [],_=>is
 |(i,o)::r,k=>bif Xv k i then o else AH.get r k
abbrev AF:=List (Nat×PV)
def AF.get:AF->Nat->PV
 | [],_=> .any
 |(i,p)::r,k=>bif Xv k i then p else AF.get r k
theorem AF.ay(i:Nat)(p:PV)(r:AF)(k:Nat):AF.get ((i,p)::r) k=if k=i then p else AF.get r k:=by
 by_cases h:k=i
 .subst h;simp[AF.get]
 .have:Xv k i=kw:=Bool.eq_false_iff.2 (fun e=>h (Xs e));simp[AF.get,this,h]
theorem AH.ay(i:Nat)(o:Option AO)(r:AH)(k:Nat):AH.get ((i,o)::r) k=if k=i then o else AH.get r k:=by
 by_cases h:k=i
 .subst h;simp[AH.get]
 .have:Xv k i=kw:=Bool.eq_false_iff.2 (fun e=>h (Xs e));simp[AH.get,this,h]
def OR(M:Mem)(N:Nm)(U:Nat->Prop)(w:World)(i:Nat):AO->Prop
 | .cells cs T0=> ∃c T,w.heap[N.aA i]? =io (.cells c T (0,0))∧c.size=N.ext i∧cs.length=c.size∧(∀j p,cs[j]? =io p->VR M N U p (c.getD j undef))∧A1 T0 T
 | .row sz es=>es=[]∨0<sz∧ ∃c T,w.heap[N.aA i]? =io (.cells c T (0,0))∧c.size=N.ext i∧es.length*sz<=c.size∧(∀(k:Nat) (e:List PV),es[k]? =io e->e.length=sz)∧
   ∀(k:Nat) (e:List PV) (j:Nat) (p:PV),es[k]? =io e->e[j]? =io p->VR M N U p (c.getD (k*sz+j) undef)
 | .bz l T=>l=[]∨ ∃c,w.heap[N.aA i]? =io (.cells c T (0,0))∧c.size=N.ext i∧l.length<=c.size∧ ∀(j:Nat) (x:UInt8),l[j]? =io x->c.getD j undef= .int .u8 (x.toNat:Int)
 | .fE=>w.heap[N.aA i]? =io (.map #[] 0)
 | .map kc ev z zv _ m=> ∃(ents:Array MapEntry) (clock:Nat),w.heap[N.aA i]? =io (.map ents clock)∧j8 M kc ev m ents clock∧IR M (ev z) zv
 | .bY kc ev m vs cur=>(m=[]∧vs=[]∧cur=is∧w.heap[N.aA i]? =io (.mapIter is 0 #[] 0))∨ ∃(b:Nat) (ents:Array MapEntry) (clock:Nat) (u:Array Nat),w.heap[N.aA i]? =io (.mapIter (io b) clock u clock)∧M b=io (.map ents clock)∧j8 M kc ev m ents clock∧
   u.toList=vs.reverse.map (fun j=>(ents.getD j co).born)∧(∀j∈vs,j<m.length)∧vs.Nodup∧ ∀x,cur=io x-> ∃j r,vs=j::r∧m[j]? =io x
 | .eG s pos=>w.heap[N.aA i]? =io (.stringIter s pos)
 | .iA kc ev z zv _ m bs clock=> ∃ents:Array MapEntry,w.heap[N.aA i]? =io (.map ents clock)∧j8 M kc ev m ents clock∧IR M (ev z) zv∧ents.toList.map MapEntry.born=bs
 | .eJ mp clock u=> ∃b,VR M N U mp (.map (io b))∧w.heap[N.aA i]? =io (.mapIter (io b) clock u.toArray clock)
 | .oK l c f=>N.aA i=l∧ ∃r:Loop,w.heap[l]? =io (.loop r)∧r.state= .ready∧r.pending=is∧r.params=c.ps∧r.assign=c.as_∧r.body=c.bd∧r.tmps.size=c.nt∧ ∀d,VR M N U (AF.get f d) (r.tmps.getD d undef)
def AO.real:AO->Bool
 | .row _ []=>kw
 | .bz [] _=>kw
 |_=>jp
structure Rel (M:Mem) (N:Nm) (U:Nat->Prop) (h:AH) (w:World):Prop where
 dK: ∀b c,M b=io c->c.GV w b
 used: ∀i o,h.get i=io o->U i
 dS: ∀i o,h.get i=io o->o.real=jp->M (N.aA i)=is
 obj: ∀i o,h.get i=io o->OR M N U w i o
 inj: ∀i j o p,h.get i=io o->h.get j=io p->o.real=jp->p.real=jp->N.aA i=N.aA j->i=j
theorem OR.lt{M:Mem}{N:Nm}{U:Nat->Prop}{w:World}{i:Nat}{o:AO}(h:OR M N U w i o)(j:o.real=jp):N.aA i<w.heap.size:=by
 have key: ∀x,w.heap[N.aA i]? =io x->N.aA i<w.heap.size:=fun x u=>(Yh.1 u).1
 cases o with
 |cells cs T0=>obtain⟨c,T,h1,_⟩:=h;exact key _ h1
 |row sz es=>
  rcases h with rfl|⟨_,c,T,h1,_⟩
  .cases j
  .exact key _ h1
 |bz l T=>
  rcases h with rfl|⟨c,h1,_⟩
  .cases j
  .exact key _ h1
 |fE=>exact key _ h
 |map kc ev z zv dv m=>obtain⟨e,cl,h1,_⟩:=h;exact key _ h1
 |bY kc ev m l cu=>rcases h with⟨_,_,_,h1⟩|⟨b,e,cl,y,h1,_⟩<;>exact key _ h1
 |eG s p=>exact key _ h
 |iA kc ev z zv dv m bs clock=>obtain⟨e,h1,_⟩:=h;exact key _ h1
 |eJ mp clock seen=>obtain⟨b,_,h1⟩:=h;exact key _ h1
 |oK l c f=>obtain⟨rfl,r,h1,_⟩:=h;exact key _ h1
theorem OR.mono{M Y:Mem}{N D:Nm}{U U':Nat->Prop}{w I:World}{i:Nat}{o:AO}(hM:M.le Y)(u:N.agree D U)(G: ∀i,U i->U' i)(hi:U i)(hb:I.heap[N.aA i]? =w.heap[N.aA i]?)
  (h:OR M N U w i o):OR Y D U' I i o:=by
 cases o with
 |cells cs T0=>
  obtain⟨c,T,h1,x,y,A,B⟩:=h;exact⟨c,T,by rw[u.aA i hi,hb,h1],by rw[u.ext i hi,x],y,fun j p J=>(A j p J).mono hM u G,B⟩
 |row sz es=>
  rcases h with h|⟨h0,c,T,h1,x,y,A,B⟩
  .exact .inl h
  exact .inr ⟨h0,c,T,by rw[u.aA i hi,hb,h1],by rw[u.ext i hi,x],y,A,fun k e j p he J=>(B k e j p he J).mono hM u G⟩
 |bz l T=>
  rcases h with h|⟨c,h1,x,y,A⟩
  .exact .inl h
  exact .inr ⟨c,by rw[u.aA i hi,hb,h1],by rw[u.ext i hi,x],y,A⟩
 |fE=>show I.heap[D.aA i]? =_;rw[u.aA i hi,hb];exact h
 |map kc ev z zv dv m=>
  obtain⟨e,cl,h1,x,y⟩:=h;exact⟨e,cl,by rw[u.aA i hi,hb,h1],x.mono hM,y.mono hM⟩
 |bY kc ev m l cu=>
  rcases h with⟨h1,x,y,A⟩|⟨b,e,cl,se,h1,x,y,A⟩
  .exact .inl ⟨h1,x,y,by rw[u.aA i hi,hb,A]⟩
  .exact .inr ⟨b,e,cl,se,by rw[u.aA i hi,hb,h1],hM _ _ x,y.mono hM,A⟩
 |eG s p=>show I.heap[D.aA i]? =_;rw[u.aA i hi,hb];exact h
 |iA kc ev z zv dv m bs clock=>
  obtain⟨e,h1,x,y,A⟩:=h;exact⟨e,by rw[u.aA i hi,hb,h1],x.mono hM,y.mono hM,A⟩
 |eJ mp clock seen=>
  obtain⟨b,h1,x⟩:=h;exact⟨b,h1.mono hM u G,by rw[u.aA i hi,hb,x]⟩
 |oK l c f=>
  obtain⟨rfl,r,h1,x,y,A,B,h6,h7,h8⟩:=h;exact⟨u.aA i hi,r,by rw[hb];exact h1,x,y,A,B,h6,h7,fun d=>(h8 d).mono hM u G⟩
structure uq (w w':World):Prop where
 out:w'.output=w.output
 drawn:w.drawn<=w'.drawn
theorem uq.refl(w:World):uq w w:=⟨rfl,W8 _⟩
theorem uq.trans{w j u:World}(b:uq j u)(a:uq w j):uq w u:=⟨b.out.trans a.out,X6 a.drawn b.drawn⟩
structure Ext (M:Mem) (N:Nm) (U:Nat->Prop) (h:AH) (w:World) (M':Mem) (N':Nm) (U':Nat->Prop) (h':AH) (w':World):Prop where
 os:w'.os=w.os
 tape:w'.tape=w.tape
 output:uq w w'
 size:w.heap.size<=w'.heap.size
 gK: ∀b,b<w.heap.size->(∀i o,h.get i=io o->o.real=jp->N.aA i≠b)->w'.heap[b]? =w.heap[b]?
 oJ:M.le M'
 iM: ∀b c,M b=is->M' b=io c->w.heap.size<=b∨ ∃i o,h.get i=io o∧o.real=jp∧N.aA i=b
 nm:N.agree N' U
 ule: ∀i,U i->U' i
 gB: ∀i o,h'.get i=io o->o.real=jp->w.heap.size<=N'.aA i∨ ∃j p,h.get j=io p∧p.real=jp∧N.aA j=N'.aA i
theorem Ext.refl(M:Mem)(N:Nm)(U:Nat->Prop)(h:AH)(w:World):Ext M N U h w M N U h w:=
 ⟨rfl,rfl,⟨rfl,W8 _⟩,W8 _,fun _ _ _=>rfl,.refl _,fun b c h1 j=>by simp[h1]at j,.refl _ _,fun _ h=>h,fun i o hi hr=> .inr ⟨i,o,hi,hr,rfl⟩⟩
theorem Ext.trans{M G I:Mem}{N J Y:Nm}{U U1 U2:Nat->Prop}{h h1 h2:AH}{w w1 w2:World}
  (a:Ext M N U h w G J U1 h1 w1) (b:Ext G J U1 h1 w1 I Y U2 h2 w2):Ext M N U h w I Y U2 h2 w2 where
 os:=b.os.trans a.os
 tape:=b.tape.trans a.tape
 output:=b.output.trans a.output
 size:=X6 a.size b.size
 gK:=fun k hk hn=>by
  rw[b.gK k (YH hk a.size) (fun i o hi u he=>?_),a.gK k hk hn];rcases a.gB i o hi u with x|⟨j,p,x,D,y⟩
  .omega
  .exact hn j p x D (y.trans he)
 oJ:=a.oJ.trans b.oJ
 iM:=fun k c x y=>by
  cases A:G k with
  |some c'=>exact a.iM k c' x A
  |none=>
   rcases b.iM k c A y with B|⟨i,o,B,u,h7⟩
   .exact .inl (X6 a.size B)
   .rcases a.gB i o B u with h8|⟨j,p,h8,D,h9⟩
    .exact .inl (by omega)
    .exact .inr ⟨j,p,h8,D,h9.trans h7⟩
 nm:=⟨fun i hi=>(b.nm.aA i (a.ule i hi)).trans (a.nm.aA i hi),fun i hi=>(b.nm.ext i (a.ule i hi)).trans (a.nm.ext i hi)⟩
 ule:=fun i hi=>b.ule i (a.ule i hi)
 gB:=fun i o hi u=>by
  rcases b.gB i o hi u with x|⟨j,p,x,D,y⟩
  .exact .inl (X6 a.size x)
  .rcases a.gB j p x D with A|⟨k,q,A,hq,B⟩
   .exact .inl (by omega)
   .exact .inr ⟨k,q,A,hq,B.trans y⟩
def ae(p q:PV):Prop:= ∀(M:Mem) (N:Nm) (U:Nat->Prop) (x:Value),VR M N U p x->VR M N U q x
def jW(p q:IV):Prop:= ∀(M:Mem) (x:Value),IR M p x->IR M q x
theorem ae.refl(p:PV):ae p p:=fun _ _ _ _ h=>h
theorem AD(w:World)(o:Obj)(i:Nat)(h:i<w.heap.size):(w.alloc o).heap[i]? =w.heap[i]? :=by
 show(w.heap.push o)[i]? =_;rw[Zj,be (by omega)]
def FR(M:Mem)(N:Nm)(U:Nat->Prop)(f:AF)(t:Array Value):Prop:= ∀k,VR M N U (f.get k) (t.getD k undef)
theorem FR.mono{M j:Mem}{N u:Nm}{U x:Nat->Prop}{f:AF}{t:Array Value}(hM:M.le j)(y:N.agree u U)(A: ∀i,U i->x i)(h:FR M N U f t):FR j u x f t:=fun k=>(h k).mono hM y A
theorem FR.ext{M j:Mem}{N u:Nm}{U x:Nat->Prop}{h y:AH}{w A:World}{f:AF}{t:Array Value}(e:Ext M N U h w j u x y A)(hf:FR M N U f t):FR j u x f t:=hf.mono e.oJ e.nm e.ule
theorem FR.put{M:Mem}{N:Nm}{U:Nat->Prop}{f:AF}{t:Array Value}(h:FR M N U f t)(d:Nat)(p:PV)(x:Value)(hd:d<t.size)(hp:VR M N U p x):FR M N U ((d,p)::f) (t.setIfInBounds d x):=by
 intro k;rw[AF.ay];by_cases hk:k=d
 .subst hk;simp[WZ,hd,hp]
 .rw[be hk];have:=h k;simp only[WZ,XD]at this ⊢;rw[be (fun e=>hk e.symm)];exact this
inductive TK where
  |aP (d:TypeDesc)
  |cy (fs:List (Nat×TypeId))
  |arr (n:Nat) (e:TypeId)
structure bC where
  k:TK
  size:Nat
  bytes:Nat
  zero:Value
  eq:Bool
abbrev Ty:=Nat->Option bC
def yb:TypeDesc->Bool
  | .struct _=>kw
  | .array _ _=>kw
  |_=>jp
def KJ(P:Program)(t:TypeId):TK->Prop
  | .aP d=>P.underlying t=io d∧yb d=jp
  | .cy fs=> ∃F,P.underlying t=io (.struct F)∧F.toList.map (fun f=>(f.offset,f.type))=fs
  | .arr n e=>P.underlying t=io (.array n e)
def VD(P:Program)(t:TypeId):Prop:=P.stoodInHeld t=kw∧P.eqGuardType P.depth t=kw∧ ∀f∈(P.fieldsOf t).toList,f.name≠ "_"
def aj(P:Program)(t:TypeId)(e:bC):Prop:=
  (∃i,P.info? t=io i∧i.size=e.size∧i.bytes=e.bytes∧i.zero=io e.zero)∧KJ P t e.k∧(e.eq=jp->VD P t)
def bq(P:Program)(ty:Ty):Prop:= ∀t e,ty t=io e->aj P t e
section
variable {P:Program} {w:World}
theorem aQ{t:TypeId}{e:bC}(h:aj P t e):(sizeOf t).run P w= .ok e.size w:=by
  obtain⟨⟨i,hi,hs,_⟩,_⟩:=h;simp[sizeOf,run_typeInfo w hi,hs]
theorem dy{t:TypeId}{e:bC}(h:aj P t e):(zeroValue t).run P w= .ok e.zero w:=by
  obtain⟨⟨i,hi,hs,hb,j⟩,_⟩:=h;simp[zeroValue,run_typeInfo w hi,j]
def TK.agg:TK->Bool
  | .aP _=>kw
  |_=>jp
theorem fX{t:TypeId}{e:bC}(h:aj P t e):(isAgg t).run P w= .ok e.k.agg w:=by
  obtain⟨_,hk,_⟩:=h;cases hek:e.k with
  | aP d=>
    rw[hek]at hk;obtain⟨h1,j⟩:=hk;simp only[isAgg,Sem.run_bind,run_underlying h1,Result.andThen_ok];cases d<;>simp_all [yb,TK.agg]
  | cy fs=>
    rw[hek]at hk;obtain⟨F,h1,_⟩:=hk;simp[isAgg,run_underlying h1,TK.agg]
  | arr n el=>
    rw[hek]at hk;simp only[KJ]at hk;simp[isAgg,run_underlying hk,TK.agg]
end
structure AS where
  f:AF
  h:AH
  nx:Nat
structure NT where
  n:Nat
  df:List Deferred
instance:Coe NT Nat:=⟨NT.n⟩
instance:Coe Nat NT:=⟨fun n=>⟨n,[]⟩⟩
def Fits(M:Mem)(N:Nm)(s:AS)(nt:NT)(a:Act)(w:World):Prop:=
  Rel M N (· <s.nx) s.h w∧FR M N (· <s.nx) s.f a.tmps∧a.defers=nt.df∧a.tmps.size=nt.n
def ofV:Value->PV
  | .agg cs=> .agg (cs.toList.map fun v=> .iv (.v v))
  | .bool b=> .kb b
  |v=> .iv (.v v)
def ev(f:AF):Operand->PV
  | .tmp t=>f.get t
  | .const v=>ofV v
  | .global _=> .any
  | .func g=> .cB (.func g) [] []
theorem Sk{M:Mem}{N:Nm}{U:Nat->Prop}(v:Value):VR M N U (ofV v) v:=by
  cases v<;>first
    |exact .iv _ _ (.v _)
    |exact .kb _
    | (refine .agg _ _ (by simp) (fun j p y=>?_)
       rw[W9,Xa]at y;obtain⟨x,B,rfl⟩:=y;rename_i A;have u:A[j]? =io x:=by simpa using B
       rw[WZ,u]
       exact .iv _ _ (.v _))
theorem aO{M:Mem}{N:Nm}{U:Nat->Prop}{f:AF}{a:Act}(h:FR M N U f a.tmps)(x:Operand):VR M N U (ev f x) (a.eval x):=by
  cases x with
  |tmp t=>exact h t
  |const v=>exact Sk v
  |global g=>exact .any _
  |func g=>exact .cB _ _ _ _ _ Z Z (by simp) (by simp)
def ma(cs:List PV)(off n:Nat):Option (List PV):=let l:=(cs.drop off).take n;bif Xv l.length n then io l else is
def wv{α:Type _}(p:PV)(k:PV->α):α:=
  match p with
  | .iv x=>k (.iv x)
  | .agg cs=>k (.agg cs)
  | .a7 cs=>k (.a7 cs)
  | .ptr i o=>k (.ptr i o)
  | .cV i sz a o=>k (.cV i sz a o)
  | .fe z i=>k (.fe z i)
  | .ot i o n=>k (.ot i o n)
  | .sl i o n sz=>k (.sl i o n sz)
  | .mp i=>k (.mp i)
  | .cB fn a b=>k (.cB fn a b)
  | .kb b=>k (.kb b)
  | .any=>k .any
theorem dL{α:Type _}(p:PV)(k:PV->α):wv p k=k p:=by cases p<;>rfl
def force{α:Type _}:List PV->(List PV->α)->α
  | [],k=>k []
  |x::r,k=>wv x fun u=>force r fun j=>k (u::j)
theorem force_eq{α:Type _}: ∀(l:List PV) (k:List PV->α),force l k=k l
  | [],_=>rfl
  |x::r,k=>by simp only[force,dL];rw[force_eq r]
def PV.one:PV->Bool
  | .iv (.v (.agg _))=>kw
  | .iv (.v (.tuple _))=>kw
  | .iv (.agg _)=>kw
  | .iv _=>jp
  | .agg _=>kw
  | .a7 _=>kw
  | .any=>kw
  |_=>jp
def PV.cells:PV->Option (List PV)
  | .agg cs=>io cs
  | p=>match p.one with
    |true=>io [p]
    |false=>is
def dB:List PV->Bool
  | []=>jp
  | p::r=>match p.one with
    |true=>dB r
    |false=>kw
def setCells:List PV->Nat->List PV->List PV
  | [],_,_=> []
  |c::cs,0,[]=>c::cs
  |_::cs,0,x::xs=>x::setCells cs 0 xs
  |c::cs,n+1,xs=>c::setCells cs n xs
theorem da: ∀(cs:List PV) (n:Nat) (xs:List PV),(setCells cs n xs).length=cs.length
  | [],_,_=>rfl
  |c::cs,0,[]=>rfl
  |_::cs,0,x::xs=>by simp[setCells,da cs 0 xs]
  |c::cs,n+1,xs=>by simp[setCells,da cs n xs]
theorem iP: ∀(cs:List PV) (n:Nat) (xs:List PV) (j:Nat) (p:PV),(setCells cs n xs)[j]? =io p->(n<=j∧xs[j-n]? =io p)∨((j<n∨n+xs.length<=j)∧cs[j]? =io p)
  | [],_,_,j,p,h=>by simp[setCells]at h
  |c::cs,0,[],j,p,h=> .inr ⟨.inr (by simp),h⟩
  | c::cs,0,x::xs,j,p,h=>by
    simp only[setCells]at h;cases j with
    |zero=>exact .inl ⟨W8 _,by simpa using h⟩
    | succ j=>
      rcases iP cs 0 xs j p (by simpa using h) with⟨_,h1⟩|⟨h1,u⟩
      · exact .inl ⟨Xc _,by simpa using h1⟩
      · exact .inr ⟨by simp at h1 ⊢;omega,by simpa using u⟩
  | c::cs,n+1,xs,j,p,h=>by
    simp only[setCells]at h;cases j with
    |zero=>exact .inr ⟨.inl (by omega),by simpa using h⟩
    | succ j=>
      rcases iP cs n xs j p (by simpa using h) with⟨h1,u⟩|⟨h1,u⟩
      · exact .inl ⟨by omega,by rw[show j+1-(n+1)=j-n by omega];exact u⟩
      · exact .inr ⟨by omega,by simpa using u⟩
def cj(v:Value):List PV:=v.cells.toList.map fun x=> .iv (.v x)
def qo(j:Nat->Option (Nat×Nat)):List PV->List (Nat×PV)->Option (List PV)
  |cs,[]=>io cs
  | cs,(i,p)::r=>match j i with
    | some (off,size)=>match p.cells with
      | some l=>match Xv l.length size,Y4 (off+l.length) cs.length with
        |true,jp=>force (setCells cs off l) fun u=>qo j u r
        |_,_=>is
      |none=>is
    |none=>is
def kP:List PV->Option PV
  | []=>is
  |p::_=>io p
def behind(h:AH):PV->Option (List PV)
  | .ptr i off=>match h.get i with
    |some (.cells cs _)=>io (cs.drop off)
    |_=>is
  | .cV i sz k off=>match h.get i with
    | some (.row sz' es)=>match Xv sz' sz,es[k]? with
      |true,io e=>io (e.drop off)
      |_,_=>is
    |_=>is
  | .iv (.ln cs)=>io (cs.map .iv)
  |_=>is
def iq(e:bC)(cs:List PV):Option PV:=
  match e.k.agg with
  | true=>match ma cs 0 e.size with
    |some l=>force l fun j=>io (.agg j)
    |none=>is
  |false=>kP cs
def uU(e:bC)(k:Nat):Option (Nat×TypeId):=
  match e.k with
  | .cy fs=>fs[k]?
  |_=>is
def rK(ty:Ty):List (Nat×TypeId)->Option (List (Nat×Nat))
  | []=>io []
  | (off,u)::r=>match ty u with
    | some e=>match rK ty r with
      |some l=>io ((off,e.size)::l)
      |none=>is
    |none=>is
def qO(n:Nat):PV->Option PV
  | .ptr i off=>io (.ptr i (off+n))
  | .cV i sz k off=>io (.cV i sz k (off+n))
  | .iv (.ln cs)=>io (.iv (.ln (cs.drop n)))
  |_=>is
abbrev PV.bool(b:Bool):PV:= .iv (.v (.bool b))
abbrev PV.int(n:Int):PV:= .iv (.v (.int .i64 n))
abbrev PV.str(s:ByteArray):PV:= .iv (.v (.string s))
def sq(n:Int):Prop:= -9223372036854775808<=n∧n<=9223372036854775807
def Fi(op:BinOp)(k:IntKind)(a b:Int):Option (PV×Prop):=
  match op,k with
  | .add,.i64=>io (.int (a+b),sq (a+b))
  | .sub,.i64=>io (.int (a-b),sq (a-b))
  | .mul,.i64=>io (.int (a*b),sq (a*b))
  | .rem,.i64=>io (.int (Int.tmod a b),¬b=0)
  | .quo,.i64=>io (.int (Int.tdiv a b),¬b=0∧sq (Int.tdiv a b))
  | .add,k=>io (.iv (.v (.int k (k.wrap (a+b)))),True)
  | .sub,k=>io (.iv (.v (.int k (k.wrap (a-b)))),True)
  | .mul,k=>io (.iv (.v (.int k (k.wrap (a*b)))),True)
  | .quo,k=>io (.iv (.v (.int k (k.wrap (Int.tdiv a b)))),¬b=0)
  | .rem,k=>io (.iv (.v (.int k (Int.tmod a b))),¬b=0)
  | .eql,_=>io (.bool (lc (a=b)),True)
  | .neq,_=>io (.bool (!lc (a=b)),True)
  | .lss,_=>io (.bool (lc (a<b)),True)
  | .leq,_=>io (.bool (lc (a<=b)),True)
  | .gtr,_=>io (.bool (lc (a>b)),True)
  | .geq,_=>io (.bool (lc (a>=b)),True)
  | .and,k=>io (.iv (.v (.int k (k.wrap ((BitVec.ofInt k.bits a&&&BitVec.ofInt k.bits b).toNat:Int)))),True)
  | .or,k=>io (.iv (.v (.int k (k.wrap ((BitVec.ofInt k.bits a|||BitVec.ofInt k.bits b).toNat:Int)))),True)
  | .xor,k=>io (.iv (.v (.int k (k.wrap ((BitVec.ofInt k.bits a ^^^ BitVec.ofInt k.bits b).toNat:Int)))),True)
  |_,_=>is
def tI(op:BinOp)(k:IntKind)(a b:Int):Option (PV×Prop):=
  match op with
  | .shr=>match lc (0<=b) with
    |true=>io (.iv (.v (.int k (a.fdiv (2 ^ min b.toNat k.bits)))),True)
    |false=>is
  | .shl=>match lc (0<=b) with
    |true=>io (.iv (.v (.int k (k.wrap (a*2 ^ min b.toNat k.bits)))),True)
    |false=>is
  |_=>is
def DV(op:BinOp)(k:IntKind)(a b:Int):Option (PV×Prop):=
  match op with
  | .shr=>tI .shr k a b
  | .shl=>tI .shl k a b
  |op=>Fi op k a b
def Ey(op:BinOp)(a b:ByteArray):Option (PV×Prop):=
  match op with
  | .eql=>io (.bool (lc (a=b)),True)
  | .neq=>io (.bool (!lc (a=b)),True)
  | .add=>io (.str (a++b),a.size+b.size<=9223372036854775807)
  | .lss=>io (.bool (Op.bytesLess a.toList b.toList),True)
  | .gtr=>io (.bool (!(Op.bytesLess a.toList b.toList||decide (a=b))),True)
  | .leq=>io (.bool (Op.bytesLess a.toList b.toList||decide (a=b)),True)
  | .geq=>io (.bool (!(Op.bytesLess a.toList b.toList)),True)
  |_=>is
def o8(ty:Ty)(t:TypeId)(op:BinOp)(a b:Bool):Option (PV×Prop):=
  match ty t with
  | some ⟨.aP .bool,_,_,_,_⟩=>match op with
    | .eql=>io (.bool (a==b),True)
    | .neq=>io (.bool (!(a==b)),True)
    |_=>is
  |_=>is
def Jk:TypeDesc->Bool
  | .pointer _=>jp
  |_=>kw
def Sy:TypeDesc->Bool
  | .map _ _=>jp
  |_=>kw
def NC:TypeDesc->Bool
  | .func _ _ _=>jp
  |_=>kw
def vT(ty:Ty)(t:TypeId)(wd:TypeDesc->Bool)(op:BinOp)(b:Bool):Option (PV×Prop):=
  match ty t with
  | some ⟨.aP d,_,_,_,_⟩=>match wd d,op with
    |true,.eql=>io (.bool b,True)
    |true,.neq=>io (.bool (!b),True)
    |_,_=>is
  |_=>is
def Av(ty:Ty)(t:TypeId)(op:BinOp)(x y:PV):Option (PV×Prop):=
  match x,y with
  | .iv (.v (.int j a)),.iv (.v (.int k b))=>if j=k then DV op j a b else tI op j a b
  | .iv (.v (.string a)),.iv (.v (.string b))=>Ey op a b
  | .iv (.v (.bool a)),y=>match y with
    | .iv (.v (.bool b))=>o8 ty t op a b
    | .kb b=>o8 ty t op a b
    |_=>is
  | .kb a,y=>match y with
    | .iv (.v (.bool b))=>o8 ty t op a b
    | .kb b=>o8 ty t op a b
    |_=>is
  | .ptr _ _,.iv (.v (.pointer is))=>vT ty t Jk op kw
  | .iv (.v (.pointer is)),.iv (.v (.pointer is))=>vT ty t Jk op jp
  | .mp _,.iv (.v (.map is))=>vT ty t Sy op kw
  | .cB _ _ _,.iv (.v .nilFunc)=>vT ty t NC op kw
  |_,_=>is
def xu:PV->Option (PV×Prop)
  | .iv (.bI _ n _)=>io (.int n,True)
  | .iv (.v (.slice is 0 0))=>io (.int 0,True)
  | .iv (.v (.string s))=>io (.int s.size,True)
  | .sl _ _ len _=>io (.int len,True)
  |_=>is
def kO(x:PV)(i:Int):Option (PV×Prop):=
  match x with
  | .iv (.bI _ n el)=>io (.iv (.ln (el i.toNat)),0<=i∧i<n)
  | .sl j off len sz=>io (.cV j sz (off+i.toNat) 0,0<=i∧i<len)
  |_=>is
def FK.rd:(s:FS)->List PV->Option (FK s)
  | [],cs=>match cs with
    | []=>io ()
    |_=>is
  | none::r,cs=>match cs with
    | .iv (.v (.string a))::cs=>match FK.rd r cs with
      |some k=>io (a,k)
      |none=>is
    |_=>is
  | some q::r,cs=>match cs with
    | .iv (.v (.int j n))::cs=>match lc (j=q),FK.rd r cs with
      |true,io k=>io (n,k)
      |_,_=>is
    |_=>is
def KC.pk:(c:KC)->c.K->PV
  | .str,s=> .iv (.v (.string s))
  | .int k,n=> .iv (.v (.int k n))
  | .si k,x=> .agg [.iv (.v (.string x.1)),.iv (.v (.int k x.2))]
  | .fl s,x=> .agg ((FK.vs s x).map fun v=> .iv (.v v))
def KC.dk:(c:KC)->PV->Option c.K
  | .str,p=>match p with
    | .iv (.v (.string s))=>io s
    |_=>is
  | .int k,p=>match p with
    | .iv (.v (.int j n))=>if j=k then io n else is
    |_=>is
  | .si k,p=>match p with
    | .agg [.iv (.v (.string s)),.iv (.v (.int j n))]=>if j=k then io (s,n) else is
    |_=>is
  | .fl s,p=>match p with
    | .agg cs=>FK.rd s cs
    |_=>is
def q9(f:TypeId->Option FS):List (Nat×TypeId)->Nat->Option FS
  | [],_=>io []
  | (off,u)::r,at_=>match Xv off at_,f u with
    | true,io s=>match q9 f r (at_+s.length) with
      |some q=>io (s++q)
      |none=>is
    |_,_=>is
def Dv(s:FS):Nat->FS
  |0=> []
  |n+1=>s++Dv s n
def wx(ty:Ty):Nat->TypeId->Option FS
  |0,_=>is
  | d+1,t=>match ty t with
    |some ⟨.aP .string,1,_,_,_⟩=>io [is]
    |some ⟨.aP (.int q),1,_,_,_⟩=>io [io q]
    | some ⟨.cy fs,n,_,_,jp⟩=>match q9 (wx ty d) fs 0 with
      | some s=>match Xv s.length n with
        |true=>io s
        |false=>is
      |none=>is
    | some ⟨.arr n e,m,_,_,_⟩=>match wx ty d e with
      | some s=>match Xv (n*s.length) m with
        |true=>io (Dv s n)
        |false=>is
      |none=>is
    |_=>is
def dV(ty:Ty)(j:TypeId):Option KC:=
  match ty j with
  |some ⟨.aP .string,_,_,_,_⟩=>io .str
  |some ⟨.aP (.int k),_,_,_,_⟩=>io (.int k)
  | some ⟨.cy [(0,a),(1,b)],_,_,_,jp⟩=>match ty a,ty b with
    |some ⟨.aP .string,1,_,_,_⟩,io ⟨.aP (.int k),1,_,_,_⟩=>io (.si k)
    |_,_=>is
  | some ⟨.cy _,_,_,_,jp⟩=>match wx ty 6 j with
    |some s=>io (.fl s)
    |none=>is
  |_=>is
section
variable (kc:KC) {V:Type}
def eh:List (kc.K×V)->kc.K->V->V
  | [],_,z=>z
  |(a,b)::r,k,z=>if a=k then b else eh r k z
def dA:List (kc.K×V)->kc.K->Bool
  | [],_=>kw
  |(a,_)::r,k=>if a=k then jp else dA r k
def cS:List (kc.K×V)->kc.K->V->List (kc.K×V)
  | [],k,v=> [(k,v)]
  |(a,b)::r,k,v=>if a=k then(k,v)::r else(a,b)::cS r k v
def lq:List (kc.K×V)->kc.K->List (kc.K×V)
  | [],_=> []
  |(a,b)::r,k=>if a=k then r else(a,b)::lq r k
end
def Eu:Value->Value->Bool
  | .int j a,.int k b=>lc (j=k)&&lc (a=b)
  | .string a,.string b=>lc (a=b)
  | .bool a,.bool b=>a==b
  | .slice is 0 0,.slice is 0 0=>jp
  | .map is,.map is=>jp
  |_,_=>kw
def xI:List Value->List Value->Bool
  | [],[]=>jp
  |a::r,b::q=>Eu a b&&xI r q
  |_,_=>kw
def lO:Value->Value->Bool
  | .agg a,.agg b=>xI a.toList b.toList
  |a,b=>Eu a b
def IV.pv:IV->PV
  | .agg cs=> .agg (cs.map .iv)
  |x=> .iv x
def v7(ty:Ty)(t:TypeId)(ok:Bool)(kc:KC){V:Type}(e:V->IV)(z:V)(j:Value)(m:List (kc.K×V))(key:PV):Option (PV×Prop):=
  match ty t with
  | some ⟨.aP (.map kt et),_,_,_,_⟩=>match dV ty kt,ty et with
    | some kc',io ee=>match lc (kc'=kc),lO ee.zero j,kc.dk key with
      | true,jp,io k=>match ok with
        |true=>io (.a7 [(e (eh kc m k z)).pv,.iv (.v (.bool (dA kc m k)))],True)
        |false=>io ((e (eh kc m k z)).pv,True)
      |_,_,_=>is
    |_,_=>is
  |_=>is
def Hf(f:TypeId->PV->PV->Option Bool)(ty:Ty):List (Nat×TypeId)->List PV->List PV->Option Bool
  | [],_,_=>io jp
  | (off,u)::r,cs,ds=>match ty u with
    | some eu=>match iq eu (cs.drop off),iq eu (ds.drop off) with
      | some a,io b=>match f u a b,Hf f ty r cs ds with
        |some x,io y=>io (x&&y)
        |_,_=>is
      |_,_=>is
    |none=>is
def Hg(ty:Ty):Nat->TypeId->PV->PV->Option Bool
  |0,_,_,_=>is
  | d+1,t,p,q=>match ty t with
    | some ⟨.aP (.int _),_,_,_,_⟩=>match p,q with
      | .iv (.v (.int j a)),.iv (.v (.int k b))=>if j=k then io (lc (a=b)) else is
      |_,_=>is
    | some ⟨.aP .string,_,_,_,_⟩=>match p,q with
      | .iv (.v (.string a)),.iv (.v (.string b))=>io (lc (a=b))
      |_,_=>is
    | some ⟨.aP .bool,_,_,_,_⟩=>match p,q with
      | .iv (.v (.bool a)),.iv (.v (.bool b))=>io (a==b)
      |_,_=>is
    | some ⟨.cy fs,_,_,_,jp⟩=>match p,q with
      | .agg cs,.agg ds=>Hf (Hg ty d) ty fs cs ds
      |_,_=>is
    |_=>is
def FW(ty:Ty)(t:TypeId)(op:BinOp)(p q:PV):Option (PV×Prop):=
  match op with
  | .eql=>match Hg ty 10 t p q with
    |some b=>io (.bool b,True)
    |none=>is
  | .neq=>match Hg ty 10 t p q with
    |some b=>io (.bool (!b),True)
    |none=>is
  |_=>is
def ji(ty:Ty)(s:AS):Op->Option (PV×Prop)
  | .move x=>io (ev s.f x,True)
  | .assign x=>io (ev s.f x,True)
  | .pick c a b=>match ev s.f c with
    | .kb jp=>io (ev s.f a,True)
    | .kb kw=>io (ev s.f b,True)
    |_=>is
  | .load t x=>match ty t with
    | some e=>match behind s.h (ev s.f x) with
      | some cs=>match iq e cs with
        |some p=>io (p,True)
        |none=>is
      |none=>is
    |none=>is
  | .nilCheck x=>match ev s.f x with
    | .ptr i o=>io (.ptr i o,True)
    | .cV i sz k o=>io (.cV i sz k o,True)
    | .iv (.ln cs)=>io (.iv (.ln cs),True)
    | .cB (.func g) a b=>io (.cB (.func g) a b,True)
    |_=>is
  | .binOp op t x y _=>match ev s.f x,ev s.f y with
    | .agg cs,.agg ds=>FW ty t op (.agg cs) (.agg ds)
    |p,q=>Av ty t op p q
  | .lookup t x i ok=>match ev s.f x with
    | .iv (.fa kc e z zv m)=>v7 ty t ok kc e z zv m (ev s.f i)
    | .mp j=>match s.h.get j with
      |some (.map kc e z zv _ m)=>v7 ty t ok kc e z zv m (ev s.f i)
      |_=>is
    |_=>is
  | .entry it=>match ev s.f it with
    | .ptr i 0=>match s.h.get i with
      |some (.bY kc e _ _ (io x))=>io (.a7 [kc.pk x.1,(e x.2).pv],True)
      |_=>is
    |_=>is
  | .unOp .not _ x=>match ev s.f x with
    | .kb jp=>io (.kb kw,True)
    | .kb kw=>io (.kb jp,True)
    | .iv (.v (.bool b))=>io (.bool (!b),True)
    |_=>is
  | .fieldAddr t x k=>match ty t with
    | some e=>match uU e k with
      | some (off,u)=>match ty u with
        | some eu=>match eu.size with
          |0=>is
          | _+1=>match qO off (ev s.f x) with
            |some p=>io (p,True)
            |none=>is
        |none=>is
      |none=>is
    |none=>is
  | .field t x k=>match ty t with
    | some e=>match uU e k with
      | some (off,u)=>match ty u with
        | some eu=>match ev s.f x with
          | .agg cs=>match iq eu (cs.drop off) with
            |some p=>io (p,True)
            |none=>is
          |_=>is
        |none=>is
      |none=>is
    |none=>is
  | .indexAddr t x i=>match ty t with
    | some ⟨.aP (.slice u),_,_,_,_⟩=>match ty u with
      | some eu=>match ev s.f i with
        | .iv (.v (.int _ n))=>match ev s.f x with
          | .iv (.bI sz m el)=>bif Xv sz eu.size then kO (.iv (.bI sz m el)) n else is
          | .sl j off len sz=>bif Xv sz eu.size then kO (.sl j off len sz) n else is
          |_=>is
        |_=>is
      |none=>is
    | some ⟨.arr len u,_,_,_,_⟩=>match ty u with
      | some eu=>match ev s.f i with
        | .iv (.v (.int _ n))=>match ev s.f x with
          | .ptr j off=>io (.ptr j (off+n.toNat*eu.size),0<=n∧n<len)
          |_=>is
        |_=>is
      |none=>is
    |_=>is
  | .index t x i=>match ty t with
    | some ⟨.aP .string,_,_,_,_⟩=>match ev s.f i with
      | .iv (.v (.int _ n))=>match ev s.f x with
        | .iv (.v (.string b))=>io (.iv (.v (.int .u8 ((b.data.toList.getD n.toNat 0).toNat:Int))),0<=n∧n<b.size)
        |_=>is
      |_=>is
    |_=>is
  | .slice t x (io lo) (io hi) is=>match ty t with
    | some ⟨.aP (.slice u),_,_,_,_⟩=>match ty u with
      | some eu=>match ev s.f lo with
        | .iv (.v (.int _ a))=>match ev s.f hi with
          | .iv (.v (.int _ b))=>match ev s.f x with
            | .iv (.bI sz m el)=>bif Xv sz eu.size then io (.iv (.bI sz (b.toNat-a.toNat) (fun k=>el (a.toNat+k))),0<=a∧a<=b∧b<=m) else is
            |_=>is
          |_=>is
        |_=>is
      |none=>is
    | some ⟨.aP .string,_,_,_,_⟩=>match ev s.f lo with
      | .iv (.v (.int _ a))=>match ev s.f hi with
        | .iv (.v (.int _ b))=>match ev s.f x with
          | .iv (.v (.string y))=>io (.iv (.v (.string (y.extract a.toNat b.toNat))),0<=a∧a<=b∧b<=y.size)
          |_=>is
        |_=>is
      |_=>is
    |_=>is
  | .slice t x (io lo) is is=>match ty t with
    | some ⟨.aP (.slice u),_,_,_,_⟩=>match ty u with
      | some eu=>match ev s.f lo with
        | .iv (.v (.int _ a))=>match ev s.f x with
          | .iv (.bI sz m el)=>bif Xv sz eu.size then io (.iv (.bI sz (m-a.toNat) (fun k=>el (a.toNat+k))),0<=a∧a<=m) else is
          |_=>is
        |_=>is
      |none=>is
    |_=>is
  | .slice t x is (io hi) (io mx)=>match ty t with
    | some ⟨.aP (.slice u),_,_,_,_⟩=>match ty u with
      | some eu=>match ev s.f hi with
        | .iv (.v (.int _ b))=>match ev s.f mx with
          | .iv (.v (.int _ c))=>match ev s.f x with
            | .iv (.bI sz m el)=>bif Xv sz eu.size then io (.iv (.bI sz b.toNat el),0<=b∧b<=c∧c<=m) else is
            |_=>is
          |_=>is
        |_=>is
      |none=>is
    |_=>is
  | .convert t t' x=>match ty t with
    | some ⟨.aP (.int _),_,_,_,_⟩=>match ty t' with
      | some ⟨.aP (.int k),_,_,_,_⟩=>match ev s.f x with
        | .iv (.v (.int _ n))=>io (.iv (.v (.int k (k.wrap n))),True)
        |_=>is
      |_=>is
    |_=>is
  | .build t parts=>match ty t with
    | some e=>match e.k with
      | .cy fs=>match rK ty fs with
        | some pl=>match qo (pl[·]?) (cj e.zero) (parts.toList.map fun x=>(x.1,ev s.f x.2)) with
          |some cs=>force cs fun A=>io (.agg A,True)
          |none=>is
        |none=>is
      | .arr _ u=>match ty u with
        | some eu=>match qo (fun i=>io (i*eu.size,eu.size)) (cj e.zero) (parts.toList.map fun x=>(x.1,ev s.f x.2)) with
          |some cs=>force cs fun A=>io (.agg A,True)
          |none=>is
        |none=>is
      |_=>is
    |none=>is
  | .extract x k=>match ev s.f x with
    | .a7 cs=>match cs[k]? with
      |some p=>io (p,True)
      |none=>is
    |_=>is
  | .makeFunc fn first caps=>force (first.toList.map (ev s.f)) fun a=>force (caps.toList.map (ev s.f)) fun b=>io (.cB fn a b,True)
  | .call ⟨.builtin .len,args,argTypes⟩=>match args.toList,argTypes.toList with
    | [x],[t]=>match ty t with
      | some ⟨.aP (.slice _),_,_,_,_⟩=>match ev s.f x with
        | .iv (.bI sz n el)=>xu (.iv (.bI sz n el))
        | .sl i off len sz=>xu (.sl i off len sz)
        | .iv (.v (.slice is 0 0))=>xu (.iv (.v (.slice is 0 0)))
        |_=>is
      | some ⟨.aP .string,_,_,_,_⟩=>match ev s.f x with
        | .iv (.v (.string b))=>xu (.iv (.v (.string b)))
        |_=>is
      | some ⟨.aP (.map _ _),_,_,_,_⟩=>match ev s.f x with
        | .iv (.fa _ _ _ _ m)=>io (.int m.length,True)
        | .mp j=>match s.h.get j with
          |some (.map _ _ _ _ _ m)=>io (.int m.length,True)
          |_=>is
        |_=>is
      |_=>is
    |_,_=>is
  | .call ⟨.builtin .max,args,_⟩=>match args.toList with
    | [x,y]=>match ev s.f x,ev s.f y with
      | .iv (.v (.int k a)),.iv (.v (.int _ b))=>io (.iv (.v (.int k (max a b))),True)
      |_,_=>is
    |_=>is
  | .call ⟨.builtin .min,args,_⟩=>match args.toList with
    | [x,y]=>match ev s.f x,ev s.f y with
      | .iv (.v (.int k a)),.iv (.v (.int _ b))=>io (.iv (.v (.int k (min a b))),True)
      |_,_=>is
    |_=>is
  |_=>is
inductive TT where
  |leaf
  |node (l:TT) (k:Nat) (e:bC) (r:TT)
def TT.find:TT->Nat->Option bC
  | .leaf,_=>is
  | .node l k e r,t=>bif Xv t k then io e else bif Xx t k then l.find t else r.find t
def TT.VQ(p:Nat->bC->Prop):TT->Prop
  | .leaf=>True
  | .node l k e r=>p k e∧l.VQ p∧r.VQ p
theorem TT.wz{p:Nat->bC->Prop}: ∀{x:TT},x.VQ p-> ∀t e,x.find t=io e->p t e
  | .leaf,_,t,e,h=>by simp[TT.find]at h
  | .node l k e0 r,ha,t,e,h=>by
    simp only[TT.find]at h;cases hb:Xv t k with
    | true=>
      simp only[hb,cond_true,W3]at h;subst h;rw[Xs hb];exact ha.1
    | false=>
      simp only[hb,cond_false]at h;cases hl:Xx t k with
      |true=>simp only[hl,cond_true]at h;exact TT.wz ha.2.1 t e h
      |false=>simp only[hl,cond_false]at h;exact TT.wz ha.2.2 t e h
theorem ad{P:Program}{t:TypeId}{e:bC}(h:(P.info? t).map (fun i=>(i.size,i.bytes,i.zero))=io (e.size,e.bytes,io e.zero)): ∃i,P.info? t=io i∧i.size=e.size∧i.bytes=e.bytes∧i.zero=io e.zero:=by
  rw[Xa]at h;obtain⟨i,h1,j⟩:=h;simp only[Xe]at j;exact⟨i,h1,j.1,j.2.1,j.2.2⟩
theorem VR.one{M:Mem}{N:Nm}{U:Nat->Prop}{p:PV}{x:Value}(h:VR M N U p x)(ho:p.one=jp):x.oneCell'=jp:=by
  cases h with
  | iv y x hi=>
    cases hi with
    |v x=>cases x<;>first|rfl|(simp[PV.one]at ho)
    |agg=>simp[PV.one]at ho
    |_=>rfl
  |agg=>simp[PV.one]at ho
  |a7=>simp[PV.one]at ho
  |any=>simp[PV.one]at ho
  |_=>rfl
section
variable {M:Mem} {N:Nm}
theorem VR.kz{U:Nat->Prop}{cs:List PV}{x:Value}(h:VR M N U (.agg cs) x): ∃u:Array Value,x= .agg u∧cs.length=u.size∧ ∀j p,cs[j]? =io p->VR M N U p (u.getD j undef):=by
  cases h with
  |agg _ u hl hr=>exact⟨u,rfl,hl,hr⟩
theorem o5{U:Nat->Prop}{p:PV}{x:Value}{cs:List PV}(h:VR M N U p x)(hc:p.cells=io cs):cs.length=x.cells.size∧ ∀j q,cs[j]? =io q->VR M N U q (x.cells.getD j undef):=by
  have one:p.one=jp->cs=[p]->cs.length=x.cells.size∧ ∀j q,cs[j]? =io q->VR M N U q (x.cells.getD j undef):=by
    intro y u;subst u;have h1:=h.one y;have B:x.cells= #[x]:=by cases x<;>first|rfl|(simp[Value.oneCell']at h1)
    rw[B];refine⟨rfl,fun j q A=>?_⟩;cases j with
    |zero=>simp at A;subst A;exact h
    |succ j=>simp at A
  cases p with
  | agg l=>
    simp only[PV.cells,W3]at hc;subst hc;obtain⟨D,rfl,hl,hr⟩:=h.kz;exact⟨hl,hr⟩
  | _=>
    simp only[PV.cells]at hc;split at hc
    · rename_i y
      simp only[W3]at hc;exact one y hc.symm
    · cases hc
theorem gE: ∀{cs:List PV},dB cs=jp-> ∀(j:Nat) (p:PV),cs[j]? =io p->p.one=jp
  | [],_,j,p,h=>by simp at h
  | c::cs,h,j,p,hj=>by
    simp only[dB]at h;split at h
    · rename_i u
      cases j with
      |zero=>simp at hj;subst hj;exact u
      |succ j=>exact gE h j p (by simpa using hj)
    · cases h
theorem fL{U:Nat->Prop}(v:Value):(cj v).length=v.cells.size∧ ∀j p,(cj v)[j]? =io p->VR M N U p (v.cells.getD j undef):=by
  refine⟨by simp[cj],fun j p u=>?_⟩;simp only[cj]at u;rw[W9,Xa]at u;obtain⟨x,A,rfl⟩:=u;have y:v.cells[j]? =io x:=by simpa using A
  rw[WZ,y];exact .iv _ _ (.v _)
theorem yD: ∀(l:List Value) (k off:Nat) (cs:Array Value),off+k+l.length<=cs.size->
    ((l.zipIdx k).foldl (fun cs x=>cs.setIfInBounds (off+x.2) x.1) cs).size=cs.size∧
    ∀j,((l.zipIdx k).foldl (fun cs x=>cs.setIfInBounds (off+x.2) x.1) cs)[j]? =if off+k<=j∧j<off+k+l.length then l[j-(off+k)]? else cs[j]?
  | [],k,off,cs,_=>⟨rfl,fun j=>by simp;omega⟩
  | v::l,k,off,cs,h=>by
    simp only[List.zipIdx_cons,X8];simp only[Xy]at h;obtain⟨h1,A⟩:=yD l (k+1) off (cs.setIfInBounds (off+k) v) (by simp;omega);refine⟨by rw[h1];simp,fun j=>?_⟩;rw[A j];simp only[Xy];by_cases y:off+(k+1)<=j∧j<off+(k+1)+l.length
    · rw[am y,am (by omega),show j-(off+k)=(j-(off+(k+1)))+1 by omega,ZI]
    · rw[be y]
      by_cases u:j=off+k
      · subst u
        have hb:off+k<cs.size:=by omega
        rw[am (by omega),Zw];simp[hb]
      · rw[be (by omega),XD,be (fun e=>u e.symm)]
def WU(M:Mem)(N:Nm)(U:Nat->Prop)(cs:List PV)(ys:Array Value):Prop:=cs.length=ys.size∧ ∀j p,cs[j]? =io p->VR M N U p (ys.getD j undef)
theorem su{x:Nat->Option (Nat×Nat)}: ∀{u:List (Nat×PV)} {cs j:List PV},qo x cs u=io j->j.length=cs.length
  | [],cs,j,h=>by simp only[qo,W3]at h;rw[h]
  | (i,p)::r,cs,j,h=>by
    simp only[qo]at h;split at h
    · split at h
      · split at h
        · rw[force_eq]at h
          rw[su h,da]
        · cases h
      · cases h
    · cases h
theorem sr{U:Nat->Prop}{A:Nat->Option (Nat×Nat)}: ∀{u:List (Nat×PV)} {AR:List (Nat×Value)} {cs B:List PV} {ys:Array Value},
    qo A cs u=io B->u.length=AR.length->(∀(j:Nat) (x:Nat×PV) (y:Nat×Value),u[j]? =io x->AR[j]? =io y->x.1=y.1∧VR M N U x.2 y.2)->WU M N U cs ys->
    ∃D,Instr.fill A ys AR=io D∧WU M N U B D
  | [],[],cs,B,ys,h,_,_,hv=>by
    simp only[qo,W3]at h;subst h;exact⟨ys,rfl,hv⟩
  | (i,p)::r,(i',v)::vr,cs,B,ys,h,hl,hp,hv=>by
    obtain⟨h1,h2⟩:=hp 0 _ _ Z Z;simp only at h1 h2;subst h1;simp only[qo]at h;split at h
    · rename_i a0 size e0
      split at h
      · rename_i l d0
        split at h
        · rename_i b0 c0
          rw[force_eq]at h;obtain⟨g1,g2⟩:=o5 h2 d0;have f0:v.cells.size=size:=by rw[<-g1];exact Xs b0
          have J:a0+v.cells.size<=ys.size:=by rw[<-g1,<-hv.1];exact WY c0
          obtain⟨k1,k2⟩:=yD v.cells.toList 0 a0 ys (by simpa using J);have G:v.cells.zipIdx.foldl (fun cs x=>cs.setIfInBounds (a0+x.2) x.1) ys=(v.cells.toList.zipIdx 0).foldl (fun cs x=>cs.setIfInBounds (a0+x.2) x.1) ys:=by
            rw[<-Array.foldl_toList,Array.toList_zipIdx]
          have g0:WU M N U (setCells cs a0 l) (v.cells.zipIdx.foldl (fun cs x=>cs.setIfInBounds (a0+x.2) x.1) ys):=by
            rw[G];refine⟨by rw[da,k1];exact hv.1,fun j q hq=>?_⟩;rw[WZ,k2 j];rcases iP cs a0 l j q hq with⟨Y,I⟩|⟨Y,I⟩
            · have i0:j-a0<l.length:=(W4.1 I).1
              rw[am (by simp;omega)];have:=g2 _ q I;rw[WZ]at this;simpa using this
            · rw[be (by simp;omega)]
              have:=hv.2 j q I;rw[WZ]at this;exact this
          obtain⟨D,Y,I⟩:=sr h (by simpa using hl) (fun j x y hx hy=>hp (j+1) x y (by simpa using hx) (by simpa using hy)) g0;refine⟨D,?_,I⟩;simp only[Instr.fill,e0];rw[be (by simp[f0];omega)];exact Y
        · cases h
      · cases h
    · cases h
end
section
variable {P:Program} {M:Mem} {N:Nm} {U:Nat->Prop} {h:AH} {w:World}
theorem Rel.I8(hr:Rel M N U h w){b o:Nat}{v:Value}(hc:M.cell b o=io v):w.cell? ⟨b,o,is⟩=io v:=by
  unfold Mem.cell at hc;cases hb:M b with
  |none=>simp[hb]at hc
  | some c=>
    cases c with
    |map es cl=>simp[hb]at hc
    | cells c=>
      obtain⟨T,u,j⟩:=hr.dK b _ hb;rw[hb]at hc;simp only[World.cell?,j];simpa using hc
theorem IR.DU{cs:List IV}{x:Value}(hr:Rel M N U h w)(hp:IR M (.ln cs) x):
    ∃b a0,x= .pointer (io ⟨b,a0,is⟩)∧ ∀j q,cs[j]? =io q-> ∃y,w.cell? ⟨b,a0+j,is⟩=io y∧IR M q y:=by
  cases hp with
  | ln _ b a0 hm hq=>
    refine⟨b,a0,rfl,fun j q B=>?_⟩;have u:j<cs.length:=(W4.1 B).1;have h1:=hm j u;cases hv:M.cell b (a0+j) with
    |none=>simp[hv]at h1
    | some y=>
      have A:=hq j q B;rw[hv]at A;exact⟨y,hr.I8 hv,A⟩
theorem yW{p:PV}{x:Value}{cs:List PV}(hr:Rel M N U h w)(hp:VR M N U p x)(hb:behind h p=io cs):
    ∃b a0,x= .pointer (io ⟨b,a0,is⟩)∧ ∀j q,cs[j]? =io q-> ∃y,w.cell? ⟨b,a0+j,is⟩=io y∧VR M N U q y:=by
  cases p with
  | ptr i a0=>
    cases hp with
    | ptr _ _ hU=>
      simp only[behind]at hb;cases ho:h.get i with
      |none=>simp[ho]at hb
      | some o=>
        cases o with
        | cells cs0 T0=>
          simp only[ho,W3]at hb;subst hb;obtain⟨c,T,h1,h2,h3,D,h5⟩:=hr.obj i _ ho;refine⟨N.aA i,a0,rfl,fun j q u=>?_⟩;rw[XW]at u;have A:a0+j<c.size:=by rw[<-h3];exact(W4.1 u).1
          refine⟨c.getD (a0+j) undef,?_,D _ _ u⟩;simp[World.cell?,h1,WZ,A]
        |_=>simp[ho]at hb
  | cV i sz k a0=>
    cases hp with
    | cV _ _ _ _ hU=>
      simp only[behind]at hb;cases ho:h.get i with
      |none=>simp[ho]at hb
      | some o=>
        cases o with
        | row sz' es=>
          simp only[ho]at hb;split at hb
          · rename_i e G B
            simp only[W3]at hb;have:=Xs G;subst this;subst hb;rcases hr.obj i _ ho with Y|⟨Y,c,T,h1,h2,h3,D,h5⟩
            · subst Y;simp at B
            refine⟨N.aA i,k*sz'+a0,rfl,fun j q u=>?_⟩;rw[XW]at u;have b0:a0+j<sz':=by rw[<-D k e B];exact(W4.1 u).1
            have hk:k<es.length:=(W4.1 B).1;have J:(k+1)*sz'<=es.length*sz':=Xt _ hk;rw[YL]at J;have A:k*sz'+a0+j<c.size:=by omega
            refine⟨c.getD (k*sz'+a0+j) undef,?_,?_⟩
            · simp[World.cell?,h1,WZ,A]
            · rw[Yf];exact h5 k e _ q B u
          · cases hb
        |_=>simp[ho]at hb
  | iv x=>
    cases x with
    | ln cs0=>
      cases hp with
      | iv _ _ hi=>
        simp only[behind,W3]at hb;subst hb;obtain⟨b,a0,rfl,hc⟩:=hi.DU hr;refine⟨b,a0,rfl,fun j q u=>?_⟩;rw[W9,Xa]at u;obtain⟨q0,I,rfl⟩:=u;obtain⟨y,hy,hq⟩:=hc j q0 I;exact⟨y,hy,.iv _ _ hq⟩
    |_=>simp[behind]at hb
  |_=>simp[behind]at hb
theorem oA{cs l:List PV}{off n:Nat}(hh:ma cs off n=io l):l.length=n∧ ∀j q,l[j]? =io q->cs[off+j]? =io q∧j<n:=by
  unfold ma at hh;cases hb:Xv ((cs.drop off).take n).length n with
  |false=>simp only[hb,cond_false]at hh;cases hh
  | true=>
    simp only[hb,cond_true,W3]at hh;subst hh;have hl:=Xs hb;refine⟨hl,fun j q x=>?_⟩;have u:j<n:=by rw[<-hl];exact(W4.1 x).1
    rw[XK,am u,XW]at x;exact⟨x,u⟩
theorem qm{cs:List PV}{p:PV}(hh:kP cs=io p):cs[0]? =io p:=by
  cases cs with
  |nil=>simp[kP]at hh
  |cons a r=>simpa[kP]using hh
theorem c9(b off j:Nat):(⟨b,off,is⟩:Addr).add j=⟨b,off+j,is⟩:=by
  unfold Addr.add;split
  · subst_vars;rfl
  · rfl
theorem tM{t:TypeId}{e:bC}(he:aj P t e){cs:List PV}{b off:Nat}(hc: ∀j q,cs[j]? =io q-> ∃y,w.cell? ⟨b,off+j,is⟩=io y∧VR M N U q y)
    {p:PV} (hp:iq e cs=io p): ∃y,(loadVar t ⟨b,off,is⟩).run P w= .ok y w∧VR M N U p y:=by
  unfold iq at hp;cases hk:e.k.agg with
  | true=>
    simp only[hk]at hp;cases ht:ma cs 0 e.size with
    |none=>simp[ht]at hp
    | some l=>
      simp only[ht,force_eq,W3]at hp;subst hp;obtain⟨hl,D⟩:=oA ht;have u: ∀j,j<e.size->w.cell? ((⟨b,off,is⟩:Addr).add j)=io (((w.cell? ⟨b,off+j,is⟩)).getD undef):=by
        intro j J;have A:l[j]? =io (l[j]'(by omega)):=W5 (by omega);obtain⟨y,x,_⟩:=hc j _ (by simpa using(D j _ A).1);rw[c9,x];rfl
      refine⟨.agg (((XC e.size).map fun j=>(w.cell? ⟨b,off+j,is⟩).getD undef).toArray),?_,?_⟩
      · have:=run_loadCells (P:=P) w ⟨b,off,is⟩ e.size (fun j=>(w.cell? ⟨b,off+j,is⟩).getD undef) u
        simp[loadVar,fX he,hk,aQ he,this]
      · refine .agg _ _ (by simp[hl]) (fun j q Y=>?_)
        obtain⟨h1,G⟩:=D j q Y;obtain⟨y,x,B⟩:=hc j q (by simpa using h1);have I:(((XC e.size).map fun j=>(w.cell? ⟨b,off+j,is⟩).getD undef).toArray).getD j undef=y:=by
          simp[WZ,G,x]
        rw[I];exact B
  | false=>
    simp only[hk]at hp;obtain⟨y,x,B⟩:=hc 0 p (qm hp);refine⟨y,?_,B⟩;simp only[loadVar,Sem.run_bind,fX he,Result.andThen_ok,hk,YQ,if_false];simp only[YC]at x;simp[x]
theorem jF{t:TypeId}{e:bC}(he:aj P t e){cs:List PV}{ys:Array Value}{off:Nat}(hl:cs.length=ys.size)(hc: ∀j q,cs[j]? =io q->VR M N U q (ys.getD j undef))
    {p:PV} (hp:iq e (cs.drop off)=io p): ∃y,(part t ys off).run P w= .ok y w∧VR M N U p y:=by
  unfold iq at hp;cases hk:e.k.agg with
  | true=>
    simp only[hk]at hp;cases ht:ma (cs.drop off) 0 e.size with
    |none=>simp[ht]at hp
    | some l=>
      simp only[ht,force_eq,W3]at hp;subst hp;obtain⟨B,G⟩:=oA ht;refine⟨.agg (ys.extract off (off+e.size)),by simp[part,fX he,hk,aQ he],.agg _ _ ?_ (fun j q I=>?_)⟩
      · rw[B,Array.size_extract]
        by_cases x:e.size=0
        · omega
        · have u:l[e.size-1]? =io (l[e.size-1]'(by omega)):=W5 (by omega)
          have:=(G _ _ u).1;rw[XW]at this;have:=(W4.1 this).1;omega
      · obtain⟨h1,Y⟩:=G j q I
        rw[XW]at h1;have A:=hc _ _ h1;have D:off+(0+j)<cs.length:=(W4.1 h1).1;have:(ys.extract off (off+e.size)).getD j undef=ys.getD (off+(0+j)) undef:=by
          simp only[WZ,Array.getElem?_extract,Xo];rw[am (by omega)]
        rw[this];exact A
  | false=>
    simp only[hk]at hp;have x:=qm hp;rw[XW]at x;have A:=hc _ _ x;have D:off+0<cs.length:=(W4.1 x).1;refine⟨ys.getD (off+0) undef,?_,A⟩;have J:ys[off]? =io (ys.getD off undef):=by
      simp[WZ,show off<ys.size by omega]
    simp only[part,Sem.run_bind,fX he,Result.andThen_ok,hk,YQ,if_false,J];rfl
theorem vj(a b:ByteArray):(a.toList==b.toList)=lc (a=b):=by
  rw[Lib.toList_data,Lib.toList_data,Yu];simp only[beq_iff_eq,decide_eq_true_eq];exact⟨fun h=>WideShapes.bytes_inj h,fun h=>by rw[h]⟩
theorem Jm{t:TypeId}{op:BinOp}{k:IntKind}{a b:Int}{p:PV}{C:Prop}(h:Fi op k a b=io (p,C))(hC:C): ∃x,(binOp op t (.int k a) (.int k b)).run P w= .ok x w∧VR M N U p x:=by
  have hi: ∀n:Int,sq n->IntKind.i64.wrap n=n:=fun n u=>IntWalk.i64_in n u;unfold Fi at h;split at h
  all_goals first
    |cases h;done
    | (simp only[W3,Xe]at h
       obtain⟨rfl,rfl⟩:=h;refine⟨_,?_,.iv _ _ (.v _)⟩
       first
       |(simp[binOp,Op.intCmp];done)
       |rfl
       |(simp[binOp,Op.intCmp];rfl)
       |(have j:=hi _ hC;simp[binOp,Op.intArith,j];done)
       |(simp[binOp,Op.intDiv,hC];done)
       |(have j:=hi _ hC.2;simp[binOp,Op.intDiv,hC.1,j];done))
theorem vo{t:TypeId}{op:BinOp}{k j:IntKind}{a b:Int}{p:PV}{C:Prop}(h:tI op k a b=io (p,C)): ∃x,(binOp op t (.int k a) (.int j b)).run P w= .ok x w∧VR M N U p x:=by
  unfold tI at h;split at h
  case h_3=>cases h
  all_goals
    split at h
    · rename_i hb
      simp only[W3,Xe]at h;obtain⟨rfl,rfl⟩:=h;have u: ¬b<0:=by have:=of_decide_eq_true hb;omega
      refine⟨_,?_,.iv _ _ (.v _)⟩;simp only[binOp,Op.shift,be u];rfl
    · cases h
theorem HY{t:TypeId}{op:BinOp}{a b:ByteArray}{p:PV}{C:Prop}(h:Ey op a b=io (p,C))(hC:C): ∃x,(binOp op t (.string a) (.string b)).run P w= .ok x w∧VR M N U p x:=by
  unfold Ey at h;split at h
  all_goals first
    |cases h;done
    | (simp only[W3,Xe]at h
       obtain⟨rfl,rfl⟩:=h;refine⟨_,?_,.iv _ _ (.v _)⟩
       first
       |(simp[binOp,Op.stringOp,<-vj];done)
       | (have j: ¬(((a.size+b.size:Nat):Int)>IntKind.i64.max):=by(have:IntKind.i64.max=9223372036854775807:=by decide);rw[this];omega
          simp only[binOp,Op.stringOp,be j];rfl))
theorem dt{op:BinOp}{t:TypeId}{x y:Operand}{a b:Value}(h1:a≠ .nilIface)(u: ∀j,a≠ .agg j):(eqGuard op t x y a b).run P w= .ok () w:=by
  unfold eqGuard;cases op<;>cases a<;>first|rfl|exact absurd Z h1|exact absurd Z (u _)
theorem Ao{t:TypeId}(hu:P.underlying t=io .bool)(d:Nat)(a b:Bool):(Op.equalIn (d+1) t (.bool a) (.bool b)).run P w= .ok (a==b) w:=by
  simp[Op.equalIn,run_underlying hu]
theorem wC{t:TypeId}(hu:P.underlying t=io .bool)(a b:Bool):(Op.equal t (.bool a) (.bool b)).run P w= .ok (a==b) w:=
  Ao hu 9999 a b
theorem wU{t:TypeId}(hu:P.underlying t=io .bool)(a b:Bool):(binOp .eql t (.bool a) (.bool b)).run P w= .ok (.bool (a==b)) w:=by
  show(Op.equal t (.bool a) (.bool b)>>=fun r=>(pure (.bool r):Sem Value)).run P w=_;rw[Sem.run_bind,wC hu];rfl
theorem wT{t:TypeId}(hu:P.underlying t=io .bool)(a b:Bool):(binOp .neq t (.bool a) (.bool b)).run P w= .ok (.bool (!(a==b))) w:=by
  show(Op.equal t (.bool a) (.bool b)>>=fun r=>(pure (.bool (!r)):Sem Value)).run P w=_;rw[Sem.run_bind,wC hu];rfl
theorem pL{ty:Ty}(j:bq P ty){t:TypeId}{op:BinOp}{a b:Bool}{r:PV}{C:Prop}{u v:Operand}(h:o8 ty t op a b=io (r,C)):
    ∃z,(do eqGuard op t u v (.bool a) (.bool b);binOp op t (.bool a) (.bool b):Sem Value).run P w= .ok z w∧VR M N U r z:=by
  unfold o8 at h;split at h
  · rename_i ht
    have hu:P.underlying t=io .bool:=(j t _ ht).2.1.1;split at h
    all_goals first
      |cases h;done
      | (simp only[W3,Xe]at h
         obtain⟨rfl,rfl⟩:=h;refine⟨_,?_,.iv _ _ (.v _)⟩;rw[Sem.run_bind,dt (by simp) (by simp)]
         first|exact wU hu _ _|exact wT hu _ _)
  · cases h
theorem rQ{ty:Ty}(j:bq P ty){t:TypeId}{wd:TypeDesc->Bool}{op:BinOp}{b:Bool}{r:PV}{C:Prop}{u v:Operand}{x y:Value}(h:vT ty t wd op b=io (r,C))(h1:x≠ .nilIface)(B: ∀G,x≠ .agg G)
    (he:binOp .eql t x y=(Op.equal t x y>>=fun r=>(pure (.bool r):Sem Value))) (hn:binOp .neq t x y=(Op.equal t x y>>=fun r=>(pure (.bool (!r)):Sem Value)))
    (D: ∀d,wd d=jp->P.underlying t=io d->(Op.equal t x y).run P w= .ok b w):
    ∃z,(do eqGuard op t u v x y;binOp op t x y:Sem Value).run P w= .ok z w∧VR M N U r z:=by
  unfold vT at h;split at h
  · rename_i d _ _ _ _ ht
    have hu:P.underlying t=io d:=(j t _ ht).2.1.1;split at h
    · rename_i A
      simp only[W3,Xe]at h;obtain⟨rfl,rfl⟩:=h;refine⟨.bool b,?_,.iv _ _ (.v _)⟩;rw[Sem.run_bind,dt h1 B,Result.andThen_ok,he,Sem.run_bind,D d A hu];rfl
    · rename_i A
      simp only[W3,Xe]at h;obtain⟨rfl,rfl⟩:=h;refine⟨.bool (!b),?_,.iv _ _ (.v _)⟩;rw[Sem.run_bind,dt h1 B,Result.andThen_ok,hn,Sem.run_bind,D d A hu];rfl
    · cases h
  · cases h
theorem uA{t e:TypeId}(hu:P.underlying t=io (.pointer e))(d:Nat)(a:Addr):(Op.equalIn (d+1) t (.pointer (io a)) (.pointer is)).run P w= .ok kw w:=by
  simp[Op.equalIn,run_underlying hu]
theorem xw{t e:TypeId}(hu:P.underlying t=io (.pointer e))(a:Addr):(Op.equal t (.pointer (io a)) (.pointer is)).run P w= .ok kw w:=uA hu 9999 a
theorem uB{t e:TypeId}(hu:P.underlying t=io (.pointer e))(d:Nat):(Op.equalIn (d+1) t (.pointer is) (.pointer is)).run P w= .ok jp w:=by
  simp[Op.equalIn,run_underlying hu]
theorem xx{t e:TypeId}(hu:P.underlying t=io (.pointer e)):(Op.equal t (.pointer is) (.pointer is)).run P w= .ok jp w:=uB hu 9999
theorem uC{t k e:TypeId}(hu:P.underlying t=io (.map k e))(d:Nat)(a:Nat):(Op.equalIn (d+1) t (.map (io a)) (.map is)).run P w= .ok kw w:=by
  simp[Op.equalIn,run_underlying hu]
theorem xy{t k e:TypeId}(hu:P.underlying t=io (.map k e))(a:Nat):(Op.equal t (.map (io a)) (.map is)).run P w= .ok kw w:=uC hu 9999 a
theorem tt{t:TypeId}{p q:Array TypeId}{b:Bool}(hu:P.underlying t=io (.func p q b))(d:Nat)(f:Fn)(x y:Array Value):(Op.equalIn (d+1) t (.func f x y) .nilFunc).run P w= .ok kw w:=by
  simp[Op.equalIn,run_underlying hu]
theorem wB{t:TypeId}{p q:Array TypeId}{b:Bool}(hu:P.underlying t=io (.func p q b))(f:Fn)(x y:Array Value):(Op.equal t (.func f x y) .nilFunc).run P w= .ok kw w:=tt hu 9999 f x y
theorem Hm{ty:Ty}(B:bq P ty){t:TypeId}{op:BinOp}{p q:PV}{r:PV}{C:Prop}{u v:Operand}{x y:Value}(h:Av ty t op p q=io (r,C))(hC:C)(A:VR M N U p x)(j:VR M N U q y):
    ∃z,(do eqGuard op t u v x y;binOp op t x y:Sem Value).run P w= .ok z w∧VR M N U r z:=by
  unfold Av at h;split at h
  · cases A with
    | iv _ _ A=>cases A with
      | v=>
        cases j with
        | iv _ _ j=>cases j with
          | v=>
            split at h
            · rename_i I
              subst I;unfold DV at h;split at h
              · obtain⟨z,G,D⟩:=vo (P:=P) (M:=M) (N:=N) (U:=U) (w:=w) (t:=t) h
                exact⟨z,by rw[Sem.run_bind,dt (by simp) (by simp)];exact G,D⟩
              · obtain⟨z,G,D⟩:=vo (P:=P) (M:=M) (N:=N) (U:=U) (w:=w) (t:=t) h
                exact⟨z,by rw[Sem.run_bind,dt (by simp) (by simp)];exact G,D⟩
              obtain⟨z,G,D⟩:=Jm (P:=P) (M:=M) (N:=N) (U:=U) (w:=w) (t:=t) h hC;exact⟨z,by rw[Sem.run_bind,dt (by simp) (by simp)];exact G,D⟩
            · obtain⟨z,G,D⟩:=vo (P:=P) (M:=M) (N:=N) (U:=U) (w:=w) (t:=t) h
              exact⟨z,by rw[Sem.run_bind,dt (by simp) (by simp)];exact G,D⟩
  · cases A with
    | iv _ _ A=>cases A with
      | v=>
        cases j with
        | iv _ _ j=>cases j with
          | v=>
            obtain⟨z,G,D⟩:=HY (P:=P) (M:=M) (N:=N) (U:=U) (w:=w) (t:=t) h hC;exact⟨z,by rw[Sem.run_bind,dt (by simp) (by simp)];exact G,D⟩
  · split at h
    · cases A with
      | iv _ _ A=>cases A with
        | v=>
          cases j with
          | iv _ _ j=>cases j with
            |v=>exact pL B h
    · cases A with
      | iv _ _ A=>cases A with
        | v=>
          cases j with
          |kb=>exact pL B h
    · cases h
  · split at h
    · cases A with
      | kb=>
        cases j with
        | iv _ _ j=>cases j with
          |v=>exact pL B h
    · cases A with
      | kb=>
        cases j with
        |kb=>exact pL B h
    · cases h
  · cases A with
    | ptr i off hU=>
      cases j with
      | iv _ _ j=>cases j with
        | v=>
          refine rQ B h (by simp) (by simp) Z Z fun d hd hu=>?_;cases d<;>first|(cases hd;done)|exact xw hu _
  · cases A with
    | iv _ _ A=>cases A with
      | v=>cases j with
        | iv _ _ j=>cases j with
          | v=>
            refine rQ B h (by simp) (by simp) Z Z fun d hd hu=>?_;cases d<;>first|(cases hd;done)|exact xx hu
  · cases A with
    | mp i hU=>
      cases j with
      | iv _ _ j=>cases j with
        | v=>
          refine rQ B h (by simp) (by simp) Z Z fun d hd hu=>?_;cases d<;>first|(cases hd;done)|exact xy hu _
  · cases A with
    | cB=>
      cases j with
      | iv _ _ j=>cases j with
        | v=>
          refine rQ B h (by simp) (by simp) Z Z fun d hd hu=>?_;cases d<;>first|(cases hd;done)|exact wB hu _ _ _
  · cases h
theorem I9{f:AF}{a:Act}(hf:FR M N U f a.tmps)(xs:Array Operand):(xs.toList.map (ev f)).length=(xs.map a.eval).size∧ ∀j p,(xs.toList.map (ev f))[j]? =io p->VR M N U p ((xs.map a.eval).getD j undef):=by
  refine⟨by simp,fun j p y=>?_⟩;rw[W9,Xa]at y;obtain⟨x,A,rfl⟩:=y;have u:xs[j]? =io x:=by simpa using A
  rw[WZ,ZG,u];exact aO hf x
theorem sv{t:TypeId}{e:bC}(he:aj P t e){k off:Nat}{u:TypeId}(hf:uU e k=io (off,u)): ∃(F:Array Field) (fd:Field),P.underlying t=io (.struct F)∧F[k]? =io fd∧fd.offset=off∧fd.type=u:=by
  unfold uU at hf;cases hk:e.k with
  | cy fs=>
    simp only[hk]at hf;obtain⟨_,x,_⟩:=he;rw[hk]at x;obtain⟨F,y,A⟩:=x;rw[<-A,W9,Xa]at hf;obtain⟨fd,B,j⟩:=hf;simp only[Xe]at j;exact⟨F,fd,y,by simpa using B,j.1,j.2⟩
  |_=>simp[hk]at hf
theorem Gy{n:Nat}{p q:PV}{x:Value}(B:VR M N U p x)(h:qO n p=io q): ∃b o,x= .pointer (io ⟨b,o,is⟩)∧VR M N U q (.pointer (io ⟨b,o+n,is⟩)):=by
  cases B with
  |ptr i off hU=>simp only[qO,W3]at h;subst h;exact⟨_,_,rfl,.ptr _ _ hU⟩
  |cV i sz k off hU=>simp only[qO,W3]at h;subst h;exact⟨_,_,rfl,by rw[Yf];exact .cV _ _ _ _ hU⟩
  | iv y _ hi=>
    cases hi with
    | ln cs b off hm hr=>
      simp only[qO,W3]at h;subst h;refine⟨b,off,rfl,.iv _ _ (.ln _ _ _ (fun j A=>?_) (fun j p u=>?_))⟩
      · rw[X7]at A
        rw[Yf];exact hm (n+j) (by omega)
      · rw[XW]at u
        rw[Yf];exact hr (n+j) p u
    |_=>simp[qO]at h
  |_=>simp[qO]at h
theorem ql{t u:TypeId}{eu:bC}(hu:P.underlying t=io (.slice u))(A:aj P u eu){p q:PV}{k:IntKind}{n:Int}{C:Prop}{x:Value}(I:VR M N U p x)
    (D:(∃m B,p= .iv (.bI eu.size m B))∨ ∃i a0 len,p= .sl i a0 len eu.size) (h:kO p n=io (q,C)) (hC:C): ∃y,(Instr.indexAt t x (.int k n)).run P w= .ok y w∧VR M N U q y:=by
  rcases D with⟨m,B,rfl⟩|⟨i,a0,len,rfl⟩
  · simp only[kO,W3,Xe]at h
    obtain⟨rfl,rfl⟩:=h;cases I with
    | iv _ _ hi=>
      cases hi with
      |fS sz B a cap=>omega
      | bI sz m B b a0 cap hn hc hl hm hr=>
        refine⟨.pointer (io ⟨b,a0+n.toNat*eu.size,is⟩),?_,.iv _ _ (.ln _ _ _ (fun j G=>?_) (fun j p J=>hr n.toNat j p (by omega) J))⟩
        · simp only[Instr.indexAt,asIntOf]
          simp[run_underlying hu,hC.1,hC.2,aQ A,c9]
        · rw[hl n.toNat (by omega)]at G
          exact hm n.toNat j (by omega) G
  · simp only[kO,W3,Xe]at h
    obtain⟨rfl,rfl⟩:=h;cases I with
    |lx=>omega
    |sle=>omega
    | sl _ _ _ _ cap hU h0 hl hc he=>
      refine⟨.pointer (io ⟨N.aA i,(a0+n.toNat)*eu.size+0,is⟩),?_,.cV _ _ _ _ hU⟩;simp only[Instr.indexAt,asIntOf];simp[run_underlying hu,hC.1,hC.2,aQ A,c9,XT]
theorem Gc{t u:TypeId}{eu:bC}(hu:P.underlying t=io (.slice u))(A:aj P u eu){m:Nat}{el:Nat->List IV}{ka kb:IntKind}{na nb:Int}{q:PV}{C:Prop}{x:Value}(Y:VR M N U (.iv (.bI eu.size m el)) x)
    (h:io (PV.iv (.bI eu.size (nb.toNat-na.toNat) (fun k=>el (na.toNat+k))),0<=na∧na<=nb∧nb<=m)=io (q,C)) (hC:C): ∃y,(Instr.sliceAt t x (io (.int ka na)) (io (.int kb nb)) is).run P w= .ok y w∧VR M N U q y:=by
  simp only[W3,Xe]at h;obtain⟨rfl,rfl⟩:=h;obtain⟨G,h1,h2⟩:=hC;have hb:(nb.toNat:Int)=nb:=Zk (by omega);cases Y with
  | iv _ _ hi=>
    cases hi with
    | fS sz el a cap=>
      have B:na=0:=by omega
      have D:nb=0:=by omega
      subst B;subst D;refine⟨.slice (if cap=0 then a else a.map (·.add (0*eu.size))) 0 cap,?_,.iv _ _ (.fS _ _ _ _)⟩;simp[Instr.sliceAt,Instr.slice,Instr.sliceBounds,Instr.sliceBound,asIntOf,run_underlying hu,aQ A]
    | bI sz m el b off cap hn hc hl hm hr=>
      refine⟨.slice (if cap=na.toNat then io ⟨b,off,is⟩ else(io (⟨b,off,is⟩:Addr)).map (·.add (na.toNat*eu.size))) (nb.toNat-na.toNat) (cap-na.toNat),?_,?_⟩
      · have g1:nb<=(cap:Int):=by omega
        have g2:na<=(nb.toNat:Int):=by omega
        simp[Instr.sliceAt,Instr.slice,Instr.sliceBounds,Instr.sliceBound,asIntOf,run_underlying hu,aQ A,G,g1,(by omega:0<=nb)];intro hh;omega
      · by_cases hz:nb.toNat-na.toNat=0
        · rw[hz];exact .iv _ _ (.fS _ _ _ _)
        · rw[be (by omega),Ya,c9]
          refine .iv _ _ (IR.bI (sz:=eu.size) (n:=nb.toNat-na.toNat) (el:=fun k=>el (na.toNat+k)) (b:=b) (off:=off+na.toNat*eu.size) (cap:=cap-na.toNat) (by omega) (by omega) (fun k hk=>hl _ (by omega)) (fun k j hk I=>?_) (fun k j p hk J=>?_))
          · have:=hm (na.toNat+k) j (by omega) I
            rwa[XT,<-Yf]at this
          · have:=hr (na.toNat+k) j p (by omega) J
            rwa[XT,<-Yf]at this
theorem Gb{t u:TypeId}{eu:bC}(hu:P.underlying t=io (.slice u))(A:aj P u eu){m:Nat}{el:Nat->List IV}{ka:IntKind}{na:Int}{q:PV}{C:Prop}{x:Value}(J:VR M N U (.iv (.bI eu.size m el)) x)
    (h:io (PV.iv (.bI eu.size (m-na.toNat) (fun k=>el (na.toNat+k))),0<=na∧na<=m)=io (q,C)) (hC:C): ∃y,(Instr.sliceAt t x (io (.int ka na)) is is).run P w= .ok y w∧VR M N U q y:=by
  simp only[W3,Xe]at h;obtain⟨rfl,rfl⟩:=h;obtain⟨D,h1⟩:=hC;cases J with
  | iv _ _ hi=>
    cases hi with
    | fS sz el a cap=>
      have B:na=0:=by omega
      subst B;refine⟨.slice (if cap=0 then a else a.map (·.add (0*eu.size))) 0 cap,?_,.iv _ _ (.fS _ _ _ _)⟩;simp[Instr.sliceAt,Instr.slice,Instr.sliceBounds,Instr.sliceBound,asIntOf,run_underlying hu,aQ A]
    | bI sz m el b off cap hn hc hl hm hr=>
      refine⟨.slice (if cap=na.toNat then io ⟨b,off,is⟩ else(io (⟨b,off,is⟩:Addr)).map (·.add (na.toNat*eu.size))) (m-na.toNat) (cap-na.toNat),?_,?_⟩
      · simp[Instr.sliceAt,Instr.slice,Instr.sliceBounds,Instr.sliceBound,asIntOf,run_underlying hu,aQ A,D,h1]
      · by_cases Y:m-na.toNat=0
        · rw[Y];exact .iv _ _ (.fS _ _ _ _)
        · rw[be (by omega),Ya,c9]
          refine .iv _ _ (IR.bI (sz:=eu.size) (n:=m-na.toNat) (el:=fun k=>el (na.toNat+k)) (b:=b) (off:=off+na.toNat*eu.size) (cap:=cap-na.toNat) (by omega) (by omega) (fun k hk=>hl _ (by omega)) (fun k j hk G=>?_) (fun k j p hk I=>?_))
          · have:=hm (na.toNat+k) j (by omega) G
            rwa[XT,<-Yf]at this
          · have:=hr (na.toNat+k) j p (by omega) I
            rwa[XT,<-Yf]at this
theorem Dd{t u:TypeId}{eu:bC}(hu:P.underlying t=io (.slice u))(A:aj P u eu){m:Nat}{el:Nat->List IV}{kb kc:IntKind}{nb nc:Int}{q:PV}{C:Prop}{x:Value}(hx:VR M N U (.iv (.bI eu.size m el)) x)
    (h:io (PV.iv (.bI eu.size nb.toNat el),0<=nb∧nb<=nc∧nc<=m)=io (q,C)) (hC:C): ∃y,(Instr.sliceAt t x is (io (.int kb nb)) (io (.int kc nc))).run P w= .ok y w∧VR M N U q y:=by
  simp only[W3,Xe]at h;obtain⟨rfl,rfl⟩:=h;obtain⟨G,h1,h2⟩:=hC;have hb:(nb.toNat:Int)=nb:=Zk (by omega);have I:(nc.toNat:Int)=nc:=Zk (by omega);cases hx with
  | iv _ _ hi=>
    cases hi with
    | fS sz el a cap=>
      have B:nb=0:=by omega
      have D:nc=0:=by omega
      subst B;subst D;refine⟨.slice a 0 0,?_,.iv _ _ (.fS _ _ _ _)⟩;simp[Instr.sliceAt,Instr.slice,Instr.sliceBounds,Instr.sliceBound,asIntOf,run_underlying hu,aQ A]
    | bI sz m el b off cap hn hc hl hm hr=>
      refine⟨.slice (if nc.toNat=0 then io ⟨b,off,is⟩ else(io (⟨b,off,is⟩:Addr)).map (·.add (0*eu.size))) nb.toNat nc.toNat,?_,?_⟩
      · have g1:nc<=(cap:Int):=by omega
        have g2:nb<=(nc.toNat:Int):=by omega
        simp[Instr.sliceAt,Instr.slice,Instr.sliceBounds,Instr.sliceBound,asIntOf,run_underlying hu,aQ A,G,g1,(by omega:0<=nc)];intro hh;omega
      · by_cases hz:nb.toNat=0
        · rw[hz];exact .iv _ _ (.fS _ _ _ _)
        · rw[be (by omega),Ya,c9,YD,YC]
          exact .iv _ _ (IR.bI (sz:=eu.size) (n:=nb.toNat) (el:=el) (b:=b) (off:=off) (cap:=nc.toNat) (by omega) (by omega) (fun k hk=>hl _ (by omega)) (fun k j hk J=>hm k j (by omega) J) (fun k j p hk Y=>hr k j p (by omega) Y))
theorem A5{t:TypeId}(hu:P.underlying t=io .string){b:ByteArray}{ka kb:IntKind}{na nb:Int}(hC:0<=na∧na<=nb∧nb<=b.size):
    (Instr.sliceAt t (.string b) (io (.int ka na)) (io (.int kb nb)) is).run P w= .ok (.string (b.extract na.toNat nb.toNat)) w:=by
  obtain⟨j,h1,u⟩:=hC;have hb:(nb.toNat:Int)=nb:=Zk (by omega);have g2:na<=(nb.toNat:Int):=by omega
  simp[Instr.sliceAt,Instr.slice,Instr.sliceBounds,Instr.sliceBound,asIntOf,run_underlying hu,j,u,(by omega:0<=nb)];intro hh;omega
end
end
end Go.Al
namespace Go.Al
open Go.MapKept
section
section
variable {P:Program} {ty:Ty} {M:Mem} {N:Nm} {U:Nat->Prop} {w:World}
theorem iH{t:TypeId}{F:Array Field}(h:P.underlying t=io (.struct F)):P.fieldsOf t=F:=by
  simp[Program.fieldsOf,h]
theorem bG {t:TypeId} {F:Array Field} (h:P.underlying t=io (.struct F)) (h1:P.stoodInHeld t=kw) (j:P.eqGuardType P.depth t=kw) (u:(F.toList.all fun f=>f.name != "_")=jp):VD P t:=
  ⟨h1,j,fun f hf=>by
    rw[iH h]at hf;have:=XO.1 u f hf
    simpa using this⟩
theorem Fz(j:bq P ty){f:TypeId->PV->PV->Option Bool}{D:Nat}(hf: ∀u p q b,f u p q=io b-> ∀x y,VR M N U p x->VR M N U q y->(Op.equalIn D u x y).run P w= .ok b w)
    {cs ds:List PV} {xs ys:Array Value} (hx:VR M N U (.agg cs) (.agg xs)) (hy:VR M N U (.agg ds) (.agg ys)):
    ∀(F:List Field) (b:Bool),(∀g∈F,g.name≠ "_")->Hf f ty (F.map fun g=>(g.offset,g.type)) cs ds=io b->(Op.eqFields D xs ys F).run P w= .ok b w
  | [],b,_,h=>by simp only[Xj,Hf,W3]at h;subst h;simp[Op.eqFields]
  | g::F,b,hn,h=>by
    simp only[W7,Hf]at h;split at h
    · rename_i eu A
      split at h
      · rename_i p q hp hq
        split at h
        · rename_i b1 b2 h1 h2
          simp only[W3]at h;subst h;obtain⟨_,B,G,I⟩:=hx.kz;cases B;obtain⟨_,a0,b0,c0⟩:=hy.kz;cases a0;obtain⟨x,J,Y⟩:=jF (P:=P) (w:=w) (j _ _ A) G I hp;obtain⟨y,d0,e0⟩:=jF (P:=P) (w:=w) (j _ _ A) b0 c0 hq;have h3:=hf _ _ _ _ h1 x y Y e0;have h4:=Fz j hf hx hy F b2 (fun g hg=>hn g (Xi _ hg)) h2;simp only[Op.eqFields,am (hn g Xk),Sem.run_bind,J,d0,h3,Result.andThen_ok];cases b1 with
          |false=>simp
          |true=>simpa using h4
        · cases h
      · cases h
    · cases h
theorem D6(j:bq P ty): ∀(d:Nat) (t:TypeId) (p q:PV) (b:Bool),Hg ty d t p q=io b-> ∀x y,VR M N U p x->VR M N U q y-> ∀m,(Op.equalIn (d+m) t x y).run P w= .ok b w
  |0,_,_,_,_,h,_,_,_,_,_=>by simp[Hg]at h
  | d+1,t,p,q,b,h,x,y,A,B,m=>by
    rw[show d+1+m=(d+m)+1 by omega];simp only[Hg]at h;split at h
    · rename_i k _ _ _ _ D
      have hu:=(j t _ D).2.1.1;split at h
      · split at h
        · simp only[W3]at h
          subst h;cases A with
          | iv _ _ A => cases A
                        cases B with
                        | iv _ _ B => cases B
                                      rename_i e;subst e;rw[run_equalIn_int _ _ _ _ _ _ _ hu];congr 1
        · cases h
      · cases h
    · rename_i _ _ _ _ D
      have hu:=(j t _ D).2.1.1;split at h
      · simp only[W3]at h
        subst h;cases A with
        | iv _ _ A => cases A
                      cases B with
                      | iv _ _ B => cases B
                                    rw[run_equalIn_string _ _ _ _ _ hu,vj]
      · cases h
    · rename_i _ _ _ _ D
      have hu:=(j t _ D).2.1.1;split at h
      · simp only[W3]at h
        subst h;cases A with
        | iv _ _ A => cases A
                      cases B with
                      |iv _ _ B=>cases B;rw[run_equalIn_bool' _ _ _ _ _ hu]
      · cases h
    · rename_i fs _ _ _ D
      obtain⟨_,⟨F,hu,hF⟩,Y⟩:=j t _ D;obtain⟨J,a0,I⟩:=Y Z;split at h
      · obtain⟨xs,rfl,_,_⟩:=A.kz
        obtain⟨ys,rfl,_,_⟩:=B.kz;have G:=iH hu;rw[run_equalIn_struct _ _ _ _ _ (by rw[G];exact hu) J,G];rw[G]at I;refine Fz j (f:=Hg ty d) (fun u p q b hb x y A B=>D6 j d u p q b hb x y A B m) A B _ _ I ?_;rw[hF];exact h
      · cases h
    · cases h
theorem KG(B:bq P ty){t:TypeId}{op:BinOp}{cs D:List PV}{r:PV}{C:Prop}{u v:Operand}{x y:Value}(h:FW ty t op (.agg cs) (.agg D)=io (r,C))(I:VR M N U (.agg cs) x)(J:VR M N U (.agg D) y):
    C∧ ∃z,(do eqGuard op t u v x y;binOp op t x y:Sem Value).run P w= .ok z w∧VR M N U r z:=by
  have key: ∀b,Hg ty 10 t (.agg cs) (.agg D)=io b-> ∃j A,x= .agg j∧y= .agg A∧P.eqGuardType P.depth t=kw∧(Op.equalIn 10000 t (.agg j) (.agg A)).run P w= .ok b w:=by
    intro b hb;have h1:=D6 (P:=P) (w:=w) B 10 t _ _ b hb x y I J 9990;obtain⟨j,rfl,_,_⟩:=I.kz;obtain⟨A,rfl,_,_⟩:=J.kz;refine⟨j,A,rfl,rfl,?_,h1⟩;simp only[Hg]at hb;split at hb
    · cases hb
    · cases hb
    · cases hb
    · rename_i Y
      exact((B t _ Y).2.2 Z).2.1
    · cases hb
  unfold FW at h;split at h
  · split at h
    · rename_i b hb
      simp only[W3,Xe]at h;obtain⟨rfl,rfl⟩:=h;obtain⟨j,A,rfl,rfl,h1,G⟩:=key b hb;refine⟨ac,.bool b,?_,.iv _ _ (.v _)⟩;rw[Sem.run_bind,run_eqGuard_agg _ _ _ _ _ _ _ h1,Result.andThen_ok,run_eql_struct,G];rfl
    · cases h
  · split at h
    · rename_i b hb
      simp only[W3,Xe]at h;obtain⟨rfl,rfl⟩:=h;obtain⟨j,A,rfl,rfl,h1,G⟩:=key b hb;refine⟨ac,.bool (!b),?_,.iv _ _ (.v _)⟩;rw[Sem.run_bind,run_eqGuard_agg _ _ _ _ _ _ _ h1,Result.andThen_ok,run_neq_struct,G];rfl
    · cases h
  · cases h
theorem yc(kc:KC)(k:kc.K):VR M N U (kc.pk k) (kc.ek k):=by
  cases kc with
  |str=>exact .iv _ _ (.v _)
  |int k=>exact .iv _ _ (.v _)
  | si j=>
    refine .agg _ _ (by rfl) fun i p u=>?_
    match i with
    |0=>simp at u;subst u;exact .iv _ _ (.v _)
    |1=>simp at u;subst u;exact .iv _ _ (.v _)
    |i+2=>simp at u
  | fl s=>
    refine .agg _ _ (by simp) fun i p u=>?_;rw[W9,Xa]at u;obtain⟨v,x,rfl⟩:=u;have:((FK.vs s k).toArray).getD i undef=v:=by simp[WZ,x]
    rw[this];exact .iv _ _ (.v _)
theorem IF: ∀{s:FS} {cs:List PV} {k:FK s} {ys:List Value},FK.rd s cs=io k->cs.length=ys.length->(∀j q,cs[j]? =io q->VR M N U q (ys.getD j undef))->ys=FK.vs s k
  | [],cs,k,ys,h,hl,hr=>by
    unfold FK.rd at h;split at h
    · match ys,hl with
      | [],_=>rfl
    · cases h
  | none::r,cs,k,ys,h,hl,hr=>by
    unfold FK.rd at h;split at h
    · rename_i a A
      split at h
      · rename_i B hk
        simp only[W3]at h;subst h
        match ys,hl with
        | y::ys,hl=>
          have u:=hr 0 _ Z;have h1:=IF hk (by simpa using hl) fun j q x=>by simpa using hr (j+1) q (by simpa using x)
          rw[YX]at u;cases u with
          |iv _ _ u=>cases u;simp only[FK.vs,h1]
      · cases h
    · cases h
  | some q::r,cs,k,ys,h,hl,hr=>by
    unfold FK.rd at h;split at h
    · rename_i j n A
      split at h
      · rename_i B x hk
        have x:=of_decide_eq_true x;subst x;simp only[W3]at h;subst h
        match ys,hl with
        | y::ys,hl=>
          have u:=hr 0 _ Z;have h1:=IF hk (by simpa using hl) fun j q x=>by simpa using hr (j+1) q (by simpa using x)
          rw[YX]at u;cases u with
          |iv _ _ u=>cases u;simp only[FK.vs,h1]
      · cases h
    · cases h
theorem FD{kc:KC}{p:PV}{k:kc.K}{x:Value}(h:kc.dk p=io k)(u:VR M N U p x):x=kc.ek k:=by
  cases kc with
  | str=>
    simp only[KC.dk]at h;split at h
    · simp only[W3]at h
      subst h;cases u with
      |iv _ _ u=>cases u;rfl
    · cases h
  | int j=>
    simp only[KC.dk]at h;split at h
    · split at h
      · rename_i e
        subst e;simp only[W3]at h;subst h;cases u with
        |iv _ _ u=>cases u;rfl
      · cases h
    · cases h
  | si j=>
    simp only[KC.dk]at h;split at h
    · split at h
      · rename_i e
        subst e;simp only[W3]at h;subst h;obtain⟨ys,rfl,h1,y⟩:=u.kz;have g0:=y 0 _ Z;have g1:=y 1 _ Z;obtain⟨ys⟩:=ys
        match ys,h1 with
        | [a,b],_=>
          simp at g0 g1;cases g0 with
          | iv _ _ g0=>
            cases g1 with
            |iv _ _ g1=>cases g0;cases g1;rfl
      · cases h
    · cases h
  | fl s=>
    simp only[KC.dk]at h;split at h
    · obtain⟨ys,rfl,h1,y⟩:=u.kz
      have:=IF (ys:=ys.toList) h (by simpa using h1) fun j q A=>by
        have:=y j q A;rwa[WZ,<-Xz,<-W2]at this
      show Value.agg ys=Value.agg (FK.vs s k).toArray;rw[<-this]
    · cases h
theorem tX{u:TypeId}(j:bq P ty)(h:dV ty u=io .str):P.underlying u=io .string:=by
  unfold dV at h;split at h
  · rename_i x;exact(j _ _ x).2.1.1
  · cases h
  · split at h<;>cases h
  · split at h<;>cases h
  · cases h
theorem tY{u:TypeId}{k:IntKind}(j:bq P ty)(h:dV ty u=io (.int k)):P.underlying u=io (.int k):=by
  unfold dV at h;split at h
  · cases h
  · rename_i x;simp only[W3,KC.int.injEq]at h;subst h;exact(j _ _ x).2.1.1
  · split at h<;>cases h
  · split at h<;>cases h
  · cases h
def Sj:Option IntKind->Value->Prop
  |none,v=> ∃a,v= .string a
  |some q,v=> ∃n,v= .int q n
def xk:FS->List Value->Prop
  | [],[]=>True
  |o::s,v::l=>Sj o v∧xk s l
  |_,_=>False
theorem xk.length: ∀{s:FS} {l:List Value},xk s l->l.length=s.length
  | [],[],_=>rfl
  |_::s,_::l,h=>by simp[xk.length h.2]
  | [],_::_,h=>h.elim
  |_::_,[],h=>h.elim
theorem xk.split: ∀{s q:FS} {l:List Value},xk (s++q) l-> ∃a b,l=a++b∧xk s a∧xk q b
  | [],_,l,h=>⟨[],l,rfl,ac,h⟩
  | o::s,q,v::l,h=>by
    obtain⟨a,b,h1,j,u⟩:=xk.split (s:=s) h.2;exact⟨v::a,b,by rw[h1];rfl,⟨h.1,j⟩,u⟩
  |_::_,_,[],h=>h.elim
theorem l5: ∀(s:FS) (k:FK s),xk s (FK.vs s k)
  | [],_=>trivial
  |none::r,k=>⟨⟨_,rfl⟩,l5 r k.2⟩
  |some q::r,k=>⟨⟨_,rfl⟩,l5 r k.2⟩
theorem C6: ∀{s:FS} {a b:FK s},FK.vs s a=FK.vs s b->a=b
  | [],_,_,_=>rfl
  | none::r,a,b,h=>by
    simp only[FK.vs,aag,Value.string.injEq]at h;exact Prod.ext h.1 (C6 h.2)
  | some q::r,a,b,h=>by
    simp only[FK.vs,aag,Value.int.injEq,true_and]at h;exact Prod.ext h.1 (C6 h.2)
def I5(e:bC)(l:List Value):Value:=match e.k.agg with
  |true=> .agg l.toArray
  |false=>l.headD undef
theorem kB{u:TypeId}{e:bC}(he:aj P u e)(hn:e.k.agg=kw->e.size=1)(pre a j:List Value)(ha:a.length=e.size):(part u (pre++(a++j)).toArray pre.length).run P w= .ok (I5 e a) w:=by
  cases hk:e.k.agg with
  | true=>
    have:(pre++(a++j)).toArray.extract pre.length (pre.length+e.size)=a.toArray:=by
      apply Array.ext';rw[<-ha];simp
    simp only[part,fX he,hk,aQ he,I5,this,Sem.run_bind,Result.andThen_ok,if_true,Sem.run_pure]
  | false=>
    have h1:=hn hk
    match a,ha with
    | [],h=>rw[h1]at h;cases h
    | [v],_=>simp[part,fX he,hk,I5]
    |_::_::_,h=>rw[h1]at h;simp at h
def AG(P:Program)(ty:Ty)(d:Nat)(t:TypeId)(s:FS):Prop:=
  ∃e,ty t=io e∧e.size=s.length∧(e.k.agg=kw->e.size=1)∧(∀(w:World) a b,xk s a->xk s b-> ∀D,∃r:Bool,(Op.equalIn (d+D) t (I5 e a) (I5 e b)).run P w= .ok r w∧(r=jp↔a=b))∧ ∀(w:World) a,xk s a-> ∀j D,(Instr.checkKey j (d+D) t (I5 e a)).run P w= .ok () w
theorem yG(A:bq P ty){f:TypeId->Option FS}{d:Nat}(hf: ∀u s,f u=io s->AG P ty d u s)(D:Nat): ∀(F:List Field) (q:FS) (j x a b:List Value),j.length=x.length->(∀g∈F,g.name≠ "_")->q9 f (F.map fun g=>(g.offset,g.type)) j.length=io q->xk q a->xk q b->
    ∃r:Bool,(Op.eqFields (d+D) (j++a).toArray (x++b).toArray F).run P w= .ok r w∧(r=jp↔a=b)
  | [],q,_,_,a,b,_,_,h,ha,hb=>by
    simp only[Xj,q9,W3]at h;subst h
    match a,b,ha,hb with
    | [],[],_,_=>exact⟨jp,by simp[Op.eqFields],by simp⟩
  | g::F,q,j,x,a,b,hp,hn,h,ha,hb=>by
    simp only[W7,q9]at h;split at h
    · rename_i s ho hs
      have ho:=Xs ho;split at h
      · rename_i q' hq
        simp only[W3]at h;subst h;obtain⟨B,a2,rfl,I,a0⟩:=ha.split;obtain⟨G,Y,rfl,J,b0⟩:=hb.split;obtain⟨e,he,d0,y,c0,_⟩:=hf _ _ hs;have la:=I.length;have lb:=J.length;have p1:=kB (P:=P) (w:=w) (A _ _ he) y j B a2 (by omega);have p2:=kB (P:=P) (w:=w) (A _ _ he) y x G Y (by omega);obtain⟨r2,ih,i2⟩:=yG A hf D F q' (j++B) (x++G) a2 Y (by simp[hp,la,lb]) (fun g hg=>hn g (Xi _ hg)) (by rw[W1,la];exact hq) a0 b0;simp only[Xf]at ih;simp only[Op.eqFields,am (hn g Xk),Sem.run_bind,ho,p1,Result.andThen_ok];rw[hp,p2];obtain⟨r1,j1,j2⟩:=c0 w B G I J D;simp only[Result.andThen_ok,j1];have hd:B++a2=G++Y↔B=G∧a2=Y:=⟨fun h=>aaE h (by omega),fun h=>by rw[h.1,h.2]⟩
        cases r1 with
        |true=>exact⟨r2,by simpa using ih,by rw[hd,i2];exact⟨fun h=>⟨j2.1 Z,h⟩,fun h=>h.2⟩⟩
        |false=>exact⟨kw,by simp,by rw[hd];exact⟨(fun h=>nomatch h),fun h=>j2.2 h.1⟩⟩
      · cases h
    · cases h
theorem yF(B:bq P ty){d:Nat}{u:TypeId}{s:FS}(hf:AG P ty d u s)(D c:Nat)(hc:c=s.length): ∀(m j:Nat) (x y a b:List Value),x.length=j*c->y.length=j*c->xk (Dv s m) a->xk (Dv s m) b->
    ∃r:Bool,(Op.eqItems (d+D) u c (x++a).toArray (y++b).toArray (List.range' j m)).run P w= .ok r w∧(r=jp↔a=b)
  | 0,j,_,_,a,b,_,_,ha,hb=>by
    match a,b,ha,hb with
    | [],[],_,_=>exact⟨jp,by simp[Op.eqItems],by simp⟩
  | m+1,j,x,y,a,b,h1,h2,ha,hb=>by
    obtain⟨G,a2,rfl,J,a0⟩:=xk.split ha;obtain⟨I,b2,rfl,Y,b0⟩:=xk.split hb;obtain⟨e,he,d0,A,c0,_⟩:=id hf;have la:=J.length;have lb:=Y.length;have p1:=kB (P:=P) (w:=w) (B _ _ he) A x G a2 (by omega);have p2:=kB (P:=P) (w:=w) (B _ _ he) A y I b2 (by omega);obtain⟨r2,ih,i2⟩:=yF B hf D c hc m (j+1) (x++G) (y++I) a2 b2 (by rw[W1,h1,la,YL,hc]) (by rw[W1,h2,lb,YL,hc]) a0 b0;simp only[Xf]at ih;rw[aay];rw[h1]at p1;rw[h2]at p2;obtain⟨r1,j1,j2⟩:=c0 w G I J Y D;simp only[Op.eqItems,Sem.run_bind,p1,p2,Result.andThen_ok,j1];have hd:G++a2=I++b2↔G=I∧a2=b2:=⟨fun h=>aaE h (by omega),fun h=>by rw[h.1,h.2]⟩
    cases r1 with
    |true=>exact⟨r2,by simpa using ih,by rw[hd,i2];exact⟨fun h=>⟨j2.1 Z,h⟩,fun h=>h.2⟩⟩
    |false=>exact⟨kw,by simp,by rw[hd];exact⟨(fun h=>nomatch h),fun h=>j2.2 h.1⟩⟩
theorem Eb(j:bq P ty){u:TypeId}{e:bC}(he:ty u=io e): ∃i,P.info? u=io i∧P.cellsOf u=e.size:=by
  obtain⟨⟨i,hi,hs,_⟩,_⟩:=j _ _ he;exact⟨i,hi,by simp[Program.cellsOf,hi,hs]⟩
theorem An(A:bq P ty): ∀(d:Nat) (t:TypeId) (s:FS),wx ty d t=io s->AG P ty d t s
  |0,_,_,h=>by simp[wx]at h
  | d+1,t,s,h=>by
    have key:=fun u s=>An A d u s;unfold wx at h;split at h
    · rename_i _ _ _ G
      simp only[W3]at h;subst h;have hu:=(A _ _ G).2.1.1;refine⟨_,G,rfl,fun _=>rfl,fun w a b I hb D=>?_,fun w a I em D=>?_⟩
      · match a,b,I,hb with
        | [_],[_],⟨⟨x,rfl⟩,_⟩,⟨⟨y,rfl⟩,_⟩=>
          simp only[I5,TK.agg,ZV];rw[show d+1+D=(d+D)+1 by omega,run_equalIn_string _ _ _ _ _ hu,vj];exact⟨_,rfl,by simp⟩
      · match a,I with
        | [_],⟨⟨x,rfl⟩,_⟩=>
          simp only[I5,TK.agg,ZV];rw[show d+1+D=(d+D)+1 by omega];exact run_checkKey hu (by simp[IsKey]) _ _
    · rename_i q _ _ _ G
      simp only[W3]at h;subst h;have hu:=(A _ _ G).2.1.1;refine⟨_,G,rfl,fun _=>rfl,fun w a b I hb D=>?_,fun w a I em D=>?_⟩
      · match a,b,I,hb with
        | [_],[_],⟨⟨x,rfl⟩,_⟩,⟨⟨y,rfl⟩,_⟩=>
          simp only[I5,TK.agg,ZV];rw[show d+1+D=(d+D)+1 by omega,run_equalIn_int _ _ _ _ _ _ _ hu];exact⟨_,rfl,by simp⟩
      · match a,I with
        | [_],⟨⟨x,rfl⟩,_⟩=>
          simp only[I5,TK.agg,ZV];rw[show d+1+D=(d+D)+1 by omega];exact run_checkKey hu (by simp[IsKey]) _ _
    · rename_i fs n _ _ G
      split at h
      · rename_i s' hs
        split at h
        · rename_i Y
          simp only[W3]at h;subst h;have hl:=Xs Y;obtain⟨F,h1,h2⟩:=(A _ _ G).2.1;obtain⟨q1,_,q3⟩:=(A _ _ G).2.2 Z;rw[iH h1]at q3;refine⟨_,G,hl.symm,(fun h=>nomatch h),fun w a b I hb D=>?_,fun w a I em D=>?_⟩
          · have h3:=yG (w:=w) A key D F.toList s' [] [] a b Z q3 (by rw[h2];exact hs) I hb
            simp only[Xq]at h3;show∃r:Bool,(Op.equalIn (d+1+D) t (.agg a.toArray) (.agg b.toArray)).run P w= .ok r w∧_;rw[show d+1+D=(d+D)+1 by omega,run_equalIn_struct w (d+D) t _ _ (by rw[iH h1];exact h1) q1,iH h1];exact h3
          · show(Instr.checkKey em (d+1+D) t (.agg a.toArray)).run P w=_
            rw[show d+1+D=(d+D)+1 by omega,Instr.checkKey];simp only[Sem.run_bind,run_underlying h1,Result.andThen_ok];rw[<-Array.forIn_toList];obtain⟨pre,hp⟩: ∃pre:List Value,pre=[]:=⟨[],rfl⟩
            rw[show a.toArray=(pre++a).toArray by rw[hp];rfl];have B:q9 (wx ty d) (F.toList.map fun g=>(g.offset,g.type)) pre.length=io s':=by rw[h2,hp];exact hs
            clear hs hp h2 h1 hl Y G;generalize F.toList=L at B q3
            induction L generalizing pre a s' with
            |nil=>simp
            | cons g L ih=>
              simp only[W7,q9]at B;split at B
              · rename_i s1 ho k0
                have ho:=Xs ho;split at B
                · rename_i q' hq
                  simp only[W3]at B;subst B;obtain⟨a1,a2,rfl,J,c0⟩:=xk.split I;obtain⟨e,G,f0,a0,_,d0⟩:=key _ _ k0;have la:=J.length;have p1:=kB (P:=P) (w:=w) (A _ _ G) a0 pre a1 a2 (by omega);have ih:=ih q' a2 c0 (pre++a1) (by rw[W1,la];exact hq) (fun g hg=>q3 g (Xi _ hg));simp only[Xf]at ih;simp only[aaF,Sem.run_bind,ho,q3 g Xk,ne_eq,not_false_eq_true,if_true,Result.andThen_ok,p1,d0 w a1 J em D,Sem.run_pure];exact ih
                · cases B
              · cases B
        · cases h
      · cases h
    · rename_i n u m _ _ _ G
      split at h
      · rename_i s' hs
        split at h
        · rename_i Y
          simp only[W3]at h;subst h;have hl:=Xs Y;have h1:P.underlying t=io (.array n u):=(A _ _ G).2.1;have hf:=key u s' hs;obtain⟨e,b0,f0,_,_,_⟩:=id hf;obtain⟨i,hi,i0⟩:=Eb A b0;have e0: ∀n,(Dv s' n).length=n*s'.length:=fun n=>by
            induction n with
            |zero=>simp[Dv]
            |succ n ih=>simp only[Dv,W1,ih,YL];omega
          refine⟨_,G,by rw[e0];exact hl.symm,(fun h=>nomatch h),fun w a b I hb D=>?_,fun w a I em D=>?_⟩
          · have h3:=yF (w:=w) A hf D (P.cellsOf u) (by rw[i0,f0]) n 0 [] [] a b (by simp) (by simp) I hb
            simp only[Xq]at h3;show∃r:Bool,(Op.equalIn (d+1+D) t (.agg a.toArray) (.agg b.toArray)).run P w= .ok r w∧_;rw[show d+1+D=(d+D)+1 by omega,run_equalIn_array w (d+D) _ _ h1 hi,List.range_eq_range'];exact h3
          · show(Instr.checkKey em (d+1+D) t (.agg a.toArray)).run P w=_
            rw[show d+1+D=(d+D)+1 by omega,Instr.checkKey];simp only[Sem.run_bind,run_underlying h1,Result.andThen_ok];simp only[Std.Legacy.Range.forIn_eq_forIn_range',Std.Legacy.Range.size,ZK,Nat.add_one_sub_one,Nat.div_one];obtain⟨e',j0,m0,a0,_,d0⟩:=id hf;have:e'=e:=X4 (j0.symm.trans b0);subst this;obtain⟨pre,hp,g0⟩: ∃pre:List Value,pre.length=0*e'.size∧a.toArray=(pre++a).toArray:=⟨[],by simp,rfl⟩
            rw[g0];clear g0;clear hl Y h1 G;generalize 0=j at hp ⊢
            induction n generalizing j pre a with
            |zero=>simp
            | succ n ih=>
              obtain⟨a1,a2,rfl,J,c0⟩:=xk.split I;have la:=J.length;have p1:=kB (P:=P) (w:=w) (A _ _ b0) a0 pre a1 a2 (by omega);have ih:=ih a2 c0 (pre++a1) (j+1) (by rw[W1,hp,la,YL,f0]);simp only[Xf]at ih;rw[aay];rw[hp]at p1;simp only[aaF,Sem.run_bind,aQ (A _ _ b0),Result.andThen_ok,p1,d0 w a1 J em D,Sem.run_pure];exact ih
        · cases h
      · cases h
    · cases h
theorem JO{u:TypeId}{s:FS}(j:bq P ty)(h:dV ty u=io (.fl s)):(∃F,P.underlying u=io (.struct F))∧ ∃e,e.k.agg=jp∧AG P ty 6 u s∧ty u=io e:=by
  unfold dV at h;split at h
  · cases h
  · cases h
  · split at h<;>cases h
  · rename_i x
    split at h
    · rename_i s' hs
      simp only[W3,KC.fl.injEq]at h;subst h;obtain⟨F,h1,_⟩:=(j _ _ x).2.1;exact⟨⟨F,h1⟩,_,rfl,An j 6 u s' hs,x⟩
    · cases h
  · cases h
theorem Cx{kc:KC}{u:TypeId}(x:bq P ty)(h:dV ty u=io kc)(a b:kc.K):(Op.equal u (kc.ek a) (kc.ek b)).run P w= .ok (lc (a=b)) w:=by
  have key: ∀(r:Bool),Hg ty 10 u (kc.pk a) (kc.pk b)=io r->(Op.equal u (kc.ek a) (kc.ek b)).run P w= .ok r w:=fun r hr=>
    D6 (M:=Mem.base) (N:=⟨fun _=>0,fun _=>0⟩) (U:=fun _=>True) x 10 u _ _ r hr _ _ (yc kc a) (yc kc b) 9990
  unfold dV at h;split at h
  · rename_i j
    simp only[W3]at h;subst h;refine key _ ?_;simp[Hg,j,KC.pk]
  · rename_i j
    simp only[W3]at h;subst h;refine key _ ?_;simp[Hg,j,KC.pk]
  · rename_i j
    split at h
    · rename_i D hb
      simp only[W3]at h;subst h;refine key _ ?_;obtain⟨I,a2⟩:=a;obtain⟨J,Y⟩:=b;simp[Hg,Hf,j,D,hb,KC.pk,iq,TK.agg,kP]
    · cases h
  · rename_i h0 j
    split at h
    · rename_i s hs
      simp only[W3]at h;subst h;obtain⟨e,y,G,_,A,_⟩:=An x 6 u s hs;have:e=_:=X4 (y.symm.trans j);subst this;obtain⟨r,h1,B⟩:=A w (FK.vs s a) (FK.vs s b) (l5 s a) (l5 s b) 9994;have hd:r=lc (a=b):=by
        rw[Yu,B,decide_eq_true_iff];exact⟨C6,fun h=>by rw[h]⟩
      rw[<-hd];exact h1
    · cases h
  · cases h
def kX(kc:KC){V:Type}:List (kc.K×V)->kc.K->Option Nat
  | [],_=>is
  |(a,_)::r,k=>if a=k then io 0 else(kX kc r k).map (· +1)
section
variable {kc:KC} {V:Type}
theorem mK: ∀{m:List (kc.K×V)} {k:kc.K} {i:Nat},kX kc m k=io i-> ∃v,m[i]? =io (k,v)∧(∀z,eh kc m k z=v)∧dA kc m k=jp∧(∀u,cS kc m k u=m.set i (k,u))∧lq kc m k=m.eraseIdx i
  | [],_,_,h=>by simp[kX]at h
  | (a,b)::r,k,i,h=>by
    simp only[kX]at h;split at h
    · rename_i e
      simp only[W3]at h;subst h;subst e;exact⟨b,rfl,fun z=>by simp[eh],by simp[dA],fun u=>by simp[cS],by simp[lq]⟩
    · rename_i e
      obtain⟨j,D,rfl⟩:=Xa.1 h;obtain⟨v,h1,x,y,A,B⟩:=mK D;exact⟨v,by simpa using h1,fun z=>by simp[eh,e,x],by simp[dA,e,y],fun u=>by simp[cS,e,A],by simp[lq,e,B]⟩
theorem pG: ∀{m:List (kc.K×V)} {k:kc.K},kX kc m k=is->(∀z,eh kc m k z=z)∧dA kc m k=kw∧(∀j,cS kc m k j=m++ [(k,j)])∧lq kc m k=m
  | [],_,_=>⟨fun z=>rfl,rfl,fun v=>rfl,rfl⟩
  | (a,b)::r,k,h=>by
    simp only[kX]at h;split at h
    · cases h
    · rename_i e
      obtain⟨u,x,y,A⟩:=pG (Zq.1 h);exact⟨fun z=>by simp[eh,e,u],by simp[dA,e,x],fun j=>by simp[cS,e,y],by simp[lq,e,A]⟩
def xg(kc:KC){V:Type}:List MapEntry->List (kc.K×V)->Prop
  | [],[]=>True
  |e::r,x::m=>e.key=kc.ek x.1∧xg kc r m
  |_,_=>False
theorem Cc: ∀{es:List MapEntry} {m:List (kc.K×V)},es.length=m.length->(∀(j:Nat) (x:kc.K×V),m[j]? =io x->(es.getD j co).key=kc.ek x.1)->xg kc es m
  | [],[],_,_=>trivial
  |e::r,x::m,hl,h=>⟨by simpa using h 0 x Z,Cc (by simpa using hl) fun j x u=>by simpa using h (j+1) x (by simpa using u)⟩
  | [],_::_,hl,_=>by simp at hl
  |_::_,[],hl,_=>by simp at hl
theorem ud: ∀{es:List MapEntry} {m:List ((KC.str).K×V)} {k:ByteArray} (i:Nat),xg .str es m->Instr.findNow .string (.string k) es i=io ((kX .str m k).map fun j=>(i+j,(es.getD j co).val))
  | [],[],_,_,_=>rfl
  | e::r,(a,b)::m,k,i,h=>by
    obtain⟨h1,u⟩:=h;simp only[KC.ek]at h1;simp only[Instr.findNow,h1,Instr.sameNow,kX];rw[beq_toListBytes,vj];by_cases hk:a=k
    · subst hk;simp
    · have hb:lc (k=a)=kw:=by simpa using fun e=>hk e.symm
      rw[hb,be hk,ud (i+1) u];simp only[aak,W3];congr 1
      funext j
      simp;omega
  | [],_::_,_,_,h=>h.elim
  |_::_,[],_,_,h=>h.elim
theorem ue{q:IntKind}: ∀{es:List MapEntry} {m:List ((KC.int q).K×V)} {k:Int} (i:Nat),xg (.int q) es m->Instr.findNow (.int q) (.int q k) es i=io ((kX (.int q) m k).map fun j=>(i+j,(es.getD j co).val))
  | [],[],_,_,_=>rfl
  | e::r,(a,b)::m,k,i,h=>by
    obtain⟨h1,u⟩:=h;simp only[KC.ek]at h1;simp only[Instr.findNow,h1,Instr.sameNow,kX,if_true];by_cases hk:a=k
    · subst hk;simp
    · have: ¬k=a:=fun e=>hk e.symm
      have hb:(k==a)=kw:=by simpa using this
      rw[hb,be hk,ue (i+1) u];simp only[aak,W3];congr 1
      funext j
      simp;omega
  | [],_::_,_,_,h=>h.elim
  |_::_,[],_,_,h=>h.elim
theorem qn{y:TypeId}(x:bq P ty)(hk:dV ty y=io kc): ∀{es:List MapEntry} {m:List (kc.K×V)} {k:kc.K} (i:Nat),xg kc es m->
    (Instr.findAsking y (kc.ek k) es i).run P w= .ok ((kX kc m k).map fun j=>(i+j,(es.getD j co).val)) w
  | [],[],_,_,_=>by simp[Instr.findAsking,kX]
  | e::r,(a,b)::m,k,i,h=>by
    obtain⟨h1,A⟩:=h;simp only[Instr.findAsking,h1,Sem.run_bind,Cx (P:=P) (w:=w) x hk,Result.andThen_ok,kX];by_cases u:a=k
    · subst u;simp
    · have: ¬k=a:=fun e=>u e.symm
      rw[be u];simp only[this,decide_false,YQ,if_false,qn x hk (i+1) A,aak];congr 2
      funext j
      simp;omega
  | [],_::_,_,_,h=>h.elim
  |_::_,[],_,_,h=>h.elim
theorem nP{B:TypeId}(u:bq P ty)(hk:dV ty B=io kc){es:List MapEntry}{m:List (kc.K×V)}(k:kc.K)(h:xg kc es m):
    (Instr.findKey B (kc.ek k) es).run P w= .ok ((kX kc m k).map fun j=>(j,(es.getD j co).val)) w:=by
  have hu: ∃d,P.underlying B=io d:=by
    unfold dV at hk;split at hk
    · rename_i y;exact⟨_,(u _ _ y).2.1.1⟩
    · rename_i y;exact⟨_,(u _ _ y).2.1.1⟩
    · rename_i y;obtain⟨F,h1,_⟩:=(u _ _ y).2.1;exact⟨_,h1⟩
    · rename_i y;obtain⟨F,h1,_⟩:=(u _ _ y).2.1;exact⟨_,h1⟩
    · cases hk
  obtain⟨d,hd⟩:=hu;unfold Instr.findKey;rw[Sem.run_bind,run_underlying hd,Result.andThen_ok];have x:=qn (P:=P) (w:=w) u hk (k:=k) 0 h;simp only[Xo]at x;cases kc with
  | str=>
    have:=tX u hk;rw[hd]at this;cases this;simp only[KC.ek,ud 0 h,Xo];rfl
  | int q=>
    have:=tY u hk;rw[hd]at this;cases this;simp only[KC.ek,ue 0 h,Xo];rfl
  | si q=>
    cases es with
    | nil=>
      cases m with
      |nil=>simp[Instr.findNow,kX]
      |cons=>exact h.elim
    | cons e r=>
      have A:Instr.findNow d (KC.ek (.si q) k) (e::r) 0=is:=by
        simp only[Instr.findNow,KC.ek];have:Instr.sameNow d (.agg #[.string k.1,.int q k.2]) e.key=is:=by cases d<;>rfl
        rw[this]
      rw[A];exact x
  | fl s=>
    cases es with
    | nil=>
      cases m with
      |nil=>simp[Instr.findNow,kX]
      |cons=>exact h.elim
    | cons e r=>
      have A:Instr.findNow d (KC.ek (.fl s) k) (e::r) 0=is:=by
        simp only[Instr.findNow,KC.ek];have:Instr.sameNow d (.agg (FK.vs s k).toArray) e.key=is:=by cases d<;>rfl
        rw[this]
      rw[A];exact x
theorem j8.keys{V:Type}{e:V->IV}{m:List (kc.K×V)}{ents:Array MapEntry}{clock:Nat}(h:j8 M kc e m ents clock):xg kc ents.toList m:=
  Cc (by simpa using h.size) fun j x u=>by
    have:=h.key j x u;rwa[WZ,<-Xz,<-W2]at this
theorem j8.VW{V:Type}{e:V->IV}{m:List (kc.K×V)}{ents:Array MapEntry}{clock:Nat}(h:j8 M kc e m ents clock){j:Nat}{x:kc.K×V}(hj:m[j]? =io x):IR M (e x.2) (ents.toList.getD j co).val:=by
  have:=h.val j x hj;rwa[WZ,<-Xz,<-W2]at this
theorem x7{i:IV}{x:Value}(h:IR M i x):VR M N U i.pv x:=by
  cases h with
  | agg cs ys hl hr=>
    refine .agg _ _ (by simpa using hl) fun j p u=>?_;rw[W9,Xa]at u;obtain⟨q,y,rfl⟩:=u
    exact .iv _ _ (hr j q y)
  |v x=>exact .iv _ _ (.v x)
  |fS=>exact .iv _ _ (.fS _ _ _ _)
  |bI _ _ _ _ _ _ h1 h2 h3 h4 h5=>exact .iv _ _ (.bI _ _ _ _ _ _ h1 h2 h3 h4 h5)
  |ln _ _ _ h1 h2=>exact .iv _ _ (.ln _ _ _ h1 h2)
  |fa _ _ _ _ _ _ _ _ h1 h2 h3 h4 h5 h6 h7=>exact .iv _ _ (.fa _ _ _ _ _ _ _ _ h1 h2 h3 h4 h5 h6 h7)
  |Ti _ _ _ h=>exact .iv _ _ (.Ti _ _ _ h)
theorem lG{kt:TypeId}(u:bq P ty)(hk:dV ty kt=io kc)(k:kc.K)(b:Bool)(n:Nat):(Instr.checkKey b (n+6) kt (kc.ek k)).run P w= .ok () w:=by
  cases kc with
  |str=>exact run_checkKey (tX u hk) (by simp[KC.ek,IsKey]) _ _
  |int q=>exact run_checkKey (tY u hk) (by simp[KC.ek,IsKey]) _ _
  | si q=>
    unfold dV at hk;split at hk
    · cases hk
    · cases hk
    · rename_i a c _ _ _ J
      split at hk
      · rename_i _ _ _ _ B _ _ _ I hc
        simp only[W3,KC.si.injEq]at hk;have b0:B=q:=hk;subst b0;obtain⟨F,h1,A⟩:=(u _ _ J).2.1;have G:=((u _ _ J).2.2 Z).2.2;rw[iH h1]at G;have e0:=(u _ _ I).2.1.1;have f0:=(u _ _ hc).2.1.1;have c0:(part a #[.string k.1,.int B k.2] 0).run P w= .ok (.string k.1) w:=by
          have:=jF (P:=P) (w:=w) (M:=Mem.base) (N:=⟨fun _=>0,fun _=>0⟩) (U:=fun _=>True) (off:=0) (cs:=[.iv (.v (.string k.1)),.iv (.v (.int B k.2))]) (ys:= #[.string k.1,.int B k.2]) (u _ _ I) Z
            (fun j p x=>by match j with
              |0=>simp at x;subst x;exact .iv _ _ (.v _)
              |1=>simp at x;subst x;exact .iv _ _ (.v _)
              |j+2=>simp at x) (p:= .iv (.v (.string k.1))) (by simp[iq,TK.agg,kP])
          obtain⟨y,hy,D⟩:=this;cases D with
          |iv _ _ D=>cases D;exact hy
        have d0:(part c #[.string k.1,.int B k.2] 1).run P w= .ok (.int B k.2) w:=by
          have:=jF (P:=P) (w:=w) (M:=Mem.base) (N:=⟨fun _=>0,fun _=>0⟩) (U:=fun _=>True) (off:=1) (cs:=[.iv (.v (.string k.1)),.iv (.v (.int B k.2))]) (ys:= #[.string k.1,.int B k.2]) (u _ _ hc) Z
            (fun j p x=>by match j with
              |0=>simp at x;subst x;exact .iv _ _ (.v _)
              |1=>simp at x;subst x;exact .iv _ _ (.v _)
              |j+2=>simp at x) (p:= .iv (.v (.int B k.2))) (by simp[iq,TK.agg,kP])
          obtain⟨y,hy,D⟩:=this;cases D with
          |iv _ _ D=>cases D;exact hy
        obtain⟨F⟩:=F
        match F,A,G with
        | [],A,_=>simp at A
        | [_],A,_=>simp at A
        |_::_::_::_,A,_=>simp at A
        | [f,g],A,G=>
          simp at A;obtain⟨⟨h3,h4⟩,h5,h6⟩:=A;have hf:=G f (by simp);have hg:=G g (by simp);have ca:=run_checkKey (w:=w) e0 (k:= .string k.1) (by simp[IsKey]) b (n+4);have cc:=run_checkKey (w:=w) f0 (k:= .int B k.2) (by simp[IsKey]) b (n+4);unfold Instr.checkKey;simp[KC.ek,run_underlying h1,hf,hg,h3,h4,h5,h6,c0,d0,ca,cc]
      · cases hk
    · split at hk<;>cases hk
    · cases hk
  | fl s=>
    obtain⟨_,e,I,⟨e',a0,_,_,_,Y⟩,J⟩:=JO u hk;have:e'=e:=X4 (a0.symm.trans J);subst this;have:=Y w (FK.vs s k) (l5 s k) b n;rw[Nat.add_comm 6 n]at this;unfold I5 at this;rw[I]at this;exact this
theorem AU{a b:Value}(h:Eu a b=jp):a=b:=by
  unfold Eu at h;split at h<;>simp_all
theorem AT: ∀{a b:List Value},xI a b=jp->a=b
  | [],[],_=>rfl
  | x::r,y::q,h=>by
    simp only[xI,XR]at h;rw[AU h.1,AT h.2]
  | [],_::_,h=>by simp[xI]at h
  |_::_,[],h=>by simp[xI]at h
theorem KW{a b:Value}(h:lO a b=jp):a=b:=by
  unfold lO at h;split at h
  · have:=AT h
    congr 1;exact Z7.1 this
  · exact AU h
theorem B4(y:bq P ty){t:TypeId}{ok:Bool}{V:Type}{e:V->IV}{z:V}{zv:Value}{m:List (kc.K×V)}{key p:PV}{C:Prop}(h:v7 ty t ok kc e z zv m key=io (p,C)){r:Nat}{ents:Array MapEntry}{clock:Nat}
    (hb:w.heap[r]? =io (.map ents clock)) (hm:j8 M kc e m ents clock) (hz:IR M (e z) zv) {k:Value} (hk:VR M N U key k):
    C∧ ∃x,(Instr.lookup t (.map (io r)) k ok).run P w= .ok x w∧VR M N U p x:=by
  unfold v7 at h;split at h
  · rename_i kt et _ _ _ _ he
    have hu:=(y _ _ he).2.1.1;split at h
    · rename_i A ee D a0
      split at h
      · rename_i k0 hd hv Y
        have hd:=of_decide_eq_true hd;subst hd;have b0:=FD Y hk;subst b0;have hv:=KW hv;have u:=nP (P:=P) (w:=w) y D k0 hm.keys;have B:=lG (P:=P) (w:=w) y D k0 ents.isEmpty 9994;have c0:=dy (P:=P) (w:=w) (y _ _ a0);have hg:(getObj r).run P w= .ok (.map ents clock) w:=by simp[getObj,Sem.run,hb]
        have I: ∃v J,(Instr.lookup t (.map (io r)) (A.ek k0) ok).run P w= .ok (if ok then .tuple #[v,.bool J] else v) w∧J=dA A m k0∧IR M (e (eh A m k0 z)) v:=by
          cases hfi:kX A m k0 with
          | none=>
            obtain⟨g1,g2,_⟩:=pG hfi;rw[hfi]at u;refine⟨ee.zero,kw,?_,by rw[g2],by rw[g1,hv];exact hz⟩;simp[Instr.lookup,run_underlying hu,hg,B,u,c0]
          | some i=>
            obtain⟨v,g0,g1,g2,_⟩:=mK hfi;rw[hfi]at u;refine⟨(ents.toList.getD i co).val,jp,?_,by rw[g2],by rw[g1];exact hm.VW g0⟩;simp[Instr.lookup,run_underlying hu,hg,B,u]
        obtain⟨v,J,h1,h2,h3⟩:=I;split at h
        · simp only[W3,Xe]at h
          obtain⟨rfl,rfl⟩:=h;refine⟨ac,_,h1,.a7 _ _ Z fun j q G=>?_⟩
          match j with
          |0=>simp at G;subst G;exact x7 h3
          |1=>simp at G;subst G;subst h2;exact .iv _ _ (.v _)
          |j+2=>simp at G
        · simp only[W3,Xe]at h
          obtain⟨rfl,rfl⟩:=h;exact⟨ac,_,h1,x7 h3⟩
      · cases h
    · cases h
  · cases h
end
end
section
variable {P:Program} {ty:Ty} {M:Mem} {N:Nm} {w:World} {nt:NT} {s:AS} {a:Act}
theorem a8{x:Value}{m:Sem Value}(h:m.run P w= .ok x w):(do pure (.value (<-m)):Sem Next).run P w= .ok (.value x) w:=by
  rw[Sem.run_bind,h];rfl
theorem sU(D:bq P ty)(hf:Fits M N s nt a w){o:Oper}{p:PV}{C:Prop}(h:ji ty s o.op=io (p,C))(hC:C):
    ∃x,(execOp a.eval o).run P w= .ok (.value x) w∧VR M N (· <s.nx) p x:=by
  obtain⟨e0,B,_,_⟩:=hf;cases ho:o.op with
  | move x=>
    rw[ho]at h;simp only[ji,W3,Xe]at h;obtain⟨rfl,rfl⟩:=h;exact⟨_,by simp only[execOp,ho];rfl,aO B x⟩
  | assign x=>
    rw[ho]at h;simp only[ji,W3,Xe]at h;obtain⟨rfl,rfl⟩:=h;exact⟨_,by simp only[execOp,ho];rfl,aO B x⟩
  | pick c x y=>
    rw[ho]at h;simp only[ji]at h;have hc:=aO B c;split at h
    · rename_i I
      rw[I]at hc;simp only[W3,Xe]at h;obtain⟨rfl,rfl⟩:=h;generalize J:a.eval c=v at hc;cases hc with
      |kb=>exact⟨_,by simp only[execOp,ho,J];simp[asBool],aO B x⟩
    · rename_i I
      rw[I]at hc;simp only[W3,Xe]at h;obtain⟨rfl,rfl⟩:=h;generalize J:a.eval c=v at hc;cases hc with
      |kb=>exact⟨_,by simp only[execOp,ho,J];simp[asBool],aO B y⟩
    · cases h
  | load t x=>
    rw[ho]at h;simp only[ji]at h;split at h
    · rename_i e I
      split at h
      · rename_i cs hb
        split at h
        · rename_i q hq
          simp only[W3,Xe]at h;obtain⟨rfl,rfl⟩:=h;obtain⟨b,o0,A,r0⟩:=yW e0 (aO B x) hb;obtain⟨y,hy,J⟩:=tM (P:=P) (D t e I) r0 hq;exact⟨y,by simp only[execOp,ho];exact a8 (by rw[A];simpa[Instr.loadAt,Instr.sureAddr]using hy),J⟩
        · cases h
      · cases h
    · cases h
  | nilCheck x=>
    rw[ho]at h;simp only[ji]at h;have A:=aO B x;split at h
    all_goals first
      |cases h;done
      | (rename_i I
         simp only[W3,Xe]at h;obtain⟨rfl,rfl⟩:=h;rw[I]at A;refine⟨_,?_,A⟩;generalize J:a.eval x=v at A
         first
         |(cases A;simp only[execOp,ho,J];rfl)
         | (cases A with
            |iv _ _ A=>cases A;simp only[execOp,ho,J];rfl))
  | binOp op t x y t'=>
    rw[ho]at h;simp only[ji]at h;split at h
    · rename_i cs ds k0 x1
      have h1:=aO B x;have h2:=aO B y;rw[k0]at h1;rw[x1]at h2;obtain⟨_,z,hz,J⟩:=KG (P:=P) (w:=w) D (u:=x) (v:=y) h h1 h2;exact⟨z,by simp only[execOp,ho];exact a8 hz,J⟩
    · obtain⟨z,hz,J⟩:=Hm (P:=P) (w:=w) D (u:=x) (v:=y) h hC (aO B x) (aO B y)
      exact⟨z,by simp only[execOp,ho];exact a8 hz,J⟩
  | unOp op t x=>
    rw[ho]at h;cases op with
    | not=>
      simp only[ji]at h;have A:=aO B x;split at h
      · rename_i I
        simp only[W3,Xe]at h;obtain⟨rfl,rfl⟩:=h;rw[I]at A;generalize J:a.eval x=v at A;cases A with
        |kb=>exact⟨_,by simp only[execOp,ho,J];exact a8 Z,.kb _⟩
      · rename_i I
        simp only[W3,Xe]at h;obtain⟨rfl,rfl⟩:=h;rw[I]at A;generalize J:a.eval x=v at A;cases A with
        |kb=>exact⟨_,by simp only[execOp,ho,J];exact a8 Z,.kb _⟩
      · rename_i I
        simp only[W3,Xe]at h;obtain⟨rfl,rfl⟩:=h;rw[I]at A;cases A with
        | iv _ _ A=>generalize J:a.eval x=v at A;cases A with
          |v=>exact⟨_,by simp only[execOp,ho,J];exact a8 Z,.iv _ _ (.v _)⟩
      · cases h
    |_=>simp[ji]at h
  | fieldAddr t x k=>
    rw[ho]at h;simp only[ji]at h;split at h
    · rename_i e I
      split at h
      · rename_i o0 u k1
        split at h
        · rename_i eu c0
          split at h
          · cases h
          · rename_i n hn
            split at h
            · rename_i q hq
              simp only[W3,Xe]at h;obtain⟨rfl,rfl⟩:=h;obtain⟨F,fd,h1,h2,rfl,rfl⟩:=sv (D t e I) k1;obtain⟨b,o',A,J⟩:=Gy (aO B x) hq;refine⟨_,?_,J⟩;simp only[execOp,ho,A];refine a8 ?_;have hs:=aQ (w:=w) (D _ _ c0);simp[Instr.fieldAt,run_underlying h1,h2,Instr.sureAddr,fieldPlace,hs,hn,c9]
            · cases h
        · cases h
      · cases h
    · cases h
  | field t x k=>
    rw[ho]at h;simp only[ji]at h;split at h
    · rename_i e I
      split at h
      · rename_i o0 u k1
        split at h
        · rename_i eu c0
          split at h
          · rename_i cs k0
            split at h
            · rename_i q hq
              simp only[W3,Xe]at h;obtain⟨rfl,rfl⟩:=h;obtain⟨F,fd,h1,h2,rfl,rfl⟩:=sv (D t e I) k1;have A:=aO B x;rw[k0]at A;generalize J:a.eval x=v at A;cases A with
              | agg _ ys hl hr=>
                obtain⟨y,hy,l2⟩:=jF (P:=P) (w:=w) (D _ _ c0) hl hr hq;refine⟨y,?_,l2⟩;simp only[execOp,ho,J];refine a8 ?_;simp[Instr.field,run_underlying h1,h2,asAgg,hy]
            · cases h
          · cases h
        · cases h
      · cases h
    · cases h
  | indexAddr t x i=>
    rw[ho]at h;simp only[ji]at h;split at h
    · rename_i u sz i0 z _ I
      have hu:P.underlying t=io (.slice u):=(D t _ I).2.1.1;split at h
      · rename_i eu c0
        split at h
        · rename_i k n hn
          have hi:=aO B i;rw[hn]at hi;have j0:a.eval i= .int k n:=by
            generalize a.eval i=v at hi;cases hi with
            | iv _ _ hi=>cases hi with
              |v=>rfl
          split at h
          · rename_i g0 m el A
            cases hb:Xv g0 eu.size with
            |false=>simp only[hb,cond_false]at h;cases h
            | true=>
              simp only[hb,cond_true]at h;have hs:=Xs hb;subst hs;have G:=aO B x;rw[A]at G;obtain⟨y,hy,J⟩:=ql (P:=P) (k:=k) hu (D _ _ c0) G (.inl ⟨m,el,rfl⟩) h hC;exact⟨y,by simp only[execOp,ho,j0];exact a8 hy,J⟩
          · rename_i j o0 len g0 A
            cases hb:Xv g0 eu.size with
            |false=>simp only[hb,cond_false]at h;cases h
            | true=>
              simp only[hb,cond_true]at h;have hs:=Xs hb;subst hs;have G:=aO B x;rw[A]at G;obtain⟨y,hy,J⟩:=ql (P:=P) (k:=k) hu (D _ _ c0) G (.inr ⟨j,o0,len,rfl⟩) h hC;exact⟨y,by simp only[execOp,ho,j0];exact a8 hy,J⟩
          · cases h
        · cases h
      · cases h
    · rename_i len u sz i0 z _ I
      have hu:P.underlying t=io (.array len u):=(D t _ I).2.1;split at h
      · rename_i eu c0
        split at h
        · rename_i k n hn
          have hi:=aO B i;rw[hn]at hi;have j0:a.eval i= .int k n:=by
            generalize a.eval i=v at hi;cases hi with
            | iv _ _ hi=>cases hi with
              |v=>rfl
          split at h
          · rename_i j o0 A
            simp only[W3,Xe]at h;obtain⟨rfl,rfl⟩:=h;have G:=aO B x;rw[A]at G;generalize J:a.eval x=v at G;cases G with
            | ptr _ _ hU=>
              refine⟨.pointer (io ⟨N.aA j,o0+n.toNat*eu.size,is⟩),?_,.ptr _ _ hU⟩;simp only[execOp,ho,j0,J];refine a8 ?_;simp only[Instr.indexAt,asIntOf];simp[run_underlying hu,hC.1,hC.2,aQ (D _ _ c0),c9,Instr.sureAddr]
          · cases h
        · cases h
      · cases h
    · cases h
  | slice t x lo hi mx=>
    rw[ho]at h;have d0: ∀(o:Operand) (k:IntKind) (n:Int),ev s.f o= .iv (.v (.int k n))->a.eval o= .int k n:=fun o k n I=>by
      have hi:=aO B o;rw[I]at hi;generalize a.eval o=v at hi;cases hi with
      | iv _ _ hi=>cases hi with
        |v=>rfl
    cases lo with
    | none=>
      cases hi with
      |none=>simp only[ji]at h;cases h
      |some hi=>
      cases mx with
      |none=>simp only[ji]at h;cases h
      |some mx=>
      simp only[ji]at h;split at h
      · rename_i u sz i0 z _ I
        have hu:P.underlying t=io (.slice u):=(D t _ I).2.1.1;split at h
        · rename_i eu c0
          split at h
          · rename_i kb nb a1
            split at h
            · rename_i kc nc f2
              split at h
              · rename_i g0 m el A
                cases hb:Xv g0 eu.size with
                |false=>simp only[hb,cond_false]at h;cases h
                | true=>
                  simp only[hb,cond_true]at h;have hs:=Xs hb;subst hs;have G:=aO B x;rw[A]at G;have w0:=d0 hi _ _ a1;have c2:=d0 mx _ _ f2;obtain⟨y,hy,J⟩:=Dd (P:=P) (w:=w) (M:=M) (N:=N) (U:=(· <s.nx)) (kb:=kb) (kc:=kc) (nb:=nb) (nc:=nc) hu (D _ _ c0) G h hC;exact⟨y,by simp only[execOp,ho,w0,c2,Ya,Y7];exact a8 hy,J⟩
              · cases h
            · cases h
          · cases h
        · cases h
      · cases h
    |some lo=>
    cases hi with
    | none=>
      cases mx with
      |some mx=>simp only[ji]at h;cases h
      |none=>
      simp only[ji]at h;split at h
      · rename_i u sz i0 z _ I
        have hu:P.underlying t=io (.slice u):=(D t _ I).2.1.1;split at h
        · rename_i eu c0
          split at h
          · rename_i ka na x0
            split at h
            · rename_i g0 m el A
              cases hb:Xv g0 eu.size with
              |false=>simp only[hb,cond_false]at h;cases h
              | true=>
                simp only[hb,cond_true]at h;have hs:=Xs hb;subst hs;have G:=aO B x;rw[A]at G;have v0:=d0 lo _ _ x0;obtain⟨y,hy,J⟩:=Gb (P:=P) (w:=w) (M:=M) (N:=N) (U:=(· <s.nx)) (ka:=ka) (na:=na) hu (D _ _ c0) G h hC;exact⟨y,by simp only[execOp,ho,v0,Ya,Y7];exact a8 hy,J⟩
            · cases h
          · cases h
        · cases h
      · cases h
    |some hi=>
    cases mx with
    |some mx=>simp only[ji]at h;cases h
    |none=>
    simp only[ji]at h;split at h
    · rename_i u sz i0 z _ I
      have hu:P.underlying t=io (.slice u):=(D t _ I).2.1.1;split at h
      · rename_i eu c0
        split at h
        · rename_i ka na x0
          split at h
          · rename_i kb nb a1
            split at h
            · rename_i g0 m el A
              cases hb:Xv g0 eu.size with
              |false=>simp only[hb,cond_false]at h;cases h
              | true=>
                simp only[hb,cond_true]at h;have hs:=Xs hb;subst hs;have G:=aO B x;rw[A]at G;have v0:=d0 lo _ _ x0;have w0:=d0 hi _ _ a1;obtain⟨y,hy,J⟩:=Gc (P:=P) (w:=w) (M:=M) (N:=N) (U:=(· <s.nx)) (ka:=ka) (kb:=kb) (na:=na) (nb:=nb) hu (D _ _ c0) G h hC;exact⟨y,by simp only[execOp,ho,v0,w0,Ya,Y7];exact a8 hy,J⟩
            · cases h
          · cases h
        · cases h
      · cases h
    · rename_i sz i0 z _ I
      have hu:P.underlying t=io .string:=(D t _ I).2.1.1;split at h
      · rename_i ka na x0
        split at h
        · rename_i kb nb a1
          split at h
          · rename_i b A
            simp only[W3,Xe]at h;obtain⟨rfl,rfl⟩:=h;have G:=aO B x;rw[A]at G;have p1:a.eval x= .string b:=by
              generalize a.eval x=v at G;cases G with
              | iv _ _ hi=>cases hi with
                |v=>rfl
            have v0:=d0 lo _ _ x0;have w0:=d0 hi _ _ a1;refine⟨.string (b.extract na.toNat nb.toNat),?_,.iv _ _ (.v _)⟩;simp only[execOp,ho,v0,w0,p1,Ya,Y7];exact a8 (A5 hu hC)
          · cases h
        · cases h
      · cases h
    · cases h
  | convert t t' x=>
    rw[ho]at h;simp only[ji]at h;split at h
    · rename_i q0 p2 m2 z0 _ a2
      have k2:P.underlying t=io (.int q0):=(D t _ a2).2.1.1;split at h
      · rename_i k sz i0 z _ I
        have hu:P.underlying t'=io (.int k):=(D t' _ I).2.1.1;split at h
        · rename_i q n hn
          simp only[W3,Xe]at h;obtain⟨rfl,rfl⟩:=h;have hi:=aO B x;rw[hn]at hi;have j0:a.eval x= .int q n:=by
            generalize a.eval x=v at hi;cases hi with
            | iv _ _ hi=>cases hi with
              |v=>rfl
          refine⟨_,?_,.iv _ _ (.v _)⟩;simp only[execOp,ho,j0];refine a8 ?_;simp[convert,run_underlying k2,run_underlying hu,Conv.intToInt]
        · cases h
      · cases h
    · cases h
  | index t x i=>
    rw[ho]at h;simp only[ji]at h;split at h
    · rename_i sz i0 z _ I
      have hu:P.underlying t=io .string:=(D t _ I).2.1.1;split at h
      · rename_i k n hn
        split at h
        · rename_i b A
          simp only[W3,Xe]at h;obtain⟨rfl,rfl⟩:=h;have hi:=aO B i;rw[hn]at hi;have j0:a.eval i= .int k n:=by
            generalize a.eval i=v at hi;cases hi with
            | iv _ _ hi=>cases hi with
              |v=>rfl
          have G:=aO B x;rw[A]at G;have p1:a.eval x= .string b:=by
            generalize a.eval x=v at G;cases G with
            | iv _ _ hi=>cases hi with
              |v=>rfl
          refine⟨_,?_,.iv _ _ (.v _)⟩;simp only[execOp,ho,j0,p1];refine a8 ?_;have j1:n.toNat<b.size:=by omega
          have hg:b[n.toNat]? =io (b.data.toList.getD n.toNat 0):=by
            rw[getElem?_pos b n.toNat j1];have h0:n.toNat<b.data.size:=j1;have h1:b.data.toList.getD n.toNat 0=b.data[n.toNat]:=by
              rw[W2,Xz,XJ h0];rfl
            rw[h1];rfl
          simp only[Instr.index,asIntOf];simp[run_underlying hu,hC.1,hg]
        · cases h
      · cases h
    · cases h
  | build t parts=>
    rw[ho]at h;simp only[ji]at h;split at h
    · rename_i e I
      split at h
      · rename_i fs hk
        split at h
        · rename_i pl j2
          split at h
          · rename_i cs k0
            rw[force_eq]at h;simp only[W3,Xe]at h;obtain⟨rfl,rfl⟩:=h;have f0:=D t e I;have m0:=f0.2.1;rw[hk]at m0;obtain⟨F,h1,h2⟩:=m0;have hz:=dy (w:=w) f0
            obtain⟨s1,h3,h4⟩:=sr (M:=M) (N:=N) (U:=(· <s.nx)) (AR:=(parts.map fun x=>(x.1,a.eval x.2)).toList) k0 (by simp) (fun j x y A hy=>by
              rw[W9,Xa]at A;obtain⟨z,hz,rfl⟩:=A;have q1:parts[j]? =io z:=by simpa using hz
              have:io (z.1,a.eval z.2)=io y:=by rw[<-hy];simp[q1]
              simp only[W3]at this;subst this
              exact⟨rfl,aO B z.2⟩) (fL e.zero)
            refine⟨.agg s1,?_,.agg _ _ h4.1 h4.2⟩;simp only[execOp,ho];refine a8 ?_;have m1: ∀(fl:List Field) (pl:List (Nat×Nat)),rK ty (fl.map fun f=>(f.offset,f.type))=io pl->(fl.mapM (fun f=>do pure (f.offset,<-sizeOf f.type):Field->Sem (Nat×Nat))).run P w= .ok pl w:=by
              intro fl
              induction fl with
              |nil=>intro pl hp;simp only[Xj,rK,W3]at hp;subst hp;rfl
              | cons f fl ih=>
                intro pl hp;simp only[W7,rK]at hp;split at hp
                · rename_i e' z1
                  split at hp
                  · rename_i l hl
                    simp only[W3]at hp;subst hp;rw[List.mapM_cons,Sem.run_bind,Sem.run_bind,aQ (D _ _ z1),Result.andThen_ok,Sem.run_pure,Result.andThen_ok,Sem.run_bind,ih l hl];rfl
                  · cases hp
                · cases hp
            have hm:=m1 F.toList pl (by rw[h2];exact j2);have d2:(F.mapM (fun f=>do pure (f.offset,<-sizeOf f.type):Field->Sem (Nat×Nat))).run P w= .ok pl.toArray w:=by
              rw[Z1,Sem.run_map,hm];rfl
            have n0:(fun(i:Nat)=>pl.toArray[i]?)=(fun(i:Nat)=>pl[i]?):=by funext i;simp
            simp only[Instr.build,Sem.run_bind,hz,Result.andThen_ok,run_underlying h1,d2];rw[n0,h3];rfl
          · cases h
        · cases h
      · rename_i n u hk
        split at h
        · rename_i eu c0
          split at h
          · rename_i cs k0
            rw[force_eq]at h;simp only[W3,Xe]at h;obtain⟨rfl,rfl⟩:=h;have f0:=D t e I;have m0:=f0.2.1;rw[hk]at m0;have hz:=dy (w:=w) f0
            obtain⟨s1,h3,h4⟩:=sr (M:=M) (N:=N) (U:=(· <s.nx)) (AR:=(parts.map fun x=>(x.1,a.eval x.2)).toList) k0 (by simp) (fun j x y A hy=>by
              rw[W9,Xa]at A;obtain⟨z,hz,rfl⟩:=A;have q1:parts[j]? =io z:=by simpa using hz
              have:io (z.1,a.eval z.2)=io y:=by rw[<-hy];simp[q1]
              simp only[W3]at this;subst this
              exact⟨rfl,aO B z.2⟩) (fL e.zero)
            refine⟨.agg s1,?_,.agg _ _ h4.1 h4.2⟩;simp only[execOp,ho];refine a8 ?_;simp only[Instr.build,Sem.run_bind,hz,Result.andThen_ok,run_underlying m0,aQ (D _ _ c0)];rw[h3];rfl
          · cases h
        · cases h
      · cases h
    · cases h
  | extract x k=>
    rw[ho]at h;simp only[ji]at h;split at h
    · rename_i cs k0
      split at h
      · rename_i q hq
        simp only[W3,Xe]at h;obtain⟨rfl,rfl⟩:=h;have A:=aO B x;rw[k0]at A;generalize J:a.eval x=v at A;cases A with
        | a7 _ ys hl hr=>
          have j1:k<ys.size:=by rw[<-hl];exact(W4.1 hq).1
          refine⟨ys.getD k undef,?_,hr _ _ hq⟩;simp only[execOp,ho,J];refine a8 ?_;simp[Instr.extract,WZ,j1]
      · cases h
    · cases h
  | makeFunc fn first caps=>
    rw[ho]at h;simp only[ji,force_eq,W3,Xe]at h;obtain⟨rfl,rfl⟩:=h;have h1:=I9 B first;have h2:=I9 B caps;exact⟨_,by simp only[execOp,ho];exact a8 Z,.cB _ _ _ _ _ h1.1 h2.1 h1.2 h2.2⟩
  | call c=>
    obtain⟨callee,args,a0⟩:=c;rw[ho]at h;cases callee with
    | builtin b=>
      cases b with
      | len=>
        simp only[ji]at h;split at h
        · rename_i x t v1 o2
          have b0:args= #[x]:=by cases args;simp_all
          have o1:a0= #[t]:=by cases a0;simp_all
          subst b0 o1;have A:=aO B x;have p0: ∀v,(Builtin.len_ #[t] o.type #[a.eval x]).run P w= .ok v w->(execOp a.eval o).run P w= .ok (.value v) w:=by
            intro v J;simp only[execOp,ho,resolve];simp[invoke,builtin,J]
          split at h
          · rename_i u sz i0 z _ I
            have hu:P.underlying t=io (.slice u):=(D t _ I).2.1.1;split at h
            · rename_i g0 n el Y
              rw[Y]at A;simp only[xu,W3,Xe]at h;obtain⟨rfl,rfl⟩:=h;refine⟨.int .i64 n,p0 _ ?_,.iv _ _ (.v _)⟩;generalize a.eval x=v at A;cases A with
              |iv _ _ hi=>cases hi<;>simp[Builtin.len_,run_underlying hu,goInt]
            · rename_i i o0 len g0 Y
              rw[Y]at A;simp only[xu,W3,Xe]at h;obtain⟨rfl,rfl⟩:=h;refine⟨.int .i64 len,p0 _ ?_,.iv _ _ (.v _)⟩;generalize a.eval x=v at A;cases A<;>(simp[Builtin.len_,run_underlying hu,goInt];done)
            · rename_i Y
              rw[Y]at A;simp only[xu,W3,Xe]at h;obtain⟨rfl,rfl⟩:=h;refine⟨.int .i64 0,p0 _ ?_,.iv _ _ (.v _)⟩;generalize a.eval x=v at A;cases A with
              |iv _ _ hi=>cases hi;simp[Builtin.len_,run_underlying hu,goInt]
            · cases h
          · rename_i sz i0 z _ I
            have hu:P.underlying t=io .string:=(D t _ I).2.1.1;split at h
            · rename_i b Y
              rw[Y]at A;simp only[xu,W3,Xe]at h;obtain⟨rfl,rfl⟩:=h;refine⟨.int .i64 b.size,p0 _ ?_,.iv _ _ (.v _)⟩;generalize a.eval x=v at A;cases A with
              |iv _ _ hi=>cases hi;simp[Builtin.len_,run_underlying hu,goInt]
            · cases h
          · rename_i kt et sz i0 z _ I
            have hu:P.underlying t=io (.map kt et):=(D t _ I).2.1.1;have s0: ∀{r:Nat} {ents:Array MapEntry} {clock n:Nat},w.heap[r]? =io (.map ents clock)->ents.size=n->(Builtin.len_ #[t] o.type #[.map (io r)]).run P w= .ok (.int .i64 n) w:=by
              intro r ents clock n h1 h2;simp[Builtin.len_,run_underlying hu,goInt,getObj,Sem.run,h1,h2,Result.andThen]
            split at h
            · rename_i V f1 i1 z' t1 m' Y
              rw[Y]at A;simp only[W3,Xe]at h;obtain⟨rfl,rfl⟩:=h;refine⟨.int .i64 m'.length,p0 _ ?_,.iv _ _ (.v _)⟩;generalize a.eval x=v at A;cases A with
              | iv _ _ hi=>cases hi with
                |fa _ _ _ _ _ b ents clock hb hs=>exact s0 (e0.dK _ _ hb) hs
            · rename_i j Y
              rw[Y]at A;split at h
              · rename_i V f1 i1 z' t1 w1 m' hg
                simp only[W3,Xe]at h;obtain⟨rfl,rfl⟩:=h;refine⟨.int .i64 m'.length,p0 _ ?_,.iv _ _ (.v _)⟩;obtain⟨ents,clock,h1,h2,h3⟩:=e0.obj _ _ hg;generalize a.eval x=v at A;cases A with
                |mp=>exact s0 h1 h2.size
              · cases h
            · cases h
          · cases h
        · cases h
      | max=>
        simp only[ji]at h;split at h
        · rename_i x y v1
          have b0:args= #[x,y]:=by cases args;simp_all
          subst b0;split at h
          · rename_i k n j m hn hm
            simp only[W3,Xe]at h;obtain⟨rfl,rfl⟩:=h;have h1:=aO B x;have h2:=aO B y;rw[hn]at h1;rw[hm]at h2;have e1:a.eval x= .int k n:=by
              generalize a.eval x=v at h1;cases h1 with
              | iv _ _ hi=>cases hi with
                |v=>rfl
            have e2:a.eval y= .int j m:=by
              generalize a.eval y=v at h2;cases h2 with
              | iv _ _ hi=>cases hi with
                |v=>rfl
            have e3:(if m>n then m else n)=max n m:=by split<;>omega
            refine⟨.int k (max n m),?_,.iv _ _ (.v _)⟩;simp only[execOp,ho,resolve];simp[invoke,builtin,Builtin.max_,Builtin.max2,e1,e2,<-e3]
          · cases h
        · cases h
      | min=>
        simp only[ji]at h;split at h
        · rename_i x y v1
          have b0:args= #[x,y]:=by cases args;simp_all
          subst b0;split at h
          · rename_i k n j m hn hm
            simp only[W3,Xe]at h;obtain⟨rfl,rfl⟩:=h;have h1:=aO B x;have h2:=aO B y;rw[hn]at h1;rw[hm]at h2;have e1:a.eval x= .int k n:=by
              generalize a.eval x=v at h1;cases h1 with
              | iv _ _ hi=>cases hi with
                |v=>rfl
            have e2:a.eval y= .int j m:=by
              generalize a.eval y=v at h2;cases h2 with
              | iv _ _ hi=>cases hi with
                |v=>rfl
            have e3:(if m<n then m else n)=min n m:=by split<;>omega
            refine⟨.int k (min n m),?_,.iv _ _ (.v _)⟩;simp only[execOp,ho,resolve];simp[invoke,builtin,Builtin.min_,Builtin.min2,e1,e2,<-e3]
          · cases h
        · cases h
      |_=>simp[ji]at h
    |_=>simp[ji]at h
  | lookup t x i ok=>
    rw[ho]at h;simp only[ji]at h;have A:=aO B x;have hi:=aO B i;split at h
    · rename_i V f1 i1 z' t1 m' Y
      rw[Y]at A;generalize J:a.eval x=v at A;cases A with
      | iv _ _ hxi=>cases hxi with
        | fa _ _ _ _ _ b ents clock hb hs m0 hv' hz j0 hc=>
          obtain⟨_,y,h1,h2⟩:=B4 (P:=P) D h (e0.dK _ _ hb) ⟨hs,m0,hv',j0,hc⟩ hz hi;exact⟨y,by simp only[execOp,ho,J];exact a8 h1,h2⟩
    · rename_i j Y
      rw[Y]at A;split at h
      · rename_i V f1 i1 z' t1 w1 m' hg
        obtain⟨ents,clock,h1,h2,h3⟩:=e0.obj _ _ hg;generalize J:a.eval x=v at A;cases A with
        | mp=>
          obtain⟨_,y,g1,g2⟩:=B4 (P:=P) D h h1 h2 h3 hi;exact⟨y,by simp only[execOp,ho,J];exact a8 g1,g2⟩
      · cases h
    · cases h
  | entry it=>
    rw[ho]at h;simp only[ji]at h;have A:=aO B it;split at h
    · rename_i i Y
      rw[Y]at A;split at h
      · rename_i V f1 i1 m' vs x' hg
        simp only[W3,Xe]at h;obtain⟨rfl,rfl⟩:=h;obtain⟨b,ents,clock,r1,h1,h2,h3,h4,h5,h6,h7⟩:=(e0.obj _ _ hg).resolve_left fun hh=>nomatch hh.2.2.1;obtain⟨j,r,rfl,h8⟩:=h7 x' Z;generalize J:a.eval it=v at A
        cases A with
        | ptr=>
          have hj:j<ents.size:=by rw[h3.size];exact(W4.1 h8).1
          have b2:ents.getD j co=ents[j]:=by simp[WZ,hj]
          have b1:r1=(r.reverse.map fun j=>(ents.getD j co).born).toArray.push (ents[j]).born:=by
            apply Z7.1;rw[h4];simp[hj]
          rw[b1]at h1;have i2:(ents.toList.map (·.born)).Nodup:=by
            rw[List.nodup_iff_pairwise_ne,Yl];intro p q hp hq n2 I;simp at hp hq I;have:=h3.inj p q ents[p] ents[q] (by simp[hp]) (by simp[hq]) I;omega
          have n1:=run_entry_at (P:=P) w (N.aA i) b clock _ ents clock ents[j] h1 (e0.dK _ _ h2) (by simp) i2;refine⟨_,by simp only[execOp,ho,J];exact a8 n1,.a7 _ _ Z fun q p hp=>?_⟩;have t0:=h3.key j _ h8;have d1:=h3.val j _ h8;rw[b2]at t0 d1
          match q with
          |0=>simp at hp;subst hp;simp only[WZ];simp;rw[t0];exact yc f1 _
          |1=>simp at hp;subst hp;exact x7 d1
          |q+2=>simp at hp
      · cases h
    · cases h
  |_=>rw[ho]at h;simp[ji]at h
end
abbrev AQ:=Exit->AS->Prop
def od(nt:NT)(M:Mem)(N:Nm)(s:AS)(w:World)(Q:AQ):Exit->Act->World->Prop:=fun e y x=>
 ∃j u s',Ext M N (· <s.nx) s.h w j u (· <s'.nx) s'.h x∧Fits j u s' nt y x∧Q e s'
theorem od.later{nt:NT}{M j:Mem}{N u:Nm}{s s':AS}{w y:World}{Q:AQ}{e:Exit}{a:Act}{A:World}
  (x:Ext M N (· <s.nx) s.h w j u (· <s'.nx) s'.h y) (h:od nt j u s' y Q e a A):od nt M N s w Q e a A:=by
 obtain⟨B,D,J,h1,G,I⟩:=h;exact⟨B,D,J,x.trans h1,G,I⟩
theorem od.now{nt:NT}{M:Mem}{N:Nm}{s:AS}{w:World}{Q:AQ}{e:Exit}{a:Act}(hf:Fits M N s nt a w)(h:Q e s):od nt M N s w Q e a w:=
 ⟨M,N,s,.refl _ _ _ _ _,hf,h⟩
def AW(P:Program)(nt:NT)(c:Code)(Q:AQ)(s:AS):Prop:= ∀M N a w,Fits M N s nt a w->c.wp P (od nt M N s w Q) a w
def AL(P:Program)(nt:NT)(all rest:List Oper)(Q:AQ)(s:AS):Prop:= ∀M N a w,Fits M N s nt a w->wpList P all.toArray (od nt M N s w Q) rest a w
def SL(P:Program)(nt:NT)(all rest:List Oper)(Q:AQ)(s:AS):Prop:= ∀M N a w,Fits M N s nt a w->
 wpStill P all.toArray w (fun j=> ∃s',s'.h=s.h∧s'.nx=s.nx∧Fits M N s' nt j w∧Q .normal s') rest a
def waits(o:Oper)(i:Nat):Bool:=o.after.toList.any fun e=>Region.binds .any e&&Xv e.on i
def looks(all:List Oper)(o x:Oper):Bool:=match x.dst with
 |some d=>(o.looksAt all.toArray).contains d
 |none=>kw
def jc:Nat->List Oper->Bool
 |_,[]=>jp
 |n,o::r=>(o.after.toList.all fun e=>!Region.binds .any e||Xx e.on n)&&jc (n+1) r
structure Bs where
 M:Mem
 N:Nm
 n:Nat
 h:AH
 w:World
def Bs.ext(B:Bs)(M:Mem)(N:Nm)(s:AS)(w:World):Prop:=Ext B.M B.N (· <B.n) B.h B.w M N (· <s.nx) s.h w
def QH(nt:NT)(B:Bs)(Q:AQ):Exit->Act->World->Prop:=fun e y x=> ∃j u s',B.ext j u s' x∧Fits j u s' nt y x∧Q e s'
def aV(o:Oper):Bool:=match o.op with
 | .alloc _=>jp
 |_=>kw
def qs(P:Program)(M:Mem)(N:Nm)(s:AS)(B:Bs)(a:Act)(w:World)(o:Oper)(aA:Nat):Prop:=
 ∃t v d,o.op= .alloc t∧(∀w,(zeroValue t).run P w= .ok v w)∧o.dst=io d∧a.tmps[d]? =io (.pointer (io ⟨aA,0,is⟩))∧w.heap[aA]? =io (.cells v.cells t (0,0))∧M aA=is∧
  (∀i o,s.h.get i=io o->o.real=jp->N.aA i≠aA)∧B.w.heap.size<=aA
structure nY (P:Program) (nt:NT) (all:List Oper) (todo pend:List (Nat×Oper)) (B:Bs) (M:Mem) (N:Nm) (s:AS) (listed:Array Bool) (a:Act) (w:World):Prop where
 size:listed.size=all.length
 tl: ∀x∈todo,all[x.1]? =io x.2
 pl: ∀x∈pend,all[x.1]? =io x.2
 dj: ∀x∈pend,∀y∈todo,y.1≠x.1
 N7: ∀i o,all[i]? =io o->listed.getD i jp=kw->(i,o)∈todo∨(i,o)∈pend
 pw:pend.Pairwise fun x y=>looks all y.2 x.2=kw∧ ∀d,x.2.dst=io d->y.2.dst≠io d
 pp: ∀x∈pend,∀y∈pend,waits y.2 x.1=jp∨looks all y.2 x.2=kw
 pa: ∀y∈pend,∀x∈todo,aV x.2=jp->waits y.2 x.1=kw
 er: ∃bl:Nat->Nat,(∀x∈todo,listed.getD x.1 jp=jp->qs P M N s B a w x.2 (bl x.1))∧ ∀x∈todo,∀y∈todo,listed.getD x.1 jp=jp->listed.getD y.1 jp=jp->x.1≠y.1->bl x.1≠bl y.1
 ap: ∃b:Act,Fits M N s nt b w∧a.tmps.size=b.tmps.size∧a.defers=b.defers∧
  (∀d,(∀x∈pend,listed.getD x.1 jp=kw->x.2.dst≠io d)->(∀x∈todo,listed.getD x.1 jp=jp->x.2.dst≠io d)->a.tmps[d]? =b.tmps[d]?)∧
  (∀x∈pend,listed.getD x.1 jp=kw-> ∃v,YieldsAt P all.toArray w x.2 v b∧b.put x.2.dst v=b)
def jX(P:Program)(nt:NT)(all:List Oper):Prop:= ∀i o,all[i]? =io o->aV o=jp->
 o.guard=is∧(∃d,o.dst=io d∧d<nt)∧(∃t v,o.op= .alloc t∧ ∀w,(zeroValue t).run P w= .ok v w)∧(∀k,waits o k=kw)∧
 ∀k q,all[k]? =io q->k≠i->(waits q i=jp∨looks all q o=kw)∧ ∀d,o.dst=io d->q.dst≠io d
def DL(P:Program)(nt:NT)(all:List Oper)(todo pend:List (Nat×Oper))(Q:AQ)(s:AS):Prop:=
 Region.noSelect all.toArray=jp->jc 0 all=jp->jX P nt all-> ∀B M N listed a w j,B.ext M N s w->nY P nt all todo pend B M N s listed a w->listed.toList.count kw<=j->wpAny P .any all.toArray (QH nt B Q) j listed a w
def putDst(nt:NT)(o:Oper)(p:PV)(s:AS):Option AS:=
 match o.dst with
 |none=>io s
 |some d=>bif Xx d nt then(match s with|⟨f,h,n⟩=>wv p fun j=>io ⟨(d,j)::f,h,n⟩) else is
theorem dR{nt:NT}{o:Oper}{p:PV}{s s':AS}(h:putDst nt o p s=io s')(hd:o.dst=is):s'=s:=by
 simp only[putDst,hd,W3]at h;exact h.symm
theorem dQ{nt:NT}{o:Oper}{p:PV}{s s':AS}(h:putDst nt o p s=io s'){d:Nat}(hd:o.dst=io d):d<nt∧s'={s with f:=(d,p)::s.f}:=by
 simp only[putDst,hd]at h;cases hb:Xx d nt with
 |false=>simp[hb]at h
 |true=>
  obtain⟨f,hh,n⟩:=s;simp only[hb,cond_true,dL,W3]at h;exact⟨WY hb,h.symm⟩
def fm(P:Program)(nt:NT)(all:List Oper)(s:AS)(o:Oper):Prop:=
 ∀M N b w,Fits M N s nt b w-> ∃v,YieldsAt P all.toArray w o v b∧Fits M N s nt (b.put o.dst v) w
def ba(pend:List (Nat×Oper))(o:Oper):List (Nat×Oper):=pend.filter fun x=>!waits o x.1
def UA(P:Program)(nt:NT)(b:Code)(Q:AQ):Nat->AS->Prop
 |0,_=>False
 |n+1,s=>AW P nt b (fun e s'=>match e with| .normal=>UA P nt b Q n s'|e=>Q e s') s
inductive KI where
 |code (c:Code)
 |aA (id:Nat)
 |ops (all rest:List Oper)
 |lp (R:AS->Prop)
 |ur (all rest:List Oper)
 |bS (all:List Oper) (todo pend:List (Nat×Oper))
 |F1 (b:Code) (n:Nat)
 |Hv
 |NU (nt:NT) (f:AF) (res:AS->Option PV) (o:Oper) (all rest:List Oper)
 |NV (nt:NT) (f:AF) (res:AS->Option PV) (j:Nat) (o:Oper) (all:List Oper) (todo pend:List (Nat×Oper))
def kp(P:Program):NT->List KI->AQ->AQ
 |_,[],Q=>Q
 |nt,.code c::k,Q=>fun e s=>match e with| .normal=>AW P nt c (kp P nt k Q) s|e=>kp P nt k Q e s
 |nt,.ops all rest::k,Q=>fun e s=>match e with| .normal=>AL P nt all rest (kp P nt k Q) s|e=>kp P nt k Q e s
 |nt,.ur all rest::k,Q=>fun e s=>match e with| .normal=>SL P nt all rest (kp P nt k Q) s|e=>kp P nt k Q e s
 |nt,.bS all todo pend::k,Q=>fun e s=>match e with| .normal=>DL P nt all todo pend (kp P nt k Q) s|e=>kp P nt k Q e s
 |nt,.lp R::k,Q=>fun e s=>match e with| .normal=>R s|e=>kp P nt k Q e s
 |nt,.aA id::k,Q=>fun e s=>match e with| .exit j=>if j=id then kp P nt k Q .normal s else kp P nt k Q (.exit j) s|e=>kp P nt k Q e s
 |nt,.F1 b n::k,Q=>fun e s=>match e with| .normal=>UA P nt b (kp P nt k Q) n s|e=>kp P nt k Q e s
 |nt,.Hv::k,Q=>fun e s=>match e with| .goto _=>False|e=>kp P nt k Q e s
 |_,.NU nt f res o all rest::k,Q=>fun e s=>(e= .normal∨e= .ret)∧ ∃r s',res s=io r∧putDst nt o r ⟨f,s.h,s.nx⟩=io s'∧AL P nt all rest (kp P nt k Q) s'
 | _,.NV nt f res j o all todo pend::k,Q=>fun e s=>(e= .normal∨e= .ret)∧ ∃r s',res s=io r∧putDst nt o r ⟨f,s.h,s.nx⟩=io s'∧
   (∀x∈ba pend o,fm P nt all s' x.2)∧DL P nt all (todo.filter fun x=>!Xv x.1 j) (ba pend o) (kp P nt k Q) s'
def GO(P:Program)(nt:NT)(k:List KI)(Q:AQ)(s:AS):Prop:=kp P nt k Q .normal s
section
variable {P:Program} {nt:NT} {Q:AQ} {k:List KI} {s:AS}
theorem AW.then{c:Code}{R:AQ}(h:AW P nt c R s){M:Mem}{N:Nm}{a:Act}{w:World}(hf:Fits M N s nt a w){Z:Exit->Act->World->Prop}
  (A: ∀e y j u x s',Ext M N (· <s.nx) s.h w u x (· <s'.nx) s'.h j->Fits u x s' nt y j->R e s'->Z e y j):c.wp P Z a w:=
 wp_mono (h M N a w hf) fun e y j ⟨u,x,s',h1,h2,h3⟩=>A e y j u x s' h1 h2 h3
theorem go_skip(h:GO P nt k Q s):GO P nt (.code .skip::k) Q s:=fun _ _ _ _ hf=>wp_skip (.now hf h)
theorem Jw{l:Nat}(h:GO P nt k Q s):GO P nt (.code (.label l)::k) Q s:=fun _ _ _ _ hf=>wp_label (.now hf h)
theorem go_ret(h:kp P nt k Q .ret s):GO P nt (.code .ret::k) Q s:=fun _ _ _ _ hf=>wp_ret (.now hf h)
theorem NK{id:Nat}(h:kp P nt k Q (.exit id) s):GO P nt (.code (.exit id)::k) Q s:=fun _ _ _ _ hf=>wp_exit (.now hf h)
theorem Jt{c:Code}(h:GO P nt (.code c:: .Hv::k) Q s):GO P nt (.code (.scope c)::k) Q s:=by
 intro M N a w hf;refine wp_scope_straight (AW.then h hf fun e A B u x s' y j hr=>?_);cases e with
 |goto l=>exact hr
 |_=>exact⟨u,x,s',y,j,hr⟩
theorem SJ{id:Nat}(h:GO P nt k Q s):GO P nt (.aA id::k) Q s:=h
theorem SG{x y:Code}(h:GO P nt (.code x:: .code y::k) Q s):GO P nt (.code (.seq x y)::k) Q s:=by
 intro M N a w hf;refine wp_seq (AW.then h hf fun e a' w' G J s' D j hr=>?_);cases e with
 |normal=>exact AW.then hr j fun e a2 w2 I Y s2 B u A=>⟨I,Y,s2,D.trans B,u,A⟩
 |_=>exact⟨G,J,s',D,j,hr⟩
theorem JC{id:Nat}{x:Code}(h:GO P nt (.code x:: .aA id::k) Q s):GO P nt (.code (.block id x)::k) Q s:=by
 intro M N a w hf;refine wp_block (AW.then h hf fun e G I y A s' D u hr=>?_);cases e with
 |exit j=>
  simp only[kp]at hr;simp only[Exit.inBlock];split
  .rename_i B;rw[am B]at hr;exact⟨y,A,s',D,u,hr⟩
  .rename_i B;rw[be B]at hr;exact⟨y,A,s',D,u,hr⟩
 |_=>exact⟨y,A,s',D,u,hr⟩
theorem go_region{id:Nat}{ops:Array Oper}(h:GO P nt (.ops ops.toList ops.toList::k) Q s):GO P nt (.code (.region id ops kw)::k) Q s:=by
 intro M N a w hf;refine wp_region_list ?_;have:=h M N a w hf;simpa using this
theorem D0{all:List Oper}(h:GO P nt k Q s):GO P nt (.ops all []::k) Q s:=fun _ _ _ _ hf=>wpList_nil (od.now hf h)
theorem Fits.bool{M:Mem}{N:Nm}{a:Act}{w:World}(hf:Fits M N s nt a w){c:Operand}{t:Bool}(hc:ev s.f c= .iv (.v (.bool t))):a.eval c= .bool t:=by
 have h:=aO hf.2.1 c;rw[hc]at h;generalize a.eval c=v at h;cases h with
 |iv _ _ h=>cases h with
  |v=>rfl
theorem Fits.put{M:Mem}{N:Nm}{a:Act}{w:World}(hf:Fits M N s nt a w)(d:Nat)(p:PV)(x:Value)(hd:d<nt)(hp:VR M N (· <s.nx) p x):Fits M N {s with f:=(d,p)::s.f} nt (a.put (io d) x) w:=
 ⟨hf.1,hf.2.1.put d p x (by rw[hf.2.2.2];exact hd) hp,hf.2.2.1,by simp[Act.put,hf.2.2.2]⟩
def setBool(s:AS)(c:Operand)(t:Bool):AS:=
 match c with
 | .tmp d=>match s with
  |⟨f,h,n⟩=>⟨(d,.kb t)::f,h,n⟩
 |_=>s
theorem Fits.setBool{M:Mem}{N:Nm}{a:Act}{w:World}(hf:Fits M N s nt a w){c:Operand}{t:Bool}(hc:ev s.f c= .iv (.v (.bool t))):Fits M N (setBool s c t) nt a w:=by
 cases c with
 |tmp d=>
  refine⟨hf.1,fun j=>?_,hf.2.2⟩;simp only[Al.setBool,AF.ay];split
  .rename_i u;subst u;have:=hf.bool (c:= .tmp j) hc;simp only[Act.eval]at this;rw[this];exact .kb _
  .exact hf.2.1 j
 |_=>exact hf
theorem wo{c:Operand}{x y:Code}{t:Bool}(hc:ev s.f c= .kb t)(h:GO P nt (.code (bif t then x else y)::k) Q s):GO P nt (.code (.cond c x y)::k) Q s:=by
 intro M N a w hf;have hb:a.eval c= .bool t:=by
  have:=aO hf.2.1 c;rw[hc]at this;generalize a.eval c=v at this;cases this;rfl
 refine wp_cond hb ?_;cases t
 .exact h M N a w hf
 .exact h M N a w hf
theorem NO{c:Operand}{x y:Code}{t:Bool}(hc:ev s.f c= .iv (.v (.bool t)))(h1:t=jp->GO P nt (.code x::k) Q (setBool s c jp))(J:t=kw->GO P nt (.code y::k) Q (setBool s c kw)):
  GO P nt (.code (.cond c x y)::k) Q s:=by
 intro M N a w hf;have B:=hf.setBool hc;refine wp_cond_split (hf.bool hc) (fun ht=>?_) (fun ht=>?_)
 .subst ht;exact AW.then (h1 Z) B fun e a2 Y D G I A j u=>⟨D,G,I,by cases c<;>exact A,j,u⟩
 .subst ht;exact AW.then (J Z) B fun e a2 Y D G I A j u=>⟨D,G,I,by cases c<;>exact A,j,u⟩
theorem rX{Q j:Exit->Act->World->Prop}(u: ∀e a w,Q e a w->j e a w)(h:LetsOut Q):LetsOut j:=let ⟨a,w,x⟩:=h;⟨a,w,u _ _ _ x⟩
theorem BS{o:Oper}{a:Act}{w:World}{K K':Act->World->Prop}{Q y:Exit->Act->World->Prop}(h: ∀a w,K a w->K' a w)(u: ∀e a w,Q e a w->y e a w)(hh:o.wp P a w K Q):o.wp P a w K' y:=by
 unfold Oper.wp at*
 generalize(execOp a.eval o).run P w=r at*
 cases r with
 |ok n w'=>
  cases n<;>simp only[Oper.upon]at hh ⊢ <;>
   first
    |exact h _ _ hh
    |exact Calls.mono hh (fun e A j=>by cases e<;>first|exact h _ _ j|exact rX u j|exact u _ _ _ j)
    |exact Rows.mono hh (fun _ _ j=>h _ _ j)
 |halt x w'=>cases x<;>simp only[Oper.upon]at hh ⊢ <;>exact u _ _ _ hh
theorem fT{ops:Array Oper}{Q x:Exit->Act->World->Prop}(j: ∀e a w,Q e a w->x e a w): ∀(l:List Oper) (a:Act) (w:World),wpList P ops Q l a w->wpList P ops x l a w
 | [],_,_,h=>j _ _ _ h
 |o::r,a,w,h=>by
  unfold wpList at*
  split
  .rename_i u;rw[am u]at h;exact h.imp (BS (fT j r) j) (fun⟨h1,h2⟩=>⟨h1,rX j h2⟩)
  .rename_i u;rw[be u]at h;exact fT j r _ _ h
theorem AL.later{all rest:List Oper}(h:AL P nt all rest Q s){M j:Mem}{N u:Nm}{s0:AS}{a:Act}{w y:World}(x:Ext j u (· <s0.nx) s0.h y M N (· <s.nx) s.h w)(hf:Fits M N s nt a w):
  wpList P all.toArray (od nt j u s0 y Q) rest a w:=
 fT (fun _ _ _=>od.later x) rest a w (h M N a w hf)
def OT(P:Program)(nt:NT)(o:Oper)(s:AS)(R:AS->Prop):Prop:=
 ∀M N a w,Fits M N s nt a w-> ∀(K:Act->World->Prop) (Q:Exit->Act->World->Prop),
  (∀u x s' y j,Ext M N (· <s.nx) s.h w u x (· <s'.nx) s'.h j->Fits u x s' nt y j->R s'->K y j)->o.wp P a w K Q
theorem fU{o:Oper}(h:o.guard=is)(y:Nat->Option Bool):Region.wanted o y=jp:=by simp[Region.wanted,h]
theorem bB{all rest:List Oper}{o:Oper}{R:AS->Prop}(hg:o.guard=is)(ho:OT P nt o s R)(h: ∀s',R s'->GO P nt (.ops all rest::k) Q s'):GO P nt (.ops all (o::rest)::k) Q s:=by
 intro M N a w hf;unfold wpList;rw[am (fU hg _)];refine .inl (ho M N a w hf _ _ fun x y s' A B u j hr=>?_);exact AL.later (h s' hr) u j
def guardOf(all:List Oper)(f:AF)(j:Nat):Option (Nat×PV):=
 match all[j]? with
 |some o=>match o.dst with
  |some d=>io (d,f.get d)
  |none=>is
 |none=>is
theorem Fits.yielded{M:Mem}{N:Nm}{a:Act}{w:World}(hf:Fits M N s nt a w){all:List Oper}{j d:Nat}{t:Bool}(hg:guardOf all s.f j=io (d,.iv (.v (.bool t))))(hd:d<nt):Go.yielded all.toArray a.tmps j=io t:=by
 unfold guardOf at hg;cases ho:all[j]? with
 |none=>simp[ho]at hg
 |some o=>
  cases hod:o.dst with
  |none=>simp[ho,hod]at hg
  |some d'=>
   simp only[ho,hod,W3,Xe]at hg;obtain⟨rfl,B⟩:=hg;have h1:=hf.2.1 d';rw[B]at h1;have u:d'<a.tmps.size:=by rw[hf.2.2.2];exact hd
   have x:a.tmps[d']? =io (a.tmps.getD d' undef):=by simp[WZ,u]
   have y:a.tmps.getD d' undef= .bool t:=by
    generalize a.tmps.getD d' undef=v at h1;cases h1 with
    |iv _ _ h=>cases h with
     |v=>rfl
   have A:all.toArray[j]? =io o:=by simpa using ho
   simp[Go.yielded,A,hod,x,y]
def ik(o:Oper)(s:AS):AS:=
 match o.dst with
 |some e=>match s with
  |⟨f,h,n⟩=>⟨(e,.iv (.v (.tuple #[])))::f,h,n⟩
 |none=>s
theorem Fits.skip{M:Mem}{N:Nm}{a:Act}{w:World}(hf:Fits M N s nt a w)(o:Oper):Fits M N (ik o s) nt (a.put o.dst undef) w:=by
 unfold ik;cases o.dst with
 |none=>exact hf
 |some e=>
  refine⟨hf.1,fun i=>?_,hf.2.2.1,by simp[Act.put,hf.2.2.2]⟩;simp only[AF.ay];by_cases hi:i=e
  .rw[am hi];subst hi;have:(a.put (io i) undef).tmps.getD i undef=undef:=by
    simp only[Act.put,WZ,XD,if_true];split<;>rfl
   rw[this];exact .iv _ _ (.v _)
  .rw[be hi];have:=hf.2.1 i;simp only[Act.put,WZ,XD]at this ⊢;rw[be (fun e=>hi e.symm)];exact this
theorem jB(o:Oper)(s:AS):(ik o s).h=s.h∧(ik o s).nx=s.nx:=by unfold ik;cases o.dst<;>exact⟨rfl,rfl⟩
theorem kj(c:Operand)(t:Bool)(s:AS):(setBool s c t).h=s.h∧(setBool s c t).nx=s.nx:=by cases c<;>exact⟨rfl,rfl⟩
theorem AL.same{all rest:List Oper}{s':AS}(h:AL P nt all rest Q s')(e:s'.h=s.h∧s'.nx=s.nx){M:Mem}{N:Nm}{a:Act}{w:World}(hf:Fits M N s' nt a w):
  wpList P all.toArray (od nt M N s w Q) rest a w:=by
 have:=h M N a w hf;refine fT (fun u j x ⟨M2,N2,s2,h1,h2,h3⟩=>⟨M2,N2,s2,?_,h2,h3⟩) rest a w this;rw[e.1,e.2]at h1;exact h1
theorem Fits.u4{M:Mem}{N:Nm}{a:Act}{w:World}(hf:Fits M N s nt a w){all:List Oper}{j d:Nat}{t:Bool}(hg:guardOf all s.f j=io (d,.kb t))(hd:d<nt):Go.yielded all.toArray a.tmps j=io t:=by
 unfold guardOf at hg;cases ho:all[j]? with
 |none=>simp[ho]at hg
 |some o=>
  cases hod:o.dst with
  |none=>simp[ho,hod]at hg
  |some d'=>
   simp only[ho,hod,W3,Xe]at hg;obtain⟨rfl,B⟩:=hg;have h1:=hf.2.1 d';rw[B]at h1;have u:d'<a.tmps.size:=by rw[hf.2.2.2];exact hd
   have x:a.tmps[d']? =io (a.tmps.getD d' undef):=by simp[WZ,u]
   have y:a.tmps.getD d' undef= .bool t:=by
    generalize a.tmps.getD d' undef=v at h1;cases h1;rfl
   have A:all.toArray[j]? =io o:=by simpa using ho
   simp[Go.yielded,A,hod,x,y]
theorem Fits.u3{M:Mem}{N:Nm}{a:Act}{w:World}(hf:Fits M N s nt a w){all:List Oper}{j d:Nat}{vs:Array Value}(hg:guardOf all s.f j=io (d,.iv (.v (.tuple vs)))):Go.yielded all.toArray a.tmps j=is:=by
 unfold guardOf at hg;cases ho:all[j]? with
 |none=>simp[ho]at hg
 |some o=>
  cases hod:o.dst with
  |none=>simp[ho,hod]at hg
  |some d'=>
   simp only[ho,hod,W3,Xe]at hg;obtain⟨rfl,y⟩:=hg;have h1:=hf.2.1 d';rw[y]at h1;have u:a.tmps.getD d' undef= .tuple vs:=by
    generalize a.tmps.getD d' undef=v at h1;cases h1 with
    |iv _ _ h=>cases h with
     |v=>rfl
   have x:all.toArray[j]? =io o:=by simpa using ho
   rw[WZ]at u;cases h5:a.tmps[d']? with
   |none=>simp[Go.yielded,x,hod,h5]
   |some v=>
    rw[h5]at u;simp only[X9]at u;subst u;simp[Go.yielded,x,hod,h5]
theorem Cl{all rest:List Oper}{o:Oper}{j d:Nat}{u:Bool}{vs:Array Value}(hg:o.guard=io (j,u))(A:guardOf all s.f j=io (d,.iv (.v (.tuple vs))))(h:GO P nt (.ops all rest::k) Q (ik o s)):GO P nt (.ops all (o::rest)::k) Q s:=by
 intro M N a w hf;have x:=hf.u3 A;unfold wpList;have y:Region.wanted o (Go.yielded all.toArray a.tmps)=kw:=by simp[Region.wanted,hg,x]
 rw[y,be (by simp)];exact AL.same (s:=s) h (jB _ _) (hf.skip o)
theorem Cm{all rest:List Oper}{o:Oper}{j d:Nat}{u t:Bool}(hg:o.guard=io (j,u))(A:guardOf all s.f j=io (d,.kb t))(hd:d<nt)
  (h:GO P nt (.ops all (bif t==u then{o with guard:=is}::rest else rest)::k) Q (bif t==u then s else ik o s)):GO P nt (.ops all (o::rest)::k) Q s:=by
 intro M N a w hf;have x:=hf.u4 A hd;unfold wpList;by_cases ht:t=u
 .have y:Region.wanted o (Go.yielded all.toArray a.tmps)=jp:=by simp[Region.wanted,hg,x,ht]
  have hb:(t==u)=jp:=by simp[ht]
  rw[am y];rw[hb]at h;have:=h M N a w hf;simp only[cond_true]at this;unfold wpList at this;rw[am (fU Z _)]at this;exact this
 .have y:Region.wanted o (Go.yielded all.toArray a.tmps)=kw:=by simp[Region.wanted,hg,x,ht]
  have hb:(t==u)=kw:=by simp[ht]
  rw[y,be (by simp)];rw[hb]at h;exact AL.same (s:=s) h (jB _ _) (hf.skip o)
theorem Jx{all rest:List Oper}{o:Oper}{j d:Nat}{u t:Bool}(hg:o.guard=io (j,u))(y:guardOf all s.f j=io (d,.iv (.v (.bool t))))(hd:d<nt)
  (h1:t=u->GO P nt (.ops all ({o with guard:=is}::rest)::k) Q (setBool s (.tmp d) u)) (I:t=!u->GO P nt (.ops all rest::k) Q (ik o (setBool s (.tmp d) (!u)))):
  GO P nt (.ops all (o::rest)::k) Q s:=by
 intro M N a w hf;have B:=hf.yielded y hd;have D:ev s.f (.tmp d)= .iv (.v (.bool t)):=by
  unfold guardOf at y;cases ho:all[j]? with
  |none=>simp[ho]at y
  |some o'=>
   cases hod:o'.dst with
   |none=>simp[ho,hod]at y
   |some d'=>
    simp only[ho,hod,W3,Xe]at y;obtain⟨rfl,J⟩:=y;exact J
 have x:=hf.setBool D;unfold wpList;by_cases ht:t=u
 .have G:Region.wanted o (Go.yielded all.toArray a.tmps)=jp:=by simp[Region.wanted,hg,B,ht]
  rw[am G];rw[ht]at x;have:=AL.same (s:=s) (h1 ht) (kj _ _ _) x;unfold wpList at this;rw[am (fU Z _)]at this;exact this
 .have G:Region.wanted o (Go.yielded all.toArray a.tmps)=kw:=by simp[Region.wanted,hg,B,ht]
  have A:t=!u:=by cases t<;>cases u<;>simp_all
  rw[G,be (by simp)];rw[A]at x;exact AL.same (s:=s) (I A) ⟨(jB _ _).1.trans (kj _ _ _).1,(jB _ _).2.trans (kj _ _ _).2⟩ (x.skip o)
end
section
variable {P:Program} {nt:NT} {Q:AQ} {k:List KI} {s:AS}
theorem Rel.drew{M:Mem}{N:Nm}{U:Nat->Prop}{h:AH}{w:World}(hr:Rel M N U h w):Rel M N U h {w with drawn:=w.drawn+1}:=
 ⟨hr.dK,hr.used,hr.dS,fun i o hi=>(hr.obj i o hi).mono (.refl _) (.refl _ _) (fun _ h=>h) (hr.used i o hi) Z,hr.inj⟩
theorem Fits.drew{M:Mem}{N:Nm}{a:Act}{w:World}(hf:Fits M N s nt a w):Fits M N s nt a {w with drawn:=w.drawn+1}:=⟨hf.1.drew,hf.2⟩
theorem Ext.drew{M:Mem}{N:Nm}{U:Nat->Prop}{h:AH}{w:World}:Ext M N U h w M N U h {w with drawn:=w.drawn+1}:=
 ⟨rfl,rfl,⟨rfl,Yw _⟩,W8 _,fun _ _ _=>rfl,.refl _,fun b c h1 u=>by simp[h1]at u,.refl _ _,fun _ h=>h,fun i o hi j=> .inr ⟨i,o,hi,j,rfl⟩⟩
end
section
variable {P:Program} {M:Mem} {N:Nm} {w:World} {n:Nat} {h:AH}
def Nm.with(N:Nm)(n b e:Nat):Nm:={aA:=fun i=>if i=n then b else N.aA i,ext:=fun i=>if i=n then e else N.ext i}
theorem Nm.dx(N:Nm)(n b e:Nat):N.agree (N.with n b e) (· <n):=
 ⟨fun i hi=>by simp[Nm.with,aab hi],fun i hi=>by simp[Nm.with,aab hi]⟩
@[simp] theorem Nm.HD(N:Nm)(n b e:Nat):(N.with n b e).aA n=b:=by simp[Nm.with]
@[simp] theorem Nm.Tq(N:Nm)(n b e:Nat):(N.with n b e).ext n=e:=by simp[Nm.with]
theorem Rel.lt(hr:Rel M N (· <n) h w){i:Nat}{o:AO}(hi:h.get i=io o)(j:o.real=jp):N.aA i<w.heap.size:=(hr.obj i o hi).lt j
theorem Rel.BV(hr:Rel M N (· <n) h w):M w.heap.size=is:=by
 cases hm:M w.heap.size with
 |none=>rfl
 |some c=>have:=(hr.dK _ _ hm).lt;omega
theorem Rel.alloc(hr:Rel M N (· <n) h w)(obj:Obj)(o:AO)(e:Nat)(ho: ∀B,B.aA n=w.heap.size->B.ext n=e->N.agree B (· <n)->OR M B (· <n+1) (w.alloc obj) n o):
  ∃B,B.aA n=w.heap.size∧B.ext n=e∧N.agree B (· <n)∧Ext M N (· <n) h w M B (· <n+1) ((n,io o)::h) (w.alloc obj)∧Rel M B (· <n+1) ((n,io o)::h) (w.alloc obj):=by
 have D:=N.dx n w.heap.size e;have u: ∀i p,AH.get ((n,io o)::h) i=io p->(i=n∧p=o)∨(i<n∧h.get i=io p):=by
  intro i p hi;rw[AH.ay]at hi;split at hi
  .rename_i G;exact .inl ⟨G,by simpa using hi.symm⟩
  .exact .inr ⟨hr.used i p hi,hi⟩
 refine⟨N.with n w.heap.size e,by simp,by simp,D,?_,?_⟩
 .refine⟨rfl,rfl,⟨rfl,W8 _⟩,by simp,fun b hb _=>AD w obj b hb,.refl _,fun b c h1 A=>by simp[h1]at A,D,fun i hi=>by omega,fun i p hi x=>?_⟩;rcases u i p hi with⟨rfl,rfl⟩|⟨h1,A⟩
  .exact .inl (by simp)
  .exact .inr ⟨i,p,A,x,(D.aA i h1).symm⟩
 .refine⟨fun b c hb=>?_,fun i p hi=>?_,fun i p hi x=>?_,fun i p hi=>?_,fun i j p q hi hj Y hq y=>?_⟩
  .exact(hr.dK b c hb).mono (AD w obj b (hr.dK b c hb).lt)
  .rcases u i p hi with⟨rfl,rfl⟩|⟨h1,A⟩<;>omega
  .rcases u i p hi with⟨rfl,rfl⟩|⟨h1,A⟩
   .simpa using hr.BV
   .rw[D.aA i h1];exact hr.dS i p A x
  .rcases u i p hi with⟨rfl,rfl⟩|⟨h1,A⟩
   .exact ho _ (by simp) (by simp) D
   .cases x:p.real with
    |true=>exact(hr.obj i p A).mono (.refl _) D (fun i hi=>by omega) h1 (AD w obj _ (hr.lt A x))
    |false=>
     cases p with
     |row sz es=>cases es with
      |nil=>exact .inl Z
      |cons=>cases x
     |bz l T=>cases l with
      |nil=>exact .inl Z
      |cons=>cases x
     |_=>cases x
  .rcases u i p hi with⟨rfl,rfl⟩|⟨h1,A⟩<;>rcases u j q hj with⟨rfl,rfl⟩|⟨I,J⟩
   .rfl
   .rw[D.aA j I]at y;simp at y;have:=hr.lt J hq;omega
   .rw[D.aA i h1]at y;simp at y;have:=hr.lt A Y;omega
   .rw[D.aA i h1,D.aA j I]at y;exact hr.inj i j p q A J Y hq y
theorem Rel.C7(hr:Rel M N (· <n) h w)(sz:Nat):Ext M N (· <n) h w M N (· <n+1) ((n,io (.row sz []))::h) w∧Rel M N (· <n+1) ((n,io (.row sz []))::h) w:=by
 have u: ∀i p,AH.get ((n,io (.row sz []))::h) i=io p->(i=n∧p= .row sz [])∨(i<n∧h.get i=io p):=by
  intro i p hi;rw[AH.ay]at hi;split at hi
  .rename_i B;exact .inl ⟨B,by simpa using hi.symm⟩
  .exact .inr ⟨hr.used i p hi,hi⟩
 refine⟨⟨rfl,rfl,⟨rfl,W8 _⟩,W8 _,fun _ _ _=>rfl,.refl _,fun b c h1 y=>by simp[h1]at y,.refl _ _,fun i hi=>by omega,fun i p hi x=>?_⟩,⟨hr.dK,fun i p hi=>?_,fun i p hi x=>?_,fun i p hi=>?_,fun i j p q hi J D G A=>?_⟩⟩
 .rcases u i p hi with⟨rfl,rfl⟩|⟨h1,y⟩
  .cases x
  .exact .inr ⟨i,p,y,x,rfl⟩
 .rcases u i p hi with⟨rfl,rfl⟩|⟨h1,y⟩<;>omega
 .rcases u i p hi with⟨rfl,rfl⟩|⟨h1,y⟩
  .cases x
  .exact hr.dS i p y x
 .rcases u i p hi with⟨rfl,rfl⟩|⟨h1,y⟩
  .exact .inl Z
  .exact(hr.obj i p y).mono (.refl _) (.refl _ _) (fun i hi=>by omega) h1 Z
 .rcases u i p hi with⟨rfl,rfl⟩|⟨h1,y⟩<;>rcases u j q J with⟨rfl,rfl⟩|⟨Y,I⟩
  .rfl
  .cases D
  .cases G
  .exact hr.inj i j p q y I D G A
theorem Rel.write(hr:Rel M N (· <n) h w){i:Nat}{o0:AO}(hi:h.get i=io o0)(h0:o0.real=jp)(B:World)(o:AO)(b0:B.os=w.os)(I:B.tape=w.tape)(J:B.output=w.output)(c0:B.heap.size=w.heap.size)
  (hk: ∀b,b≠N.aA i->B.heap[b]? =w.heap[b]?) (ho:OR M N (· <n) B i o) (hd:w.drawn<=B.drawn:=by first|exact W8 _|exact Yw _):
  Ext M N (· <n) h w M N (· <n) ((i,io o)::h) B∧Rel M N (· <n) ((i,io o)::h) B:=by
 have u: ∀j p,AH.get ((i,io o)::h) j=io p->(j=i∧p=o)∨(j≠i∧h.get j=io p):=by
  intro j p A;rw[AH.ay]at A;split at A
  .rename_i D;exact .inl ⟨D,by simpa using A.symm⟩
  .rename_i D;exact .inr ⟨D,A⟩
 refine⟨⟨b0,I,⟨J,hd⟩,by omega,fun b hb hn=>hk b (fun e=>hn i o0 hi h0 e.symm),.refl _,fun b c h1 y=>by simp[h1]at y,.refl _ _,fun _ h=>h,fun j p A x=>?_⟩,?_⟩
 .rcases u j p A with⟨rfl,rfl⟩|⟨h1,y⟩
  .exact .inr ⟨j,o0,hi,h0,rfl⟩
  .exact .inr ⟨j,p,y,x,rfl⟩
 .refine⟨fun b c hb=>?_,fun j p A=>?_,fun j p A x=>?_,fun j p A=>?_,fun j k p q A Y hp hq G=>?_⟩
  .have a0:b≠N.aA i:=fun e=>by
    have:=hr.dS i o0 hi h0;rw[<-e,hb]at this;simp at this
   exact(hr.dK b c hb).mono (hk b a0)
  .rcases u j p A with⟨rfl,rfl⟩|⟨h1,y⟩
   .exact hr.used j o0 hi
   .exact hr.used j p y
  .rcases u j p A with⟨rfl,rfl⟩|⟨h1,y⟩
   .exact hr.dS j o0 hi h0
   .exact hr.dS j p y x
  .rcases u j p A with⟨rfl,rfl⟩|⟨h1,y⟩
   .exact ho
   .cases x:p.real with
    |true=>exact(hr.obj j p y).mono (.refl _) (.refl _ _) (fun _ h=>h) (hr.used j p y) (hk _ (fun e=>h1 (hr.inj j i p o0 y hi x h0 e)))
    |false=>
     cases p with
     |row sz es=>cases es with
      |nil=>exact .inl Z
      |cons=>cases x
     |bz l T=>cases l with
      |nil=>exact .inl Z
      |cons=>cases x
     |_=>cases x
  .rcases u j p A with⟨rfl,rfl⟩|⟨h1,y⟩<;>rcases u k q Y with⟨rfl,rfl⟩|⟨h3,h4⟩
   .rfl
   .exact hr.inj _ _ _ _ hi h4 h0 hq G
   .exact hr.inj _ _ _ _ y hi hp h0 G
   .exact hr.inj _ _ _ _ y h4 hp hq G
end
def Dc(ty:Ty)(s:AS)(t:TypeId)(p x:PV):Option AS:=
 match ty t with
 |some e=>match x.cells with
  |some xs=>match Xv xs.length e.size,dB xs with
   |true,jp=>match p with
    | .ptr i off=>match s.h.get i with
     |some (.cells cs T0)=>match Y4 (off+xs.length) cs.length with
      |true=>match s with
       |⟨f,h,n⟩=>force (setCells cs off xs) fun j=>io ⟨f,(i,io (.cells j T0))::h,n⟩
      |false=>is
     |_=>is
    |_=>is
   |_,_=>is
  |none=>is
 |none=>is
def newObj(s:AS)(o:AO):AS:=match s with|⟨f,h,n⟩=>⟨f,(n,io o)::h,n+1⟩
def nw(s:AS)(g:Nat->PV)(o:AO):Option (PV×AS):=match s with|⟨f,h,n⟩=>io (g n,⟨f,(n,io o)::h,n+1⟩)
theorem vO(s:AS)(g:Nat->PV)(o:AO):nw s g o=io (g s.nx,newObj s o):=by cases s;rfl
def zt:Nat->List PV->List PV
 |0,_=> []
 |n+1,l=>l++zt n l
theorem ly: ∀(n:Nat) (l:List PV),(zt n l).length=n*l.length
 |0,l=>by simp[zt]
 |n+1,l=>by simp[zt,ly n l,YL,Nat.add_comm]
theorem Bq: ∀(n:Nat) (l:List PV) (j:Nat) (p:PV),(zt n l)[j]? =io p->l[j % l.length]? =io p
 |0,l,j,p,h=>by simp[zt]at h
 |n+1,l,j,p,h=>by
  simp only[zt]at h;rcases XZ j l.length with hj|hj
  .rw[Xn hj]at h;rw[Zl hj];exact h
  .rw[Xl hj]at h;have:=Bq n l _ p h;rwa[Nat.mod_eq_sub_mod hj]
def nU(sz:Nat):Nat->List PV->List (List PV)
 |0,_=> []
 |n+1,cs=>cs.take sz::nU sz n (cs.drop sz)
def Ar{α:Type _}(sz:Nat):Nat->List PV->(List (List PV)->α)->α
 |0,_,k=>k []
 |n+1,cs,k=>force (cs.take sz) fun c=>force (cs.drop sz) fun d=>Ar sz n d fun r=>k (c::r)
theorem yQ{α:Type _}(sz:Nat): ∀(n:Nat) (cs:List PV) (k:List (List PV)->α),Ar sz n cs k=k (nU sz n cs)
 |0,_,_=>rfl
 |n+1,cs,k=>by simp only[Ar,force_eq,yQ sz n,nU]
theorem qq(sz:Nat): ∀(n:Nat) (cs:List PV),(nU sz n cs).length=n
 |0,_=>rfl
 |n+1,cs=>by simp[nU,qq sz n]
theorem nT(sz:Nat): ∀(n:Nat) (cs:List PV) (k:Nat) (e:List PV),cs.length=n*sz->(nU sz n cs)[k]? =io e->e.length=sz∧ ∀j,j<sz->e[j]? =cs[k*sz+j]?
 |0,cs,k,e,_,h=>by simp[nU]at h
 |n+1,cs,k,e,hl,h=>by
  simp only[nU]at h;rw[YL]at hl;cases k with
  |zero=>
   simp at h;subst h;refine⟨by simp;omega,fun j u=>by simp[u]⟩
  |succ k=>
   obtain⟨h1,x⟩:=nT sz n (cs.drop sz) k e (by simp;omega) (by simpa using h);refine⟨h1,fun j u=>?_⟩;rw[x j u,XW,YL];congr 1;omega
def P9(ty:Ty)(e:bC):Bool:=
 match e.k with
 | .cy ((0,u)::_)=>match ty u with
  |some ⟨.cy ((0,q)::_),_,_,_,_⟩=>match ty q with
   |some ⟨.aP (.pointer v),_,_,_,_⟩=>Xv u v
   |_=>kw
  |_=>kw
 |_=>kw
def Uf(ty:Ty)(t:TypeId):Bool:=
 match ty t with
 |some e=>P9 ty e
 |none=>kw
def I4(ty:Ty)(s:AS):Op->Option (PV×AS)
 | .alloc t=>match ty t with
  |some e=>match P9 ty e with
   |true=>force (cj e.zero) fun j=>nw s (fun n=> .ptr n 0) (.cells j (io t))
   |false=>force (cj e.zero) fun j=>nw s (fun n=> .ptr n 0) (.cells j)
  |none=>is
 | .box t x=>match(ev s.f x).cells with
  |some j=>match dB j with
   |true=>match Uf ty t with
    |true=>force j fun y=>nw s (fun n=> .ptr n 0) (.cells y (io t))
    |false=>force j fun y=>nw s (fun n=> .ptr n 0) (.cells y)
   |false=>is
  |none=>is
 | .store t a x=>match Dc ty s t (ev s.f a) (ev s.f x) with
  |some s'=>io (.any,s')
  |none=>is
 | .makeMap _ is=>nw s (fun n=> .mp n) .fE
 | .makeMap t (io r)=>match ev s.f r,ty t with
  | .iv (.v (.int _ _)),io ⟨.aP (.map _ _),_,_,_,_⟩=>nw s (fun n=> .mp n) .fE
  |_,_=>is
 | .range t x=>match ev s.f x,ty t with
  | .iv (.fa kc e _ _ m),io ⟨.aP (.map _ _),_,_,_,_⟩=>nw s (fun n=> .ptr n 0) (.bY kc e m [] is)
  |_,_=>is
 | .buildSlice t len parts=>match ty t with
  |some e=>match e.k with
   | .aP (.slice u)=>match ty u with
    |some eu=>match Xv eu.zero.cells.size eu.size,Xx 0 (len*eu.size),Y4 (len*eu.size) 16777216 with
     |true,jp,jp=>match qo (fun i=>io (i*eu.size,eu.size)) (zt len (cj eu.zero)) (parts.toList.map fun x=>(x.1,ev s.f x.2)) with
      |some j=>Ar eu.size len j fun es=>nw s (fun n=> .sl n 0 len eu.size) (.row eu.size es)
      |none=>is
     |_,_,_=>is
    |none=>is
   |_=>is
  |none=>is
 |_=>is
section
variable {P:Program} {ty:Ty} {nt:NT} {s:AS}
theorem eB{M:Mem}{N:Nm}{a:Act}{w:World}(hf:Fits M N s nt a w){obj:Obj}{o:AO}{j:Nm}(u:Ext M N (· <s.nx) s.h w M j (· <s.nx+1) ((s.nx,io o)::s.h) (w.alloc obj))
  (hr:Rel M j (· <s.nx+1) ((s.nx,io o)::s.h) (w.alloc obj)):Fits M j (newObj s o) nt a (w.alloc obj):=
 ⟨hr,hf.2.1.ext u,hf.2.2⟩
theorem OT.value{o:Oper}{s1 s':AS}{p:PV}(hp:putDst nt o p s1=io s')
  (h: ∀M N a w,Fits M N s nt a w-> ∃x y j u,(execOp a.eval o).run P w= .ok (.value x) y∧Ext M N (· <s.nx) s.h w j u (· <s1.nx) s1.h y∧Fits j u s1 nt a y∧VR j u (· <s1.nx) p x):OT P nt o s (fun t=>t=s'):=by
 intro M N a w hf K Z hk;obtain⟨x,y,j,u,G,B,A,D⟩:=h M N a w hf;unfold Oper.wp;rw[G];simp only[Oper.upon];cases hd:o.dst with
 |none=>
  have:=dR hp hd;subst this;exact hk j u s' _ y B A rfl
 |some d=>
  obtain⟨h1,rfl⟩:=dQ hp hd;exact hk j u {s1 with f:=(d,p)::s1.f} _ y B (A.put d p x h1 D) rfl
theorem OT.skip{o:Oper}{s1 s':AS}(hp:putDst nt o .any s1=io s')
  (h: ∀M N a w,Fits M N s nt a w-> ∃j u x,(execOp a.eval o).run P w= .ok .skip j∧Ext M N (· <s.nx) s.h w u x (· <s1.nx) s1.h j∧Fits u x s1 nt a j):OT P nt o s (fun t=>t=s'):=by
 intro M N a w hf K Z hk;obtain⟨j,u,x,B,A,y⟩:=h M N a w hf;unfold Oper.wp;rw[B];simp only[Oper.upon];cases hd:o.dst with
 |none=>
  have:=dR hp hd;subst this;exact hk u x s' _ j A y rfl
 |some d=>
  obtain⟨h1,rfl⟩:=dQ hp hd;exact hk u x {s1 with f:=(d,.any)::s1.f} _ j A (y.put d .any undef h1 (.any _)) rfl
theorem F7(i0:bq P ty){t:TypeId}{p x:PV}{s1:AS}(h:Dc ty s t p x=io s1){M:Mem}{N:Nm}{a:Act}{w:World}(hf:Fits M N s nt a w){u y:Value}(hu:VR M N (· <s.nx) p u)(hy:VR M N (· <s.nx) x y):
  ∃w',(Instr.storeAt t u y).run P w= .ok () w'∧Ext M N (· <s.nx) s.h w M N (· <s1.nx) s1.h w'∧Fits M N s1 nt a w':=by
 unfold Dc at h;split at h
 .rename_i e he;split at h
  .rename_i D k0;split at h
   .rename_i h1 h2;split at h
    .rename_i i a0;split at h
     .rename_i cs T0 A;split at h
      .rename_i e0;obtain⟨sf,sh,sn⟩:=s;simp only[force_eq,W3]at h;subst h;simp only at A;cases hu with
       |ptr _ _ hU=>
        obtain⟨hl,hv⟩:=o5 hy k0;have g0:y.cells.size=e.size:=by rw[<-hl];exact Xs h1
        obtain⟨c,T,g1,g2,g3,g4,g5⟩:=hf.1.obj i _ A;have f0:a0+D.length<=c.size:=by rw[<-g3];exact WY e0
        have Y: ∀v∈y.cells.toList,v.oneCell'=jp:=by
         intro v j0;obtain⟨j,hj⟩:=XU j0;have G:j<y.cells.toList.length:=(W4.1 hj).1;have I:D[j]? =io (D[j]'(by simp at G;omega)):=W5 _;have:=(hv j _ I).one (gE h2 j _ I);rw[WZ]at this;have d0:y.cells[j]? =io v:=by simpa using hj
         rw[d0]at this;exact this
        have c0:=run_storeCells_at P (N.aA i) a0 T y.cells.toList 0 c w g1 (by simp;omega) Y;refine⟨w.setRow (N.aA i) (c.toList.take (a0+0)++y.cells.toList++c.toList.drop (a0+0+y.cells.toList.length)).toArray,?_,?_⟩
        .have B:=aQ (w:=w) (i0 t e he);simp only[Instr.storeAt,Instr.sureAddr,pure_bind,storeVar,Sem.run_bind,B,Result.andThen_ok,g0,ne_eq,not_true_eq_false,if_false,c0]
        .have b0:=setRow_heap w (N.aA i) c (c.toList.take (a0+0)++y.cells.toList++c.toList.drop (a0+0+y.cells.toList.length)).toArray T (0,0) g1;have J: ∀b,b≠N.aA i->(w.setRow (N.aA i) (c.toList.take (a0+0)++y.cells.toList++c.toList.drop (a0+0+y.cells.toList.length)).toArray).heap[b]? =w.heap[b]? :=by
          intro b hb;simp only[World.setRow,XB];rw[be (fun e=>hb e.symm)]
         have:=hf.1.write A Z (w.setRow (N.aA i) (c.toList.take (a0+0)++y.cells.toList++c.toList.drop (a0+0+y.cells.toList.length)).toArray) (.cells (setCells cs a0 D) T0) Z Z Z (by simp) J
          ⟨_,T,b0,by simp;omega,by rw[da];simp;omega,fun j q hq=>?_,g5⟩
         .exact⟨this.1,this.2,hf.2.1,hf.2.2⟩
         .rcases iP cs a0 D j q hq with⟨k1,k2⟩|⟨k1,k2⟩
          .have:=hv _ _ k2;have G:j-a0<D.length:=(W4.1 k2).1;rw[WZ]at this ⊢;have e1:(c.toList.take (a0+0)++y.cells.toList++c.toList.drop (a0+0+y.cells.toList.length)).toArray[j]? =y.cells[j-a0]? :=by
            simp only[XP];rw[Xn (by simp;omega),Xl (by simp;omega)];simp only[XA,Za,Xz];congr 1;omega
           rw[e1];exact this
          .have:=g4 _ _ k2;rw[WZ]at this ⊢;have e1:(c.toList.take (a0+0)++y.cells.toList++c.toList.drop (a0+0+y.cells.toList.length)).toArray[j]? =c[j]? :=by
            simp only[XP];rcases k1 with k1|k1
            .rw[Xf,Xn (by simp;omega),XK,am (by omega),Xz]
            .rw[Xl (by simp;omega),XW,Xz];congr 1;simp;omega
           rw[e1];exact this
      .cases h
     .cases h
    .cases h
   .cases h
  .cases h
 .cases h
theorem DH(G:bq P ty){o:Oper}{p:PV}{s1 s':AS}(h:I4 ty s o.op=io (p,s1))(hp:putDst nt o p s1=io s'):OT P nt o s (fun t=>t=s'):=by
 cases ho:o.op with
 |alloc t=>
  rw[ho]at h;simp only[I4,vO]at h;split at h
  .rename_i e he;obtain⟨Y,g0,h⟩: ∃Y,A1 Y t∧io (PV.ptr s.nx 0,newObj s (.cells (cj e.zero) Y))=io (p,s1):=by
    split at h
    .exact⟨io t,fun x J=>by cases J;rfl,by rw[<-h,force_eq]⟩
    .exact⟨is,.none _,by rw[<-h,force_eq]⟩
   simp only[W3,Xe]at h;obtain⟨rfl,rfl⟩:=h;refine OT.value hp fun M N a w hf=>?_
   obtain⟨B,h1,h2,h3,D,I⟩:=hf.1.alloc (.cells e.zero.cells t) (.cells (cj e.zero) Y) e.zero.cells.size (fun B g1 g2 g3=>
    ⟨e.zero.cells,t,by rw[g1];exact heap_alloc_new w _,g2.symm,(fL (M:=M) (N:=B) (U:=(· <s.nx+1)) e.zero).1,(fL e.zero).2,g0⟩)
   refine⟨.pointer (io ⟨w.heap.size,0,is⟩),_,M,B,?_,D,eB hf D I,?_⟩
   .simp only[execOp,ho];have hz:=dy (w:=w) (G t e he);simp[Instr.alloc,hz,newVar,newRow]
   .have:=VR.ptr (M:=M) (N:=B) (U:=(· <s.nx+1)) s.nx 0 (by omega);rw[h1]at this;exact this
  .cases h
 |box t x=>
  rw[ho]at h;simp only[I4,vO]at h;split at h
  .rename_i cs d0;split at h
   .rename_i b1;obtain⟨Y,g0,h⟩: ∃Y,A1 Y t∧io (PV.ptr s.nx 0,newObj s (.cells cs Y))=io (p,s1):=by
     split at h
     .exact⟨io t,fun x J=>by cases J;rfl,by rw[<-h,force_eq]⟩
     .exact⟨is,.none _,by rw[<-h,force_eq]⟩
    simp only[W3,Xe]at h;obtain⟨rfl,rfl⟩:=h;refine OT.value hp fun M N a w hf=>?_;obtain⟨hl,hv⟩:=o5 (aO hf.2.1 x) d0
    obtain⟨B,h1,h2,h3,D,I⟩:=hf.1.alloc (.cells (a.eval x).cells t) (.cells cs Y) (a.eval x).cells.size (fun B g1 g2 g3=>
     ⟨(a.eval x).cells,t,by rw[g1];exact heap_alloc_new w _,g2.symm,hl,fun j q hq=>(hv j q hq).mono (.refl _) g3 (fun i hi=>by omega),g0⟩)
    refine⟨.pointer (io ⟨w.heap.size,0,is⟩),_,M,B,?_,D,eB hf D I,?_⟩
    .simp only[execOp,ho];simp[Instr.box,newVar,newRow]
    .have:=VR.ptr (M:=M) (N:=B) (U:=(· <s.nx+1)) s.nx 0 (by omega);rw[h1]at this;exact this
   .cases h
  .cases h
 |store t a x=>
  rw[ho]at h;simp only[I4,vO]at h;split at h
  .rename_i s2 hs;simp only[W3,Xe]at h;obtain⟨rfl,rfl⟩:=h;refine OT.skip hp fun M N b w hf=>?_;obtain⟨w',h1,h2,h3⟩:=F7 (P:=P) G hs hf (aO hf.2.1 a) (aO hf.2.1 x);refine⟨w',M,N,?_,h2,h3⟩;simp only[execOp,ho];simp[h1]
  .cases h
 |makeMap t r=>
  rw[ho]at h;cases r with
  |some r=>
   simp only[I4,vO]at h;split at h
   .rename_i q n _ _ _ _ _ _ hr he;have hu:=(G _ _ he).2.1.1;simp only[W3,Xe]at h;obtain⟨rfl,rfl⟩:=h;refine OT.value hp fun M N a w hf=>?_
    obtain⟨B,h1,h2,h3,D,I⟩:=hf.1.alloc (.map #[] 0) .fE 0 (fun B g1 g2 g3=>
     (by rw[g1];exact heap_alloc_new w _:(w.alloc (.map #[] 0)).heap[B.aA s.nx]? =_))
    have i0:=aO hf.2.1 r;rw[hr]at i0;have d1:a.eval r= .int q n:=by
     generalize a.eval r=y at i0;cases i0 with
     |iv _ _ h=>cases h;rfl
    refine⟨.map (io w.heap.size),_,M,B,?_,D,eB hf D I,?_⟩
    .simp only[execOp,ho];simp[Instr.makeMap,d1,run_underlying hu,asInt,asIntOf]
    .have:=VR.mp (M:=M) (N:=B) (U:=(· <s.nx+1)) s.nx (by omega);rw[h1]at this;exact this
   .cases h
  |none=>
   simp only[I4,vO,W3,Xe]at h;obtain⟨rfl,rfl⟩:=h;refine OT.value hp fun M N a w hf=>?_
   obtain⟨B,h1,h2,h3,D,I⟩:=hf.1.alloc (.map #[] 0) .fE 0 (fun B g1 g2 g3=>
    (by rw[g1];exact heap_alloc_new w _:(w.alloc (.map #[] 0)).heap[B.aA s.nx]? =_))
   refine⟨.map (io w.heap.size),_,M,B,?_,D,eB hf D I,?_⟩
   .simp only[execOp,ho];simp[Instr.makeMap]
   .have:=VR.mp (M:=M) (N:=B) (U:=(· <s.nx+1)) s.nx (by omega);rw[h1]at this;exact this
 |range t x=>
  rw[ho]at h;simp only[I4,vO]at h;split at h
  .rename_i V kc e z zv m kt et _ _ _ _ t0 he;have hu:=(G _ _ he).2.1.1;simp only[W3,Xe]at h;obtain⟨rfl,rfl⟩:=h;refine OT.value hp fun M N a w hf=>?_;have J:=aO hf.2.1 x;rw[t0]at J;generalize hv:a.eval x=y at J
   cases J with
   |iv _ _ hi=>cases hi with
    |fa _ _ _ _ _ b ents clock hb hs hk hv' hz hi' hc=>
     obtain⟨B,h1,h2,h3,D,I⟩:=hf.1.alloc (.mapIter (io b) clock #[] clock) (.bY kc e m [] is) 0 (fun B g1 g2 g3=>
      .inr ⟨b,ents,clock, #[],by rw[g1];exact heap_alloc_new w _,hb,⟨hs,hk,hv',hi',hc⟩,rfl,by simp,XY,by simp⟩)
     have a0:w.heap[b]? =io (.map ents clock):=hf.1.dK _ _ hb;refine⟨.pointer (io ⟨w.heap.size,0,is⟩),_,M,B,?_,D,eB hf D I,?_⟩
     .simp only[execOp,ho,hv];simp[Instr.range,run_underlying hu,getObj,Sem.run,a0,Result.andThen]
     .have:=VR.ptr (M:=M) (N:=B) (U:=(· <s.nx+1)) s.nx 0 (by omega);rw[h1]at this;exact this
  .cases h
 |buildSlice t len parts=>
  rw[ho]at h;simp only[I4,vO]at h;split at h
  .rename_i e he;split at h
   .rename_i u hk;split at h
    .rename_i A m0;split at h
     .rename_i q0 r0 s0;split at h
      .rename_i cs d0;rw[yQ]at h;simp only[W3,Xe]at h;obtain⟨rfl,rfl⟩:=h;have k0:A.zero.cells.size=A.size:=Xs q0;have o0:0<len*A.size:=WY r0;have j1:len*A.size<=16777216:=WY s0;have j0:0<A.size:=Nat.pos_of_ne_zero fun e=>by simp[e]at o0
       have x0:0<len:=Nat.pos_of_ne_zero fun e=>by simp[e]at o0
       have i1:len<=len*A.size:=Nat.le_mul_of_pos_right _ j0;have b0:=(G t e he).2.1;rw[hk]at b0;refine OT.value hp fun M N a w hf=>?_;have e0:(cj A.zero).length=A.size:=by rw[(fL (M:=M) (N:=N) (U:=(· <s.nx)) A.zero).1,k0]
       obtain⟨f0,h3,D⟩:=sr (M:=M) (N:=N) (U:=(· <s.nx)) (AR:=(parts.map fun x=>(x.1,a.eval x.2)).toList) (ys:=(Z3 (len*A.size)).map (A.zero.cells[· % A.zero.cells.size]!)) d0 (by simp) (fun j x y J hy=>by
        rw[W9,Xa]at J;obtain⟨z,hz,rfl⟩:=J;have f1:parts[j]? =io z:=by simpa using hz
        have:io (z.1,a.eval z.2)=io y:=by rw[<-hy];simp[f1]
        simp only[W3]at this;subst this
        exact⟨rfl,aO hf.2.1 z.2⟩) (by
        refine⟨by rw[ly,e0];simp,fun j p hj=>?_⟩;have I:=Bq _ _ _ _ hj;have v0:j<len*A.size:=by
         have:=(W4.1 hj).1;rwa[ly,e0]at this
        rw[e0]at I;have h6:=(fL (M:=M) (N:=N) (U:=(· <s.nx)) A.zero).2 _ _ I;have h7:((Z3 (len*A.size)).map (A.zero.cells[· % A.zero.cells.size]!)).getD j undef=A.zero.cells.getD (j % A.size) undef:=by
         have hm:j % A.size<A.zero.cells.size:=by rw[k0];exact Nat.mod_lt _ j0
         have J:(Z3 (len*A.size))[j]? =io j:=by simp[v0]
         rw[WZ,ZG,J];simp only[Ya,X9,k0];rw[WZ,getElem!_pos A.zero.cells (j % A.size) hm,XJ hm];rfl
        rw[h7];exact h6)
       have c0:cs.length=len*A.size:=by
        have:(zt len (cj A.zero)).length=cs.length:=by
         have:=su d0;exact this.symm
        rw[<-this,ly,e0]
       have n0:f0.size=len*A.size:=by rw[<-D.1,c0]
       obtain⟨B,h1,h2,h8,h9,p0⟩:=hf.1.alloc (.cells f0 u) (.row A.size (nU A.size len cs)) f0.size (fun B g1 g2 g3=>
        .inr ⟨j0,f0,u,by rw[g1];exact heap_alloc_new w _,g2.symm,by rw[qq,n0];exact W8 _,fun k e hk=>(nT _ _ _ _ _ c0 hk).1,fun k e j p hk hj=>by
         have w0:j<A.size:=by rw[<-(nT _ _ _ _ _ c0 hk).1];exact(W4.1 hj).1
         have:=(nT _ _ _ _ _ c0 hk).2 j w0;rw[hj]at this
         exact(D.2 _ _ this.symm).mono (.refl _) g3 (fun i hi=>by omega)⟩)
       refine⟨.slice (io ⟨w.heap.size,0,is⟩) len len,_,M,B,?_,h9,eB hf h9 p0,?_⟩
       .simp only[execOp,ho];have hz:=dy (w:=w) (G u A m0);have e1:=aQ (w:=w) (G u A m0);have z0: ¬len*A.size=0:=by omega
        have a1: ¬len*A.size>2 ^ 24:=by omega
        simp only[Instr.buildSlice,Sem.run_bind,run_underlying b0.1,Result.andThen_ok,e1,be a1,be z0,hz,Sem.run_pure];rw[h3];simp[newRow]
       .have:=VR.sl (M:=M) (N:=B) (U:=(· <s.nx+1)) s.nx 0 len A.size len (by omega) x0 (W8 _) (by simp only[maxLen];omega) (by rw[h2,n0];simp);rw[h1,YD]at this;exact this
      .cases h
     .cases h
    .cases h
   .cases h
  .cases h
 |_=>rw[ho]at h;simp[I4]at h
end
mutual
def PV.b5(σ:Nat->Nat):PV->PV
 | .iv x=> .iv x
 | .agg cs=> .agg (dh σ cs)
 | .a7 cs=> .a7 (dh σ cs)
 | .ptr i off=> .ptr (σ i) off
 | .cV i sz k off=> .cV (σ i) sz k off
 | .fe z i=> .fe z (σ i)
 | .ot i o n=> .ot (σ i) o n
 | .sl i off len sz=> .sl (σ i) off len sz
 | .mp i=> .mp (σ i)
 | .cB fn first caps=> .cB fn (dh σ first) (dh σ caps)
 | .kb b=> .kb b
 | .any=> .any
def dh(σ:Nat->Nat):List PV->List PV
 | []=> []
 |p::r=>PV.b5 σ p::dh σ r
end
theorem bL(σ:Nat->Nat): ∀l:List PV,dh σ l=l.map (PV.b5 σ)
 | []=>rfl
 |p::r=>by simp[dh,bL σ r]
def AO.b5(σ:Nat->Nat):AO->AO
 | .cells cs T=> .cells (dh σ cs) T
 | .row sz es=> .row sz (es.map (dh σ))
 | .bz l T=> .bz l T
 | .fE=> .fE
 | .map kc ev z zv dv m=> .map kc ev z zv dv m
 | .bY kc ev m l cu=> .bY kc ev m l cu
 | .eG s p=> .eG s p
 | .iA kc e z zv dv m bs c=> .iA kc e z zv dv m bs c
 | .eJ q c l=> .eJ (q.b5 σ) c l
 | .oK l c f=> .oK l c (f.map fun x=>(x.1,x.2.b5 σ))
theorem vG(σ:Nat->Nat): ∀(f:AF) (d:Nat),AF.get (f.map fun x=>(x.1,x.2.b5 σ)) d=(AF.get f d).b5 σ
 | [],_=>rfl
 |(i,p)::r,d=>by
  rw[W7,AF.ay,AF.ay,vG σ r d];split<;>rfl
theorem AO.cv(σ:Nat->Nat)(o:AO):(o.b5 σ).real=o.real:=by
 cases o with
 |row sz es=>cases es<;>rfl
 |bz l T=>cases l<;>rfl
 |_=>rfl
def oe(σ:Nat->Nat):AH->AH
 | []=> []
 |(i,is)::r=>(σ i,is)::oe σ r
 |(i,io o)::r=>(σ i,io (o.b5 σ))::oe σ r
def Nm.comp(N:Nm)(σ:Nat->Nat):Nm:={aA:=fun i=>N.aA (σ i),ext:=fun i=>N.ext (σ i)}
section
variable {M:Mem} {N:Nm} {U:Nat->Prop} {σ:Nat->Nat}
theorem VR.b5{p:PV}{x:Value}(h:VR M (N.comp σ) (fun i=>U (σ i)) p x):VR M N U (p.b5 σ) x:=by
 induction h with
 |iv x y h=>exact .iv x y h
 |agg cs ys hl hr ih=>
  refine .agg _ _ (by simpa[bL]using hl) (fun j p u=>?_);rw[bL,W9,Xa]at u;obtain⟨q,A,rfl⟩:=u;exact ih j q A
 |a7 cs ys hl hr ih=>
  refine .a7 _ _ (by simpa[bL]using hl) (fun j p u=>?_);rw[bL,W9,Xa]at u;obtain⟨q,A,rfl⟩:=u;exact ih j q A
 |ptr i off h=>exact .ptr _ _ h
 |cV i sz k off h=>exact .cV _ _ _ _ h
 |fe z i h=>exact .fe _ _ h
 |ot i o n h=>exact .ot _ _ _ h
 |sl i off len sz cap h h0 hl hc he=>exact .sl _ _ _ _ _ h h0 hl hc he
 |lx i sz h=>exact .lx _ _ h
 |sle i sz cap h hc he=>exact .sle _ _ _ h hc he
 |mp i h=>exact .mp _ h
 |cB fn first caps f' c' h1 h2 hr1 hr2 ih1 ih2=>
  refine .cB _ _ _ _ _ (by simpa[bL]using h1) (by simpa[bL]using h2) (fun j p u=>?_) (fun j p u=>?_)
  .rw[bL,W9,Xa]at u;obtain⟨q,A,rfl⟩:=u;exact ih1 j q A
  .rw[bL,W9,Xa]at u;obtain⟨q,A,rfl⟩:=u;exact ih2 j q A
 |kb b=>exact .kb b
 |any x=>exact .any x
theorem VR.ry: ∀{q:PV} {x:Value},VR M N U q x-> ∀{p:PV},q=p.b5 σ->VR M (N.comp σ) (fun i=>U (σ i)) p x:=by
 intro q x h
 induction h with
 |iv x y h=>intro p u;cases p<;>simp[PV.b5]at u;subst u;exact .iv _ _ h
 |agg cs ys hl hr ih=>
  intro p u;cases p<;>simp[PV.b5]at u;subst u;refine .agg _ _ (by simpa[bL]using hl) (fun j p A=>ih j (p.b5 σ) (by rw[bL,W9,A];rfl) Z)
 |a7 cs ys hl hr ih=>
  intro p u;cases p<;>simp[PV.b5]at u;subst u;refine .a7 _ _ (by simpa[bL]using hl) (fun j p A=>ih j (p.b5 σ) (by rw[bL,W9,A];rfl) Z)
 |ptr i off h=>intro p u;cases p<;>simp[PV.b5]at u;obtain⟨rfl,rfl⟩:=u;exact VR.ptr (N:=N.comp σ) (U:=fun i=>U (σ i)) _ _ h
 |cV i sz k off h=>intro p u;cases p<;>simp[PV.b5]at u;obtain⟨rfl,rfl,rfl,rfl⟩:=u;exact VR.cV (N:=N.comp σ) (U:=fun i=>U (σ i)) _ _ _ _ h
 |fe z i h=>intro p u;cases p<;>simp[PV.b5]at u;obtain⟨rfl,rfl⟩:=u;exact VR.fe (N:=N.comp σ) (U:=fun i=>U (σ i)) _ _ h
 |ot i o n h=>intro p u;cases p<;>simp[PV.b5]at u;obtain⟨rfl,rfl,rfl⟩:=u;exact VR.ot (N:=N.comp σ) (U:=fun i=>U (σ i)) _ _ _ h
 |sl i off len sz cap h h0 hl hc he=>intro p u;cases p<;>simp[PV.b5]at u;obtain⟨rfl,rfl,rfl,rfl⟩:=u;exact VR.sl (N:=N.comp σ) (U:=fun i=>U (σ i)) _ _ _ _ _ h h0 hl hc he
 |lx i sz h=>intro p u;cases p<;>simp[PV.b5]at u;obtain⟨rfl,rfl,rfl,rfl⟩:=u;exact VR.lx (N:=N.comp σ) (U:=fun i=>U (σ i)) _ _ h
 |sle i sz cap h hc he=>intro p u;cases p<;>simp[PV.b5]at u;obtain⟨rfl,rfl,rfl,rfl⟩:=u;exact VR.sle (N:=N.comp σ) (U:=fun i=>U (σ i)) _ _ _ h hc he
 |mp i h=>intro p u;cases p<;>simp[PV.b5]at u;subst u;exact VR.mp (N:=N.comp σ) (U:=fun i=>U (σ i)) _ h
 |cB fn first caps f' c' h1 h2 hr1 hr2 ih1 ih2=>
  intro p u;cases p<;>simp[PV.b5]at u;obtain⟨rfl,rfl,rfl⟩:=u;refine .cB _ _ _ _ _ (by simpa[bL]using h1) (by simpa[bL]using h2) (fun j p A=>ih1 j (p.b5 σ) (by rw[bL,W9,A];rfl) Z) (fun j p A=>ih2 j (p.b5 σ) (by rw[bL,W9,A];rfl) Z)
 |kb b=>intro p u;cases p<;>simp[PV.b5]at u;subst u;exact .kb _
 |any x=>intro p u;cases p<;>simp[PV.b5]at u;exact .any _
theorem OR.b5{w:World}{i:Nat}{o:AO}(h:OR M (N.comp σ) (fun i=>U (σ i)) w i o):OR M N U w (σ i) (o.b5 σ):=by
 cases o with
 |cells cs T0=>
  obtain⟨c,T,h1,u,y,A,B⟩:=h;refine⟨c,T,h1,u,by simpa[bL]using y,fun j p G=>?_,B⟩;rw[bL,W9,Xa]at G;obtain⟨q,Y,rfl⟩:=G;exact(A j q Y).b5
 |row sz es=>
  rcases h with rfl|⟨J,c,T,h1,u,y,A,B⟩
  .exact .inl Z
  refine .inr ⟨J,c,T,h1,u,by simpa using y,fun k e D=>?_,fun k e j p D G=>?_⟩
  .rw[W9,Xa]at D;obtain⟨I,x,rfl⟩:=D;rw[bL,Xw];exact A k I x
  .rw[W9,Xa]at D;obtain⟨I,x,rfl⟩:=D;rw[bL,W9,Xa]at G;obtain⟨q,Y,rfl⟩:=G;exact(B k I j q x Y).b5
 |bz l T=>exact h
 |fE=>exact h
 |map kc ev z zv dv m=>exact h
 |bY kc ev m l cu=>exact h
 |eG s p=>exact h
 |iA kc ev z zv dv m bs c=>exact h
 |eJ q c l=>obtain⟨b,h1,u⟩:=h;exact⟨b,h1.b5,u⟩
 |oK l c f=>
  obtain⟨J,r,h1,u,y,A,B,h6,h7,h8⟩:=h;exact⟨J,r,h1,u,y,A,B,h6,h7,fun d=>by rw[vG];exact(h8 d).b5⟩
theorem OR.ry{w:World}{i:Nat}{o:AO}(h:OR M N U w (σ i) (o.b5 σ)):OR M (N.comp σ) (fun i=>U (σ i)) w i o:=by
 cases o with
 |cells cs T0=>
  obtain⟨c,T,h1,u,x,y,A⟩:=h;exact⟨c,T,h1,u,by simpa[bL]using x,fun j p G=>(y j (p.b5 σ) (by rw[bL,W9,G];rfl)).ry Z,A⟩
 |row sz es=>
  rcases h with h|⟨B,c,T,h1,u,x,y,A⟩
  .exact .inl (by simpa using h)
  refine .inr ⟨B,c,T,h1,u,by simpa using x,fun k e D=>?_,fun k e j p D G=>?_⟩
  .have:=y k (dh σ e) (by rw[W9,D];rfl);simpa[bL]using this
  .exact(A k (dh σ e) j (p.b5 σ) (by rw[W9,D];rfl) (by rw[bL,W9,G];rfl)).ry Z
 |bz l T=>exact h
 |fE=>exact h
 |map kc ev z zv dv m=>exact h
 |bY kc ev m l cu=>exact h
 |eG s p=>exact h
 |iA kc ev z zv dv m bs c=>exact h
 |eJ q c l=>obtain⟨b,h1,u⟩:=h;exact⟨b,h1.ry Z,u⟩
 |oK l c f=>
  obtain⟨B,r,h1,u,x,y,A,I,J,Y⟩:=h;exact⟨B,r,h1,u,x,y,A,I,J,fun d=>(Y d).ry (vG σ f d)⟩
end
def sig(L:List Nat)(n:Nat)(i:Nat):Nat:=bif Xx i L.length then L.getD i 0 else n+(i-L.length)
theorem jZ{L:List Nat}{n i:Nat}(h:i<L.length):sig L n i=L[i]:=by
 have:Xx i L.length=jp:=X0 h;simp[sig,this,h]
theorem qH{L:List Nat}{n i:Nat}(h:L.length<=i):sig L n i=n+(i-L.length):=by
 have:Xx i L.length=kw:=by
  cases hb:Xx i L.length with
  |false=>rfl
  |true=>have:=WY hb;omega
 simp[sig,this]
theorem vE{σ:Nat->Nat}: ∀(h:AH) (j:Nat) (o:AO),(oe σ h).get j=io o->(∀i k,i∈h.map Yc->σ i=σ k->i=k)-> ∃i p,j=σ i∧h.get i=io p∧o=p.b5 σ
 | [],j,o,hj,_=>by simp[oe,AH.get]at hj
 |(i,is)::r,j,o,hj,hi=>by
  simp only[oe]at hj;rw[AH.ay]at hj;split at hj
  .cases hj
  .rename_i u;obtain⟨k,p,h1,x,y⟩:=vE r j o hj (fun a b A=>hi a b (Xi _ A));refine⟨k,p,h1,?_,y⟩;rw[AH.ay,be (fun e=>u (by rw[h1,e]))];exact x
 |(i,io q)::r,j,o,hj,hi=>by
  simp only[oe]at hj;rw[AH.ay]at hj;split at hj
  .rename_i B;exact⟨i,q,B,by rw[AH.ay,am Z],by simpa using hj.symm⟩
  .rename_i u;obtain⟨k,p,h1,x,y⟩:=vE r j o hj (fun a b A=>hi a b (Xi _ A));refine⟨k,p,h1,?_,y⟩;rw[AH.ay,be (fun e=>u (by rw[h1,e]))];exact x
def cO:Nat->List AO->AH
 |_,[]=> []
 |n,o::r=>(n,io o)::cO (n+1) r
theorem tk: ∀(os:List AO) (n i:Nat),(cO n os).get i=if n<=i then os[i-n]? else is
 | [],n,i=>by simp[cO,AH.get]
 |o::r,n,i=>by
  simp only[cO];rw[AH.ay,tk r (n+1) i];by_cases h:i=n
  .subst h;simp
  .by_cases j:n<=i
   .rw[be h,am (by omega),am j,show i-n=(i-(n+1))+1 by omega];simp
   .rw[be h,be (by omega),be j]
def fK(P:Program)(k:FuncId):Prop:= ∀(args:Array Value) (w:World),(callFunc k args).run P w= .ok (.enter k args) w
theorem bg {P:Program} {k:FuncId} {fn:Func} {c:Code} (hf:P.funcs[k]? =io fn) (hb:fn.body=io c) (hn:(fn.name== "runtime.NumGoroutine")=kw):fK P k:=by
 intro args w;have j: ¬fn.name= "runtime.NumGoroutine" :=by simpa using hn
 simp[callFunc,program,Sem.run,hf,hb,j]
def Fn(P:Program)(k:FuncId)(args:List PV)(os:List AO)(R:PV->AH->Nat->Prop):Prop:=
 fK P k∧ ∀M N w (vs:List Value),Rel M N (· <os.length) (cO 0 os) w->args.length=vs.length->(∀(j:Nat) (p:PV),args[j]? =io p->VR M N (· <os.length) p (vs.getD j undef))->
  Calls P k vs.toArray w fun e D=> ∃x y A r B u,e= .returned x∧R r B u∧Ext M N (· <os.length) (cO 0 os) w y A (· <u) B D∧Rel y A (· <u) B D∧VR y A (· <u) r x
def CB:List Nat->AH
 | []=> []
 |j::r=>(j,is)::CB r
def AH.keys:AH->List Nat
 | []=> []
 |(i,_)::r=>i::AH.keys r
theorem AH.get_append: ∀(a b:AH) (j:Nat),AH.get (a++b) j=if j∈a.keys then a.get j else b.get j
 | [],b,j=>by simp[AH.keys]
 |(i,o)::r,b,j=>by
  rw[Xp,AH.ay,AH.ay,AH.get_append r b j];by_cases h:j=i
  .simp[h,AH.keys]
  .simp[h,AH.keys]
theorem yM: ∀L:List Nat,(CB L).keys=L
 | []=>rfl
 |j::r=>by simp[CB,AH.keys,yM r]
theorem Cz: ∀(L:List Nat) (j:Nat),(CB L).get j=is
 | [],_=>rfl
 |i::r,j=>by rw[CB,AH.ay,Cz r j];split<;>rfl
theorem EB{L:List Nat}{n:Nat}(hnd:L.Nodup)(x: ∀j∈L,j<n): ∀i k,sig L n i=sig L n k->i=k:=by
 intro i k h;rcases XZ i L.length with hi|hi<;>rcases XZ k L.length with hk|hk
 .rw[jZ hi,jZ hk]at h;have y:=Yl.1 hnd;rcases Zd i k with u|he|hgt
  .exact absurd h (y i k hi hk u)
  .exact he
  .exact absurd h.symm (y k i hk hi hgt)
 .rw[jZ hi,qH hk]at h;have:=x _ (XS hi);omega
 .rw[qH hi,jZ hk]at h;have:=x _ (XS hk);omega
 .rw[qH hi,qH hk]at h;omega
section
variable {P:Program} {nt:NT} {s:AS}
def aC(s:AS)(L:List Nat)(j:AH)(u:Nat):AS:={f:=s.f,h:=oe (sig L s.nx) j++(CB L++s.h),nx:=s.nx+(u-L.length)}
def Tp(C:Array Value->World->(Ending->World->Prop)->Prop)(args:List PV)(os:List AO)(R:PV->AH->Nat->Prop):Prop:=
 ∀M N w (vs:List Value),Rel M N (· <os.length) (cO 0 os) w->args.length=vs.length->(∀(j:Nat) (p:PV),args[j]? =io p->VR M N (· <os.length) p (vs.getD j undef))->
  C vs.toArray w fun e D=> ∃x y A r B u,e= .returned x∧R r B u∧Ext M N (· <os.length) (cO 0 os) w y A (· <u) B D∧Rel y A (· <u) B D∧VR y A (· <u) r x
theorem Tp.calls{C:Array Value->World->(Ending->World->Prop)->Prop}(hC: ∀vs w (R R':Ending->World->Prop),C vs w R->(∀e w',R e w'->R' e w')->C vs w R'){args:List PV}{os:List AO}{R:PV->AH->Nat->Prop}(hc:Tp C args os R){L:List Nat}(hnd:L.Nodup)(hL: ∀j∈L,j<s.nx)
  (j0:L.map s.h.get=os.map fun o=>io (o.b5 (sig L s.nx))) {M:Mem} {N:Nm} {w:World} (hr:Rel M N (· <s.nx) s.h w) {vs:List Value} (hl:args.length=vs.length)
  (hv: ∀(j:Nat) (p:PV),args[j]? =io p->VR M N (· <s.nx) (p.b5 (sig L s.nx)) (vs.getD j undef)):
  C vs.toArray w fun e w'=> ∃x M' N' r h' n',e= .returned x∧R r h' n'∧Ext M N (· <s.nx) s.h w M' N' (· <(aC s L h' n').nx) (aC s L h' n').h w'∧
   Rel M' N' (· <(aC s L h' n').nx) (aC s L h' n').h w'∧VR M' N' (· <(aC s L h' n').nx) (r.b5 (sig L s.nx)) x:=by
 have c0:L.length=os.length:=by simpa using congrArg Ze j0
 have hU:(fun i=>sig L s.nx i<s.nx)=(· <os.length):=by
  funext i
  apply propext;rcases XZ i L.length with hi|hi
  .rw[jZ hi];exact⟨fun _=>by omega,fun _=>hL _ (XS hi)⟩
  .rw[qH hi];omega
 have f0: ∀i (hi:i<L.length),s.h.get L[i]=(os[i]?).map (AO.b5 (sig L s.nx)):=by
  intro i hi;have:=congrArg (fun l=>l[i]?) j0;simp only[W9,W5 hi,Ya]at this;have J:os[i]? =io (os[i]'(by omega)):=W5 (by omega);rw[J]at this ⊢;simpa using this
 have A: ∀i o,(cO 0 os).get i=io o->i<L.length∧s.h.get (sig L s.nx i)=io (o.b5 (sig L s.nx)):=by
  intro i o hi;rw[tk,am (Xc _),ZK]at hi;have d0:i<L.length:=by rw[c0];exact(W4.1 hi).1
  refine⟨d0,?_⟩;rw[jZ d0,f0 i d0,hi];rfl
 have i0:Rel M (N.comp (sig L s.nx)) (· <os.length) (cO 0 os) w:=by
  refine⟨hr.dK,fun i o hi=>by rw[<-c0];exact(A i o hi).1,fun i o hi u=>hr.dS _ _ (A i o hi).2 ((AO.cv _ o).trans u),fun i o hi=>?_,fun i j o p hi B J hp D=>?_⟩
  .have:=OR.ry (hr.obj _ _ (A i o hi).2);rw[hU]at this;exact this
  .exact EB hnd hL i j (hr.inj _ _ _ _ (A i o hi).2 (A j p B).2 ((AO.cv _ o).trans J) ((AO.cv _ p).trans hp) D)
 refine hC _ _ _ _ (hc M (N.comp (sig L s.nx)) w vs i0 hl (fun j p hp=>by have:=(hv j p hp).ry Z;rw[hU]at this;exact this)) ?_;rintro e w' ⟨x,M',N',r,h',n',rfl,hR,hx,hr',hvr⟩;have m0:os.length<=n':=YA fun d0=>by have:=hx.ule n' d0;omega
 let N2:Nm:={aA:=fun j=>if j<s.nx then N.aA j else N'.aA (L.length+(j-s.nx)),ext:=fun j=>if j<s.nx then N.ext j else N'.ext (L.length+(j-s.nx))}
 have Y:N.agree N2 (· <s.nx):=⟨fun i hi=>by simp[N2,hi],fun i hi=>by simp[N2,hi]⟩
 have a0: ∀i,N2.aA (sig L s.nx i)=N'.aA i∧N2.ext (sig L s.nx i)=N'.ext i:=by
  intro i;rcases XZ i L.length with hi|hi
  .have h1:sig L s.nx i<s.nx:=by rw[jZ hi];exact hL _ (XS hi)
   have y:=hx.nm.aA i (by omega);have I:=hx.nm.ext i (by omega);simp only[Nm.comp]at y I;simp[N2,h1,y,I]
  .rw[qH hi];have h1: ¬s.nx+(i-L.length)<s.nx:=by omega
   have y:L.length+(s.nx+(i-L.length)-s.nx)=i:=by omega
   constructor<;>simp only[N2,be h1,y]
 have b0:N'.agree (N2.comp (sig L s.nx)) (· <n'):=⟨fun i _=>(a0 i).1,fun i _=>(a0 i).2⟩
 have e0: ∀i,i<n'->sig L s.nx i<s.nx+(n'-L.length):=by
  intro i hi;rcases XZ i L.length with h1|h1
  .rw[jZ h1];have:=hL _ (XS h1);omega
  .rw[qH h1];omega
 have G: ∀j o,(aC s L h' n').h.get j=io o->(∃i p,j=sig L s.nx i∧h'.get i=io p∧o=p.b5 (sig L s.nx))∨(j∉L∧s.h.get j=io o):=by
  intro j o B;simp only[aC]at B;rw[AH.get_append]at B;split at B
  .exact .inl (vE h' j o B (fun i k _ h=>EB hnd hL i k h))
  .rw[AH.get_append]at B;split at B
   .rw[Cz]at B;cases B
   .rename_i hd;rw[yM]at hd;exact .inr ⟨hd,B⟩
 have g0: ∀j o,j∉L->s.h.get j=io o->o.real=jp->w'.heap[N.aA j]? =w.heap[N.aA j]? :=by
  intro j o B J u;refine hx.gK _ (hr.lt J u) (fun i p hi hp he=>?_);obtain⟨h1,y⟩:=A i p hi;have:=hr.inj _ _ _ _ y J ((AO.cv _ p).trans hp) u he;rw[jZ h1]at this;exact B (this▸XS h1)
 refine⟨x,M',N2,r,h',n',rfl,hR,?_,?_,?_⟩
 .refine⟨hx.os,hx.tape,hx.output,hx.size,fun b hb k0=>hx.gK b hb (fun i o hi J he=>k0 _ _ (A i o hi).2 ((AO.cv _ o).trans J) he),hx.oJ,fun b c h1 y=>?_,Y,fun i hi=>by simp only[aC];omega,fun j o B u=>?_⟩
  .rcases hx.iM b c h1 y with I|⟨i,o,I,J,h4⟩
   .exact .inl I
   .exact .inr ⟨_,_,(A i o I).2,(AO.cv _ o).trans J,h4⟩
  .rcases G j o B with⟨i,p,rfl,h1,rfl⟩|⟨h1,y⟩
   .rw[AO.cv]at u;rw[(a0 i).1];rcases hx.gB i p h1 u with I|⟨k,q,I,hq,h4⟩
    .exact .inl I
    .exact .inr ⟨_,_,(A k q I).2,(AO.cv _ q).trans hq,h4⟩
   .exact .inr ⟨j,o,y,u,(Y.aA j (hr.used j o y)).symm⟩
 .refine⟨hr'.dK,fun j o B=>?_,fun j o B u=>?_,fun j o B=>?_,fun i j o p hi B J hp D=>?_⟩
  .rcases G j o B with⟨i,p,rfl,h1,rfl⟩|⟨h1,y⟩
   .exact e0 i (hr'.used i p h1)
   .have:=hr.used j o y;simp only[aC];omega
  .rcases G j o B with⟨i,p,rfl,h1,rfl⟩|⟨h1,y⟩
   .rw[AO.cv]at u;rw[(a0 i).1];exact hr'.dS i p h1 u
   .rw[Y.aA j (hr.used j o y)];cases hm:M' (N.aA j) with
    |none=>rfl
    |some c=>
     rcases hx.iM _ c (hr.dS j o y u) hm with I|⟨i,q,I,hq,h4⟩
     .have:=hr.lt y u;omega
     .obtain⟨h5,h6⟩:=A i q I;have:=hr.inj _ _ _ _ h6 y ((AO.cv _ q).trans hq) u h4;rw[jZ h5]at this;exact absurd (this▸XS h5) h1
  .rcases G j o B with⟨i,p,rfl,h1,rfl⟩|⟨h1,y⟩
   .refine OR.b5 ?_;exact(hr'.obj i p h1).mono (.refl _) b0 (fun i hi=>e0 i hi) (hr'.used i p h1) Z
   .cases u:o.real with
    |true=>exact(hr.obj j o y).mono hx.oJ Y (fun i hi=>by simp only[aC];omega) (hr.used j o y) (g0 j o h1 y u)
    |false=>
     cases o with
     |row sz es=>cases es with
      |nil=>exact .inl Z
      |cons=>cases u
     |bz l T=>cases l with
      |nil=>exact .inl Z
      |cons=>cases u
     |_=>cases u
  .rcases G i o hi with⟨i',o',rfl,h1,rfl⟩|⟨h1,y⟩<;>rcases G j p B with⟨j',p',rfl,I,rfl⟩|⟨I,h4⟩
   .rw[AO.cv]at J hp;rw[(a0 i').1,(a0 j').1]at D;rw[hr'.inj i' j' o' p' h1 I J hp D]
   .rw[AO.cv]at J;rw[(a0 i').1,Y.aA j (hr.used j p h4)]at D;rcases hx.gB i' o' h1 J with h5|⟨k,q,h5,hq,h6⟩
    .have:=hr.lt h4 hp;omega
    .obtain⟨h7,h8⟩:=A k q h5;have:=hr.inj _ _ _ _ h8 h4 ((AO.cv _ q).trans hq) hp (h6.trans D);rw[jZ h7]at this;exact absurd (this▸XS h7) I
   .rw[AO.cv]at hp;rw[Y.aA i (hr.used i o y),(a0 j').1]at D;rcases hx.gB j' p' I hp with h5|⟨k,q,h5,hq,h6⟩
    .have:=hr.lt y J;omega
    .obtain⟨h7,h8⟩:=A k q h5;have:=hr.inj _ _ _ _ h8 y ((AO.cv _ q).trans hq) J (h6.trans D.symm);rw[jZ h7]at this;exact absurd (this▸XS h7) h1
   .rw[Y.aA i (hr.used i o y),Y.aA j (hr.used j p h4)]at D;exact hr.inj _ _ _ _ y h4 J hp D
 .exact VR.b5 (hvr.mono (.refl _) b0 (fun i hi=>e0 i hi))
theorem Fn.calls{k:FuncId}{args:List PV}{os:List AO}{R:PV->AH->Nat->Prop}(hc:Fn P k args os R){L:List Nat}(hnd:L.Nodup)(I: ∀j∈L,j<s.nx)
  (D:L.map s.h.get=os.map fun o=>io (o.b5 (sig L s.nx))) {M:Mem} {N:Nm} {w:World} (hr:Rel M N (· <s.nx) s.h w) {vs:List Value} (hl:args.length=vs.length)
  (J: ∀(j:Nat) (p:PV),args[j]? =io p->VR M N (· <s.nx) (p.b5 (sig L s.nx)) (vs.getD j undef)):
  Calls P k vs.toArray w fun e G=> ∃x A B r u y,e= .returned x∧R r u y∧Ext M N (· <s.nx) s.h w A B (· <(aC s L u y).nx) (aC s L u y).h G∧
   Rel A B (· <(aC s L u y).nx) (aC s L u y).h G∧VR A B (· <(aC s L u y).nx) (r.b5 (sig L s.nx)) x:=
 Tp.calls (C:=Calls P k) (fun _ _ _ _ h g=>h.mono g) hc.2 hnd I D hr hl J
def PV.plain:PV->PV
 | .kb b=> .iv (.v (.bool b))
 |p=>p
theorem VR.plain{M:Mem}{N:Nm}{U:Nat->Prop}{p:PV}{x:Value}(h:VR M N U p x):VR M N U p.plain x:=by
 cases h with
 |kb=>exact .iv _ _ (.v _)
 |iv _ _ h1=>exact .iv _ _ h1
 |agg _ _ h1 h2=>exact .agg _ _ h1 h2
 |a7 _ _ h1 h2=>exact .a7 _ _ h1 h2
 |ptr _ _ h1=>exact .ptr _ _ h1
 |cV _ _ _ _ h1=>exact .cV _ _ _ _ h1
 |fe _ _ h1=>exact .fe _ _ h1
 |ot _ _ _ h1=>exact .ot _ _ _ h1
 |sl _ _ _ _ _ h1 h2 h3 h4 h5=>exact .sl _ _ _ _ _ h1 h2 h3 h4 h5
 |lx _ _ h1=>exact .lx _ _ h1
 |sle _ _ _ h1 h2 h3=>exact .sle _ _ _ h1 h2 h3
 |mp _ h1=>exact .mp _ h1
 |cB _ _ _ _ _ h1 h2 h3 h4=>exact .cB _ _ _ _ _ h1 h2 h3 h4
 |any=>exact .any _
def bP(f:AF)(c:Call):Option (FuncId×List PV):=
 match c.callee with
 | .value g=>match ev f g with
  | .cB (.func k) first caps=>io (k,first++(c.args.toList.map (fun x=>(ev f x).plain)++caps))
  |_=>is
 |_=>is
theorem wD{M:Mem}{N:Nm}{a:Act}{w:World}(hf:Fits M N s nt a w){o:Oper}{c:Call}(ho:o.op= .call c){k:FuncId}{asv:List PV}(ha:bP s.f c=io (k,asv))(hc:fK P k):
  ∃vs:List Value,(execOp a.eval o).run P w= .ok (.enter k vs.toArray) w∧asv.length=vs.length∧ ∀(j:Nat) (p:PV),asv[j]? =io p->VR M N (· <s.nx) p (vs.getD j undef):=by
 unfold bP at ha;obtain⟨callee,u,B⟩:=c;cases callee with
 |value g=>
  simp only at ha;have D:=aO hf.2.1 g;split at ha
  .rename_i k' first caps hev;simp only[W3,Xe]at ha;obtain⟨rfl,rfl⟩:=ha;rw[hev]at D;generalize hv:a.eval g=v at D;cases D with
   |cB _ _ _ f' c' h1 h2 hr1 hr2=>
    have J:(u.toList.map (fun x=>(ev s.f x).plain)).length=(u.map a.eval).size∧ ∀j p,(u.toList.map (fun x=>(ev s.f x).plain))[j]? =io p->VR M N (· <s.nx) p ((u.map a.eval).getD j undef):=by
     refine⟨by simp,fun j p y=>?_⟩;rw[W9,Xa]at y;obtain⟨x,hx,rfl⟩:=y;have I:u[j]? =io x:=by simpa using hx
     rw[WZ,ZG,I];exact(aO hf.2.1 x).plain
    have A:(execOp a.eval o).run P w= .ok (.enter k' (f'++u.map a.eval++c')) w:=by
     simp only[execOp,ho,resolve,hv,Deferred.ofValue,pure_bind,invoke];exact hc _ w
    have G: ∀(j:Nat) (p:PV),(first++(u.toList.map (fun x=>(ev s.f x).plain)++caps))[j]? =io p->VR M N (· <s.nx) p ((f'++u.map a.eval++c').toList.getD j undef):=by
     intro j p y;have Y:(u.toList.map (fun x=>(ev s.f x).plain)).length=(u.map a.eval).size:=J.1;rw[W2,aap,aap,Xf];rcases XZ j first.length with hj|hj
     .rw[Xn hj]at y;rw[Xn (by simpa[<-h1]using hj)];have:=hr1 j p y;rw[WZ]at this;simpa using this
     .rw[Xl hj]at y;rw[Xl (by simpa[<-h1]using hj)];rcases XZ (j-first.length) (u.toList.map (fun x=>(ev s.f x).plain)).length with hj2|hj2
      .rw[Xn hj2]at y;rw[Xn (by simp[<-h1]at hj2 ⊢;omega)];have:=J.2 _ p y;rw[WZ]at this;simpa[<-h1]using this
      .rw[Xl hj2]at y;rw[Xl (by simp[<-h1]at hj2 ⊢;omega)];have:=hr2 _ p y;rw[WZ]at this;simpa[<-h1]using this
    refine⟨(f'++u.map a.eval++c').toList,by rw[YI];exact A,?_,G⟩;simp[<-h1,<-h2]
  .cases ha
 |_=>simp at ha
theorem lM{o:Oper}{c:Call}(ho:o.op= .call c){k:FuncId}{asv:List PV}(ha:bP s.f c=io (k,asv)){args:List PV}{os:List AO}{R:PV->AH->Nat->Prop}(hc:Fn P k args os R)
  {L:List Nat} (hnd:L.Nodup) (hL: ∀j∈L,j<s.nx) (Y:L.map s.h.get=os.map fun o=>io (o.b5 (sig L s.nx))) (u:asv=dh (sig L s.nx) args) {S:AS->Prop}
  (hS: ∀r y A,R r y A-> ∃s',putDst nt o (r.b5 (sig L s.nx)) (aC s L y A)=io s'∧S s'):OT P nt o s S:=by
 intro M N a w hf K Z hk;obtain⟨vs,h1,h2,h3⟩:=wD hf ho ha hc.1;have D:args.length=vs.length:=by rw[<-h2,u,bL,Xw]
 unfold Oper.wp;rw[h1];simp only[Oper.upon];refine(hc.calls hnd hL Y hf.1 D (fun j p I=>h3 j (p.b5 (sig L s.nx)) (by rw[u,bL,W9,I];rfl))).mono ?_;rintro e J ⟨x,M',N',r,y,A,rfl,hR,hx,hr,hvr⟩;obtain⟨s',I,G⟩:=hS r y A hR;have B:Fits M' N' (aC s L y A) nt a J:=⟨hr,hf.2.1.ext hx,hf.2.2⟩
 show K (a.put o.dst x) J;cases hd:o.dst with
 |none=>
  have:=dR I hd;subst this;exact hk M' N' _ _ J hx B G
 |some d=>
  obtain⟨h1,rfl⟩:=dQ I hd;exact hk M' N' {aC s L y A with f:=(d,r.b5 (sig L s.nx))::(aC s L y A).f} _ J hx (B.put d _ x h1 hvr) G
def mT:Nat->List PV->AF
 |_,[]=> []
 |n,p::r=>(n,p)::mT (n+1) r
theorem w4: ∀(l:List PV) (n i:Nat),(mT n l).get i=if n<=i then l.getD (i-n) .any else .any
 | [],n,i=>by simp[mT,AF.get]
 |p::r,n,i=>by
  simp only[mT];rw[AF.ay,w4 r (n+1) i];by_cases h:i=n
  .subst h;simp
  .by_cases j:n<=i
   .rw[be h,am (by omega),am j,show i-n=(i-(n+1))+1 by omega];simp
   .rw[be h,be (by omega),be j]
def zs(ty:Ty)(s:AS):ResultVar->Option PV
 | .tmp t=>match s.f.get t with
  | .kb b=>io (.iv (.v (.bool b)))
  |p=>io p
 | .cell a t=>match ty t with
  |some e=>match behind s.h (s.f.get a) with
   |some cs=>iq e cs
   |none=>is
  |none=>is
def sW(ty:Ty)(s:AS):List ResultVar->Option (List PV)
 | []=>io []
 |v::r=>match zs ty s v with
  |some p=>match sW ty s r with
   |some l=>io (p::l)
   |none=>is
  |none=>is
def jh(ty:Ty)(s:AS)(l:List ResultVar):Option PV:=
 match sW ty s l with
 |some [p]=>io p
 |some l=>io (.a7 l)
 |none=>is
def qK(tmps:Array Value):ResultVar->Sem Value
 | .tmp t=>pure (tmps.getD t undef)
 | .cell a t=>do loadVar t (<-asAddr (tmps.getD a undef))
theorem Gu{ty:Ty}(A:bq P ty){M:Mem}{N:Nm}{a:Act}{w:World}(hf:Fits M N s nt a w){v:ResultVar}{p:PV}(h:zs ty s v=io p):
  ∃x,(qK a.tmps v).run P w= .ok x w∧VR M N (· <s.nx) p x:=by
 cases v with
 |tmp t=>
  simp only[zs]at h;have:=hf.2.1 t;split at h
  .rename_i b hb;simp only[W3]at h;subst h;rw[hb]at this;refine⟨_,rfl,?_⟩;show VR M N _ _ (a.tmps.getD t undef);generalize a.tmps.getD t undef=v at this;cases this;exact .iv _ _ (.v _)
  .simp only[W3]at h;subst h;exact⟨_,rfl,this⟩
 |cell b t=>
  simp only[zs]at h;split at h
  .rename_i e B;split at h
   .rename_i Y u;obtain⟨J,a0,G,j⟩:=yW hf.1 (hf.2.1 b) u;obtain⟨y,I,D⟩:=tM (P:=P) (A t e B) j h;refine⟨y,?_,D⟩;simp only[qK,G,asAddr,pure_bind];exact I
   .cases h
  .cases h
theorem xY{ty:Ty}(y:bq P ty){M:Mem}{N:Nm}{a:Act}{w:World}(hf:Fits M N s nt a w): ∀{l:List ResultVar} {A:List PV},sW ty s l=io A->
  ∃B:List Value,(l.mapM (qK a.tmps)).run P w= .ok B w∧A.length=B.length∧ ∀(j:Nat) (p:PV),A[j]? =io p->VR M N (· <s.nx) p (B.getD j undef)
 | [],A,h=>by
  simp only[sW,W3]at h;subst h;exact⟨[],rfl,rfl,by simp⟩
 |v::r,A,h=>by
  simp only[sW]at h;split at h
  .rename_i p J;split at h
   .rename_i l hl;simp only[W3]at h;subst h;obtain⟨x,hx,Y⟩:=Gu y hf J;obtain⟨B,I,u,G⟩:=xY y hf hl;refine⟨x::B,?_,by simp[u],fun j q D=>?_⟩
    .rw[List.mapM_cons,Sem.run_bind,hx,Result.andThen_ok,Sem.run_bind,I];rfl
    .cases j with
     |zero=>simp at D;subst D;exact Y
     |succ j=>simpa using G j q (by simpa using D)
   .cases h
  .cases h
theorem uH{ty:Ty}(J:bq P ty){M:Mem}{N:Nm}{a:Act}{w:World}(hf:Fits M N s nt a w){fn:Func}{l:List ResultVar}(hl:fn.results.toList=l){p:PV}(h:jh ty s l=io p):
  ∃x,(results fn a.tmps).run P w= .ok x w∧VR M N (· <s.nx) p x:=by
 unfold jh at h;have key: ∀G,sW ty s l=io G-> ∃y:List Value,(fn.results.mapM (qK a.tmps)).run P w= .ok y.toArray w∧G.length=y.length∧ ∀(j:Nat) (p:PV),G[j]? =io p->VR M N (· <s.nx) p (y.getD j undef):=by
  intro G D;obtain⟨y,h1,u,I⟩:=xY J hf D;refine⟨y,?_,u,I⟩;have e:fn.results.mapM (qK a.tmps)=(List.toArray<$>(fn.results.toList.mapM (qK a.tmps))):=by
   rw[Z1]
  rw[e,hl,Sem.run_map,h1];rfl
 have A:results fn a.tmps=(do let vs<-fn.results.mapM (qK a.tmps);pure (if h:vs.size=1 then vs[0] else .tuple vs)):=by
  unfold results;rfl
 split at h
 .rename_i q hq;simp only[W3]at h;subst h;obtain⟨y,h1,u,I⟩:=key _ hq
  match y,u with
  | [x],_=>
   refine⟨x,?_,by simpa using I 0 q Z⟩;rw[A,Sem.run_bind,h1];rfl
 .rename_i G B D;simp only[W3]at h;subst h;obtain⟨y,h1,u,I⟩:=key _ D;refine⟨.tuple y.toArray,?_,.a7 _ _ (by simpa using u) (fun j p Y=>?_)⟩
  .rw[A,Sem.run_bind,h1,Result.andThen_ok];have: ¬y.toArray.size=1:=by
    intro e
    match G,B,u with
    | [q],B,_=>exact B q Z
    | [],_,u=>simp at u e;omega
    |_::_::_,_,u=>simp at u e;omega
   rw[dif_neg this];rfl
  .have:=I j p Y;rw[WZ];rw[W2]at this;simpa using this
 .cases h
theorem Fu{fn:Func}{nt:Nat}(A:fn.ntmps=nt){args:List PV}(y:args.length<=nt){os:List AO}{M:Mem}{N:Nm}{w:World}{vs:List Value}(hr:Rel M N (· <os.length) (cO 0 os) w)(u:args.length=vs.length)
  (B: ∀(j:Nat) (p:PV),args[j]? =io p->VR M N (· <os.length) p (vs.getD j undef)):Fits M N ⟨mT 0 args,cO 0 os,os.length⟩ nt {tmps:=vs.toArray++Y8 (fn.ntmps-vs.toArray.size) undef,defers:=[]} w:=by
 refine⟨hr,fun i=>?_,rfl,by simp;omega⟩;rw[w4,am (Xc _),ZK,W2];cases hi:args[i]? with
 |none=>exact .any _
 |some p=>
  have x:i<vs.length:=by rw[<-u];exact(W4.1 hi).1
  have:=B i p hi;have e:(vs.toArray++Y8 (fn.ntmps-vs.toArray.size) undef).getD i undef=vs.getD i undef:=by
   rw[WZ,XF (by simpa using x),W2];simp
  simp only[X9];rw[e];exact this
theorem FO{ty:Ty}(b0:bq P ty){fn:Func}{c:Code}{nt:Nat}(J:fn.ntmps=nt)
  {l:List ResultVar} (hl:fn.results.toList=l) {args:List PV} (I:args.length<=nt) {os:List AO} {R:PV->AH->Nat->Prop}
  (h:GO P nt [.code c] (fun e s=>(e= .normal∨e= .ret)∧ ∃r,jh ty s l=io r∧R r s.h s.nx) ⟨mT 0 args,cO 0 os,os.length⟩):
  Tp (fun vs w R=>c.wp P (bodyPost P fn R) {tmps:=vs++Y8 (fn.ntmps-vs.size) undef,defers:=[]} w) args os R:=by
 intro M N w vs hr A hv;refine AW.then h (Fu J I hr A hv) fun e a' D u y s' hx j hq=>?_;simp only[kp]at hq;obtain⟨he,r,Y,a0⟩:=hq;obtain⟨x,c0,d0⟩:=uH b0 j hl Y
 have:a'.defers=[]∧ ∃v,(results fn a'.tmps).run P D= .ok v D∧(∃x u y r G B,Ending.returned v= .returned x∧R r G B∧Ext M N (· <os.length) (cO 0 os) w u y (· <B) G D∧Rel u y (· <B) G D∧VR u y (· <B) r x):=
  ⟨j.2.2.1,x,c0,x,u,y,r,s'.h,s'.nx,rfl,a0,hx,j.1,d0⟩
 rcases he with rfl|rfl<;>exact this
theorem D3 {ty:Ty} (y:bq P ty) {k:FuncId} {fn:Func} {c:Code} (hf:P.funcs[k]? =io fn) (hb:fn.body=io c) (hn:(fn.name== "runtime.NumGoroutine")=kw) {nt:Nat} (x:fn.ntmps=nt)
  {l:List ResultVar} (hl:fn.results.toList=l) {args:List PV} (u:args.length<=nt) {os:List AO} {R:PV->AH->Nat->Prop}
  (h:GO P nt [.code c] (fun e s=>(e= .normal∨e= .ret)∧ ∃r,jh ty s l=io r∧R r s.h s.nx) ⟨mT 0 args,cO 0 os,os.length⟩):Fn P k args os R:=
 ⟨bg hf hb hn,fun M N w vs hr j A=>calls_of_wp hf hb (FO y x hl u h M N w vs hr j A)⟩
end
theorem GU{ops:Array Oper}{o:Oper}(hs: ∀u b,o.op≠ .select u b){a b:Act}(h: ∀d∈o.looksAt ops,a.tmps[d]? =b.tmps[d]?):
  execOp a.eval o=execOp b.eval o∧Region.wanted o (Go.yielded ops a.tmps)=Region.wanted o (Go.yielded ops b.tmps):=by
 constructor
 .refine execOp_congr o hs fun x y=>?_
  cases x with
  |tmp t=>
   have:=h t (XV _ (List.mem_filterMap.2 ⟨.tmp t,by simpa using y,rfl⟩));simp only[Act.eval,WZ,this]
  |_=>rfl
 .unfold Region.wanted;cases hg:o.guard with
  |none=>rfl
  |some gw=>
   obtain⟨g,j⟩:=gw;have A:Go.yielded ops a.tmps g=Go.yielded ops b.tmps g:=by
    unfold Go.yielded;cases ht:(ops[g]?).bind (·.dst) with
    |none=>rfl
    |some t=>
     have:=h t (by simp[Oper.looksAt,hg,ht]);simp[this]
   simp only[A]
theorem lD{all:List Oper}{o x:Oper}(h:looks all o x=kw){d:Nat}(hd:x.dst=io d):d∉o.looksAt all.toArray:=by
 simp only[looks,hd]at h;simpa using h
theorem ij{o:Oper}{i:Nat}(h:waits o i=jp): ∃e∈o.after,Region.binds .any e=jp∧e.on=i:=by
 unfold waits at h;obtain⟨e,j,hb⟩:=Yr.1 h;simp only[XR]at hb;exact⟨e,by simpa using j,hb.1,Xs hb.2⟩
theorem jU: ∀(l:List Oper) (n i:Nat) (o:Oper),jc n l=jp->l[i]? =io o-> ∀e∈o.after,Region.binds .any e=jp->e.on<n+i
 | [],n,i,o,_,h=>by simp at h
 |c::l,n,i,o,hd,h=>by
  simp only[jc,XR,XO]at hd;cases i with
  |zero=>
   simp at h;subst h;intro e j hb;have:=hd.1 e (by simpa using j);simp only[hb,Zs,Y0]at this;exact WY this
  |succ i=>
   have:=jU l (n+1) i o hd.2 (by simpa using h);intro e j hb;have:=this e j hb;omega
theorem count_set: ∀(l:List Bool) (i:Nat),l[i]? =io kw->(l.set i jp).count kw+1=l.count kw
 | [],i,h=>by simp at h
 |c::l,0,h=>by simp at h;subst h;simp
 |c::l,i+1,h=>by
  have:=count_set l i (by simpa using h);simp only[List.set_cons_succ,List.count_cons];omega
theorem fq{listed:Array Bool}{i:Nat}(h:listed.getD i jp=kw):(listed.setIfInBounds i jp).toList.count kw+1=listed.toList.count kw:=by
 have hi:listed.toList[i]? =io kw:=by
  rw[WZ]at h;cases hc:listed[i]? with
  |none=>simp[hc]at h
  |some c=>simp[hc]at h;subst h;simpa using hc
 have:=count_set _ _ hi;rw[Array.toList_setIfInBounds];exact this
theorem tv{listed:Array Bool}{i:Nat}(h:listed.getD i jp=kw):0<listed.toList.count kw:=by have:=fq h;omega
theorem fz{listed:Array Bool}{i k:Nat}(hi:i<listed.size):(listed.setIfInBounds i jp).getD k jp=if k=i then jp else listed.getD k jp:=by
 by_cases hk:k=i
 .subst hk;simp[WZ,hi]
 .rw[be hk,WZ,XD,be (fun e=>hk e.symm),WZ]
theorem eZ{listed:Array Bool}{i:Nat}(h:listed.getD i jp=kw):i<listed.size:=by
 rcases XZ i listed.size with h'|h'
 .exact h'
 .simp[WZ,Zr h']at h
theorem nV{listed:Array Bool}{i:Nat}(h:listed.getD i jp=kw):listed.getD i kw=kw:=by
 have:=eZ h;rw[WZ] at*
 simpa[this]using h
theorem qN{all:List Oper}{listed:Array Bool}(A:listed.size=all.length)(hd:jc 0 all=jp)(hr:Region.ready .any all.toArray listed=[]): ∀i,listed.getD i jp=jp:=by
 intro i
 induction i using Nat.strongRecOn with
 |_ i ih=>
  cases hc:listed.getD i jp with
  |true=>rfl
  |false=>
   have hi:=eZ hc;have u:all[i]? =io (all[i]'(by omega)):=W5 (by omega);have:i∈Region.ready .any all.toArray listed:=by
    refine mem_ready.2 ⟨hc,_,(by rw[XP];exact u),fun e x hb=>?_⟩;have y:=jU all 0 i _ hd u e x hb;have:=ih e.on (by omega);have j:e.on<listed.size:=by omega
    rw[WZ]at this ⊢;simpa[j]using this
   rw[hr]at this;cases this
section
variable {P:Program} {nt:NT} {all:List Oper} {todo pend:List (Nat×Oper)} {M:Mem} {N:Nm} {s:AS} {listed:Array Bool} {a:Act} {w:World} {Q:AQ}
theorem qs.alloc{B:Bs}{o:Oper}{aA:Nat}(h:qs P M N s B a w o aA):aV o=jp:=by
 obtain⟨t,v,d,h1,_⟩:=h;simp[aV,h1]
theorem jX.xi(u:jX P nt all){i j:Nat}{o q:Oper}(hi:all[i]? =io o)(hj:all[j]? =io q)(ha:aV o=jp)(hw:waits q i=kw)(hne:j≠i):looks all q o=kw:=by
 rcases((u i o hi ha).2.2.2.2 j q hj hne).1 with h|h
 .rw[hw]at h;cases h
 .exact h
theorem nY.same{b:Act}(hb: ∀d,(∀x∈pend,listed.getD x.1 jp=kw->x.2.dst≠io d)->(∀x∈todo,listed.getD x.1 jp=jp->x.2.dst≠io d)->a.tmps[d]? =b.tmps[d]?)
  (hns:Region.noSelect all.toArray=jp) {i:Nat} {o:Oper} (ho:all[i]? =io o) (hr:i∈Region.ready .any all.toArray listed) (hp: ∀x∈pend,waits o x.1=jp∨looks all o x.2=kw)
  (G: ∀x∈todo,listed.getD x.1 jp=jp->looks all o x.2=kw):
  execOp a.eval o=execOp b.eval o∧Region.wanted o (Go.yielded all.toArray a.tmps)=Region.wanted o (Go.yielded all.toArray b.tmps):=by
 refine GU (Region.noSelect_spec hns i o · · (by simpa using ho)) fun d hd=>hb d (fun x D hl u=>?_) (fun x D hl u=>lD (G x D hl) u hd);rcases hp x D with h|h
 .obtain⟨e,u,y,B⟩:=ij h;obtain⟨_,I,A,j⟩:=mem_ready.1 hr;have:I=o:=by have:=A.symm.trans (by simpa using ho:all.toArray[i]? =io o);exact X4 this
  subst this;have h1:=j e u y;rw[B,nV hl]at h1;cases h1
 .exact lD h u hd
theorem fZ(a:Act)(a0:Option Tmp)(v:Value)(d:Nat):(a.put a0 v).tmps[d]? =if a0=io d∧d<a.tmps.size then io v else a.tmps[d]? :=by
 cases a0 with
 |none=>simp[Act.put]
 |some e=>
  simp only[Act.put,W3];rw[XD];by_cases h:e=d
  .subst h;by_cases j:e<a.tmps.size
   .simp[j]
   .simp[j]
  .simp[h]
theorem jG(a:Act)(a0:Option Tmp)(v:Value):(a.put a0 v).tmps.size=a.tmps.size:=by cases a0<;>simp[Act.put]
theorem lz(a:Act)(a0:Option Tmp)(v:Value):(a.put a0 v).defers=a.defers:=by cases a0<;>rfl
theorem x8(a:Act)(a0:Option Tmp)(v:Value):(a.put a0 v).put a0 v=a.put a0 v:=by cases a0<;>simp[Act.put]
theorem qs.put{B:Bs}{o:Oper}{aA:Nat}(h:qs P M N s B a w o aA){a0:Option Tmp}{v:Value}(hd: ∀d,o.dst=io d->a0≠io d):qs P M N s B (a.put a0 v) w o aA:=by
 obtain⟨t,u,d,h1,x,j,y,A⟩:=h;refine⟨t,u,d,h1,x,j,?_,A⟩;rw[fZ,be (fun D=>hd d j D.1)];exact y
theorem nY.take{B:Bs}(hi:nY P nt all todo pend B M N s listed a w)(hns:Region.noSelect all.toArray=jp)(f0:jX P nt all){x:Nat×Oper}(D:x∈pend)(hr:x.1∈Region.ready .any all.toArray listed):
  ∃v,YieldsAt P all.toArray w x.2 v a∧nY P nt all todo pend B M N s (listed.setIfInBounds x.1 jp) (a.put x.2.dst v) w:=by
 obtain⟨b,hb,d0,n0,e0,I⟩:=hi.ap;obtain⟨bl,g0,o0⟩:=hi.er;have hl:=(mem_ready.1 hr).1;obtain⟨v,hv,c0⟩:=I x D hl;have J: ∀y∈todo,listed.getD y.1 jp=jp->looks all x.2 y.2=kw∧ ∀d,y.2.dst=io d->x.2.dst≠io d:=fun y j u=>by
  have Y:=(g0 y j u).alloc;exact⟨f0.xi (hi.tl y j) (hi.pl x D) Y (hi.pa x D y j Y) (fun e=>hi.dj x D y j e.symm),((f0 _ _ (hi.tl y j) Y).2.2.2.2 _ _ (hi.pl x D) (fun e=>hi.dj x D y j e.symm)).2⟩
 have A:=nY.same e0 hns (hi.pl x D) hr (fun y I=>hi.pp y I x D) (fun y j u=>(J y j u).1);have b0:=eZ hl;have i0: ∀k,(listed.setIfInBounds x.1 jp).getD k jp=kw->k≠x.1∧listed.getD k jp=kw:=by
  intro k hk;rw[fz b0]at hk;split at hk
  .cases hk
  .rename_i h;exact⟨h,hk⟩
 have G: ∀y∈todo,(listed.setIfInBounds x.1 jp).getD y.1 jp=listed.getD y.1 jp:=fun y I=>by rw[fz b0,be (hi.dj x D y I)]
 refine⟨v,hv.of_same A.1 A.2,⟨by simp[hi.size],hi.tl,hi.pl,hi.dj,fun i o ho hu=>hi.N7 i o ho (i0 i hu).2,hi.pw,hi.pp,hi.pa,⟨bl,fun y j u=>?_,fun y j z k0 h1 h2=>?_⟩,b,hb,by rw[jG,d0],by rw[lz,n0],fun d hd m0=>?_,fun y p0 hu=>?_⟩⟩
 .rw[G y j]at u;exact(g0 y j u).put (J y j u).2
 .rw[G y j]at h1;rw[G z k0]at h2;exact o0 y j z k0 h1 h2
 .rw[fZ];split
  .rename_i h;rw[<-c0,fZ,am ⟨h.1,by rw[<-d0];exact h.2⟩]
  .rename_i h;by_cases a0:x.2.dst=io d
   .have h2: ¬d<a.tmps.size:=fun h3=>h ⟨a0,h3⟩
    rw[Zr (YA h2),Zr (by rw[<-d0];exact YA h2)]
   .refine e0 d (fun y I hu he=>?_) (fun y j u=>m0 y j (by rw[G y j];exact u));by_cases j0:y.1=x.1
    .have h3:=hi.pl y I;rw[j0,hi.pl x D]at h3;rw[X4 h3]at a0;exact a0 he
    .exact hd y I (by rw[fz b0,be j0];exact hu) he
 .exact I y p0 (i0 _ hu).2
theorem Rel.more{M:Mem}{N:Nm}{n:Nat}{h:AH}{w j:World}(hr:Rel M N (· <n) h w)(hk: ∀b,b<w.heap.size->j.heap[b]? =w.heap[b]?):Rel M N (· <n) h j:=by
 refine⟨fun b c hb=>?_,hr.used,hr.dS,fun i o hi=>?_,hr.inj⟩
 .exact(hr.dK b c hb).mono (hk b (hr.dK b c hb).lt)
 .cases hre:o.real with
  |true=>exact(hr.obj i o hi).mono (.refl _) (.refl _ _) (fun _ h=>h) (hr.used i o hi) (hk _ (hr.lt hi hre))
  |false=>
   cases o with
   |row sz es=>cases es with
    |nil=>exact .inl Z
    |cons=>cases hre
   |bz l T=>cases l with
    |nil=>exact .inl Z
    |cons=>cases hre
   |_=>cases hre
theorem DE{ops:Array Oper}(h: ∀i,listed.getD i jp=jp):Region.ready .any ops listed=[]:=by
 cases hr:Region.ready .any ops listed with
 |nil=>rfl
 |cons i r=>
  have:i∈Region.ready .any ops listed:=by rw[hr];simp
  have:=(mem_ready.1 this).1;rw[h i]at this;cases this
theorem nY.done{B:Bs}(hi:nY P nt all [] pend B M N s listed a w)(j: ∀i,listed.getD i jp=jp):Fits M N s nt a w:=by
 obtain⟨b,hb,A,u,y,_⟩:=hi.ap;have ht:a.tmps=b.tmps:=Array.ext_getElem? fun d=>y d (fun x _ hu=>by rw[j]at hu;cases hu) (fun _ D=>(nomatch D));have:a=b:=by cases a;cases b;simp only at ht u;subst ht;subst u;rfl
 rw[this];exact hb
theorem SQ(h:Q .normal s):DL P nt all [] pend Q s:=by
 intro D hd y B M N listed a w j J
 induction j generalizing listed a with
 |zero=>
  intro hi hc;have u: ∀i,listed.getD i jp=jp:=fun i=>by
   cases hx:listed.getD i jp with
   |true=>rfl
   |false=>have:=tv hx;omega
  exact⟨DE u,M,N,s,J,hi.done u,h⟩
 |succ j ih=>
  intro hi hc;refine⟨fun hr=>⟨M,N,s,J,hi.done (qN hi.size hd hr),h⟩,fun i x=>?_⟩;obtain⟨hu,o,Y,_⟩:=mem_ready.1 x;have G:all[i]? =io o:=by simpa using Y
  rcases hi.N7 i o G hu with hm|hm
  .cases hm
  .obtain⟨v,hv,A⟩:=hi.take D y hm x;refine wpOp_of_stOp (K:=fun I=>I=a.put o.dst v) (fun I ha=>?_) (hv.stOp Y Z);subst ha;exact ih _ _ A (by have:=fq hu;omega)
def xD(all:List Oper)(pend:List (Nat×Oper))(o:Oper):Bool:=
 !looks all o o&&pend.all fun y=>!looks all y.2 o&&(waits o y.1||!looks all o y.2)&&(match o.dst,y.2.dst with|some d,io e=>!Xv d e|_,_=>jp)
theorem nY.read{B:Bs}(hi:nY P nt all todo pend B M N s listed a w)(hns:Region.noSelect all.toArray=jp){i:Nat}{o:Oper}{s':AS}(D:(i,o)∈todo)(n0:aV o=kw)(r0: ∀x∈todo,waits o x.1=kw)(j:xD all pend o=jp)(he:s'.h=s.h∧s'.nx=s.nx)
  (hy: ∀M N b w,Fits M N s nt b w-> ∃v,YieldsAt P all.toArray w o v b∧Fits M N s' nt (b.put o.dst v) w):nY P nt all (todo.filter fun x=>!Xv x.1 i) ((i,o)::pend) B M N s' listed a w:=by
 have I: ∀x∈todo.filter fun x=>!Xv x.1 i,x∈todo∧x.1≠i:=fun x hx=>by
  obtain⟨h7,h8⟩:=XG.1 hx;exact⟨h7,fun e=>by simp[e]at h8⟩
 have h1: ∀x∈todo,x=(i,o)∨x∈todo.filter fun x=>!Xv x.1 i:=fun x hx=>by
  by_cases G:x.1=i
  .have J:=hi.tl x hx;rw[G,hi.tl _ D]at J;exact .inl (by obtain⟨x1,x2⟩:=x;simp only at G J;rw[G,X4 J])
  .exact .inr (XG.2 ⟨hx,by cases hb:Xv x.1 i with|false=>rfl|true=>exact absurd (Xs hb) G⟩)
 simp only[xD,XR,XO,Ye]at j;obtain⟨b,hb,o0,j0,d0,s0⟩:=hi.ap;obtain⟨bl,b0,m0⟩:=hi.er;have c0:listed.getD i jp=kw:=by
  cases hl:listed.getD i jp with
  |false=>rfl
  |true=>have:=(b0 _ D hl).alloc;simp only at this;rw[n0]at this;cases this
 obtain⟨v,hv,hf⟩:=hy M N b w hb;refine⟨hi.size,fun x hx=>hi.tl x (I x hx).1,fun x hx=>?_,fun x hx y hy=>?_,fun k q hk hu=>?_,?_,fun x hx y hy=>?_,fun y hyp x hx e0=>?_,⟨bl,fun x hx hl=>?_,fun x hx y hy=>m0 x (I x hx).1 y (I y hy).1⟩,b.put o.dst v,hf,by rw[jG,o0],by rw[lz,j0],fun d Y i0=>?_,fun x hx hu=>?_⟩
 .rcases Xm.1 hx with rfl|hx
  .exact hi.tl _ D
  .exact hi.pl x hx
 .rcases Xm.1 hx with rfl|hx
  .exact(I y hy).2
  .exact hi.dj x hx y (I y hy).1
 .rcases hi.N7 k q hk hu with hm|hm
  .rcases h1 _ hm with e|hm
   .exact .inr (by rw[e];simp)
   .exact .inl hm
  .exact .inr (Xi _ hm)
 .refine Yd.2 ⟨fun y hy=>⟨(j.2 y hy).1.1,fun d a0 k0=>?_⟩,hi.pw⟩;have:=(j.2 y hy).2;simp only at a0;rw[a0,k0]at this;simp at this
 .rcases Xm.1 hx with rfl|hx<;>rcases Xm.1 hy with rfl|hy
  .exact .inr j.1
  .exact .inr (j.2 y hy).1.1
  .have:=(j.2 x hx).1.2;simpa using this
  .exact hi.pp x hx y hy
 .rcases Xm.1 hyp with rfl|hyp
  .exact r0 x (I x hx).1
  .exact hi.pa y hyp x (I x hx).1 e0
 .have J:=b0 x (I x hx).1 hl;unfold qs at*
  rw[he.1];exact J
 .rw[fZ,be (fun hc=>Y (i,o) (by simp) c0 hc.1)];refine d0 d (fun x hx=>Y x (Xi _ hx)) (fun x hx hl=>?_);rcases h1 x hx with e|hx
  .rw[e]at hl;simp only at hl;rw[c0]at hl;cases hl
  .exact i0 x hx hl
 .have A: ∀x:Oper,looks all x o=kw-> ∀d,o.dst=io d->d∉x.looksAt all.toArray:=fun x hx d hd=>lD hx hd
  rcases Xm.1 hx with rfl|hx
  .exact⟨v,hv.of_same (execOp_put o (fun cs b=>Region.noSelect_spec hns i o cs b (by simpa using hi.tl _ D)) b o.dst v (A o j.1)) (wanted_put o b o.dst v (A o j.1)),x8 _ _ _⟩
  .obtain⟨u,p0,q0⟩:=s0 x hx hu;have hl:=(j.2 x hx).1.1;refine⟨u,p0.of_same (execOp_put x.2 (fun cs b=>Region.noSelect_spec hns x.1 x.2 cs b (by simpa using hi.pl x hx)) b o.dst v (A x.2 hl)) (wanted_put x.2 b o.dst v (A x.2 hl)),?_⟩;rw[Act.put_comm b v u (fun d f0 g0=>?_),q0];have:=(j.2 x hx).2;rw[f0,g0]at this;simp at this
theorem FC{i:Nat}{o:Oper}{s':AS}(D:(i,o)∈todo)(G:aV o=kw)(I: ∀x∈todo,waits o x.1=kw)(u:xD all pend o=jp)(he:s'.h=s.h∧s'.nx=s.nx)
  (hy: ∀M N b w,Fits M N s nt b w-> ∃v,YieldsAt P all.toArray w o v b∧Fits M N s' nt (b.put o.dst v) w) (h:DL P nt all (todo.filter fun x=>!Xv x.1 i) ((i,o)::pend) Q s'):DL P nt all todo pend Q s:=by
 intro y hd A B M N listed a w j J hi Y;exact h y hd A B M N listed a w j (by unfold Bs.ext at*;rw[he.1,he.2];exact J) (hi.read y D G I u he hy) Y
theorem pO(hns:Region.noSelect all.toArray=jp): ∀{pend:List (Nat×Oper)},(∀x∈pend,all[x.1]? =io x.2)->(pend.Pairwise fun x y=>looks all y.2 x.2=kw∧ ∀d,x.2.dst=io d->y.2.dst≠io d)->
  (∀x∈pend,looks all x.2 x.2=kw)->(∀x∈pend,fm P nt all s x.2)-> ∀{b:Act},Fits M N s nt b w->
  ∃c:Act,Fits M N s nt c w∧c.tmps.size=b.tmps.size∧c.defers=b.defers∧(∀d,(∀x∈pend,listed.getD x.1 jp=kw->x.2.dst≠io d)->c.tmps[d]? =b.tmps[d]?)∧
   (∀x∈pend,listed.getD x.1 jp=kw-> ∃v,YieldsAt P all.toArray w x.2 v c∧c.put x.2.dst v=c)
 | [],_,_,_,_,b,hb=>⟨b,hb,rfl,rfl,fun _ _=>rfl,fun x hx=>by cases hx⟩
 |(i,o)::pend,hpl,hpw,hse,hag,b,hb=>by
  rw[Yd]at hpw;obtain⟨c,hc,I,G,B,D⟩:=pO hns (pend:=pend) (fun x hx=>hpl x (Xi _ hx)) hpw.2 (fun x hx=>hse x (Xi _ hx)) (fun x hx=>hag x (Xi _ hx)) hb;cases hu:listed.getD i jp with
  |true=>
   refine⟨c,hc,I,G,fun d hd=>B d fun x hx=>hd x (Xi _ hx),fun x hx A=>?_⟩;rcases Xm.1 hx with rfl|hx
   .rw[hu]at A;cases A
   .exact D x hx A
  |false=>
   obtain⟨v,hv,hf⟩:=hag (i,o) (by simp) M N c w hc;have j: ∀x:Oper,looks all x o=kw-> ∀d,o.dst=io d->d∉x.looksAt all.toArray:=fun x hx d hd=>lD hx hd;refine⟨c.put o.dst v,hf,by rw[jG,I],by rw[lz,G],fun d hd=>?_,fun x hx A=>?_⟩
   .rw[fZ,be (fun h=>hd (i,o) (by simp) hu h.1)];exact B d fun x hx=>hd x (Xi _ hx)
   .rcases Xm.1 hx with rfl|hx
    .have hl:=hse (i,o) (by simp);exact⟨v,hv.of_same (execOp_put o (fun J b=>Region.noSelect_spec hns i o J b (by simpa using hpl (i,o) (by simp))) c o.dst v (j o hl)) (wanted_put o c o.dst v (j o hl)),x8 _ _ _⟩
    .obtain⟨u,b0,c0⟩:=D x hx A;have hl:=(hpw.1 x hx).1;refine⟨u,b0.of_same (execOp_put x.2 (fun J b=>Region.noSelect_spec hns x.1 x.2 J b (by simpa using hpl x (Xi _ hx))) c o.dst v (j x.2 hl)) (wanted_put x.2 c o.dst v (j x.2 hl)),?_⟩;rw[Act.put_comm c v u (fun d Y a0=>(hpw.1 x hx).2 d Y a0),c0]
theorem KU{o:Oper}{a b:Act}{w:World}{K K':Act->World->Prop}{Q:Exit->Act->World->Prop}(he:execOp a.eval o=execOp b.eval o)(u: ∀d j,¬K' ({b with defers:=d::b.defers}.put o.dst undef) j)
  (hk: ∀v j,K' (b.put o.dst v) j->K (a.put o.dst v) j) (h:o.wp P b w K' fun _ _ _=>False):o.wp P a w K Q:=by
 unfold Oper.wp at*
 rw[he];generalize(execOp b.eval o).run P w=r at*
 cases r with
 |ok n j=>
  cases n<;>simp only[Oper.upon]at h ⊢
  case value v=>exact hk _ _ h
  case skip=>exact hk _ _ h
  case defer d=>exact absurd h (u d j)
  case enter f args=>
   refine Calls.mono h fun e y he=>?_
   cases e with
   |returned v=>exact hk _ _ he
   |panicked c=>exact he.elim
   |outgrown=>obtain⟨_,_,h⟩:=he;exact h.elim
  case row row args=>exact Rows.mono h fun v y he=>hk _ _ he
 |halt x j=>cases x<;>simp only[Oper.upon]at h ⊢
def gY(all:List Oper)(pend:List (Nat×Oper))(o:Oper):Bool:=pend.all fun x=>waits o x.1||!looks all o x.2
theorem nY.early{B:Bs}(hi:nY P nt all todo pend B M N s listed a w)(hns:Region.noSelect all.toArray=jp)(hd:jc 0 all=jp)(n0:jX P nt all)(hB:B.ext M N s w)(d0: ∀x∈pend,fm P nt all s x.2){j:Nat}{o:Oper}(hm:(j,o)∈todo)(ha:aV o=jp)
  (hu:listed.getD j jp=kw): ∃v w',(execOp a.eval o).run P w= .ok (.value v) w'∧B.ext M N s w'∧nY P nt all todo pend B M N s (listed.setIfInBounds j jp) (a.put o.dst v) w':=by
 obtain⟨b,hb,k0,t0,m0,hy⟩:=hi.ap;obtain⟨bl,j0,w0⟩:=hi.er;obtain⟨h1,⟨d,J,v0⟩,⟨t,z,ht,hz⟩,_,e0⟩:=n0 j o (hi.tl _ hm) ha;have D:=eZ hu;have hk: ∀b,b<w.heap.size->(w.alloc (.cells z.cells t)).heap[b]? =w.heap[b]? :=fun b hb=>AD w _ b hb
 have a0:Ext M N (· <s.nx) s.h w M N (· <s.nx) s.h (w.alloc (.cells z.cells t)):=
  ⟨rfl,rfl,⟨rfl,W8 _⟩,by simp,fun b hb _=>hk b hb,.refl _,fun b c h1 h2=>by simp[h1]at h2,.refl _ _,fun _ h=>h,fun i o hi f0=> .inr ⟨i,o,hi,f0,rfl⟩⟩
 have z0: ∀x∈pend,looks all x.2 x.2=kw:=fun x A=>by
  rcases hi.pp x A x A with h7|h7
  .obtain⟨e,he,hb,e1⟩:=ij h7;have:=jU all 0 x.1 x.2 hd (hi.pl x A) e he hb;omega
  .exact h7
 obtain⟨c,q0,r0,p0,o0,s0⟩:=pO (listed:=listed.setIfInBounds j jp) hns hi.pl hi.pw z0 d0 (M:=M) (N:=N) (w:=w.alloc (.cells z.cells t)) (b:=b) ⟨hb.1.more hk,hb.2⟩;refine⟨.pointer (io ⟨w.heap.size,0,is⟩),w.alloc (.cells z.cells t),?_,hB.trans a0,by simp[hi.size],hi.tl,hi.pl,hi.dj,fun i q hq c0=>?_,hi.pw,hi.pp,hi.pa,⟨fun k=>if k=j then w.heap.size else bl k,fun x A hl=>?_,fun x A y hy G Y b0=>?_⟩,c,q0,by rw[jG,r0,k0],by rw[lz,p0,t0],fun d' g0 i0=>?_,s0⟩
 .simp only[execOp,ht];simp[Instr.alloc,hz,newVar,newRow]
 .rw[fz D]at c0;split at c0
  .cases c0
  .exact hi.N7 i q hq c0
 .simp only;by_cases u:x.1=j
  .have b1:x.2=o:=by
    have:=hi.tl x A;rw[u,hi.tl _ hm]at this;exact(X4 this).symm
   rw[am u,b1];refine⟨t,z,d,ht,hz,J,?_,heap_alloc_new w _,hb.1.BV,fun i o x0 f0 he=>?_,hB.size⟩
   .rw[fZ,am ⟨J,by rw[k0,hb.2.2.2];exact v0⟩]
   .have:=hb.1.lt x0 f0;omega
  .rw[be u];rw[fz D,be u]at hl;obtain⟨t',v',d',k1,k2,k3,k4,k5,k6⟩:=j0 x A hl;refine⟨t',v',d',k1,k2,k3,?_,?_,k6⟩
   .rw[fZ,be (fun hc=>(e0 x.1 x.2 (hi.tl x A) u).2 d J (by rw[k3,<-hc.1,J]))];exact k4
   .rw[hk _ (Yh.1 k5).1];exact k5
 .simp only;rw[fz D]at G Y;have U3: ∀z∈todo,z.1≠j->(if z.1=j then jp else listed.getD z.1 jp)=jp->bl z.1<w.heap.size:=fun z hz d1 hl=>by
   rw[be d1]at hl;obtain⟨_,_,_,_,_,_,_,k5,_⟩:=j0 z hz hl;exact(Yh.1 k5).1
  by_cases u:x.1=j<;>by_cases I:y.1=j
  .exact absurd (u.trans I.symm) b0
  .rw[am u,be I];have:=U3 y hy I Y;omega
  .rw[be u,am I];have:=U3 x A u G;omega
  .rw[be u,be I];rw[be u]at G;rw[be I]at Y;exact w0 x A y hy G Y b0
 .rw[fZ,be (fun hc=>i0 (j,o) hm (by rw[fz D,am Z]) hc.1),o0 d' g0];refine m0 d' (fun x A a1=>g0 x A ?_) (fun x A G=>i0 x A ?_)
  .have b0:x.1≠j:=fun e=>hi.dj x A _ hm e.symm
   rw[fz D,be b0];exact a1
  .rw[fz D];split
   .rfl
   .exact G
theorem qs.step{B:Bs}{A:Mem}{N':Nm}{s':AS}{w':World}{o:Oper}{aA:Nat}(h:qs P M N s B a w o aA)(Y:Ext M N (· <s.nx) s.h w A N' (· <s'.nx) s'.h w'):qs P A N' s' B a w' o aA:=by
 obtain⟨t,v,d,h1,h2,h3,h4,h5,h6,D,h8⟩:=h;have I:=(Yh.1 h5).1;refine⟨t,v,d,h1,h2,h3,h4,by rw[Y.gK aA I D];exact h5,?_,fun i o G J he=>?_,h8⟩
 .cases hm:A aA with
  |none=>rfl
  |some c=>
   rcases Y.iM aA c h6 hm with y|⟨i,o,y,u,x⟩
   .omega
   .exact absurd x (D i o y u)
 .rcases Y.gB i o G J with y|⟨j,p,y,u,x⟩
  .omega
  .exact D j p y u (x.trans he)
def nR(todo:List (Nat×Oper))(E:List Nat):Bool:=todo.all fun x=>E.contains x.1||(aV x.2||todo.any fun y=>!aV y.2&&waits x.2 y.1)
theorem nY.VJ{B:Bs}(hi:nY P nt all todo pend B M N s listed a w)(hns:Region.noSelect all.toArray=jp)(hd:jc 0 all=jp)(k0:jX P nt all){j:Nat}{o:Oper}(hm:(j,o)∈todo)(h0: ∀x∈todo,aV x.2=jp->waits o x.1=kw)
  (h1:gY all pend o=jp) (hj:j∈Region.ready .any all.toArray listed) (hu:listed.getD j jp=kw): ∃b,Fits M N s nt b w∧execOp a.eval o=execOp b.eval o∧Region.wanted o (Go.yielded all.toArray a.tmps)=Region.wanted o (Go.yielded all.toArray b.tmps)∧
   ∀v M' N' s' w',Ext M N (· <s.nx) s.h w M' N' (· <s'.nx) s'.h w'->Fits M' N' s' nt (b.put o.dst v) w'->(∀x∈ba pend o,fm P nt all s' x.2)->
    nY P nt all (todo.filter fun x=>!Xv x.1 j) (ba pend o) B M' N' s' (listed.setIfInBounds j jp) (a.put o.dst v) w':=by
 obtain⟨bl,n0,d1⟩:=hi.er;obtain⟨_,o2,p0,c0⟩:=mem_ready.1 hj;have e0:=hi.tl _ hm;have f1:o2=o:=by
  have:all[j]? =io o2:=by simpa using p0
  exact X4 (this.symm.trans e0)
 rw[f1]at p0 c0;have g0:=eZ hu;obtain⟨b,hb,r0,b1,j0,k1⟩:=hi.ap;have g1: ∀x∈pend,waits o x.1=jp∨looks all o x.2=kw:=fun x u=>by
  have:=XO.1 h1 x u;simpa using this
 have d0: ∀x∈todo,listed.getD x.1 jp=jp->looks all o x.2=kw∧ ∀d,x.2.dst=io d->o.dst≠io d:=fun x u G=>by
  have i0:=(n0 x u G).alloc;have Y:j≠x.1:=fun e=>by rw[<-e,hu]at G;cases G
  exact⟨k0.xi (hi.tl x u) e0 i0 (h0 x u i0) Y,((k0 _ _ (hi.tl x u) i0).2.2.2.2 _ _ e0 Y).2⟩
 have b0:=nY.same j0 hns e0 hj g1 (fun x u G=>(d0 x u G).1);have a0: ∀x∈pend,listed.getD x.1 jp=kw->x∈ba pend o:=fun x u f0=>by
  refine XG.2 ⟨u,?_⟩;cases hw:waits o x.1 with
  |false=>rfl
  |true=>
   obtain⟨e,he,hb,q0⟩:=ij hw;have:=c0 e he hb;rw[q0,nV f0]at this;cases this
 have j1: ∀k,(listed.setIfInBounds j jp).getD k jp=kw->k≠j∧listed.getD k jp=kw:=by
  intro k hk;rw[fz g0]at hk;split at hk
  .cases hk
  .rename_i h;exact⟨h,hk⟩
 have D: ∀x∈ba pend o,x∈pend:=fun x u=>(XG.1 u).1
 have A: ∀x∈todo.filter (fun x=>!Xv x.1 j),x∈todo∧x.1≠j:=fun x u=>by
  obtain⟨h7,h8⟩:=XG.1 u;exact⟨h7,fun e=>by simp[e]at h8⟩
 refine⟨b,hb,b0.1,b0.2,fun v M' N' s' w' u hf h5=>?_⟩;have i1: ∀x∈ba pend o,looks all x.2 x.2=kw:=fun x u=>by
  rcases hi.pp x (D x u) x (D x u) with h7|h7
  .obtain⟨e,he,hb,q0⟩:=ij h7;have:=jU all 0 x.1 x.2 hd (hi.pl x (D x u)) e he hb;omega
  .exact h7
 obtain⟨c,w0,x0,v0,t0,z0⟩:=pO (listed:=listed.setIfInBounds j jp) hns (fun x u=>hi.pl x (D x u)) (hi.pw.sublist List.filter_sublist) i1 h5 hf;have I: ∀x∈todo.filter (fun x=>!Xv x.1 j),(listed.setIfInBounds j jp).getD x.1 jp=listed.getD x.1 jp:=fun x u=>by rw[fz g0,be (A x u).2]
 refine⟨by simp[hi.size],fun x u=>hi.tl x (A x u).1,fun x u=>hi.pl x (D x u),fun x u y hy=>hi.dj x (D x u) y (A y hy).1,fun k q hk e1=>?_,hi.pw.sublist List.filter_sublist,
      fun x u y hy=>hi.pp x (D x u) y (D y hy),fun y hy x u=>hi.pa y (D y hy) x (A x u).1,⟨bl,fun x J G=>?_,fun x J y s0 h1 h2=>?_⟩,c,w0,by rw[x0,jG,jG,r0],by rw[v0,lz,lz,b1],fun d m0 a1=>?_,z0⟩
 .obtain⟨h7,h8⟩:=j1 k e1;rcases hi.N7 k q hk h8 with h9|h9
  .exact .inl (XG.2 ⟨h9,by cases hb:Xv k j with|false=>rfl|true=>exact absurd (Xs hb) h7⟩)
  .exact .inr (a0 _ h9 h8)
 .rw[I x J]at G;exact((n0 x (A x J).1 G).step u).put (d0 x (A x J).1 G).2
 .rw[I x J]at h1;rw[I y s0]at h2;exact d1 x (A x J).1 y (A y s0).1 h1 h2
 .rw[t0 d m0,fZ,fZ,r0];split
  .rfl
  .refine j0 d (fun x u f0=>m0 x (a0 x u f0) ?_) (fun x J G=>?_)
   .have Y:x.1≠j:=fun e=>hi.dj x u _ hm e.symm
    rw[fz g0,be Y];exact f0
   .have Y:x.1≠j:=fun e=>by rw[e,hu]at G;cases G
    have o0:x∈todo.filter (fun x=>!Xv x.1 j):=XG.2 ⟨J,by cases hb:Xv x.1 j with|false=>rfl|true=>exact absurd (Xs hb) Y⟩;exact a1 x o0 (by rw[I x o0];exact G)
theorem SR{E:List Nat}(hE:nR todo E=jp)(hne: ∃x∈todo,aV x.2=kw)(c0: ∀x∈todo,aV x.2=jp-> ∀x∈pend,fm P nt all s x.2)
  (h: ∀j o,j∈E->(j,o)∈todo->(∀o',(j,o')∈todo->o'=o)->aV o=kw∧(∀x∈todo,aV x.2=jp->waits o x.1=kw)∧gY all pend o=jp∧(∀M N b w,Fits M N s nt b w->Region.wanted o (Go.yielded all.toArray b.tmps)=jp)∧ ∃R,OT P nt o s R∧
   ∀s',R s'->(∀x∈ba pend o,fm P nt all s' x.2)∧DL P nt all (todo.filter fun x=>!Xv x.1 j) (ba pend o) Q s'):DL P nt all todo pend Q s:=by
 intro I hd A B M N listed a w u hB
 induction u generalizing listed a w with
 |zero=>
  intro hi hc;obtain⟨x,G,D⟩:=hne;have p0:listed.getD x.1 jp=kw:=by
   obtain⟨bl,e0,_⟩:=hi.er;cases hl:listed.getD x.1 jp with
   |false=>rfl
   |true=>have:=(e0 x G hl).alloc;rw[D]at this;cases this
  have:=tv p0;omega
 |succ u ih=>
  intro hi hc;obtain⟨bl,e0,q0⟩:=hi.er;have b0: ∀x∈todo,aV x.2=kw->listed.getD x.1 jp=kw:=fun x G D=>by
   cases hl:listed.getD x.1 jp with
   |false=>rfl
   |true=>have:=(e0 x G hl).alloc;rw[D]at this;cases this
  refine⟨fun hr=>?_,fun j hj=>?_⟩
  .obtain⟨x,G,D⟩:=hne;have:=qN hi.size hd hr x.1;rw[b0 x G D]at this;cases this
  obtain⟨hu,o,ho,d0⟩:=mem_ready.1 hj;have g0:all[j]? =io o:=by simpa using ho
  have r0:=eZ hu;rcases hi.N7 j o g0 hu with hm|hm
  .cases hja:aV o with
   |true=>
    obtain⟨v,w',i0,k0,f0⟩:=hi.early I hd A hB (c0 _ hm hja) hm hja hu;unfold wpOp;simp only[ho];rw[am (fU (A j o g0 hja).1 _)];refine .inl ?_;unfold Oper.wp;rw[i0];simp only[Oper.upon];exact ih _ _ _ k0 f0 (by have:=fq hu;omega)
   |false=>
   have m0:j∈E:=by
    have:=XO.1 hE _ hm;simp only[Zc,Yr,XR,Ye]at this;rcases this with h1|h1|⟨y,hy,h0,h1⟩
    .simpa using h1
    .rw[hja]at h1;cases h1
    .obtain⟨e,he,hb,o0⟩:=ij h1;have:=d0 e he hb;rw[o0,nV (b0 y hy h0)]at this;cases this
   obtain⟨_,h0,h1,h2,R,h3,h4⟩:=h j o m0 hm (fun o' n0=>by
    have:=hi.tl _ n0;simp only at this;rw[g0]at this
    exact(X4 this).symm)
   obtain⟨b,hb,a0,j0,hnew⟩:=hi.VJ I hd A hm h0 h1 hj hu;unfold wpOp;simp only[ho];rw[am (by rw[j0];exact h2 M N b w hb)];refine .inl (KU (K':=fun a' w'=> ∃J Y s',Ext M N (· <s.nx) s.h w J Y (· <s'.nx) s'.h w'∧Fits J Y s' nt a' w'∧R s') a0 ?_ ?_ (h3 M N b w hb _ _ fun J Y s' a' w' G hf hr=>⟨J,Y,s',G,hf,hr⟩))
   .rintro d w' ⟨J,Y,s',_,hf,_⟩;have:=hf.2.2.1;rw[lz]at this;have h9:d::b.defers=nt.df:=this;rw[hb.2.2.1]at h9;exact absurd (congrArg Ze h9) (by simp)
   .rintro v w' ⟨J,Y,s',G,hf,hr⟩;obtain⟨h5,h6⟩:=h4 s' hr;exact h6 I hd A B J Y _ _ w' u (hB.trans G) (hnew v J Y s' w' G hf h5) (by have:=fq hu;omega)
  .obtain⟨v,hv,f0⟩:=hi.take I A hm hj;refine wpOp_of_stOp (K:=fun a'=>a'=a.put o.dst v) (fun a' ha=>?_) (hv.stOp ho Z);subst ha;exact ih _ _ _ hB f0 (by have:=fq hu;omega)
theorem Rel.FX{M:Mem}{N:Nm}{n:Nat}{h:AH}{w:World}(hr:Rel M N (· <n) h w){aA e:Nat}{o:AO}(hM:M aA=is)(hne: ∀i p,h.get i=io p->p.real=jp->N.aA i≠aA)(ho:OR M (N.with n aA e) (· <n+1) w n o):
  Rel M (N.with n aA e) (· <n+1) ((n,io o)::h) w:=by
 have A:=N.dx n aA e;have u: ∀i p,AH.get ((n,io o)::h) i=io p->(i=n∧p=o)∨(i<n∧h.get i=io p):=by
  intro i p hi;rw[AH.ay]at hi;split at hi
  .rename_i B;exact .inl ⟨B,by simpa using hi.symm⟩
  .exact .inr ⟨hr.used i p hi,hi⟩
 refine⟨hr.dK,fun i p hi=>?_,fun i p hi D=>?_,fun i p hi=>?_,fun i j p q hi hj J Y x=>?_⟩
 .rcases u i p hi with⟨rfl,rfl⟩|⟨h1,y⟩<;>omega
 .rcases u i p hi with⟨rfl,rfl⟩|⟨h1,y⟩
  .simpa using hM
  .rw[A.aA i h1];exact hr.dS i p y D
 .rcases u i p hi with⟨rfl,rfl⟩|⟨h1,y⟩
  .exact ho
  .exact(hr.obj i p y).mono (.refl _) A (fun i hi=>by omega) h1 Z
 .rcases u i p hi with⟨rfl,rfl⟩|⟨h1,y⟩<;>rcases u j q hj with⟨rfl,rfl⟩|⟨G,I⟩
  .rfl
  .rw[A.aA j G]at x;simp at x;exact absurd x.symm (hne _ _ I Y)
  .rw[A.aA i h1]at x;simp at x;exact absurd x (hne _ _ y J)
  .rw[A.aA i h1,A.aA j G]at x;exact hr.inj i j p q y I J Y x
def AB(todo:List (Nat×Oper))(i:Nat):Bool:=todo.all fun x=>Xv x.1 i||(aV x.2||(waits x.2 i||todo.any fun y=>!aV y.2&&waits x.2 y.1))
def lf(s:AS)(d:Nat)(cs:List PV):AS:=match s with|⟨f,h,n⟩=>⟨(d,.ptr n 0)::f,(n,io (.cells cs))::h,n+1⟩
theorem J2{i:Nat}{o:Oper}{t:TypeId}{z:Value}{d:Nat}(d0:(i,o)∈todo)(ht:o.op= .alloc t)(hz: ∀w,(zeroValue t).run P w= .ok z w)(p0:o.dst=io d)(hE:AB todo i=jp)
  (n0: ∀x∈pend,fm P nt all s x.2) (a0: ∀x∈pend,fm P nt all (lf s d (cj z)) x.2)
  (h:DL P nt all (todo.filter fun x=>!Xv x.1 i) pend Q (lf s d (cj z))):DL P nt all todo pend Q s:=by
 intro j0 hd b0 B M N listed a w A G;have i1:aV o=jp:=by simp[aV,ht]
 have FX: ∀{A:Nat} {listed:Array Bool} {a:Act} {w:World},B.ext M N s w->nY P nt all todo pend B M N s listed a w->listed.getD i jp=jp->listed.toList.count kw<=A->wpAny P .any all.toArray (QH nt B Q) A listed a w:=by
  intro A listed a w G hi hl hc;obtain⟨b,hb,c2,w1,o1,j2⟩:=hi.ap;obtain⟨Y,i0,q0⟩:=hi.er;obtain⟨t',I,d',k1,k2,k3,k4,k5,k6,k7,k8⟩:=i0 _ d0 hl;simp only at k1 k3;have e1:t'=t:=by rw[ht]at k1;exact(Op.alloc.inj k1).symm
  subst e1;have e2:I=z:=by have:=(k2 w).symm.trans (hz w);simpa using this
  subst e2;have e3:d'=d:=by rw[p0]at k3;exact(X4 k3).symm
  subst e3;have f1:d'<nt:=by
   obtain⟨_,⟨d2,g1,g2⟩,_⟩:=b0 i o (hi.tl _ d0) i1;rw[p0]at g1;rw[X4 g1];exact g2
  have ha:=N.dx s.nx (Y i) I.cells.size;have z0:=hb.1.FX (aA:=Y i) (e:=I.cells.size) (o:= .cells (cj I)) k6 k7
   ⟨I.cells,t',by simpa using k5,by simp,(fL (M:=M) (N:=N.with s.nx (Y i) I.cells.size) (U:=(· <s.nx+1)) I).1,(fL I).2,.none _⟩
  have x1:FR M (N.with s.nx (Y i) I.cells.size) (· <s.nx+1) s.f b.tmps:=hb.2.1.mono (.refl _) ha (fun i hi=>by omega);have w0:VR M (N.with s.nx (Y i) I.cells.size) (· <s.nx+1) (.ptr s.nx 0) (.pointer (io ⟨Y i,0,is⟩)):=by
   have:=VR.ptr (M:=M) (N:=N.with s.nx (Y i) I.cells.size) (U:=(· <s.nx+1)) s.nx 0 (by omega);simpa using this
  have s0:Fits M (N.with s.nx (Y i) I.cells.size) (lf s d' (cj I)) nt (b.put (io d') (.pointer (io ⟨Y i,0,is⟩))) w:=by
   obtain⟨sf,sh,sn⟩:=s;exact⟨z0,x1.put d' _ _ (by rw[hb.2.2.2];exact f1) w0,hb.2.2.1,by rw[jG];exact hb.2.2.2⟩
  have c0: ∀j p,(lf s d' (cj I)).h.get j=io p->j=s.nx∨(j<s.nx∧s.h.get j=io p):=by
   intro j p D;obtain⟨sf,sh,sn⟩:=s;simp only[lf]at D;rw[AH.ay]at D;split at D
   .rename_i e;exact .inl e
   .exact .inr ⟨hb.1.used j p D,D⟩
  have a2:(lf s d' (cj I)).nx=s.nx+1:=by obtain⟨sf,sh,sn⟩:=s;rfl
  have m0:B.ext M (N.with s.nx (Y i) I.cells.size) (lf s d' (cj I)) w:=by
   unfold Bs.ext at*
   refine⟨G.os,G.tape,G.output,G.size,G.gK,G.oJ,G.iM,⟨fun j D=>(ha.aA j (G.ule j D)).trans (G.nm.aA j D),fun j D=>(ha.ext j (G.ule j D)).trans (G.nm.ext j D)⟩,fun j D=>by have:=G.ule j D;rw[a2];omega,fun j p D x0=>?_⟩;rcases c0 j p D with rfl|⟨h1,h2⟩
   .exact .inl (by simpa using k8)
   .rw[ha.aA j h1];exact G.gB j p h2 x0
  have b2: ∀x∈pend,looks all x.2 x.2=kw:=fun x J=>by
   rcases hi.pp x J x J with h7|h7
   .obtain⟨e,he,hb,j1⟩:=ij h7;have:=jU all 0 x.1 x.2 hd (hi.pl x J) e he hb;omega
   .exact h7
  have u: ∀x∈todo.filter (fun x=>!Xv x.1 i),x∈todo∧x.1≠i:=fun x J=>by
   obtain⟨h7,h8⟩:=XG.1 J;exact⟨h7,fun e=>by simp[e]at h8⟩
  obtain⟨c,r1,s1,q1,p1,t1⟩:=pO (listed:=listed) j0 hi.pl hi.pw b2 a0 s0;refine h j0 hd b0 B M _ listed a w A m0 ⟨hi.size,fun x J=>hi.tl x (u x J).1,hi.pl,fun x J y hy=>hi.dj x J y (u y hy).1,fun k q hk v0=>?_,hi.pw,hi.pp,fun y hy x J=>hi.pa y hy x (u x J).1,⟨Y,fun x f0 k0=>?_,fun x f0 y i2=>q0 x (u x f0).1 y (u y i2).1⟩,c,r1,by rw[s1,jG,c2],by rw[q1,lz,w1],fun e d1 v1=>?_,t1⟩ hc
  .rcases hi.N7 k q hk v0 with h9|h9
   .refine .inl (XG.2 ⟨h9,?_⟩);cases hbq:Xv k i with
    |false=>rfl
    |true=>rw[Xs hbq,hl]at v0;cases v0
   .exact .inr h9
  .obtain⟨t2,z2,d2,m1,m2,m3,m4,m5,m6,m7,m8⟩:=i0 x (u x f0).1 k0;refine⟨t2,z2,d2,m1,m2,m3,m4,m5,m6,fun j p D x0=>?_,m8⟩;rcases c0 j p D with rfl|⟨h1,h2⟩
   .rw[Nm.HD];exact fun e=>q0 x (u x f0).1 _ d0 k0 hl (u x f0).2 e.symm
   .rw[ha.aA j h1];exact m7 j p h2 x0
  .rw[p1 e d1,fZ];by_cases r0:d'=e
   .subst r0;rw[am ⟨rfl,by rw[hb.2.2.2];exact f1⟩];exact k4
   .rw[be (fun hc=>r0 (X4 hc.1))];refine o1 e d1 (fun x J k0 he=>?_);by_cases n1:x.1=i
    .have h3:=hi.tl x J;rw[n1,hi.tl _ d0]at h3;rw[<-X4 h3,p0]at he;exact r0 (X4 he)
    .exact v1 x (XG.2 ⟨J,by cases hb:Xv x.1 i with|false=>rfl|true=>exact absurd (Xs hb) n1⟩) k0 he
 clear h a0
 induction A generalizing listed a w with
 |zero=>
  intro hi hc;cases hl:listed.getD i jp with
  |true=>exact FX G hi hl hc
  |false=>have:=tv hl;omega
 |succ A ih=>
  intro hi hc;cases hl:listed.getD i jp with
  |true=>exact FX G hi hl hc
  |false=>
   obtain⟨Y,i0,q0⟩:=hi.er;have b1: ∀x∈todo,aV x.2=kw->listed.getD x.1 jp=kw:=fun x J f2=>by
    cases hl:listed.getD x.1 jp with
    |false=>rfl
    |true=>have:=(i0 x J hl).alloc;rw[f2]at this;cases this
   refine⟨fun hr=>?_,fun j D=>?_⟩
   .have:=qN hi.size hd hr i;rw[hl]at this;cases this
   obtain⟨hu,q,hq,o0⟩:=mem_ready.1 D;have e0:all[j]? =io q:=by simpa using hq
   rcases hi.N7 j q e0 hu with hm|hm
   .cases hja:aV q with
    |true=>
     obtain⟨v,w',a1,m0,t0⟩:=hi.early j0 hd b0 G n0 hm hja hu;unfold wpOp;simp only[hq];rw[am (fU (b0 j q e0 hja).1 _)];refine .inl ?_;unfold Oper.wp;rw[a1];simp only[Oper.upon];exact ih _ _ _ m0 t0 (by have:=fq hu;omega)
    |false=>
     exfalso;have g0: ∀k,listed.getD k jp=kw->waits q k=jp->False:=fun k hk hw=>by
      obtain⟨e,he,hb,j1⟩:=ij hw;have:=o0 e he hb;rw[j1,nV hk]at this;cases this
     have:=XO.1 hE _ hm;simp only[Zc,Yr,XR,Ye]at this;rcases this with h1|h1|h1|⟨y,hy,h0,h1⟩
     .have z1:=Xs h1;subst z1;rw[hi.tl _ d0]at e0;simp only[W3]at e0;rw[<-e0,i1]at hja;cases hja
     .rw[hja]at h1;cases h1
     .exact g0 i hl h1
     .exact g0 y.1 (b1 y hy h0) h1
   .obtain⟨v,hv,t0⟩:=hi.take j0 b0 hm D;refine wpOp_of_stOp (K:=fun a'=>a'=a.put q.dst v) (fun a' ha=>?_) (hv.stOp hq Z);subst ha;exact ih _ _ _ G t0 (by have:=fq hu;omega)
def jJ:Nat->List Oper->List (Nat×Oper)
 |_,[]=> []
 |n,o::r=>(n,o)::jJ (n+1) r
theorem nn: ∀(l:List Oper) (n i:Nat) (o:Oper),(i,o)∈jJ n l↔n<=i∧l[i-n]? =io o
 | [],n,i,o=>by simp[jJ]
 |c::l,n,i,o=>by
  simp only[jJ,Xm,Xe];rw[nn l (n+1) i o];by_cases h:i=n
  .subst h;simp only[true_and,W8,Zw,List.getElem?_cons_zero,W3];exact⟨fun h=>h.elim Eq.symm (fun h=>by omega),fun h=> .inl h.symm⟩
  .by_cases j:n<=i
   .rw[show i-n=(i-(n+1))+1 by omega,ZI];constructor
    .rintro(⟨h3,_⟩|⟨_,h3⟩)
     .exact absurd h3 h
     .exact⟨j,h3⟩
    .rintro⟨_,h3⟩;exact .inr ⟨by omega,h3⟩
   .constructor
    .rintro(⟨h3,_⟩|⟨h3,_⟩)
     .exact absurd h3 h
     .omega
    .rintro⟨h3,_⟩;exact absurd h3 j
def vS:List Oper->Bool
 | []=>jp
 |o::r=>match o.op with
  | .select ..=>kw
  |_=>vS r
theorem GK{ops:Array Oper}(h:vS ops.toList=jp):Region.noSelect ops=jp:=by
 have key: ∀l:List Oper,vS l=jp-> ∀o∈l,(match o.op with| .select ..=>kw|_=>jp)=jp:=by
  intro l
  induction l with
  |nil=>intro _ o ho;cases ho
  |cons c l ih=>
   intro hl o ho;unfold vS at hl;split at hl
   .cases hl
   .rename_i j;rcases Xm.1 ho with rfl|ho
    .split
     .rename_i h;exact absurd h (j _ _)
     .rfl
    .exact ih hl o ho
 unfold Region.noSelect;rw[Array.all_eq_true_iff_forall_mem];exact fun o ho=>key _ h o (by simpa using ho)
variable {k:List KI}
theorem JA{id:Nat}{ops:Array Oper}(hm:P.follows .mixedOrders=jp)(hns:Region.noSelect ops=jp)(hd:jc 0 ops.toList=jp)(A:jX P nt ops.toList)(h:GO P nt (.bS ops.toList (jJ 0 ops.toList) []::k) Q s):GO P nt (.code (.region id ops jp)::k) Q s:=by
 intro M N a w hf;refine wp_region_any hm ?_;have B:=hf.drew;have u: ∀x∈jJ 0 ops.toList,ops.toList[x.1]? =io x.2:=fun x j=>by
  obtain⟨_,G⟩:=(nn _ 0 x.1 x.2).1 j;simpa using G
 have D: ∀i,i<ops.size->(Y8 ops.size kw).getD i jp=kw:=fun i hi=>by simp[WZ,hi]
 have y: ∀x∈jJ 0 ops.toList,(Y8 ops.size kw).getD x.1 jp=jp->False:=fun x j hl=>by
  have:x.1<ops.size:=by simpa using(W4.1 (u x j)).1
  rw[D _ this]at hl;cases hl
 have:=h (by rw[YI];exact hns) hd A ⟨M,N,s.nx,s.h,w⟩ M N (Y8 ops.size kw) a {w with drawn:=w.drawn+1} ops.size Ext.drew
  ⟨by simp,u,fun _ j=>(nomatch j),fun _ j=>(nomatch j),fun i o I _=> .inl ((nn _ 0 i o).2 ⟨Xc _,by simpa using I⟩),Zf,fun _ j=>(nomatch j),fun _ j=>(nomatch j),
   ⟨fun _=>0,fun x j hl=>(y x j hl).elim,fun x j _ _ hl=>(y x j hl).elim⟩,⟨a,B,rfl,rfl,fun _ _ _=>rfl,fun _ j=>(nomatch j)⟩⟩ (by simp)
 rw[YI]at this;exact this
theorem Cn(h:GO P nt k Q s):GO P nt (.bS all [] pend::k) Q s:=SQ h
def eqB:Bool->Bool->Bool
 |true,b=>b
 |false,jp=>kw
 |false,kw=>jp
theorem SO(a b:Bool):eqB a b=(a==b):=by cases a<;>cases b<;>rfl
def bR(nt:NT)(all:List Oper)(f:AF)(o:Oper):Option Bool:=
 match o.guard with
 |none=>io jp
 |some (g,want)=>match guardOf all f g with
  |some (d,.kb t)=>bif Xx d nt then io (eqB t want) else is
  |some (_,.iv (.v (.tuple _)))=>io kw
  |_=>is
theorem gj{o:Oper}{c:Bool}(h:bR nt all s.f o=io c){b:Act}(hf:Fits M N s nt b w):Region.wanted o (Go.yielded all.toArray b.tmps)=c:=by
 unfold bR at h;split at h
 .rename_i j;simp only[W3]at h;rw[fU j,h]
 .rename_i g x j;split at h
  .rename_i d t u;cases hb:Xx d nt with
   |false=>simp[hb]at h
   |true=>
    simp only[hb,cond_true,W3,SO]at h;have:=hf.u4 u (WY hb);simp[Region.wanted,j,this,<-h]
  .rename_i d vs u;simp only[W3]at h;have:=hf.u3 u;simp[Region.wanted,j,this,<-h]
  .cases h
theorem wm{i:Nat}{o:Oper}{s':AS}(u:(i,o)∈todo)(y:aV o=kw)(A: ∀x∈todo,waits o x.1=kw)(hg:bR nt all s.f o=io jp)(j:xD all pend o=jp)(he:s'.h=s.h∧s'.nx=s.nx)
  (ho: ∀M N a w,Fits M N s nt a w-> ∃x,(execOp a.eval o).run P w= .ok (.value x) w∧Fits M N s' nt (a.put o.dst x) w) (h:GO P nt (.bS all (todo.filter fun x=>!Xv x.1 i) ((i,o)::pend)::k) Q s'):GO P nt (.bS all todo pend::k) Q s:=
 FC u y A j he (fun M N b w hf=>let ⟨x,h1,h2⟩:=ho M N b w hf;⟨x,.inl ⟨gj hg hf,.inl h1⟩,h2⟩) h
theorem Jz{i:Nat}{o:Oper}(u:(i,o)∈todo)(y:aV o=kw)(A: ∀x∈todo,waits o x.1=kw)(hg:bR nt all s.f o=io kw)(j:xD all pend o=jp)
  (h:GO P nt (.bS all (todo.filter fun x=>!Xv x.1 i) ((i,o)::pend)::k) Q (ik o s)):GO P nt (.bS all todo pend::k) Q s:=
 FC u y A j (jB o s) (fun _ _ _ _ hf=>⟨undef,.inr ⟨gj hg hf,rfl⟩,hf.skip o⟩) h
theorem tm{d:Nat}{t:Bool}(I:s.f.get d= .iv (.v (.bool t)))(h1:t=jp->GO P nt (.bS all todo pend::k) Q (setBool s (.tmp d) jp))(A:t=kw->GO P nt (.bS all todo pend::k) Q (setBool s (.tmp d) kw)):
  GO P nt (.bS all todo pend::k) Q s:=by
 have key:GO P nt (.bS all todo pend::k) Q (setBool s (.tmp d) t):=by
  cases t
  .exact A Z
  .exact h1 Z
 intro y hd x B M N listed a w u D hi G;obtain⟨b,hb,j⟩:=hi.ap;exact key y hd x B M N listed a w u D ⟨hi.size,hi.tl,hi.pl,hi.dj,hi.N7,hi.pw,hi.pp,hi.pa,hi.er,b,hb.setBool (c:= .tmp d) I,j⟩ G
theorem pD{E:List Nat}(hE:nR todo E=jp)(hne: ∃x∈todo,aV x.2=kw)(u: ∀x∈todo,aV x.2=jp-> ∀x∈pend,fm P nt all s x.2)
  (h: ∀j o,j∈E->(j,o)∈todo->(∀y,(j,y)∈todo->y=o)->aV o=kw∧(∀x∈todo,aV x.2=jp->waits o x.1=kw)∧gY all pend o=jp∧bR nt all s.f o=io jp∧ ∃R,OT P nt o s R∧
   ∀s',R s'->(∀x∈ba pend o,fm P nt all s' x.2)∧GO P nt (.bS all (todo.filter fun x=>!Xv x.1 j) (ba pend o)::k) Q s'):GO P nt (.bS all todo pend::k) Q s:=
 SR hE hne u fun j o h1 A B=>let ⟨a,b,c,d,e⟩:=h j o h1 A B;⟨a,b,c, @fun _ _ _ _=>gj d,e⟩
theorem Ha{i:Nat}{o:Oper}{t:TypeId}{z:Value}{d:Nat}(A:(i,o)∈todo)(ht:o.op= .alloc t)(B: ∀w,(zeroValue t).run P w= .ok z w)(y:o.dst=io d)(hE:AB todo i=jp)
  (u: ∀x∈pend,fm P nt all s x.2) (j: ∀x∈pend,fm P nt all (lf s d (cj z)) x.2)
  (h:GO P nt (.bS all (todo.filter fun x=>!Xv x.1 i) pend::k) Q (lf s d (cj z))):GO P nt (.bS all todo pend::k) Q s:=J2 A ht B y hE u j h
end
section
variable {P:Program} {nt:NT} {Q:AQ} {k:List KI} {s:AS}
theorem Jn{ty:Ty}(c0:bq P ty){o:Oper}{c:Call}(ho:o.op= .call c){g:FuncId}{asv:List PV}(ha:bP s.f c=io (g,asv)){fn:Func}{cb:Code}(B:P.funcs[g]? =io fn)(hb:fn.body=io cb)
  (hn:(fn.name== "runtime.NumGoroutine")=kw) {I:Nat} (g0:fn.ntmps=I) {l:List ResultVar} (hl:fn.results.toList=l) (f0:asv.length<=I) {R:AS->Prop}
  (h:AW P I cb (fun e t=>(e= .normal∨e= .ret)∧ ∃r s',jh ty t l=io r∧putDst nt o r ⟨s.f,t.h,t.nx⟩=io s'∧R s') ⟨mT 0 asv,s.h,s.nx⟩):OT P nt o s R:=by
 intro M N a w hf K Z hk;obtain⟨vs,G,D,hv⟩:=wD hf ho ha (bg B hb hn);unfold Oper.wp;rw[G];simp only[Oper.upon];refine calls_of_wp B hb ?_;have A:Fits M N ⟨mT 0 asv,s.h,s.nx⟩ I {tmps:=vs.toArray++Y8 (fn.ntmps-vs.toArray.size) undef,defers:=[]} w:=by
  refine⟨hf.1,fun i=>?_,rfl,by simp;omega⟩;rw[w4,am (Xc _),ZK,W2];cases hi:asv[i]? with
  |none=>exact .any _
  |some p=>
   have a0:i<vs.length:=by rw[<-D];exact(W4.1 hi).1
   have:=hv i p hi;have e:(vs.toArray++Y8 (fn.ntmps-vs.toArray.size) undef).getD i undef=vs.getD i undef:=by
    rw[WZ,XF (by simpa using a0),W2];simp
   simp only[X9];rw[e];exact this
 refine AW.then h A fun e a' u J Y t hx j hq=>?_;obtain⟨he,r,s',b0,hp,hR⟩:=hq;obtain⟨x,d0,e0⟩:=uH c0 j hl b0;have y:Fits J Y ⟨s.f,t.h,t.nx⟩ nt a u:=⟨j.1,hf.2.1.ext hx,hf.2.2⟩
 have hK:K (a.put o.dst x) u:=by
  cases hd:o.dst with
  |none=>
   have:=dR hp hd;subst this;exact hk J Y {f:=s.f,h:=t.h,nx:=t.nx} _ u hx y hR
  |some d=>
   obtain⟨h1,rfl⟩:=dQ hp hd;exact hk J Y {f:=(d,r)::s.f,h:=t.h,nx:=t.nx} _ u hx (y.put d _ x h1 e0) hR
 have:a'.defers=[]∧ ∃v,(results fn a'.tmps).run P u= .ok v u∧K (a.put o.dst v) u:=⟨j.2.2.1,x,d0,hK⟩
 rcases he with rfl|rfl<;>exact this
theorem SH{ty:Ty}(A:bq P ty){all rest:List Oper}{o:Oper}{c:Call}(hg:o.guard=is)(ho:o.op= .call c){g:FuncId}{asv:List PV}(ha:bP s.f c=io (g,asv)){fn:Func}{D:Code}(u:P.funcs[g]? =io fn)(hb:fn.body=io D)
  (hn:(fn.name== "runtime.NumGoroutine")=kw) {B:Nat} (y:fn.ntmps=B) {l:List ResultVar} (hl:fn.results.toList=l) (x:asv.length<=B)
  (h:GO P B (.code D:: .NU nt s.f (jh ty · l) o all rest::k) Q ⟨mT 0 asv,s.h,s.nx⟩):GO P nt (.ops all (o::rest)::k) Q s:=by
 refine bB (R:=fun t=>GO P nt (.ops all rest::k) Q t) hg (Jn A ho ha u hb hn y hl x ?_) (fun t ht=>ht);intro M N a w hf;refine AW.then h hf fun e a' w' I J t hx j G=>⟨I,J,t,hx,j,?_⟩
 simp only[kp]at G;obtain⟨he,r,s',h1,Y,h3⟩:=G;exact⟨he,r,s',h1,Y,h3⟩
theorem NN{ty:Ty}(I:bq P ty){all:List Oper}{todo pend:List (Nat×Oper)}{j:Nat}{o:Oper}{c:Call}(hrd:(j,o)∈todo)(hE:nR todo [j]=jp)(J: ∀x∈todo,waits o x.1=kw)(u: ∀x∈todo,aV x.2=jp-> ∀x∈pend,fm P nt all s x.2)(hpb:gY all pend o=jp)(hg:bR nt all s.f o=io jp)(ho:o.op= .call c){g:FuncId}{asv:List PV}
  (ha:bP s.f c=io (g,asv)) {fn:Func} {cb:Code} (B:P.funcs[g]? =io fn) (hb:fn.body=io cb)
  (hn:(fn.name== "runtime.NumGoroutine")=kw) {ng:Nat} (G:fn.ntmps=ng) {l:List ResultVar} (hl:fn.results.toList=l) (D:asv.length<=ng)
  (h:GO P ng (.code cb:: .NV nt s.f (jh ty · l) j o all todo pend::k) Q ⟨mT 0 asv,s.h,s.nx⟩):GO P nt (.bS all todo pend::k) Q s:=by
 have y:aV o=kw:=by simp[aV,ho]
 refine pD hE ⟨_,hrd,y⟩ u fun j' o' hj _ hu=>?_;simp only[Xd]at hj;subst hj;have:=hu o hrd;subst this;refine⟨y,fun x Y _=>J x Y,hpb,hg,_,Jn I ho ha B hb hn G hl D (R:=fun s'=>(∀x∈ba pend o,fm P nt all s' x.2)∧GO P nt (.bS all (todo.filter fun x=>!Xv x.1 j') (ba pend o)::k) Q s') ?_,fun s' hs=>hs⟩;intro M N a w hf;refine AW.then h hf fun e a' w' M' N' t Y A hq=>⟨M',N',t,Y,A,?_⟩
 simp only[kp]at hq;obtain⟨he,r,s',h1,h2,h3,h4⟩:=hq;exact⟨he,r,s',h1,h2,h3,h4⟩
theorem UA.more{b:Code}{Q:AQ}: ∀{n:Nat} {s:AS},UA P nt b Q n s->n≠0
 |0,_,h=>h.elim
 |_+1,_,_=>by simp
theorem nL{b:Code}{n:Nat}(h:GO P nt (.code b:: .F1 b n::k) Q s):GO P nt (.code (.loop b)::k) Q s:=by
 have h0:UA P nt b (kp P nt k Q) (n+1) s:=by
  intro M N a w hf;refine AW.then h hf fun e A I x y t G j hq=>⟨x,y,t,G,j,?_⟩
  cases e<;>exact hq
 intro M0 N0 a0 w0 d0
 let J:Act->World->Nat->Prop:=fun a w m=> ∃t M N,Ext M0 N0 (· <s.nx) s.h w0 M N (· <t.nx) t.h w∧Fits M N t nt a w∧UA P nt b (kp P nt k Q) m t
 have c0:J a0 w0 (n+1):=⟨s,M0,N0,.refl _ _ _ _ _,d0,h0⟩
 have dc: ∀{p:Nat->Prop},(∃n,p n)-> ∃n,p n∧ ∀m,p m->n<=m:=by
  intro p ⟨n,hn⟩
  induction n using Nat.strongRecOn with
  |_ n ih=>
   by_cases D: ∃m,m<n∧p m
   .obtain⟨m,h1,Y⟩:=D;exact ih m h1 Y
   .exact⟨n,hn,fun m Y=>YA fun h1=>D ⟨m,h1,Y⟩⟩
 refine wp_loop (fun a w=> ∃n,J a w n) (fun a w=>by classical exact if h: ∃n,J a w n then Zx (dc h) else 0) ⟨_,c0⟩ fun a w b0=>?_;obtain⟨⟨t,M,N,G,hf,hu⟩,e0⟩:=YZ (dc b0);obtain⟨m,D⟩: ∃m,Zx (dc b0)=m+1:=⟨Zx (dc b0)-1,by have:=hu.more;omega⟩
 rw[D]at hu;refine AW.then hu hf fun e A I x y s' u j hr=>?_
 cases e with
 |normal=>
  have B:J A I m:=⟨s',x,y,G.trans u,j,hr⟩
  refine⟨⟨_,B⟩,?_⟩;simp only[dif_pos b0,dif_pos (⟨_,B⟩: ∃n,J A I n)];have:=(YZ (dc (⟨_,B⟩: ∃n,J A I n))).2 _ B;omega
 |_=>exact⟨x,y,s',G.trans u,j,hr⟩
theorem go_round{b:Code}{n:Nat}(h:GO P nt (.code b:: .F1 b n::k) Q s):GO P nt (.F1 b (n+1)::k) Q s:=by
 intro M N a w hf;refine AW.then h hf fun e B D u x t A j y=>⟨u,x,t,A,j,?_⟩
 cases e<;>exact y
end
section
variable {M:Mem} {N:Nm} {w:World} {n:Nat} {h:AH}
theorem bn{i:Nat}{h:AH}: ∀j o,AH.get ((i,is)::h) j=io o->j≠i∧h.get j=io o:=by
 intro j o u;rw[AH.ay]at u;split at u
 .cases u
 .rename_i x;exact⟨x,u⟩
theorem Rel.move(hr:Rel M N (· <n) h w){i:Nat}{o0:AO}(hi:h.get i=io o0)(h0:o0.real=jp)(G:World)(o:AO)(d0:G.os=w.os)(J:G.tape=w.tape)(Y:G.output=w.output)(f0:G.heap.size=w.heap.size)
  (hk: ∀b,b≠N.aA i->G.heap[b]? =w.heap[b]?) (ho:OR M (N.with n (N.aA i) (N.ext i)) (· <n+1) G n o) (hd:w.drawn<=G.drawn:=by first|exact W8 _|exact Yw _):
  Ext M N (· <n) h w M (N.with n (N.aA i) (N.ext i)) (· <n+1) ((n,io o)::(i,is)::h) G∧Rel M (N.with n (N.aA i) (N.ext i)) (· <n+1) ((n,io o)::(i,is)::h) G:=by
 have I:=N.dx n (N.aA i) (N.ext i);have u: ∀j p,AH.get ((n,io o)::(i,is)::h) j=io p->(j=n∧p=o)∨(j<n∧j≠i∧h.get j=io p):=by
  intro j p A;rw[AH.ay]at A;split at A
  .rename_i a0;exact .inl ⟨a0,by simpa using A.symm⟩
  .obtain⟨h1,B⟩:=bn j p A;exact .inr ⟨hr.used j p B,h1,B⟩
 have e0:=hr.used i o0 hi;refine⟨⟨d0,J,⟨Y,hd⟩,by omega,fun b hb hn=>hk b (fun e=>hn i o0 hi h0 e.symm),.refl _,fun b c h1 B=>by simp[h1]at B,I,fun i hi=>by omega,fun j p A y=>?_⟩,?_⟩
 .rcases u j p A with⟨rfl,rfl⟩|⟨h1,B,D⟩
  .exact .inr ⟨i,o0,hi,h0,by simp⟩
  .exact .inr ⟨j,p,D,y,(I.aA j h1).symm⟩
 .refine⟨fun b c hb=>?_,fun j p A=>?_,fun j p A y=>?_,fun j p A=>?_,fun j k p q A b0 hp hq x=>?_⟩
  .have c0:b≠N.aA i:=fun e=>by
    have:=hr.dS i o0 hi h0;rw[<-e,hb]at this;simp at this
   exact(hr.dK b c hb).mono (hk b c0)
  .rcases u j p A with⟨rfl,rfl⟩|⟨h1,B,D⟩<;>omega
  .rcases u j p A with⟨rfl,rfl⟩|⟨h1,B,D⟩
   .simpa using hr.dS i o0 hi h0
   .rw[I.aA j h1];exact hr.dS j p D y
  .rcases u j p A with⟨rfl,rfl⟩|⟨h1,B,D⟩
   .exact ho
   .cases y:p.real with
    |true=>exact(hr.obj j p D).mono (.refl _) I (fun i hi=>by omega) h1 (hk _ (fun e=>B (hr.inj j i p o0 D hi y h0 e)))
    |false=>
     cases p with
     |row sz es=>cases es with
      |nil=>exact .inl Z
      |cons=>cases y
     |bz l T=>cases l with
      |nil=>exact .inl Z
      |cons=>cases y
     |_=>cases y
  .rcases u j p A with⟨rfl,rfl⟩|⟨h1,B,D⟩<;>rcases u k q b0 with⟨rfl,rfl⟩|⟨h4,h5,h6⟩
   .rfl
   .rw[I.aA k h4]at x;simp at x;exact absurd (hr.inj _ _ _ _ hi h6 h0 hq x).symm h5
   .rw[I.aA j h1]at x;simp at x;exact absurd (hr.inj _ _ _ _ D hi hp h0 x) B
   .rw[I.aA j h1,I.aA k h4]at x;exact hr.inj _ _ _ _ D h6 hp hq x
theorem Rel.del{U:Nat->Prop}(hr:Rel M N U h w)(i:Nat):Rel M N U ((i,is)::h) w:=
 ⟨hr.dK,fun j o u=>hr.used j o (bn j o u).2,fun j o u x=>hr.dS j o (bn j o u).2 x,fun j o u=>hr.obj j o (bn j o u).2,
  fun j k o p u hk=>hr.inj j k o p (bn j o u).2 (bn k p hk).2⟩
theorem Ext.del{y:Mem}{A:Nm}{U B:Nat->Prop}{D:AH}{G:World}(u:Ext M N U h w y A B D G)(i:Nat):Ext M N U h w y A B ((i,is)::D) G:=
 ⟨u.os,u.tape,u.output,u.size,u.gK,u.oJ,u.iM,u.nm,u.ule,fun j o I x=>u.gB j o (bn j o I).2 x⟩
theorem Rel.swap{U:Nat->Prop}{i j:Nat}(u:i≠j){o p:Option AO}(hr:Rel M N U ((i,o)::(j,p)::h) w):Rel M N U ((j,p)::(i,o)::h) w:=by
 have e: ∀k,AH.get ((j,p)::(i,o)::h) k=AH.get ((i,o)::(j,p)::h) k:=by
  intro k;simp only[AH.ay];by_cases h1:k=i
  .subst h1;rw[be u,am Z,am Z]
  .simp[h1]
 exact⟨hr.dK,fun k o hk=>hr.used k o (by rw[<-e];exact hk),fun k o hk=>hr.dS k o (by rw[<-e];exact hk),fun k o hk=>hr.obj k o (by rw[<-e];exact hk),
  fun k l o p hk hl=>hr.inj k l o p (by rw[<-e];exact hk) (by rw[<-e];exact hl)⟩
end
inductive Src (h:AH) (sz:Nat):PV->List (List PV)->Prop
 |bI (n:Nat) (el:Nat->List IV):Src h sz (.iv (.bI sz n el)) ((XC n).map fun k=>(el k).map .iv)
 |row (j off n:Nat) (fs:List (List PV)) (hj:h.get j=io (.row sz fs)) (hle:off+n<=fs.length):Src h sz (.sl j off n sz) ((fs.drop off).take n)
 |nil:Src h sz (.iv (.v (.slice is 0 0))) []
theorem jS{sz:Nat}: ∀{es:List (List PV)},(∀(k:Nat) (e:List PV),es[k]? =io e->e.length=sz)-> ∀j p,es.flatten[j]? =io p-> ∃k e i,es[k]? =io e∧e[i]? =io p∧j=k*sz+i
 | [],_,j,p,h=>by simp at h
 |e::r,hl,j,p,h=>by
  rw[Z4]at h;have A:=hl 0 e Z;rcases XZ j e.length with hj|hj
  .rw[Xn hj]at h;exact⟨0,e,j,rfl,h,by simp⟩
  .rw[Xl hj]at h;obtain⟨k,u,i,h1,x,y⟩:=jS (fun k e h=>hl (k+1) e (by simpa using h)) _ p h;exact⟨k+1,u,i,by simpa using h1,x,by rw[XT];omega⟩
theorem fF{sz:Nat}: ∀{es:List (List PV)},(∀(k:Nat) (e:List PV),es[k]? =io e->e.length=sz)->es.flatten.length=es.length*sz
 | [],_=>by simp
 |e::r,hl=>by
  rw[Z4,W1,fF (fun k e h=>hl (k+1) e (by simpa using h)),hl 0 e Z,Xy,XT];omega
theorem jR{sz:Nat}: ∀{es:List (List PV)},(∀(k:Nat) (e:List PV),es[k]? =io e->e.length=sz)-> ∀k e i p,es[k]? =io e->e[i]? =io p->es.flatten[k*sz+i]? =io p
 | [],_,k,e,i,p,h,_=>by simp at h
 |e0::r,hl,k,e,i,p,h,hi=>by
  rw[Z4];have j:=hl 0 e0 Z;cases k with
  |zero=>
   simp at h;subst h;rw[YD,Xo,Xn (W4.1 hi).1];exact hi
  |succ k=>
   rw[Xl (by rw[j,XT];omega)];rw[show(k+1)*sz+i-e0.length=k*sz+i by rw[j,XT];omega];exact jR (fun k e h=>hl (k+1) e (by simpa using h)) k e i p (by simpa using h) hi
section
variable {P:Program} {ty:Ty} {M:Mem} {N:Nm} {w:World} {nt:NT} {s:AS} {a:Act}
theorem Src.ok{sz:Nat}{p:PV}{news:List (List PV)}(hs:Src s.h sz p news)(hf:Fits M N s nt a w){y:Value}(hy:VR M N (· <s.nx) p y):
  (∀(k:Nat) (e:List PV),news[k]? =io e->e.length=sz)∧ ∃I c,y= .slice I news.length c∧(news≠ []-> ∃b a0,I=io ⟨b,a0,is⟩∧
   ∀j p,news.flatten[j]? =io p-> ∃u,w.cell? ⟨b,a0+j,is⟩=io u∧VR M N (· <s.nx) p u):=by
 cases hs with
 |bI n el=>
  cases hy with
  |iv _ _ hi=>
   cases hi with
   |fS _ _ I c=>exact⟨by simp,I,c,by simp,by simp⟩
   |bI _ _ _ b a0 c hn hc hl hm hr=>
    have B: ∀(k:Nat) (e:List PV),((XC n).map fun k=>(el k).map PV.iv)[k]? =io e->e.length=sz:=by
     intro k e x;rw[W9,Xa]at x;obtain⟨k',D,rfl⟩:=x;obtain⟨h1,A⟩:=W4.1 D;simp at A h1;subst A;simpa using hl k h1
    refine⟨B,_,c,by simp,fun _=>⟨b,a0,rfl,fun j p hp=>?_⟩⟩;obtain⟨k,e,i,h1,A,rfl⟩:=jS B j p hp;rw[W9,Xa]at h1;obtain⟨k',D,rfl⟩:=h1;obtain⟨J,h4⟩:=W4.1 D;simp at h4 J;subst h4;rw[W9,Xa]at A;obtain⟨q,hq,rfl⟩:=A;have hi:i<sz:=by rw[<-hl k J];exact(W4.1 hq).1
    have h5:=hm k i J hi;cases hv:M.cell b (a0+k*sz+i) with
    |none=>simp[hv]at h5
    |some u=>
     refine⟨u,by rw[<-Yf];exact hf.1.I8 hv,.iv _ _ ?_⟩;have:=hr k i q J hq;rw[hv]at this;exact this
 |row j a0 n fs hj hle=>
  have Y:=hf.1.obj j _ hj;have base:(∀(k:Nat) (e:List PV),fs[k]? =io e->e.length=sz)-> ∀(k:Nat) (e:List PV),((fs.drop a0).take n)[k]? =io e->e.length=sz:=by
   intro h k e x;rw[XK]at x;split at x
   .rw[XW]at x;exact h _ e x
   .cases x
  cases hy with
  |lx _ _ hU=>exact⟨by simp,is,0,by simp,by simp⟩
  |sle _ _ cap hU hc x=>exact⟨by simp,io ⟨N.aA j,0,is⟩,cap,by simp,by simp⟩
  |sl _ _ _ _ cap hU h0 hl hc x=>
   rcases Y with rfl|⟨hsz,c,T,g1,g2,g3,g4,g5⟩
   .simp at hle;omega
   refine⟨base g4,_,cap,by simp;rw[Y9 (by omega)],fun _=>⟨N.aA j,a0*sz,rfl,fun i p hp=>?_⟩⟩;obtain⟨k,e,G,h1,A,rfl⟩:=jS (base g4) i p hp;rw[XK]at h1;split at h1
   .rename_i hk;rw[XW]at h1;have d0:G<sz:=by rw[<-g4 _ e h1];exact(W4.1 A).1
    have b0:a0+k<fs.length:=(W4.1 h1).1;have c0:(a0+k)*sz+G<c.size:=by
     have:(a0+k+1)*sz<=fs.length*sz:=Xt _ b0;rw[XT]at this;omega
    refine⟨c.getD ((a0+k)*sz+G) undef,?_,g5 _ e _ p h1 A⟩;rw[show a0*sz+(k*sz+G)=(a0+k)*sz+G by rw[XT];omega];simp[World.cell?,g1,WZ,c0]
   .cases h1
 |nil=>
  cases hy with
  |iv _ _ hi=>cases hi with
   |v=>exact⟨by simp,is,0,rfl,by simp⟩
theorem lu{l:List PV}{b off:Nat}(h: ∀j p,l[j]? =io p-> ∃u,w.cell? ⟨b,off+j,is⟩=io u∧VR M N (· <s.nx) p u):
  ∃vs:List Value,vs.length=l.length∧(∀(j:Nat) (u:Value),vs[j]? =io u->w.cell? ((⟨b,off,is⟩:Addr).add j)=io u)∧ ∀(j:Nat) (p:PV),l[j]? =io p->VR M N (· <s.nx) p (vs.getD j undef):=by
 refine⟨(XC l.length).map fun j=>(w.cell? ⟨b,off+j,is⟩).getD undef,by simp,fun j u hu=>?_,fun j p B=>?_⟩
 .rw[W9,Xa]at hu;obtain⟨G,x,rfl⟩:=hu;obtain⟨h1,A⟩:=W4.1 x;simp at h1 A;subst A;obtain⟨u,hu,_⟩:=h j _ (W5 h1);rw[c9,hu];rfl
 .have y:j<l.length:=(W4.1 B).1;obtain⟨u,hu,D⟩:=h j p B;rw[W2];simp[y,hu,D]
theorem jl(t ty e:TypeId)(i:TypeInfo)(ht:P.underlying t=io (.slice e))(hi:P.info? e=io i)(T:TypeId)
  (g x A:Nat) (y:Array Value) (hg:w.heap[g]? =io (.cells y T (0,0)))
  (a:Addr) (m c:Nat) (news:List Value) (hl:news.length=m*i.size) (B: ∀(j:Nat) (u:Value),news[j]? =io u->w.cell? (a.add j)=io u) (h1: ∀u∈news,u.oneCell'=jp)
  (D:x+m<=A) (G:x*i.size+news.length<=y.size):
  (Builtin.append_ #[t,t] ty #[.slice (io ⟨g,0,is⟩) x A,.slice (io a) m c]).run P w=
   .ok (.slice (io ⟨g,0,is⟩) (x+m) A) (w.setRow g (y.toList.take (x*i.size)++news++y.toList.drop (x*i.size+news.length)).toArray):=by
 have hf:=run_firstCells_some (P:=P) w i.size m a m c news hl B;have I:=run_storeCells_at P g (x*i.size) T news 0 y w hg (by simpa using G) h1;simp only[YC]at I;simp[Builtin.append_,run_underlying ht,sizeOf,typeInfo,hi,Builtin.lenOf,D,hf,Addr.add_lit,I]
theorem fC(t ty e:TypeId)(i:TypeInfo)(ht:P.underlying t=io (.slice e))(hi:P.info? e=io i)(y:Option Addr)(u j:Nat)(x:u<=j)(A:Option Addr)(c:Nat)(hs:y=is∨ ∃b o,y=io ⟨b,o,is⟩):
  (Builtin.append_ #[t,t] ty #[.slice y u j,.slice A 0 c]).run P w= .ok (.slice y u j) w:=by
 have hf:(Builtin.firstCells i.size 0 (.slice A 0 c)).run P w= .ok #[] w:=by
  cases A with
  |none=>simp[Builtin.firstCells]
  |some a=>simp[Builtin.firstCells,loadCells,loadCellsFrom]
 rcases hs with rfl|⟨b,o,rfl⟩
 .simp[Builtin.append_,run_underlying ht,sizeOf,typeInfo,hi,Builtin.lenOf,x,hf]
 .simp[Builtin.append_,run_underlying ht,sizeOf,typeInfo,hi,Builtin.lenOf,x,hf,storeCells]
def iN(s:AS)(i sz:Nat)(es news:List (List PV)):AS:=match s with|⟨f,h,n⟩=>⟨f,(n,io (.row sz (es++news)))::(i,is)::h,n+1⟩
theorem KD(s:AS)(i sz:Nat)(es news:List (List PV)):(iN s i sz es news).h=(s.nx,io (.row sz (es++news)))::(i,is)::s.h:=by cases s;rfl
theorem S3(s:AS)(i sz:Nat)(es news:List (List PV)):(iN s i sz es news).f=s.f:=by cases s;rfl
theorem ig(s:AS)(i sz:Nat)(es news:List (List PV)):(iN s i sz es news).nx=s.nx+1:=by cases s;rfl
theorem jf{i sz:Nat}{es news:List (List PV)}{j:Mem}{u:Nm}{x:World}(hf:Fits M N s nt a w)(y:Ext M N (· <s.nx) s.h w j u (· <s.nx+1) ((s.nx,io (.row sz (es++news)))::(i,is)::s.h) x)
  (hr:Rel j u (· <s.nx+1) ((s.nx,io (.row sz (es++news)))::(i,is)::s.h) x):
  Ext M N (· <s.nx) s.h w j u (· <(iN s i sz es news).nx) (iN s i sz es news).h x∧Fits j u (iN s i sz es news) nt a x:=by
 rw[KD,ig];refine⟨y,?_,?_,hf.2.2⟩
 .rw[KD,ig];exact hr
 .rw[S3,ig];exact hf.2.1.ext y
theorem Ext.swap{U D:Nat->Prop}{h x:AH}{A:Mem}{B:Nm}{G:World}{i j:Nat}(y:i≠j){o p:Option AO}(u:Ext M N U h w A B D ((i,o)::(j,p)::x) G):Ext M N U h w A B D ((j,p)::(i,o)::x) G:=by
 have e: ∀k,AH.get ((j,p)::(i,o)::x) k=AH.get ((i,o)::(j,p)::x) k:=by
  intro k;simp only[AH.ay];by_cases h1:k=i
  .subst h1;rw[be y,am Z,am Z]
  .simp[h1]
 exact⟨u.os,u.tape,u.output,u.size,u.gK,u.oJ,u.iM,u.nm,u.ule,fun k o hk=>u.gB k o (by rw[<-e];exact hk)⟩
theorem S2(a2:bq P ty){o:Oper}{x y:Operand}{t u:TypeId}(ho:o.op= .call ⟨.builtin .append, #[x,y], #[t,t]⟩){e eu:bC}(ht:ty t=io e)(hk:e.k= .aP (.slice u))(hu:ty u=io eu)
  {i len sz:Nat} {es news:List (List PV)} {py:PV} (hx:ev s.f x= .sl i 0 len sz) (hi:s.h.get i=io (.row sz es)) (G:es.length=len) (n2:eu.size=sz) (hz:eu.zero.cells.size=sz) (m2:0<sz)
  (k2:ev s.f y=py) (hy:Src s.h sz py news) (o1: ∀e∈news,dB e=jp) (hb:(len+news.length)*eu.bytes<=140737488355328) (t2:len+news.length<=140737488355328)
  {s':AS} (hp:putDst nt o (.sl s.nx 0 (len+news.length) sz) (iN s i sz es news)=io s'):OT P nt o s (fun t=>t=s'):=by
 refine OT.value hp fun M N a w hf=>?_;subst n2;obtain⟨⟨ii,s0,z0,f2,x1⟩,_⟩:=a2 u _ hu
 have v0:P.underlying t=io (.slice u):=by
  have:=(a2 t _ ht).2.1;rw[hk]at this;exact this.1
 have s1:=aO hf.2.1 x;rw[hx]at s1;have b2:=aO hf.2.1 y;rw[k2]at b2;obtain⟨Y,ao,c,s2,e0⟩:=hy.ok hf b2;have B: ∀v w',(Builtin.append_ #[t,t] o.type #[a.eval x,a.eval y]).run P w= .ok v w'->(execOp a.eval o).run P w= .ok (.value v) w':=by
  intro v w' h;simp only[execOp,ho,resolve];simp[invoke,builtin,h]
 rw[s2]at B;have v2:i<s.nx:=hf.1.used i _ hi;have a1:s.nx≠i:=by omega
 have j2:=hf.1.obj i _ hi;have c0:(len+news.length)*ii.bytes<=140737488355328:=by rw[f2];exact hb
 have j0: ∀(I vs:List Value) (a0:Nat),I.length=es.length*eu.size->vs.length=news.length*eu.size->(∀(k:Nat) (e:List PV) (j:Nat) (p:PV),es[k]? =io e->e[j]? =io p->VR M N (· <s.nx) p (I.getD (k*eu.size+j) undef))->
   (∀(k:Nat) (e:List PV),es[k]? =io e->e.length=eu.size)->(∀(j:Nat) (p:PV),news.flatten[j]? =io p->VR M N (· <s.nx) p (vs.getD j undef))->len+news.length<=a0->a0<=maxLen->0<len+news.length->
   ∀z:Array Value,z=I.toArray++vs.toArray++Builtin.zeroCells eu.zero.cells (a0-(len+news.length))->
   ∃M' N',Ext M N (· <s.nx) s.h w M' N' (· <(iN s i eu.size es news).nx) (iN s i eu.size es news).h (w.drew.alloc (.cells z u))∧Fits M' N' (iN s i eu.size es news) nt a (w.drew.alloc (.cells z u))∧
    VR M' N' (· <(iN s i eu.size es news).nx) (.sl s.nx 0 (len+news.length) eu.size) (.slice (io ⟨w.heap.size,0,is⟩) (len+news.length) a0):=by
  intro I vs a0 n1 i0 p2 w1 o2 n0 e2 p1 z t1;have g0:z.size=a0*eu.size:=by
   rw[t1,YE,YE,size_zeroCells,hz];simp only[Zg,n1,i0,G];rw[<-XT,<-XT,Nat.add_sub_cancel' n0]
  obtain⟨N',h1,h2,h3,h4,h5⟩:=hf.1.drew.alloc (.cells z u) (.row eu.size (es++news)) z.size (fun N' g1 g2 g3=>by
   refine .inr ⟨m2,z,u,by rw[g1];exact heap_alloc_new _ _,g2.symm,?_,fun k e A=>?_,fun k e j p A J=>?_⟩
   .rw[g0,W1,G];exact Xt _ n0
   .rcases XZ k es.length with hk|hk
    .rw[Xn hk]at A;exact w1 k e A
    .rw[Xl hk]at A;exact Y _ e A
   .rcases XZ k es.length with hk|hk
    .rw[Xn hk]at A;have k1:j<eu.size:=by rw[<-w1 k e A];exact(W4.1 J).1
     have r0:k*eu.size+j<I.length:=by
      rw[n1];have:(k+1)*eu.size<=es.length*eu.size:=Xt _ hk;rw[XT]at this;omega
     have:=p2 k e j p A J;have e1:z.getD (k*eu.size+j) undef=I.getD (k*eu.size+j) undef:=by
      rw[t1,WZ,ZH,XF (by simpa using r0),W2];simp
     rw[e1];exact this.mono (.refl _) g3 (fun i hi=>by omega)
    .rw[Xl hk]at A;have k1:j<eu.size:=by rw[<-Y _ e A];exact(W4.1 J).1
     have m1:k-es.length<news.length:=(W4.1 A).1;have j1:=jR Y _ e j p A J;have r0:(k-es.length)*eu.size+j<vs.length:=by
      rw[i0];have:(k-es.length+1)*eu.size<=news.length*eu.size:=Xt _ m1;rw[XT]at this;omega
     have f0:k*eu.size+j=I.length+((k-es.length)*eu.size+j):=by
      rw[n1,aal];have:es.length*eu.size<=k*eu.size:=Xt _ hk;omega
     have:=o2 _ p j1;have e1:z.getD (k*eu.size+j) undef=vs.getD ((k-es.length)*eu.size+j) undef:=by
      rw[t1,WZ,f0,XF (by simp;omega),YV (by simp),W2];simp
     rw[e1];exact this.mono (.refl _) g3 (fun i hi=>by omega))
  have l2:=(h5.del i).swap (Ne.symm a1);have r2:=(((Ext.drew (M:=M) (N:=N) (U:=(· <s.nx)) (h:=s.h) (w:=w)).trans h4).del i).swap (Ne.symm a1);obtain⟨g1,g2⟩:=jf hf r2 l2;refine⟨M,N',g1,g2,?_⟩;rw[ig];have:=VR.sl (M:=M) (N:=N') (U:=(· <s.nx+1)) s.nx 0 (len+news.length) eu.size a0 (by omega) p1 n0 e2 (by rw[h2,g0];simp);rw[h1,YD]at this;exact this
 have p0: ∀vs:List Value,vs.length=news.flatten.length->vs.length=news.length*ii.size:=fun vs h=>by rw[h,fF Y,z0]
 generalize a.eval x=vx at s1 B;cases s1 with
 |lx _ _ hU=>
  have A:es=[]:=by simpa using G
  subst A;by_cases hm:news=[]
  .subst hm;have D:=fC (P:=P) (w:=w) t o.type u ii v0 s0 is 0 0 (W8 _) ao c (.inl Z);obtain⟨h1,h2⟩:=hf.1.C7 eu.size;obtain⟨g1,g2⟩:=jf (es:=[]) (news:=[]) (i:=i) hf ((h1.del i).swap (Ne.symm a1)) ((h2.del i).swap (Ne.symm a1));exact⟨_,w,M,N,B _ _ D,g1,g2,.lx _ _ (by rw[ig];omega)⟩
  .obtain⟨b,d1,f1,b0⟩:=e0 hm;subst f1;obtain⟨vs,i0,b1,x0⟩:=lu (s:=s) b0;have z1:0<news.length:=Yi.2 hm;have D:=run_append_nil (P:=P) w t o.type u ii eu.zero v0 s0 x1 ⟨b,d1,is⟩ news.length c vs (p0 vs i0) b1 z1 (by omega) (by simp only[Yg,Xo]at c0;omega);obtain⟨M',N',g1,g2,g3⟩:=j0 [] vs (grownCap w news.length 0 u) (by simp) (by rw[i0,fF Y]) (by simp) (by simp) x0 (by simpa using grownCap_ge w news.length 0 u) (grownCap_le_maxLen w _ _ _ (by simp only[maxLen];omega)) (by omega) _ Z;simp only[Xo,Xq] at*
   exact⟨_,_,M',N',B _ _ D,by simpa using g1,by simpa using g2,by simpa using g3⟩
 |sl _ _ _ _ a0 hU h0 hl hc hext=>
  rcases j2 with rfl|⟨hsz0,cur,T,q1,q2,q3,q4,q5⟩
  .simp at G;omega
  have m0:(AO.row eu.size es).real=jp:=by cases es with
   |nil=>simp at G;omega
   |cons=>rfl
  rw[YD]at B;have o0:cur.size=a0*eu.size:=by rw[q2,<-hext,Xo]
  by_cases hm:news=[]
  .subst hm;have D:=fC (P:=P) (w:=w) t o.type u ii v0 s0 (io ⟨N.aA i,0,is⟩) len a0 hl ao c (.inr ⟨_,_,rfl⟩)
   obtain⟨h1,h2⟩:=hf.1.move hi m0 w (.row eu.size (es++ [])) Z Z Z Z (fun _ _=>rfl) (by
    rw[XM]
    exact .inr ⟨hsz0,cur,T,by simpa using q1,by simpa using q2,q3,q4,fun k e j p A J=>(q5 k e j p A J).mono (.refl _) (N.dx _ _ _) (fun i hi=>by omega)⟩)
   obtain⟨g1,g2⟩:=jf (es:=es) (news:=[]) (i:=i) hf h1 h2;refine⟨_,w,M,_,B _ _ D,g1,g2,?_⟩;have:=VR.sl (M:=M) (N:=N.with s.nx (N.aA i) (N.ext i)) (U:=(· <s.nx+1)) s.nx 0 len eu.size a0 (by omega) h0 hl hc (by simpa using hext);rw[ig];simpa using this
  .obtain⟨b,d1,f1,b0⟩:=e0 hm;subst f1;obtain⟨vs,i0,b1,x0⟩:=lu (s:=s) b0;have z1:0<news.length:=Yi.2 hm;have q0:vs.length=news.length*eu.size:=by rw[i0,fF Y]
   have t0: ∀(j:Nat) (v:Value),(cur.toList.take (len*eu.size))[j]? =io v->w.cell? ((⟨N.aA i,0,is⟩:Addr).add j)=io v:=by
    intro j v hv;rw[XK]at hv;split at hv
    .rw[c9,Xo];simp only[World.cell?,q1];simpa using hv
    .cases hv
   have w2:len*eu.size<=cur.size:=by rw[o0];exact Xt _ hl
   have k0: ∀(k:Nat) (e:List PV) (j:Nat) (p:PV),es[k]? =io e->e[j]? =io p->k*eu.size+j<len*eu.size:=by
    intro k e j p A J;have hk:k<len:=by rw[<-G];exact(W4.1 A).1
    have k1:j<eu.size:=by rw[<-q4 k e A];exact(W4.1 J).1
    have:(k+1)*eu.size<=len*eu.size:=Xt _ hk;rw[XT]at this;omega
   by_cases d0:len+news.length<=a0
   .have i1:len*eu.size+vs.length<=cur.size:=by rw[q0,<-XT,o0];exact Xt _ d0
    have w0: ∀v∈vs,v.oneCell'=jp:=by
     intro v hv;obtain⟨j,J⟩:=XU hv;have i2:j<news.flatten.length:=by rw[<-i0];exact(W4.1 J).1
     have hp:=W5 i2;obtain⟨k,e,i',h1,h2,_⟩:=jS Y j _ hp;have:=(x0 j _ hp).one (gE (o1 e (XE h1)) i' _ h2);rw[W2,J]at this;exact this
    have D:=jl (P:=P) (w:=w) t o.type u ii v0 s0 T (N.aA i) len a0 cur q1 ⟨b,d1,is⟩ news.length c vs (p0 vs i0) b1 w0 d0 (by rw[z0];exact i1);rw[z0]at D;generalize hL:(cur.toList.take (len*eu.size)++vs++cur.toList.drop (len*eu.size+vs.length)).toArray=L at D;have v1:L.size=cur.size:=by rw[<-hL];simp;omega
    have r1:=setRow_heap w (N.aA i) cur L T (0,0) q1;have d2: ∀j,j<len*eu.size->L.getD j undef=cur.getD j undef:=by
     intro j J;rw[<-hL,WZ,WZ];simp only[XP];rw[Xf,Xn (by simp;omega),XK,am J,Xz]
    have c2: ∀j,j<vs.length->L.getD (len*eu.size+j) undef=vs.getD j undef:=by
     intro j J;rw[<-hL,WZ,W2];simp only[XP];rw[Xn (by simp;omega),Xl (by simp;omega)];congr 2;simp;omega
    obtain⟨h1,h2⟩:=hf.1.move hi m0 (w.setRow (N.aA i) L) (.row eu.size (es++news)) Z Z Z (by simp) (fun b hb=>by
      simp only[World.setRow,XB]
      rw[be (fun e=>hb e.symm)]) (by
     refine .inr ⟨hsz0,L,T,by simpa using r1,by rw[v1];simpa using q2,?_,fun k e A=>?_,fun k e j p A J=>?_⟩
     .rw[v1,o0,W1,G];exact Xt _ d0
     .rcases XZ k es.length with hk|hk
      .rw[Xn hk]at A;exact q4 k e A
      .rw[Xl hk]at A;exact Y _ e A
     .rcases XZ k es.length with hk|hk
      .rw[Xn hk]at A;rw[d2 _ (k0 k e j p A J)];exact(q5 k e j p A J).mono (.refl _) (N.dx _ _ _) (fun i hi=>by omega)
      .rw[Xl hk]at A;have k1:j<eu.size:=by rw[<-Y _ e A];exact(W4.1 J).1
       have m1:k-es.length<news.length:=(W4.1 A).1;have j1:=jR Y _ e j p A J;have r0:(k-es.length)*eu.size+j<vs.length:=by
        rw[q0];have:(k-es.length+1)*eu.size<=news.length*eu.size:=Xt _ m1;rw[XT]at this;omega
       have f0:k*eu.size+j=len*eu.size+((k-es.length)*eu.size+j):=by
        rw[<-G,aal];have:es.length*eu.size<=k*eu.size:=Xt _ hk;omega
       rw[f0,c2 _ r0]
       exact(x0 _ p j1).mono (.refl _) (N.dx _ _ _) (fun i hi=>by omega))
    obtain⟨g1,g2⟩:=jf (es:=es) (news:=news) (i:=i) hf h1 h2;refine⟨_,_,M,_,B _ _ D,g1,g2,?_⟩;have:=VR.sl (M:=M) (N:=N.with s.nx (N.aA i) (N.ext i)) (U:=(· <s.nx+1)) s.nx 0 (len+news.length) eu.size a0 (by omega) (by omega) d0 hc (by simpa using hext);rw[ig];simpa using this
   .have D:=run_append_grow (P:=P) w t o.type u ii eu.zero v0 s0 x1 ⟨N.aA i,0,is⟩ len a0 (cur.toList.take (len*eu.size)) (by rw[z0];simp;omega) t0 ⟨b,d1,is⟩ news.length c vs (p0 vs i0) b1 (by omega) (by omega)
     (growslice_fits (by omega) c0)
    obtain⟨M',N',g1,g2,g3⟩:=j0 (cur.toList.take (len*eu.size)) vs (grownCap w (len+news.length) a0 u) (by rw[G];simp;omega) q0 (fun k e j p A J=>by
      have:=q5 k e j p A J;have r0:=k0 k e j p A J;rw[W2,XK,am r0,Xz]
      rw[WZ]at this;exact this) q4 x0 (grownCap_ge w _ _ _) (grownCap_le_maxLen w _ _ _ (by simp only[maxLen];omega)) (by omega) _ Z
    exact⟨_,_,M',N',B _ _ D,g1,g2,g3⟩
def xp(h:AH)(sz:Nat):PV->Option (List (List PV))
 | .iv (.bI sz' n el)=>match Xv sz' sz with
  |true=>io ((XC n).map fun k=>(el k).map .iv)
  |false=>is
 | .iv (.v (.slice is 0 0))=>io []
 | .sl j off n sz'=>match Xv sz' sz,h.get j with
  |true,io (.row sz2 fs)=>match Xv sz2 sz,Y4 (off+n) fs.length with
   |true,jp=>io ((fs.drop off).take n)
   |_,_=>is
  |_,_=>is
 |_=>is
theorem ib{h:AH}{sz:Nat}{p:PV}{news:List (List PV)}(hs:xp h sz p=io news):Src h sz p news:=by
 unfold xp at hs;split at hs
 .split at hs
  .rename_i hb;simp only[W3]at hs;have:=Xs hb;subst this;subst hs;exact .bI _ _
  .cases hs
 .simp only[W3]at hs;subst hs;exact .nil
 .split at hs
  .rename_i j A;split at hs
   .rename_i u x;simp only[W3]at hs;have h1:=Xs j;have y:=Xs u;subst h1;subst y;subst hs;exact .row _ _ _ _ A (WY x)
   .cases hs
  .cases hs
 .cases hs
def allOnes:List (List PV)->Bool
 | []=>jp
 |e::r=>match dB e with
  |true=>allOnes r
  |false=>kw
theorem eD: ∀{l:List (List PV)},allOnes l=jp-> ∀e∈l,dB e=jp
 | [],_,e,h=>by cases h
 |c::l,h,e,he=>by
  simp only[allOnes]at h;split at h
  .rename_i j;rcases Xm.1 he with rfl|he
   .exact j
   .exact eD h e he
  .cases h
def u9(s:AS)(t sz:Nat):AS:=match s with|⟨f,h,n⟩=>⟨(t,.sl n 0 0 sz)::f,(n,io (.row sz []))::h,n+1⟩
theorem KV{o:Oper}{R:AS->Prop}{t sz:Nat}(ht:s.f.get t= .iv (.v (.slice is 0 0)))(h:OT P nt o (u9 s t sz) R):OT P nt o s R:=by
 intro M N a w hf K Z hk;obtain⟨I,J,Y⟩:=s;obtain⟨h1,D⟩:=hf.1.C7 sz;have u:Fits M N (u9 ⟨I,J,Y⟩ t sz) nt a w:=by
  refine⟨D,fun k=>?_,hf.2.2⟩;simp only[u9];rw[AF.ay];split
  .rename_i x;subst x;have:=hf.2.1 k;simp only at ht this;rw[ht]at this;generalize a.tmps.getD k undef=v at this;cases this with
   |iv _ _ h=>cases h with
    |v=>exact .lx _ _ (YM _)
  .exact(hf.2.1 k).mono (.refl _) (.refl _ _) (fun i hi=>YF hi)
 exact h M N a w u K Z fun y A s' B w' G j hr=>hk y A s' B w' (h1.trans G) j hr
def DF(s:AS)(op:Op):Option (Nat×TypeId):=
 match op with
 | .call ⟨.builtin .append,args,tys⟩=>match args.toList,tys.toList with
  | [.tmp t0,_],[t,_]=>match s.f.get t0 with
   | .iv (.v (.slice is 0 0))=>io (t0,t)
   |_=>is
  |_,_=>is
 |_=>is
theorem GL{op:Op}{t0:Nat}{t:TypeId}(h:DF s op=io (t0,t)):s.f.get t0= .iv (.v (.slice is 0 0)):=by
 unfold DF at h;split at h
 .split at h
  .split at h
   .rename_i j;simp only[W3,Xe]at h;rw[<-h.1];exact j
   .cases h
  .cases h
 .cases h
end
end
section
section
variable {kc:KC} {V:Type} {M:Mem} {e:V->IV} {m:List (kc.K×V)} {ents:Array MapEntry} {clock:Nat}
theorem j8.D1(h:j8 M kc e m ents clock){j:Nat}(hj:j<ents.size):ents.getD j co=ents[j]:=by simp[WZ,hj]
theorem j8.set(h:j8 M kc e m ents clock){i:Nat}{k:kc.K}{v:V}{y:Value}(hv:IR M (e v) y):j8 M kc e (m.set i (k,v)) (ents.modify i fun x=>{x with key:=kc.ek k,val:=y}) clock:=by
 have hb: ∀(j:Nat) (f:MapEntry),(ents.modify i fun x=>{x with key:=kc.ek k,val:=y})[j]? =io f-> ∃g,ents[j]? =io g∧g.born=f.born:=by
  intro j f hf;rw[XB]at hf;split at hf
  .obtain⟨g,J,rfl⟩:=Xa.1 hf;exact⟨g,J,rfl⟩
  .exact⟨f,hf,rfl⟩
 have Y: ∀(j:Nat) (x:kc.K×V),(m.set i (k,v))[j]? =io x->(j=i∧x=(k,v)∧i<m.length)∨(j≠i∧m[j]? =io x):=by
  intro j x u;rw[YP]at u;split at u
  .rename_i B;split at u
   .simp only[W3]at u;exact .inl ⟨B.symm,u.symm,by assumption⟩
   .cases u
  .rename_i B;exact .inr ⟨fun e=>B e.symm,u⟩
 refine⟨by simp[h.size],fun j x u=>?_,fun j x u=>?_,fun j l f g hf J I=>?_,fun j f hf=>?_⟩
 .rcases Y j x u with⟨rfl,rfl,D⟩|⟨h1,A⟩
  .have:j<ents.size:=by rw[h.size];exact D
   rw[WZ,XB,am Z,XJ this];rfl
  .have:=h.key j x A;rw[WZ,XB,be (fun e=>h1 e.symm),<-WZ];exact this
 .rcases Y j x u with⟨rfl,rfl,D⟩|⟨h1,A⟩
  .have:j<ents.size:=by rw[h.size];exact D
   rw[WZ,XB,am Z,XJ this];exact hv
  .have:=h.val j x A;rw[WZ,XB,be (fun e=>h1 e.symm),<-WZ];exact this
 .obtain⟨G,h1,A⟩:=hb j f hf;obtain⟨g',h3,h4⟩:=hb l g J;exact h.inj j l G g' h1 h3 (by rw[A,h4,I])
 .obtain⟨G,h1,A⟩:=hb j f hf;rw[<-A];exact h.lt j G h1
theorem j8.push(h:j8 M kc e m ents clock){k:kc.K}{v:V}{y:Value}(hv:IR M (e v) y):j8 M kc e (m++ [(k,v)]) (ents.push {key:=kc.ek k,val:=y,born:=clock}) (clock+1):=by
 have G: ∀(j:Nat) (x:kc.K×V),(m++ [(k,v)])[j]? =io x->(j=ents.size∧x=(k,v))∨(j<ents.size∧m[j]? =io x):=by
  intro j x u;rw[h.size];rcases XZ j m.length with hj|hj
  .rw[Xn hj]at u;exact .inr ⟨hj,u⟩
  .rw[Xl hj]at u;have I:j-m.length=0:=by
    rcases Nat.eq_zero_or_pos (j-m.length) with h1|h1
    .exact h1
    .rw[List.getElem?_eq_none (by simp;omega)]at u;cases u
   rw[I]at u;exact .inl ⟨by omega,by simpa using u.symm⟩
 have hb: ∀(j:Nat) (f:MapEntry),(ents.push {key:=kc.ek k,val:=y,born:=clock})[j]? =io f->(j=ents.size∧f.born=clock)∨(j<ents.size∧ents[j]? =io f∧f.born<clock):=by
  intro j f hf;rw[Zj]at hf;split at hf
  .rename_i hj;simp only[W3]at hf;subst hf;exact .inl ⟨hj,rfl⟩
  .exact .inr ⟨(Yh.1 hf).1,hf,h.lt j f hf⟩
 refine⟨by simp[h.size],fun j x u=>?_,fun j x u=>?_,fun j l f g hf hg B=>?_,fun j f hf=>?_⟩
 .rcases G j x u with⟨rfl,rfl⟩|⟨h1,A⟩
  .simp[WZ]
  .have:=h.key j x A;rw[WZ,Zj,be (by omega),<-WZ];exact this
 .rcases G j x u with⟨rfl,rfl⟩|⟨h1,A⟩
  .simpa[WZ]using hv
  .have:=h.val j x A;rw[WZ,Zj,be (by omega),<-WZ];exact this
 .rcases hb j f hf with⟨h1,A⟩|⟨h1,A,J⟩<;>rcases hb l g hg with⟨Y,D⟩|⟨Y,D,h6⟩
  .omega
  .omega
  .omega
  .exact h.inj j l f g A D B
 .rcases hb j f hf with⟨h1,A⟩|⟨h1,A,J⟩<;>omega
theorem j8.erase(h:j8 M kc e m ents clock){i:Nat}(hi:i<m.length):j8 M kc e (m.eraseIdx i) (ents.eraseIdxIfInBounds i) clock:=by
 have D:i<ents.size:=by rw[h.size];exact hi
 have G: ∀j,(ents.eraseIdxIfInBounds i)[j]? =if j<i then ents[j]? else ents[j+1]? :=by
  intro j;simp only[Z6,D,dif_pos];rw[Array.getElem?_eraseIdx]
 have I: ∀j,(m.eraseIdx i)[j]? =if j<i then m[j]? else m[j+1]? :=fun j=>List.getElem?_eraseIdx;refine⟨?_,fun j x A=>?_,fun j x A=>?_,fun j l f g hf u y=>?_,fun j f hf=>?_⟩
 .simp only[Z6,D,dif_pos,Array.size_eraseIdx,List.length_eraseIdx,hi,if_true,h.size]
 .rw[I]at A;rw[WZ,G];split at A
  .rename_i B;rw[am B,<-WZ];exact h.key j x A
  .rename_i B;rw[be B,<-WZ];exact h.key _ x A
 .rw[I]at A;rw[WZ,G];split at A
  .rename_i B;rw[am B,<-WZ];exact h.val j x A
  .rename_i B;rw[be B,<-WZ];exact h.val _ x A
 .rw[G]at hf u;split at hf<;>split at u
  .exact h.inj _ _ f g hf u y
  .have:=h.inj _ _ f g hf u y;omega
  .have:=h.inj _ _ f g hf u y;omega
  .have:=h.inj _ _ f g hf u y;omega
 .rw[G]at hf;split at hf<;>exact h.lt _ f hf
theorem zi(kc:KC)(k:kc.K):Instr.sameBits 10000 (kc.ek k) (kc.ek k)=jp:=by
 have hs: ∀(n:Nat) (a:ByteArray),Instr.sameBits n (.string a) (.string a)=jp:=by
  intro n a;cases n<;>(simp only[Instr.sameBits];rw[beq_toListBytes,vj];simp)
 have j: ∀(n:Nat) (q:IntKind) (a:Int),Instr.sameBits n (.int q a) (.int q a)=jp:=by
  intro n q a;cases n<;>simp[Instr.sameBits]
 cases kc with
 |str=>exact hs _ _
 |int q=>exact j _ _ _
 |si q=>
  simp only[KC.ek];show((#[Value.string k.1,.int q k.2].size== #[Value.string k.1,.int q k.2].size)&&(Instr.sameBits 9999 (.string k.1) (.string k.1)&&(Instr.sameBits 9999 (.int q k.2) (.int q k.2)&&jp)))=jp;rw[hs,j];rfl
 |fl s=>
  have u: ∀(t:FS) (l:List Value),xk t l->(l.zip l).all (fun(x:Value×Value)=>Instr.sameBits 9999 x.1 x.2)=jp:=by
   intro t
   induction t with
   |nil=>intro l h;match l,h with
    | [],_=>rfl
   |cons o t ih=>intro l h;match l,h with
    |v::l,h=>
     rw[List.zip_cons_cons,List.all_cons,ih l h.2,Bool.and_true];cases o with
     |none=>obtain⟨a,rfl⟩:=h.1;exact hs _ _
     |some q=>obtain⟨n,rfl⟩:=h.1;exact j _ _ _
  simp only[KC.ek];show(((FK.vs s k).toArray.size==(FK.vs s k).toArray.size)&&(((FK.vs s k).toArray.toList.zip (FK.vs s k).toArray.toList).all fun(x:Value×Value)=>Instr.sameBits 9999 x.1 x.2))=jp;rw[List.toList_toArray,u s _ (l5 s k)];simp
end
def QQ(ty:Ty)(s:AS):Op->Option (Prop×AS)
 | .mapUpdate t m k x=>match ev s.f m with
  | .mp i=>match s.h.get i with
   |some (.map kc e z zv dv mm)=>match ty t with
    |some ⟨.aP (.map kt _),_,_,_,_⟩=>match dV ty kt with
     |some kc'=>match lc (kc'=kc),kc.dk (ev s.f k) with
      |true,io kk=>match s with
       |⟨f,h,n⟩=>wv (ev f x) fun p=>io (ae p (.iv (e (dv p))),⟨f,(i,io (.map kc e z zv dv (cS kc mm kk (dv p))))::h,n⟩)
      |_,_=>is
     |none=>is
    |_=>is
   |_=>is
  |_=>is
 | .call ⟨.builtin .delete,args,tys⟩=>match args.toList,tys.toList with
  | [m,k],[t,_]=>match ev s.f m with
   | .mp i=>match s.h.get i with
    |some (.map kc e z zv dv mm)=>match ty t with
     |some ⟨.aP (.map kt _),_,_,_,_⟩=>match dV ty kt with
      |some kc'=>match lc (kc'=kc),kc.dk (ev s.f k) with
       |true,io kk=>match s with
        |⟨f,h,n⟩=>io (True,⟨f,(i,io (.map kc e z zv dv (lq kc mm kk)))::h,n⟩)
       |_,_=>is
      |none=>is
     |_=>is
    |_=>is
   |_=>is
  |_,_=>is
 |_=>is
section
variable {P:Program} {ty:Ty} {nt:NT} {s:AS} {M:Mem} {N:Nm} {w:World}
def oB(w:World)(b:Nat)(o:Obj):World:={w with heap:=w.heap.setIfInBounds b o}
theorem tW{nx:Nat}{h:AH}(hr:Rel M N (· <nx) h w){i:Nat}{kc:KC}{V:Type}{e:V->IV}{z:V}{B:Value}{x:PV->V}{I A:List (kc.K×V)}(hi:h.get i=io (.map kc e z B x I)){u:Array MapEntry}{j:Nat}
  (hm:j8 M kc e A u j):Ext M N (· <nx) h w M N (· <nx) ((i,io (.map kc e z B x A))::h) (oB w (N.aA i) (.map u j))∧Rel M N (· <nx) ((i,io (.map kc e z B x A))::h) (oB w (N.aA i) (.map u j)):=by
 have D:=hr.obj i _ hi;have y:=OR.lt D Z;obtain⟨ents,clock,h1,J,G⟩:=D;refine hr.write hi Z _ _ Z Z Z (by simp[oB]) (fun b hb=>?_) ⟨u,j,?_,hm,G⟩
 .show(w.heap.setIfInBounds _ _)[b]? =_;rw[XD,be (fun e=>hb e.symm)]
 .show(w.heap.setIfInBounds _ _)[_]? =_;rw[XD,am Z,am y]
theorem jE{r:Nat}{es:Array MapEntry}{clock:Nat}(o:Obj)(hb:w.heap[r]? =io (.map es clock)):(setObj r o).run P w= .ok () (oB w r o):=by
 simp[setObj,Sem.run,hb,oB]
theorem KY(J:bq P ty){o:Oper}{C:Prop}{s1 s':AS}(h:QQ ty s o.op=io (C,s1))(hC:C)(hp:putDst nt o .any s1=io s'):OT P nt o s (fun t=>t=s'):=by
 unfold QQ at h;split at h
 .rename_i t m k x ho;split at h
  .rename_i i c0;split at h
   .rename_i V kc e z zv dv mm hi;split at h
    .rename_i kt et _ _ _ _ he;have hu:=(J _ _ he).2.1.1;split at h
     .rename_i u d0;split at h
      .rename_i G hd e0;have hd:=of_decide_eq_true hd;subst hd;obtain⟨f,hh,n⟩:=s;simp only[dL,W3,Xe]at h;obtain⟨rfl,rfl⟩:=h;refine OT.skip hp fun M N a w hf=>?_;have f0:=FD e0 (aO hf.2.1 k);have I:=aO hf.2.1 m;simp only at c0;rw[c0]at I
       have m0:IR M (e (dv (ev f x))) (a.eval x):=by
        have:=hC M N (· <n) _ (aO hf.2.1 x);generalize a.eval x=y at this;cases this with
        |iv _ _ h=>exact h
       obtain⟨ents,clock,h1,h2,h3⟩:=hf.1.obj i _ hi;have Y:=lG (P:=P) (w:=w) J d0 G kw 9994;have D:=nP (P:=P) (w:=w) J d0 G h2.keys;have hg:(getObj (N.aA i)).run P w= .ok (.map ents clock) w:=by simp[getObj,Sem.run,h1]
       have a0: ∀B A,j8 M u e (cS u mm G (dv (ev f x))) B A->(Instr.mapUpdate t (.map (io (N.aA i))) (u.ek G) (a.eval x)).run P w= .ok () (oB w (N.aA i) (.map B A))->
         ∃w' M' N',(execOp a.eval o).run P w= .ok .skip w'∧Ext M N (· <n) hh w M' N' (· <n) ((i,io (.map u e z zv dv (cS u mm G (dv (ev f x)))))::hh) w'∧
          Fits M' N' ⟨f,(i,io (.map u e z zv dv (cS u mm G (dv (ev f x)))))::hh,n⟩ nt a w':=by
        intro B A g1 g2;obtain⟨g3,g4⟩:=tW hf.1 hi g1;refine⟨_,M,N,?_,g3,g4,hf.2.1,hf.2.2⟩;have i0:a.eval m= .map (io (N.aA i)):=by
         generalize a.eval m=y at I;cases I;rfl
        simp only[execOp,ho,i0,f0];simp[g2]
       cases hfi:kX u mm G with
       |none=>
        obtain⟨_,_,g3,_⟩:=pG hfi;rw[hfi]at D;refine a0 _ _ (by rw[g3];exact h2.push m0) ?_;simp[Instr.mapUpdate,run_underlying hu,hg,Y,D,jE (P:=P) _ h1]
       |some j=>
        obtain⟨v,g0,_,_,g3,_⟩:=mK hfi;rw[hfi]at D;refine a0 _ _ (by rw[g3];exact h2.set m0) ?_;have hj:j<ents.size:=by rw[h2.size];exact(W4.1 g0).1
        have k0:=h2.key j _ g0;rw[h2.D1 hj]at k0;have o0:(Instr.keyThatStays (u.ek G) (u.ek G)).run P w= .ok (u.ek G) w:=by simp[Instr.keyThatStays,zi]
        simp[Instr.mapUpdate,run_underlying hu,hg,Y,D,hj,k0,o0,jE (P:=P) _ h1]
      .cases h
     .cases h
    .cases h
   .cases h
  .cases h
 .rename_i args n0 ho;split at h
  .rename_i m k t t' b0 j0;have ha:args= #[m,k]:=by rw[<-YI (xs:=args),b0]
   have ht:n0= #[t,t']:=by rw[<-YI (xs:=n0),j0]
   subst ha ht;split at h
   .rename_i i c0;split at h
    .rename_i V kc e z zv dv mm hi;split at h
     .rename_i kt et _ _ _ _ he;have hu:=(J _ _ he).2.1.1;split at h
      .rename_i u d0;split at h
       .rename_i G hd e0;have hd:=of_decide_eq_true hd;subst hd;obtain⟨f,hh,n⟩:=s;simp only[W3,Xe]at h;obtain⟨rfl,rfl⟩:=h;refine OT.value hp fun M N a w hf=>?_;have f0:=FD e0 (aO hf.2.1 k);have I:=aO hf.2.1 m;simp only at c0;rw[c0]at I;obtain⟨ents,clock,h1,h2,h3⟩:=hf.1.obj i _ hi;have Y:=lG (P:=P) (w:=w) J d0 G ents.isEmpty 9994;have D:=nP (P:=P) (w:=w) J d0 G h2.keys;have hg:(getObj (N.aA i)).run P w= .ok (.map ents clock) w:=by simp[getObj,Sem.run,h1]
        have a0: ∀B A,j8 M u e (lq u mm G) B A->(Builtin.delete_ #[t,t'] o.type #[.map (io (N.aA i)),u.ek G]).run P w= .ok (.tuple #[]) (oB w (N.aA i) (.map B A))->
          ∃x w' M' N',(execOp a.eval o).run P w= .ok (.value x) w'∧Ext M N (· <n) hh w M' N' (· <n) ((i,io (.map u e z zv dv (lq u mm G)))::hh) w'∧
           Fits M' N' ⟨f,(i,io (.map u e z zv dv (lq u mm G)))::hh,n⟩ nt a w'∧VR M' N' (· <n) .any x:=by
         intro B A g1 g2;obtain⟨g3,g4⟩:=tW hf.1 hi g1;refine⟨.tuple #[],_,M,N,?_,g3,⟨g4,hf.2.1,hf.2.2⟩,.any _⟩;have i0:a.eval m= .map (io (N.aA i)):=by
          generalize a.eval m=y at I;cases I;rfl
         simp only[execOp,ho,resolve];simp[invoke,builtin,i0,f0,g2]
        cases hfi:kX u mm G with
        |none=>
         obtain⟨_,_,_,g3⟩:=pG hfi;rw[hfi]at D;refine a0 _ _ (by rw[g3];exact h2) ?_;simp[Builtin.delete_,run_underlying hu,hg,Y,D,jE (P:=P) _ h1]
        |some j=>
         obtain⟨v,g0,_,_,_,g3⟩:=mK hfi;rw[hfi]at D;refine a0 _ _ (by rw[g3];exact h2.erase (W4.1 g0).1) ?_;simp[Builtin.delete_,run_underlying hu,hg,Y,D,jE (P:=P) _ h1]
       .cases h
      .cases h
     .cases h
    .cases h
   .cases h
  .cases h
 .cases h
end
section
variable {P:Program} {ty:Ty} {nt:NT} {s:AS} {Q:AQ} {k:List KI}
def VB(nt:NT)(o:Oper)(s:AS)(i:Nat)(kc:KC){V:Type}(e:V->IV)(m:List (kc.K×V))(vs:List Nat)(t:AS):Prop:=
 ((∀j,j<m.length->j∈vs)∧putDst nt o (.a7 [.kb kw]) s=io t)∨
 ∃j x,m[j]? =io x∧j∉vs∧putDst nt o (.a7 [.kb jp,kc.pk x.1,(e x.2).pv]) ⟨s.f,(i,io (.bY kc e m (j::vs) (io x)))::s.h,s.nx⟩=io t
theorem Nk{o:Oper}{it:Operand}(ho:o.op= .next it kw){i:Nat}(t0:ev s.f it= .ptr i 0){kc:KC}{V:Type}{e:V->IV}{m:List (kc.K×V)}{vs:List Nat}{s0:Option (kc.K×V)}
  (hi:s.h.get i=io (.bY kc e m vs s0)) {d:Nat} (hd:o.dst=io d) (hlt:d<nt):OT P nt o s (VB nt o s i kc e m vs):=by
 intro M N a w hf K Z hk;have hx:=aO hf.2.1 it;rw[t0]at hx;have j0:=hf.1.obj i _ hi;have d0:N.aA i<w.heap.size:=OR.lt j0 rfl;have e0:a.eval it= .pointer (io ⟨N.aA i,0,is⟩):=by
  generalize a.eval it=y at hx;cases hx;rfl
 have Y: ∀p s1,∃t,putDst nt o p s1=io t∧t={s1 with f:=(d,p)::s1.f}:=by
  intro p s1;have hb:Xx d nt=jp:=X0 hlt;obtain⟨f,h,n⟩:=s1;exact⟨_,by simp only[putDst,hd,hb,cond_true,dL],rfl⟩
 rcases j0 with⟨rfl,rfl,rfl,h0⟩|⟨b,ents,clock,u,h1,h2,I,h4,h5,h6,h7⟩
 .have B:(execOp a.eval o).run P w= .ok (.value (.tuple #[.bool kw])) w:=by
   simp only[execOp,ho,e0];refine a8 ?_;simp only[Instr.next,getObj,Sem.run_bind,Sem.run,h0,Result.andThen];rfl
  unfold Oper.wp;rw[B];simp only[Oper.upon];obtain⟨t,ht,D⟩:=Y (.a7 [.kb kw]) s
  refine hk M N t _ w (by rw[D];exact .refl _ _ _ _ _) (by
   rw[D,hd]
   exact hf.put d _ _ hlt (.a7 _ _ rfl fun j p G=>by
    match j with
    |0=>simp at G;subst G;exact .kb _
    |j+1=>simp at G)) (.inl ⟨fun j J=>absurd J (YY _),ht⟩)
 have hb:w.heap[b]? =io (.map ents clock):=hf.1.dK _ _ h2;have a1: ∀j,j<ents.size->ents.getD j co=ents[j]! :=fun j J=>by simp[WZ,J,getElem!_pos]
 have i0: ∀x∈ents.toList,x.born<clock:=by
  intro x hx;obtain⟨j,J⟩:=XU hx;exact I.lt j x (by simpa using J)
 unfold Oper.wp;rcases run_next_at (P:=P) w o.type (N.aA i) b clock clock u ents clock h1 hb i0 (W8 _) with⟨g1,g2⟩|⟨x,r0,w1,q0,g2⟩
 .have B:(execOp a.eval o).run P w= .ok (.value (.tuple #[.bool kw])) w:=by
   simp only[execOp,ho,e0];exact a8 g2
  rw[B];simp only[Oper.upon];obtain⟨t,ht,D⟩:=Y (.a7 [.kb kw]) s
  refine hk M N t _ w (by rw[D];exact .refl _ _ _ _ _) (by
   rw[D,hd]
   exact hf.put d _ _ hlt (.a7 _ _ rfl fun j p G=>by
    match j with
    |0=>simp at G;subst G;exact .kb _
    |j+1=>simp at G)) (.inl ⟨fun j J=>?_,ht⟩)
  have v0:j<ents.size:=by rw[I.size];exact J
  have g0:(ents[j]).born∈u:=by
   refine Decidable.byContradiction fun hn=>?_
   have:ents[j]∈leftOf ents u:=by
    simp only[leftOf,ZR];exact⟨by simp,by simpa using hn⟩
   rw[Yn g1]at this;simp at this
  have:(ents[j]).born∈u.toList:=by simpa using g0
  rw[h4,XH]at this;obtain⟨q,hq,o0⟩:=this;have p0:q∈vs:=by simpa using hq
  have n0:q<ents.size:=by rw[I.size];exact h5 q p0
  rw[I.D1 n0]at o0;have:=I.inj q j ents[q] ents[j] (by simp[n0]) (by simp[v0]) o0;rw[<-this];exact p0
 .have B:(execOp a.eval o).run P w= .ok (.value (.tuple #[.bool jp,x.key,x.val])) (oB w1 (N.aA i) (.mapIter (io b) clock (u.push x.born) clock)):=by
   simp only[execOp,ho,e0];rw[Sem.run_bind,g2];rfl
  rw[B];simp only[Oper.upon];simp only[leftOf,Array.mem_toList_iff,ZR]at r0;obtain⟨x0,z0⟩:=r0;obtain⟨j,J,f0⟩:=Array.getElem_of_mem x0;have k0:j<m.length:=by rw[<-I.size];exact J
  have c0:m[j]? =io m[j]:=W5 k0;have m0:j∉vs:=by
   intro hv;have:(ents[j]).born∈u.toList:=by
    rw[h4,XH];exact⟨j,by simpa using hv,by rw[I.D1 J]⟩
   rw[f0]at this;have:x.born∈u:=by simpa using this
   simp[this]at z0
  obtain⟨t,ht,D⟩:=Y (.a7 [.kb jp,kc.pk m[j].1,(e m[j].2).pv]) ⟨s.f,(i,io (.bY kc e m (j::vs) (io m[j])))::s.h,s.nx⟩;have A:w1.heap=w.heap∧w1.os=w.os∧w1.tape=w.tape∧w1.output=w.output:=by
   rcases q0 with rfl|rfl<;>exact⟨rfl,rfl,rfl,rfl⟩
  have w0:OR M N (· <s.nx) (oB w1 (N.aA i) (.mapIter (io b) clock (u.push x.born) clock)) i (.bY kc e m (j::vs) (io m[j])):=by
   refine .inr ⟨b,ents,clock,u.push x.born,?_,h2,I,?_,?_,?_,?_⟩
   .show(w1.heap.setIfInBounds _ _)[_]? =_;rw[XD,am rfl,A.1,am d0]
   .simp only[Array.toList_push,h4,List.reverse_cons,Xg,W7,Xj];rw[I.D1 J,f0]
   .intro q hq;rcases Xm.1 hq with rfl|hq
    .exact k0
    .exact h5 q hq
   .exact XN.2 ⟨m0,h6⟩
   .intro y hy;simp only[W3]at hy;subst hy;exact⟨j,vs,rfl,c0⟩
  obtain⟨q1,q2⟩:=hf.1.write hi rfl (oB w1 (N.aA i) (.mapIter (io b) clock (u.push x.born) clock)) _ A.2.1 A.2.2.1 A.2.2.2 (by simp[oB,A.1]) (fun c hc=>by
   show(w1.heap.setIfInBounds _ _)[c]? =_
   rw[XD,be (fun e=>hc e.symm),A.1]) w0 (q0.elim (fun e=>e▸W8 _) fun e=>e▸Yw _)
  have a0:=I.key j _ c0;have b0:=I.val j _ c0;rw[I.D1 J,f0]at a0 b0
  refine hk M N t _ _ (by rw[D];exact q1) (by
   rw[D,hd];refine Fits.put (s:=⟨s.f,(i,io (.bY kc e m (j::vs) (io m[j])))::s.h,s.nx⟩) ⟨q2,hf.2⟩ d _ _ hlt (.a7 _ _ rfl fun q p G=>?_)
   match q with
   |0=>simp at G;subst G;exact .kb _
   |1=>simp at G;subst G;simp only[WZ];simp;rw[a0];exact yc kc _
   |2=>simp at G;subst G;exact x7 b0
   |q+3=>simp at G) (.inr ⟨j,m[j],c0,m0,ht⟩)
theorem dX{all rest:List Oper}{o:Oper}{A:Operand}{i:Nat}{kc:KC}{V:Type}{e:V->IV}{m:List (kc.K×V)}{vs:List Nat}{u:Option (kc.K×V)}{d:Nat}
  (ho:o.op= .next A kw) (hg:o.guard=is) (y:ev s.f A= .ptr i 0) (hi:s.h.get i=io (.bY kc e m vs u)) (hd:o.dst=io d) (hlt:d<nt)
  (h1:(∀j,j<m.length->j∈vs)->GO P nt (.ops all rest::k) Q ⟨(d,.a7 [.kb kw])::s.f,s.h,s.nx⟩)
  (B: ∀j x,m[j]? =io x->j∉vs->GO P nt (.ops all rest::k) Q ⟨(d,.a7 [.kb jp,kc.pk x.1,(e x.2).pv])::s.f,(i,io (.bY kc e m (j::vs) (io x)))::s.h,s.nx⟩):
  GO P nt (.ops all (o::rest)::k) Q s:=by
 refine bB hg (Nk ho y hi hd hlt) fun t ht=>?_;have hb:Xx d nt=jp:=X0 hlt;rcases ht with⟨g1,g2⟩|⟨j,x,g1,g2,g3⟩
 .obtain⟨f,h,n⟩:=s;simp only[putDst,hd,hb,cond_true,dL,W3]at g2;subst g2;exact h1 g1
 .simp only[putDst,hd,hb,cond_true,dL,W3]at g3;subst g3;exact B j x g1 g2
mutual
def PV.gm(i:Nat)(x:IV):PV->PV
 | .iv x=> .iv x
 | .agg cs=> .agg (wu i x cs)
 | .a7 cs=> .a7 (wu i x cs)
 | .sl j off len sz'=> .sl j off len sz'
 | .ptr j o=> .ptr j o
 | .cV j a b c=> .cV j a b c
 | .fe z j=> .fe z j
 | .ot j o n=> .ot j o n
 | .mp j=>bif Xv j i then .iv x else .mp j
 | .cB fn a b=> .cB fn a b
 | .kb b=> .kb b
 | .any=> .any
def wu(i:Nat)(x:IV):List PV->List PV
 | []=> []
 |p::r=>PV.gm i x p::wu i x r
end
theorem jb(i:Nat)(x:IV): ∀l:List PV,wu i x l=l.map (PV.gm i x)
 | []=>rfl
 |p::r=>by simp[wu,jb i x r]
theorem NS{M:Mem}{N:Nm}{n:Nat}{h:AH}{w:World}(hr:Rel M N (· <n) h w){i:Nat}{kc:KC}{V:Type}{e:V->IV}{z:V}{zv:Value}{dv:PV->V}{m:List (kc.K×V)}(hi:h.get i=io (.map kc e z zv dv m)):
  ∃B,Ext M N (· <n) h w B N (· <n) ((i,is)::h) w∧Rel B N (· <n) ((i,is)::h) w∧M.le B∧
   ∀p x,VR M N (· <n) p x->VR B N (· <n) (p.gm i (.fa kc e z zv m)) x:=by
 have J:=hr.dS i _ hi Z;obtain⟨ents,clock,h1,D,h3⟩:=hr.obj i _ hi
 let B:Mem:=M.set (N.aA i) (.map ents clock) J
 have hM:M.le B:=fun b d hb=>by
  simp only[B,Mem.set];by_cases u:b=N.aA i
  .rw[u,J]at hb;cases hb
  .rw[be u];exact hb
 have hnew: ∀b d,M b=is->B b=io d->b=N.aA i:=fun b d h1 D=>by
  simp only[B,Mem.set]at D;by_cases u:b=N.aA i
  .exact u
  .rw[be u,h1]at D;cases D
 refine⟨B,?_,?_,hM,fun p x hx=>?_⟩
 .exact⟨rfl,rfl,⟨rfl,W8 _⟩,W8 _,fun _ _ _=>rfl,hM,fun b d h1 D=> .inr ⟨i,_,hi,rfl,(hnew b d h1 D).symm⟩,.refl _ _,fun _ h=>h,fun j o A a0=> .inr ⟨j,o,(bn j o A).2,a0,rfl⟩⟩
 .refine⟨fun b d hb=>?_,fun j o A=>hr.used j o (bn j o A).2,fun j o A G=>?_,fun j o A=>?_,fun j k o p A hk=>hr.inj j k o p (bn j o A).2 (bn k p hk).2⟩
  .simp only[B,Mem.set]at hb;by_cases u:b=N.aA i
   .rw[am u]at hb;cases hb;rw[u];exact h1
   .rw[be u]at hb;exact hr.dK b d hb
  .obtain⟨g1,g2⟩:=bn j o A;simp only[B,Mem.set];rw[be fun e=>g1 (hr.inj j i o _ g2 hi G Z e)];exact hr.dS j o g2 G
  .obtain⟨g1,g2⟩:=bn j o A;exact(hr.obj j o g2).mono hM (.refl _ _) (fun _ h=>h) (hr.used j o g2) Z
 .induction hx with
  |iv x y h=>exact .iv _ _ (h.mono hM)
  |agg cs ys hl _ ih=>
   refine .agg _ _ (by simpa[jb]using hl) fun j q Y=>?_;rw[jb,W9,Xa]at Y;obtain⟨q0,I,rfl⟩:=Y
   exact ih j q0 I
  |a7 cs ys hl _ ih=>
   refine .a7 _ _ (by simpa[jb]using hl) fun j q Y=>?_;rw[jb,W9,Xa]at Y;obtain⟨q0,I,rfl⟩:=Y
   exact ih j q0 I
  |ptr i off h=>exact .ptr _ _ h
  |cV i sz k off h=>exact .cV _ _ _ _ h
  |fe z i h=>exact .fe _ _ h
  |ot i o n h=>exact .ot _ _ _ h
  |sl j off len sz' cap h h0 hl hc he=>exact .sl _ _ _ _ _ h h0 hl hc he
  |lx j sz' h=>exact .lx _ _ h
  |sle j sz' cap h hc he=>exact .sle _ _ _ h hc he
  |mp j h=>
   simp only[PV.gm];cases hb:Xv j i with
   |true=>
    have A:=Xs hb;subst A;exact .iv _ _ (.fa _ _ _ _ _ _ ents clock (by simp[B,Mem.set]) D.size D.key (fun j x hx=>(D.val j x hx).mono hM) (h3.mono hM) D.inj D.lt)
   |false=>exact .mp _ h
  |cB fn first caps f' c' h1 D hr1 hr2 _ _=>exact .cB _ _ _ _ _ h1 D (fun j p A=>(hr1 j p A).mono hM (.refl _ _) (fun _ h=>h)) (fun j p A=>(hr2 j p A).mono hM (.refl _ _) (fun _ h=>h))
  |kb b=>exact .kb _
  |any x=>exact .any _
def AO.gm(i:Nat)(x:IV):AO->AO
 | .cells cs T=> .cells (wu i x cs) T
 | .row sz es=> .row sz (es.map (wu i x))
 | .bz l T=> .bz l T
 | .fE=> .fE
 | .map kc e z zv dv m=> .map kc e z zv dv m
 | .bY kc e m vs c=> .bY kc e m vs c
 | .eG s p=> .eG s p
 | .iA kc e z zv dv m bs c=> .iA kc e z zv dv m bs c
 | .eJ q c l=> .eJ q c l
 | .oK l c f=> .oK l c f
def AH.gm(i:Nat)(x:IV):AH->AH
 | []=> []
 |(k,is)::r=>(k,is)::AH.gm i x r
 |(k,io o)::r=>(k,io (o.gm i x))::AH.gm i x r
theorem AH.kU(i:Nat)(x:IV): ∀(h:AH) (j:Nat),(AH.gm i x h).get j=(h.get j).map (AO.gm i x)
 | [],_=>rfl
 |(k,is)::r,j=>by
  simp only[AH.gm,AH.ay,AH.kU i x r j];split<;>rfl
 |(k,io o)::r,j=>by
  simp only[AH.gm,AH.ay,AH.kU i x r j];split<;>rfl
theorem AO.tq(i:Nat)(x:IV)(o:AO):(o.gm i x).real=o.real:=by
 cases o with
 |row sz es=>cases es<;>rfl
 |bz l T=>cases l<;>rfl
 |_=>rfl
theorem sk{M:Mem}{N:Nm}{n:Nat}{h:AH}{w:World}(hr:Rel M N (· <n) h w){i:Nat}{kc:KC}{V:Type}{e:V->IV}{z:V}{I:Value}{dv:PV->V}{m:List (kc.K×V)}(hi:h.get i=io (.map kc e z I dv m)):
  ∃D,Ext M N (· <n) h w D N (· <n) ((i,is)::h.gm i (.fa kc e z I m)) w∧Rel D N (· <n) ((i,is)::h.gm i (.fa kc e z I m)) w∧M.le D∧
   ∀p x,VR M N (· <n) p x->VR D N (· <n) (p.gm i (.fa kc e z I m)) x:=by
 obtain⟨D,h1,u,h3,h4⟩:=NS hr hi;have G: ∀j o,AH.get ((i,is)::h.gm i (.fa kc e z I m)) j=io o-> ∃p,AH.get ((i,is)::h) j=io p∧h.get j=io p∧o=p.gm i (.fa kc e z I m):=by
  intro j o y;obtain⟨g1,g2⟩:=bn j o y;rw[AH.kU,Xa]at g2;obtain⟨p,g3,g4⟩:=g2;exact⟨p,by rw[AH.ay,be g1];exact g3,g3,g4.symm⟩
 refine⟨D,⟨h1.os,h1.tape,h1.output,h1.size,h1.gK,h1.oJ,h1.iM,h1.nm,h1.ule,fun j o y A=>?_⟩,⟨u.dK,fun j o y=>?_,fun j o y A=>?_,fun j o y=>?_,fun j k o p y hk ho hp=>?_⟩,h3,h4⟩
 .obtain⟨p,g1,_,rfl⟩:=G j o y;rw[AO.tq]at A;exact h1.gB j p g1 A
 .obtain⟨p,g1,_,rfl⟩:=G j o y;exact u.used j p g1
 .obtain⟨p,g1,_,rfl⟩:=G j o y;rw[AO.tq]at A;exact u.dS j p g1 A
 .obtain⟨p,g1,g2,rfl⟩:=G j o y;have Y:=hr.obj j p g2;cases p with
  |cells cs T0=>
   obtain⟨c,T,q1,q2,q3,q4,q5⟩:=Y;refine⟨c,T,q1,q2,by simpa[jb]using q3,fun k q hq=>?_,q5⟩;rw[jb,W9,Xa]at hq;obtain⟨q0,b0,rfl⟩:=hq;exact h4 _ _ (q4 k q0 b0)
  |row sz es=>
   rcases Y with rfl|⟨q0,c,T,q1,q2,q3,q4,q5⟩
   .exact .inl Z
   refine .inr ⟨q0,c,T,q1,q2,by simpa using q3,fun k e J=>?_,fun k e j q J hq=>?_⟩
   .rw[W9,Xa]at J;obtain⟨e0,B,rfl⟩:=J;rw[jb,Xw];exact q4 k e0 B
   .rw[W9,Xa]at J;obtain⟨e0,B,rfl⟩:=J;rw[jb,W9,Xa]at hq;obtain⟨q',a0,rfl⟩:=hq;exact h4 _ _ (q5 k e0 j q' B a0)
  |bz=>exact u.obj j _ g1
  |fE=>exact u.obj j _ g1
  |map=>exact u.obj j _ g1
  |bY=>exact u.obj j _ g1
  |eG=>exact u.obj j _ g1
  |iA=>exact u.obj j _ g1
  |eJ=>exact u.obj j _ g1
  |oK=>exact u.obj j _ g1
 .obtain⟨o',g1,_,rfl⟩:=G j o y;obtain⟨p',g2,_,rfl⟩:=G k p hk;rw[AO.tq]at ho hp;exact u.inj j k o' p' g1 g2 ho hp
def AF.gm(i:Nat)(x:IV):AF->AF
 | []=> []
 |(d,p)::r=>(d,p.gm i x)::AF.gm i x r
theorem AF.kU(i:Nat)(x:IV): ∀(f:AF) (d:Nat),(AF.gm i x f).get d=(f.get d).gm i x
 | [],_=>rfl
 |(k,p)::r,d=>by
  simp only[AF.gm,AF.ay,AF.kU i x r d];split<;>rfl
theorem NI{c:Code}(i:Nat){kc:KC}{V:Type}{e:V->IV}{z:V}{j:Value}{I:PV->V}{m:List (kc.K×V)}(hi:s.h.get i=io (.map kc e z j I m))
  (h:GO P nt (.code c::k) Q ⟨s.f.gm i (.fa kc e z j m),(i,is)::s.h.gm i (.fa kc e z j m),s.nx⟩):GO P nt (.code c::k) Q s:=by
 intro M N a w hf;obtain⟨B,h1,J,h3,Y⟩:=sk hf.1 hi
 have u:Fits B N ⟨s.f.gm i (.fa kc e z j m),(i,is)::s.h.gm i (.fa kc e z j m),s.nx⟩ nt a w:=⟨J,fun d=>by
  rw[AF.kU];exact Y _ _ (hf.2.1 d),hf.2.2⟩
 exact AW.then h u fun e a2 w2 D G s2 A x y=>⟨D,G,s2,h1.trans A,x,y⟩
end
def R7(ty:Ty)(s:AS):Op->Option (PV×AS)
 | .range t x=>match ev s.f x with
  | .mp i=>match s.h.get i with
   |some (.map kc e z zv _ m)=>match ty t with
    |some ⟨.aP (.map _ _),_,_,_,_⟩=>match s with
     |⟨f,h,n⟩=>io (.ptr n 0,⟨f.gm i (.fa kc e z zv m),(n,io (.bY kc e m [] is))::(i,is)::h.gm i (.fa kc e z zv m),n+1⟩)
    |_=>is
   |_=>is
  |_=>is
 |_=>is
theorem MP{P:Program}{ty:Ty}{nt:NT}{s:AS}(I:bq P ty){o:Oper}{p:PV}{s1 s':AS}(h:R7 ty s o.op=io (p,s1))(hp:putDst nt o p s1=io s'):OT P nt o s (fun t=>t=s'):=by
 unfold R7 at h;split at h
 .rename_i t x ho;split at h
  .rename_i i A;split at h
   .rename_i V kc e z zv dv m hi;split at h
    .rename_i kt et _ _ _ _ he;have hu:=(I _ _ he).2.1.1;obtain⟨f,hh,n⟩:=s;simp only[W3,Xe]at h;obtain⟨rfl,rfl⟩:=h;refine OT.value hp fun M N a w hf=>?_;have J:=aO hf.2.1 x;simp only at A hi;rw[A]at J;obtain⟨ents,clock,g1,g2,g3⟩:=hf.1.obj i _ hi;obtain⟨D,h1,Y,h3,h4⟩:=sk hf.1 hi;have j:VR D N (· <n) ((PV.mp i).gm i (.fa kc e z zv m)) (.map (io (N.aA i))):=h4 _ _ (.mp i (hf.1.used i _ hi));have hb:Xv i i=jp:=by simp
     simp only[PV.gm,hb,cond_true]at j;cases j with
     |iv _ _ j=>cases j with
      |fa _ _ _ _ _ b ents' clock' hb' hs hk hv' hz hi' hc=>
       obtain⟨G,q1,q2,q3,q4,q5⟩:=Y.alloc (.mapIter (io (N.aA i)) clock' #[] clock') (.bY kc e m [] is) 0 (fun G r1 r2 r3=>
        .inr ⟨N.aA i,ents',clock', #[],by rw[r1];exact heap_alloc_new w _,hb',⟨hs,hk,hv',hi',hc⟩,rfl,by simp,XY,by simp⟩)
       have u:w.heap[N.aA i]? =io (.map ents' clock'):=Y.dK _ _ hb';have B:a.eval x= .map (io (N.aA i)):=by
        generalize a.eval x=y at J;cases J;rfl
       refine⟨.pointer (io ⟨w.heap.size,0,is⟩),_,D,G,?_,h1.trans q4,⟨q5,fun d=>?_,hf.2.2⟩,?_⟩
       .simp only[execOp,ho,B];simp[Instr.range,run_underlying hu,getObj,Sem.run,u,Result.andThen]
       .rw[AF.kU];exact(h4 _ _ (hf.2.1 d)).mono (.refl _) q3 (fun i hi=>YF hi)
       .have:=VR.ptr (M:=D) (N:=G) (U:=(· <n+1)) n 0 (by omega);rw[q1]at this;exact this
    .cases h
   .cases h
  .cases h
 .cases h
def RF(h:AH)(sz:Nat):PV->Option (List (List PV)×Nat×Prop)
 | .iv (.bI sz' n el)=>match Xv sz' sz with
  |true=>io ((XC n).map fun k=>(el k).map .iv,n,True)
  |false=>is
 | .iv (.v (.slice is 0 0))=>io ([],0,True)
 | .sl j off n sz'=>match Xv sz' sz,h.get j with
  |true,io (.row sz2 fs)=>match Xv sz2 sz with
   |true=>io ((fs.drop off).take n,n,off+n<=fs.length)
   |_=>is
  |_,_=>is
 |_=>is
theorem Mr{h:AH}{sz n:Nat}{p:PV}{news:List (List PV)}{C:Prop}(hs:RF h sz p=io (news,n,C))(hC:C):Src h sz p news∧news.length=n:=by
 unfold RF at hs;split at hs
 .split at hs
  .rename_i hb;simp only[W3,Xe]at hs;have:=Xs hb;obtain⟨rfl,rfl,rfl⟩:=hs;subst this;exact⟨.bI _ _,by simp⟩
  .cases hs
 .simp only[W3,Xe]at hs;obtain⟨rfl,rfl,rfl⟩:=hs;exact⟨.nil,rfl⟩
 .split at hs
  .rename_i j y;split at hs
   .rename_i u;simp only[W3,Xe]at hs;have h1:=Xs j;have x:=Xs u;subst h1;subst x;obtain⟨rfl,rfl,rfl⟩:=hs;exact⟨.row _ _ _ _ y hC,by simp;omega⟩
   .cases hs
  .cases hs
 .cases hs
def OB(ty:Ty)(s:AS)(op:Op):Option (Prop×PV×AS):=
 match op with
 | .call ⟨.builtin .append,args,tys⟩=>match args.toList,tys.toList with
  | [x,y],[t,t']=>match Xv t' t,ty t with
   |true,io ⟨.aP (.slice u),_,_,_,_⟩=>match ty u with
    |some ⟨_,esz,eby,ez,_⟩=>match Xv ez.cells.size esz,Xx 0 esz,ev s.f x with
     |true,jp,.sl i 0 len sz=>match Xv esz sz,s.h.get i with
      |true,io (.row sz' es)=>match Xv sz' sz,RF s.h sz (ev s.f y) with
       |true,io (news,n,C)=>match s with
        |⟨f,h,nx⟩=>io (es.length=len∧C∧allOnes news=jp∧(len+n)*eby<=140737488355328∧len+n<=140737488355328,.sl nx 0 (len+n) sz,⟨f,(nx,io (.row sz (es++news)))::(i,is)::h,nx+1⟩)
       |_,_=>is
      |_,_=>is
     |_,_,_=>is
    |none=>is
   |_,_=>is
  |_,_=>is
 |_=>is
section
variable {P:Program} {ty:Ty} {nt:NT} {s:AS}
theorem FU(d0:bq P ty){o:Oper}{p:PV}{C:Prop}{s1 s':AS}(h:OB ty s o.op=io (C,p,s1))(hC:C)(hp:putDst nt o p s1=io s'):OT P nt o s (fun t=>t=s'):=by
 unfold OB at h;split at h
 .rename_i args A ho;split at h
  .rename_i x y t B ha ht;split at h
   .rename_i u _ _ _ _ I he;split at h
    .rename_i ek g0 G ez f0 hu;split at h
     .rename_i i len sz J Y hx;split at h
      .rename_i i0 es a0 hi;split at h
       .rename_i j n C' b0 hs;have h:io (es.length=len∧C'∧allOnes j=jp∧(len+n)*G<=140737488355328∧len+n<=140737488355328,PV.sl s.nx 0 (len+n) sz,iN s i sz es j)=io (C,p,s1):=by
         rw[<-h];cases s;rfl
        simp only[W3,Xe]at h;obtain⟨rfl,rfl,rfl⟩:=h;have e0:=Xs I;have e4:=Xs b0;have D:=Xs a0;subst e0;subst e4;have c0:o.op= .call ⟨.builtin .append, #[x,y], #[B,B]⟩:=by
         rw[ho];have h1:args= #[x,y]:=by rw[<-YI (xs:=args),ha]
         have h2:A= #[B,B]:=by rw[<-YI (xs:=A),ht]
         rw[h1,h2]
        obtain⟨g1,g2,g3,g4,g5⟩:=hC;obtain⟨g6,g7⟩:=Mr hs g2;subst g7;exact S2 d0 c0 he Z hu hx hi g1 D (by rw[Xs J,D]) (by rw[<-D];exact WY Y) Z g6 (eD g3) g4 g5 hp
       .cases h
      .cases h
     .cases h
    .cases h
   .cases h
  .cases h
 .cases h
def KB(ty:Ty)(s:AS)(op:Op):Option (Prop×PV×AS):=
 match OB ty s op with
 |some r=>io r
 |none=>match DF s op with
  |some (t0,t)=>match ty t with
   |some ⟨.aP (.slice u),_,_,_,_⟩=>match ty u with
    |some ⟨_,esz,_,_,_⟩=>OB ty (u9 s t0 esz) op
    |none=>is
   |_=>is
  |none=>is
theorem KA(j:bq P ty){o:Oper}{p:PV}{C:Prop}{s1 s':AS}(h:KB ty s o.op=io (C,p,s1))(hC:C)(hp:putDst nt o p s1=io s'):OT P nt o s (fun t=>t=s'):=by
 unfold KB at h;split at h
 .rename_i r hr;simp only[W3]at h;subst h;exact FU j hr hC hp
 .split at h
  .rename_i t0 t u;split at h
   .split at h
    .exact KV (GL u) (FU j h hC hp)
    .cases h
   .cases h
  .cases h
def VG(ty:Ty)(s:AS)(op:Op):Option (Prop×PV×AS):=
 match QQ ty s op with
 |some (C,s1)=>io (C,.any,s1)
 |none=>match R7 ty s op with
  |some (p,s1)=>io (True,p,s1)
  |none=>KB ty s op
theorem Hz(j:bq P ty){o:Oper}{p:PV}{C:Prop}{s1 s':AS}(h:VG ty s o.op=io (C,p,s1))(hC:C)(hp:putDst nt o p s1=io s'):OT P nt o s (fun t=>t=s'):=by
 unfold VG at h;split at h
 .rename_i x u hu;simp only[W3,Xe]at h;obtain⟨rfl,rfl,rfl⟩:=h;exact KY j hu hC hp
 .split at h
  .rename_i y u hr;simp only[W3,Xe]at h;obtain⟨rfl,rfl,rfl⟩:=h;exact MP j hr hp
  .exact KA j h hC hp
end
end
end Go.Al
