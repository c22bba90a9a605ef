/-
  What the proofs of the claims need: part 1 of 7.
-/
import GoSem.Core.World
import Derived.Calls
import Derived.Laws.AppendOwn
import Derived.Below
import Derived.Laws.Cells
import Derived.Laws.Entries
import Derived.Laws.StructEq
import Derived.ChangeKeysEq
import Derived.WideLaws
import Derived.Tactics
import Derived.IntWalk
import Derived.WideShapes
import Derived.Lib.Strings
import Derived.MapKept
import Derived.Maps.RangeRun
import Derived.Still
import Derived.Scope
import Derived.Laws.CopyRow
open Array renaming getD_eq_getD_getElem?→Wm,getElem?_append_left→Xq,getElem?_eq_getElem→Xa,getElem?_eq_none→YT,getElem?_eq_some_iff→Xz,getElem?_map→Yw,getElem?_modify→W8,getElem?_push→Yq,getElem?_setIfInBounds→W1,getElem?_toList→Xh,mapM_eq_mapM_toList→Y8,range→Zs,replicate→XX,toArray_toList→XG,toList_append→YL,toList_inj→ZB
open Bool renaming and_eq_true→WN,eq_false_iff→XD,eq_iff_iff→Xn,false_eq_true→Yl,false_or→Yb,not_eq_true'→W5,not_true→YM,or_eq_true→Xl
open Classical renaming choose→YI,choose_spec→X5
open Int renaming toNat_of_nonneg→Zv
open List.Pairwise renaming nil→Zb
open List renaming all_eq_true→WX,any_eq_true→Xr,append_assoc→Wv,cons_append→XF,filter_sublist→Y6,foldl_cons→Xf,getD_eq_getElem?_getD→Ws,getElem?_append_left→WH,getElem?_append_right→WJ,getElem?_cons_succ→Yt,getElem?_cons_zero→YR,getElem?_drop→Xx,getElem?_eq_getElem→Wt,getElem?_eq_some_iff→Wr,getElem?_map→Ww,getElem?_of_mem→W6,getElem?_take→W7,getElem?_toArray→Xv,getElem_mem→Xj,length_cons→W2,length_drop→X8,length_map→W3,length_take→Xb,map_cons→WI,map_nil→Xd,mem_append_left→W0,mem_cons→WG,mem_cons_of_mem→WE,mem_cons_self→WM,mem_filter→WW,mem_singleton→Wy,nodup_nil→Xk,pairwise_cons→XK,pairwise_iff_getElem→YK,range→WL
open Nat renaming add_assoc→XZ,add_mul→Xw,add_zero→Yv,beq→WO,ble→YG,ble_eq_true_of_le→Xi,blt→WU,eq_of_beq_eq_true→WK,le_of_ble_eq_true→Wj,le_of_not_lt→Xc,le_refl→Wz,le_trans→WV,lt_of_lt_of_le→X7,lt_or_ge→W9,mod_eq_of_lt→Yj,mul_le_mul_right→WR,ne_of_lt→Zi,sub_zero→Zj,succ_mul→YH,zero_add→WQ,zero_le→WC,zero_mul→X0
open Option renaming getD_some→XM,map_eq_none_iff→Yh,map_eq_some_iff→Wx,map_map→Zr,map_none→YN,map_some→Xy
open Option.some renaming inj→Xt,injEq→Wo
open Prod renaming fst→WT
open Prod.mk renaming injEq→WA
namespace Go.Al
def n3:List Int:=[1,10,100,1000,10000,100000,1000000,10000000,100000000,1000000000,10000000000,100000000000,1000000000000,10000000000000,100000000000000,1000000000000000,10000000000000000,100000000000000000,1000000000000000000,10000000000000000000]
def R8:Nat→Option (Array Value)
 |0=>some (n3.map fun z=>Value.int .u64 z).toArray
 |_=>none
inductive KC where
 |str
 |int (k:IntKind)
 |si (k:IntKind)
 deriving DecidableEq
@[reducible] def KC.K:KC→Type
 | .str=>ByteArray
 | .int _=>Int
 | .si _=>ByteArray×Int
instance KC.deq:(c:KC)→DecidableEq c.K
 | .str=>inferInstanceAs (DecidableEq ByteArray)
 | .int _=>inferInstanceAs (DecidableEq Int)
 | .si _=>inferInstanceAs (DecidableEq (ByteArray×Int))
def KC.ek:(c:KC)→c.K→Value
 | .str,s=> .string s
 | .int k,n=> .int k n
 | .si k,x=> .agg #[.string x.1, .int k x.2]
inductive IV:Type 1 where
 |v (x:Value)
 |cz (sz n:Nat) (el:Nat→List IV)
 |jI (cs:List IV)
 |agg (cs:List IV)
 |dK {V:Type} (kc:KC) (ev:V→IV) (z:V) (zv:Value) (m:List (kc.K×V))
inductive PV:Type 1 where
 |iv (x:IV)
 |agg (cs:List PV)
 |bP (cs:List PV)
 |ptr (i off:Nat)
 |c4 (i sz k off:Nat)
 |eC (z:Bool) (i:Nat)
 |sl (i off len sz:Nat)
 |mp (i:Nat)
 |cH (fn:Fn) (first caps:List PV)
 |kb (b:Bool)
 |any
inductive AO:Type 1 where
 |cells (cs:List PV) (T:Option TypeId:=none)
 |row (sz:Nat) (es:List (List PV))
 |bx (l:List UInt8) (T:TypeId)
 |eE
 |map {V:Type} (kc:KC) (ev:V→IV) (z:V) (zv:Value) (dv:PV→V) (m:List (kc.K×V))
 |bq {V:Type} (kc:KC) (ev:V→IV) (m:List (kc.K×V)) (vs:List Nat) (cur:Option (kc.K×V))
 |dt (s:ByteArray) (pos:Nat)
inductive MB where
 |cells (c:Array Value)
 |map (ents:Array MapEntry) (clock:Nat)
structure Mem where
 fn:Nat→Option MB
 Kk: ∀b c,R8 b=some c→fn b=some (.cells c)
instance:CoeFun Mem (fun _=>Nat→Option MB):=⟨Mem.fn⟩
def Mem.base:Mem:=⟨fun b=>(R8 b).map .cells,fun b c h=>by rw[h];rfl⟩
def wD (a:Option TypeId) (T:TypeId):Prop:= ∀t,a=some t→T=t
theorem wD.none (T:TypeId):wD none T:=fun _ h=>nomatch h
def Mem.cell (M:Mem) (b o:Nat):Option Value:=match M b with|some (.cells c)=>c[o]? |_=>none
def Mem.set (M:Mem) (b:Nat) (c:MB) (h:M b=none):Mem:=
 ⟨fun x=>if x=b then some c else M x,fun x d hx=>by
  rw[if_neg fun e=>by have:=M.Kk x d hx;rw[e] at this;exact absurd (this.symm.trans h) (by simp)]
  exact M.Kk x d hx⟩
def MB.BG (w:World) (b:Nat):MB→Prop
 | .cells c=> ∃T fr,w.heap[b]? =some (.cells c T fr)
 | .map es cl=>w.heap[b]? =some (.map es cl)
theorem MB.BG.lt {w:World} {b:Nat} {m:MB} (h:m.BG w b):b<w.heap.size:=by
 cases m with
 |cells c=>obtain⟨T,fr,h1⟩:=h;exact(Xz.1 h1).1
 |map es cl=>exact(Xz.1 h).1
theorem MB.BG.mono {w w':World} {b:Nat} {m:MB} (h:m.BG w b) (e:w'.heap[b]? =w.heap[b]?):m.BG w' b:=by
 cases m with
 |cells c=>obtain⟨T,fr,h1⟩:=h;exact⟨T,fr,e.trans h1⟩
 |map es cl=>exact e.trans h
structure Nm where
 aG:Nat→Nat
 ext:Nat→Nat
inductive IR (M:Mem):IV→Value→Prop
 |v (x:Value):IR M (.v x) x
 |gp (sz:Nat) (el:Nat→List IV) (a:Option Addr) (cap:Nat):IR M (.cz sz 0 el) (.slice a 0 cap)
 | cz (sz n:Nat) (el:Nat→List IV) (b off cap:Nat) (hn:n≤cap) (hc:cap≤maxLen) (hl: ∀k,k<n→(el k).length=sz)
   (hm: ∀k j,k<n→j<sz→(M.cell b (off+k*sz+j)).isSome=true)
   (hr: ∀k j p,k<n→(el k)[j]? =some p→IR M p ((M.cell b (off+k*sz+j)).getD undef)):
   IR M (.cz sz n el) (.slice (some ⟨b,off,none⟩) n cap)
 | jI (cs:List IV) (b off:Nat) (hm: ∀j,j<cs.length→(M.cell b (off+j)).isSome=true)
   (hr: ∀j p,cs[j]? =some p→IR M p ((M.cell b (off+j)).getD undef)):IR M (.jI cs) (.pointer (some ⟨b,off,none⟩))
 |agg (cs:List IV) (ys:Array Value) (hl:cs.length=ys.size) (hr: ∀j p,cs[j]? =some p→IR M p (ys.getD j undef)):IR M (.agg cs) (.agg ys)
 | dK {V:Type} (kc:KC) (ev:V→IV) (z:V) (zv:Value) (m:List (kc.K×V)) (b:Nat) (ents:Array MapEntry) (clock:Nat) (hb:M b=some (.map ents clock)) (hs:ents.size=m.length)
   (hk: ∀(j:Nat) (x:kc.K×V),m[j]? =some x→(ents.getD j default).key=kc.ek x.1) (hv: ∀(j:Nat) (x:kc.K×V),m[j]? =some x→IR M (ev x.2) (ents.getD j default).val) (hz:IR M (ev z) zv)
   (hi: ∀(j k:Nat) (e f:MapEntry),ents[j]? =some e→ents[k]? =some f→e.born=f.born→j=k) (hc: ∀(j:Nat) (e:MapEntry),ents[j]? =some e→e.born<clock):IR M (.dK kc ev z zv m) (.map (some b))
inductive VR (M:Mem) (N:Nm) (U:Nat→Prop):PV→Value→Prop
 |iv (x:IV) (y:Value) (h:IR M x y):VR M N U (.iv x) y
 |agg (cs:List PV) (ys:Array Value) (hl:cs.length=ys.size) (hr: ∀j p,cs[j]? =some p→VR M N U p (ys.getD j undef)):VR M N U (.agg cs) (.agg ys)
 |bP (cs:List PV) (ys:Array Value) (hl:cs.length=ys.size) (hr: ∀j p,cs[j]? =some p→VR M N U p (ys.getD j undef)):VR M N U (.bP cs) (.tuple ys)
 |ptr (i off:Nat) (h:U i):VR M N U (.ptr i off) (.pointer (some ⟨N.aG i,off,none⟩))
 |c4 (i sz k off:Nat) (h:U i):VR M N U (.c4 i sz k off) (.pointer (some ⟨N.aG i,k*sz+off,none⟩))
 |eC (z:Bool) (i:Nat) (h:U i):VR M N U (.eC z i) (.pointer (bif z then none else some ⟨N.aG i,0,none⟩))
 |sl (i off len sz cap:Nat) (h:U i) (h0:0<len) (hl:len≤cap) (hc:cap≤maxLen) (he:(off+cap)*sz=N.ext i):VR M N U (.sl i off len sz) (.slice (some ⟨N.aG i,off*sz,none⟩) len cap)
 |lQ (i sz:Nat) (h:U i):VR M N U (.sl i 0 0 sz) (.slice none 0 0)
 |sle (i sz cap:Nat) (h:U i) (hc:cap≤maxLen) (he:cap*sz=N.ext i):VR M N U (.sl i 1 0 sz) (.slice (some ⟨N.aG i,0,none⟩) 0 cap)
 |mp (i:Nat) (h:U i):VR M N U (.mp i) (.map (some (N.aG i)))
 | cH (fn:Fn) (first caps:List PV) (f' c':Array Value) (h1:first.length=f'.size) (h2:caps.length=c'.size)
   (hr1: ∀j p,first[j]? =some p→VR M N U p (f'.getD j undef)) (hr2: ∀j p,caps[j]? =some p→VR M N U p (c'.getD j undef)):VR M N U (.cH fn first caps) (.func fn f' c')
 |kb (b:Bool):VR M N U (.kb b) (.bool b)
 |any (x:Value):VR M N U .any x
def Mem.le (M M':Mem):Prop:= ∀b c,M b=some c→M' b=some c
theorem Mem.le.refl (M:Mem):M.le M:=fun _ _ h=>h
theorem Mem.le.trans {A B C:Mem} (h:A.le B) (k:B.le C):A.le C:=fun b c e=>k b c (h b c e)
theorem Mem.le.cell {M M':Mem} (h:M.le M') {b o:Nat} {v:Value} (hc:M.cell b o=some v):M'.cell b o=some v:=by
 unfold Mem.cell at*
 cases hb:M b with
 |none=>simp[hb] at hc
 |some c=>rw[hb] at hc;rw[h b c hb];exact hc
theorem Mem.le.isSome {M M':Mem} (h:M.le M') {b o:Nat} (hc:(M.cell b o).isSome=true):(M'.cell b o).isSome=true∧(M'.cell b o).getD undef=(M.cell b o).getD undef:=by
 cases hv:M.cell b o with
 |none=>simp[hv] at hc
 |some v=>rw[h.cell hv];simp
theorem IR.mono {M M':Mem} (hM:M.le M') {p:IV} {x:Value} (h:IR M p x):IR M' p x:=by
 induction h with
 |v x=>exact .v x
 |gp sz el a cap=>exact .gp sz el a cap
 |cz sz n el b off cap hn hc hl hm hr ih=>
  refine .cz sz n el b off cap hn hc hl (fun k j hk hj=>(hM.isSome (hm k j hk hj)).1) (fun k j p hk hp=>?_);have hj:j<sz:=by rw[←hl k hk];exact(Wr.1 hp).1
  rw[(hM.isSome (hm k j hk hj)).2]
  exact ih k j p hk hp
 |jI cs b off hm hr ih=>
  refine .jI cs b off (fun j hj=>(hM.isSome (hm j hj)).1) (fun j p hp=>?_);have hj:j<cs.length:=(Wr.1 hp).1;rw[(hM.isSome (hm j hj)).2]
  exact ih j p hp
 |agg cs ys hl hr ih=>exact .agg cs ys hl ih
 |dK kc ev z zv m b ents clock hb hs hk hv hz hi hc ihv ihz=>exact .dK kc ev z zv m b ents clock (hM _ _ hb) hs hk ihv ihz hi hc
structure iG {V:Type} (M:Mem) (kc:KC) (ev:V→IV) (m:List (kc.K×V)) (ents:Array MapEntry) (clock:Nat):Prop where
 size:ents.size=m.length
 key: ∀(j:Nat) (x:kc.K×V),m[j]? =some x→(ents.getD j default).key=kc.ek x.1
 val: ∀(j:Nat) (x:kc.K×V),m[j]? =some x→IR M (ev x.2) (ents.getD j default).val
 inj: ∀(j k:Nat) (e f:MapEntry),ents[j]? =some e→ents[k]? =some f→e.born=f.born→j=k
 lt: ∀(j:Nat) (e:MapEntry),ents[j]? =some e→e.born<clock
theorem iG.mono {V:Type} {M M':Mem} (hM:M.le M') {kc:KC} {ev:V→IV} {m:List (kc.K×V)} {ents:Array MapEntry} {clock:Nat} (h:iG M kc ev m ents clock):iG M' kc ev m ents clock:=
 ⟨h.size,h.key,fun j x hx=>(h.val j x hx).mono hM,h.inj,h.lt⟩
structure Nm.agree (N N':Nm) (U:Nat→Prop):Prop where
 aG: ∀i,U i→N'.aG i=N.aG i
 ext: ∀i,U i→N'.ext i=N.ext i
theorem Nm.agree.refl (N:Nm) (U:Nat→Prop):N.agree N U:=⟨fun _ _=>rfl,fun _ _=>rfl⟩
theorem VR.mono {M M':Mem} {N N':Nm} {U U':Nat→Prop} (hM:M.le M') (hN:N.agree N' U) (hU: ∀i,U i→U' i) {p:PV} {x:Value} (h:VR M N U p x):VR M' N' U' p x:=by
 induction h with
 |iv x y h=>exact .iv x y (h.mono hM)
 |agg cs ys hl hr ih=>exact .agg cs ys hl ih
 |bP cs ys hl hr ih=>exact .bP cs ys hl ih
 |ptr i off h=>rw[←hN.aG i h];exact .ptr i off (hU i h)
 |c4 i sz k off h=>rw[←hN.aG i h];exact .c4 i sz k off (hU i h)
 |eC z i h=>rw[←hN.aG i h];exact .eC z i (hU i h)
 |sl i off len sz cap h h0 hl hc he=>rw[←hN.aG i h];exact .sl i off len sz cap (hU i h) h0 hl hc (by rw[hN.ext i h];exact he)
 |lQ i sz h=>exact .lQ i sz (hU i h)
 |sle i sz cap h hc he=>rw[←hN.aG i h];exact .sle i sz cap (hU i h) hc (by rw[hN.ext i h];exact he)
 |mp i h=>rw[←hN.aG i h];exact .mp i (hU i h)
 |cH fn first caps f' c' h1 h2 hr1 hr2 ih1 ih2=>exact .cH fn first caps f' c' h1 h2 ih1 ih2
 |kb b=>exact .kb b
 |any x=>exact .any x
abbrev AH:=List (Nat×Option AO)
def AH.get:AH→Nat→Option AO
 | [],_=>none
 |(i,o)::r,k=>bif WO k i then o else AH.get r k
abbrev AF:=List (Nat×PV)
def AF.get:AF→Nat→PV
 | [],_=> .any
 |(i,p)::r,k=>bif WO k i then p else AF.get r k
theorem AF.aA (i:Nat) (p:PV) (r:AF) (k:Nat):AF.get ((i,p)::r) k=if k=i then p else AF.get r k:=by
 by_cases h:k=i
 ·subst h;simp[AF.get]
 ·have:WO k i=false:=XD.2 (fun e=>h (WK e))
  simp[AF.get,this,h]
theorem AH.aA (i:Nat) (o:Option AO) (r:AH) (k:Nat):AH.get ((i,o)::r) k=if k=i then o else AH.get r k:=by
 by_cases h:k=i
 ·subst h;simp[AH.get]
 ·have:WO k i=false:=XD.2 (fun e=>h (WK e))
  simp[AH.get,this,h]
def OR (M:Mem) (N:Nm) (U:Nat→Prop) (w:World) (i:Nat):AO→Prop
 | .cells cs T0=> ∃c T,w.heap[N.aG i]? =some (.cells c T (0,0))∧c.size=N.ext i∧cs.length=c.size∧(∀j p,cs[j]? =some p→VR M N U p (c.getD j undef))∧wD T0 T
 | .row sz es=>es=[]∨0<sz∧ ∃c T,w.heap[N.aG i]? =some (.cells c T (0,0))∧c.size=N.ext i∧es.length*sz≤c.size∧(∀(k:Nat) (e:List PV),es[k]? =some e→e.length=sz)∧
   ∀(k:Nat) (e:List PV) (j:Nat) (p:PV),es[k]? =some e→e[j]? =some p→VR M N U p (c.getD (k*sz+j) undef)
 | .bx l T=>l=[]∨ ∃c,w.heap[N.aG i]? =some (.cells c T (0,0))∧c.size=N.ext i∧l.length≤c.size∧ ∀(j:Nat) (x:UInt8),l[j]? =some x→c.getD j undef= .int .u8 (x.toNat:Int)
 | .eE=>w.heap[N.aG i]? =some (.map #[] 0)
 | .map kc ev z zv _ m=> ∃(ents:Array MapEntry) (clock:Nat),w.heap[N.aG i]? =some (.map ents clock)∧iG M kc ev m ents clock∧IR M (ev z) zv
 | .bq kc ev m vs cur=>(m=[]∧vs=[]∧cur=none∧w.heap[N.aG i]? =some (.mapIter none 0 #[] 0))∨ ∃(b:Nat) (ents:Array MapEntry) (clock:Nat) (seen:Array Nat),w.heap[N.aG i]? =some (.mapIter (some b) clock seen clock)∧M b=some (.map ents clock)∧iG M kc ev m ents clock∧
   seen.toList=vs.reverse.map (fun j=>(ents.getD j default).born)∧(∀j∈vs,j<m.length)∧vs.Nodup∧ ∀x,cur=some x→ ∃j r,vs=j::r∧m[j]? =some x
 | .dt s pos=>w.heap[N.aG i]? =some (.stringIter s pos)
def AO.real:AO→Bool
 | .row _ []=>false
 | .bx [] _=>false
 |_=>true
structure Rel (M:Mem) (N:Nm) (U:Nat→Prop) (h:AH) (w:World):Prop where
 cZ: ∀b c,M b=some c→c.BG w b
 used: ∀i o,h.get i=some o→U i
 dA: ∀i o,h.get i=some o→o.real=true→M (N.aG i)=none
 obj: ∀i o,h.get i=some o→OR M N U w i o
 inj: ∀i j o p,h.get i=some o→h.get j=some p→o.real=true→p.real=true→N.aG i=N.aG j→i=j
theorem OR.lt {M:Mem} {N:Nm} {U:Nat→Prop} {w:World} {i:Nat} {o:AO} (h:OR M N U w i o) (hre:o.real=true):N.aG i<w.heap.size:=by
 have key: ∀x,w.heap[N.aG i]? =some x→N.aG i<w.heap.size:=fun x hx=>(Xz.1 hx).1
 cases o with
 |cells cs T0=>obtain⟨c,T,h1,_⟩:=h;exact key _ h1
 |row sz es=>
  rcases h with rfl|⟨_,c,T,h1,_⟩
  ·cases hre
  ·exact key _ h1
 |bx l T=>
  rcases h with rfl|⟨c,h1,_⟩
  ·cases hre
  ·exact key _ h1
 |eE=>exact key _ h
 |map kc ev z zv dv m=>obtain⟨e,cl,h1,_⟩:=h;exact key _ h1
 |bq kc ev m l cu=>rcases h with⟨_,_,_,h1⟩|⟨b,e,cl,se,h1,_⟩<;>exact key _ h1
 |dt s p=>exact key _ h
theorem OR.mono {M M':Mem} {N N':Nm} {U U':Nat→Prop} {w w':World} {i:Nat} {o:AO} (hM:M.le M') (hN:N.agree N' U) (hU: ∀i,U i→U' i) (hi:U i) (hb:w'.heap[N.aG i]? =w.heap[N.aG i]?)
  (h:OR M N U w i o):OR M' N' U' w' i o:=by
 cases o with
 |cells cs T0=>
  obtain⟨c,T,h1,h2,h3,h4,h5⟩:=h
  exact⟨c,T,by rw[hN.aG i hi,hb,h1],by rw[hN.ext i hi,h2],h3,fun j p hp=>(h4 j p hp).mono hM hN hU,h5⟩
 |row sz es=>
  rcases h with h|⟨h0,c,T,h1,h2,h3,h4,h5⟩
  ·exact .inl h
  exact .inr ⟨h0,c,T,by rw[hN.aG i hi,hb,h1],by rw[hN.ext i hi,h2],h3,h4,fun k e j p he hp=>(h5 k e j p he hp).mono hM hN hU⟩
 |bx l T=>
  rcases h with h|⟨c,h1,h2,h3,h4⟩
  ·exact .inl h
  exact .inr ⟨c,by rw[hN.aG i hi,hb,h1],by rw[hN.ext i hi,h2],h3,h4⟩
 |eE=>show w'.heap[N'.aG i]? =_;rw[hN.aG i hi,hb];exact h
 |map kc ev z zv dv m=>
  obtain⟨e,cl,h1,h2,h3⟩:=h
  exact⟨e,cl,by rw[hN.aG i hi,hb,h1],h2.mono hM,h3.mono hM⟩
 |bq kc ev m l cu=>
  rcases h with⟨h1,h2,h3,h4⟩|⟨b,e,cl,se,h1,h2,h3,h4⟩
  ·exact .inl ⟨h1,h2,h3,by rw[hN.aG i hi,hb,h4]⟩
  ·exact .inr ⟨b,e,cl,se,by rw[hN.aG i hi,hb,h1],hM _ _ h2,h3.mono hM,h4⟩
 |dt s p=>show w'.heap[N'.aG i]? =_;rw[hN.aG i hi,hb];exact h
structure Ext (M:Mem) (N:Nm) (U:Nat→Prop) (h:AH) (w:World) (M':Mem) (N':Nm) (U':Nat→Prop) (h':AH) (w':World):Prop where
 os:w'.os=w.os
 tape:w'.tape=w.tape
 output:w'.output=w.output
 size:w.heap.size≤w'.heap.size
 gd: ∀b,b<w.heap.size→(∀i o,h.get i=some o→o.real=true→N.aG i≠b)→w'.heap[b]? =w.heap[b]?
 ow:M.le M'
 gn: ∀b c,M b=none→M' b=some c→w.heap.size≤b∨ ∃i o,h.get i=some o∧o.real=true∧N.aG i=b
 nm:N.agree N' U
 ule: ∀i,U i→U' i
 fQ: ∀i o,h'.get i=some o→o.real=true→w.heap.size≤N'.aG i∨ ∃j p,h.get j=some p∧p.real=true∧N.aG j=N'.aG i
theorem Ext.refl (M:Mem) (N:Nm) (U:Nat→Prop) (h:AH) (w:World):Ext M N U h w M N U h w:=
 ⟨rfl,rfl,rfl,Wz _,fun _ _ _=>rfl, .refl _,fun b c h1 h2=>by simp[h1] at h2, .refl _ _,fun _ h=>h,fun i o hi hr=> .inr ⟨i,o,hi,hr,rfl⟩⟩
theorem Ext.trans {M M1 M2:Mem} {N N1 N2:Nm} {U U1 U2:Nat→Prop} {h h1 h2:AH} {w w1 w2:World}
  (a:Ext M N U h w M1 N1 U1 h1 w1) (b:Ext M1 N1 U1 h1 w1 M2 N2 U2 h2 w2):Ext M N U h w M2 N2 U2 h2 w2 where
 os:=b.os.trans a.os
 tape:=b.tape.trans a.tape
 output:=b.output.trans a.output
 size:=WV a.size b.size
 gd:=fun k hk hn=>by
  rw[b.gd k (X7 hk a.size) (fun i o hi hre he=>?_),a.gd k hk hn];rcases a.fQ i o hi hre with h3|⟨j,p,h3,hp,h4⟩
  ·omega
  ·exact hn j p h3 hp (h4.trans he)
 ow:=a.ow.trans b.ow
 gn:=fun k c h3 h4=>by
  cases h5:M1 k with
  |some c'=>exact a.gn k c' h3 h5
  |none=>
   rcases b.gn k c h5 h4 with h6|⟨i,o,h6,hre,h7⟩
   ·exact .inl (WV a.size h6)
   ·rcases a.fQ i o h6 hre with h8|⟨j,p,h8,hp,h9⟩
    ·exact .inl (by omega)
    ·exact .inr ⟨j,p,h8,hp,h9.trans h7⟩
 nm:=⟨fun i hi=>(b.nm.aG i (a.ule i hi)).trans (a.nm.aG i hi),fun i hi=>(b.nm.ext i (a.ule i hi)).trans (a.nm.ext i hi)⟩
 ule:=fun i hi=>b.ule i (a.ule i hi)
 fQ:=fun i o hi hre=>by
  rcases b.fQ i o hi hre with h3|⟨j,p,h3,hp,h4⟩
  ·exact .inl (WV a.size h3)
  ·rcases a.fQ j p h3 hp with h5|⟨k,q,h5,hq,h6⟩
   ·exact .inl (by omega)
   ·exact .inr ⟨k,q,h5,hq,h6.trans h4⟩
def ah (p q:PV):Prop:= ∀(M:Mem) (N:Nm) (U:Nat→Prop) (x:Value),VR M N U p x→VR M N U q x
def ke (p q:IV):Prop:= ∀(M:Mem) (x:Value),IR M p x→IR M q x
theorem ah.refl (p:PV):ah p p:=fun _ _ _ _ h=>h
theorem wm (w:World) (o:Obj) (i:Nat) (h:i<w.heap.size):(w.alloc o).heap[i]? =w.heap[i]? :=by
 show(w.heap.push o)[i]? =_;rw[Yq,if_neg (by omega)]
def FR (M:Mem) (N:Nm) (U:Nat→Prop) (f:AF) (t:Array Value):Prop:= ∀k,VR M N U (f.get k) (t.getD k undef)
theorem FR.mono {M M':Mem} {N N':Nm} {U U':Nat→Prop} {f:AF} {t:Array Value} (hM:M.le M') (hN:N.agree N' U) (hU: ∀i,U i→U' i) (h:FR M N U f t):FR M' N' U' f t:=fun k=>(h k).mono hM hN hU
theorem FR.ext {M M':Mem} {N N':Nm} {U U':Nat→Prop} {h h':AH} {w w':World} {f:AF} {t:Array Value} (e:Ext M N U h w M' N' U' h' w') (hf:FR M N U f t):FR M' N' U' f t:=hf.mono e.ow e.nm e.ule
theorem FR.put {M:Mem} {N:Nm} {U:Nat→Prop} {f:AF} {t:Array Value} (h:FR M N U f t) (d:Nat) (p:PV) (x:Value) (hd:d<t.size) (hp:VR M N U p x):FR M N U ((d,p)::f) (t.setIfInBounds d x):=by
 intro k;rw[AF.aA];by_cases hk:k=d
 ·subst hk;simp[Wm,hd,hp]
 ·rw[if_neg hk]
  have:=h k;simp only[Wm,W1] at this ⊢;rw[if_neg (fun e=>hk e.symm)];exact this
end Go.Al
namespace Go.Al
inductive TK where
  |ai (d:TypeDesc)
  |aU (fs:List (Nat×TypeId))
  |arr (n:Nat) (e:TypeId)
structure aB where
  k:TK
  size:Nat
  bytes:Nat
  zero:Value
  eq:Bool
abbrev Ty:=Nat→Option aB
def uw:TypeDesc→Bool
  | .struct _=>false
  | .array _ _=>false
  |_=>true
def EJ (P:Program) (t:TypeId):TK→Prop
  | .ai d=>P.underlying t=some d∧uw d=true
  | .aU fs=> ∃F,P.underlying t=some (.struct F)∧F.toList.map (fun f=>(f.offset,f.type))=fs
  | .arr n e=>P.underlying t=some (.array n e)
def Vm (P:Program) (t:TypeId):Prop:=P.stoodInHeld t=false∧P.eqGuardType P.depth t=false∧ ∀f∈(P.fieldsOf t).toList,f.name≠ "_"
def ad (P:Program) (t:TypeId) (e:aB):Prop:=
  (∃i,P.info? t=some i∧i.size=e.size∧i.bytes=e.bytes∧i.zero=some e.zero)∧EJ P t e.k∧(e.eq=true→Vm P t)
def bE (P:Program) (ty:Ty):Prop:= ∀t e,ty t=some e→ad P t e
section
variable {P:Program} {w:World}
theorem bw {t:TypeId} {e:aB} (h:ad P t e):(sizeOf t).run P w= .ok e.size w:=by
  obtain⟨⟨i,hi,hs,_⟩,_⟩:=h;simp[sizeOf,run_typeInfo w hi,hs]
theorem cX {t:TypeId} {e:aB} (h:ad P t e):(zeroValue t).run P w= .ok e.zero w:=by
  obtain⟨⟨i,hi,hs,hb,hz⟩,_⟩:=h;simp[zeroValue,run_typeInfo w hi,hz]
def TK.agg:TK→Bool
  | .ai _=>false
  |_=>true
theorem lg {t:TypeId} {e:aB} (h:ad P t e):(isAgg t).run P w= .ok e.k.agg w:=by
  obtain⟨_,hk,_⟩:=h
  cases hek:e.k with
  | ai d=>
    rw[hek] at hk;obtain⟨h1,h2⟩:=hk;simp only[isAgg,Sem.run_bind,run_underlying h1,Result.andThen_ok]
    cases d<;>simp_all [uw,TK.agg]
  | aU fs=>
    rw[hek] at hk;obtain⟨F,h1,_⟩:=hk
    simp[isAgg,run_underlying h1,TK.agg]
  | arr n el=>
    rw[hek] at hk;simp only[EJ] at hk;simp[isAgg,run_underlying hk,TK.agg]
end
structure AS where
  f:AF
  h:AH
  nx:Nat
def Fits (M:Mem) (N:Nm) (s:AS) (nt:Nat) (a:Act) (w:World):Prop:=
  Rel M N (· <s.nx) s.h w∧FR M N (· <s.nx) s.f a.tmps∧a.defers=[]∧a.tmps.size=nt
def ofV:Value→PV
  | .agg cs=> .agg (cs.toList.map fun v=> .iv (.v v))
  | .bool b=> .kb b
  |v=> .iv (.v v)
def ev (f:AF):Operand→PV
  | .tmp t=>f.get t
  | .const v=>ofV v
  | .global _=> .any
  | .func g=> .cH (.func g) [] []
theorem RZ {M:Mem} {N:Nm} {U:Nat→Prop} (v:Value):VR M N U (ofV v) v:=by
  cases v<;>first
    |exact .iv _ _ (.v _)
    |exact .kb _
    | (refine .agg _ _ (by simp) (fun j p hp=>?_)
       rw[Ww,Wx] at hp;obtain⟨x,hx,rfl⟩:=hp;rename_i cs;have hx':cs[j]? =some x:=by simpa using hx
       rw[Wm,hx']
       exact .iv _ _ (.v _))
theorem aS {M:Mem} {N:Nm} {U:Nat→Prop} {f:AF} {a:Act} (h:FR M N U f a.tmps) (x:Operand):VR M N U (ev f x) (a.eval x):=by
  cases x with
  |tmp t=>exact h t
  |const v=>exact RZ v
  |global g=>exact .any _
  |func g=>exact .cH _ _ _ _ _ rfl rfl (by simp) (by simp)
def kh (cs:List PV) (off n:Nat):Option (List PV):=let l:=(cs.drop off).take n;bif WO l.length n then some l else none
def sY {α:Type _} (p:PV) (k:PV→α):α:=
  match p with
  | .iv x=>k (.iv x)
  | .agg cs=>k (.agg cs)
  | .bP cs=>k (.bP cs)
  | .ptr i o=>k (.ptr i o)
  | .c4 i sz a o=>k (.c4 i sz a o)
  | .eC z i=>k (.eC z i)
  | .sl i o n sz=>k (.sl i o n sz)
  | .mp i=>k (.mp i)
  | .cH fn a b=>k (.cH fn a b)
  | .kb b=>k (.kb b)
  | .any=>k .any
theorem c8 {α:Type _} (p:PV) (k:PV→α):sY p k=k p:=by cases p<;>rfl
def force {α:Type _}:List PV→(List PV→α)→α
  | [],k=>k []
  |x::r,k=>sY x fun x'=>force r fun r'=>k (x'::r')
theorem force_eq {α:Type _}: ∀(l:List PV) (k:List PV→α),force l k=k l
  | [],_=>rfl
  |x::r,k=>by simp only[force,c8];rw[force_eq r]
def PV.one:PV→Bool
  | .iv (.v (.agg _))=>false
  | .iv (.v (.tuple _))=>false
  | .iv (.agg _)=>false
  | .iv _=>true
  | .agg _=>false
  | .bP _=>false
  | .any=>false
  |_=>true
def PV.cells:PV→Option (List PV)
  | .agg cs=>some cs
  | p=>match p.one with
    |true=>some [p]
    |false=>none
def fv:List PV→Bool
  | []=>true
  | p::r=>match p.one with
    |true=>fv r
    |false=>false
def setCells:List PV→Nat→List PV→List PV
  | [],_,_=> []
  |c::cs,0,[]=>c::cs
  |_::cs,0,x::xs=>x::setCells cs 0 xs
  |c::cs,n+1,xs=>c::setCells cs n xs
theorem dW: ∀(cs:List PV) (n:Nat) (xs:List PV),(setCells cs n xs).length=cs.length
  | [],_,_=>rfl
  |c::cs,0,[]=>rfl
  |_::cs,0,x::xs=>by simp[setCells,dW cs 0 xs]
  |c::cs,n+1,xs=>by simp[setCells,dW cs n xs]
theorem iz: ∀(cs:List PV) (n:Nat) (xs:List PV) (j:Nat) (p:PV),(setCells cs n xs)[j]? =some p→(n≤j∧xs[j-n]? =some p)∨((j<n∨n+xs.length≤j)∧cs[j]? =some p)
  | [],_,_,j,p,h=>by simp[setCells] at h
  |c::cs,0,[],j,p,h=> .inr ⟨.inr (by simp),h⟩
  | c::cs,0,x::xs,j,p,h=>by
    simp only[setCells] at h
    cases j with
    |zero=>exact .inl ⟨Wz _,by simpa using h⟩
    | succ j=>
      rcases iz cs 0 xs j p (by simpa using h) with⟨_,h1⟩|⟨h1,h2⟩
      · exact .inl ⟨WC _,by simpa using h1⟩
      · exact .inr ⟨by simp at h1 ⊢;omega,by simpa using h2⟩
  | c::cs,n+1,xs,j,p,h=>by
    simp only[setCells] at h
    cases j with
    |zero=>exact .inr ⟨.inl (by omega),by simpa using h⟩
    | succ j=>
      rcases iz cs n xs j p (by simpa using h) with⟨h1,h2⟩|⟨h1,h2⟩
      · exact .inl ⟨by omega,by rw[show j+1-(n+1)=j-n by omega];exact h2⟩
      · exact .inr ⟨by omega,by simpa using h2⟩
def bW (v:Value):List PV:=v.cells.toList.map fun x=> .iv (.v x)
def nI (place:Nat→Option (Nat×Nat)):List PV→List (Nat×PV)→Option (List PV)
  |cs,[]=>some cs
  | cs,(i,p)::r=>match place i with
    | some (off,size)=>match p.cells with
      | some l=>match WO l.length size,YG (off+l.length) cs.length with
        |true,true=>force (setCells cs off l) fun cs'=>nI place cs' r
        |_,_=>none
      |none=>none
    |none=>none
def jj:List PV→Option PV
  | []=>none
  |p::_=>some p
def behind (h:AH):PV→Option (List PV)
  | .ptr i off=>match h.get i with
    |some (.cells cs _)=>some (cs.drop off)
    |_=>none
  | .c4 i sz k off=>match h.get i with
    | some (.row sz' es)=>match WO sz' sz,es[k]? with
      |true,some e=>some (e.drop off)
      |_,_=>none
    |_=>none
  | .iv (.jI cs)=>some (cs.map .iv)
  |_=>none
def gz (e:aB) (cs:List PV):Option PV:=
  match e.k.agg with
  | true=>match kh cs 0 e.size with
    |some l=>force l fun l'=>some (.agg l')
    |none=>none
  |false=>jj cs
def rG (e:aB) (k:Nat):Option (Nat×TypeId):=
  match e.k with
  | .aU fs=>fs[k]?
  |_=>none
def oL (ty:Ty):List (Nat×TypeId)→Option (List (Nat×Nat))
  | []=>some []
  | (off,u)::r=>match ty u with
    | some e=>match oL ty r with
      |some l=>some ((off,e.size)::l)
      |none=>none
    |none=>none
def nZ (n:Nat):PV→Option PV
  | .ptr i off=>some (.ptr i (off+n))
  | .c4 i sz k off=>some (.c4 i sz k (off+n))
  | .iv (.jI cs)=>some (.iv (.jI (cs.drop n)))
  |_=>none
abbrev PV.bool (b:Bool):PV:= .iv (.v (.bool b))
abbrev PV.int (n:Int):PV:= .iv (.v (.int .i64 n))
abbrev PV.str (s:ByteArray):PV:= .iv (.v (.string s))
def pb (n:Int):Prop:= -9223372036854775808≤n∧n≤9223372036854775807
def Ai (op:BinOp) (k:IntKind) (a b:Int):Option (PV×Prop):=
  match op,k with
  | .add, .i64=>some (.int (a+b),pb (a+b))
  | .sub, .i64=>some (.int (a-b),pb (a-b))
  | .mul, .i64=>some (.int (a*b),pb (a*b))
  | .rem, .i64=>some (.int (Int.tmod a b),¬b=0)
  | .quo, .i64=>some (.int (Int.tdiv a b),¬b=0∧pb (Int.tdiv a b))
  | .add,k=>some (.iv (.v (.int k (k.wrap (a+b)))),True)
  | .sub,k=>some (.iv (.v (.int k (k.wrap (a-b)))),True)
  | .mul,k=>some (.iv (.v (.int k (k.wrap (a*b)))),True)
  | .quo,k=>some (.iv (.v (.int k (k.wrap (Int.tdiv a b)))),¬b=0)
  | .rem,k=>some (.iv (.v (.int k (Int.tmod a b))),¬b=0)
  | .eql,_=>some (.bool (decide (a=b)),True)
  | .neq,_=>some (.bool (!decide (a=b)),True)
  | .lss,_=>some (.bool (decide (a<b)),True)
  | .leq,_=>some (.bool (decide (a≤b)),True)
  | .gtr,_=>some (.bool (decide (a>b)),True)
  | .geq,_=>some (.bool (decide (a≥b)),True)
  | .and,k=>some (.iv (.v (.int k (k.wrap ((BitVec.ofInt k.bits a&&&BitVec.ofInt k.bits b).toNat:Int)))),True)
  | .or,k=>some (.iv (.v (.int k (k.wrap ((BitVec.ofInt k.bits a|||BitVec.ofInt k.bits b).toNat:Int)))),True)
  | .xor,k=>some (.iv (.v (.int k (k.wrap ((BitVec.ofInt k.bits a ^^^ BitVec.ofInt k.bits b).toNat:Int)))),True)
  |_,_=>none
def zM (op:BinOp) (k:IntKind) (a b:Int):Option (PV×Prop):=
  match op with
  | .shr=>match decide (0≤b) with
    |true=>some (.iv (.v (.int k (a.fdiv (2 ^ min b.toNat k.bits)))),True)
    |false=>none
  | .shl=>match decide (0≤b) with
    |true=>some (.iv (.v (.int k (k.wrap (a*2 ^ min b.toNat k.bits)))),True)
    |false=>none
  |_=>none
def zJ (op:BinOp) (a b:ByteArray):Option (PV×Prop):=
  match op with
  | .eql=>some (.bool (decide (a=b)),True)
  | .neq=>some (.bool (!decide (a=b)),True)
  | .add=>some (.str (a++b),a.size+b.size≤9223372036854775807)
  | .lss=>some (.bool (Op.bytesLess a.toList b.toList),True)
  | .gtr=>some (.bool (!(Op.bytesLess a.toList b.toList||decide (a=b))),True)
  | .leq=>some (.bool (Op.bytesLess a.toList b.toList||decide (a=b)),True)
  | .geq=>some (.bool (!(Op.bytesLess a.toList b.toList)),True)
  |_=>none
def mM (ty:Ty) (t:TypeId) (op:BinOp) (a b:Bool):Option (PV×Prop):=
  match ty t with
  | some ⟨.ai .bool,_,_,_,_⟩=>match op with
    | .eql=>some (.bool (a==b),True)
    | .neq=>some (.bool (!(a==b)),True)
    |_=>none
  |_=>none
def wh (ty:Ty) (t:TypeId) (op:BinOp) (x y:PV):Option (PV×Prop):=
  match x,y with
  | .iv (.v (.int j a)), .iv (.v (.int k b))=>if j=k then Ai op j a b else zM op j a b
  | .iv (.v (.string a)), .iv (.v (.string b))=>zJ op a b
  | .iv (.v (.bool a)),y=>match y with
    | .iv (.v (.bool b))=>mM ty t op a b
    | .kb b=>mM ty t op a b
    |_=>none
  | .kb a,y=>match y with
    | .iv (.v (.bool b))=>mM ty t op a b
    | .kb b=>mM ty t op a b
    |_=>none
  |_,_=>none
def tL:PV→Option (PV×Prop)
  | .iv (.cz _ n _)=>some (.int n,True)
  | .iv (.v (.slice none 0 0))=>some (.int 0,True)
  | .iv (.v (.string s))=>some (.int s.size,True)
  | .sl _ _ len _=>some (.int len,True)
  |_=>none
def ji (x:PV) (i:Int):Option (PV×Prop):=
  match x with
  | .iv (.cz _ n el)=>some (.iv (.jI (el i.toNat)),0≤i∧i<n)
  | .sl j off len sz=>some (.c4 j sz (off+i.toNat) 0,0≤i∧i<len)
  |_=>none
def KC.pk:(c:KC)→c.K→PV
  | .str,s=> .iv (.v (.string s))
  | .int k,n=> .iv (.v (.int k n))
  | .si k,x=> .agg [.iv (.v (.string x.1)), .iv (.v (.int k x.2))]
def KC.dk:(c:KC)→PV→Option c.K
  | .str,p=>match p with
    | .iv (.v (.string s))=>some s
    |_=>none
  | .int k,p=>match p with
    | .iv (.v (.int j n))=>if j=k then some n else none
    |_=>none
  | .si k,p=>match p with
    | .agg [.iv (.v (.string s)), .iv (.v (.int j n))]=>if j=k then some (s,n) else none
    |_=>none
def eA (ty:Ty) (kt:TypeId):Option KC:=
  match ty kt with
  |some ⟨.ai .string,_,_,_,_⟩=>some .str
  |some ⟨.ai (.int k),_,_,_,_⟩=>some (.int k)
  | some ⟨.aU [(0,a),(1,b)],_,_,_,true⟩=>match ty a,ty b with
    |some ⟨.ai .string,1,_,_,_⟩,some ⟨.ai (.int k),1,_,_,_⟩=>some (.si k)
    |_,_=>none
  |_=>none
section
variable (kc:KC) {V:Type}
def bG:List (kc.K×V)→kc.K→V→V
  | [],_,z=>z
  |(a,b)::r,k,z=>if a=k then b else bG r k z
def eO:List (kc.K×V)→kc.K→Bool
  | [],_=>false
  |(a,_)::r,k=>if a=k then true else eO r k
def bS:List (kc.K×V)→kc.K→V→List (kc.K×V)
  | [],k,v=> [(k,v)]
  |(a,b)::r,k,v=>if a=k then(k,v)::r else(a,b)::bS r k v
def lT:List (kc.K×V)→kc.K→List (kc.K×V)
  | [],_=> []
  |(a,b)::r,k=>if a=k then r else(a,b)::lT r k
end
def zE:Value→Value→Bool
  | .int j a, .int k b=>decide (j=k)&&decide (a=b)
  | .string a, .string b=>decide (a=b)
  | .bool a, .bool b=>a==b
  | .slice none 0 0, .slice none 0 0=>true
  | .map none, .map none=>true
  |_,_=>false
def ua:List Value→List Value→Bool
  | [],[]=>true
  |a::r,b::q=>zE a b&&ua r q
  |_,_=>false
def PQ:Value→Value→Bool
  | .agg a, .agg b=>ua a.toList b.toList
  |a,b=>zE a b
def IV.pv:IV→PV
  | .agg cs=> .agg (cs.map .iv)
  |x=> .iv x
def sH (ty:Ty) (t:TypeId) (ok:Bool) (kc:KC) {V:Type} (e:V→IV) (z:V) (zv:Value) (m:List (kc.K×V)) (key:PV):Option (PV×Prop):=
  match ty t with
  | some ⟨.ai (.map kt et),_,_,_,_⟩=>match eA ty kt,ty et with
    | some kc',some ee=>match decide (kc'=kc),PQ ee.zero zv,kc.dk key with
      | true,true,some k=>match ok with
        |true=>some (.bP [(e (bG kc m k z)).pv, .iv (.v (.bool (eO kc m k)))],True)
        |false=>some ((e (bG kc m k z)).pv,True)
      |_,_,_=>none
    |_,_=>none
  |_=>none
def BV (f:TypeId→PV→PV→Option Bool) (ty:Ty):List (Nat×TypeId)→List PV→List PV→Option Bool
  | [],_,_=>some true
  | (off,u)::r,cs,ds=>match ty u with
    | some eu=>match gz eu (cs.drop off),gz eu (ds.drop off) with
      | some a,some b=>match f u a b,BV f ty r cs ds with
        |some x,some y=>some (x&&y)
        |_,_=>none
      |_,_=>none
    |none=>none
def BW (ty:Ty):Nat→TypeId→PV→PV→Option Bool
  |0,_,_,_=>none
  | d+1,t,p,q=>match ty t with
    | some ⟨.ai (.int _),_,_,_,_⟩=>match p,q with
      | .iv (.v (.int j a)), .iv (.v (.int k b))=>if j=k then some (decide (a=b)) else none
      |_,_=>none
    | some ⟨.ai .string,_,_,_,_⟩=>match p,q with
      | .iv (.v (.string a)), .iv (.v (.string b))=>some (decide (a=b))
      |_,_=>none
    | some ⟨.ai .bool,_,_,_,_⟩=>match p,q with
      | .iv (.v (.bool a)), .iv (.v (.bool b))=>some (a==b)
      |_,_=>none
    | some ⟨.aU fs,_,_,_,true⟩=>match p,q with
      | .agg cs, .agg ds=>BV (BW ty d) ty fs cs ds
      |_,_=>none
    |_=>none
def AV (ty:Ty) (t:TypeId) (op:BinOp) (p q:PV):Option (PV×Prop):=
  match op with
  | .eql=>match BW ty 10 t p q with
    |some b=>some (.bool b,True)
    |none=>none
  | .neq=>match BW ty 10 t p q with
    |some b=>some (.bool (!b),True)
    |none=>none
  |_=>none
def il (ty:Ty) (s:AS):Op→Option (PV×Prop)
  | .move x=>some (ev s.f x,True)
  | .assign x=>some (ev s.f x,True)
  | .pick c a b=>match ev s.f c with
    | .kb true=>some (ev s.f a,True)
    | .kb false=>some (ev s.f b,True)
    |_=>none
  | .load t x=>match ty t with
    | some e=>match behind s.h (ev s.f x) with
      | some cs=>match gz e cs with
        |some p=>some (p,True)
        |none=>none
      |none=>none
    |none=>none
  | .nilCheck x=>match ev s.f x with
    | .ptr i o=>some (.ptr i o,True)
    | .c4 i sz k o=>some (.c4 i sz k o,True)
    | .iv (.jI cs)=>some (.iv (.jI cs),True)
    | .cH (.func g) a b=>some (.cH (.func g) a b,True)
    |_=>none
  | .binOp op t x y _=>match ev s.f x,ev s.f y with
    | .agg cs, .agg ds=>AV ty t op (.agg cs) (.agg ds)
    |p,q=>wh ty t op p q
  | .lookup t x i ok=>match ev s.f x with
    | .iv (.dK kc e z zv m)=>sH ty t ok kc e z zv m (ev s.f i)
    | .mp j=>match s.h.get j with
      |some (.map kc e z zv _ m)=>sH ty t ok kc e z zv m (ev s.f i)
      |_=>none
    |_=>none
  | .entry it=>match ev s.f it with
    | .ptr i 0=>match s.h.get i with
      |some (.bq kc e _ _ (some x))=>some (.bP [kc.pk x.1,(e x.2).pv],True)
      |_=>none
    |_=>none
  | .unOp .not _ x=>match ev s.f x with
    | .kb true=>some (.kb false,True)
    | .kb false=>some (.kb true,True)
    | .iv (.v (.bool b))=>some (.bool (!b),True)
    |_=>none
  | .fieldAddr t x k=>match ty t with
    | some e=>match rG e k with
      | some (off,u)=>match ty u with
        | some eu=>match eu.size with
          |0=>none
          | _+1=>match nZ off (ev s.f x) with
            |some p=>some (p,True)
            |none=>none
        |none=>none
      |none=>none
    |none=>none
  | .field t x k=>match ty t with
    | some e=>match rG e k with
      | some (off,u)=>match ty u with
        | some eu=>match ev s.f x with
          | .agg cs=>match gz eu (cs.drop off) with
            |some p=>some (p,True)
            |none=>none
          |_=>none
        |none=>none
      |none=>none
    |none=>none
  | .indexAddr t x i=>match ty t with
    | some ⟨.ai (.slice u),_,_,_,_⟩=>match ty u with
      | some eu=>match ev s.f i with
        | .iv (.v (.int _ n))=>match ev s.f x with
          | .iv (.cz sz m el)=>bif WO sz eu.size then ji (.iv (.cz sz m el)) n else none
          | .sl j off len sz=>bif WO sz eu.size then ji (.sl j off len sz) n else none
          |_=>none
        |_=>none
      |none=>none
    | some ⟨.arr len u,_,_,_,_⟩=>match ty u with
      | some eu=>match ev s.f i with
        | .iv (.v (.int _ n))=>match ev s.f x with
          | .ptr j off=>some (.ptr j (off+n.toNat*eu.size),0≤n∧n<len)
          |_=>none
        |_=>none
      |none=>none
    |_=>none
  | .index t x i=>match ty t with
    | some ⟨.ai .string,_,_,_,_⟩=>match ev s.f i with
      | .iv (.v (.int _ n))=>match ev s.f x with
        | .iv (.v (.string b))=>some (.iv (.v (.int .u8 ((b.data.toList.getD n.toNat 0).toNat:Int))),0≤n∧n<b.size)
        |_=>none
      |_=>none
    |_=>none
  | .slice t x (some lo) (some hi) none=>match ty t with
    | some ⟨.ai (.slice u),_,_,_,_⟩=>match ty u with
      | some eu=>match ev s.f lo with
        | .iv (.v (.int _ a))=>match ev s.f hi with
          | .iv (.v (.int _ b))=>match ev s.f x with
            | .iv (.cz sz m el)=>bif WO sz eu.size then some (.iv (.cz sz (b.toNat-a.toNat) (fun k=>el (a.toNat+k))),0≤a∧a≤b∧b≤m) else none
            |_=>none
          |_=>none
        |_=>none
      |none=>none
    | some ⟨.ai .string,_,_,_,_⟩=>match ev s.f lo with
      | .iv (.v (.int _ a))=>match ev s.f hi with
        | .iv (.v (.int _ b))=>match ev s.f x with
          | .iv (.v (.string y))=>some (.iv (.v (.string (y.extract a.toNat b.toNat))),0≤a∧a≤b∧b≤y.size)
          |_=>none
        |_=>none
      |_=>none
    |_=>none
  | .build t parts=>match ty t with
    | some e=>match e.k with
      | .aU fs=>match oL ty fs with
        | some pl=>match nI (pl[·]?) (bW e.zero) (parts.toList.map fun x=>(x.1,ev s.f x.2)) with
          |some cs=>force cs fun cs'=>some (.agg cs',True)
          |none=>none
        |none=>none
      | .arr _ u=>match ty u with
        | some eu=>match nI (fun i=>some (i*eu.size,eu.size)) (bW e.zero) (parts.toList.map fun x=>(x.1,ev s.f x.2)) with
          |some cs=>force cs fun cs'=>some (.agg cs',True)
          |none=>none
        |none=>none
      |_=>none
    |none=>none
  | .extract x k=>match ev s.f x with
    | .bP cs=>match cs[k]? with
      |some p=>some (p,True)
      |none=>none
    |_=>none
  | .makeFunc fn first caps=>force (first.toList.map (ev s.f)) fun a=>force (caps.toList.map (ev s.f)) fun b=>some (.cH fn a b,True)
  | .call ⟨.builtin .len,args,argTypes⟩=>match args.toList,argTypes.toList with
    | [x],[t]=>match ty t with
      | some ⟨.ai (.slice _),_,_,_,_⟩=>match ev s.f x with
        | .iv (.cz sz n el)=>tL (.iv (.cz sz n el))
        | .sl i off len sz=>tL (.sl i off len sz)
        | .iv (.v (.slice none 0 0))=>tL (.iv (.v (.slice none 0 0)))
        |_=>none
      | some ⟨.ai .string,_,_,_,_⟩=>match ev s.f x with
        | .iv (.v (.string b))=>tL (.iv (.v (.string b)))
        |_=>none
      | some ⟨.ai (.map _ _),_,_,_,_⟩=>match ev s.f x with
        | .iv (.dK _ _ _ _ m)=>some (.int m.length,True)
        | .mp j=>match s.h.get j with
          |some (.map _ _ _ _ _ m)=>some (.int m.length,True)
          |_=>none
        |_=>none
      |_=>none
    |_,_=>none
  | .call ⟨.builtin .max,args,_⟩=>match args.toList with
    | [x,y]=>match ev s.f x,ev s.f y with
      | .iv (.v (.int k a)), .iv (.v (.int _ b))=>some (.iv (.v (.int k (max a b))),True)
      |_,_=>none
    |_=>none
  | .call ⟨.builtin .min,args,_⟩=>match args.toList with
    | [x,y]=>match ev s.f x,ev s.f y with
      | .iv (.v (.int k a)), .iv (.v (.int _ b))=>some (.iv (.v (.int k (min a b))),True)
      |_,_=>none
    |_=>none
  |_=>none
inductive TT where
  |leaf
  |node (l:TT) (k:Nat) (e:aB) (r:TT)
def TT.find:TT→Nat→Option aB
  | .leaf,_=>none
  | .node l k e r,t=>bif WO t k then some e else bif WU t k then l.find t else r.find t
def TT.PK (p:Nat→aB→Prop):TT→Prop
  | .leaf=>True
  | .node l k e r=>p k e∧l.PK p∧r.PK p
theorem TT.kO {p:Nat→aB→Prop}: ∀{x:TT},x.PK p→ ∀t e,x.find t=some e→p t e
  | .leaf,_,t,e,h=>by simp[TT.find] at h
  | .node l k e0 r,ha,t,e,h=>by
    simp only[TT.find] at h
    cases hb:WO t k with
    | true=>
      simp only[hb,cond_true,Wo] at h;subst h
      rw[WK hb];exact ha.1
    | false=>
      simp only[hb,cond_false] at h
      cases hl:WU t k with
      |true=>simp only[hl,cond_true] at h;exact TT.kO ha.2.1 t e h
      |false=>simp only[hl,cond_false] at h;exact TT.kO ha.2.2 t e h
theorem ab {P:Program} {t:TypeId} {e:aB} (h:(P.info? t).map (fun i=>(i.size,i.bytes,i.zero))=some (e.size,e.bytes,some e.zero)): ∃i,P.info? t=some i∧i.size=e.size∧i.bytes=e.bytes∧i.zero=some e.zero:=by
  rw[Wx] at h;obtain⟨i,h1,h2⟩:=h;simp only[WA] at h2;exact⟨i,h1,h2.1,h2.2.1,h2.2.2⟩
end Go.Al
namespace Go.Al
theorem VR.one {M:Mem} {N:Nm} {U:Nat→Prop} {p:PV} {x:Value} (h:VR M N U p x) (ho:p.one=true):x.oneCell'=true:=by
  cases h with
  | iv y x hi=>
    cases hi with
    |v x=>cases x<;>first|rfl|(simp[PV.one] at ho)
    |agg=>simp[PV.one] at ho
    |_=>rfl
  |agg=>simp[PV.one] at ho
  |bP=>simp[PV.one] at ho
  |any=>simp[PV.one] at ho
  |_=>rfl
section
variable {M:Mem} {N:Nm}
theorem VR.j1 {U:Nat→Prop} {cs:List PV} {x:Value} (h:VR M N U (.agg cs) x): ∃ys:Array Value,x= .agg ys∧cs.length=ys.size∧ ∀j p,cs[j]? =some p→VR M N U p (ys.getD j undef):=by
  cases h with
  |agg _ ys hl hr=>exact⟨ys,rfl,hl,hr⟩
theorem pr {U:Nat→Prop} {p:PV} {x:Value} {cs:List PV} (h:VR M N U p x) (hc:p.cells=some cs):cs.length=x.cells.size∧ ∀j q,cs[j]? =some q→VR M N U q (x.cells.getD j undef):=by
  have one:p.one=true→cs=[p]→cs.length=x.cells.size∧ ∀j q,cs[j]? =some q→VR M N U q (x.cells.getD j undef):=by
    intro ho hcs;subst hcs;have h1:=h.one ho;have hx:x.cells= #[x]:=by cases x<;>first|rfl|(simp[Value.oneCell'] at h1)
    rw[hx];refine⟨rfl,fun j q hq=>?_⟩
    cases j with
    |zero=>simp at hq;subst hq;exact h
    |succ j=>simp at hq
  cases p with
  | agg l=>
    simp only[PV.cells,Wo] at hc;subst hc;obtain⟨ys,rfl,hl,hr⟩:=h.j1
    exact⟨hl,hr⟩
  | _=>
    simp only[PV.cells] at hc;split at hc
    · rename_i ho
      simp only[Wo] at hc;exact one ho hc.symm
    · cases hc
theorem iP: ∀{cs:List PV},fv cs=true→ ∀(j:Nat) (p:PV),cs[j]? =some p→p.one=true
  | [],_,j,p,h=>by simp at h
  | c::cs,h,j,p,hj=>by
    simp only[fv] at h;split at h
    · rename_i hc
      cases j with
      |zero=>simp at hj;subst hj;exact hc
      |succ j=>exact iP h j p (by simpa using hj)
    · cases h
theorem ec {U:Nat→Prop} (v:Value):(bW v).length=v.cells.size∧ ∀j p,(bW v)[j]? =some p→VR M N U p (v.cells.getD j undef):=by
  refine⟨by simp[bW],fun j p hp=>?_⟩;simp only[bW] at hp;rw[Ww,Wx] at hp;obtain⟨x,hx,rfl⟩:=hp;have hx':v.cells[j]? =some x:=by simpa using hx
  rw[Wm,hx'];exact .iv _ _ (.v _)
theorem uV: ∀(l:List Value) (k off:Nat) (cs:Array Value),off+k+l.length≤cs.size→
    ((l.zipIdx k).foldl (fun cs x=>cs.setIfInBounds (off+x.2) x.1) cs).size=cs.size∧
    ∀j,((l.zipIdx k).foldl (fun cs x=>cs.setIfInBounds (off+x.2) x.1) cs)[j]? =if off+k≤j∧j<off+k+l.length then l[j-(off+k)]? else cs[j]?
  | [],k,off,cs,_=>⟨rfl,fun j=>by simp;omega⟩
  | v::l,k,off,cs,h=>by
    simp only[List.zipIdx_cons,Xf];simp only[W2] at h;obtain⟨h1,h2⟩:=uV l (k+1) off (cs.setIfInBounds (off+k) v) (by simp;omega);refine⟨by rw[h1];simp,fun j=>?_⟩;rw[h2 j];simp only[W2];by_cases hj:off+(k+1)≤j∧j<off+(k+1)+l.length
    · rw[if_pos hj,if_pos (by omega),show j-(off+k)=(j-(off+(k+1)))+1 by omega,Yt]
    · rw[if_neg hj]
      by_cases he:j=off+k
      · subst he
        have hb:off+k<cs.size:=by omega
        rw[if_pos (by omega),Nat.sub_self];simp[hb]
      · rw[if_neg (by omega),W1,if_neg (fun e=>he e.symm)]
def Wd (M:Mem) (N:Nm) (U:Nat→Prop) (cs:List PV) (ys:Array Value):Prop:=cs.length=ys.size∧ ∀j p,cs[j]? =some p→VR M N U p (ys.getD j undef)
theorem pe {place:Nat→Option (Nat×Nat)}: ∀{parts:List (Nat×PV)} {cs cs':List PV},nI place cs parts=some cs'→cs'.length=cs.length
  | [],cs,cs',h=>by simp only[nI,Wo] at h;rw[h]
  | (i,p)::r,cs,cs',h=>by
    simp only[nI] at h;split at h
    · split at h
      · split at h
        · rw[force_eq] at h
          rw[pe h,dW]
        · cases h
      · cases h
    · cases h
theorem pd {U:Nat→Prop} {place:Nat→Option (Nat×Nat)}: ∀{parts:List (Nat×PV)} {vals:List (Nat×Value)} {cs cs':List PV} {ys:Array Value},
    nI place cs parts=some cs'→parts.length=vals.length→(∀(j:Nat) (x:Nat×PV) (y:Nat×Value),parts[j]? =some x→vals[j]? =some y→x.1=y.1∧VR M N U x.2 y.2)→Wd M N U cs ys→
    ∃ys',Instr.fill place ys vals=some ys'∧Wd M N U cs' ys'
  | [],[],cs,cs',ys,h,_,_,hv=>by
    simp only[nI,Wo] at h;subst h
    exact⟨ys,rfl,hv⟩
  | (i,p)::r,(i',v)::vr,cs,cs',ys,h,hl,hp,hv=>by
    obtain⟨h1,h2⟩:=hp 0 _ _ rfl rfl;simp only at h1 h2;subst h1;simp only[nI] at h;split at h
    · rename_i off size hpl
      split at h
      · rename_i l hcl
        split at h
        · rename_i hb1 hb2
          rw[force_eq] at h;obtain⟨g1,g2⟩:=pr h2 hcl;have hsz:v.cells.size=size:=by rw[←g1];exact WK hb1
          have hfit:off+v.cells.size≤ys.size:=by rw[←g1,←hv.1];exact Wj hb2
          obtain⟨k1,k2⟩:=uV v.cells.toList 0 off ys (by simpa using hfit)
          have hfold:v.cells.zipIdx.foldl (fun cs x=>cs.setIfInBounds (off+x.2) x.1) ys=(v.cells.toList.zipIdx 0).foldl (fun cs x=>cs.setIfInBounds (off+x.2) x.1) ys:=by
            rw[←Array.foldl_toList,Array.toList_zipIdx]
          have hv':Wd M N U (setCells cs off l) (v.cells.zipIdx.foldl (fun cs x=>cs.setIfInBounds (off+x.2) x.1) ys):=by
            rw[hfold];refine⟨by rw[dW,k1];exact hv.1,fun j q hq=>?_⟩;rw[Wm,k2 j];rcases iz cs off l j q hq with⟨e1,e2⟩|⟨e1,e2⟩
            · have hjl:j-off<l.length:=(Wr.1 e2).1
              rw[if_pos (by simp;omega)];have:=g2 _ q e2;rw[Wm] at this;simpa using this
            · rw[if_neg (by simp;omega)]
              have:=hv.2 j q e2;rw[Wm] at this;exact this
          obtain⟨ys',e1,e2⟩:=pd h (by simpa using hl) (fun j x y hx hy=>hp (j+1) x y (by simpa using hx) (by simpa using hy)) hv';refine⟨ys',?_,e2⟩;simp only[Instr.fill,hpl];rw[if_neg (by simp[hsz];omega)];exact e1
        · cases h
      · cases h
    · cases h
end
section
variable {P:Program} {M:Mem} {N:Nm} {U:Nat→Prop} {h:AH} {w:World}
theorem Rel.Pu (hr:Rel M N U h w) {b o:Nat} {v:Value} (hc:M.cell b o=some v):w.cell? ⟨b,o,none⟩=some v:=by
  unfold Mem.cell at hc
  cases hb:M b with
  |none=>simp[hb] at hc
  | some c=>
    cases c with
    |map es cl=>simp[hb] at hc
    | cells c=>
      obtain⟨T,fr,hw⟩:=hr.cZ b _ hb;rw[hb] at hc;simp only[World.cell?,hw];simpa using hc
theorem IR.y7 {cs:List IV} {x:Value} (hr:Rel M N U h w) (hp:IR M (.jI cs) x):
    ∃b off,x= .pointer (some ⟨b,off,none⟩)∧ ∀j q,cs[j]? =some q→ ∃y,w.cell? ⟨b,off+j,none⟩=some y∧IR M q y:=by
  cases hp with
  | jI _ b off hm hq=>
    refine⟨b,off,rfl,fun j q hj=>?_⟩;have hlt:j<cs.length:=(Wr.1 hj).1;have h1:=hm j hlt
    cases hv:M.cell b (off+j) with
    |none=>simp[hv] at h1
    | some y=>
      have h2:=hq j q hj;rw[hv] at h2;exact⟨y,hr.Pu hv,h2⟩
theorem u7 {p:PV} {x:Value} {cs:List PV} (hr:Rel M N U h w) (hp:VR M N U p x) (hb:behind h p=some cs):
    ∃b off,x= .pointer (some ⟨b,off,none⟩)∧ ∀j q,cs[j]? =some q→ ∃y,w.cell? ⟨b,off+j,none⟩=some y∧VR M N U q y:=by
  cases p with
  | ptr i off=>
    cases hp with
    | ptr _ _ hU=>
      simp only[behind] at hb
      cases ho:h.get i with
      |none=>simp[ho] at hb
      | some o=>
        cases o with
        | cells cs0 T0=>
          simp only[ho,Wo] at hb;subst hb;obtain⟨c,T,h1,h2,h3,h4,h5⟩:=hr.obj i _ ho;refine⟨N.aG i,off,rfl,fun j q hj=>?_⟩;rw[Xx] at hj;have hlt:off+j<c.size:=by rw[←h3];exact(Wr.1 hj).1
          refine⟨c.getD (off+j) undef,?_,h4 _ _ hj⟩
          simp[World.cell?,h1,Wm,hlt]
        |_=>simp[ho] at hb
  | c4 i sz k off=>
    cases hp with
    | c4 _ _ _ _ hU=>
      simp only[behind] at hb
      cases ho:h.get i with
      |none=>simp[ho] at hb
      | some o=>
        cases o with
        | row sz' es=>
          simp only[ho] at hb;split at hb
          · rename_i e hb1 he
            simp only[Wo] at hb;have:=WK hb1;subst this;subst hb;rcases hr.obj i _ ho with h0|⟨h0,c,T,h1,h2,h3,h4,h5⟩
            · subst h0;simp at he
            refine⟨N.aG i,k*sz'+off,rfl,fun j q hj=>?_⟩;rw[Xx] at hj;have hje:off+j<sz':=by rw[←h4 k e he];exact(Wr.1 hj).1
            have hk:k<es.length:=(Wr.1 he).1;have hks:(k+1)*sz'≤es.length*sz':=WR _ hk;rw[YH] at hks;have hlt:k*sz'+off+j<c.size:=by omega
            refine⟨c.getD (k*sz'+off+j) undef,?_,?_⟩
            · simp[World.cell?,h1,Wm,hlt]
            · rw[XZ];exact h5 k e _ q he hj
          · cases hb
        |_=>simp[ho] at hb
  | iv x=>
    cases x with
    | jI cs0=>
      cases hp with
      | iv _ _ hi=>
        simp only[behind,Wo] at hb;subst hb;obtain⟨b,off,rfl,hc⟩:=hi.y7 hr;refine⟨b,off,rfl,fun j q hj=>?_⟩;rw[Ww,Wx] at hj;obtain⟨q0,hj0,rfl⟩:=hj;obtain⟨y,hy,hq⟩:=hc j q0 hj0
        exact⟨y,hy, .iv _ _ hq⟩
    |_=>simp[behind] at hb
  |_=>simp[behind] at hb
theorem lX {cs l:List PV} {off n:Nat} (hh:kh cs off n=some l):l.length=n∧ ∀j q,l[j]? =some q→cs[off+j]? =some q∧j<n:=by
  unfold kh at hh
  cases hb:WO ((cs.drop off).take n).length n with
  |false=>simp only[hb,cond_false] at hh;cases hh
  | true=>
    simp only[hb,cond_true,Wo] at hh;subst hh;have hl:=WK hb;refine⟨hl,fun j q hj=>?_⟩;have hjn:j<n:=by rw[←hl];exact(Wr.1 hj).1
    rw[W7,if_pos hjn,Xx] at hj;exact⟨hj,hjn⟩
theorem nF {cs:List PV} {p:PV} (hh:jj cs=some p):cs[0]? =some p:=by
  cases cs with
  |nil=>simp[jj] at hh
  |cons a r=>simpa[jj] using hh
theorem dZ (b off j:Nat):(⟨b,off,none⟩:Addr).add j=⟨b,off+j,none⟩:=by
  unfold Addr.add;split
  · subst_vars;rfl
  · rfl
theorem qC {t:TypeId} {e:aB} (he:ad P t e) {cs:List PV} {b off:Nat} (hc: ∀j q,cs[j]? =some q→ ∃y,w.cell? ⟨b,off+j,none⟩=some y∧VR M N U q y)
    {p:PV} (hp:gz e cs=some p): ∃y,(loadVar t ⟨b,off,none⟩).run P w= .ok y w∧VR M N U p y:=by
  unfold gz at hp
  cases hk:e.k.agg with
  | true=>
    simp only[hk] at hp
    cases ht:kh cs 0 e.size with
    |none=>simp[ht] at hp
    | some l=>
      simp only[ht,force_eq,Wo] at hp;subst hp;obtain⟨hl,hj⟩:=lX ht
      have hcell: ∀j,j<e.size→w.cell? ((⟨b,off,none⟩:Addr).add j)=some (((w.cell? ⟨b,off+j,none⟩)).getD undef):=by
        intro j hjn;have hlj:l[j]? =some (l[j]'(by omega)):=Wt (by omega);obtain⟨y,hy,_⟩:=hc j _ (by simpa using(hj j _ hlj).1);rw[dZ,hy];rfl
      refine⟨.agg (((WL e.size).map fun j=>(w.cell? ⟨b,off+j,none⟩).getD undef).toArray),?_,?_⟩
      · have:=run_loadCells (P:=P) w ⟨b,off,none⟩ e.size (fun j=>(w.cell? ⟨b,off+j,none⟩).getD undef) hcell
        simp[loadVar,lg he,hk,bw he,this]
      · refine .agg _ _ (by simp[hl]) (fun j q hq=>?_)
        obtain⟨h1,h2⟩:=hj j q hq;obtain⟨y,hy,hv⟩:=hc j q (by simpa using h1)
        have hg:(((WL e.size).map fun j=>(w.cell? ⟨b,off+j,none⟩).getD undef).toArray).getD j undef=y:=by
          simp[Wm,h2,hy]
        rw[hg];exact hv
  | false=>
    simp only[hk] at hp;obtain⟨y,hy,hv⟩:=hc 0 p (nF hp);refine⟨y,?_,hv⟩;simp only[loadVar,Sem.run_bind,lg he,Result.andThen_ok,hk,Yl,if_false];simp only[Yv] at hy;simp[hy]
theorem gW {t:TypeId} {e:aB} (he:ad P t e) {cs:List PV} {ys:Array Value} {off:Nat} (hl:cs.length=ys.size) (hc: ∀j q,cs[j]? =some q→VR M N U q (ys.getD j undef))
    {p:PV} (hp:gz e (cs.drop off)=some p): ∃y,(part t ys off).run P w= .ok y w∧VR M N U p y:=by
  unfold gz at hp
  cases hk:e.k.agg with
  | true=>
    simp only[hk] at hp
    cases ht:kh (cs.drop off) 0 e.size with
    |none=>simp[ht] at hp
    | some l=>
      simp only[ht,force_eq,Wo] at hp;subst hp;obtain⟨hll,hj⟩:=lX ht;refine⟨.agg (ys.extract off (off+e.size)),by simp[part,lg he,hk,bw he], .agg _ _ ?_ (fun j q hq=>?_)⟩
      · rw[hll,Array.size_extract]
        by_cases h0:e.size=0
        · omega
        · have hlast:l[e.size-1]? =some (l[e.size-1]'(by omega)):=Wt (by omega)
          have:=(hj _ _ hlast).1;rw[Xx] at this;have:=(Wr.1 this).1;omega
      · obtain⟨h1,h2⟩:=hj j q hq
        rw[Xx] at h1;have h3:=hc _ _ h1;have hlt:off+(0+j)<cs.length:=(Wr.1 h1).1
        have:(ys.extract off (off+e.size)).getD j undef=ys.getD (off+(0+j)) undef:=by
          simp only[Wm,Array.getElem?_extract,WQ];rw[if_pos (by omega)]
        rw[this];exact h3
  | false=>
    simp only[hk] at hp;have h0:=nF hp;rw[Xx] at h0;have h3:=hc _ _ h0;have hlt:off+0<cs.length:=(Wr.1 h0).1;refine⟨ys.getD (off+0) undef,?_,h3⟩
    have hy:ys[off]? =some (ys.getD off undef):=by
      simp[Wm,show off<ys.size by omega]
    simp only[part,Sem.run_bind,lg he,Result.andThen_ok,hk,Yl,if_false,hy];rfl
theorem vl (a b:ByteArray):(a.toList==b.toList)=decide (a=b):=by
  rw[Lib.toList_data,Lib.toList_data,Xn];simp only[beq_iff_eq,decide_eq_true_eq];exact⟨fun h=>WideShapes.bytes_inj h,fun h=>by rw[h]⟩
theorem DI {t:TypeId} {op:BinOp} {k:IntKind} {a b:Int} {p:PV} {C:Prop} (h:Ai op k a b=some (p,C)) (hC:C): ∃x,(binOp op t (.int k a) (.int k b)).run P w= .ok x w∧VR M N U p x:=by
  have hi: ∀n:Int,pb n→IntKind.i64.wrap n=n:=fun n hn=>IntWalk.i64_in n hn;unfold Ai at h;split at h
  all_goals first
    |cases h;done
    | (simp only[Wo,WA] at h
       obtain⟨rfl,rfl⟩:=h;refine⟨_,?_, .iv _ _ (.v _)⟩
       first
       |(simp[binOp,Op.intCmp];done)
       |rfl
       |(simp[binOp,Op.intCmp];rfl)
       |(have hw:=hi _ hC;simp[binOp,Op.intArith,hw];done)
       |(simp[binOp,Op.intDiv,hC];done)
       |(have hw:=hi _ hC.2;simp[binOp,Op.intDiv,hC.1,hw];done))
theorem CS {t:TypeId} {op:BinOp} {k j:IntKind} {a b:Int} {p:PV} {C:Prop} (h:zM op k a b=some (p,C)): ∃x,(binOp op t (.int k a) (.int j b)).run P w= .ok x w∧VR M N U p x:=by
  unfold zM at h;split at h
  case h_3=>cases h
  all_goals
    split at h
    · rename_i hb
      simp only[Wo,WA] at h;obtain⟨rfl,rfl⟩:=h;have hb': ¬b<0:=by have:=of_decide_eq_true hb;omega
      refine⟨_,?_, .iv _ _ (.v _)⟩;simp only[binOp,Op.shift,if_neg hb'];rfl
    · cases h
theorem CH {t:TypeId} {op:BinOp} {a b:ByteArray} {p:PV} {C:Prop} (h:zJ op a b=some (p,C)) (hC:C): ∃x,(binOp op t (.string a) (.string b)).run P w= .ok x w∧VR M N U p x:=by
  unfold zJ at h;split at h
  all_goals first
    |cases h;done
    | (simp only[Wo,WA] at h
       obtain⟨rfl,rfl⟩:=h;refine⟨_,?_, .iv _ _ (.v _)⟩
       first
       |(simp[binOp,Op.stringOp,←vl];done)
       | (have hn: ¬(((a.size+b.size:Nat):Int)>IntKind.i64.max):=by(have:IntKind.i64.max=9223372036854775807:=by decide);rw[this];omega
          simp only[binOp,Op.stringOp,if_neg hn];rfl))
theorem gL {op:BinOp} {t:TypeId} {x y:Operand} {a b:Value} (h1:a≠ .nilIface) (h2: ∀cs,a≠ .agg cs):(eqGuard op t x y a b).run P w= .ok () w:=by
  unfold eqGuard;cases op<;>cases a<;>first|rfl|exact absurd rfl h1|exact absurd rfl (h2 _)
theorem vZ {t:TypeId} (hu:P.underlying t=some .bool) (d:Nat) (a b:Bool):(Op.equalIn (d+1) t (.bool a) (.bool b)).run P w= .ok (a==b) w:=by
  simp[Op.equalIn,run_underlying hu]
theorem s5 {t:TypeId} (hu:P.underlying t=some .bool) (a b:Bool):(Op.equal t (.bool a) (.bool b)).run P w= .ok (a==b) w:=
  vZ hu 9999 a b
theorem tm {t:TypeId} (hu:P.underlying t=some .bool) (a b:Bool):(binOp .eql t (.bool a) (.bool b)).run P w= .ok (.bool (a==b)) w:=by
  show(Op.equal t (.bool a) (.bool b)>>=fun r=>(pure (.bool r):Sem Value)).run P w=_;rw[Sem.run_bind,s5 hu];rfl
theorem tk {t:TypeId} (hu:P.underlying t=some .bool) (a b:Bool):(binOp .neq t (.bool a) (.bool b)).run P w= .ok (.bool (!(a==b))) w:=by
  show(Op.equal t (.bool a) (.bool b)>>=fun r=>(pure (.bool (!r)):Sem Value)).run P w=_;rw[Sem.run_bind,s5 hu];rfl
theorem ni {ty:Ty} (hty:bE P ty) {t:TypeId} {op:BinOp} {a b:Bool} {r:PV} {C:Prop} {u v:Operand} (h:mM ty t op a b=some (r,C)):
    ∃z,(do eqGuard op t u v (.bool a) (.bool b);binOp op t (.bool a) (.bool b):Sem Value).run P w= .ok z w∧VR M N U r z:=by
  unfold mM at h;split at h
  · rename_i ht
    have hu:P.underlying t=some .bool:=(hty t _ ht).2.1.1;split at h
    all_goals first
      |cases h;done
      | (simp only[Wo,WA] at h
         obtain⟨rfl,rfl⟩:=h;refine⟨_,?_, .iv _ _ (.v _)⟩;rw[Sem.run_bind,gL (by simp) (by simp)]
         first|exact tm hu _ _|exact tk hu _ _)
  · cases h
theorem Ca {ty:Ty} (hty:bE P ty) {t:TypeId} {op:BinOp} {p q:PV} {r:PV} {C:Prop} {u v:Operand} {x y:Value} (h:wh ty t op p q=some (r,C)) (hC:C) (hx:VR M N U p x) (hy:VR M N U q y):
    ∃z,(do eqGuard op t u v x y;binOp op t x y:Sem Value).run P w= .ok z w∧VR M N U r z:=by
  unfold wh at h;split at h
  · cases hx with
    | iv _ _ hx=>cases hx with
      | v=>
        cases hy with
        | iv _ _ hy=>cases hy with
          | v=>
            split at h
            · rename_i hjk
              subst hjk;obtain⟨z,hz,hv⟩:=DI (P:=P) (M:=M) (N:=N) (U:=U) (w:=w) (t:=t) h hC;exact⟨z,by rw[Sem.run_bind,gL (by simp) (by simp)];exact hz,hv⟩
            · obtain⟨z,hz,hv⟩:=CS (P:=P) (M:=M) (N:=N) (U:=U) (w:=w) (t:=t) h
              exact⟨z,by rw[Sem.run_bind,gL (by simp) (by simp)];exact hz,hv⟩
  · cases hx with
    | iv _ _ hx=>cases hx with
      | v=>
        cases hy with
        | iv _ _ hy=>cases hy with
          | v=>
            obtain⟨z,hz,hv⟩:=CH (P:=P) (M:=M) (N:=N) (U:=U) (w:=w) (t:=t) h hC;exact⟨z,by rw[Sem.run_bind,gL (by simp) (by simp)];exact hz,hv⟩
  · split at h
    · cases hx with
      | iv _ _ hx=>cases hx with
        | v=>
          cases hy with
          | iv _ _ hy=>cases hy with
            |v=>exact ni hty h
    · cases hx with
      | iv _ _ hx=>cases hx with
        | v=>
          cases hy with
          |kb=>exact ni hty h
    · cases h
  · split at h
    · cases hx with
      | kb=>
        cases hy with
        | iv _ _ hy=>cases hy with
          |v=>exact ni hty h
    · cases hx with
      | kb=>
        cases hy with
        |kb=>exact ni hty h
    · cases h
  · cases h
theorem Dy {f:AF} {a:Act} (hf:FR M N U f a.tmps) (xs:Array Operand):(xs.toList.map (ev f)).length=(xs.map a.eval).size∧ ∀j p,(xs.toList.map (ev f))[j]? =some p→VR M N U p ((xs.map a.eval).getD j undef):=by
  refine⟨by simp,fun j p hp=>?_⟩;rw[Ww,Wx] at hp;obtain⟨x,hx,rfl⟩:=hp;have hx':xs[j]? =some x:=by simpa using hx
  rw[Wm,Yw,hx'];exact aS hf x
theorem pf {t:TypeId} {e:aB} (he:ad P t e) {k off:Nat} {u:TypeId} (hf:rG e k=some (off,u)): ∃(F:Array Field) (fd:Field),P.underlying t=some (.struct F)∧F[k]? =some fd∧fd.offset=off∧fd.type=u:=by
  unfold rG at hf
  cases hk:e.k with
  | aU fs=>
    simp only[hk] at hf;obtain⟨_,h2,_⟩:=he;rw[hk] at h2;obtain⟨F,h3,h4⟩:=h2;rw[←h4,Ww,Wx] at hf;obtain⟨fd,h5,h6⟩:=hf;simp only[WA] at h6
    exact⟨F,fd,h3,by simpa using h5,h6.1,h6.2⟩
  |_=>simp[hk] at hf
theorem Br {n:Nat} {p q:PV} {x:Value} (hx:VR M N U p x) (h:nZ n p=some q): ∃b o,x= .pointer (some ⟨b,o,none⟩)∧VR M N U q (.pointer (some ⟨b,o+n,none⟩)):=by
  cases hx with
  |ptr i off hU=>simp only[nZ,Wo] at h;subst h;exact⟨_,_,rfl, .ptr _ _ hU⟩
  |c4 i sz k off hU=>simp only[nZ,Wo] at h;subst h;exact⟨_,_,rfl,by rw[XZ];exact .c4 _ _ _ _ hU⟩
  | iv y _ hi=>
    cases hi with
    | jI cs b off hm hr=>
      simp only[nZ,Wo] at h;subst h;refine⟨b,off,rfl, .iv _ _ (.jI _ _ _ (fun j hj=>?_) (fun j p hp=>?_))⟩
      · rw[X8] at hj
        rw[XZ];exact hm (n+j) (by omega)
      · rw[Xx] at hp
        rw[XZ];exact hr (n+j) p hp
    |_=>simp[nZ] at h
  |_=>simp[nZ] at h
theorem nE {t u:TypeId} {eu:aB} (hu:P.underlying t=some (.slice u)) (heu:ad P u eu) {p q:PV} {k:IntKind} {n:Int} {C:Prop} {x:Value} (hx:VR M N U p x)
    (hsz:(∃m el,p= .iv (.cz eu.size m el))∨ ∃i off len,p= .sl i off len eu.size) (h:ji p n=some (q,C)) (hC:C): ∃y,(Instr.indexAt t x (.int k n)).run P w= .ok y w∧VR M N U q y:=by
  rcases hsz with⟨m,el,rfl⟩|⟨i,off,len,rfl⟩
  · simp only[ji,Wo,WA] at h
    obtain⟨rfl,rfl⟩:=h
    cases hx with
    | iv _ _ hi=>
      cases hi with
      |gp sz el a cap=>omega
      | cz sz m el b off cap hn hc hl hm hr=>
        refine⟨.pointer (some ⟨b,off+n.toNat*eu.size,none⟩),?_, .iv _ _ (.jI _ _ _ (fun j hj=>?_) (fun j p hp=>hr n.toNat j p (by omega) hp))⟩
        · simp only[Instr.indexAt,asIntOf]
          simp[run_underlying hu,hC.1,hC.2,bw heu,dZ]
        · rw[hl n.toNat (by omega)] at hj
          exact hm n.toNat j (by omega) hj
  · simp only[ji,Wo,WA] at h
    obtain⟨rfl,rfl⟩:=h
    cases hx with
    |lQ=>omega
    |sle=>omega
    | sl _ _ _ _ cap hU h0 hl hc he=>
      refine⟨.pointer (some ⟨N.aG i,(off+n.toNat)*eu.size+0,none⟩),?_, .c4 _ _ _ _ hU⟩;simp only[Instr.indexAt,asIntOf];simp[run_underlying hu,hC.1,hC.2,bw heu,dZ,Xw]
theorem Bc {t u:TypeId} {eu:aB} (hu:P.underlying t=some (.slice u)) (heu:ad P u eu) {m:Nat} {el:Nat→List IV} {ka kb:IntKind} {na nb:Int} {q:PV} {C:Prop} {x:Value} (hx:VR M N U (.iv (.cz eu.size m el)) x)
    (h:some (PV.iv (.cz eu.size (nb.toNat-na.toNat) (fun k=>el (na.toNat+k))),0≤na∧na≤nb∧nb≤m)=some (q,C)) (hC:C): ∃y,(Instr.sliceAt t x (some (.int ka na)) (some (.int kb nb)) none).run P w= .ok y w∧VR M N U q y:=by
  simp only[Wo,WA] at h;obtain⟨rfl,rfl⟩:=h;obtain⟨h0,h1,h2⟩:=hC;have hb:(nb.toNat:Int)=nb:=Zv (by omega)
  cases hx with
  | iv _ _ hi=>
    cases hi with
    | gp sz el a cap=>
      have ea:na=0:=by omega
      have eb:nb=0:=by omega
      subst ea;subst eb;refine⟨.slice (if cap=0 then a else a.map (·.add (0*eu.size))) 0 cap,?_, .iv _ _ (.gp _ _ _ _)⟩
      simp[Instr.sliceAt,Instr.slice,Instr.sliceBounds,Instr.sliceBound,asIntOf,run_underlying hu,bw heu]
    | cz sz m el b off cap hn hc hl hm hr=>
      refine⟨.slice (if cap=na.toNat then some ⟨b,off,none⟩ else(some (⟨b,off,none⟩:Addr)).map (·.add (na.toNat*eu.size))) (nb.toNat-na.toNat) (cap-na.toNat),?_,?_⟩
      · have g1:nb≤(cap:Int):=by omega
        have g2:na≤(nb.toNat:Int):=by omega
        simp[Instr.sliceAt,Instr.slice,Instr.sliceBounds,Instr.sliceBound,asIntOf,run_underlying hu,bw heu,h0,g1,(by omega:0≤nb)];intro hh;omega
      · by_cases hz:nb.toNat-na.toNat=0
        · rw[hz];exact .iv _ _ (.gp _ _ _ _)
        · rw[if_neg (by omega),Xy,dZ]
          refine .iv _ _ (IR.cz (sz:=eu.size) (n:=nb.toNat-na.toNat) (el:=fun k=>el (na.toNat+k)) (b:=b) (off:=off+na.toNat*eu.size) (cap:=cap-na.toNat) (by omega) (by omega) (fun k hk=>hl _ (by omega)) (fun k j hk hj=>?_) (fun k j p hk hp=>?_))
          · have:=hm (na.toNat+k) j (by omega) hj
            rwa[Xw,←XZ] at this
          · have:=hr (na.toNat+k) j p (by omega) hp
            rwa[Xw,←XZ] at this
theorem wI {t:TypeId} (hu:P.underlying t=some .string) {b:ByteArray} {ka kb:IntKind} {na nb:Int} (hC:0≤na∧na≤nb∧nb≤b.size):
    (Instr.sliceAt t (.string b) (some (.int ka na)) (some (.int kb nb)) none).run P w= .ok (.string (b.extract na.toNat nb.toNat)) w:=by
  obtain⟨h0,h1,h2⟩:=hC;have hb:(nb.toNat:Int)=nb:=Zv (by omega);have g2:na≤(nb.toNat:Int):=by omega
  simp[Instr.sliceAt,Instr.slice,Instr.sliceBounds,Instr.sliceBound,asIntOf,run_underlying hu,h0,h2,(by omega:0≤nb)];intro hh;omega
end
end Go.Al
namespace Go.Al
open Go.MapKept
section
variable {P:Program} {ty:Ty} {M:Mem} {N:Nm} {U:Nat→Prop} {w:World}
theorem mC {t:TypeId} {F:Array Field} (h:P.underlying t=some (.struct F)):P.fieldsOf t=F:=by
  simp[Program.fieldsOf,h]
theorem aM {t:TypeId} {F:Array Field} (h:P.underlying t=some (.struct F)) (h1:P.stoodInHeld t=false) (h2:P.eqGuardType P.depth t=false) (h3:(F.toList.all fun f=>f.name != "_")=true):Vm P t:=
  ⟨h1,h2,fun f hf=>by
    rw[mC h] at hf;have:=WX.1 h3 f hf
    simpa using this⟩
theorem Ay (hty:bE P ty) {f:TypeId→PV→PV→Option Bool} {D:Nat} (hf: ∀u p q b,f u p q=some b→ ∀x y,VR M N U p x→VR M N U q y→(Op.equalIn D u x y).run P w= .ok b w)
    {cs ds:List PV} {xs ys:Array Value} (hx:VR M N U (.agg cs) (.agg xs)) (hy:VR M N U (.agg ds) (.agg ys)):
    ∀(F:List Field) (b:Bool),(∀g∈F,g.name≠ "_")→BV f ty (F.map fun g=>(g.offset,g.type)) cs ds=some b→(Op.eqFields D xs ys F).run P w= .ok b w
  | [],b,_,h=>by simp only[Xd,BV,Wo] at h;subst h;simp[Op.eqFields]
  | g::F,b,hn,h=>by
    simp only[WI,BV] at h;split at h
    · rename_i eu heu
      split at h
      · rename_i p q hp hq
        split at h
        · rename_i b1 b2 h1 h2
          simp only[Wo] at h;subst h;obtain⟨_,hx0,hx1,hx2⟩:=hx.j1;cases hx0;obtain⟨_,hy0,hy1,hy2⟩:=hy.j1;cases hy0;obtain⟨x,hx3,hx4⟩:=gW (P:=P) (w:=w) (hty _ _ heu) hx1 hx2 hp;obtain⟨y,hy3,hy4⟩:=gW (P:=P) (w:=w) (hty _ _ heu) hy1 hy2 hq;have h3:=hf _ _ _ _ h1 x y hx4 hy4;have h4:=Ay hty hf hx hy F b2 (fun g hg=>hn g (WE _ hg)) h2;simp only[Op.eqFields,if_pos (hn g WM),Sem.run_bind,hx3,hy3,h3,Result.andThen_ok]
          cases b1 with
          |false=>simp
          |true=>simpa using h4
        · cases h
      · cases h
    · cases h
theorem zl (hty:bE P ty): ∀(d:Nat) (t:TypeId) (p q:PV) (b:Bool),BW ty d t p q=some b→ ∀x y,VR M N U p x→VR M N U q y→ ∀m,(Op.equalIn (d+m) t x y).run P w= .ok b w
  |0,_,_,_,_,h,_,_,_,_,_=>by simp[BW] at h
  | d+1,t,p,q,b,h,x,y,hx,hy,m=>by
    rw[show d+1+m=(d+m)+1 by omega];simp only[BW] at h;split at h
    · rename_i k _ _ _ _ he
      have hu:=(hty t _ he).2.1.1;split at h
      · split at h
        · simp only[Wo] at h
          subst h
          cases hx with
          | iv _ _ hx => cases hx
                         cases hy with
                         | iv _ _ hy => cases hy
                                        rename_i e;subst e;rw[run_equalIn_int _ _ _ _ _ _ _ hu];congr 1
        · cases h
      · cases h
    · rename_i _ _ _ _ he
      have hu:=(hty t _ he).2.1.1;split at h
      · simp only[Wo] at h
        subst h
        cases hx with
        | iv _ _ hx => cases hx
                       cases hy with
                       | iv _ _ hy => cases hy
                                      rw[run_equalIn_string _ _ _ _ _ hu,vl]
      · cases h
    · rename_i _ _ _ _ he
      have hu:=(hty t _ he).2.1.1;split at h
      · simp only[Wo] at h
        subst h
        cases hx with
        | iv _ _ hx => cases hx
                       cases hy with
                       |iv _ _ hy=>cases hy;rw[run_equalIn_bool' _ _ _ _ _ hu]
      · cases h
    · rename_i fs _ _ _ he
      obtain⟨_,⟨F,hu,hF⟩,hq⟩:=hty t _ he;obtain⟨hq1,hq2,hq3⟩:=hq rfl;split at h
      · obtain⟨xs,rfl,_,_⟩:=hx.j1
        obtain⟨ys,rfl,_,_⟩:=hy.j1;have hfo:=mC hu;rw[run_equalIn_struct _ _ _ _ _ (by rw[hfo];exact hu) hq1,hfo];rw[hfo] at hq3;refine Ay hty (f:=BW ty d) (fun u p q b hb x y hx hy=>zl hty d u p q b hb x y hx hy m) hx hy _ _ hq3 ?_;rw[hF];exact h
      · cases h
    · cases h
theorem EH (hty:bE P ty) {t:TypeId} {op:BinOp} {cs ds:List PV} {r:PV} {C:Prop} {u v:Operand} {x y:Value} (h:AV ty t op (.agg cs) (.agg ds)=some (r,C)) (hx:VR M N U (.agg cs) x) (hy:VR M N U (.agg ds) y):
    C∧ ∃z,(do eqGuard op t u v x y;binOp op t x y:Sem Value).run P w= .ok z w∧VR M N U r z:=by
  have key: ∀b,BW ty 10 t (.agg cs) (.agg ds)=some b→ ∃xs ys,x= .agg xs∧y= .agg ys∧P.eqGuardType P.depth t=false∧(Op.equalIn 10000 t (.agg xs) (.agg ys)).run P w= .ok b w:=by
    intro b hb;have h1:=zl (P:=P) (w:=w) hty 10 t _ _ b hb x y hx hy 9990;obtain⟨xs,rfl,_,_⟩:=hx.j1;obtain⟨ys,rfl,_,_⟩:=hy.j1;refine⟨xs,ys,rfl,rfl,?_,h1⟩;simp only[BW] at hb;split at hb
    · cases hb
    · cases hb
    · cases hb
    · rename_i he
      exact((hty t _ he).2.2 rfl).2.1
    · cases hb
  unfold AV at h;split at h
  · split at h
    · rename_i b hb
      simp only[Wo,WA] at h;obtain⟨rfl,rfl⟩:=h;obtain⟨xs,ys,rfl,rfl,h1,h2⟩:=key b hb;refine⟨trivial, .bool b,?_, .iv _ _ (.v _)⟩;rw[Sem.run_bind,run_eqGuard_agg _ _ _ _ _ _ _ h1,Result.andThen_ok,run_eql_struct,h2];rfl
    · cases h
  · split at h
    · rename_i b hb
      simp only[Wo,WA] at h;obtain⟨rfl,rfl⟩:=h;obtain⟨xs,ys,rfl,rfl,h1,h2⟩:=key b hb;refine⟨trivial, .bool (!b),?_, .iv _ _ (.v _)⟩;rw[Sem.run_bind,run_eqGuard_agg _ _ _ _ _ _ _ h1,Result.andThen_ok,run_neq_struct,h2];rfl
    · cases h
  · cases h
theorem zY (kc:KC) (k:kc.K):VR M N U (kc.pk k) (kc.ek k):=by
  cases kc with
  |str=>exact .iv _ _ (.v _)
  |int k=>exact .iv _ _ (.v _)
  | si j=>
    refine .agg _ _ (by rfl) fun i p hp=>?_
    match i with
    |0=>simp at hp;subst hp;exact .iv _ _ (.v _)
    |1=>simp at hp;subst hp;exact .iv _ _ (.v _)
    |i+2=>simp at hp
theorem Eg {kc:KC} {p:PV} {k:kc.K} {x:Value} (h:kc.dk p=some k) (hx:VR M N U p x):x=kc.ek k:=by
  cases kc with
  | str=>
    simp only[KC.dk] at h;split at h
    · simp only[Wo] at h
      subst h
      cases hx with
      |iv _ _ hx=>cases hx;rfl
    · cases h
  | int j=>
    simp only[KC.dk] at h;split at h
    · split at h
      · rename_i e
        subst e;simp only[Wo] at h;subst h
        cases hx with
        |iv _ _ hx=>cases hx;rfl
      · cases h
    · cases h
  | si j=>
    simp only[KC.dk] at h;split at h
    · split at h
      · rename_i e
        subst e;simp only[Wo] at h;subst h;obtain⟨ys,rfl,h1,h2⟩:=hx.j1;have g0:=h2 0 _ rfl;have g1:=h2 1 _ rfl;obtain⟨ys⟩:=ys
        match ys,h1 with
        | [a,b],_=>
          simp at g0 g1
          cases g0 with
          | iv _ _ g0=>
            cases g1 with
            |iv _ _ g1=>cases g0;cases g1;rfl
      · cases h
    · cases h
theorem qK {kt:TypeId} (hty:bE P ty) (h:eA ty kt=some .str):P.underlying kt=some .string:=by
  unfold eA at h;split at h
  · rename_i he;exact(hty _ _ he).2.1.1
  · cases h
  · split at h<;>cases h
  · cases h
theorem qL {kt:TypeId} {k:IntKind} (hty:bE P ty) (h:eA ty kt=some (.int k)):P.underlying kt=some (.int k):=by
  unfold eA at h;split at h
  · cases h
  · rename_i he;simp only[Wo,KC.int.injEq] at h;subst h;exact(hty _ _ he).2.1.1
  · split at h<;>cases h
  · cases h
theorem xZ {kc:KC} {kt:TypeId} (hty:bE P ty) (h:eA ty kt=some kc) (a b:kc.K):(Op.equal kt (kc.ek a) (kc.ek b)).run P w= .ok (decide (a=b)) w:=by
  have key: ∀(r:Bool),BW ty 10 kt (kc.pk a) (kc.pk b)=some r→(Op.equal kt (kc.ek a) (kc.ek b)).run P w= .ok r w:=fun r hr=>
    zl (M:=Mem.base) (N:=⟨fun _=>0,fun _=>0⟩) (U:=fun _=>True) hty 10 kt _ _ r hr _ _ (zY kc a) (zY kc b) 9990
  unfold eA at h;split at h
  · rename_i he
    simp only[Wo] at h;subst h;refine key _ ?_;simp[BW,he,KC.pk]
  · rename_i he
    simp only[Wo] at h;subst h;refine key _ ?_;simp[BW,he,KC.pk]
  · rename_i he
    split at h
    · rename_i ha hb
      simp only[Wo] at h;subst h;refine key _ ?_;obtain⟨a1,a2⟩:=a;obtain⟨b1,b2⟩:=b;simp[BW,BV,he,ha,hb,KC.pk,gz,TK.agg,jj]
    · cases h
  · cases h
def iw (kc:KC) {V:Type}:List (kc.K×V)→kc.K→Option Nat
  | [],_=>none
  |(a,_)::r,k=>if a=k then some 0 else(iw kc r k).map (· +1)
section
variable {kc:KC} {V:Type}
theorem iM: ∀{m:List (kc.K×V)} {k:kc.K} {i:Nat},iw kc m k=some i→ ∃v,m[i]? =some (k,v)∧(∀z,bG kc m k z=v)∧eO kc m k=true∧(∀v',bS kc m k v'=m.set i (k,v'))∧lT kc m k=m.eraseIdx i
  | [],_,_,h=>by simp[iw] at h
  | (a,b)::r,k,i,h=>by
    simp only[iw] at h;split at h
    · rename_i e
      simp only[Wo] at h;subst h;subst e;exact⟨b,rfl,fun z=>by simp[bG],by simp[eO],fun v'=>by simp[bS],by simp[lT]⟩
    · rename_i e
      obtain⟨j,hj,rfl⟩:=Wx.1 h;obtain⟨v,h1,h2,h3,h4,h5⟩:=iM hj;exact⟨v,by simpa using h1,fun z=>by simp[bG,e,h2],by simp[eO,e,h3],fun v'=>by simp[bS,e,h4],by simp[lT,e,h5]⟩
theorem iN: ∀{m:List (kc.K×V)} {k:kc.K},iw kc m k=none→(∀z,bG kc m k z=z)∧eO kc m k=false∧(∀v',bS kc m k v'=m++ [(k,v')])∧lT kc m k=m
  | [],_,_=>⟨fun z=>rfl,rfl,fun v=>rfl,rfl⟩
  | (a,b)::r,k,h=>by
    simp only[iw] at h;split at h
    · cases h
    · rename_i e
      obtain⟨h2,h3,h4,h5⟩:=iN (Yh.1 h);exact⟨fun z=>by simp[bG,e,h2],by simp[eO,e,h3],fun v'=>by simp[bS,e,h4],by simp[lT,e,h5]⟩
def tz (kc:KC) {V:Type}:List MapEntry→List (kc.K×V)→Prop
  | [],[]=>True
  |e::r,x::m=>e.key=kc.ek x.1∧tz kc r m
  |_,_=>False
theorem xF: ∀{es:List MapEntry} {m:List (kc.K×V)},es.length=m.length→(∀(j:Nat) (x:kc.K×V),m[j]? =some x→(es.getD j default).key=kc.ek x.1)→tz kc es m
  | [],[],_,_=>trivial
  |e::r,x::m,hl,h=>⟨by simpa using h 0 x rfl,xF (by simpa using hl) fun j x hj=>by simpa using h (j+1) x (by simpa using hj)⟩
  | [],_::_,hl,_=>by simp at hl
  |_::_,[],hl,_=>by simp at hl
theorem qP: ∀{es:List MapEntry} {m:List ((KC.str).K×V)} {k:ByteArray} (i:Nat),tz .str es m→Instr.findNow .string (.string k) es i=some ((iw .str m k).map fun j=>(i+j,(es.getD j default).val))
  | [],[],_,_,_=>rfl
  | e::r,(a,b)::m,k,i,h=>by
    obtain⟨h1,h2⟩:=h;simp only[KC.ek] at h1;simp only[Instr.findNow,h1,Instr.sameNow,iw];rw[beq_toListBytes,vl];by_cases hk:a=k
    · subst hk;simp
    · have hb:decide (k=a)=false:=by simpa using fun e=>hk e.symm
      rw[hb,if_neg hk,qP (i+1) h2];simp only[Zr,Wo];congr 1
      funext j
      simp;omega
  | [],_::_,_,_,h=>h.elim
  |_::_,[],_,_,h=>h.elim
theorem qQ {q:IntKind}: ∀{es:List MapEntry} {m:List ((KC.int q).K×V)} {k:Int} (i:Nat),tz (.int q) es m→Instr.findNow (.int q) (.int q k) es i=some ((iw (.int q) m k).map fun j=>(i+j,(es.getD j default).val))
  | [],[],_,_,_=>rfl
  | e::r,(a,b)::m,k,i,h=>by
    obtain⟨h1,h2⟩:=h;simp only[KC.ek] at h1;simp only[Instr.findNow,h1,Instr.sameNow,iw,if_true];by_cases hk:a=k
    · subst hk;simp
    · have: ¬k=a:=fun e=>hk e.symm
      have hb:(k==a)=false:=by simpa using this
      rw[hb,if_neg hk,qQ (i+1) h2];simp only[Zr,Wo];congr 1
      funext j
      simp;omega
  | [],_::_,_,_,h=>h.elim
  |_::_,[],_,_,h=>h.elim
theorem nH {kt:TypeId} (hty:bE P ty) (hk:eA ty kt=some kc): ∀{es:List MapEntry} {m:List (kc.K×V)} {k:kc.K} (i:Nat),tz kc es m→
    (Instr.findAsking kt (kc.ek k) es i).run P w= .ok ((iw kc m k).map fun j=>(i+j,(es.getD j default).val)) w
  | [],[],_,_,_=>by simp[Instr.findAsking,iw]
  | e::r,(a,b)::m,k,i,h=>by
    obtain⟨h1,h2⟩:=h;simp only[Instr.findAsking,h1,Sem.run_bind,xZ (P:=P) (w:=w) hty hk,Result.andThen_ok,iw];by_cases hka:a=k
    · subst hka;simp
    · have: ¬k=a:=fun e=>hka e.symm
      rw[if_neg hka];simp only[this,decide_false,Yl,if_false,nH hty hk (i+1) h2,Zr];congr 2
      funext j
      simp;omega
  | [],_::_,_,_,h=>h.elim
  |_::_,[],_,_,h=>h.elim
theorem og {kt:TypeId} (hty:bE P ty) (hk:eA ty kt=some kc) {es:List MapEntry} {m:List (kc.K×V)} (k:kc.K) (h:tz kc es m):
    (Instr.findKey kt (kc.ek k) es).run P w= .ok ((iw kc m k).map fun j=>(j,(es.getD j default).val)) w:=by
  have hu: ∃d,P.underlying kt=some d:=by
    unfold eA at hk;split at hk
    · rename_i he;exact⟨_,(hty _ _ he).2.1.1⟩
    · rename_i he;exact⟨_,(hty _ _ he).2.1.1⟩
    · rename_i he;obtain⟨F,h1,_⟩:=(hty _ _ he).2.1;exact⟨_,h1⟩
    · cases hk
  obtain⟨d,hd⟩:=hu;unfold Instr.findKey;rw[Sem.run_bind,run_underlying hd,Result.andThen_ok];have hask:=nH (P:=P) (w:=w) hty hk (k:=k) 0 h;simp only[WQ] at hask
  cases kc with
  | str=>
    have:=qK hty hk;rw[hd] at this;cases this;simp only[KC.ek,qP 0 h,WQ]
    rfl
  | int q=>
    have:=qL hty hk;rw[hd] at this;cases this;simp only[KC.ek,qQ 0 h,WQ]
    rfl
  | si q=>
    cases es with
    | nil=>
      cases m with
      |nil=>simp[Instr.findNow,iw]
      |cons=>exact h.elim
    | cons e r=>
      have hn:Instr.findNow d (KC.ek (.si q) k) (e::r) 0=none:=by
        simp only[Instr.findNow,KC.ek];have:Instr.sameNow d (.agg #[.string k.1, .int q k.2]) e.key=none:=by cases d<;>rfl
        rw[this]
      rw[hn];exact hask
theorem iG.keys {V:Type} {e:V→IV} {m:List (kc.K×V)} {ents:Array MapEntry} {clock:Nat} (h:iG M kc e m ents clock):tz kc ents.toList m:=
  xF (by simpa using h.size) fun j x hj=>by
    have:=h.key j x hj;rwa[Wm,←Xh,←Ws] at this
theorem iG.Vu {V:Type} {e:V→IV} {m:List (kc.K×V)} {ents:Array MapEntry} {clock:Nat} (h:iG M kc e m ents clock) {j:Nat} {x:kc.K×V} (hj:m[j]? =some x):IR M (e x.2) (ents.toList.getD j default).val:=by
  have:=h.val j x hj;rwa[Wm,←Xh,←Ws] at this
theorem zX {i:IV} {x:Value} (h:IR M i x):VR M N U i.pv x:=by
  cases h with
  | agg cs ys hl hr=>
    refine .agg _ _ (by simpa using hl) fun j p hp=>?_;rw[Ww,Wx] at hp;obtain⟨q,hq,rfl⟩:=hp
    exact .iv _ _ (hr j q hq)
  |v x=>exact .iv _ _ (.v x)
  |gp=>exact .iv _ _ (.gp _ _ _ _)
  |cz _ _ _ _ _ _ h1 h2 h3 h4 h5=>exact .iv _ _ (.cz _ _ _ _ _ _ h1 h2 h3 h4 h5)
  |jI _ _ _ h1 h2=>exact .iv _ _ (.jI _ _ _ h1 h2)
  |dK _ _ _ _ _ _ _ _ h1 h2 h3 h4 h5 h6 h7=>exact .iv _ _ (.dK _ _ _ _ _ _ _ _ h1 h2 h3 h4 h5 h6 h7)
theorem mo {kt:TypeId} (hty:bE P ty) (hk:eA ty kt=some kc) (k:kc.K) (b:Bool) (n:Nat):(Instr.checkKey b (n+2) kt (kc.ek k)).run P w= .ok () w:=by
  cases kc with
  |str=>exact run_checkKey (qK hty hk) (by simp[KC.ek,IsKey]) _ _
  |int q=>exact run_checkKey (qL hty hk) (by simp[KC.ek,IsKey]) _ _
  | si q=>
    unfold eA at hk;split at hk
    · cases hk
    · cases hk
    · rename_i a c _ _ _ he
      split at hk
      · rename_i _ _ _ _ q' _ _ _ ha hc
        simp only[Wo,KC.si.injEq] at hk;have hk':q'=q:=hk;subst hk';obtain⟨F,h1,h2⟩:=(hty _ _ he).2.1;have hq:=((hty _ _ he).2.2 rfl).2.2;rw[mC h1] at hq;have hxa:=(hty _ _ ha).2.1.1;have hxc:=(hty _ _ hc).2.1.1
        have hpa:(part a #[.string k.1, .int q' k.2] 0).run P w= .ok (.string k.1) w:=by
          have:=gW (P:=P) (w:=w) (M:=Mem.base) (N:=⟨fun _=>0,fun _=>0⟩) (U:=fun _=>True) (off:=0) (cs:=[.iv (.v (.string k.1)), .iv (.v (.int q' k.2))]) (ys:= #[.string k.1, .int q' k.2]) (hty _ _ ha) rfl
            (fun j p hp=>by match j with
              |0=>simp at hp;subst hp;exact .iv _ _ (.v _)
              |1=>simp at hp;subst hp;exact .iv _ _ (.v _)
              |j+2=>simp at hp) (p:= .iv (.v (.string k.1))) (by simp[gz,TK.agg,jj])
          obtain⟨y,hy,hv⟩:=this
          cases hv with
          |iv _ _ hv=>cases hv;exact hy
        have hpc:(part c #[.string k.1, .int q' k.2] 1).run P w= .ok (.int q' k.2) w:=by
          have:=gW (P:=P) (w:=w) (M:=Mem.base) (N:=⟨fun _=>0,fun _=>0⟩) (U:=fun _=>True) (off:=1) (cs:=[.iv (.v (.string k.1)), .iv (.v (.int q' k.2))]) (ys:= #[.string k.1, .int q' k.2]) (hty _ _ hc) rfl
            (fun j p hp=>by match j with
              |0=>simp at hp;subst hp;exact .iv _ _ (.v _)
              |1=>simp at hp;subst hp;exact .iv _ _ (.v _)
              |j+2=>simp at hp) (p:= .iv (.v (.int q' k.2))) (by simp[gz,TK.agg,jj])
          obtain⟨y,hy,hv⟩:=this
          cases hv with
          |iv _ _ hv=>cases hv;exact hy
        obtain⟨F⟩:=F
        match F,h2,hq with
        | [],h2,_=>simp at h2
        | [_],h2,_=>simp at h2
        |_::_::_::_,h2,_=>simp at h2
        | [f,g],h2,hq=>
          simp at h2;obtain⟨⟨h3,h4⟩,h5,h6⟩:=h2;have hf:=hq f (by simp);have hg:=hq g (by simp);have ca:=run_checkKey (w:=w) hxa (k:= .string k.1) (by simp[IsKey]) b n;have cc:=run_checkKey (w:=w) hxc (k:= .int q' k.2) (by simp[IsKey]) b n;unfold Instr.checkKey;simp[KC.ek,run_underlying h1,hf,hg,h3,h4,h5,h6,hpa,hpc,ca,cc]
      · cases hk
    · cases hk
theorem wz {a b:Value} (h:zE a b=true):a=b:=by
  unfold zE at h;split at h<;>simp_all
theorem wy: ∀{a b:List Value},ua a b=true→a=b
  | [],[],_=>rfl
  | x::r,y::q,h=>by
    simp only[ua,WN] at h
    rw[wz h.1,wy h.2]
  | [],_::_,h=>by simp[ua] at h
  |_::_,[],h=>by simp[ua] at h
theorem ES {a b:Value} (h:PQ a b=true):a=b:=by
  unfold PQ at h;split at h
  · have:=wy h
    congr 1;exact ZB.1 this
  · exact wz h
theorem xz (hty:bE P ty) {t:TypeId} {ok:Bool} {V:Type} {e:V→IV} {z:V} {zv:Value} {m:List (kc.K×V)} {key p:PV} {C:Prop} (h:sH ty t ok kc e z zv m key=some (p,C)) {r:Nat} {ents:Array MapEntry} {clock:Nat}
    (hb:w.heap[r]? =some (.map ents clock)) (hm:iG M kc e m ents clock) (hz:IR M (e z) zv) {k:Value} (hk:VR M N U key k):
    C∧ ∃x,(Instr.lookup t (.map (some r)) k ok).run P w= .ok x w∧VR M N U p x:=by
  unfold sH at h;split at h
  · rename_i kt et _ _ _ _ he
    have hu:=(hty _ _ he).2.1.1;split at h
    · rename_i kc' ee hkk hee
      split at h
      · rename_i k0 hd hv hdk
        have hd:=of_decide_eq_true hd;subst hd;have hkx:=Eg hdk hk;subst hkx;have hv:=ES hv;have hfk:=og (P:=P) (w:=w) hty hkk k0 hm.keys;have hck:=mo (P:=P) (w:=w) hty hkk k0 ents.isEmpty 9998;have hzr:=cX (P:=P) (w:=w) (hty _ _ hee);have hg:(getObj r).run P w= .ok (.map ents clock) w:=by simp[getObj,Sem.run,hb]
        have hrun: ∃v bo,(Instr.lookup t (.map (some r)) (kc'.ek k0) ok).run P w= .ok (if ok then .tuple #[v, .bool bo] else v) w∧bo=eO kc' m k0∧IR M (e (bG kc' m k0 z)) v:=by
          cases hfi:iw kc' m k0 with
          | none=>
            obtain⟨g1,g2,_⟩:=iN hfi;rw[hfi] at hfk;refine⟨ee.zero,false,?_,by rw[g2],by rw[g1,hv];exact hz⟩
            simp[Instr.lookup,run_underlying hu,hg,hck,hfk,hzr]
          | some i=>
            obtain⟨v,g0,g1,g2,_⟩:=iM hfi;rw[hfi] at hfk;refine⟨(ents.toList.getD i default).val,true,?_,by rw[g2],by rw[g1];exact hm.Vu g0⟩;simp[Instr.lookup,run_underlying hu,hg,hck,hfk]
        obtain⟨v,bo,h1,h2,h3⟩:=hrun;split at h
        · simp only[Wo,WA] at h
          obtain⟨rfl,rfl⟩:=h;refine⟨trivial,_,h1, .bP _ _ rfl fun j q hq=>?_⟩
          match j with
          |0=>simp at hq;subst hq;exact zX h3
          |1=>simp at hq;subst hq;subst h2;exact .iv _ _ (.v _)
          |j+2=>simp at hq
        · simp only[Wo,WA] at h
          obtain⟨rfl,rfl⟩:=h;exact⟨trivial,_,h1,zX h3⟩
      · cases h
    · cases h
  · cases h
end
end
end Go.Al
namespace Go.Al
section
variable {P:Program} {ty:Ty} {M:Mem} {N:Nm} {w:World} {nt:Nat} {s:AS} {a:Act}
theorem bc {x:Value} {m:Sem Value} (h:m.run P w= .ok x w):(do pure (.value (←m)):Sem Next).run P w= .ok (.value x) w:=by
  rw[Sem.run_bind,h];rfl
theorem sb (hty:bE P ty) (hf:Fits M N s nt a w) {o:Oper} {p:PV} {C:Prop} (h:il ty s o.op=some (p,C)) (hC:C):
    ∃x,(execOp a.eval o).run P w= .ok (.value x) w∧VR M N (· <s.nx) p x:=by
  obtain⟨hrel,hfr,_,_⟩:=hf
  cases ho:o.op with
  | move x=>
    rw[ho] at h;simp only[il,Wo,WA] at h;obtain⟨rfl,rfl⟩:=h
    exact⟨_,by simp only[execOp,ho];rfl,aS hfr x⟩
  | assign x=>
    rw[ho] at h;simp only[il,Wo,WA] at h;obtain⟨rfl,rfl⟩:=h
    exact⟨_,by simp only[execOp,ho];rfl,aS hfr x⟩
  | pick c x y=>
    rw[ho] at h;simp only[il] at h;have hc:=aS hfr c;split at h
    · rename_i he
      rw[he] at hc;simp only[Wo,WA] at h;obtain⟨rfl,rfl⟩:=h;generalize hv:a.eval c=v at hc
      cases hc with
      |kb=>exact⟨_,by simp only[execOp,ho,hv];simp[asBool],aS hfr x⟩
    · rename_i he
      rw[he] at hc;simp only[Wo,WA] at h;obtain⟨rfl,rfl⟩:=h;generalize hv:a.eval c=v at hc
      cases hc with
      |kb=>exact⟨_,by simp only[execOp,ho,hv];simp[asBool],aS hfr y⟩
    · cases h
  | load t x=>
    rw[ho] at h;simp only[il] at h;split at h
    · rename_i e he
      split at h
      · rename_i cs hb
        split at h
        · rename_i q hq
          simp only[Wo,WA] at h;obtain⟨rfl,rfl⟩:=h;obtain⟨b,off,hx,hcell⟩:=u7 hrel (aS hfr x) hb;obtain⟨y,hy,hv⟩:=qC (P:=P) (hty t e he) hcell hq;exact⟨y,by simp only[execOp,ho];exact bc (by rw[hx];simpa[Instr.loadAt,Instr.sureAddr] using hy),hv⟩
        · cases h
      · cases h
    · cases h
  | nilCheck x=>
    rw[ho] at h;simp only[il] at h;have hx:=aS hfr x;split at h
    all_goals first
      |cases h;done
      | (rename_i he
         simp only[Wo,WA] at h;obtain⟨rfl,rfl⟩:=h;rw[he] at hx;refine⟨_,?_,hx⟩;generalize hv:a.eval x=v at hx
         first
         |(cases hx;simp only[execOp,ho,hv];rfl)
         | (cases hx with
            |iv _ _ hx=>cases hx;simp only[execOp,ho,hv];rfl))
  | binOp op t x y t'=>
    rw[ho] at h;simp only[il] at h;split at h
    · rename_i cs ds hcs hds
      have h1:=aS hfr x;have h2:=aS hfr y;rw[hcs] at h1;rw[hds] at h2;obtain⟨_,z,hz,hv⟩:=EH (P:=P) (w:=w) hty (u:=x) (v:=y) h h1 h2;exact⟨z,by simp only[execOp,ho];exact bc hz,hv⟩
    · obtain⟨z,hz,hv⟩:=Ca (P:=P) (w:=w) hty (u:=x) (v:=y) h hC (aS hfr x) (aS hfr y)
      exact⟨z,by simp only[execOp,ho];exact bc hz,hv⟩
  | unOp op t x=>
    rw[ho] at h
    cases op with
    | not=>
      simp only[il] at h;have hx:=aS hfr x;split at h
      · rename_i he
        simp only[Wo,WA] at h;obtain⟨rfl,rfl⟩:=h;rw[he] at hx;generalize hv:a.eval x=v at hx
        cases hx with
        |kb=>exact⟨_,by simp only[execOp,ho,hv];exact bc rfl, .kb _⟩
      · rename_i he
        simp only[Wo,WA] at h;obtain⟨rfl,rfl⟩:=h;rw[he] at hx;generalize hv:a.eval x=v at hx
        cases hx with
        |kb=>exact⟨_,by simp only[execOp,ho,hv];exact bc rfl, .kb _⟩
      · rename_i he
        simp only[Wo,WA] at h;obtain⟨rfl,rfl⟩:=h;rw[he] at hx
        cases hx with
        | iv _ _ hx=>generalize hv:a.eval x=v at hx;cases hx with
          |v=>exact⟨_,by simp only[execOp,ho,hv];exact bc rfl, .iv _ _ (.v _)⟩
      · cases h
    |_=>simp[il] at h
  | fieldAddr t x k=>
    rw[ho] at h;simp only[il] at h;split at h
    · rename_i e he
      split at h
      · rename_i off u hfo
        split at h
        · rename_i eu heu
          split at h
          · cases h
          · rename_i n hn
            split at h
            · rename_i q hq
              simp only[Wo,WA] at h;obtain⟨rfl,rfl⟩:=h;obtain⟨F,fd,h1,h2,rfl,rfl⟩:=pf (hty t e he) hfo;obtain⟨b,o',hx,hv⟩:=Br (aS hfr x) hq;refine⟨_,?_,hv⟩;simp only[execOp,ho,hx];refine bc ?_;have hs:=bw (w:=w) (hty _ _ heu);simp[Instr.fieldAt,run_underlying h1,h2,Instr.sureAddr,fieldPlace,hs,hn,dZ]
            · cases h
        · cases h
      · cases h
    · cases h
  | field t x k=>
    rw[ho] at h;simp only[il] at h;split at h
    · rename_i e he
      split at h
      · rename_i off u hfo
        split at h
        · rename_i eu heu
          split at h
          · rename_i cs hcs
            split at h
            · rename_i q hq
              simp only[Wo,WA] at h;obtain⟨rfl,rfl⟩:=h;obtain⟨F,fd,h1,h2,rfl,rfl⟩:=pf (hty t e he) hfo;have hx:=aS hfr x;rw[hcs] at hx;generalize hv:a.eval x=v at hx
              cases hx with
              | agg _ ys hl hr=>
                obtain⟨y,hy,hvy⟩:=gW (P:=P) (w:=w) (hty _ _ heu) hl hr hq;refine⟨y,?_,hvy⟩;simp only[execOp,ho,hv];refine bc ?_;simp[Instr.field,run_underlying h1,h2,asAgg,hy]
            · cases h
          · cases h
        · cases h
      · cases h
    · cases h
  | indexAddr t x i=>
    rw[ho] at h;simp only[il] at h;split at h
    · rename_i u sz by_ z _ he
      have hu:P.underlying t=some (.slice u):=(hty t _ he).2.1.1;split at h
      · rename_i eu heu
        split at h
        · rename_i k n hn
          have hi:=aS hfr i;rw[hn] at hi
          have hi':a.eval i= .int k n:=by
            generalize a.eval i=v at hi
            cases hi with
            | iv _ _ hi=>cases hi with
              |v=>rfl
          split at h
          · rename_i sz' m el hx
            cases hb:WO sz' eu.size with
            |false=>simp only[hb,cond_false] at h;cases h
            | true=>
              simp only[hb,cond_true] at h;have hs:=WK hb;subst hs;have hxx:=aS hfr x;rw[hx] at hxx;obtain⟨y,hy,hv⟩:=nE (P:=P) (k:=k) hu (hty _ _ heu) hxx (.inl ⟨m,el,rfl⟩) h hC;exact⟨y,by simp only[execOp,ho,hi'];exact bc hy,hv⟩
          · rename_i j off len sz' hx
            cases hb:WO sz' eu.size with
            |false=>simp only[hb,cond_false] at h;cases h
            | true=>
              simp only[hb,cond_true] at h;have hs:=WK hb;subst hs;have hxx:=aS hfr x;rw[hx] at hxx;obtain⟨y,hy,hv⟩:=nE (P:=P) (k:=k) hu (hty _ _ heu) hxx (.inr ⟨j,off,len,rfl⟩) h hC;exact⟨y,by simp only[execOp,ho,hi'];exact bc hy,hv⟩
          · cases h
        · cases h
      · cases h
    · rename_i len u sz by_ z _ he
      have hu:P.underlying t=some (.array len u):=(hty t _ he).2.1;split at h
      · rename_i eu heu
        split at h
        · rename_i k n hn
          have hi:=aS hfr i;rw[hn] at hi
          have hi':a.eval i= .int k n:=by
            generalize a.eval i=v at hi
            cases hi with
            | iv _ _ hi=>cases hi with
              |v=>rfl
          split at h
          · rename_i j off hx
            simp only[Wo,WA] at h;obtain⟨rfl,rfl⟩:=h;have hxx:=aS hfr x;rw[hx] at hxx;generalize hv:a.eval x=v at hxx
            cases hxx with
            | ptr _ _ hU=>
              refine⟨.pointer (some ⟨N.aG j,off+n.toNat*eu.size,none⟩),?_, .ptr _ _ hU⟩;simp only[execOp,ho,hi',hv];refine bc ?_;simp only[Instr.indexAt,asIntOf];simp[run_underlying hu,hC.1,hC.2,bw (hty _ _ heu),dZ,Instr.sureAddr]
          · cases h
        · cases h
      · cases h
    · cases h
  | slice t x lo hi mx=>
    rw[ho] at h
    have hint: ∀(o:Operand) (k:IntKind) (n:Int),ev s.f o= .iv (.v (.int k n))→a.eval o= .int k n:=fun o k n he=>by
      have hi:=aS hfr o;rw[he] at hi;generalize a.eval o=v at hi
      cases hi with
      | iv _ _ hi=>cases hi with
        |v=>rfl
    cases lo with
    |none=>simp only[il] at h;cases h
    |some lo=>
    cases hi with
    |none=>simp only[il] at h;cases h
    |some hi=>
    cases mx with
    |some mx=>simp only[il] at h;cases h
    |none=>
    simp only[il] at h;split at h
    · rename_i u sz by_ z _ he
      have hu:P.underlying t=some (.slice u):=(hty t _ he).2.1.1;split at h
      · rename_i eu heu
        split at h
        · rename_i ka na hna
          split at h
          · rename_i kb nb hnb
            split at h
            · rename_i sz' m el hx
              cases hb:WO sz' eu.size with
              |false=>simp only[hb,cond_false] at h;cases h
              | true=>
                simp only[hb,cond_true] at h;have hs:=WK hb;subst hs;have hxx:=aS hfr x;rw[hx] at hxx;have hla:=hint lo _ _ hna;have hlb:=hint hi _ _ hnb;obtain⟨y,hy,hv⟩:=Bc (P:=P) (w:=w) (M:=M) (N:=N) (U:=(· <s.nx)) (ka:=ka) (kb:=kb) (na:=na) (nb:=nb) hu (hty _ _ heu) hxx h hC;exact⟨y,by simp only[execOp,ho,hla,hlb,Xy,YN];exact bc hy,hv⟩
            · cases h
          · cases h
        · cases h
      · cases h
    · rename_i sz by_ z _ he
      have hu:P.underlying t=some .string:=(hty t _ he).2.1.1;split at h
      · rename_i ka na hna
        split at h
        · rename_i kb nb hnb
          split at h
          · rename_i b hx
            simp only[Wo,WA] at h;obtain⟨rfl,rfl⟩:=h;have hxx:=aS hfr x;rw[hx] at hxx
            have hx':a.eval x= .string b:=by
              generalize a.eval x=v at hxx
              cases hxx with
              | iv _ _ hi=>cases hi with
                |v=>rfl
            have hla:=hint lo _ _ hna;have hlb:=hint hi _ _ hnb;refine⟨.string (b.extract na.toNat nb.toNat),?_, .iv _ _ (.v _)⟩;simp only[execOp,ho,hla,hlb,hx',Xy,YN];exact bc (wI hu hC)
          · cases h
        · cases h
      · cases h
    · cases h
  | index t x i=>
    rw[ho] at h;simp only[il] at h;split at h
    · rename_i sz by_ z _ he
      have hu:P.underlying t=some .string:=(hty t _ he).2.1.1;split at h
      · rename_i k n hn
        split at h
        · rename_i b hx
          simp only[Wo,WA] at h;obtain⟨rfl,rfl⟩:=h;have hi:=aS hfr i;rw[hn] at hi
          have hi':a.eval i= .int k n:=by
            generalize a.eval i=v at hi
            cases hi with
            | iv _ _ hi=>cases hi with
              |v=>rfl
          have hxx:=aS hfr x;rw[hx] at hxx
          have hx':a.eval x= .string b:=by
            generalize a.eval x=v at hxx
            cases hxx with
            | iv _ _ hi=>cases hi with
              |v=>rfl
          refine⟨_,?_, .iv _ _ (.v _)⟩;simp only[execOp,ho,hi',hx'];refine bc ?_;have hlt:n.toNat<b.size:=by omega
          have hg:b[n.toNat]? =some (b.data.toList.getD n.toNat 0):=by
            rw[getElem?_pos b n.toNat hlt];have h0:n.toNat<b.data.size:=hlt
            have h1:b.data.toList.getD n.toNat 0=b.data[n.toNat]:=by
              rw[Ws,Xh,Xa h0];rfl
            rw[h1];rfl
          simp only[Instr.index,asIntOf];simp[run_underlying hu,hC.1,hg]
        · cases h
      · cases h
    · cases h
  | build t parts=>
    rw[ho] at h;simp only[il] at h;split at h
    · rename_i e he
      split at h
      · rename_i fs hk
        split at h
        · rename_i pl hpl
          split at h
          · rename_i cs hcs
            rw[force_eq] at h;simp only[Wo,WA] at h;obtain⟨rfl,rfl⟩:=h;have hty':=hty t e he;have hk':=hty'.2.1;rw[hk] at hk';obtain⟨F,h1,h2⟩:=hk';have hz:=cX (w:=w) hty'
            obtain⟨ys',h3,h4⟩:=pd (M:=M) (N:=N) (U:=(· <s.nx)) (vals:=(parts.map fun x=>(x.1,a.eval x.2)).toList) hcs (by simp) (fun j x y hx hy=>by
              rw[Ww,Wx] at hx;obtain⟨z,hz,rfl⟩:=hx;have hz':parts[j]? =some z:=by simpa using hz
              have:some (z.1,a.eval z.2)=some y:=by rw[←hy];simp[hz']
              simp only[Wo] at this;subst this
              exact⟨rfl,aS hfr z.2⟩) (ec e.zero)
            refine⟨.agg ys',?_, .agg _ _ h4.1 h4.2⟩;simp only[execOp,ho];refine bc ?_
            have hmap: ∀(fl:List Field) (pl:List (Nat×Nat)),oL ty (fl.map fun f=>(f.offset,f.type))=some pl→(fl.mapM (fun f=>do pure (f.offset,←sizeOf f.type):Field→Sem (Nat×Nat))).run P w= .ok pl w:=by
              intro fl
              induction fl with
              |nil=>intro pl hp;simp only[Xd,oL,Wo] at hp;subst hp;rfl
              | cons f fl ih=>
                intro pl hp;simp only[WI,oL] at hp;split at hp
                · rename_i e' he'
                  split at hp
                  · rename_i l hl
                    simp only[Wo] at hp;subst hp;rw[List.mapM_cons,Sem.run_bind,Sem.run_bind,bw (hty _ _ he'),Result.andThen_ok,Sem.run_pure,Result.andThen_ok,Sem.run_bind,ih l hl];rfl
                  · cases hp
                · cases hp
            have hm:=hmap F.toList pl (by rw[h2];exact hpl)
            have hm':(F.mapM (fun f=>do pure (f.offset,←sizeOf f.type):Field→Sem (Nat×Nat))).run P w= .ok pl.toArray w:=by
              rw[Y8,Sem.run_map,hm];rfl
            have hplace:(fun(i:Nat)=>pl.toArray[i]?)=(fun(i:Nat)=>pl[i]?):=by funext i;simp
            simp only[Instr.build,Sem.run_bind,hz,Result.andThen_ok,run_underlying h1,hm'];rw[hplace,h3];rfl
          · cases h
        · cases h
      · rename_i n u hk
        split at h
        · rename_i eu heu
          split at h
          · rename_i cs hcs
            rw[force_eq] at h;simp only[Wo,WA] at h;obtain⟨rfl,rfl⟩:=h;have hty':=hty t e he;have hk':=hty'.2.1;rw[hk] at hk';have hz:=cX (w:=w) hty'
            obtain⟨ys',h3,h4⟩:=pd (M:=M) (N:=N) (U:=(· <s.nx)) (vals:=(parts.map fun x=>(x.1,a.eval x.2)).toList) hcs (by simp) (fun j x y hx hy=>by
              rw[Ww,Wx] at hx;obtain⟨z,hz,rfl⟩:=hx;have hz':parts[j]? =some z:=by simpa using hz
              have:some (z.1,a.eval z.2)=some y:=by rw[←hy];simp[hz']
              simp only[Wo] at this;subst this
              exact⟨rfl,aS hfr z.2⟩) (ec e.zero)
            refine⟨.agg ys',?_, .agg _ _ h4.1 h4.2⟩;simp only[execOp,ho];refine bc ?_;simp only[Instr.build,Sem.run_bind,hz,Result.andThen_ok,run_underlying hk',bw (hty _ _ heu)];rw[h3];rfl
          · cases h
        · cases h
      · cases h
    · cases h
  | extract x k=>
    rw[ho] at h;simp only[il] at h;split at h
    · rename_i cs hcs
      split at h
      · rename_i q hq
        simp only[Wo,WA] at h;obtain⟨rfl,rfl⟩:=h;have hx:=aS hfr x;rw[hcs] at hx;generalize hv:a.eval x=v at hx
        cases hx with
        | bP _ ys hl hr=>
          have hlt:k<ys.size:=by rw[←hl];exact(Wr.1 hq).1
          refine⟨ys.getD k undef,?_,hr _ _ hq⟩;simp only[execOp,ho,hv];refine bc ?_;simp[Instr.extract,Wm,hlt]
      · cases h
    · cases h
  | makeFunc fn first caps=>
    rw[ho] at h;simp only[il,force_eq,Wo,WA] at h;obtain⟨rfl,rfl⟩:=h;have h1:=Dy hfr first;have h2:=Dy hfr caps
    exact⟨_,by simp only[execOp,ho];exact bc rfl, .cH _ _ _ _ _ h1.1 h2.1 h1.2 h2.2⟩
  | call c=>
    obtain⟨callee,args,argTypes⟩:=c;rw[ho] at h
    cases callee with
    | builtin b=>
      cases b with
      | len=>
        simp only[il] at h;split at h
        · rename_i x t hxs hts
          have hargs:args= #[x]:=by cases args;simp_all
          have htys:argTypes= #[t]:=by cases argTypes;simp_all
          subst hargs htys;have hx:=aS hfr x
          have hex: ∀v,(Builtin.len_ #[t] o.type #[a.eval x]).run P w= .ok v w→(execOp a.eval o).run P w= .ok (.value v) w:=by
            intro v hv;simp only[execOp,ho,resolve];simp[invoke,builtin,hv]
          split at h
          · rename_i u sz by_ z _ he
            have hu:P.underlying t=some (.slice u):=(hty t _ he).2.1.1;split at h
            · rename_i sz' n el hev
              rw[hev] at hx;simp only[tL,Wo,WA] at h;obtain⟨rfl,rfl⟩:=h;refine⟨.int .i64 n,hex _ ?_, .iv _ _ (.v _)⟩;generalize a.eval x=v at hx
              cases hx with
              |iv _ _ hi=>cases hi<;>simp[Builtin.len_,run_underlying hu,goInt]
            · rename_i i off len sz' hev
              rw[hev] at hx;simp only[tL,Wo,WA] at h;obtain⟨rfl,rfl⟩:=h;refine⟨.int .i64 len,hex _ ?_, .iv _ _ (.v _)⟩;generalize a.eval x=v at hx;cases hx<;>(simp[Builtin.len_,run_underlying hu,goInt];done)
            · rename_i hev
              rw[hev] at hx;simp only[tL,Wo,WA] at h;obtain⟨rfl,rfl⟩:=h;refine⟨.int .i64 0,hex _ ?_, .iv _ _ (.v _)⟩;generalize a.eval x=v at hx
              cases hx with
              |iv _ _ hi=>cases hi;simp[Builtin.len_,run_underlying hu,goInt]
            · cases h
          · rename_i sz by_ z _ he
            have hu:P.underlying t=some .string:=(hty t _ he).2.1.1;split at h
            · rename_i b hev
              rw[hev] at hx;simp only[tL,Wo,WA] at h;obtain⟨rfl,rfl⟩:=h;refine⟨.int .i64 b.size,hex _ ?_, .iv _ _ (.v _)⟩;generalize a.eval x=v at hx
              cases hx with
              |iv _ _ hi=>cases hi;simp[Builtin.len_,run_underlying hu,goInt]
            · cases h
          · rename_i kt et sz by_ z _ he
            have hu:P.underlying t=some (.map kt et):=(hty t _ he).2.1.1
            have hfin: ∀{r:Nat} {ents:Array MapEntry} {clock n:Nat},w.heap[r]? =some (.map ents clock)→ents.size=n→(Builtin.len_ #[t] o.type #[.map (some r)]).run P w= .ok (.int .i64 n) w:=by
              intro r ents clock n h1 h2;simp[Builtin.len_,run_underlying hu,goInt,getObj,Sem.run,h1,h2,Result.andThen]
            split at h
            · rename_i V kc' ev' z' zv' m' hev
              rw[hev] at hx;simp only[Wo,WA] at h;obtain⟨rfl,rfl⟩:=h;refine⟨.int .i64 m'.length,hex _ ?_, .iv _ _ (.v _)⟩;generalize a.eval x=v at hx
              cases hx with
              | iv _ _ hi=>cases hi with
                |dK _ _ _ _ _ b ents clock hb hs=>exact hfin (hrel.cZ _ _ hb) hs
            · rename_i j hev
              rw[hev] at hx;split at h
              · rename_i V kc' ev' z' zv' dv' m' hg
                simp only[Wo,WA] at h;obtain⟨rfl,rfl⟩:=h;refine⟨.int .i64 m'.length,hex _ ?_, .iv _ _ (.v _)⟩;obtain⟨ents,clock,h1,h2,h3⟩:=hrel.obj _ _ hg;generalize a.eval x=v at hx
                cases hx with
                |mp=>exact hfin h1 h2.size
              · cases h
            · cases h
          · cases h
        · cases h
      | max=>
        simp only[il] at h;split at h
        · rename_i x y hxs
          have hargs:args= #[x,y]:=by cases args;simp_all
          subst hargs;split at h
          · rename_i k n j m hn hm
            simp only[Wo,WA] at h;obtain⟨rfl,rfl⟩:=h;have h1:=aS hfr x;have h2:=aS hfr y;rw[hn] at h1;rw[hm] at h2
            have e1:a.eval x= .int k n:=by
              generalize a.eval x=v at h1
              cases h1 with
              | iv _ _ hi=>cases hi with
                |v=>rfl
            have e2:a.eval y= .int j m:=by
              generalize a.eval y=v at h2
              cases h2 with
              | iv _ _ hi=>cases hi with
                |v=>rfl
            have e3:(if m>n then m else n)=max n m:=by split<;>omega
            refine⟨.int k (max n m),?_, .iv _ _ (.v _)⟩;simp only[execOp,ho,resolve];simp[invoke,builtin,Builtin.max_,Builtin.max2,e1,e2,←e3]
          · cases h
        · cases h
      | min=>
        simp only[il] at h;split at h
        · rename_i x y hxs
          have hargs:args= #[x,y]:=by cases args;simp_all
          subst hargs;split at h
          · rename_i k n j m hn hm
            simp only[Wo,WA] at h;obtain⟨rfl,rfl⟩:=h;have h1:=aS hfr x;have h2:=aS hfr y;rw[hn] at h1;rw[hm] at h2
            have e1:a.eval x= .int k n:=by
              generalize a.eval x=v at h1
              cases h1 with
              | iv _ _ hi=>cases hi with
                |v=>rfl
            have e2:a.eval y= .int j m:=by
              generalize a.eval y=v at h2
              cases h2 with
              | iv _ _ hi=>cases hi with
                |v=>rfl
            have e3:(if m<n then m else n)=min n m:=by split<;>omega
            refine⟨.int k (min n m),?_, .iv _ _ (.v _)⟩;simp only[execOp,ho,resolve];simp[invoke,builtin,Builtin.min_,Builtin.min2,e1,e2,←e3]
          · cases h
        · cases h
      |_=>simp[il] at h
    |_=>simp[il] at h
  | lookup t x i ok=>
    rw[ho] at h;simp only[il] at h;have hx:=aS hfr x;have hi:=aS hfr i;split at h
    · rename_i V kc' ev' z' zv' m' hev
      rw[hev] at hx;generalize hv:a.eval x=v at hx
      cases hx with
      | iv _ _ hxi=>cases hxi with
        | dK _ _ _ _ _ b ents clock hb hs hk' hv' hz hi' hc=>
          obtain⟨_,y,h1,h2⟩:=xz (P:=P) hty h (hrel.cZ _ _ hb) ⟨hs,hk',hv',hi',hc⟩ hz hi;exact⟨y,by simp only[execOp,ho,hv];exact bc h1,h2⟩
    · rename_i j hev
      rw[hev] at hx;split at h
      · rename_i V kc' ev' z' zv' dv' m' hg
        obtain⟨ents,clock,h1,h2,h3⟩:=hrel.obj _ _ hg;generalize hv:a.eval x=v at hx
        cases hx with
        | mp=>
          obtain⟨_,y,g1,g2⟩:=xz (P:=P) hty h h1 h2 h3 hi;exact⟨y,by simp only[execOp,ho,hv];exact bc g1,g2⟩
      · cases h
    · cases h
  | entry it=>
    rw[ho] at h;simp only[il] at h;have hx:=aS hfr it;split at h
    · rename_i i hev
      rw[hev] at hx;split at h
      · rename_i V kc' ev' m' vs x' hg
        simp only[Wo,WA] at h;obtain⟨rfl,rfl⟩:=h;obtain⟨b,ents,clock,seen,h1,h2,h3,h4,h5,h6,h7⟩:=(hrel.obj _ _ hg).resolve_left fun hh=>nomatch hh.2.2.1;obtain⟨j,r,rfl,h8⟩:=h7 x' rfl;generalize hv:a.eval it=v at hx
        cases hx with
        | ptr=>
          have hj:j<ents.size:=by rw[h3.size];exact(Wr.1 h8).1
          have hje:ents.getD j default=ents[j]:=by simp[Wm,hj]
          have hseen:seen=(r.reverse.map fun j=>(ents.getD j default).born).toArray.push (ents[j]).born:=by
            apply ZB.1;rw[h4];simp[hj]
          rw[hseen] at h1
          have hnd:(ents.toList.map (·.born)).Nodup:=by
            rw[List.nodup_iff_pairwise_ne,YK];intro p q hp hq hpq he;simp at hp hq he;have:=h3.inj p q ents[p] ents[q] (by simp[hp]) (by simp[hq]) he;omega
          have hrun:=run_entry_at (P:=P) w (N.aG i) b clock _ ents clock ents[j] h1 (hrel.cZ _ _ h2) (by simp) hnd;refine⟨_,by simp only[execOp,ho,hv];exact bc hrun, .bP _ _ rfl fun q p hp=>?_⟩;have hkey:=h3.key j _ h8;have hval:=h3.val j _ h8;rw[hje] at hkey hval
          match q with
          |0=>simp at hp;subst hp;simp only[Wm];simp;rw[hkey];exact zY kc' _
          |1=>simp at hp;subst hp;exact zX hval
          |q+2=>simp at hp
      · cases h
    · cases h
  |_=>rw[ho] at h;simp[il] at h
end
end Go.Al
namespace Go.Al
abbrev AQ:=Exit→AS→Prop
def lO (nt:Nat) (M:Mem) (N:Nm) (s:AS) (w:World) (Q:AQ):Exit→Act→World→Prop:=fun e a' w'=>
 ∃M' N' s',Ext M N (· <s.nx) s.h w M' N' (· <s'.nx) s'.h w'∧Fits M' N' s' nt a' w'∧Q e s'
theorem lO.later {nt:Nat} {M M':Mem} {N N':Nm} {s s':AS} {w w':World} {Q:AQ} {e:Exit} {a:Act} {w2:World}
  (x:Ext M N (· <s.nx) s.h w M' N' (· <s'.nx) s'.h w') (h:lO nt M' N' s' w' Q e a w2):lO nt M N s w Q e a w2:=by
 obtain⟨M2,N2,s2,h1,h2,h3⟩:=h;exact⟨M2,N2,s2,x.trans h1,h2,h3⟩
theorem lO.now {nt:Nat} {M:Mem} {N:Nm} {s:AS} {w:World} {Q:AQ} {e:Exit} {a:Act} (hf:Fits M N s nt a w) (h:Q e s):lO nt M N s w Q e a w:=
 ⟨M,N,s, .refl _ _ _ _ _,hf,h⟩
def AW (P:Program) (nt:Nat) (c:Code) (Q:AQ) (s:AS):Prop:= ∀M N a w,Fits M N s nt a w→c.wp P (lO nt M N s w Q) a w
def AL (P:Program) (nt:Nat) (all rest:List Oper) (Q:AQ) (s:AS):Prop:= ∀M N a w,Fits M N s nt a w→wpList P all.toArray (lO nt M N s w Q) rest a w
def SL (P:Program) (nt:Nat) (all rest:List Oper) (Q:AQ) (s:AS):Prop:= ∀M N a w,Fits M N s nt a w→
 wpStill P all.toArray w (fun a'=> ∃s',s'.h=s.h∧s'.nx=s.nx∧Fits M N s' nt a' w∧Q .normal s') rest a
def waits (o:Oper) (i:Nat):Bool:=o.after.toList.any fun e=>Region.binds .any e&&WO e.on i
def looks (all:List Oper) (o x:Oper):Bool:=match x.dst with
 |some d=>(o.looksAt all.toArray).contains d
 |none=>false
def eS:Nat→List Oper→Bool
 |_,[]=>true
 |n,o::r=>(o.after.toList.all fun e=>!Region.binds .any e||WU e.on n)&&eS (n+1) r
structure Bs where
 M:Mem
 N:Nm
 n:Nat
 h:AH
 w:World
def Bs.ext (B:Bs) (M:Mem) (N:Nm) (s:AS) (w:World):Prop:=Ext B.M B.N (· <B.n) B.h B.w M N (· <s.nx) s.h w
def PJ (nt:Nat) (B:Bs) (Q:AQ):Exit→Act→World→Prop:=fun e a' w'=> ∃M' N' s',B.ext M' N' s' w'∧Fits M' N' s' nt a' w'∧Q e s'
def aO (o:Oper):Bool:=match o.op with
 | .alloc _=>true
 |_=>false
def nL (P:Program) (M:Mem) (N:Nm) (s:AS) (B:Bs) (a:Act) (w:World) (o:Oper) (aG:Nat):Prop:=
 ∃t v d,o.op= .alloc t∧(∀w,(zeroValue t).run P w= .ok v w)∧o.dst=some d∧a.tmps[d]? =some (.pointer (some ⟨aG,0,none⟩))∧w.heap[aG]? =some (.cells v.cells t (0,0))∧M aG=none∧
  (∀i o,s.h.get i=some o→o.real=true→N.aG i≠aG)∧B.w.heap.size≤aG
structure kV (P:Program) (nt:Nat) (all:List Oper) (todo pend:List (Nat×Oper)) (B:Bs) (M:Mem) (N:Nm) (s:AS) (listed:Array Bool) (a:Act) (w:World):Prop where
 size:listed.size=all.length
 tl: ∀x∈todo,all[x.1]? =some x.2
 pl: ∀x∈pend,all[x.1]? =some x.2
 dj: ∀x∈pend,∀y∈todo,y.1≠x.1
 Cg: ∀i o,all[i]? =some o→listed.getD i true=false→(i,o)∈todo∨(i,o)∈pend
 pw:pend.Pairwise fun x y=>looks all y.2 x.2=false∧ ∀d,x.2.dst=some d→y.2.dst≠some d
 pp: ∀x∈pend,∀y∈pend,waits y.2 x.1=true∨looks all y.2 x.2=false
 pa: ∀y∈pend,∀x∈todo,aO x.2=true→waits y.2 x.1=false
 er: ∃bl:Nat→Nat,(∀x∈todo,listed.getD x.1 true=true→nL P M N s B a w x.2 (bl x.1))∧ ∀x∈todo,∀y∈todo,listed.getD x.1 true=true→listed.getD y.1 true=true→x.1≠y.1→bl x.1≠bl y.1
 ap: ∃b:Act,Fits M N s nt b w∧a.tmps.size=b.tmps.size∧a.defers=b.defers∧
  (∀d,(∀x∈pend,listed.getD x.1 true=false→x.2.dst≠some d)→(∀x∈todo,listed.getD x.1 true=true→x.2.dst≠some d)→a.tmps[d]? =b.tmps[d]?)∧
  (∀x∈pend,listed.getD x.1 true=false→ ∃v,YieldsAt P all.toArray w x.2 v b∧b.put x.2.dst v=b)
def gl (P:Program) (nt:Nat) (all:List Oper):Prop:= ∀i o,all[i]? =some o→aO o=true→
 o.guard=none∧(∃d,o.dst=some d∧d<nt)∧(∃t v,o.op= .alloc t∧ ∀w,(zeroValue t).run P w= .ok v w)∧(∀k,waits o k=false)∧
 ∀k q,all[k]? =some q→k≠i→(waits q i=true∨looks all q o=false)∧ ∀d,o.dst=some d→q.dst≠some d
def DL (P:Program) (nt:Nat) (all:List Oper) (todo pend:List (Nat×Oper)) (Q:AQ) (s:AS):Prop:=
 Region.noSelect all.toArray=true→eS 0 all=true→gl P nt all→ ∀B M N listed a w fuel,B.ext M N s w→kV P nt all todo pend B M N s listed a w→listed.toList.count false≤fuel→wpAny P .any all.toArray (PJ nt B Q) fuel listed a w
def putDst (nt:Nat) (o:Oper) (p:PV) (s:AS):Option AS:=
 match o.dst with
 |none=>some s
 |some d=>bif WU d nt then(match s with|⟨f,h,n⟩=>sY p fun p'=>some ⟨(d,p')::f,h,n⟩) else none
theorem dM {nt:Nat} {o:Oper} {p:PV} {s s':AS} (h:putDst nt o p s=some s') (hd:o.dst=none):s'=s:=by
 simp only[putDst,hd,Wo] at h;exact h.symm
theorem dL {nt:Nat} {o:Oper} {p:PV} {s s':AS} (h:putDst nt o p s=some s') {d:Nat} (hd:o.dst=some d):d<nt∧s'={s with f:=(d,p)::s.f}:=by
 simp only[putDst,hd] at h
 cases hb:WU d nt with
 |false=>simp[hb] at h
 |true=>
  obtain⟨f,hh,n⟩:=s;simp only[hb,cond_true,c8,Wo] at h;exact⟨Wj hb,h.symm⟩
def fh (P:Program) (nt:Nat) (all:List Oper) (s:AS) (o:Oper):Prop:=
 ∀M N b w,Fits M N s nt b w→ ∃v,YieldsAt P all.toArray w o v b∧Fits M N s nt (b.put o.dst v) w
def bg (pend:List (Nat×Oper)) (o:Oper):List (Nat×Oper):=pend.filter fun x=>!waits o x.1
def UA (P:Program) (nt:Nat) (b:Code) (Q:AQ):Nat→AS→Prop
 |0,_=>False
 |n+1,s=>AW P nt b (fun e s'=>match e with| .normal=>UA P nt b Q n s'|e=>Q e s') s
inductive KI where
 |code (c:Code)
 |aG (id:Nat)
 |ops (all rest:List Oper)
 |lp (R:AS→Prop)
 |q8 (all rest:List Oper)
 |cv (all:List Oper) (todo pend:List (Nat×Oper))
 |A3 (b:Code) (n:Nat)
 |Cc
 |Ko (nt:Nat) (f:AF) (res:AS→Option PV) (o:Oper) (all rest:List Oper)
 |Kp (nt:Nat) (f:AF) (res:AS→Option PV) (j:Nat) (o:Oper) (all:List Oper) (todo pend:List (Nat×Oper))
def kp (P:Program):Nat→List KI→AQ→AQ
 |_,[],Q=>Q
 |nt, .code c::k,Q=>fun e s=>match e with| .normal=>AW P nt c (kp P nt k Q) s|e=>kp P nt k Q e s
 |nt, .ops all rest::k,Q=>fun e s=>match e with| .normal=>AL P nt all rest (kp P nt k Q) s|e=>kp P nt k Q e s
 |nt, .q8 all rest::k,Q=>fun e s=>match e with| .normal=>SL P nt all rest (kp P nt k Q) s|e=>kp P nt k Q e s
 |nt, .cv all todo pend::k,Q=>fun e s=>match e with| .normal=>DL P nt all todo pend (kp P nt k Q) s|e=>kp P nt k Q e s
 |nt, .lp R::k,Q=>fun e s=>match e with| .normal=>R s|e=>kp P nt k Q e s
 |nt, .aG id::k,Q=>fun e s=>match e with| .exit j=>if j=id then kp P nt k Q .normal s else kp P nt k Q (.exit j) s|e=>kp P nt k Q e s
 |nt, .A3 b n::k,Q=>fun e s=>match e with| .normal=>UA P nt b (kp P nt k Q) n s|e=>kp P nt k Q e s
 |nt, .Cc::k,Q=>fun e s=>match e with| .goto _=>False|e=>kp P nt k Q e s
 |_, .Ko nt f res o all rest::k,Q=>fun e s=>(e= .normal∨e= .ret)∧ ∃r s',res s=some r∧putDst nt o r ⟨f,s.h,s.nx⟩=some s'∧AL P nt all rest (kp P nt k Q) s'
 | _, .Kp nt f res j o all todo pend::k,Q=>fun e s=>(e= .normal∨e= .ret)∧ ∃r s',res s=some r∧putDst nt o r ⟨f,s.h,s.nx⟩=some s'∧
   (∀x∈bg pend o,fh P nt all s' x.2)∧DL P nt all (todo.filter fun x=>!WO x.1 j) (bg pend o) (kp P nt k Q) s'
def GO (P:Program) (nt:Nat) (k:List KI) (Q:AQ) (s:AS):Prop:=kp P nt k Q .normal s
section
variable {P:Program} {nt:Nat} {Q:AQ} {k:List KI} {s:AS}
theorem AW.then {c:Code} {R:AQ} (h:AW P nt c R s) {M:Mem} {N:Nm} {a:Act} {w:World} (hf:Fits M N s nt a w) {Z:Exit→Act→World→Prop}
  (hz: ∀e a' w' M' N' s',Ext M N (· <s.nx) s.h w M' N' (· <s'.nx) s'.h w'→Fits M' N' s' nt a' w'→R e s'→Z e a' w'):c.wp P Z a w:=
 wp_mono (h M N a w hf) fun e a' w' ⟨M',N',s',h1,h2,h3⟩=>hz e a' w' M' N' s' h1 h2 h3
theorem go_skip (h:GO P nt k Q s):GO P nt (.code .skip::k) Q s:=fun _ _ _ _ hf=>wp_skip (.now hf h)
theorem DU {l:Nat} (h:GO P nt k Q s):GO P nt (.code (.label l)::k) Q s:=fun _ _ _ _ hf=>wp_label (.now hf h)
theorem go_ret (h:kp P nt k Q .ret s):GO P nt (.code .ret::k) Q s:=fun _ _ _ _ hf=>wp_ret (.now hf h)
theorem Kf {id:Nat} (h:kp P nt k Q (.exit id) s):GO P nt (.code (.exit id)::k) Q s:=fun _ _ _ _ hf=>wp_exit (.now hf h)
theorem DT {c:Code} (h:GO P nt (.code c:: .Cc::k) Q s):GO P nt (.code (.scope c)::k) Q s:=by
 intro M N a w hf;refine wp_scope_straight (AW.then h hf fun e a' w' M' N' s' hx hf' hr=>?_)
 cases e with
 |goto l=>exact hr
 |_=>exact⟨M',N',s',hx,hf',hr⟩
theorem Sd {id:Nat} (h:GO P nt k Q s):GO P nt (.aG id::k) Q s:=h
theorem Sa {x y:Code} (h:GO P nt (.code x:: .code y::k) Q s):GO P nt (.code (.seq x y)::k) Q s:=by
 intro M N a w hf;refine wp_seq (AW.then h hf fun e a' w' M' N' s' hx hf' hr=>?_)
 cases e with
 |normal=>exact AW.then hr hf' fun e a2 w2 M2 N2 s2 hx2 hf2 hr2=>⟨M2,N2,s2,hx.trans hx2,hf2,hr2⟩
 |_=>exact⟨M',N',s',hx,hf',hr⟩
theorem DY {id:Nat} {x:Code} (h:GO P nt (.code x:: .aG id::k) Q s):GO P nt (.code (.block id x)::k) Q s:=by
 intro M N a w hf;refine wp_block (AW.then h hf fun e a' w' M' N' s' hx hf' hr=>?_)
 cases e with
 |exit j=>
  simp only[kp] at hr;simp only[Exit.inBlock];split
  ·rename_i hj;rw[if_pos hj] at hr;exact⟨M',N',s',hx,hf',hr⟩
  ·rename_i hj;rw[if_neg hj] at hr;exact⟨M',N',s',hx,hf',hr⟩
 |_=>exact⟨M',N',s',hx,hf',hr⟩
theorem go_region {id:Nat} {ops:Array Oper} (h:GO P nt (.ops ops.toList ops.toList::k) Q s):GO P nt (.code (.region id ops false)::k) Q s:=by
 intro M N a w hf;refine wp_region_list ?_;have:=h M N a w hf;simpa using this
theorem zc {all:List Oper} (h:GO P nt k Q s):GO P nt (.ops all []::k) Q s:=fun _ _ _ _ hf=>wpList_nil (lO.now hf h)
theorem Fits.bool {M:Mem} {N:Nm} {a:Act} {w:World} (hf:Fits M N s nt a w) {c:Operand} {t:Bool} (hc:ev s.f c= .iv (.v (.bool t))):a.eval c= .bool t:=by
 have h:=aS hf.2.1 c;rw[hc] at h;generalize a.eval c=v at h
 cases h with
 |iv _ _ h=>cases h with
  |v=>rfl
theorem Fits.put {M:Mem} {N:Nm} {a:Act} {w:World} (hf:Fits M N s nt a w) (d:Nat) (p:PV) (x:Value) (hd:d<nt) (hp:VR M N (· <s.nx) p x):Fits M N {s with f:=(d,p)::s.f} nt (a.put (some d) x) w:=
 ⟨hf.1,hf.2.1.put d p x (by rw[hf.2.2.2];exact hd) hp,hf.2.2.1,by simp[Act.put,hf.2.2.2]⟩
def setBool (s:AS) (c:Operand) (t:Bool):AS:=
 match c with
 | .tmp d=>match s with
  |⟨f,h,n⟩=>⟨(d, .kb t)::f,h,n⟩
 |_=>s
theorem Fits.setBool {M:Mem} {N:Nm} {a:Act} {w:World} (hf:Fits M N s nt a w) {c:Operand} {t:Bool} (hc:ev s.f c= .iv (.v (.bool t))):Fits M N (setBool s c t) nt a w:=by
 cases c with
 |tmp d=>
  refine⟨hf.1,fun j=>?_,hf.2.2⟩;simp only[Al.setBool,AF.aA];split
  ·rename_i hj;subst hj
   have:=hf.bool (c:= .tmp j) hc;simp only[Act.eval] at this;rw[this];exact .kb _
  ·exact hf.2.1 j
 |_=>exact hf
theorem sU {c:Operand} {x y:Code} {t:Bool} (hc:ev s.f c= .kb t) (h:GO P nt (.code (bif t then x else y)::k) Q s):GO P nt (.code (.cond c x y)::k) Q s:=by
 intro M N a w hf
 have hb:a.eval c= .bool t:=by
  have:=aS hf.2.1 c;rw[hc] at this;generalize a.eval c=v at this;cases this;rfl
 refine wp_cond hb ?_;cases t
 ·exact h M N a w hf
 ·exact h M N a w hf
theorem Ki {c:Operand} {x y:Code} {t:Bool} (hc:ev s.f c= .iv (.v (.bool t))) (h1:t=true→GO P nt (.code x::k) Q (setBool s c true)) (h2:t=false→GO P nt (.code y::k) Q (setBool s c false)):
  GO P nt (.code (.cond c x y)::k) Q s:=by
 intro M N a w hf;have hf':=hf.setBool hc;refine wp_cond_split (hf.bool hc) (fun ht=>?_) (fun ht=>?_)
 ·subst ht
  exact AW.then (h1 rfl) hf' fun e a2 w2 M2 N2 s2 hx2 hf2 hr2=>⟨M2,N2,s2,by cases c<;>exact hx2,hf2,hr2⟩
 ·subst ht
  exact AW.then (h2 rfl) hf' fun e a2 w2 M2 N2 s2 hx2 hf2 hr2=>⟨M2,N2,s2,by cases c<;>exact hx2,hf2,hr2⟩
theorem oT {Q Q':Exit→Act→World→Prop} (hq: ∀e a w,Q e a w→Q' e a w) (h:LetsOut Q):LetsOut Q':=let ⟨a,w,x⟩:=h;⟨a,w,hq _ _ _ x⟩
theorem xt {o:Oper} {a:Act} {w:World} {K K':Act→World→Prop} {Q Q':Exit→Act→World→Prop} (h: ∀a w,K a w→K' a w) (hq: ∀e a w,Q e a w→Q' e a w) (hh:o.wp P a w K Q):o.wp P a w K' Q':=by
 unfold Oper.wp at*
 generalize(execOp a.eval o).run P w=r at*
 cases r with
 |ok n w'=>
  cases n<;>simp only[Oper.upon] at hh ⊢ <;>
   first
    |exact h _ _ hh
    |exact Calls.mono hh (fun e w'' he=>by cases e<;>first|exact h _ _ he|exact oT hq he|exact hq _ _ _ he)
    |exact Rows.mono hh (fun _ _ he=>h _ _ he)
 |halt x w'=>cases x<;>simp only[Oper.upon] at hh ⊢ <;>exact hq _ _ _ hh
theorem fJ {ops:Array Oper} {Q Q':Exit→Act→World→Prop} (hq: ∀e a w,Q e a w→Q' e a w): ∀(l:List Oper) (a:Act) (w:World),wpList P ops Q l a w→wpList P ops Q' l a w
 | [],_,_,h=>hq _ _ _ h
 |o::r,a,w,h=>by
  unfold wpList at*
  split
  ·rename_i hw
   rw[if_pos hw] at h;exact h.imp (xt (fJ hq r) hq) (fun⟨h1,h2⟩=>⟨h1,oT hq h2⟩)
  ·rename_i hw
   rw[if_neg hw] at h;exact fJ hq r _ _ h
theorem AL.later {all rest:List Oper} (h:AL P nt all rest Q s) {M M0:Mem} {N N0:Nm} {s0:AS} {a:Act} {w w0:World} (x:Ext M0 N0 (· <s0.nx) s0.h w0 M N (· <s.nx) s.h w) (hf:Fits M N s nt a w):
  wpList P all.toArray (lO nt M0 N0 s0 w0 Q) rest a w:=
 fJ (fun _ _ _=>lO.later x) rest a w (h M N a w hf)
def OT (P:Program) (nt:Nat) (o:Oper) (s:AS) (R:AS→Prop):Prop:=
 ∀M N a w,Fits M N s nt a w→ ∀(K:Act→World→Prop) (Q:Exit→Act→World→Prop),
  (∀M' N' s' a' w',Ext M N (· <s.nx) s.h w M' N' (· <s'.nx) s'.h w'→Fits M' N' s' nt a' w'→R s'→K a' w')→o.wp P a w K Q
theorem fL {o:Oper} (h:o.guard=none) (y:Nat→Option Bool):Region.wanted o y=true:=by simp[Region.wanted,h]
theorem dE {all rest:List Oper} {o:Oper} {R:AS→Prop} (hg:o.guard=none) (ho:OT P nt o s R) (h: ∀s',R s'→GO P nt (.ops all rest::k) Q s'):GO P nt (.ops all (o::rest)::k) Q s:=by
 intro M N a w hf;unfold wpList;rw[if_pos (fL hg _)];refine .inl (ho M N a w hf _ _ fun M' N' s' a' w' hx hf' hr=>?_);exact AL.later (h s' hr) hx hf'
def guardOf (all:List Oper) (f:AF) (j:Nat):Option (Nat×PV):=
 match all[j]? with
 |some o=>match o.dst with
  |some d=>some (d,f.get d)
  |none=>none
 |none=>none
theorem Fits.yielded {M:Mem} {N:Nm} {a:Act} {w:World} (hf:Fits M N s nt a w) {all:List Oper} {j d:Nat} {t:Bool} (hg:guardOf all s.f j=some (d, .iv (.v (.bool t)))) (hd:d<nt):Go.yielded all.toArray a.tmps j=some t:=by
 unfold guardOf at hg
 cases ho:all[j]? with
 |none=>simp[ho] at hg
 |some o=>
  cases hod:o.dst with
  |none=>simp[ho,hod] at hg
  |some d'=>
   simp only[ho,hod,Wo,WA] at hg;obtain⟨rfl,hv⟩:=hg;have h1:=hf.2.1 d';rw[hv] at h1;have hsz:d'<a.tmps.size:=by rw[hf.2.2.2];exact hd
   have h2:a.tmps[d']? =some (a.tmps.getD d' undef):=by simp[Wm,hsz]
   have h3:a.tmps.getD d' undef= .bool t:=by
    generalize a.tmps.getD d' undef=v at h1
    cases h1 with
    |iv _ _ h=>cases h with
     |v=>rfl
   have h4:all.toArray[j]? =some o:=by simpa using ho
   simp[Go.yielded,h4,hod,h2,h3]
def fj (o:Oper) (s:AS):AS:=
 match o.dst with
 |some e=>match s with
  |⟨f,h,n⟩=>⟨(e, .iv (.v (.tuple #[])))::f,h,n⟩
 |none=>s
theorem Fits.skip {M:Mem} {N:Nm} {a:Act} {w:World} (hf:Fits M N s nt a w) (o:Oper):Fits M N (fj o s) nt (a.put o.dst undef) w:=by
 unfold fj
 cases o.dst with
 |none=>exact hf
 |some e=>
  refine⟨hf.1,fun i=>?_,hf.2.2.1,by simp[Act.put,hf.2.2.2]⟩;simp only[AF.aA];by_cases hi:i=e
  ·rw[if_pos hi]
   subst hi
   have:(a.put (some i) undef).tmps.getD i undef=undef:=by
    simp only[Act.put,Wm,W1,if_true];split<;>rfl
   rw[this];exact .iv _ _ (.v _)
  ·rw[if_neg hi]
   have:=hf.2.1 i;simp only[Act.put,Wm,W1] at this ⊢;rw[if_neg (fun e=>hi e.symm)];exact this
theorem fM (o:Oper) (s:AS):(fj o s).h=s.h∧(fj o s).nx=s.nx:=by unfold fj;cases o.dst<;>exact⟨rfl,rfl⟩
theorem iA (c:Operand) (t:Bool) (s:AS):(setBool s c t).h=s.h∧(setBool s c t).nx=s.nx:=by cases c<;>exact⟨rfl,rfl⟩
theorem AL.same {all rest:List Oper} {s':AS} (h:AL P nt all rest Q s') (e:s'.h=s.h∧s'.nx=s.nx) {M:Mem} {N:Nm} {a:Act} {w:World} (hf:Fits M N s' nt a w):
  wpList P all.toArray (lO nt M N s w Q) rest a w:=by
 have:=h M N a w hf;refine fJ (fun e' a' w' ⟨M2,N2,s2,h1,h2,h3⟩=>⟨M2,N2,s2,?_,h2,h3⟩) rest a w this;rw[e.1,e.2] at h1;exact h1
theorem Fits.rN {M:Mem} {N:Nm} {a:Act} {w:World} (hf:Fits M N s nt a w) {all:List Oper} {j d:Nat} {t:Bool} (hg:guardOf all s.f j=some (d, .kb t)) (hd:d<nt):Go.yielded all.toArray a.tmps j=some t:=by
 unfold guardOf at hg
 cases ho:all[j]? with
 |none=>simp[ho] at hg
 |some o=>
  cases hod:o.dst with
  |none=>simp[ho,hod] at hg
  |some d'=>
   simp only[ho,hod,Wo,WA] at hg;obtain⟨rfl,hv⟩:=hg;have h1:=hf.2.1 d';rw[hv] at h1;have hsz:d'<a.tmps.size:=by rw[hf.2.2.2];exact hd
   have h2:a.tmps[d']? =some (a.tmps.getD d' undef):=by simp[Wm,hsz]
   have h3:a.tmps.getD d' undef= .bool t:=by
    generalize a.tmps.getD d' undef=v at h1;cases h1;rfl
   have h4:all.toArray[j]? =some o:=by simpa using ho
   simp[Go.yielded,h4,hod,h2,h3]
theorem Fits.rM {M:Mem} {N:Nm} {a:Act} {w:World} (hf:Fits M N s nt a w) {all:List Oper} {j d:Nat} {vs:Array Value} (hg:guardOf all s.f j=some (d, .iv (.v (.tuple vs)))):Go.yielded all.toArray a.tmps j=none:=by
 unfold guardOf at hg
 cases ho:all[j]? with
 |none=>simp[ho] at hg
 |some o=>
  cases hod:o.dst with
  |none=>simp[ho,hod] at hg
  |some d'=>
   simp only[ho,hod,Wo,WA] at hg;obtain⟨rfl,hv⟩:=hg;have h1:=hf.2.1 d';rw[hv] at h1
   have h3:a.tmps.getD d' undef= .tuple vs:=by
    generalize a.tmps.getD d' undef=v at h1
    cases h1 with
    |iv _ _ h=>cases h with
     |v=>rfl
   have h4:all.toArray[j]? =some o:=by simpa using ho
   rw[Wm] at h3
   cases h5:a.tmps[d']? with
   |none=>simp[Go.yielded,h4,hod,h5]
   |some v=>
    rw[h5] at h3;simp only[XM] at h3;subst h3;simp[Go.yielded,h4,hod,h5]
theorem xN {all rest:List Oper} {o:Oper} {j d:Nat} {want:Bool} {vs:Array Value} (hg:o.guard=some (j,want)) (hy:guardOf all s.f j=some (d, .iv (.v (.tuple vs)))) (h:GO P nt (.ops all rest::k) Q (fj o s)):GO P nt (.ops all (o::rest)::k) Q s:=by
 intro M N a w hf;have hyy:=hf.rM hy;unfold wpList;have hw:Region.wanted o (Go.yielded all.toArray a.tmps)=false:=by simp[Region.wanted,hg,hyy]
 rw[hw,if_neg (by simp)];exact AL.same (s:=s) h (fM _ _) (hf.skip o)
theorem xO {all rest:List Oper} {o:Oper} {j d:Nat} {want t:Bool} (hg:o.guard=some (j,want)) (hy:guardOf all s.f j=some (d, .kb t)) (hd:d<nt)
  (h:GO P nt (.ops all (bif t==want then{o with guard:=none}::rest else rest)::k) Q (bif t==want then s else fj o s)):GO P nt (.ops all (o::rest)::k) Q s:=by
 intro M N a w hf;have hyy:=hf.rN hy hd;unfold wpList;by_cases ht:t=want
 ·have hw:Region.wanted o (Go.yielded all.toArray a.tmps)=true:=by simp[Region.wanted,hg,hyy,ht]
  have hb:(t==want)=true:=by simp[ht]
  rw[if_pos hw];rw[hb] at h;have:=h M N a w hf;simp only[cond_true] at this;unfold wpList at this;rw[if_pos (fL rfl _)] at this;exact this
 ·have hw:Region.wanted o (Go.yielded all.toArray a.tmps)=false:=by simp[Region.wanted,hg,hyy,ht]
  have hb:(t==want)=false:=by simp[ht]
  rw[hw,if_neg (by simp)];rw[hb] at h;exact AL.same (s:=s) h (fM _ _) (hf.skip o)
theorem DV {all rest:List Oper} {o:Oper} {j d:Nat} {want t:Bool} (hg:o.guard=some (j,want)) (hy:guardOf all s.f j=some (d, .iv (.v (.bool t)))) (hd:d<nt)
  (h1:t=want→GO P nt (.ops all ({o with guard:=none}::rest)::k) Q (setBool s (.tmp d) want)) (h2:t=!want→GO P nt (.ops all rest::k) Q (fj o (setBool s (.tmp d) (!want)))):
  GO P nt (.ops all (o::rest)::k) Q s:=by
 intro M N a w hf;have hyy:=hf.yielded hy hd
 have hcv:ev s.f (.tmp d)= .iv (.v (.bool t)):=by
  unfold guardOf at hy
  cases ho:all[j]? with
  |none=>simp[ho] at hy
  |some o'=>
   cases hod:o'.dst with
   |none=>simp[ho,hod] at hy
   |some d'=>
    simp only[ho,hod,Wo,WA] at hy;obtain⟨rfl,hv⟩:=hy;exact hv
 have hf':=hf.setBool hcv;unfold wpList;by_cases ht:t=want
 ·have hw:Region.wanted o (Go.yielded all.toArray a.tmps)=true:=by simp[Region.wanted,hg,hyy,ht]
  rw[if_pos hw];rw[ht] at hf';have:=AL.same (s:=s) (h1 ht) (iA _ _ _) hf';unfold wpList at this;rw[if_pos (fL rfl _)] at this;exact this
 ·have hw:Region.wanted o (Go.yielded all.toArray a.tmps)=false:=by simp[Region.wanted,hg,hyy,ht]
  have ht':t=!want:=by cases t<;>cases want<;>simp_all
  rw[hw,if_neg (by simp)];rw[ht'] at hf';exact AL.same (s:=s) (h2 ht') ⟨(fM _ _).1.trans (iA _ _ _).1,(fM _ _).2.trans (iA _ _ _).2⟩ (hf'.skip o)
end
section
variable {P:Program} {nt:Nat} {Q:AQ} {k:List KI} {s:AS}
theorem Rel.drew {M:Mem} {N:Nm} {U:Nat→Prop} {h:AH} {w:World} (hr:Rel M N U h w):Rel M N U h {w with drawn:=w.drawn+1}:=
 ⟨hr.cZ,hr.used,hr.dA,fun i o hi=>(hr.obj i o hi).mono (.refl _) (.refl _ _) (fun _ h=>h) (hr.used i o hi) rfl,hr.inj⟩
theorem Fits.drew {M:Mem} {N:Nm} {a:Act} {w:World} (hf:Fits M N s nt a w):Fits M N s nt a {w with drawn:=w.drawn+1}:=⟨hf.1.drew,hf.2⟩
theorem Ext.drew {M:Mem} {N:Nm} {U:Nat→Prop} {h:AH} {w:World}:Ext M N U h w M N U h {w with drawn:=w.drawn+1}:=
 ⟨rfl,rfl,rfl,Wz _,fun _ _ _=>rfl, .refl _,fun b c h1 h2=>by simp[h1] at h2, .refl _ _,fun _ h=>h,fun i o hi hre=> .inr ⟨i,o,hi,hre,rfl⟩⟩
theorem SL.same {all rest:List Oper} {s':AS} (h:SL P nt all rest Q s') (e:s'.h=s.h∧s'.nx=s.nx) {M:Mem} {N:Nm} {a:Act} {w:World} (hf:Fits M N s' nt a w):
  wpStill P all.toArray w (fun a'=> ∃s1,s1.h=s.h∧s1.nx=s.nx∧Fits M N s1 nt a' w∧Q .normal s1) rest a:=by
 have:=h M N a w hf;rw[e.1,e.2] at this;exact this
end
end Go.Al
namespace Go.Al
section
variable {P:Program} {M:Mem} {N:Nm} {w:World} {n:Nat} {h:AH}
def Nm.with (N:Nm) (n b e:Nat):Nm:={aG:=fun i=>if i=n then b else N.aG i,ext:=fun i=>if i=n then e else N.ext i}
theorem Nm.cW (N:Nm) (n b e:Nat):N.agree (N.with n b e) (· <n):=
 ⟨fun i hi=>by simp[Nm.with,Zi hi],fun i hi=>by simp[Nm.with,Zi hi]⟩
@[simp] theorem Nm.Ck (N:Nm) (n b e:Nat):(N.with n b e).aG n=b:=by simp[Nm.with]
@[simp] theorem Nm.SI (N:Nm) (n b e:Nat):(N.with n b e).ext n=e:=by simp[Nm.with]
theorem Rel.lt (hr:Rel M N (· <n) h w) {i:Nat} {o:AO} (hi:h.get i=some o) (hre:o.real=true):N.aG i<w.heap.size:=(hr.obj i o hi).lt hre
theorem Rel.xw (hr:Rel M N (· <n) h w):M w.heap.size=none:=by
 cases hm:M w.heap.size with
 |none=>rfl
 |some c=>have:=(hr.cZ _ _ hm).lt;omega
theorem Rel.alloc (hr:Rel M N (· <n) h w) (obj:Obj) (o:AO) (e:Nat) (ho: ∀N',N'.aG n=w.heap.size→N'.ext n=e→N.agree N' (· <n)→OR M N' (· <n+1) (w.alloc obj) n o):
  ∃N',N'.aG n=w.heap.size∧N'.ext n=e∧N.agree N' (· <n)∧Ext M N (· <n) h w M N' (· <n+1) ((n,some o)::h) (w.alloc obj)∧Rel M N' (· <n+1) ((n,some o)::h) (w.alloc obj):=by
 have ha:=N.cW n w.heap.size e
 have hget: ∀i p,AH.get ((n,some o)::h) i=some p→(i=n∧p=o)∨(i<n∧h.get i=some p):=by
  intro i p hi;rw[AH.aA] at hi;split at hi
  ·rename_i hin;exact .inl ⟨hin,by simpa using hi.symm⟩
  ·exact .inr ⟨hr.used i p hi,hi⟩
 refine⟨N.with n w.heap.size e,by simp,by simp,ha,?_,?_⟩
 ·refine⟨rfl,rfl,rfl,by simp,fun b hb _=>wm w obj b hb, .refl _,fun b c h1 h2=>by simp[h1] at h2,ha,fun i hi=>by omega,fun i p hi hre=>?_⟩
  rcases hget i p hi with⟨rfl,rfl⟩|⟨h1,h2⟩
  ·exact .inl (by simp)
  ·exact .inr ⟨i,p,h2,hre,(ha.aG i h1).symm⟩
 ·refine⟨fun b c hb=>?_,fun i p hi=>?_,fun i p hi hre=>?_,fun i p hi=>?_,fun i j p q hi hj hp hq hij=>?_⟩
  ·exact(hr.cZ b c hb).mono (wm w obj b (hr.cZ b c hb).lt)
  ·rcases hget i p hi with⟨rfl,rfl⟩|⟨h1,h2⟩<;>omega
  ·rcases hget i p hi with⟨rfl,rfl⟩|⟨h1,h2⟩
   ·simpa using hr.xw
   ·rw[ha.aG i h1];exact hr.dA i p h2 hre
  ·rcases hget i p hi with⟨rfl,rfl⟩|⟨h1,h2⟩
   ·exact ho _ (by simp) (by simp) ha
   ·cases hre:p.real with
    |true=>exact(hr.obj i p h2).mono (.refl _) ha (fun i hi=>by omega) h1 (wm w obj _ (hr.lt h2 hre))
    |false=>
     cases p with
     |row sz es=>cases es with
      |nil=>exact .inl rfl
      |cons=>cases hre
     |bx l T=>cases l with
      |nil=>exact .inl rfl
      |cons=>cases hre
     |_=>cases hre
  ·rcases hget i p hi with⟨rfl,rfl⟩|⟨h1,h2⟩<;>rcases hget j q hj with⟨rfl,rfl⟩|⟨h3,h4⟩
   ·rfl
   ·rw[ha.aG j h3] at hij;simp at hij;have:=hr.lt h4 hq;omega
   ·rw[ha.aG i h1] at hij;simp at hij;have:=hr.lt h2 hp;omega
   ·rw[ha.aG i h1,ha.aG j h3] at hij;exact hr.inj i j p q h2 h4 hp hq hij
theorem Rel.ER (hr:Rel M N (· <n) h w) (sz:Nat):Ext M N (· <n) h w M N (· <n+1) ((n,some (.row sz []))::h) w∧Rel M N (· <n+1) ((n,some (.row sz []))::h) w:=by
 have hget: ∀i p,AH.get ((n,some (.row sz []))::h) i=some p→(i=n∧p= .row sz [])∨(i<n∧h.get i=some p):=by
  intro i p hi;rw[AH.aA] at hi;split at hi
  ·rename_i hin;exact .inl ⟨hin,by simpa using hi.symm⟩
  ·exact .inr ⟨hr.used i p hi,hi⟩
 refine⟨⟨rfl,rfl,rfl,Wz _,fun _ _ _=>rfl, .refl _,fun b c h1 h2=>by simp[h1] at h2, .refl _ _,fun i hi=>by omega,fun i p hi hre=>?_⟩,⟨hr.cZ,fun i p hi=>?_,fun i p hi hre=>?_,fun i p hi=>?_,fun i j p q hi hj hp hq hij=>?_⟩⟩
 ·rcases hget i p hi with⟨rfl,rfl⟩|⟨h1,h2⟩
  ·cases hre
  ·exact .inr ⟨i,p,h2,hre,rfl⟩
 ·rcases hget i p hi with⟨rfl,rfl⟩|⟨h1,h2⟩<;>omega
 ·rcases hget i p hi with⟨rfl,rfl⟩|⟨h1,h2⟩
  ·cases hre
  ·exact hr.dA i p h2 hre
 ·rcases hget i p hi with⟨rfl,rfl⟩|⟨h1,h2⟩
  ·exact .inl rfl
  ·exact(hr.obj i p h2).mono (.refl _) (.refl _ _) (fun i hi=>by omega) h1 rfl
 ·rcases hget i p hi with⟨rfl,rfl⟩|⟨h1,h2⟩<;>rcases hget j q hj with⟨rfl,rfl⟩|⟨h3,h4⟩
  ·rfl
  ·cases hp
  ·cases hq
  ·exact hr.inj i j p q h2 h4 hp hq hij
theorem Rel.write (hr:Rel M N (· <n) h w) {i:Nat} {o0:AO} (hi:h.get i=some o0) (h0:o0.real=true) (w':World) (o:AO) (hos:w'.os=w.os) (htape:w'.tape=w.tape) (hout:w'.output=w.output) (hsz:w'.heap.size=w.heap.size)
  (hk: ∀b,b≠N.aG i→w'.heap[b]? =w.heap[b]?) (ho:OR M N (· <n) w' i o):
  Ext M N (· <n) h w M N (· <n) ((i,some o)::h) w'∧Rel M N (· <n) ((i,some o)::h) w':=by
 have hget: ∀j p,AH.get ((i,some o)::h) j=some p→(j=i∧p=o)∨(j≠i∧h.get j=some p):=by
  intro j p hj;rw[AH.aA] at hj;split at hj
  ·rename_i hji;exact .inl ⟨hji,by simpa using hj.symm⟩
  ·rename_i hji;exact .inr ⟨hji,hj⟩
 refine⟨⟨hos,htape,hout,by omega,fun b hb hn=>hk b (fun e=>hn i o0 hi h0 e.symm), .refl _,fun b c h1 h2=>by simp[h1] at h2, .refl _ _,fun _ h=>h,fun j p hj hre=>?_⟩,?_⟩
 ·rcases hget j p hj with⟨rfl,rfl⟩|⟨h1,h2⟩
  ·exact .inr ⟨j,o0,hi,h0,rfl⟩
  ·exact .inr ⟨j,p,h2,hre,rfl⟩
 ·refine⟨fun b c hb=>?_,fun j p hj=>?_,fun j p hj hre=>?_,fun j p hj=>?_,fun j k p q hj hk' hp hq hjk=>?_⟩
  ·have hne:b≠N.aG i:=fun e=>by
    have:=hr.dA i o0 hi h0;rw[←e,hb] at this;simp at this
   exact(hr.cZ b c hb).mono (hk b hne)
  ·rcases hget j p hj with⟨rfl,rfl⟩|⟨h1,h2⟩
   ·exact hr.used j o0 hi
   ·exact hr.used j p h2
  ·rcases hget j p hj with⟨rfl,rfl⟩|⟨h1,h2⟩
   ·exact hr.dA j o0 hi h0
   ·exact hr.dA j p h2 hre
  ·rcases hget j p hj with⟨rfl,rfl⟩|⟨h1,h2⟩
   ·exact ho
   ·cases hre:p.real with
    |true=>exact(hr.obj j p h2).mono (.refl _) (.refl _ _) (fun _ h=>h) (hr.used j p h2) (hk _ (fun e=>h1 (hr.inj j i p o0 h2 hi hre h0 e)))
    |false=>
     cases p with
     |row sz es=>cases es with
      |nil=>exact .inl rfl
      |cons=>cases hre
     |bx l T=>cases l with
      |nil=>exact .inl rfl
      |cons=>cases hre
     |_=>cases hre
  ·rcases hget j p hj with⟨rfl,rfl⟩|⟨h1,h2⟩<;>rcases hget k q hk' with⟨rfl,rfl⟩|⟨h3,h4⟩
   ·rfl
   ·exact hr.inj _ _ _ _ hi h4 h0 hq hjk
   ·exact hr.inj _ _ _ _ h2 hi hp h0 hjk
   ·exact hr.inj _ _ _ _ h2 h4 hp hq hjk
end
def yy (ty:Ty) (s:AS) (t:TypeId) (p x:PV):Option AS:=
 match ty t with
 |some e=>match x.cells with
  |some xs=>match WO xs.length e.size,fv xs with
   |true,true=>match p with
    | .ptr i off=>match s.h.get i with
     |some (.cells cs T0)=>match YG (off+xs.length) cs.length with
      |true=>match s with
       |⟨f,h,n⟩=>force (setCells cs off xs) fun cs'=>some ⟨f,(i,some (.cells cs' T0))::h,n⟩
      |false=>none
     |_=>none
    |_=>none
   |_,_=>none
  |none=>none
 |none=>none
def newObj (s:AS) (o:AO):AS:=match s with|⟨f,h,n⟩=>⟨f,(n,some o)::h,n+1⟩
def nw (s:AS) (g:Nat→PV) (o:AO):Option (PV×AS):=match s with|⟨f,h,n⟩=>some (g n,⟨f,(n,some o)::h,n+1⟩)
theorem sv (s:AS) (g:Nat→PV) (o:AO):nw s g o=some (g s.nx,newObj s o):=by cases s;rfl
def vt:Nat→List PV→List PV
 |0,_=> []
 |n+1,l=>l++vt n l
theorem jP: ∀(n:Nat) (l:List PV),(vt n l).length=n*l.length
 |0,l=>by simp[vt]
 |n+1,l=>by simp[vt,jP n l,YH,Nat.add_comm]
theorem xa: ∀(n:Nat) (l:List PV) (j:Nat) (p:PV),(vt n l)[j]? =some p→l[j % l.length]? =some p
 |0,l,j,p,h=>by simp[vt] at h
 |n+1,l,j,p,h=>by
  simp only[vt] at h;rcases W9 j l.length with hj|hj
  ·rw[WH hj] at h
   rw[Yj hj];exact h
  ·rw[WJ hj] at h
   have:=xa n l _ p h;rwa[Nat.mod_eq_sub_mod hj]
def lH (sz:Nat):Nat→List PV→List (List PV)
 |0,_=> []
 |n+1,cs=>cs.take sz::lH sz n (cs.drop sz)
def wb {α:Type _} (sz:Nat):Nat→List PV→(List (List PV)→α)→α
 |0,_,k=>k []
 |n+1,cs,k=>force (cs.take sz) fun c=>force (cs.drop sz) fun d=>wb sz n d fun r=>k (c::r)
theorem u1 {α:Type _} (sz:Nat): ∀(n:Nat) (cs:List PV) (k:List (List PV)→α),wb sz n cs k=k (lH sz n cs)
 |0,_,_=>rfl
 |n+1,cs,k=>by simp only[wb,force_eq,u1 sz n,lH]
theorem nK (sz:Nat): ∀(n:Nat) (cs:List PV),(lH sz n cs).length=n
 |0,_=>rfl
 |n+1,cs=>by simp[lH,nK sz n]
theorem lG (sz:Nat): ∀(n:Nat) (cs:List PV) (k:Nat) (e:List PV),cs.length=n*sz→(lH sz n cs)[k]? =some e→e.length=sz∧ ∀j,j<sz→e[j]? =cs[k*sz+j]?
 |0,cs,k,e,_,h=>by simp[lH] at h
 |n+1,cs,k,e,hl,h=>by
  simp only[lH] at h;rw[YH] at hl
  cases k with
  |zero=>
   simp at h;subst h
   refine⟨by simp;omega,fun j hj=>by simp[hj]⟩
  |succ k=>
   obtain⟨h1,h2⟩:=lG sz n (cs.drop sz) k e (by simp;omega) (by simpa using h);refine⟨h1,fun j hj=>?_⟩;rw[h2 j hj,Xx,YH];congr 1;omega
def Po (ty:Ty) (e:aB):Bool:=
 match e.k with
 | .aU ((0,u)::_)=>match ty u with
  |some ⟨.aU ((0,q)::_),_,_,_,_⟩=>match ty q with
   |some ⟨.ai (.pointer v),_,_,_,_⟩=>WO u v
   |_=>false
  |_=>false
 |_=>false
def Uv (ty:Ty) (t:TypeId):Bool:=
 match ty t with
 |some e=>Po ty e
 |none=>false
def Ce (ty:Ty) (s:AS):Op→Option (PV×AS)
 | .alloc t=>match ty t with
  |some e=>match Po ty e with
   |true=>force (bW e.zero) fun cs=>nw s (fun n=> .ptr n 0) (.cells cs (some t))
   |false=>force (bW e.zero) fun cs=>nw s (fun n=> .ptr n 0) (.cells cs)
  |none=>none
 | .box t x=>match(ev s.f x).cells with
  |some cs=>match fv cs with
   |true=>match Uv ty t with
    |true=>force cs fun cs'=>nw s (fun n=> .ptr n 0) (.cells cs' (some t))
    |false=>force cs fun cs'=>nw s (fun n=> .ptr n 0) (.cells cs')
   |false=>none
  |none=>none
 | .store t a x=>match yy ty s t (ev s.f a) (ev s.f x) with
  |some s'=>some (.any,s')
  |none=>none
 | .makeMap _ none=>nw s (fun n=> .mp n) .eE
 | .makeMap t (some r)=>match ev s.f r,ty t with
  | .iv (.v (.int _ _)),some ⟨.ai (.map _ _),_,_,_,_⟩=>nw s (fun n=> .mp n) .eE
  |_,_=>none
 | .range t x=>match ev s.f x,ty t with
  | .iv (.dK kc e _ _ m),some ⟨.ai (.map _ _),_,_,_,_⟩=>nw s (fun n=> .ptr n 0) (.bq kc e m [] none)
  |_,_=>none
 | .buildSlice t len parts=>match ty t with
  |some e=>match e.k with
   | .ai (.slice u)=>match ty u with
    |some eu=>match WO eu.zero.cells.size eu.size,WU 0 (len*eu.size),YG (len*eu.size) 16777216 with
     |true,true,true=>match nI (fun i=>some (i*eu.size,eu.size)) (vt len (bW eu.zero)) (parts.toList.map fun x=>(x.1,ev s.f x.2)) with
      |some cs=>wb eu.size len cs fun es=>nw s (fun n=> .sl n 0 len eu.size) (.row eu.size es)
      |none=>none
     |_,_,_=>none
    |none=>none
   |_=>none
  |none=>none
 |_=>none
section
variable {P:Program} {ty:Ty} {nt:Nat} {s:AS}
theorem di {M:Mem} {N:Nm} {a:Act} {w:World} (hf:Fits M N s nt a w) {obj:Obj} {o:AO} {N':Nm} (hx:Ext M N (· <s.nx) s.h w M N' (· <s.nx+1) ((s.nx,some o)::s.h) (w.alloc obj))
  (hr:Rel M N' (· <s.nx+1) ((s.nx,some o)::s.h) (w.alloc obj)):Fits M N' (newObj s o) nt a (w.alloc obj):=
 ⟨hr,hf.2.1.ext hx,hf.2.2⟩
theorem OT.value {o:Oper} {s1 s':AS} {p:PV} (hp:putDst nt o p s1=some s')
  (h: ∀M N a w,Fits M N s nt a w→ ∃x w' M' N',(execOp a.eval o).run P w= .ok (.value x) w'∧Ext M N (· <s.nx) s.h w M' N' (· <s1.nx) s1.h w'∧Fits M' N' s1 nt a w'∧VR M' N' (· <s1.nx) p x):OT P nt o s (fun t=>t=s'):=by
 intro M N a w hf K Z hk;obtain⟨x,w',M',N',hx,he,hf',hv⟩:=h M N a w hf;unfold Oper.wp;rw[hx];simp only[Oper.upon]
 cases hd:o.dst with
 |none=>
  have:=dM hp hd;subst this
  exact hk M' N' s' _ w' he hf' rfl
 |some d=>
  obtain⟨h1,rfl⟩:=dL hp hd;exact hk M' N' {s1 with f:=(d,p)::s1.f} _ w' he (hf'.put d p x h1 hv) rfl
theorem OT.skip {o:Oper} {s1 s':AS} (hp:putDst nt o .any s1=some s')
  (h: ∀M N a w,Fits M N s nt a w→ ∃w' M' N',(execOp a.eval o).run P w= .ok .skip w'∧Ext M N (· <s.nx) s.h w M' N' (· <s1.nx) s1.h w'∧Fits M' N' s1 nt a w'):OT P nt o s (fun t=>t=s'):=by
 intro M N a w hf K Z hk;obtain⟨w',M',N',hx,he,hf'⟩:=h M N a w hf;unfold Oper.wp;rw[hx];simp only[Oper.upon]
 cases hd:o.dst with
 |none=>
  have:=dM hp hd;subst this
  exact hk M' N' s' _ w' he hf' rfl
 |some d=>
  obtain⟨h1,rfl⟩:=dL hp hd;exact hk M' N' {s1 with f:=(d, .any)::s1.f} _ w' he (hf'.put d .any undef h1 (.any _)) rfl
theorem A9 (hty:bE P ty) {t:TypeId} {p x:PV} {s1:AS} (h:yy ty s t p x=some s1) {M:Mem} {N:Nm} {a:Act} {w:World} (hf:Fits M N s nt a w) {u y:Value} (hu:VR M N (· <s.nx) p u) (hy:VR M N (· <s.nx) x y):
  ∃w',(Instr.storeAt t u y).run P w= .ok () w'∧Ext M N (· <s.nx) s.h w M N (· <s1.nx) s1.h w'∧Fits M N s1 nt a w':=by
 unfold yy at h;split at h
 ·rename_i e he
  split at h
  ·rename_i xs hxs
   split at h
   ·rename_i h1 h2
    split at h
    ·rename_i i off
     split at h
     ·rename_i cs T0 hcs
      split at h
      ·rename_i hle
       obtain⟨sf,sh,sn⟩:=s;simp only[force_eq,Wo] at h;subst h;simp only at hcs
       cases hu with
       |ptr _ _ hU=>
        obtain⟨hl,hv⟩:=pr hy hxs;have hsz:y.cells.size=e.size:=by rw[←hl];exact WK h1
        obtain⟨c,T,g1,g2,g3,g4,g5⟩:=hf.1.obj i _ hcs;have hle':off+xs.length≤c.size:=by rw[←g3];exact Wj hle
        have hone: ∀v∈y.cells.toList,v.oneCell'=true:=by
         intro v hvm;obtain⟨j,hj⟩:=W6 hvm;have hjl:j<y.cells.toList.length:=(Wr.1 hj).1;have hjx:xs[j]? =some (xs[j]'(by simp at hjl;omega)):=Wt _;have:=(hv j _ hjx).one (iP h2 j _ hjx);rw[Wm] at this;have hj':y.cells[j]? =some v:=by simpa using hj
         rw[hj'] at this;exact this
        have hrun:=run_storeCells_at P (N.aG i) off T y.cells.toList 0 c w g1 (by simp;omega) hone;refine⟨w.setRow (N.aG i) (c.toList.take (off+0)++y.cells.toList++c.toList.drop (off+0+y.cells.toList.length)).toArray,?_,?_⟩
        ·have hsize:=bw (w:=w) (hty t e he)
         simp only[Instr.storeAt,Instr.sureAddr,pure_bind,storeVar,Sem.run_bind,hsize,Result.andThen_ok,hsz,ne_eq,not_true_eq_false,if_false,hrun]
        ·have hrow:=setRow_heap w (N.aG i) c (c.toList.take (off+0)++y.cells.toList++c.toList.drop (off+0+y.cells.toList.length)).toArray T (0,0) g1
         have hoff: ∀b,b≠N.aG i→(w.setRow (N.aG i) (c.toList.take (off+0)++y.cells.toList++c.toList.drop (off+0+y.cells.toList.length)).toArray).heap[b]? =w.heap[b]? :=by
          intro b hb;simp only[World.setRow,W8];rw[if_neg (fun e=>hb e.symm)]
         have:=hf.1.write hcs rfl (w.setRow (N.aG i) (c.toList.take (off+0)++y.cells.toList++c.toList.drop (off+0+y.cells.toList.length)).toArray) (.cells (setCells cs off xs) T0) rfl rfl rfl (by simp) hoff
          ⟨_,T,hrow,by simp;omega,by rw[dW];simp;omega,fun j q hq=>?_,g5⟩
         ·exact⟨this.1,this.2,hf.2.1,hf.2.2⟩
         ·rcases iz cs off xs j q hq with⟨k1,k2⟩|⟨k1,k2⟩
          ·have:=hv _ _ k2
           have hjl:j-off<xs.length:=(Wr.1 k2).1;rw[Wm] at this ⊢
           have e1:(c.toList.take (off+0)++y.cells.toList++c.toList.drop (off+0+y.cells.toList.length)).toArray[j]? =y.cells[j-off]? :=by
            simp only[Xv];rw[WH (by simp;omega),WJ (by simp;omega)];simp only[Xb,Array.length_toList,Xh];congr 1;omega
           rw[e1];exact this
          ·have:=g4 _ _ k2
           rw[Wm] at this ⊢
           have e1:(c.toList.take (off+0)++y.cells.toList++c.toList.drop (off+0+y.cells.toList.length)).toArray[j]? =c[j]? :=by
            simp only[Xv];rcases k1 with k1|k1
            ·rw[Wv,WH (by simp;omega),W7,if_pos (by omega),Xh]
            ·rw[WJ (by simp;omega),Xx,Xh]
             congr 1;simp;omega
           rw[e1];exact this
      ·cases h
     ·cases h
    ·cases h
   ·cases h
  ·cases h
 ·cases h
theorem yU (hty:bE P ty) {o:Oper} {p:PV} {s1 s':AS} (h:Ce ty s o.op=some (p,s1)) (hp:putDst nt o p s1=some s'):OT P nt o s (fun t=>t=s'):=by
 cases ho:o.op with
 |alloc t=>
  rw[ho] at h;simp only[Ce,sv] at h;split at h
  ·rename_i e he
   obtain⟨T0,hT0,h⟩: ∃T0,wD T0 t∧some (PV.ptr s.nx 0,newObj s (.cells (bW e.zero) T0))=some (p,s1):=by
    split at h
    ·exact⟨some t,fun x hx=>by cases hx;rfl,by rw[←h,force_eq]⟩
    ·exact⟨none, .none _,by rw[←h,force_eq]⟩
   simp only[Wo,WA] at h;obtain⟨rfl,rfl⟩:=h;refine OT.value hp fun M N a w hf=>?_
   obtain⟨N',h1,h2,h3,h4,h5⟩:=hf.1.alloc (.cells e.zero.cells t) (.cells (bW e.zero) T0) e.zero.cells.size (fun N' g1 g2 g3=>
    ⟨e.zero.cells,t,by rw[g1];exact heap_alloc_new w _,g2.symm,(ec (M:=M) (N:=N') (U:=(· <s.nx+1)) e.zero).1,(ec e.zero).2,hT0⟩)
   refine⟨.pointer (some ⟨w.heap.size,0,none⟩),_,M,N',?_,h4,di hf h4 h5,?_⟩
   ·simp only[execOp,ho]
    have hz:=cX (w:=w) (hty t e he);simp[Instr.alloc,hz,newVar,newRow]
   ·have:=VR.ptr (M:=M) (N:=N') (U:=(· <s.nx+1)) s.nx 0 (by omega)
    rw[h1] at this;exact this
  ·cases h
 |box t x=>
  rw[ho] at h;simp only[Ce,sv] at h;split at h
  ·rename_i cs hcs
   split at h
   ·rename_i hone
    obtain⟨T0,hT0,h⟩: ∃T0,wD T0 t∧some (PV.ptr s.nx 0,newObj s (.cells cs T0))=some (p,s1):=by
     split at h
     ·exact⟨some t,fun x hx=>by cases hx;rfl,by rw[←h,force_eq]⟩
     ·exact⟨none, .none _,by rw[←h,force_eq]⟩
    simp only[Wo,WA] at h;obtain⟨rfl,rfl⟩:=h;refine OT.value hp fun M N a w hf=>?_;obtain⟨hl,hv⟩:=pr (aS hf.2.1 x) hcs
    obtain⟨N',h1,h2,h3,h4,h5⟩:=hf.1.alloc (.cells (a.eval x).cells t) (.cells cs T0) (a.eval x).cells.size (fun N' g1 g2 g3=>
     ⟨(a.eval x).cells,t,by rw[g1];exact heap_alloc_new w _,g2.symm,hl,fun j q hq=>(hv j q hq).mono (.refl _) g3 (fun i hi=>by omega),hT0⟩)
    refine⟨.pointer (some ⟨w.heap.size,0,none⟩),_,M,N',?_,h4,di hf h4 h5,?_⟩
    ·simp only[execOp,ho]
     simp[Instr.box,newVar,newRow]
    ·have:=VR.ptr (M:=M) (N:=N') (U:=(· <s.nx+1)) s.nx 0 (by omega)
     rw[h1] at this;exact this
   ·cases h
  ·cases h
 |store t a x=>
  rw[ho] at h;simp only[Ce,sv] at h;split at h
  ·rename_i s2 hs
   simp only[Wo,WA] at h;obtain⟨rfl,rfl⟩:=h;refine OT.skip hp fun M N b w hf=>?_;obtain⟨w',h1,h2,h3⟩:=A9 (P:=P) hty hs hf (aS hf.2.1 a) (aS hf.2.1 x);refine⟨w',M,N,?_,h2,h3⟩;simp only[execOp,ho];simp[h1]
  ·cases h
 |makeMap t r=>
  rw[ho] at h
  cases r with
  |some r=>
   simp only[Ce,sv] at h;split at h
   ·rename_i q n _ _ _ _ _ _ hr he
    have hu:=(hty _ _ he).2.1.1;simp only[Wo,WA] at h;obtain⟨rfl,rfl⟩:=h;refine OT.value hp fun M N a w hf=>?_
    obtain⟨N',h1,h2,h3,h4,h5⟩:=hf.1.alloc (.map #[] 0) .eE 0 (fun N' g1 g2 g3=>
     (by rw[g1];exact heap_alloc_new w _:(w.alloc (.map #[] 0)).heap[N'.aG s.nx]? =_))
    have hrv:=aS hf.2.1 r;rw[hr] at hrv
    have hri:a.eval r= .int q n:=by
     generalize a.eval r=y at hrv
     cases hrv with
     |iv _ _ h=>cases h;rfl
    refine⟨.map (some w.heap.size),_,M,N',?_,h4,di hf h4 h5,?_⟩
    ·simp only[execOp,ho]
     simp[Instr.makeMap,hri,run_underlying hu,asInt,asIntOf]
    ·have:=VR.mp (M:=M) (N:=N') (U:=(· <s.nx+1)) s.nx (by omega)
     rw[h1] at this;exact this
   ·cases h
  |none=>
   simp only[Ce,sv,Wo,WA] at h;obtain⟨rfl,rfl⟩:=h;refine OT.value hp fun M N a w hf=>?_
   obtain⟨N',h1,h2,h3,h4,h5⟩:=hf.1.alloc (.map #[] 0) .eE 0 (fun N' g1 g2 g3=>
    (by rw[g1];exact heap_alloc_new w _:(w.alloc (.map #[] 0)).heap[N'.aG s.nx]? =_))
   refine⟨.map (some w.heap.size),_,M,N',?_,h4,di hf h4 h5,?_⟩
   ·simp only[execOp,ho]
    simp[Instr.makeMap]
   ·have:=VR.mp (M:=M) (N:=N') (U:=(· <s.nx+1)) s.nx (by omega)
    rw[h1] at this;exact this
 |range t x=>
  rw[ho] at h;simp only[Ce,sv] at h;split at h
  ·rename_i V kc e z zv m kt et _ _ _ _ hev he
   have hu:=(hty _ _ he).2.1.1;simp only[Wo,WA] at h;obtain⟨rfl,rfl⟩:=h;refine OT.value hp fun M N a w hf=>?_;have hx:=aS hf.2.1 x;rw[hev] at hx;generalize hv:a.eval x=y at hx
   cases hx with
   |iv _ _ hi=>cases hi with
    |dK _ _ _ _ _ b ents clock hb hs hk hv' hz hi' hc=>
     obtain⟨N',h1,h2,h3,h4,h5⟩:=hf.1.alloc (.mapIter (some b) clock #[] clock) (.bq kc e m [] none) 0 (fun N' g1 g2 g3=>
      .inr ⟨b,ents,clock, #[],by rw[g1];exact heap_alloc_new w _,hb,⟨hs,hk,hv',hi',hc⟩,rfl,by simp,Xk,by simp⟩)
     have hheap:w.heap[b]? =some (.map ents clock):=hf.1.cZ _ _ hb;refine⟨.pointer (some ⟨w.heap.size,0,none⟩),_,M,N',?_,h4,di hf h4 h5,?_⟩
     ·simp only[execOp,ho,hv]
      simp[Instr.range,run_underlying hu,getObj,Sem.run,hheap,Result.andThen]
     ·have:=VR.ptr (M:=M) (N:=N') (U:=(· <s.nx+1)) s.nx 0 (by omega)
      rw[h1] at this;exact this
  ·cases h
 |buildSlice t len parts=>
  rw[ho] at h;simp only[Ce,sv] at h;split at h
  ·rename_i e he
   split at h
   ·rename_i u hk
    split at h
    ·rename_i eu heu
     split at h
     ·rename_i hb1 hb2 hb3
      split at h
      ·rename_i cs hcs
       rw[u1] at h;simp only[Wo,WA] at h;obtain⟨rfl,rfl⟩:=h;have hz1:eu.zero.cells.size=eu.size:=WK hb1;have hz2:0<len*eu.size:=Wj hb2;have hz3:len*eu.size≤16777216:=Wj hb3;have hs0:0<eu.size:=Nat.pos_of_ne_zero fun e=>by simp[e] at hz2
       have hl0:0<len:=Nat.pos_of_ne_zero fun e=>by simp[e] at hz2
       have hle:len≤len*eu.size:=Nat.le_mul_of_pos_right _ hs0;have hty':=(hty t e he).2.1;rw[hk] at hty';refine OT.value hp fun M N a w hf=>?_;have hzl:(bW eu.zero).length=eu.size:=by rw[(ec (M:=M) (N:=N) (U:=(· <s.nx)) eu.zero).1,hz1]
       obtain⟨ys',h3,h4⟩:=pd (M:=M) (N:=N) (U:=(· <s.nx)) (vals:=(parts.map fun x=>(x.1,a.eval x.2)).toList) (ys:=(Zs (len*eu.size)).map (eu.zero.cells[· % eu.zero.cells.size]!)) hcs (by simp) (fun j x y hx hy=>by
        rw[Ww,Wx] at hx;obtain⟨z,hz,rfl⟩:=hx;have hz':parts[j]? =some z:=by simpa using hz
        have:some (z.1,a.eval z.2)=some y:=by rw[←hy];simp[hz']
        simp only[Wo] at this;subst this
        exact⟨rfl,aS hf.2.1 z.2⟩) (by
        refine⟨by rw[jP,hzl];simp,fun j p hj=>?_⟩;have h5:=xa _ _ _ _ hj
        have hjl:j<len*eu.size:=by
         have:=(Wr.1 hj).1;rwa[jP,hzl] at this
        rw[hzl] at h5;have h6:=(ec (M:=M) (N:=N) (U:=(· <s.nx)) eu.zero).2 _ _ h5
        have h7:((Zs (len*eu.size)).map (eu.zero.cells[· % eu.zero.cells.size]!)).getD j undef=eu.zero.cells.getD (j % eu.size) undef:=by
         have hm:j % eu.size<eu.zero.cells.size:=by rw[hz1];exact Nat.mod_lt _ hs0
         have hx:(Zs (len*eu.size))[j]? =some j:=by simp[hjl]
         rw[Wm,Yw,hx];simp only[Xy,XM,hz1];rw[Wm,getElem!_pos eu.zero.cells (j % eu.size) hm,Xa hm];rfl
        rw[h7];exact h6)
       have hcl:cs.length=len*eu.size:=by
        have:(vt len (bW eu.zero)).length=cs.length:=by
         have:=pe hcs;exact this.symm
        rw[←this,jP,hzl]
       have hys:ys'.size=len*eu.size:=by rw[←h4.1,hcl]
       obtain⟨N',h1,h2,h8,h9,h10⟩:=hf.1.alloc (.cells ys' u) (.row eu.size (lH eu.size len cs)) ys'.size (fun N' g1 g2 g3=>
        .inr ⟨hs0,ys',u,by rw[g1];exact heap_alloc_new w _,g2.symm,by rw[nK,hys];exact Wz _,fun k e hk=>(lG _ _ _ _ _ hcl hk).1,fun k e j p hk hj=>by
         have hjs:j<eu.size:=by rw[←(lG _ _ _ _ _ hcl hk).1];exact(Wr.1 hj).1
         have:=(lG _ _ _ _ _ hcl hk).2 j hjs;rw[hj] at this
         exact(h4.2 _ _ this.symm).mono (.refl _) g3 (fun i hi=>by omega)⟩)
       refine⟨.slice (some ⟨w.heap.size,0,none⟩) len len,_,M,N',?_,h9,di hf h9 h10,?_⟩
       ·simp only[execOp,ho]
        have hz:=cX (w:=w) (hty u eu heu);have hsz:=bw (w:=w) (hty u eu heu);have hne: ¬len*eu.size=0:=by omega
        have hng: ¬len*eu.size>2 ^ 24:=by omega
        simp only[Instr.buildSlice,Sem.run_bind,run_underlying hty'.1,Result.andThen_ok,hsz,if_neg hng,if_neg hne,hz,Sem.run_pure];rw[h3];simp[newRow]
       ·have:=VR.sl (M:=M) (N:=N') (U:=(· <s.nx+1)) s.nx 0 len eu.size len (by omega) hl0 (Wz _) (by simp only[maxLen];omega) (by rw[h2,hys];simp)
        rw[h1,X0] at this;exact this
      ·cases h
     ·cases h
    ·cases h
   ·cases h
  ·cases h
 |_=>rw[ho] at h;simp[Ce] at h
end
end Go.Al
namespace Go.Al
mutual
def PV.cL (σ:Nat→Nat):PV→PV
 | .iv x=> .iv x
 | .agg cs=> .agg (dJ σ cs)
 | .bP cs=> .bP (dJ σ cs)
 | .ptr i off=> .ptr (σ i) off
 | .c4 i sz k off=> .c4 (σ i) sz k off
 | .eC z i=> .eC z (σ i)
 | .sl i off len sz=> .sl (σ i) off len sz
 | .mp i=> .mp (σ i)
 | .cH fn first caps=> .cH fn (dJ σ first) (dJ σ caps)
 | .kb b=> .kb b
 | .any=> .any
def dJ (σ:Nat→Nat):List PV→List PV
 | []=> []
 |p::r=>PV.cL σ p::dJ σ r
end
theorem bF (σ:Nat→Nat): ∀l:List PV,dJ σ l=l.map (PV.cL σ)
 | []=>rfl
 |p::r=>by simp[dJ,bF σ r]
def AO.cL (σ:Nat→Nat):AO→AO
 | .cells cs T=> .cells (dJ σ cs) T
 | .row sz es=> .row sz (es.map (dJ σ))
 | .bx l T=> .bx l T
 | .eE=> .eE
 | .map kc ev z zv dv m=> .map kc ev z zv dv m
 | .bq kc ev m l cu=> .bq kc ev m l cu
 | .dt s p=> .dt s p
theorem AO.bQ (σ:Nat→Nat) (o:AO):(o.cL σ).real=o.real:=by
 cases o with
 |row sz es=>cases es<;>rfl
 |bx l T=>cases l<;>rfl
 |_=>rfl
def vu (σ:Nat→Nat):AH→AH
 | []=> []
 |(i,none)::r=>(σ i,none)::vu σ r
 |(i,some o)::r=>(σ i,some (o.cL σ))::vu σ r
def Nm.comp (N:Nm) (σ:Nat→Nat):Nm:={aG:=fun i=>N.aG (σ i),ext:=fun i=>N.ext (σ i)}
section
variable {M:Mem} {N:Nm} {U:Nat→Prop} {σ:Nat→Nat}
theorem VR.cL {p:PV} {x:Value} (h:VR M (N.comp σ) (fun i=>U (σ i)) p x):VR M N U (p.cL σ) x:=by
 induction h with
 |iv x y h=>exact .iv x y h
 |agg cs ys hl hr ih=>
  refine .agg _ _ (by simpa[bF] using hl) (fun j p hp=>?_);rw[bF,Ww,Wx] at hp;obtain⟨q,hq,rfl⟩:=hp
  exact ih j q hq
 |bP cs ys hl hr ih=>
  refine .bP _ _ (by simpa[bF] using hl) (fun j p hp=>?_);rw[bF,Ww,Wx] at hp;obtain⟨q,hq,rfl⟩:=hp
  exact ih j q hq
 |ptr i off h=>exact .ptr _ _ h
 |c4 i sz k off h=>exact .c4 _ _ _ _ h
 |eC z i h=>exact .eC _ _ h
 |sl i off len sz cap h h0 hl hc he=>exact .sl _ _ _ _ _ h h0 hl hc he
 |lQ i sz h=>exact .lQ _ _ h
 |sle i sz cap h hc he=>exact .sle _ _ _ h hc he
 |mp i h=>exact .mp _ h
 |cH fn first caps f' c' h1 h2 hr1 hr2 ih1 ih2=>
  refine .cH _ _ _ _ _ (by simpa[bF] using h1) (by simpa[bF] using h2) (fun j p hp=>?_) (fun j p hp=>?_)
  ·rw[bF,Ww,Wx] at hp
   obtain⟨q,hq,rfl⟩:=hp;exact ih1 j q hq
  ·rw[bF,Ww,Wx] at hp
   obtain⟨q,hq,rfl⟩:=hp
   exact ih2 j q hq
 |kb b=>exact .kb b
 |any x=>exact .any x
theorem VR.rW: ∀{q:PV} {x:Value},VR M N U q x→ ∀{p:PV},q=p.cL σ→VR M (N.comp σ) (fun i=>U (σ i)) p x:=by
 intro q x h
 induction h with
 |iv x y h=>intro p hp;cases p<;>simp[PV.cL] at hp;subst hp;exact .iv _ _ h
 |agg cs ys hl hr ih=>
  intro p hp;cases p<;>simp[PV.cL] at hp;subst hp
  refine .agg _ _ (by simpa[bF] using hl) (fun j p hj=>ih j (p.cL σ) (by rw[bF,Ww,hj];rfl) rfl)
 |bP cs ys hl hr ih=>
  intro p hp;cases p<;>simp[PV.cL] at hp;subst hp
  refine .bP _ _ (by simpa[bF] using hl) (fun j p hj=>ih j (p.cL σ) (by rw[bF,Ww,hj];rfl) rfl)
 |ptr i off h=>intro p hp;cases p<;>simp[PV.cL] at hp;obtain⟨rfl,rfl⟩:=hp;exact VR.ptr (N:=N.comp σ) (U:=fun i=>U (σ i)) _ _ h
 |c4 i sz k off h=>intro p hp;cases p<;>simp[PV.cL] at hp;obtain⟨rfl,rfl,rfl,rfl⟩:=hp;exact VR.c4 (N:=N.comp σ) (U:=fun i=>U (σ i)) _ _ _ _ h
 |eC z i h=>intro p hp;cases p<;>simp[PV.cL] at hp;obtain⟨rfl,rfl⟩:=hp;exact VR.eC (N:=N.comp σ) (U:=fun i=>U (σ i)) _ _ h
 |sl i off len sz cap h h0 hl hc he=>intro p hp;cases p<;>simp[PV.cL] at hp;obtain⟨rfl,rfl,rfl,rfl⟩:=hp;exact VR.sl (N:=N.comp σ) (U:=fun i=>U (σ i)) _ _ _ _ _ h h0 hl hc he
 |lQ i sz h=>intro p hp;cases p<;>simp[PV.cL] at hp;obtain⟨rfl,rfl,rfl,rfl⟩:=hp;exact VR.lQ (N:=N.comp σ) (U:=fun i=>U (σ i)) _ _ h
 |sle i sz cap h hc he=>intro p hp;cases p<;>simp[PV.cL] at hp;obtain⟨rfl,rfl,rfl,rfl⟩:=hp;exact VR.sle (N:=N.comp σ) (U:=fun i=>U (σ i)) _ _ _ h hc he
 |mp i h=>intro p hp;cases p<;>simp[PV.cL] at hp;subst hp;exact VR.mp (N:=N.comp σ) (U:=fun i=>U (σ i)) _ h
 |cH fn first caps f' c' h1 h2 hr1 hr2 ih1 ih2=>
  intro p hp;cases p<;>simp[PV.cL] at hp;obtain⟨rfl,rfl,rfl⟩:=hp
  refine .cH _ _ _ _ _ (by simpa[bF] using h1) (by simpa[bF] using h2) (fun j p hj=>ih1 j (p.cL σ) (by rw[bF,Ww,hj];rfl) rfl) (fun j p hj=>ih2 j (p.cL σ) (by rw[bF,Ww,hj];rfl) rfl)
 |kb b=>intro p hp;cases p<;>simp[PV.cL] at hp;subst hp;exact .kb _
 |any x=>intro p hp;cases p<;>simp[PV.cL] at hp;exact .any _
theorem OR.cL {w:World} {i:Nat} {o:AO} (h:OR M (N.comp σ) (fun i=>U (σ i)) w i o):OR M N U w (σ i) (o.cL σ):=by
 cases o with
 |cells cs T0=>
  obtain⟨c,T,h1,h2,h3,h4,h5⟩:=h;refine⟨c,T,h1,h2,by simpa[bF] using h3,fun j p hp=>?_,h5⟩;rw[bF,Ww,Wx] at hp;obtain⟨q,hq,rfl⟩:=hp
  exact(h4 j q hq).cL
 |row sz es=>
  rcases h with rfl|⟨h0,c,T,h1,h2,h3,h4,h5⟩
  ·exact .inl rfl
  refine .inr ⟨h0,c,T,h1,h2,by simpa using h3,fun k e he=>?_,fun k e j p he hp=>?_⟩
  ·rw[Ww,Wx] at he
   obtain⟨e0,he0,rfl⟩:=he;rw[bF,W3];exact h4 k e0 he0
  ·rw[Ww,Wx] at he
   obtain⟨e0,he0,rfl⟩:=he;rw[bF,Ww,Wx] at hp;obtain⟨q,hq,rfl⟩:=hp
   exact(h5 k e0 j q he0 hq).cL
 |bx l T=>exact h
 |eE=>exact h
 |map kc ev z zv dv m=>exact h
 |bq kc ev m l cu=>exact h
 |dt s p=>exact h
theorem OR.rW {w:World} {i:Nat} {o:AO} (h:OR M N U w (σ i) (o.cL σ)):OR M (N.comp σ) (fun i=>U (σ i)) w i o:=by
 cases o with
 |cells cs T0=>
  obtain⟨c,T,h1,h2,h3,h4,h5⟩:=h
  exact⟨c,T,h1,h2,by simpa[bF] using h3,fun j p hp=>(h4 j (p.cL σ) (by rw[bF,Ww,hp];rfl)).rW rfl,h5⟩
 |row sz es=>
  rcases h with h|⟨h0,c,T,h1,h2,h3,h4,h5⟩
  ·exact .inl (by simpa using h)
  refine .inr ⟨h0,c,T,h1,h2,by simpa using h3,fun k e he=>?_,fun k e j p he hp=>?_⟩
  ·have:=h4 k (dJ σ e) (by rw[Ww,he];rfl)
   simpa[bF] using this
  ·exact(h5 k (dJ σ e) j (p.cL σ) (by rw[Ww,he];rfl) (by rw[bF,Ww,hp];rfl)).rW rfl
 |bx l T=>exact h
 |eE=>exact h
 |map kc ev z zv dv m=>exact h
 |bq kc ev m l cu=>exact h
 |dt s p=>exact h
end
def sig (L:List Nat) (n:Nat) (i:Nat):Nat:=bif WU i L.length then L.getD i 0 else n+(i-L.length)
theorem ik {L:List Nat} {n i:Nat} (h:i<L.length):sig L n i=L[i]:=by
 have:WU i L.length=true:=Xi h;simp[sig,this,h]
theorem nT {L:List Nat} {n i:Nat} (h:L.length≤i):sig L n i=n+(i-L.length):=by
 have:WU i L.length=false:=by
  cases hb:WU i L.length with
  |false=>rfl
  |true=>have:=Wj hb;omega
 simp[sig,this]
theorem sc {σ:Nat→Nat}: ∀(h:AH) (j:Nat) (o:AO),(vu σ h).get j=some o→(∀i k,i∈h.map WT→σ i=σ k→i=k)→ ∃i p,j=σ i∧h.get i=some p∧o=p.cL σ
 | [],j,o,hj,_=>by simp[vu,AH.get] at hj
 |(i,none)::r,j,o,hj,hi=>by
  simp only[vu] at hj;rw[AH.aA] at hj;split at hj
  ·cases hj
  ·rename_i hne
   obtain⟨k,p,h1,h2,h3⟩:=sc r j o hj (fun a b ha=>hi a b (WE _ ha));refine⟨k,p,h1,?_,h3⟩
   rw[AH.aA,if_neg (fun e=>hne (by rw[h1,e]))];exact h2
 |(i,some q)::r,j,o,hj,hi=>by
  simp only[vu] at hj;rw[AH.aA] at hj;split at hj
  ·rename_i he
   exact⟨i,q,he,by rw[AH.aA,if_pos rfl],by simpa using hj.symm⟩
  ·rename_i hne
   obtain⟨k,p,h1,h2,h3⟩:=sc r j o hj (fun a b ha=>hi a b (WE _ ha));refine⟨k,p,h1,?_,h3⟩;rw[AH.aA,if_neg (fun e=>hne (by rw[h1,e]))];exact h2
end Go.Al
namespace Go.Al
def dC:Nat→List AO→AH
 |_,[]=> []
 |n,o::r=>(n,some o)::dC (n+1) r
theorem p4: ∀(os:List AO) (n i:Nat),(dC n os).get i=if n≤i then os[i-n]? else none
 | [],n,i=>by simp[dC,AH.get]
 |o::r,n,i=>by
  simp only[dC];rw[AH.aA,p4 r (n+1) i];by_cases h:i=n
  ·subst h;simp
  ·by_cases h2:n≤i
   ·rw[if_neg h,if_pos (by omega),if_pos h2,show i-n=(i-(n+1))+1 by omega];simp
   ·rw[if_neg h,if_neg (by omega),if_neg h2]
def kW (P:Program) (k:FuncId):Prop:= ∀(args:Array Value) (w:World),(callFunc k args).run P w= .ok (.enter k args) w
theorem bM {P:Program} {k:FuncId} {fn:Func} {c:Code} (hf:P.funcs[k]? =some fn) (hb:fn.body=some c) (hn:(fn.name== "runtime.NumGoroutine")=false):kW P k:=by
 intro args w;have hn': ¬fn.name= "runtime.NumGoroutine" :=by simpa using hn
 simp[callFunc,program,Sem.run,hf,hb,hn']
def Fn (P:Program) (k:FuncId) (args:List PV) (os:List AO) (R:PV→AH→Nat→Prop):Prop:=
 kW P k∧ ∀M N w (vs:List Value),Rel M N (· <os.length) (dC 0 os) w→args.length=vs.length→(∀(j:Nat) (p:PV),args[j]? =some p→VR M N (· <os.length) p (vs.getD j undef))→
  Calls P k vs.toArray w fun e w'=> ∃x M' N' r h' n',e= .returned x∧R r h' n'∧Ext M N (· <os.length) (dC 0 os) w M' N' (· <n') h' w'∧Rel M' N' (· <n') h' w'∧VR M' N' (· <n') r x
def B1:List Nat→AH
 | []=> []
 |j::r=>(j,none)::B1 r
def AH.keys:AH→List Nat
 | []=> []
 |(i,_)::r=>i::AH.keys r
theorem AH.get_append: ∀(a b:AH) (j:Nat),AH.get (a++b) j=if j∈a.keys then a.get j else b.get j
 | [],b,j=>by simp[AH.keys]
 |(i,o)::r,b,j=>by
  rw[XF,AH.aA,AH.aA,AH.get_append r b j];by_cases h:j=i
  ·simp[h,AH.keys]
  ·simp[h,AH.keys]
theorem u0: ∀L:List Nat,(B1 L).keys=L
 | []=>rfl
 |j::r=>by simp[B1,AH.keys,u0 r]
theorem x9: ∀(L:List Nat) (j:Nat),(B1 L).get j=none
 | [],_=>rfl
 |i::r,j=>by rw[B1,AH.aA,x9 r j];split<;>rfl
theorem zK {L:List Nat} {n:Nat} (hnd:L.Nodup) (hL: ∀j∈L,j<n): ∀i k,sig L n i=sig L n k→i=k:=by
 intro i k h;rcases W9 i L.length with hi|hi<;>rcases W9 k L.length with hk|hk
 ·rw[ik hi,ik hk] at h
  have hp:=YK.1 hnd;rcases Nat.lt_trichotomy i k with hlt|he|hgt
  ·exact absurd h (hp i k hi hk hlt)
  ·exact he
  ·exact absurd h.symm (hp k i hk hi hgt)
 ·rw[ik hi,nT hk] at h
  have:=hL _ (Xj hi);omega
 ·rw[nT hi,ik hk] at h
  have:=hL _ (Xj hk);omega
 ·rw[nT hi,nT hk] at h;omega
section
variable {P:Program} {nt:Nat} {s:AS}
def bj (s:AS) (L:List Nat) (h':AH) (n':Nat):AS:={f:=s.f,h:=vu (sig L s.nx) h'++(B1 L++s.h),nx:=s.nx+(n'-L.length)}
theorem Fn.calls {k:FuncId} {args:List PV} {os:List AO} {R:PV→AH→Nat→Prop} (hc:Fn P k args os R) {L:List Nat} (hnd:L.Nodup) (hL: ∀j∈L,j<s.nx)
  (hob:L.map s.h.get=os.map fun o=>some (o.cL (sig L s.nx))) {M:Mem} {N:Nm} {w:World} (hr:Rel M N (· <s.nx) s.h w) {vs:List Value} (hl:args.length=vs.length)
  (hv: ∀(j:Nat) (p:PV),args[j]? =some p→VR M N (· <s.nx) (p.cL (sig L s.nx)) (vs.getD j undef)):
  Calls P k vs.toArray w fun e w'=> ∃x M' N' r h' n',e= .returned x∧R r h' n'∧Ext M N (· <s.nx) s.h w M' N' (· <(bj s L h' n').nx) (bj s L h' n').h w'∧
   Rel M' N' (· <(bj s L h' n').nx) (bj s L h' n').h w'∧VR M' N' (· <(bj s L h' n').nx) (r.cL (sig L s.nx)) x:=by
 have hlen:L.length=os.length:=by simpa using congrArg List.length hob
 have hU:(fun i=>sig L s.nx i<s.nx)=(· <os.length):=by
  funext i
  apply propext;rcases W9 i L.length with hi|hi
  ·rw[ik hi];exact⟨fun _=>by omega,fun _=>hL _ (Xj hi)⟩
  ·rw[nT hi];omega
 have hob': ∀i (hi:i<L.length),s.h.get L[i]=(os[i]?).map (AO.cL (sig L s.nx)):=by
  intro i hi;have:=congrArg (fun l=>l[i]?) hob;simp only[Ww,Wt hi,Xy] at this;have ho:os[i]? =some (os[i]'(by omega)):=Wt (by omega);rw[ho] at this ⊢;simpa using this
 have hin: ∀i o,(dC 0 os).get i=some o→i<L.length∧s.h.get (sig L s.nx i)=some (o.cL (sig L s.nx)):=by
  intro i o hi;rw[p4,if_pos (WC _),Zj] at hi;have hlt:i<L.length:=by rw[hlen];exact(Wr.1 hi).1
  refine⟨hlt,?_⟩;rw[ik hlt,hob' i hlt,hi];rfl
 have hrel:Rel M (N.comp (sig L s.nx)) (· <os.length) (dC 0 os) w:=by
  refine⟨hr.cZ,fun i o hi=>by rw[←hlen];exact(hin i o hi).1,fun i o hi hre=>hr.dA _ _ (hin i o hi).2 ((AO.bQ _ o).trans hre),fun i o hi=>?_,fun i j o p hi hj ho hp hij=>?_⟩
  ·have:=OR.rW (hr.obj _ _ (hin i o hi).2)
   rw[hU] at this;exact this
  ·exact zK hnd hL i j (hr.inj _ _ _ _ (hin i o hi).2 (hin j p hj).2 ((AO.bQ _ o).trans ho) ((AO.bQ _ p).trans hp) hij)
 refine(hc.2 M (N.comp (sig L s.nx)) w vs hrel hl (fun j p hp=>by have:=(hv j p hp).rW rfl;rw[hU] at this;exact this)).mono ?_
 rintro e w' ⟨x,M',N',r,h',n',rfl,hR,hx,hr',hvr⟩
 have hn':os.length≤n':=Xc fun hlt=>by have:=hx.ule n' hlt;omega
 let N2:Nm:={aG:=fun j=>if j<s.nx then N.aG j else N'.aG (L.length+(j-s.nx)),ext:=fun j=>if j<s.nx then N.ext j else N'.ext (L.length+(j-s.nx))}
 have hN2:N.agree N2 (· <s.nx):=⟨fun i hi=>by simp[N2,hi],fun i hi=>by simp[N2,hi]⟩
 have hcb: ∀i,N2.aG (sig L s.nx i)=N'.aG i∧N2.ext (sig L s.nx i)=N'.ext i:=by
  intro i;rcases W9 i L.length with hi|hi
  ·have h1:sig L s.nx i<s.nx:=by rw[ik hi];exact hL _ (Xj hi)
   have h2:=hx.nm.aG i (by omega);have h3:=hx.nm.ext i (by omega);simp only[Nm.comp] at h2 h3;simp[N2,h1,h2,h3]
  ·rw[nT hi]
   have h1: ¬s.nx+(i-L.length)<s.nx:=by omega
   have h2:L.length+(s.nx+(i-L.length)-s.nx)=i:=by omega
   constructor<;>simp only[N2,if_neg h1,h2]
 have hcomp:N'.agree (N2.comp (sig L s.nx)) (· <n'):=⟨fun i _=>(hcb i).1,fun i _=>(hcb i).2⟩
 have hUn: ∀i,i<n'→sig L s.nx i<s.nx+(n'-L.length):=by
  intro i hi;rcases W9 i L.length with h1|h1
  ·rw[ik h1];have:=hL _ (Xj h1);omega
  ·rw[nT h1];omega
 have hget: ∀j o,(bj s L h' n').h.get j=some o→(∃i p,j=sig L s.nx i∧h'.get i=some p∧o=p.cL (sig L s.nx))∨(j∉L∧s.h.get j=some o):=by
  intro j o hj;simp only[bj] at hj;rw[AH.get_append] at hj;split at hj
  ·exact .inl (sc h' j o hj (fun i k _ h=>zK hnd hL i k h))
  ·rw[AH.get_append] at hj
   split at hj
   ·rw[x9] at hj;cases hj
   ·rename_i hd;rw[u0] at hd;exact .inr ⟨hd,hj⟩
 have hold: ∀j o,j∉L→s.h.get j=some o→o.real=true→w'.heap[N.aG j]? =w.heap[N.aG j]? :=by
  intro j o hj ho hre;refine hx.gd _ (hr.lt ho hre) (fun i p hi hp he=>?_);obtain⟨h1,h2⟩:=hin i p hi;have:=hr.inj _ _ _ _ h2 ho ((AO.bQ _ p).trans hp) hre he;rw[ik h1] at this;exact hj (this▸Xj h1)
 refine⟨x,M',N2,r,h',n',rfl,hR,?_,?_,?_⟩
 ·refine⟨hx.os,hx.tape,hx.output,hx.size,fun b hb hnb=>hx.gd b hb (fun i o hi ho he=>hnb _ _ (hin i o hi).2 ((AO.bQ _ o).trans ho) he),hx.ow,fun b c h1 h2=>?_,hN2,fun i hi=>by simp only[bj];omega,fun j o hj hre=>?_⟩
  ·rcases hx.gn b c h1 h2 with h3|⟨i,o,h3,ho,h4⟩
   ·exact .inl h3
   ·exact .inr ⟨_,_,(hin i o h3).2,(AO.bQ _ o).trans ho,h4⟩
  ·rcases hget j o hj with⟨i,p,rfl,h1,rfl⟩|⟨h1,h2⟩
   ·rw[AO.bQ] at hre
    rw[(hcb i).1];rcases hx.fQ i p h1 hre with h3|⟨k,q,h3,hq,h4⟩
    ·exact .inl h3
    ·exact .inr ⟨_,_,(hin k q h3).2,(AO.bQ _ q).trans hq,h4⟩
   ·exact .inr ⟨j,o,h2,hre,(hN2.aG j (hr.used j o h2)).symm⟩
 ·refine⟨hr'.cZ,fun j o hj=>?_,fun j o hj hre=>?_,fun j o hj=>?_,fun i j o p hi hj ho hp hij=>?_⟩
  ·rcases hget j o hj with⟨i,p,rfl,h1,rfl⟩|⟨h1,h2⟩
   ·exact hUn i (hr'.used i p h1)
   ·have:=hr.used j o h2;simp only[bj];omega
  ·rcases hget j o hj with⟨i,p,rfl,h1,rfl⟩|⟨h1,h2⟩
   ·rw[AO.bQ] at hre
    rw[(hcb i).1];exact hr'.dA i p h1 hre
   ·rw[hN2.aG j (hr.used j o h2)]
    cases hm:M' (N.aG j) with
    |none=>rfl
    |some c=>
     rcases hx.gn _ c (hr.dA j o h2 hre) hm with h3|⟨i,q,h3,hq,h4⟩
     ·have:=hr.lt h2 hre;omega
     ·obtain⟨h5,h6⟩:=hin i q h3
      have:=hr.inj _ _ _ _ h6 h2 ((AO.bQ _ q).trans hq) hre h4;rw[ik h5] at this;exact absurd (this▸Xj h5) h1
  ·rcases hget j o hj with⟨i,p,rfl,h1,rfl⟩|⟨h1,h2⟩
   ·refine OR.cL ?_
    exact(hr'.obj i p h1).mono (.refl _) hcomp (fun i hi=>hUn i hi) (hr'.used i p h1) rfl
   ·cases hre:o.real with
    |true=>exact(hr.obj j o h2).mono hx.ow hN2 (fun i hi=>by simp only[bj];omega) (hr.used j o h2) (hold j o h1 h2 hre)
    |false=>
     cases o with
     |row sz es=>cases es with
      |nil=>exact .inl rfl
      |cons=>cases hre
     |bx l T=>cases l with
      |nil=>exact .inl rfl
      |cons=>cases hre
     |_=>cases hre
  ·rcases hget i o hi with⟨i',o',rfl,h1,rfl⟩|⟨h1,h2⟩<;>rcases hget j p hj with⟨j',p',rfl,h3,rfl⟩|⟨h3,h4⟩
   ·rw[AO.bQ] at ho hp
    rw[(hcb i').1,(hcb j').1] at hij;rw[hr'.inj i' j' o' p' h1 h3 ho hp hij]
   ·rw[AO.bQ] at ho
    rw[(hcb i').1,hN2.aG j (hr.used j p h4)] at hij;rcases hx.fQ i' o' h1 ho with h5|⟨k,q,h5,hq,h6⟩
    ·have:=hr.lt h4 hp;omega
    ·obtain⟨h7,h8⟩:=hin k q h5
     have:=hr.inj _ _ _ _ h8 h4 ((AO.bQ _ q).trans hq) hp (h6.trans hij);rw[ik h7] at this;exact absurd (this▸Xj h7) h3
   ·rw[AO.bQ] at hp
    rw[hN2.aG i (hr.used i o h2),(hcb j').1] at hij;rcases hx.fQ j' p' h3 hp with h5|⟨k,q,h5,hq,h6⟩
    ·have:=hr.lt h2 ho;omega
    ·obtain⟨h7,h8⟩:=hin k q h5
     have:=hr.inj _ _ _ _ h8 h2 ((AO.bQ _ q).trans hq) ho (h6.trans hij.symm);rw[ik h7] at this;exact absurd (this▸Xj h7) h1
   ·rw[hN2.aG i (hr.used i o h2),hN2.aG j (hr.used j p h4)] at hij
    exact hr.inj _ _ _ _ h2 h4 ho hp hij
 ·exact VR.cL (hvr.mono (.refl _) hcomp (fun i hi=>hUn i hi))
def PV.plain:PV→PV
 | .kb b=> .iv (.v (.bool b))
 |p=>p
theorem VR.plain {M:Mem} {N:Nm} {U:Nat→Prop} {p:PV} {x:Value} (h:VR M N U p x):VR M N U p.plain x:=by
 cases h with
 |kb=>exact .iv _ _ (.v _)
 |iv _ _ h1=>exact .iv _ _ h1
 |agg _ _ h1 h2=>exact .agg _ _ h1 h2
 |bP _ _ h1 h2=>exact .bP _ _ h1 h2
 |ptr _ _ h1=>exact .ptr _ _ h1
 |c4 _ _ _ _ h1=>exact .c4 _ _ _ _ h1
 |eC _ _ h1=>exact .eC _ _ h1
 |sl _ _ _ _ _ h1 h2 h3 h4 h5=>exact .sl _ _ _ _ _ h1 h2 h3 h4 h5
 |lQ _ _ h1=>exact .lQ _ _ h1
 |sle _ _ _ h1 h2 h3=>exact .sle _ _ _ h1 h2 h3
 |mp _ h1=>exact .mp _ h1
 |cH _ _ _ _ _ h1 h2 h3 h4=>exact .cH _ _ _ _ _ h1 h2 h3 h4
 |any=>exact .any _
def cK (f:AF) (c:Call):Option (FuncId×List PV):=
 match c.callee with
 | .value g=>match ev f g with
  | .cH (.func k) first caps=>some (k,first++(c.args.toList.map (fun x=>(ev f x).plain)++caps))
  |_=>none
 |_=>none
theorem Eb {M:Mem} {N:Nm} {a:Act} {w:World} (hf:Fits M N s nt a w) {o:Oper} {c:Call} (ho:o.op= .call c) {k:FuncId} {asv:List PV} (ha:cK s.f c=some (k,asv)) (hc:kW P k):
  ∃vs:List Value,(execOp a.eval o).run P w= .ok (.enter k vs.toArray) w∧asv.length=vs.length∧ ∀(j:Nat) (p:PV),asv[j]? =some p→VR M N (· <s.nx) p (vs.getD j undef):=by
 unfold cK at ha;obtain⟨callee,cargs,ctypes⟩:=c
 cases callee with
 |value g=>
  simp only at ha;have hg:=aS hf.2.1 g;split at ha
  ·rename_i k' first caps hev
   simp only[Wo,WA] at ha;obtain⟨rfl,rfl⟩:=ha;rw[hev] at hg;generalize hv:a.eval g=v at hg
   cases hg with
   |cH _ _ _ f' c' h1 h2 hr1 hr2=>
    have hm:(cargs.toList.map (fun x=>(ev s.f x).plain)).length=(cargs.map a.eval).size∧ ∀j p,(cargs.toList.map (fun x=>(ev s.f x).plain))[j]? =some p→VR M N (· <s.nx) p ((cargs.map a.eval).getD j undef):=by
     refine⟨by simp,fun j p hp=>?_⟩;rw[Ww,Wx] at hp;obtain⟨x,hx,rfl⟩:=hp;have hx':cargs[j]? =some x:=by simpa using hx
     rw[Wm,Yw,hx'];exact(aS hf.2.1 x).plain
    have hrun:(execOp a.eval o).run P w= .ok (.enter k' (f'++cargs.map a.eval++c')) w:=by
     simp only[execOp,ho,resolve,hv,Deferred.ofValue,pure_bind,invoke];exact hc _ w
    have hpt: ∀(j:Nat) (p:PV),(first++(cargs.toList.map (fun x=>(ev s.f x).plain)++caps))[j]? =some p→VR M N (· <s.nx) p ((f'++cargs.map a.eval++c').toList.getD j undef):=by
     intro j p hp;have hsz:(cargs.toList.map (fun x=>(ev s.f x).plain)).length=(cargs.map a.eval).size:=hm.1;rw[Ws,YL,YL,Wv];rcases W9 j first.length with hj|hj
     ·rw[WH hj] at hp
      rw[WH (by simpa[←h1] using hj)];have:=hr1 j p hp;rw[Wm] at this;simpa using this
     ·rw[WJ hj] at hp
      rw[WJ (by simpa[←h1] using hj)];rcases W9 (j-first.length) (cargs.toList.map (fun x=>(ev s.f x).plain)).length with hj2|hj2
      ·rw[WH hj2] at hp
       rw[WH (by simp[←h1] at hj2 ⊢;omega)];have:=hm.2 _ p hp;rw[Wm] at this;simpa[←h1] using this
      ·rw[WJ hj2] at hp
       rw[WJ (by simp[←h1] at hj2 ⊢;omega)];have:=hr2 _ p hp;rw[Wm] at this;simpa[←h1] using this
    refine⟨(f'++cargs.map a.eval++c').toList,by rw[XG];exact hrun,?_,hpt⟩;simp[←h1,←h2]
  ·cases ha
 |_=>simp at ha
theorem jY {o:Oper} {c:Call} (ho:o.op= .call c) {k:FuncId} {asv:List PV} (ha:cK s.f c=some (k,asv)) {args:List PV} {os:List AO} {R:PV→AH→Nat→Prop} (hc:Fn P k args os R)
  {L:List Nat} (hnd:L.Nodup) (hL: ∀j∈L,j<s.nx) (hob:L.map s.h.get=os.map fun o=>some (o.cL (sig L s.nx))) (hargs:asv=dJ (sig L s.nx) args) {S:AS→Prop}
  (hS: ∀r h' n',R r h' n'→ ∃s',putDst nt o (r.cL (sig L s.nx)) (bj s L h' n')=some s'∧S s'):OT P nt o s S:=by
 intro M N a w hf K Z hk;unfold cK at ha;obtain⟨callee,cargs,ctypes⟩:=c
 cases callee with
 |value g=>
  simp only at ha;have hg:=aS hf.2.1 g;split at ha
  ·rename_i k' first caps hev
   simp only[Wo,WA] at ha;obtain⟨rfl,rfl⟩:=ha;rw[hev] at hg;generalize hv:a.eval g=v at hg
   cases hg with
   |cH _ _ _ f' c' h1 h2 hr1 hr2=>
    have hm:(cargs.toList.map (fun x=>(ev s.f x).plain)).length=(cargs.map a.eval).size∧ ∀j p,(cargs.toList.map (fun x=>(ev s.f x).plain))[j]? =some p→VR M N (· <s.nx) p ((cargs.map a.eval).getD j undef):=by
     refine⟨by simp,fun j p hp=>?_⟩;rw[Ww,Wx] at hp;obtain⟨x,hx,rfl⟩:=hp;have hx':cargs[j]? =some x:=by simpa using hx
     rw[Wm,Yw,hx'];exact(aS hf.2.1 x).plain
    have hrun:(execOp a.eval o).run P w= .ok (.enter k' (f'++cargs.map a.eval++c')) w:=by
     simp only[execOp,ho,resolve,hv,Deferred.ofValue,pure_bind,invoke];exact hc.1 _ w
    unfold Oper.wp;rw[hrun];simp only[Oper.upon]
    have hpt: ∀(j:Nat) (p:PV),(first++(cargs.toList.map (fun x=>(ev s.f x).plain)++caps))[j]? =some p→VR M N (· <s.nx) p ((f'++cargs.map a.eval++c').toList.getD j undef):=by
     intro j p hp;have hsz:(cargs.toList.map (fun x=>(ev s.f x).plain)).length=(cargs.map a.eval).size:=hm.1;rw[Ws,YL,YL,Wv];rcases W9 j first.length with hj|hj
     ·rw[WH hj] at hp
      rw[WH (by simpa[←h1] using hj)];have:=hr1 j p hp;rw[Wm] at this;simpa using this
     ·rw[WJ hj] at hp
      rw[WJ (by simpa[←h1] using hj)];rcases W9 (j-first.length) (cargs.toList.map (fun x=>(ev s.f x).plain)).length with hj2|hj2
      ·rw[WH hj2] at hp
       rw[WH (by simp[←h1] at hj2 ⊢;omega)];have:=hm.2 _ p hp;rw[Wm] at this;simpa[←h1] using this
      ·rw[WJ hj2] at hp
       rw[WJ (by simp[←h1] at hj2 ⊢;omega)];have:=hr2 _ p hp;rw[Wm] at this;simpa[←h1] using this
    have hlen:args.length=(f'++cargs.map a.eval++c').toList.length:=by
     have:=congrArg List.length hargs;simp[bF] at this;simp[←h1,←h2];omega
    have hcall:=hc.calls hnd hL hob hf.1 hlen (fun j p hp=>by
     refine hpt j (p.cL (sig L s.nx)) ?_
     rw[hargs,bF,Ww,hp];rfl)
    rw[XG] at hcall;refine hcall.mono ?_
    rintro e w' ⟨x,M',N',r,h',n',rfl,hR,hx,hr,hvr⟩
    obtain⟨s',hp,hs'⟩:=hS r h' n' hR;have hfb:Fits M' N' (bj s L h' n') nt a w':=⟨hr,hf.2.1.ext hx,hf.2.2⟩
    show K (a.put o.dst x) w'
    cases hd:o.dst with
    |none=>
     have:=dM hp hd;subst this
     exact hk M' N' _ _ w' hx hfb hs'
    |some d=>
     obtain⟨h1,rfl⟩:=dL hp hd;exact hk M' N' {bj s L h' n' with f:=(d,r.cL (sig L s.nx))::(bj s L h' n').f} _ w' hx (hfb.put d _ x h1 hvr) hs'
  ·cases ha
 |_=>simp at ha
def mQ:Nat→List PV→AF
 |_,[]=> []
 |n,p::r=>(n,p)::mQ (n+1) r
theorem tn: ∀(l:List PV) (n i:Nat),(mQ n l).get i=if n≤i then l.getD (i-n) .any else .any
 | [],n,i=>by simp[mQ,AF.get]
 |p::r,n,i=>by
  simp only[mQ];rw[AF.aA,tn r (n+1) i];by_cases h:i=n
  ·subst h;simp
  ·by_cases h2:n≤i
   ·rw[if_neg h,if_pos (by omega),if_pos h2,show i-n=(i-(n+1))+1 by omega];simp
   ·rw[if_neg h,if_neg (by omega),if_neg h2]
def vq (ty:Ty) (s:AS):ResultVar→Option PV
 | .tmp t=>match s.f.get t with
  | .kb b=>some (.iv (.v (.bool b)))
  |p=>some p
 | .cell a t=>match ty t with
  |some e=>match behind s.h (s.f.get a) with
   |some cs=>gz e cs
   |none=>none
  |none=>none
def pN (ty:Ty) (s:AS):List ResultVar→Option (List PV)
 | []=>some []
 |v::r=>match vq ty s v with
  |some p=>match pN ty s r with
   |some l=>some (p::l)
   |none=>none
  |none=>none
def lR (ty:Ty) (s:AS) (l:List ResultVar):Option PV:=
 match pN ty s l with
 |some [p]=>some p
 |some l=>some (.bP l)
 |none=>none
def nX (tmps:Array Value):ResultVar→Sem Value
 | .tmp t=>pure (tmps.getD t undef)
 | .cell a t=>do loadVar t (←asAddr (tmps.getD a undef))
theorem Bq {ty:Ty} (hty:bE P ty) {M:Mem} {N:Nm} {a:Act} {w:World} (hf:Fits M N s nt a w) {v:ResultVar} {p:PV} (h:vq ty s v=some p):
  ∃x,(nX a.tmps v).run P w= .ok x w∧VR M N (· <s.nx) p x:=by
 cases v with
 |tmp t=>
  simp only[vq] at h;have:=hf.2.1 t;split at h
  ·rename_i b hb
   simp only[Wo] at h;subst h;rw[hb] at this;refine⟨_,rfl,?_⟩;show VR M N _ _ (a.tmps.getD t undef);generalize a.tmps.getD t undef=v at this;cases this;exact .iv _ _ (.v _)
  ·simp only[Wo] at h
   subst h
   exact⟨_,rfl,this⟩
 |cell b t=>
  simp only[vq] at h;split at h
  ·rename_i e he
   split at h
   ·rename_i cs hcs
    obtain⟨b',off,hx,hcell⟩:=u7 hf.1 (hf.2.1 b) hcs;obtain⟨y,hy,hv⟩:=qC (P:=P) (hty t e he) hcell h;refine⟨y,?_,hv⟩;simp only[nX,hx,asAddr,pure_bind];exact hy
   ·cases h
  ·cases h
theorem uj {ty:Ty} (hty:bE P ty) {M:Mem} {N:Nm} {a:Act} {w:World} (hf:Fits M N s nt a w): ∀{l:List ResultVar} {ps:List PV},pN ty s l=some ps→
  ∃xs:List Value,(l.mapM (nX a.tmps)).run P w= .ok xs w∧ps.length=xs.length∧ ∀(j:Nat) (p:PV),ps[j]? =some p→VR M N (· <s.nx) p (xs.getD j undef)
 | [],ps,h=>by
  simp only[pN,Wo] at h;subst h
  exact⟨[],rfl,rfl,by simp⟩
 |v::r,ps,h=>by
  simp only[pN] at h;split at h
  ·rename_i p hp
   split at h
   ·rename_i l hl
    simp only[Wo] at h;subst h;obtain⟨x,hx,hv⟩:=Bq hty hf hp;obtain⟨xs,hxs,hlen,hvs⟩:=uj hty hf hl;refine⟨x::xs,?_,by simp[hlen],fun j q hq=>?_⟩
    ·rw[List.mapM_cons,Sem.run_bind,hx,Result.andThen_ok,Sem.run_bind,hxs];rfl
    ·cases j with
     |zero=>simp at hq;subst hq;exact hv
     |succ j=>simpa using hvs j q (by simpa using hq)
   ·cases h
  ·cases h
theorem zU {ty:Ty} (hty:bE P ty) {M:Mem} {N:Nm} {a:Act} {w:World} (hf:Fits M N s nt a w) {fn:Func} {l:List ResultVar} (hl:fn.results.toList=l) {p:PV} (h:lR ty s l=some p):
  ∃x,(results fn a.tmps).run P w= .ok x w∧VR M N (· <s.nx) p x:=by
 unfold lR at h
 have key: ∀ps,pN ty s l=some ps→ ∃xs:List Value,(fn.results.mapM (nX a.tmps)).run P w= .ok xs.toArray w∧ps.length=xs.length∧ ∀(j:Nat) (p:PV),ps[j]? =some p→VR M N (· <s.nx) p (xs.getD j undef):=by
  intro ps hps;obtain⟨xs,h1,h2,h3⟩:=uj hty hf hps;refine⟨xs,?_,h2,h3⟩
  have e:fn.results.mapM (nX a.tmps)=(List.toArray<$>(fn.results.toList.mapM (nX a.tmps))):=by
   rw[Y8]
  rw[e,hl,Sem.run_map,h1];rfl
 have hres:results fn a.tmps=(do let vs←fn.results.mapM (nX a.tmps);pure (if h:vs.size=1 then vs[0] else .tuple vs)):=by
  unfold results;rfl
 split at h
 ·rename_i q hq
  simp only[Wo] at h;subst h;obtain⟨xs,h1,h2,h3⟩:=key _ hq
  match xs,h2 with
  | [x],_=>
   refine⟨x,?_,by simpa using h3 0 q rfl⟩;rw[hres,Sem.run_bind,h1];rfl
 ·rename_i ps hne hps
  simp only[Wo] at h;subst h;obtain⟨xs,h1,h2,h3⟩:=key _ hps;refine⟨.tuple xs.toArray,?_, .bP _ _ (by simpa using h2) (fun j p hp=>?_)⟩
  ·rw[hres,Sem.run_bind,h1,Result.andThen_ok]
   have: ¬xs.toArray.size=1:=by
    intro e
    match ps,hne,h2 with
    | [q],hne,_=>exact hne q rfl
    | [],_,h2=>simp at h2 e;omega
    |_::_::_,_,h2=>simp at h2 e;omega
   rw[dif_neg this];rfl
  ·have:=h3 j p hp
   rw[Wm];rw[Ws] at this;simpa using this
 ·cases h
theorem zh {ty:Ty} (hty:bE P ty) {k:FuncId} {fn:Func} {c:Code} (hf:P.funcs[k]? =some fn) (hb:fn.body=some c) (hn:(fn.name== "runtime.NumGoroutine")=false) {nt:Nat} (hnt:fn.ntmps=nt)
  {l:List ResultVar} (hl:fn.results.toList=l) {args:List PV} (hle:args.length≤nt) {os:List AO} {R:PV→AH→Nat→Prop}
  (h:GO P nt [.code c] (fun e s=>(e= .normal∨e= .ret)∧ ∃r,lR ty s l=some r∧R r s.h s.nx) ⟨mQ 0 args,dC 0 os,os.length⟩):Fn P k args os R:=by
 refine⟨bM hf hb hn,fun M N w vs hr hlen hv=>?_⟩;refine calls_of_wp hf hb ?_
 have hfit:Fits M N ⟨mQ 0 args,dC 0 os,os.length⟩ nt {tmps:=vs.toArray++XX (fn.ntmps-vs.toArray.size) undef,defers:=[]} w:=by
  refine⟨hr,fun i=>?_,rfl,by simp;omega⟩;rw[tn,if_pos (WC _),Zj,Ws]
  cases hi:args[i]? with
  |none=>exact .any _
  |some p=>
   have hlt:i<vs.length:=by rw[←hlen];exact(Wr.1 hi).1
   have:=hv i p hi
   have e:(vs.toArray++XX (fn.ntmps-vs.toArray.size) undef).getD i undef=vs.getD i undef:=by
    rw[Wm,Xq (by simpa using hlt),Ws];simp
   simp only[XM];rw[e];exact this
 refine AW.then h hfit fun e a' w' M' N' s' hx hf' hq=>?_;simp only[kp] at hq;obtain⟨he,r,hr1,hr2⟩:=hq;obtain⟨x,hx1,hx2⟩:=zU hty hf' hl hr1
 have:a'.defers=[]∧ ∃v,(results fn a'.tmps).run P w'= .ok v w'∧(∃x M' N' r h' n',Ending.returned v= .returned x∧R r h' n'∧Ext M N (· <os.length) (dC 0 os) w M' N' (· <n') h' w'∧Rel M' N' (· <n') h' w'∧VR M' N' (· <n') r x):=
  ⟨hf'.2.2.1,x,hx1,x,M',N',r,s'.h,s'.nx,rfl,hr2,hx,hf'.1,hx2⟩
 rcases he with rfl|rfl<;>exact this
end
end Go.Al
namespace Go.Al
theorem BF {ops:Array Oper} {o:Oper} (hs: ∀cs b,o.op≠ .select cs b) {a b:Act} (h: ∀d∈o.looksAt ops,a.tmps[d]? =b.tmps[d]?):
  execOp a.eval o=execOp b.eval o∧Region.wanted o (Go.yielded ops a.tmps)=Region.wanted o (Go.yielded ops b.tmps):=by
 constructor
 ·refine execOp_congr o hs fun x hx=>?_
  cases x with
  |tmp t=>
   have:=h t (W0 _ (List.mem_filterMap.2 ⟨.tmp t,by simpa using hx,rfl⟩))
   simp only[Act.eval,Wm,this]
  |_=>rfl
 ·unfold Region.wanted
  cases hg:o.guard with
  |none=>rfl
  |some gw=>
   obtain⟨g,want⟩:=gw
   have hy:Go.yielded ops a.tmps g=Go.yielded ops b.tmps g:=by
    unfold Go.yielded
    cases ht:(ops[g]?).bind (·.dst) with
    |none=>rfl
    |some t=>
     have:=h t (by simp[Oper.looksAt,hg,ht]);simp[this]
   simp only[hy]
theorem jT {all:List Oper} {o x:Oper} (h:looks all o x=false) {d:Nat} (hd:x.dst=some d):d∉o.looksAt all.toArray:=by
 simp only[looks,hd] at h;simpa using h
theorem eF {o:Oper} {i:Nat} (h:waits o i=true): ∃e∈o.after,Region.binds .any e=true∧e.on=i:=by
 unfold waits at h;obtain⟨e,he,hb⟩:=Xr.1 h;simp only[WN] at hb;exact⟨e,by simpa using he,hb.1,WK hb.2⟩
theorem hZ: ∀(l:List Oper) (n i:Nat) (o:Oper),eS n l=true→l[i]? =some o→ ∀e∈o.after,Region.binds .any e=true→e.on<n+i
 | [],n,i,o,_,h=>by simp at h
 |c::l,n,i,o,hd,h=>by
  simp only[eS,WN,WX] at hd
  cases i with
  |zero=>
   simp at h;subst h;intro e he hb;have:=hd.1 e (by simpa using he);simp only[hb,YM,Yb] at this
   exact Wj this
  |succ i=>
   have:=hZ l (n+1) i o hd.2 (by simpa using h);intro e he hb;have:=this e he hb;omega
theorem count_set: ∀(l:List Bool) (i:Nat),l[i]? =some false→(l.set i true).count false+1=l.count false
 | [],i,h=>by simp at h
 |c::l,0,h=>by simp at h;subst h;simp
 |c::l,i+1,h=>by
  have:=count_set l i (by simpa using h);simp only[List.set_cons_succ,List.count_cons];omega
theorem cD {listed:Array Bool} {i:Nat} (h:listed.getD i true=false):(listed.setIfInBounds i true).toList.count false+1=listed.toList.count false:=by
 have hi:listed.toList[i]? =some false:=by
  rw[Wm] at h
  cases hc:listed[i]? with
  |none=>simp[hc] at h
  |some c=>simp[hc] at h;subst h;simpa using hc
 have:=count_set _ _ hi;rw[Array.toList_setIfInBounds];exact this
theorem kQ {listed:Array Bool} {i:Nat} (h:listed.getD i true=false):0<listed.toList.count false:=by have:=cD h;omega
theorem dV {listed:Array Bool} {i k:Nat} (hi:i<listed.size):(listed.setIfInBounds i true).getD k true=if k=i then true else listed.getD k true:=by
 by_cases hk:k=i
 ·subst hk;simp[Wm,hi]
 ·rw[if_neg hk,Wm,W1,if_neg (fun e=>hk e.symm),Wm]
theorem dB {listed:Array Bool} {i:Nat} (h:listed.getD i true=false):i<listed.size:=by
 rcases W9 i listed.size with h'|h'
 ·exact h'
 ·simp[Wm,YT h'] at h
theorem jA {listed:Array Bool} {i:Nat} (h:listed.getD i true=false):listed.getD i false=false:=by
 have:=dB h;rw[Wm] at*
 simpa[this] using h
theorem iZ {all:List Oper} {listed:Array Bool} (hsz:listed.size=all.length) (hd:eS 0 all=true) (hr:Region.ready .any all.toArray listed=[]): ∀i,listed.getD i true=true:=by
 intro i
 induction i using Nat.strongRecOn with
 |_ i ih=>
  cases hc:listed.getD i true with
  |true=>rfl
  |false=>
   have hi:=dB hc;have ho:all[i]? =some (all[i]'(by omega)):=Wt (by omega)
   have:i∈Region.ready .any all.toArray listed:=by
    refine mem_ready.2 ⟨hc,_,(by rw[Xv];exact ho),fun e he hb=>?_⟩;have hlt:=hZ all 0 i _ hd ho e he hb;have:=ih e.on (by omega);have hlt':e.on<listed.size:=by omega
    rw[Wm] at this ⊢;simpa[hlt'] using this
   rw[hr] at this;cases this
section
variable {P:Program} {nt:Nat} {all:List Oper} {todo pend:List (Nat×Oper)} {M:Mem} {N:Nm} {s:AS} {listed:Array Bool} {a:Act} {w:World} {Q:AQ}
theorem nL.alloc {B:Bs} {o:Oper} {aG:Nat} (h:nL P M N s B a w o aG):aO o=true:=by
 obtain⟨t,v,d,h1,_⟩:=h;simp[aO,h1]
theorem gl.bu (hal:gl P nt all) {i j:Nat} {o q:Oper} (hi:all[i]? =some o) (hj:all[j]? =some q) (ha:aO o=true) (hw:waits q i=false) (hne:j≠i):looks all q o=false:=by
 rcases((hal i o hi ha).2.2.2.2 j q hj hne).1 with h|h
 ·rw[hw] at h;cases h
 ·exact h
theorem kV.same {b:Act} (hb: ∀d,(∀x∈pend,listed.getD x.1 true=false→x.2.dst≠some d)→(∀x∈todo,listed.getD x.1 true=true→x.2.dst≠some d)→a.tmps[d]? =b.tmps[d]?)
  (hns:Region.noSelect all.toArray=true) {i:Nat} {o:Oper} (ho:all[i]? =some o) (hr:i∈Region.ready .any all.toArray listed) (hp: ∀x∈pend,waits o x.1=true∨looks all o x.2=false)
  (hq: ∀x∈todo,listed.getD x.1 true=true→looks all o x.2=false):
  execOp a.eval o=execOp b.eval o∧Region.wanted o (Go.yielded all.toArray a.tmps)=Region.wanted o (Go.yielded all.toArray b.tmps):=by
 refine BF (Region.noSelect_spec hns i o · · (by simpa using ho)) fun d hd=>hb d (fun x hx hl he=>?_) (fun x hx hl he=>jT (hq x hx hl) he hd);rcases hp x hx with h|h
 ·obtain⟨e,he,hbi,hon⟩:=eF h
  obtain⟨_,o',ho',hall⟩:=mem_ready.1 hr;have:o'=o:=by have:=ho'.symm.trans (by simpa using ho:all.toArray[i]? =some o);exact Xt this
  subst this;have h1:=hall e he hbi;rw[hon,jA hl] at h1;cases h1
 ·exact jT h he hd
theorem eJ (a:Act) (dst:Option Tmp) (v:Value) (d:Nat):(a.put dst v).tmps[d]? =if dst=some d∧d<a.tmps.size then some v else a.tmps[d]? :=by
 cases dst with
 |none=>simp[Act.put]
 |some e=>
  simp only[Act.put,Wo];rw[W1];by_cases h:e=d
  ·subst h
   by_cases h2:e<a.tmps.size
   ·simp[h2]
   ·simp[h2]
  ·simp[h]
theorem gX (a:Act) (dst:Option Tmp) (v:Value):(a.put dst v).tmps.size=a.tmps.size:=by cases dst<;>simp[Act.put]
theorem iD (a:Act) (dst:Option Tmp) (v:Value):(a.put dst v).defers=a.defers:=by cases dst<;>rfl
theorem uq (a:Act) (dst:Option Tmp) (v:Value):(a.put dst v).put dst v=a.put dst v:=by cases dst<;>simp[Act.put]
theorem nL.put {B:Bs} {o:Oper} {aG:Nat} (h:nL P M N s B a w o aG) {dst:Option Tmp} {v:Value} (hd: ∀d,o.dst=some d→dst≠some d):nL P M N s B (a.put dst v) w o aG:=by
 obtain⟨t,u,d,h1,h2,h3,h4,h5⟩:=h;refine⟨t,u,d,h1,h2,h3,?_,h5⟩;rw[eJ,if_neg (fun hc=>hd d h3 hc.1)];exact h4
theorem kV.take {B:Bs} (hi:kV P nt all todo pend B M N s listed a w) (hns:Region.noSelect all.toArray=true) (hal:gl P nt all) {x:Nat×Oper} (hx:x∈pend) (hr:x.1∈Region.ready .any all.toArray listed):
  ∃v,YieldsAt P all.toArray w x.2 v a∧kV P nt all todo pend B M N s (listed.setIfInBounds x.1 true) (a.put x.2.dst v) w:=by
 obtain⟨b,hb,hsz,hdf,hag,hy⟩:=hi.ap;obtain⟨bl,he1,he2⟩:=hi.er;have hl:=(mem_ready.1 hr).1;obtain⟨v,hv,hput⟩:=hy x hx hl
 have hfar: ∀y∈todo,listed.getD y.1 true=true→looks all x.2 y.2=false∧ ∀d,y.2.dst=some d→x.2.dst≠some d:=fun y hyt hyl=>by
  have hay:=(he1 y hyt hyl).alloc;exact⟨hal.bu (hi.tl y hyt) (hi.pl x hx) hay (hi.pa x hx y hyt hay) (fun e=>hi.dj x hx y hyt e.symm),((hal _ _ (hi.tl y hyt) hay).2.2.2.2 _ _ (hi.pl x hx) (fun e=>hi.dj x hx y hyt e.symm)).2⟩
 have hsame:=kV.same hag hns (hi.pl x hx) hr (fun y hy=>hi.pp y hy x hx) (fun y hyt hyl=>(hfar y hyt hyl).1);have hlt:=dB hl
 have hun: ∀k,(listed.setIfInBounds x.1 true).getD k true=false→k≠x.1∧listed.getD k true=false:=by
  intro k hk;rw[dV hlt] at hk;split at hk
  ·cases hk
  ·rename_i h;exact⟨h,hk⟩
 have htd: ∀y∈todo,(listed.setIfInBounds x.1 true).getD y.1 true=listed.getD y.1 true:=fun y hy=>by rw[dV hlt,if_neg (hi.dj x hx y hy)]
 refine⟨v,hv.of_same hsame.1 hsame.2,⟨by simp[hi.size],hi.tl,hi.pl,hi.dj,fun i o ho hu=>hi.Cg i o ho (hun i hu).2,hi.pw,hi.pp,hi.pa,⟨bl,fun y hyt hyl=>?_,fun y hyt z hzt h1 h2=>?_⟩,b,hb,by rw[gX,hsz],by rw[iD,hdf],fun d hd hd2=>?_,fun y hyp hu=>?_⟩⟩
 ·rw[htd y hyt] at hyl
  exact(he1 y hyt hyl).put (hfar y hyt hyl).2
 ·rw[htd y hyt] at h1;rw[htd z hzt] at h2
  exact he2 y hyt z hzt h1 h2
 ·rw[eJ]
  split
  ·rename_i h
   rw[←hput,eJ,if_pos ⟨h.1,by rw[←hsz];exact h.2⟩]
  ·rename_i h
   by_cases hdx:x.2.dst=some d
   ·have h2: ¬d<a.tmps.size:=fun h3=>h ⟨hdx,h3⟩
    rw[YT (Xc h2),YT (by rw[←hsz];exact Xc h2)]
   ·refine hag d (fun y hy hu he=>?_) (fun y hyt hyl=>hd2 y hyt (by rw[htd y hyt];exact hyl))
    by_cases hxy:y.1=x.1
    ·have h3:=hi.pl y hy
     rw[hxy,hi.pl x hx] at h3;rw[Xt h3] at hdx;exact hdx he
    ·exact hd y hy (by rw[dV hlt,if_neg hxy];exact hu) he
 ·exact hy y hyp (hun _ hu).2
theorem Rel.more {M:Mem} {N:Nm} {n:Nat} {h:AH} {w w':World} (hr:Rel M N (· <n) h w) (hk: ∀b,b<w.heap.size→w'.heap[b]? =w.heap[b]?):Rel M N (· <n) h w':=by
 refine⟨fun b c hb=>?_,hr.used,hr.dA,fun i o hi=>?_,hr.inj⟩
 ·exact(hr.cZ b c hb).mono (hk b (hr.cZ b c hb).lt)
 ·cases hre:o.real with
  |true=>exact(hr.obj i o hi).mono (.refl _) (.refl _ _) (fun _ h=>h) (hr.used i o hi) (hk _ (hr.lt hi hre))
  |false=>
   cases o with
   |row sz es=>cases es with
    |nil=>exact .inl rfl
    |cons=>cases hre
   |bx l T=>cases l with
    |nil=>exact .inl rfl
    |cons=>cases hre
   |_=>cases hre
theorem sw {ops:Array Oper} (h: ∀i,listed.getD i true=true):Region.ready .any ops listed=[]:=by
 cases hr:Region.ready .any ops listed with
 |nil=>rfl
 |cons i r=>
  have:i∈Region.ready .any ops listed:=by rw[hr];simp
  have:=(mem_ready.1 this).1;rw[h i] at this;cases this
theorem kV.done {B:Bs} (hi:kV P nt all [] pend B M N s listed a w) (hall: ∀i,listed.getD i true=true):Fits M N s nt a w:=by
 obtain⟨b,hb,hsz,hdf,hag,_⟩:=hi.ap;have ht:a.tmps=b.tmps:=Array.ext_getElem? fun d=>hag d (fun x _ hu=>by rw[hall] at hu;cases hu) (fun _ hx=>(nomatch hx));have:a=b:=by cases a;cases b;simp only at ht hdf;subst ht;subst hdf;rfl
 rw[this];exact hb
theorem Sk (h:Q .normal s):DL P nt all [] pend Q s:=by
 intro hns hd hal B M N listed a w fuel hB
 induction fuel generalizing listed a with
 |zero=>
  intro hi hc
  have hall: ∀i,listed.getD i true=true:=fun i=>by
   cases hx:listed.getD i true with
   |true=>rfl
   |false=>have:=kQ hx;omega
  exact⟨sw hall,M,N,s,hB,hi.done hall,h⟩
 |succ fuel ih=>
  intro hi hc;refine⟨fun hr=>⟨M,N,s,hB,hi.done (iZ hi.size hd hr),h⟩,fun i hir=>?_⟩;obtain⟨hu,o,ho,_⟩:=mem_ready.1 hir;have ho':all[i]? =some o:=by simpa using ho
  rcases hi.Cg i o ho' hu with hm|hm
  ·cases hm
  ·obtain⟨v,hv,hi'⟩:=hi.take hns hal hm hir
   refine wpOp_of_stOp (K:=fun a'=>a'=a.put o.dst v) (fun a' ha=>?_) (hv.stOp ho rfl);subst ha;exact ih _ _ hi' (by have:=cD hu;omega)
def tw (all:List Oper) (pend:List (Nat×Oper)) (o:Oper):Bool:=
 !looks all o o&&pend.all fun y=>!looks all y.2 o&&(waits o y.1||!looks all o y.2)&&(match o.dst,y.2.dst with|some d,some e=>!WO d e|_,_=>true)
theorem kV.read {B:Bs} (hi:kV P nt all todo pend B M N s listed a w) (hns:Region.noSelect all.toArray=true) {i:Nat} {o:Oper} {s':AS} (hin:(i,o)∈todo) (hna:aO o=false) (hwa: ∀x∈todo,waits o x.1=false) (hadd:tw all pend o=true) (he:s'.h=s.h∧s'.nx=s.nx)
  (hy: ∀M N b w,Fits M N s nt b w→ ∃v,YieldsAt P all.toArray w o v b∧Fits M N s' nt (b.put o.dst v) w):kV P nt all (todo.filter fun x=>!WO x.1 i) ((i,o)::pend) B M N s' listed a w:=by
 have h2: ∀x∈todo.filter fun x=>!WO x.1 i,x∈todo∧x.1≠i:=fun x hx=>by
  obtain⟨h7,h8⟩:=WW.1 hx;exact⟨h7,fun e=>by simp[e] at h8⟩
 have h1: ∀x∈todo,x=(i,o)∨x∈todo.filter fun x=>!WO x.1 i:=fun x hx=>by
  by_cases hxi:x.1=i
  ·have h3:=hi.tl x hx
   rw[hxi,hi.tl _ hin] at h3;exact .inl (by obtain⟨x1,x2⟩:=x;simp only at hxi h3;rw[hxi,Xt h3])
  ·exact .inr (WW.2 ⟨hx,by cases hb:WO x.1 i with|false=>rfl|true=>exact absurd (WK hb) hxi⟩)
 simp only[tw,WN,WX,W5] at hadd;obtain⟨b,hb,hsz,hdf,hag,hyy⟩:=hi.ap;obtain⟨bl,he1,he2⟩:=hi.er
 have hiu:listed.getD i true=false:=by
  cases hl:listed.getD i true with
  |false=>rfl
  |true=>have:=(he1 _ hin hl).alloc;simp only at this;rw[hna] at this;cases this
 obtain⟨v,hv,hf⟩:=hy M N b w hb;refine⟨hi.size,fun x hx=>hi.tl x (h2 x hx).1,fun x hx=>?_,fun x hx y hy=>?_,fun k q hk hu=>?_,?_,fun x hx y hy=>?_,fun y hyp x hx hax=>?_,⟨bl,fun x hx hl=>?_,fun x hx y hy=>he2 x (h2 x hx).1 y (h2 y hy).1⟩,b.put o.dst v,hf,by rw[gX,hsz],by rw[iD,hdf],fun d hdd hde=>?_,fun x hx hu=>?_⟩
 ·rcases WG.1 hx with rfl|hx
  ·exact hi.tl _ hin
  ·exact hi.pl x hx
 ·rcases WG.1 hx with rfl|hx
  ·exact(h2 y hy).2
  ·exact hi.dj x hx y (h2 y hy).1
 ·rcases hi.Cg k q hk hu with hm|hm
  ·rcases h1 _ hm with e|hm
   ·exact .inr (by rw[e];simp)
   ·exact .inl hm
  ·exact .inr (WE _ hm)
 ·refine XK.2 ⟨fun y hy=>⟨(hadd.2 y hy).1.1,fun d hdx hdy=>?_⟩,hi.pw⟩
  have:=(hadd.2 y hy).2;simp only at hdx;rw[hdx,hdy] at this;simp at this
 ·rcases WG.1 hx with rfl|hx<;>rcases WG.1 hy with rfl|hy
  ·exact .inr hadd.1
  ·exact .inr (hadd.2 y hy).1.1
  ·have:=(hadd.2 x hx).1.2
   simpa using this
  ·exact hi.pp x hx y hy
 ·rcases WG.1 hyp with rfl|hyp
  ·exact hwa x (h2 x hx).1
  ·exact hi.pa y hyp x (h2 x hx).1 hax
 ·have h3:=he1 x (h2 x hx).1 hl
  unfold nL at*
  rw[he.1];exact h3
 ·rw[eJ,if_neg (fun hc=>hdd (i,o) (by simp) hiu hc.1)]
  refine hag d (fun x hx=>hdd x (WE _ hx)) (fun x hx hl=>?_);rcases h1 x hx with e|hx
  ·rw[e] at hl;simp only at hl;rw[hiu] at hl;cases hl
  ·exact hde x hx hl
 ·have look: ∀x:Oper,looks all x o=false→ ∀d,o.dst=some d→d∉x.looksAt all.toArray:=fun x hx d hd=>jT hx hd
  rcases WG.1 hx with rfl|hx
  ·exact⟨v,hv.of_same (execOp_put o (fun cs b=>Region.noSelect_spec hns i o cs b (by simpa using hi.tl _ hin)) b o.dst v (look o hadd.1)) (wanted_put o b o.dst v (look o hadd.1)),uq _ _ _⟩
  ·obtain⟨u,hu1,hu2⟩:=hyy x hx hu
   have hl:=(hadd.2 x hx).1.1;refine⟨u,hu1.of_same (execOp_put x.2 (fun cs b=>Region.noSelect_spec hns x.1 x.2 cs b (by simpa using hi.pl x hx)) b o.dst v (look x.2 hl)) (wanted_put x.2 b o.dst v (look x.2 hl)),?_⟩;rw[Act.put_comm b v u (fun d hd1 hd2=>?_),hu2];have:=(hadd.2 x hx).2;rw[hd1,hd2] at this;simp at this
theorem AB {i:Nat} {o:Oper} {s':AS} (hin:(i,o)∈todo) (hna:aO o=false) (hwa: ∀x∈todo,waits o x.1=false) (hadd:tw all pend o=true) (he:s'.h=s.h∧s'.nx=s.nx)
  (hy: ∀M N b w,Fits M N s nt b w→ ∃v,YieldsAt P all.toArray w o v b∧Fits M N s' nt (b.put o.dst v) w) (h:DL P nt all (todo.filter fun x=>!WO x.1 i) ((i,o)::pend) Q s'):DL P nt all todo pend Q s:=by
 intro hns hd hal B M N listed a w fuel hB hi hc;exact h hns hd hal B M N listed a w fuel (by unfold Bs.ext at*;rw[he.1,he.2];exact hB) (hi.read hns hin hna hwa hadd he hy) hc
theorem nk (hns:Region.noSelect all.toArray=true): ∀{pend:List (Nat×Oper)},(∀x∈pend,all[x.1]? =some x.2)→(pend.Pairwise fun x y=>looks all y.2 x.2=false∧ ∀d,x.2.dst=some d→y.2.dst≠some d)→
  (∀x∈pend,looks all x.2 x.2=false)→(∀x∈pend,fh P nt all s x.2)→ ∀{b:Act},Fits M N s nt b w→
  ∃c:Act,Fits M N s nt c w∧c.tmps.size=b.tmps.size∧c.defers=b.defers∧(∀d,(∀x∈pend,listed.getD x.1 true=false→x.2.dst≠some d)→c.tmps[d]? =b.tmps[d]?)∧
   (∀x∈pend,listed.getD x.1 true=false→ ∃v,YieldsAt P all.toArray w x.2 v c∧c.put x.2.dst v=c)
 | [],_,_,_,_,b,hb=>⟨b,hb,rfl,rfl,fun _ _=>rfl,fun x hx=>by cases hx⟩
 |(i,o)::pend,hpl,hpw,hse,hag,b,hb=>by
  rw[XK] at hpw;obtain⟨c,hc,hsz,hdf,hcd,hcy⟩:=nk hns (pend:=pend) (fun x hx=>hpl x (WE _ hx)) hpw.2 (fun x hx=>hse x (WE _ hx)) (fun x hx=>hag x (WE _ hx)) hb
  cases hu:listed.getD i true with
  |true=>
   refine⟨c,hc,hsz,hdf,fun d hd=>hcd d fun x hx=>hd x (WE _ hx),fun x hx hux=>?_⟩;rcases WG.1 hx with rfl|hx
   ·rw[hu] at hux;cases hux
   ·exact hcy x hx hux
  |false=>
   obtain⟨v,hv,hf⟩:=hag (i,o) (by simp) M N c w hc;have look: ∀x:Oper,looks all x o=false→ ∀d,o.dst=some d→d∉x.looksAt all.toArray:=fun x hx d hd=>jT hx hd;refine⟨c.put o.dst v,hf,by rw[gX,hsz],by rw[iD,hdf],fun d hd=>?_,fun x hx hux=>?_⟩
   ·rw[eJ,if_neg (fun h=>hd (i,o) (by simp) hu h.1)]
    exact hcd d fun x hx=>hd x (WE _ hx)
   ·rcases WG.1 hx with rfl|hx
    ·have hl:=hse (i,o) (by simp)
     exact⟨v,hv.of_same (execOp_put o (fun cs b=>Region.noSelect_spec hns i o cs b (by simpa using hpl (i,o) (by simp))) c o.dst v (look o hl)) (wanted_put o c o.dst v (look o hl)),uq _ _ _⟩
    ·obtain⟨u,hu1,hu2⟩:=hcy x hx hux
     have hl:=(hpw.1 x hx).1;refine⟨u,hu1.of_same (execOp_put x.2 (fun cs b=>Region.noSelect_spec hns x.1 x.2 cs b (by simpa using hpl x (WE _ hx))) c o.dst v (look x.2 hl)) (wanted_put x.2 c o.dst v (look x.2 hl)),?_⟩;rw[Act.put_comm c v u (fun d hd1 hd2=>(hpw.1 x hx).2 d hd1 hd2),hu2]
theorem zz {o:Oper} {a b:Act} {w:World} {K K':Act→World→Prop} {Q:Exit→Act→World→Prop} (he:execOp a.eval o=execOp b.eval o) (hdef: ∀d w',¬K' ({b with defers:=d::b.defers}.put o.dst undef) w')
  (hk: ∀v w',K' (b.put o.dst v) w'→K (a.put o.dst v) w') (h:o.wp P b w K' fun _ _ _=>False):o.wp P a w K Q:=by
 unfold Oper.wp at*
 rw[he];generalize(execOp b.eval o).run P w=r at*
 cases r with
 |ok n w'=>
  cases n<;>simp only[Oper.upon] at h ⊢
  case value v=>exact hk _ _ h
  case skip=>exact hk _ _ h
  case defer d=>exact absurd h (hdef d w')
  case enter f args=>
   refine Calls.mono h fun e w'' he=>?_
   cases e with
   |returned v=>exact hk _ _ he
   |panicked c=>exact he.elim
   |outgrown=>obtain⟨_,_,h⟩:=he;exact h.elim
  case row row args=>exact Rows.mono h fun v w'' he=>hk _ _ he
 |halt x w'=>cases x<;>simp only[Oper.upon] at h ⊢
def jd (all:List Oper) (pend:List (Nat×Oper)) (o:Oper):Bool:=pend.all fun x=>waits o x.1||!looks all o x.2
theorem kV.early {B:Bs} (hi:kV P nt all todo pend B M N s listed a w) (hns:Region.noSelect all.toArray=true) (hd:eS 0 all=true) (hal:gl P nt all) (hB:B.ext M N s w) (hagn: ∀x∈pend,fh P nt all s x.2) {j:Nat} {o:Oper} (hm:(j,o)∈todo) (ha:aO o=true)
  (hu:listed.getD j true=false): ∃v w',(execOp a.eval o).run P w= .ok (.value v) w'∧B.ext M N s w'∧kV P nt all todo pend B M N s (listed.setIfInBounds j true) (a.put o.dst v) w':=by
 obtain⟨b,hb,hsz,hdf,hag,hy⟩:=hi.ap;obtain⟨bl,he1,he2⟩:=hi.er;obtain⟨h1,⟨d,hd1,hdn⟩,⟨t,z,ht,hz⟩,_,hfar⟩:=hal j o (hi.tl _ hm) ha;have hlt:=dB hu;have hk: ∀b,b<w.heap.size→(w.alloc (.cells z.cells t)).heap[b]? =w.heap[b]? :=fun b hb=>wm w _ b hb
 have hstep:Ext M N (· <s.nx) s.h w M N (· <s.nx) s.h (w.alloc (.cells z.cells t)):=
  ⟨rfl,rfl,rfl,by simp,fun b hb _=>hk b hb, .refl _,fun b c h1 h2=>by simp[h1] at h2, .refl _ _,fun _ h=>h,fun i o hi hre=> .inr ⟨i,o,hi,hre,rfl⟩⟩
 have hse: ∀x∈pend,looks all x.2 x.2=false:=fun x hx=>by
  rcases hi.pp x hx x hx with h7|h7
  ·obtain⟨e,he,hb,hon⟩:=eF h7
   have:=hZ all 0 x.1 x.2 hd (hi.pl x hx) e he hb;omega
  ·exact h7
 obtain⟨c,hcf,hcs,hcd,hca,hcy⟩:=nk (listed:=listed.setIfInBounds j true) hns hi.pl hi.pw hse hagn (M:=M) (N:=N) (w:=w.alloc (.cells z.cells t)) (b:=b) ⟨hb.1.more hk,hb.2⟩;refine⟨.pointer (some ⟨w.heap.size,0,none⟩),w.alloc (.cells z.cells t),?_,hB.trans hstep,by simp[hi.size],hi.tl,hi.pl,hi.dj,fun i q hq hqu=>?_,hi.pw,hi.pp,hi.pa,⟨fun k=>if k=j then w.heap.size else bl k,fun x hx hl=>?_,fun x hx y hy hlx hly hne=>?_⟩,c,hcf,by rw[gX,hcs,hsz],by rw[iD,hcd,hdf],fun d' hdd hde=>?_,hcy⟩
 ·simp only[execOp,ht]
  simp[Instr.alloc,hz,newVar,newRow]
 ·rw[dV hlt] at hqu
  split at hqu
  ·cases hqu
  ·exact hi.Cg i q hq hqu
 ·simp only
  by_cases hxj:x.1=j
  ·have hxo:x.2=o:=by
    have:=hi.tl x hx;rw[hxj,hi.tl _ hm] at this;exact(Xt this).symm
   rw[if_pos hxj,hxo];refine⟨t,z,d,ht,hz,hd1,?_,heap_alloc_new w _,hb.1.xw,fun i o hio hre he=>?_,hB.size⟩
   ·rw[eJ,if_pos ⟨hd1,by rw[hsz,hb.2.2.2];exact hdn⟩]
   ·have:=hb.1.lt hio hre;omega
  ·rw[if_neg hxj]
   rw[dV hlt,if_neg hxj] at hl;obtain⟨t',v',d',k1,k2,k3,k4,k5,k6⟩:=he1 x hx hl;refine⟨t',v',d',k1,k2,k3,?_,?_,k6⟩
   ·rw[eJ,if_neg (fun hc=>(hfar x.1 x.2 (hi.tl x hx) hxj).2 d hd1 (by rw[k3,←hc.1,hd1]))];exact k4
   ·rw[hk _ (Xz.1 k5).1];exact k5
 ·simp only
  rw[dV hlt] at hlx hly
  have BA: ∀z∈todo,z.1≠j→(if z.1=j then true else listed.getD z.1 true)=true→bl z.1<w.heap.size:=fun z hz hzj hl=>by
   rw[if_neg hzj] at hl;obtain⟨_,_,_,_,_,_,_,k5,_⟩:=he1 z hz hl;exact(Xz.1 k5).1
  by_cases hxj:x.1=j<;>by_cases hyj:y.1=j
  ·exact absurd (hxj.trans hyj.symm) hne
  ·rw[if_pos hxj,if_neg hyj];have:=BA y hy hyj hly;omega
  ·rw[if_neg hxj,if_pos hyj];have:=BA x hx hxj hlx;omega
  ·rw[if_neg hxj,if_neg hyj]
   rw[if_neg hxj] at hlx;rw[if_neg hyj] at hly;exact he2 x hx y hy hlx hly hne
 ·rw[eJ,if_neg (fun hc=>hde (j,o) hm (by rw[dV hlt,if_pos rfl]) hc.1),hca d' hdd]
  refine hag d' (fun x hx hux=>hdd x hx ?_) (fun x hx hlx=>hde x hx ?_)
  ·have hne:x.1≠j:=fun e=>hi.dj x hx _ hm e.symm
   rw[dV hlt,if_neg hne];exact hux
  ·rw[dV hlt];split
   ·rfl
   ·exact hlx
theorem nL.step {B:Bs} {M':Mem} {N':Nm} {s':AS} {w':World} {o:Oper} {aG:Nat} (h:nL P M N s B a w o aG) (hx:Ext M N (· <s.nx) s.h w M' N' (· <s'.nx) s'.h w'):nL P M' N' s' B a w' o aG:=by
 obtain⟨t,v,d,h1,h2,h3,h4,h5,h6,h7,h8⟩:=h;have hlt:=(Xz.1 h5).1;refine⟨t,v,d,h1,h2,h3,h4,by rw[hx.gd aG hlt h7];exact h5,?_,fun i o hio hre he=>?_,h8⟩
 ·cases hm:M' aG with
  |none=>rfl
  |some c=>
   rcases hx.gn aG c h6 hm with h9|⟨i,o,h9,h10,h11⟩
   ·omega
   ·exact absurd h11 (h7 i o h9 h10)
 ·rcases hx.fQ i o hio hre with h9|⟨j,p,h9,h10,h11⟩
  ·omega
  ·exact h7 j p h9 h10 (h11.trans he)
def pg (todo:List (Nat×Oper)) (E:List Nat):Bool:=todo.all fun x=>E.contains x.1||(aO x.2||todo.any fun y=>!aO y.2&&waits x.2 y.1)
theorem kV.eff {B:Bs} (hi:kV P nt all todo pend B M N s listed a w) (hns:Region.noSelect all.toArray=true) (hd:eS 0 all=true) (hal:gl P nt all) {j:Nat} {o:Oper} (hm:(j,o)∈todo) (h0: ∀x∈todo,aO x.2=true→waits o x.1=false)
  (h1:jd all pend o=true) (hj:j∈Region.ready .any all.toArray listed) (hu:listed.getD j true=false): ∃b,Fits M N s nt b w∧execOp a.eval o=execOp b.eval o∧Region.wanted o (Go.yielded all.toArray a.tmps)=Region.wanted o (Go.yielded all.toArray b.tmps)∧
   ∀v M' N' s' w',Ext M N (· <s.nx) s.h w M' N' (· <s'.nx) s'.h w'→Fits M' N' s' nt (b.put o.dst v) w'→(∀x∈bg pend o,fh P nt all s' x.2)→
    kV P nt all (todo.filter fun x=>!WO x.1 j) (bg pend o) B M' N' s' (listed.setIfInBounds j true) (a.put o.dst v) w':=by
 obtain⟨bl,he1,he2⟩:=hi.er;obtain⟨_,o2,ho2,hall⟩:=mem_ready.1 hj;have ho':=hi.tl _ hm
 have hoo:o2=o:=by
  have:all[j]? =some o2:=by simpa using ho2
  exact Xt (this.symm.trans ho')
 rw[hoo] at ho2 hall;have hlt:=dB hu;obtain⟨b,hb,hsz,hdf,hag,hyy⟩:=hi.ap
 have hpb: ∀x∈pend,waits o x.1=true∨looks all o x.2=false:=fun x hx=>by
  have:=WX.1 h1 x hx;simpa using this
 have hfar: ∀x∈todo,listed.getD x.1 true=true→looks all o x.2=false∧ ∀d,x.2.dst=some d→o.dst≠some d:=fun x hx hxl=>by
  have hxa:=(he1 x hx hxl).alloc;have hne:j≠x.1:=fun e=>by rw[←e,hu] at hxl;cases hxl
  exact⟨hal.bu (hi.tl x hx) ho' hxa (h0 x hx hxa) hne,((hal _ _ (hi.tl x hx) hxa).2.2.2.2 _ _ ho' hne).2⟩
 have hsame:=kV.same hag hns ho' hj hpb (fun x hx hxl=>(hfar x hx hxl).1)
 have hrest: ∀x∈pend,listed.getD x.1 true=false→x∈bg pend o:=fun x hx hux=>by
  refine WW.2 ⟨hx,?_⟩
  cases hw:waits o x.1 with
  |false=>rfl
  |true=>
   obtain⟨e,he,hb,hon⟩:=eF hw;have:=hall e he hb;rw[hon,jA hux] at this;cases this
 have hun: ∀k,(listed.setIfInBounds j true).getD k true=false→k≠j∧listed.getD k true=false:=by
  intro k hk;rw[dV hlt] at hk;split at hk
  ·cases hk
  ·rename_i h;exact⟨h,hk⟩
 have hsub: ∀x∈bg pend o,x∈pend:=fun x hx=>(WW.1 hx).1
 have hsubt: ∀x∈todo.filter (fun x=>!WO x.1 j),x∈todo∧x.1≠j:=fun x hx=>by
  obtain⟨h7,h8⟩:=WW.1 hx;exact⟨h7,fun e=>by simp[e] at h8⟩
 refine⟨b,hb,hsame.1,hsame.2,fun v M' N' s' w' hx hf h5=>?_⟩
 have hse: ∀x∈bg pend o,looks all x.2 x.2=false:=fun x hx=>by
  rcases hi.pp x (hsub x hx) x (hsub x hx) with h7|h7
  ·obtain⟨e,he,hb,hon⟩:=eF h7
   have:=hZ all 0 x.1 x.2 hd (hi.pl x (hsub x hx)) e he hb;omega
  ·exact h7
 obtain⟨c,hcf,hcs,hcd,hca,hcy⟩:=nk (listed:=listed.setIfInBounds j true) hns (fun x hx=>hi.pl x (hsub x hx)) (hi.pw.sublist Y6) hse h5 hf;have hltrue: ∀x∈todo.filter (fun x=>!WO x.1 j),(listed.setIfInBounds j true).getD x.1 true=listed.getD x.1 true:=fun x hx=>by rw[dV hlt,if_neg (hsubt x hx).2]
 refine⟨by simp[hi.size],fun x hx=>hi.tl x (hsubt x hx).1,fun x hx=>hi.pl x (hsub x hx),fun x hx y hy=>hi.dj x (hsub x hx) y (hsubt y hy).1,fun k q hk hku=>?_,hi.pw.sublist Y6,
      fun x hx y hy=>hi.pp x (hsub x hx) y (hsub y hy),fun y hy x hx=>hi.pa y (hsub y hy) x (hsubt x hx).1,⟨bl,fun x hxt hxl=>?_,fun x hxt y hyt h1 h2=>?_⟩,c,hcf,by rw[hcs,gX,gX,hsz],by rw[hcd,iD,iD,hdf],fun d hdd hde=>?_,hcy⟩
 ·obtain⟨h7,h8⟩:=hun k hku
  rcases hi.Cg k q hk h8 with h9|h9
  ·exact .inl (WW.2 ⟨h9,by cases hb:WO k j with|false=>rfl|true=>exact absurd (WK hb) h7⟩)
  ·exact .inr (hrest _ h9 h8)
 ·rw[hltrue x hxt] at hxl
  exact((he1 x (hsubt x hxt).1 hxl).step hx).put (hfar x (hsubt x hxt).1 hxl).2
 ·rw[hltrue x hxt] at h1;rw[hltrue y hyt] at h2
  exact he2 x (hsubt x hxt).1 y (hsubt y hyt).1 h1 h2
 ·rw[hca d hdd,eJ,eJ,hsz]
  split
  ·rfl
  ·refine hag d (fun x hx hux=>hdd x (hrest x hx hux) ?_) (fun x hxt hxl=>?_)
   ·have hne:x.1≠j:=fun e=>hi.dj x hx _ hm e.symm
    rw[dV hlt,if_neg hne];exact hux
   ·have hne:x.1≠j:=fun e=>by rw[e,hu] at hxl;cases hxl
    have hin:x∈todo.filter (fun x=>!WO x.1 j):=WW.2 ⟨hxt,by cases hb:WO x.1 j with|false=>rfl|true=>exact absurd (WK hb) hne⟩;exact hde x hin (by rw[hltrue x hin];exact hxl)
theorem Sl {E:List Nat} (hE:pg todo E=true) (hne: ∃x∈todo,aO x.2=false) (hagn: ∀x∈todo,aO x.2=true→ ∀x∈pend,fh P nt all s x.2)
  (h: ∀j o,j∈E→(j,o)∈todo→(∀o',(j,o')∈todo→o'=o)→aO o=false∧(∀x∈todo,aO x.2=true→waits o x.1=false)∧jd all pend o=true∧(∀M N b w,Fits M N s nt b w→Region.wanted o (Go.yielded all.toArray b.tmps)=true)∧ ∃R,OT P nt o s R∧
   ∀s',R s'→(∀x∈bg pend o,fh P nt all s' x.2)∧DL P nt all (todo.filter fun x=>!WO x.1 j) (bg pend o) Q s'):DL P nt all todo pend Q s:=by
 intro hns hd hal B M N listed a w fuel hB
 induction fuel generalizing listed a w with
 |zero=>
  intro hi hc;obtain⟨x,hx,hxa⟩:=hne
  have hxu:listed.getD x.1 true=false:=by
   obtain⟨bl,he1,_⟩:=hi.er
   cases hl:listed.getD x.1 true with
   |false=>rfl
   |true=>have:=(he1 x hx hl).alloc;rw[hxa] at this;cases this
  have:=kQ hxu
  omega
 |succ fuel ih=>
  intro hi hc;obtain⟨bl,he1,he2⟩:=hi.er
  have hunl: ∀x∈todo,aO x.2=false→listed.getD x.1 true=false:=fun x hx hxa=>by
   cases hl:listed.getD x.1 true with
   |false=>rfl
   |true=>have:=(he1 x hx hl).alloc;rw[hxa] at this;cases this
  refine⟨fun hr=>?_,fun j hj=>?_⟩
  ·obtain⟨x,hx,hxa⟩:=hne
   have:=iZ hi.size hd hr x.1;rw[hunl x hx hxa] at this;cases this
  obtain⟨hu,o,ho,hall⟩:=mem_ready.1 hj;have ho':all[j]? =some o:=by simpa using ho
  have hlt:=dB hu;rcases hi.Cg j o ho' hu with hm|hm
  ·cases hja:aO o with
   |true=>
    obtain⟨v,w',hrun,hB',hi'⟩:=hi.early hns hd hal hB (hagn _ hm hja) hm hja hu;unfold wpOp;simp only[ho];rw[if_pos (fL (hal j o ho' hja).1 _)];refine .inl ?_;unfold Oper.wp;rw[hrun];simp only[Oper.upon]
    exact ih _ _ _ hB' hi' (by have:=cD hu;omega)
   |false=>
   have hjE:j∈E:=by
    have:=WX.1 hE _ hm;simp only[Xl,Xr,WN,W5] at this;rcases this with h1|h1|⟨y,hy,h0,h1⟩
    ·simpa using h1
    ·rw[hja] at h1;cases h1
    ·obtain⟨e,he,hb,hon⟩:=eF h1
     have:=hall e he hb;rw[hon,jA (hunl y hy h0)] at this;cases this
   obtain⟨_,h0,h1,h2,R,h3,h4⟩:=h j o hjE hm (fun o' ho2=>by
    have:=hi.tl _ ho2;simp only at this;rw[ho'] at this
    exact(Xt this).symm)
   obtain⟨b,hb,hsame,hwan,hnew⟩:=hi.eff hns hd hal hm h0 h1 hj hu;unfold wpOp;simp only[ho];rw[if_pos (by rw[hwan];exact h2 M N b w hb)];refine .inl (zz (K':=fun a' w'=> ∃M' N' s',Ext M N (· <s.nx) s.h w M' N' (· <s'.nx) s'.h w'∧Fits M' N' s' nt a' w'∧R s') hsame ?_ ?_ (h3 M N b w hb _ _ fun M' N' s' a' w' hx hf hr=>⟨M',N',s',hx,hf,hr⟩))
   ·rintro d w' ⟨M',N',s',_,hf,_⟩
    have:=hf.2.2.1;rw[iD] at this;cases this
   ·rintro v w' ⟨M',N',s',hx,hf,hr⟩
    obtain⟨h5,h6⟩:=h4 s' hr;exact h6 hns hd hal B M' N' _ _ w' fuel (hB.trans hx) (hnew v M' N' s' w' hx hf h5) (by have:=cD hu;omega)
  ·obtain⟨v,hv,hi'⟩:=hi.take hns hal hm hj
   refine wpOp_of_stOp (K:=fun a'=>a'=a.put o.dst v) (fun a' ha=>?_) (hv.stOp ho rfl);subst ha;exact ih _ _ _ hB hi' (by have:=cD hu;omega)
theorem Rel.AY {M:Mem} {N:Nm} {n:Nat} {h:AH} {w:World} (hr:Rel M N (· <n) h w) {aG e:Nat} {o:AO} (hM:M aG=none) (hne: ∀i p,h.get i=some p→p.real=true→N.aG i≠aG) (ho:OR M (N.with n aG e) (· <n+1) w n o):
  Rel M (N.with n aG e) (· <n+1) ((n,some o)::h) w:=by
 have ha:=N.cW n aG e
 have hget: ∀i p,AH.get ((n,some o)::h) i=some p→(i=n∧p=o)∨(i<n∧h.get i=some p):=by
  intro i p hi;rw[AH.aA] at hi;split at hi
  ·rename_i hin;exact .inl ⟨hin,by simpa using hi.symm⟩
  ·exact .inr ⟨hr.used i p hi,hi⟩
 refine⟨hr.cZ,fun i p hi=>?_,fun i p hi hre=>?_,fun i p hi=>?_,fun i j p q hi hj hp hq hij=>?_⟩
 ·rcases hget i p hi with⟨rfl,rfl⟩|⟨h1,h2⟩<;>omega
 ·rcases hget i p hi with⟨rfl,rfl⟩|⟨h1,h2⟩
  ·simpa using hM
  ·rw[ha.aG i h1];exact hr.dA i p h2 hre
 ·rcases hget i p hi with⟨rfl,rfl⟩|⟨h1,h2⟩
  ·exact ho
  ·exact(hr.obj i p h2).mono (.refl _) ha (fun i hi=>by omega) h1 rfl
 ·rcases hget i p hi with⟨rfl,rfl⟩|⟨h1,h2⟩<;>rcases hget j q hj with⟨rfl,rfl⟩|⟨h3,h4⟩
  ·rfl
  ·rw[ha.aG j h3] at hij;simp at hij;exact absurd hij.symm (hne _ _ h4 hq)
  ·rw[ha.aG i h1] at hij;simp at hij;exact absurd hij (hne _ _ h2 hp)
  ·rw[ha.aG i h1,ha.aG j h3] at hij;exact hr.inj i j p q h2 h4 hp hq hij
def wj (todo:List (Nat×Oper)) (i:Nat):Bool:=todo.all fun x=>WO x.1 i||(aO x.2||(waits x.2 i||todo.any fun y=>!aO y.2&&waits x.2 y.1))
def jE (s:AS) (d:Nat) (cs:List PV):AS:=match s with|⟨f,h,n⟩=>⟨(d, .ptr n 0)::f,(n,some (.cells cs))::h,n+1⟩
theorem Ef {i:Nat} {o:Oper} {t:TypeId} {z:Value} {d:Nat} (hin:(i,o)∈todo) (ht:o.op= .alloc t) (hz: ∀w,(zeroValue t).run P w= .ok z w) (hd0:o.dst=some d) (hE:wj todo i=true)
  (hagn: ∀x∈pend,fh P nt all s x.2) (hagn2: ∀x∈pend,fh P nt all (jE s d (bW z)) x.2)
  (h:DL P nt all (todo.filter fun x=>!WO x.1 i) pend Q (jE s d (bW z))):DL P nt all todo pend Q s:=by
 intro hns hd hal B M N listed a w fuel hB;have hia:aO o=true:=by simp[aO,ht]
 have AY: ∀{fuel:Nat} {listed:Array Bool} {a:Act} {w:World},B.ext M N s w→kV P nt all todo pend B M N s listed a w→listed.getD i true=true→listed.toList.count false≤fuel→wpAny P .any all.toArray (PJ nt B Q) fuel listed a w:=by
  intro fuel listed a w hB hi hl hc;obtain⟨b,hb,hsz,hdf,hag,hyy⟩:=hi.ap;obtain⟨bl,he1,he2⟩:=hi.er;obtain⟨t',z',d',k1,k2,k3,k4,k5,k6,k7,k8⟩:=he1 _ hin hl;simp only at k1 k3;have e1:t'=t:=by rw[ht] at k1;exact(Op.alloc.inj k1).symm
  subst e1;have e2:z'=z:=by have:=(k2 w).symm.trans (hz w);simpa using this
  subst e2;have e3:d'=d:=by rw[hd0] at k3;exact(Xt k3).symm
  subst e3
  have hdn:d'<nt:=by
   obtain⟨_,⟨d2,g1,g2⟩,_⟩:=hal i o (hi.tl _ hin) hia;rw[hd0] at g1;rw[Xt g1];exact g2
  have ha:=N.cW s.nx (bl i) z'.cells.size
  have hrel:=hb.1.AY (aG:=bl i) (e:=z'.cells.size) (o:= .cells (bW z')) k6 k7
   ⟨z'.cells,t',by simpa using k5,by simp,(ec (M:=M) (N:=N.with s.nx (bl i) z'.cells.size) (U:=(· <s.nx+1)) z').1,(ec z').2, .none _⟩
  have hfr:FR M (N.with s.nx (bl i) z'.cells.size) (· <s.nx+1) s.f b.tmps:=hb.2.1.mono (.refl _) ha (fun i hi=>by omega)
  have hptr:VR M (N.with s.nx (bl i) z'.cells.size) (· <s.nx+1) (.ptr s.nx 0) (.pointer (some ⟨bl i,0,none⟩)):=by
   have:=VR.ptr (M:=M) (N:=N.with s.nx (bl i) z'.cells.size) (U:=(· <s.nx+1)) s.nx 0 (by omega);simpa using this
  have hfit:Fits M (N.with s.nx (bl i) z'.cells.size) (jE s d' (bW z')) nt (b.put (some d') (.pointer (some ⟨bl i,0,none⟩))) w:=by
   obtain⟨sf,sh,sn⟩:=s;exact⟨hrel,hfr.put d' _ _ (by rw[hb.2.2.2];exact hdn) hptr,hb.2.2.1,by rw[gX];exact hb.2.2.2⟩
  have hget: ∀j p,(jE s d' (bW z')).h.get j=some p→j=s.nx∨(j<s.nx∧s.h.get j=some p):=by
   intro j p hj;obtain⟨sf,sh,sn⟩:=s;simp only[jE] at hj;rw[AH.aA] at hj;split at hj
   ·rename_i e;exact .inl e
   ·exact .inr ⟨hb.1.used j p hj,hj⟩
  have hnx:(jE s d' (bW z')).nx=s.nx+1:=by obtain⟨sf,sh,sn⟩:=s;rfl
  have hB':B.ext M (N.with s.nx (bl i) z'.cells.size) (jE s d' (bW z')) w:=by
   unfold Bs.ext at*
   refine⟨hB.os,hB.tape,hB.output,hB.size,hB.gd,hB.ow,hB.gn,⟨fun j hj=>(ha.aG j (hB.ule j hj)).trans (hB.nm.aG j hj),fun j hj=>(ha.ext j (hB.ule j hj)).trans (hB.nm.ext j hj)⟩,fun j hj=>by have:=hB.ule j hj;rw[hnx];omega,fun j p hj hre=>?_⟩;rcases hget j p hj with rfl|⟨h1,h2⟩
   ·exact .inl (by simpa using k8)
   ·rw[ha.aG j h1];exact hB.fQ j p h2 hre
  have hse: ∀x∈pend,looks all x.2 x.2=false:=fun x hx=>by
   rcases hi.pp x hx x hx with h7|h7
   ·obtain⟨e,he,hb,hon⟩:=eF h7
    have:=hZ all 0 x.1 x.2 hd (hi.pl x hx) e he hb;omega
   ·exact h7
  have hsubt: ∀x∈todo.filter (fun x=>!WO x.1 i),x∈todo∧x.1≠i:=fun x hx=>by
   obtain⟨h7,h8⟩:=WW.1 hx;exact⟨h7,fun e=>by simp[e] at h8⟩
  obtain⟨c,hcf,hcs,hcd,hca,hcy⟩:=nk (listed:=listed) hns hi.pl hi.pw hse hagn2 hfit;refine h hns hd hal B M _ listed a w fuel hB' ⟨hi.size,fun x hx=>hi.tl x (hsubt x hx).1,hi.pl,fun x hx y hy=>hi.dj x hx y (hsubt y hy).1,fun k q hk hku=>?_,hi.pw,hi.pp,fun y hy x hx=>hi.pa y hy x (hsubt x hx).1,⟨bl,fun x hxt hxl=>?_,fun x hxt y hyt=>he2 x (hsubt x hxt).1 y (hsubt y hyt).1⟩,c,hcf,by rw[hcs,gX,hsz],by rw[hcd,iD,hdf],fun e hdd hde=>?_,hcy⟩ hc
  ·rcases hi.Cg k q hk hku with h9|h9
   ·refine .inl (WW.2 ⟨h9,?_⟩)
    cases hbq:WO k i with
    |false=>rfl
    |true=>rw[WK hbq,hl] at hku;cases hku
   ·exact .inr h9
  ·obtain⟨t2,z2,d2,m1,m2,m3,m4,m5,m6,m7,m8⟩:=he1 x (hsubt x hxt).1 hxl
   refine⟨t2,z2,d2,m1,m2,m3,m4,m5,m6,fun j p hj hre=>?_,m8⟩;rcases hget j p hj with rfl|⟨h1,h2⟩
   ·rw[Nm.Ck]
    exact fun e=>he2 x (hsubt x hxt).1 _ hin hxl hl (hsubt x hxt).2 e.symm
   ·rw[ha.aG j h1];exact m7 j p h2 hre
  ·rw[hca e hdd,eJ]
   by_cases hed:d'=e
   ·subst hed
    rw[if_pos ⟨rfl,by rw[hb.2.2.2];exact hdn⟩];exact k4
   ·rw[if_neg (fun hc=>hed (Xt hc.1))]
    refine hag e hdd (fun x hx hxl he=>?_);by_cases hxi:x.1=i
    ·have h3:=hi.tl x hx
     rw[hxi,hi.tl _ hin] at h3;rw[←Xt h3,hd0] at he;exact hed (Xt he)
    ·exact hde x (WW.2 ⟨hx,by cases hb:WO x.1 i with|false=>rfl|true=>exact absurd (WK hb) hxi⟩) hxl he
 clear h hagn2
 induction fuel generalizing listed a w with
 |zero=>
  intro hi hc
  cases hl:listed.getD i true with
  |true=>exact AY hB hi hl hc
  |false=>have:=kQ hl;omega
 |succ fuel ih=>
  intro hi hc
  cases hl:listed.getD i true with
  |true=>exact AY hB hi hl hc
  |false=>
   obtain⟨bl,he1,he2⟩:=hi.er
   have hunl: ∀x∈todo,aO x.2=false→listed.getD x.1 true=false:=fun x hx hxa=>by
    cases hl:listed.getD x.1 true with
    |false=>rfl
    |true=>have:=(he1 x hx hl).alloc;rw[hxa] at this;cases this
   refine⟨fun hr=>?_,fun j hj=>?_⟩
   ·have:=iZ hi.size hd hr i
    rw[hl] at this;cases this
   obtain⟨hu,q,hq,hall⟩:=mem_ready.1 hj;have hq':all[j]? =some q:=by simpa using hq
   rcases hi.Cg j q hq' hu with hm|hm
   ·cases hja:aO q with
    |true=>
     obtain⟨v,w',hrun,hB',hi'⟩:=hi.early hns hd hal hB hagn hm hja hu;unfold wpOp;simp only[hq];rw[if_pos (fL (hal j q hq' hja).1 _)];refine .inl ?_;unfold Oper.wp;rw[hrun];simp only[Oper.upon]
     exact ih _ _ _ hB' hi' (by have:=cD hu;omega)
    |false=>
     exfalso
     have wait: ∀k,listed.getD k true=false→waits q k=true→False:=fun k hk hw=>by
      obtain⟨e,he,hb,hon⟩:=eF hw;have:=hall e he hb;rw[hon,jA hk] at this;cases this
     have:=WX.1 hE _ hm;simp only[Xl,Xr,WN,W5] at this;rcases this with h1|h1|h1|⟨y,hy,h0,h1⟩
     ·have hji:=WK h1
      subst hji;rw[hi.tl _ hin] at hq';simp only[Wo] at hq';rw[←hq',hia] at hja;cases hja
     ·rw[hja] at h1;cases h1
     ·exact wait i hl h1
     ·exact wait y.1 (hunl y hy h0) h1
   ·obtain⟨v,hv,hi'⟩:=hi.take hns hal hm hj
    refine wpOp_of_stOp (K:=fun a'=>a'=a.put q.dst v) (fun a' ha=>?_) (hv.stOp hq rfl);subst ha;exact ih _ _ _ hB hi' (by have:=cD hu;omega)
def eN:Nat→List Oper→List (Nat×Oper)
 |_,[]=> []
 |n,o::r=>(n,o)::eN (n+1) r
theorem fX: ∀(l:List Oper) (n i:Nat) (o:Oper),(i,o)∈eN n l↔n≤i∧l[i-n]? =some o
 | [],n,i,o=>by simp[eN]
 |c::l,n,i,o=>by
  simp only[eN,WG,WA];rw[fX l (n+1) i o];by_cases h:i=n
  ·subst h
   simp only[true_and,Wz,Nat.sub_self,YR,Wo];exact⟨fun h=>h.elim Eq.symm (fun h=>by omega),fun h=> .inl h.symm⟩
  ·by_cases h2:n≤i
   ·rw[show i-n=(i-(n+1))+1 by omega,Yt]
    constructor
    ·rintro(⟨h3,_⟩|⟨_,h3⟩)
     ·exact absurd h3 h
     ·exact⟨h2,h3⟩
    ·rintro⟨_,h3⟩;exact .inr ⟨by omega,h3⟩
   ·constructor
    ·rintro(⟨h3,_⟩|⟨h3,_⟩)
     ·exact absurd h3 h
     ·omega
    ·rintro⟨h3,_⟩;exact absurd h3 h2
def pV:List Oper→Bool
 | []=>true
 |o::r=>match o.op with
  | .select ..=>false
  |_=>pV r
theorem uB {ops:Array Oper} (h:pV ops.toList=true):Region.noSelect ops=true:=by
 have key: ∀l:List Oper,pV l=true→ ∀o∈l,(match o.op with| .select ..=>false|_=>true)=true:=by
  intro l
  induction l with
  |nil=>intro _ o ho;cases ho
  |cons c l ih=>
   intro hl o ho;unfold pV at hl;split at hl
   ·cases hl
   ·rename_i hne
    rcases WG.1 ho with rfl|ho
    ·split
     ·rename_i h;exact absurd h (hne _ _)
     ·rfl
    ·exact ih hl o ho
 unfold Region.noSelect;rw[Array.all_eq_true_iff_forall_mem];exact fun o ho=>key _ h o (by simpa using ho)
variable {k:List KI}
theorem DX {id:Nat} {ops:Array Oper} (hm:P.follows .mixedOrders=true) (hns:Region.noSelect ops=true) (hd:eS 0 ops.toList=true) (hal:gl P nt ops.toList) (h:GO P nt (.cv ops.toList (eN 0 ops.toList) []::k) Q s):GO P nt (.code (.region id ops true)::k) Q s:=by
 intro M N a w hf;refine wp_region_any hm ?_;have hf':=hf.drew
 have hin: ∀x∈eN 0 ops.toList,ops.toList[x.1]? =some x.2:=fun x hx=>by
  obtain⟨_,h2⟩:=(fX _ 0 x.1 x.2).1 hx;simpa using h2
 have hfl: ∀i,i<ops.size→(XX ops.size false).getD i true=false:=fun i hi=>by simp[Wm,hi]
 have hno: ∀x∈eN 0 ops.toList,(XX ops.size false).getD x.1 true=true→False:=fun x hx hl=>by
  have:x.1<ops.size:=by simpa using(Wr.1 (hin x hx)).1
  rw[hfl _ this] at hl;cases hl
 have:=h (by rw[XG];exact hns) hd hal ⟨M,N,s.nx,s.h,w⟩ M N (XX ops.size false) a {w with drawn:=w.drawn+1} ops.size Ext.drew
  ⟨by simp,hin,fun _ hx=>(nomatch hx),fun _ hx=>(nomatch hx),fun i o ho _=> .inl ((fX _ 0 i o).2 ⟨WC _,by simpa using ho⟩),Zb,fun _ hx=>(nomatch hx),fun _ hx=>(nomatch hx),
   ⟨fun _=>0,fun x hx hl=>(hno x hx hl).elim,fun x hx _ _ hl=>(hno x hx hl).elim⟩,⟨a,hf',rfl,rfl,fun _ _ _=>rfl,fun _ hx=>(nomatch hx)⟩⟩ (by simp)
 rw[XG] at this;exact this
theorem xQ (h:GO P nt k Q s):GO P nt (.cv all [] pend::k) Q s:=Sk h
def eqB:Bool→Bool→Bool
 |true,b=>b
 |false,true=>false
 |false,false=>true
theorem Sg (a b:Bool):eqB a b=(a==b):=by cases a<;>cases b<;>rfl
def ck (nt:Nat) (all:List Oper) (f:AF) (o:Oper):Option Bool:=
 match o.guard with
 |none=>some true
 |some (g,want)=>match guardOf all f g with
  |some (d, .kb t)=>bif WU d nt then some (eqB t want) else none
  |some (_, .iv (.v (.tuple _)))=>some false
  |_=>none
theorem cY {o:Oper} {c:Bool} (h:ck nt all s.f o=some c) {b:Act} (hf:Fits M N s nt b w):Region.wanted o (Go.yielded all.toArray b.tmps)=c:=by
 unfold ck at h;split at h
 ·rename_i hg
  simp only[Wo] at h;rw[fL hg,h]
 ·rename_i g want hg
  split at h
  ·rename_i d t hy
   cases hb:WU d nt with
   |false=>simp[hb] at h
   |true=>
    simp only[hb,cond_true,Wo,Sg] at h;have:=hf.rN hy (Wj hb);simp[Region.wanted,hg,this,←h]
  ·rename_i d vs hy
   simp only[Wo] at h;have:=hf.rM hy;simp[Region.wanted,hg,this,←h]
  ·cases h
theorem sT {i:Nat} {o:Oper} {s':AS} (hin:(i,o)∈todo) (hna:aO o=false) (hwa: ∀x∈todo,waits o x.1=false) (hg:ck nt all s.f o=some true) (hadd:tw all pend o=true) (he:s'.h=s.h∧s'.nx=s.nx)
  (ho: ∀M N a w,Fits M N s nt a w→ ∃x,(execOp a.eval o).run P w= .ok (.value x) w∧Fits M N s' nt (a.put o.dst x) w) (h:GO P nt (.cv all (todo.filter fun x=>!WO x.1 i) ((i,o)::pend)::k) Q s'):GO P nt (.cv all todo pend::k) Q s:=
 AB hin hna hwa hadd he (fun M N b w hf=>let ⟨x,h1,h2⟩:=ho M N b w hf;⟨x, .inl ⟨cY hg hf, .inl h1⟩,h2⟩) h
theorem DW {i:Nat} {o:Oper} (hin:(i,o)∈todo) (hna:aO o=false) (hwa: ∀x∈todo,waits o x.1=false) (hg:ck nt all s.f o=some false) (hadd:tw all pend o=true)
  (h:GO P nt (.cv all (todo.filter fun x=>!WO x.1 i) ((i,o)::pend)::k) Q (fj o s)):GO P nt (.cv all todo pend::k) Q s:=
 AB hin hna hwa hadd (fM o s) (fun _ _ _ _ hf=>⟨undef, .inr ⟨cY hg hf,rfl⟩,hf.skip o⟩) h
theorem p6 {d:Nat} {t:Bool} (hy:s.f.get d= .iv (.v (.bool t))) (h1:t=true→GO P nt (.cv all todo pend::k) Q (setBool s (.tmp d) true)) (h2:t=false→GO P nt (.cv all todo pend::k) Q (setBool s (.tmp d) false)):
  GO P nt (.cv all todo pend::k) Q s:=by
 have key:GO P nt (.cv all todo pend::k) Q (setBool s (.tmp d) t):=by
  cases t
  ·exact h2 rfl
  ·exact h1 rfl
 intro hns hd hal B M N listed a w fuel hB hi hc;obtain⟨b,hb,hrest⟩:=hi.ap;exact key hns hd hal B M N listed a w fuel hB ⟨hi.size,hi.tl,hi.pl,hi.dj,hi.Cg,hi.pw,hi.pp,hi.pa,hi.er,b,hb.setBool (c:= .tmp d) hy,hrest⟩ hc
theorem rF {E:List Nat} (hE:pg todo E=true) (hne: ∃x∈todo,aO x.2=false) (hagn: ∀x∈todo,aO x.2=true→ ∀x∈pend,fh P nt all s x.2)
  (h: ∀j o,j∈E→(j,o)∈todo→(∀o',(j,o')∈todo→o'=o)→aO o=false∧(∀x∈todo,aO x.2=true→waits o x.1=false)∧jd all pend o=true∧ck nt all s.f o=some true∧ ∃R,OT P nt o s R∧
   ∀s',R s'→(∀x∈bg pend o,fh P nt all s' x.2)∧GO P nt (.cv all (todo.filter fun x=>!WO x.1 j) (bg pend o)::k) Q s'):GO P nt (.cv all todo pend::k) Q s:=
 Sl hE hne hagn fun j o h1 h2 h3=>let ⟨a,b,c,d,e⟩:=h j o h1 h2 h3;⟨a,b,c, @fun _ _ _ _=>cY d,e⟩
theorem BS {i:Nat} {o:Oper} {t:TypeId} {z:Value} {d:Nat} (hin:(i,o)∈todo) (ht:o.op= .alloc t) (hz: ∀w,(zeroValue t).run P w= .ok z w) (hd0:o.dst=some d) (hE:wj todo i=true)
  (hagn: ∀x∈pend,fh P nt all s x.2) (hagn2: ∀x∈pend,fh P nt all (jE s d (bW z)) x.2)
  (h:GO P nt (.cv all (todo.filter fun x=>!WO x.1 i) pend::k) Q (jE s d (bW z))):GO P nt (.cv all todo pend::k) Q s:=Ef hin ht hz hd0 hE hagn hagn2 h
end
end Go.Al
namespace Go.Al
section
variable {P:Program} {nt:Nat} {Q:AQ} {k:List KI} {s:AS}
theorem DJ {ty:Ty} (hty:bE P ty) {o:Oper} {c:Call} (ho:o.op= .call c) {g:FuncId} {asv:List PV} (ha:cK s.f c=some (g,asv)) {fn:Func} {cb:Code} (hfn:P.funcs[g]? =some fn) (hb:fn.body=some cb)
  (hn:(fn.name== "runtime.NumGoroutine")=false) {ng:Nat} (hng:fn.ntmps=ng) {l:List ResultVar} (hl:fn.results.toList=l) (hle:asv.length≤ng) {R:AS→Prop}
  (h:AW P ng cb (fun e t=>(e= .normal∨e= .ret)∧ ∃r s',lR ty t l=some r∧putDst nt o r ⟨s.f,t.h,t.nx⟩=some s'∧R s') ⟨mQ 0 asv,s.h,s.nx⟩):OT P nt o s R:=by
 intro M N a w hf K Z hk;obtain⟨vs,hrun,hlen,hv⟩:=Eb hf ho ha (bM hfn hb hn);unfold Oper.wp;rw[hrun];simp only[Oper.upon];refine calls_of_wp hfn hb ?_
 have hfit:Fits M N ⟨mQ 0 asv,s.h,s.nx⟩ ng {tmps:=vs.toArray++XX (fn.ntmps-vs.toArray.size) undef,defers:=[]} w:=by
  refine⟨hf.1,fun i=>?_,rfl,by simp;omega⟩;rw[tn,if_pos (WC _),Zj,Ws]
  cases hi:asv[i]? with
  |none=>exact .any _
  |some p=>
   have hlt:i<vs.length:=by rw[←hlen];exact(Wr.1 hi).1
   have:=hv i p hi
   have e:(vs.toArray++XX (fn.ntmps-vs.toArray.size) undef).getD i undef=vs.getD i undef:=by
    rw[Wm,Xq (by simpa using hlt),Ws];simp
   simp only[XM];rw[e];exact this
 refine AW.then h hfit fun e a' w' M' N' t hx hf' hq=>?_;obtain⟨he,r,s',hr1,hp,hR⟩:=hq;obtain⟨x,hx1,hx2⟩:=zU hty hf' hl hr1;have hfb:Fits M' N' ⟨s.f,t.h,t.nx⟩ nt a w':=⟨hf'.1,hf.2.1.ext hx,hf.2.2⟩
 have hK:K (a.put o.dst x) w':=by
  cases hd:o.dst with
  |none=>
   have:=dM hp hd;subst this
   exact hk M' N' {f:=s.f,h:=t.h,nx:=t.nx} _ w' hx hfb hR
  |some d=>
   obtain⟨h1,rfl⟩:=dL hp hd;exact hk M' N' {f:=(d,r)::s.f,h:=t.h,nx:=t.nx} _ w' hx (hfb.put d _ x h1 hx2) hR
 have:a'.defers=[]∧ ∃v,(results fn a'.tmps).run P w'= .ok v w'∧K (a.put o.dst v) w':=⟨hf'.2.2.1,x,hx1,hK⟩
 rcases he with rfl|rfl<;>exact this
theorem Sb {ty:Ty} (hty:bE P ty) {all rest:List Oper} {o:Oper} {c:Call} (hg:o.guard=none) (ho:o.op= .call c) {g:FuncId} {asv:List PV} (ha:cK s.f c=some (g,asv)) {fn:Func} {cb:Code} (hfn:P.funcs[g]? =some fn) (hb:fn.body=some cb)
  (hn:(fn.name== "runtime.NumGoroutine")=false) {ng:Nat} (hng:fn.ntmps=ng) {l:List ResultVar} (hl:fn.results.toList=l) (hle:asv.length≤ng)
  (h:GO P ng (.code cb:: .Ko nt s.f (lR ty · l) o all rest::k) Q ⟨mQ 0 asv,s.h,s.nx⟩):GO P nt (.ops all (o::rest)::k) Q s:=by
 refine dE (R:=fun t=>GO P nt (.ops all rest::k) Q t) hg (DJ hty ho ha hfn hb hn hng hl hle ?_) (fun t ht=>ht);intro M N a w hf;refine AW.then h hf fun e a' w' M' N' t hx hf' hq=>⟨M',N',t,hx,hf',?_⟩
 simp only[kp] at hq;obtain⟨he,r,s',h1,h2,h3⟩:=hq;exact⟨he,r,s',h1,h2,h3⟩
theorem Kg {ty:Ty} (hty:bE P ty) {all:List Oper} {todo pend:List (Nat×Oper)} {j:Nat} {o:Oper} {c:Call} (hrd:(j,o)∈todo) (hE:pg todo [j]=true) (hwa: ∀x∈todo,waits o x.1=false) (hagn: ∀x∈todo,aO x.2=true→ ∀x∈pend,fh P nt all s x.2) (hpb:jd all pend o=true) (hg:ck nt all s.f o=some true) (ho:o.op= .call c) {g:FuncId} {asv:List PV}
  (ha:cK s.f c=some (g,asv)) {fn:Func} {cb:Code} (hfn:P.funcs[g]? =some fn) (hb:fn.body=some cb)
  (hn:(fn.name== "runtime.NumGoroutine")=false) {ng:Nat} (hng:fn.ntmps=ng) {l:List ResultVar} (hl:fn.results.toList=l) (hle:asv.length≤ng)
  (h:GO P ng (.code cb:: .Kp nt s.f (lR ty · l) j o all todo pend::k) Q ⟨mQ 0 asv,s.h,s.nx⟩):GO P nt (.cv all todo pend::k) Q s:=by
 have hna:aO o=false:=by simp[aO,ho]
 refine rF hE ⟨_,hrd,hna⟩ hagn fun j' o' hj _ hu=>?_;simp only[Wy] at hj;subst hj;have:=hu o hrd;subst this;refine⟨hna,fun x hx _=>hwa x hx,hpb,hg,_,DJ hty ho ha hfn hb hn hng hl hle (R:=fun s'=>(∀x∈bg pend o,fh P nt all s' x.2)∧GO P nt (.cv all (todo.filter fun x=>!WO x.1 j') (bg pend o)::k) Q s') ?_,fun s' hs=>hs⟩;intro M N a w hf;refine AW.then h hf fun e a' w' M' N' t hx hf' hq=>⟨M',N',t,hx,hf',?_⟩
 simp only[kp] at hq;obtain⟨he,r,s',h1,h2,h3,h4⟩:=hq;exact⟨he,r,s',h1,h2,h3,h4⟩
theorem UA.more {b:Code} {Q:AQ}: ∀{n:Nat} {s:AS},UA P nt b Q n s→n≠0
 |0,_,h=>h.elim
 |_+1,_,_=>by simp
theorem DS {b:Code} {n:Nat} (h:GO P nt (.code b:: .A3 b n::k) Q s):GO P nt (.code (.loop b)::k) Q s:=by
 have h0:UA P nt b (kp P nt k Q) (n+1) s:=by
  intro M N a w hf;refine AW.then h hf fun e a' w' M' N' t hx hf' hq=>⟨M',N',t,hx,hf',?_⟩
  cases e<;>exact hq
 intro M0 N0 a0 w0 hf0
 let J:Act→World→Nat→Prop:=fun a w m=> ∃t M N,Ext M0 N0 (· <s.nx) s.h w0 M N (· <t.nx) t.h w∧Fits M N t nt a w∧UA P nt b (kp P nt k Q) m t
 have hJ0:J a0 w0 (n+1):=⟨s,M0,N0, .refl _ _ _ _ _,hf0,h0⟩
 have cJ: ∀{p:Nat→Prop},(∃n,p n)→ ∃n,p n∧ ∀m,p m→n≤m:=by
  intro p ⟨n,hn⟩
  induction n using Nat.strongRecOn with
  |_ n ih=>
   by_cases hm: ∃m,m<n∧p m
   ·obtain⟨m,h1,h2⟩:=hm;exact ih m h1 h2
   ·exact⟨n,hn,fun m h2=>Xc fun h1=>hm ⟨m,h1,h2⟩⟩
 refine wp_loop (fun a w=> ∃n,J a w n) (fun a w=>by classical exact if h: ∃n,J a w n then YI (cJ h) else 0) ⟨_,hJ0⟩ fun a w hex=>?_;obtain⟨⟨t,M,N,hx,hf,hu⟩,hmin⟩:=X5 (cJ hex);obtain⟨m,hm⟩: ∃m,YI (cJ hex)=m+1:=⟨YI (cJ hex)-1,by have:=hu.more;omega⟩
 rw[hm] at hu;refine AW.then hu hf fun e a' w' M' N' s' hx' hf' hr=>?_
 cases e with
 |normal=>
  have hJ:J a' w' m:=⟨s',M',N',hx.trans hx',hf',hr⟩
  refine⟨⟨_,hJ⟩,?_⟩;simp only[dif_pos hex,dif_pos (⟨_,hJ⟩: ∃n,J a' w' n)];have:=(X5 (cJ (⟨_,hJ⟩: ∃n,J a' w' n))).2 _ hJ
  omega
 |_=>exact⟨M',N',s',hx.trans hx',hf',hr⟩
theorem go_round {b:Code} {n:Nat} (h:GO P nt (.code b:: .A3 b n::k) Q s):GO P nt (.A3 b (n+1)::k) Q s:=by
 intro M N a w hf;refine AW.then h hf fun e a' w' M' N' t hx hf' hq=>⟨M',N',t,hx,hf',?_⟩
 cases e<;>exact hq
end
end Go.Al
