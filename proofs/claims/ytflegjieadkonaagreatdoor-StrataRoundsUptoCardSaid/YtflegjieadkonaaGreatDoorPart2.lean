/-
  What the proofs of the claims need: part 2 of 6.
-/
import Derived.Test.YtflegjieadkonaaGreatDoorPart1
import Derived.Deep.Slices
import Derived.ReadAgain
import Derived.ChangeStays
import Derived.ChangeSame
import Derived.WideShapes
import Derived.RowKit
import Derived.KernelRfl
import Derived.Test.YtflegjieadkonaaGreatDoorProg
import Derived.Sort.EncStr
import Derived.Sort.Grow
open And renaming intro→XA
open Array renaming getD_eq_getD_getElem?→WT,getElem?_append_left→X8,getElem?_eq_getElem→XS,getElem?_modify→XR
open Bool renaming and_eq_true→Xg,eq_false_iff→X7,eq_iff_iff→Xy,false_eq_true→Yn,false_or→Ya,not_eq_true→Yv,not_eq_true'→XF,not_false→Zi,or_eq_false_iff→XL,or_eq_true→XJ,or_false→YR,or_true→Zr,true_and→XV,true_or→Zq
open ByteArray renaming empty→W4
open Classical renaming choose→Zp,choose_spec→YW
open Int renaming toNat_natCast→Xp
open List.Nodup renaming length_le_of_subset→X0
open List renaming all_append→Zz,all_eq_false→Y4,all_eq_true→Xm,any_eq_false→XO,any_eq_true→XM,append_assoc→Xa,append_nil→XE,cons_append→Ym,ext_getElem?→YH,filterMap_append→Z4,filterMap_cons→aac,filter_cons→YD,filter_eq_self→aad,findIdx?_eq_none_iff→Zv,findIdx?_eq_some_iff_getElem→Ze,flatMap_append→YT,flatMap_cons→XZ,foldl_append→YI,foldl_cons→Xq,getD_cons_succ→Yk,getD_eq_getElem?_getD→WU,getElem?_append_left→Xf,getElem?_append_right→Xj,getElem?_drop→Yc,getElem?_eq_getElem→WY,getElem?_eq_some_iff→WX,getElem?_map→W1,getElem?_of_mem→XP,getElem?_range→YF,getElem?_set→XK,getElem?_take→XY,getElem?_toArray→Yf,getElem_inj→Zt,getElem_map→ZG,getElem_mem→XD,length_append→WW,length_cons→Xx,length_filter_le→X6,length_map→Xr,length_nil→YB,length_range→Zm,length_set→YM,length_singleton→XC,length_take→XH,map_append→WZ,map_congr_left→Yx,map_cons→Xe,map_map→Y0,map_nil→XN,mem_append→W7,mem_append_left→Xv,mem_append_right→Yp,mem_cons→Xb,mem_cons_of_mem→W8,mem_cons_self→Xd,mem_filter→Xs,mem_flatMap→Yw,mem_map→Xt,mem_of_getElem?→Xo,mem_of_mem_take→ZI,mem_range→Xu,mem_singleton→W5,nil_append→Y5,nodup_append→Yy,nodup_cons→X5,nodup_nil→XT,not_mem_nil→Zs,range→Xc,take_append_drop→Zd,take_of_length_le→W2,take_succ_cons→Yh,take_succ_eq_append_getElem→Zg
open Nat renaming add_assoc→Yu,add_mul→Yj,add_zero→Y8,beq→Xn,ble→YQ,ble_eq_true_of_le→XB,blt→Xi,eq_of_beq_eq_true→Xh,le_add_left→Yt,le_of_ble_eq_true→WR,le_of_not_lt→YY,le_refl→W0,le_trans→Xz,lt_of_lt_of_le→YX,lt_or_ge→X3,lt_succ_of_lt→YS,lt_succ_self→YC,mul_le_mul_right→Xw,mul_one→ZQ,sub_zero→ZZ,succ_mul→Y7,zero_add→Xk,zero_le→W3
open Option renaming bind_some→ZW,getD_some→Yl,map_eq_some_iff→W6,map_some→XW
open Option.some renaming inj→XX,injEq→WV
open Prod renaming fst→Xl
open Prod.mk renaming injEq→W9
open Array renaming range→aaa
open Array renaming getElem?_map→Zk
set_option maxRecDepth 100000
namespace Go.Al
theorem bv{a b:PV}{c:Bool}{X:Prop}(h:X)(h1:a=b:=by rfl)(h2:c=true:=by rfl):aH a b∧c=true∧X:=⟨by subst h1;exact fun _ _ _ _ h=>h,h2,h⟩
theorem ci{i n:Nat}(h:decide ((i:Int)<(n:Int))=true):i<n:=by simpa using h
theorem co{i n:Nat}(h:decide ((i:Int)<(n:Int))=false):n≤i:=by simpa using h
end Go.Al
namespace Go.Al
def Bc:Op->Bool
  | .binOp .add _ _ _ _=>true
  | .binOp .sub _ _ _ _=>true
  | .binOp .mul _ _ _ _=>true
  | .binOp .rem _ _ _ _=>true
  | .binOp .quo _ _ _ _=>true
  | .indexAddr ..=>true
  | .index ..=>true
  | .slice ..=>true
  |_=>false
theorem wv{ty:Ty}{s:AS}{o:Op}{p:PV}{C:Prop}(h:kN ty s o=some (p,C))(ho:Bc o=false):C:=by
  cases o with
  | binOp op t x y t'=>
    simp only[kN]at h;split at h
    · unfold Hd at h
      split at h
      · split at h<;>first|(cases h;done)|(simp only[WV,W9]at h;rw[<-h.2];trivial)
      · split at h<;>first|(cases h;done)|(simp only[WV,W9]at h;rw[<-h.2];trivial)
      · cases h
    unfold BN at h;split at h
    · split at h
      · unfold Gz at h
        split at h<;>first|(cases h;done)|(simp[Bc]at ho;done)|(simp only[WV,W9]at h;rw[<-h.2];trivial)
      · unfold FY at h
        split at h<;>first
          |(cases h;done)
          |(split at h<;>first|(cases h;done)|(simp only[WV,W9]at h;rw[<-h.2];trivial))
    · unfold FU at h
      split at h<;>first|(cases h;done)|(simp[Bc]at ho;done)|(simp only[WV,W9]at h;rw[<-h.2];trivial)
    · split at h
      all_goals first
        |(cases h;done)
        | (unfold qu at h
           split at h
           · split at h<;>first|(cases h;done)|(simp only[WV,W9]at h;rw[<-h.2];trivial)
           · cases h)
    · split at h
      all_goals first
        |(cases h;done)
        | (unfold qu at h
           split at h
           · split at h<;>first|(cases h;done)|(simp only[WV,W9]at h;rw[<-h.2];trivial)
           · cases h)
    · cases h
  |indexAddr t x i=>simp[Bc]at ho
  |index t x i=>simp[Bc]at ho
  |slice t x lo hi mx=>simp[Bc]at ho
  | call c=>
    obtain⟨a0,args,b0⟩:=c;cases a0 with
    | builtin b=>
      cases b with
      | len=>
        simp only[kN]at h;split at h
        · split at h
          · split at h<;>first|(cases h;done)|(simp only[yK,WV,W9]at h;rw[<-h.2];trivial)
          · split at h<;>first|(cases h;done)|(simp only[yK,WV,W9]at h;rw[<-h.2];trivial)
          · split at h
            · simp only[WV,W9]at h;rw[<-h.2];trivial
            · split at h<;>first|(cases h;done)|(simp only[WV,W9]at h;rw[<-h.2];trivial)
            · cases h
          · cases h
        · cases h
      | max=>
        simp only[kN]at h;split at h
        · split at h<;>first|(cases h;done)|(simp only[WV,W9]at h;rw[<-h.2];trivial)
        · cases h
      | min=>
        simp only[kN]at h;split at h
        · split at h<;>first|(cases h;done)|(simp only[WV,W9]at h;rw[<-h.2];trivial)
        · cases h
      |_=>simp[kN]at h
    |_=>simp[kN]at h
  | unOp op t x=>
    cases op with
    |not=>simp only[kN]at h;split at h<;>first|(cases h;done)|(simp only[WV,W9]at h;rw[<-h.2];trivial)
    |_=>simp[kN]at h
  | lookup t x i ok=>
    have key: ∀{kc:KC} {V:Type} {e:V->IV} {z:V} {zv:Value} {m:List (kc.K×V)},xD ty t ok kc e z zv m (ev s.f i)=some (p,C)->C:=by
      intro kc V e z zv m h;unfold xD at h;split at h
      · split at h
        · split at h
          · split at h<;>(simp only[WV,W9]at h;rw[<-h.2];trivial)
          · cases h
        · cases h
      · cases h
    simp only[kN]at h;split at h
    · exact key h
    · split at h
      · exact key h
      · cases h
    · cases h
  | _=>
    simp only[kN]at h
    repeat' (first|(cases h;done)|(simp only[force_eq,WV,W9]at h;rw[<-h.2];trivial)|split at h)
inductive L4 where
  |read (i:Nat) (o:Oper) (p:PV) (C:Prop)
  |skip (i:Nat) (o:Oper)
  |split (d:Nat) (t:Bool)
def mP(ty:Ty)(nt:Nat)(s:AS)(all:List Oper)(todo pend:List (Nat×Oper)):List (Nat×Oper)->Option L4
  | []=>none
  | (i,o)::r=>match todo.any (fun y=>waits o y.1)||aU o with
    |true=>mP ty nt s all todo pend r
    | false=>match cC nt all s.f o with
      | some true=>match kN ty s o.op with
        | some (p,C)=>match yS all pend o with
          |true=>some (.read i o p C)
          |false=>mP ty nt s all todo pend r
        |none=>mP ty nt s all todo pend r
      | some false=>match yS all pend o with
        |true=>some (.skip i o)
        |false=>mP ty nt s all todo pend r
      | none=>match o.guard with
        | some (g,_)=>match guardOf all s.f g with
          |some (d, .iv (.v (.bool t)))=>some (.split d t)
          |_=>mP ty nt s all todo pend r
        |none=>mP ty nt s all todo pend r
def dD(ty:Ty)(nt:Nat)(all:List Oper)(s:AS):List (Nat×Oper)->Option Prop
  | []=>some True
  | (_,o)::r=>match dD ty nt all s r with
    |none=>none
    | some R=>match cC nt all s.f o with
      | some true=>match kN ty s o.op with
        | some (p,C)=>match o.dst with
          |some d=>bif Xi d nt then some ((aH p (s.f.get d)∧C)∧R) else none
          |none=>some (C∧R)
        |none=>none
      | some false=>match o.dst with
        |some d=>some (s.f.get d= .iv (.v (.tuple #[]))∧R)
        |none=>some R
      |none=>none
def ey(todo:List (Nat×Oper)):List (Nat×Oper):=todo.filter fun x=>!(aU x.2||todo.any fun y=>waits x.2 y.1)
def qC(ty:Ty)(nt:Nat)(all:List Oper)(s:AS)(todo pend:List (Nat×Oper)):Option Prop:=
  match todo.any fun y=>aU y.2 with
  |true=>dD ty nt all s pend
  |false=>some True
def qz(all:List Oper)(i:Nat)(o:Oper):Nat->List Oper->Bool
  |_,[]=>true
  |k,q::r=>(Xn k i||((waits q i||!looks all q o)&&(match o.dst,q.dst with|some d,some e=>!Xn d e|_,_=>true)))&&qz all i o (k+1) r
def mB(ty:Ty)(nt:Nat)(all:List Oper):Nat->List Oper->Bool
  |_,[]=>true
  | i,o::r=>(match o.op with
    | .alloc t=>match o.guard,o.dst,ty t with
      |none,some d,some _=>Xi d nt&&((o.after.toList.all fun e=>!Region.binds .any e)&&qz all i o 0 all)
      |_,_,_=>false
    |_=>true)&&mB ty nt all (i+1) r
def CN(todo:List (Nat×Oper)):List (Nat×Oper)->Option (Nat×Oper)
  | []=>none
  | (i,o)::r=>match aU o,BP todo i with
    |true,true=>some (i,o)
    |_,_=>CN todo r
inductive Stop where
  |fin (e:Exit) (s:AS)
  |cond (c:Operand) (t:Bool) (x y:Code) (k:List KI) (s:AS)
  |guard (all rest:List Oper) (o:Oper) (d:Nat) (want t:Bool) (k:List KI) (s:AS)
  |op (all rest:List Oper) (o:Oper) (k:List KI) (s:AS)
  |loop (b:Code) (k:List KI) (s:AS)
  |draw (id:Nat) (ops:Array Oper) (k:List KI) (s:AS)
  |again (R:AS->Prop) (s:AS)
  |R0 (all rest:List Oper) (o:Oper) (d:Nat) (want t:Bool) (k:List KI) (s:AS)
  |Lg (all:List Oper) (todo pend:List (Nat×Oper)) (d:Nat) (t:Bool) (k:List KI) (s:AS)
  |Lk (all:List Oper) (todo pend:List (Nat×Oper)) (k:List KI) (s:AS)
  |bad (why:Nat) (k:List KI) (s:AS)
  |out (k:List KI) (s:AS)
def pF(id:Nat):List KI->Option (List KI)
  | []=>none
  | .aI j::k=>bif Xn id j then some k else pF id k
  | .code _::k=>pF id k
  | .ops _ _::k=>pF id k
  | .lp _::k=>pF id k
  | .vW _ _::k=>pF id k
  | .cJ _ _ _::k=>pF id k
  | .Hj _ _::k=>pF id k
  | .IM::k=>pF id k
  | .OX ..::_=>none
  | .OY ..::_=>none
def ir:List KI->Option (List KI)
  | []=>none
  | .aI _::k=>ir k
  | .code _::k=>ir k
  | .ops _ _::k=>ir k
  | .lp _::k=>ir k
  | .vW _ _::k=>ir k
  | .cJ _ _ _::k=>ir k
  | .Hj _ _::k=>ir k
  | .IM::k=>ir k
  |k=>some k
structure WO where
  nt:Nat
  res:List ResultVar
  body:Code
abbrev Vs:=Nat->Option WO
def L3(P:Program)(a0:Vs):Prop:= ∀g e,a0 g=some e-> ∃fn,P.funcs[g]? =some fn∧fn.body=some e.body∧(fn.name== "runtime.NumGoroutine")=false∧fn.ntmps=e.nt∧fn.results.toList=e.res
def Eb{α:Type _}:Nat->List PV->(AF->α)->α
  |_,[],k=>k []
  |n,p::r,k=>xV p fun p'=>Eb (n+1) r fun f=>k ((n,p')::f)
theorem yu{α:Type _}: ∀(l:List PV) (n:Nat) (k:AF->α),Eb n l k=k (qx n l)
  | [],_,_=>rfl
  |p::r,n,k=>by simp only[Eb,eF,yu r,qx]
def callee(a0:Vs)(s:AS):Op->Option (WO×List PV)
  | .call c=>match bK s.f c with
    | some (g,asv)=>match a0 g with
      | some e=>match YQ asv.length e.nt with
        |true=>some (e,asv)
        |false=>none
      |none=>none
    |none=>none
  |_=>none
structure Way where
  fns:Vs
  un:Nat
  cl:Bool
def b5(ty:Ty)(y:Way):Nat->Nat->List KI->AS->Prop->Option (Prop×Nat×Stop)
  |0,nt,k,s,C=>some (C,nt, .out k s)
  |_+1,nt,[],s,C=>some (C,nt, .fin .normal s)
  |n+1,nt, .aI _::k,s,C=>b5 ty y n nt k s C
  |_+1,nt, .lp R::_,s,C=>some (C,nt, .again R s)
  |n+1,nt, .IM::k,s,C=>b5 ty y n nt k s C
  |n+1,nt, .code (.scope b)::k,s,C=>b5 ty y n nt (.code b:: .IM::k) s C
  | n+1,nt, .Hj b m::k,s,C=>match m with
    |0=>some (C,nt, .bad 2 k s)
    |m+1=>b5 ty y n nt (.code b:: .Hj b m::k) s C
  | n+1,_, .OX nt f res o all rest::k,s,C=>match res s with
    |none=>some (C,nt, .bad 3 k s)
    | some r=>match putDst nt o r ⟨f,s.h,s.nx⟩ with
      |none=>some (C,nt, .bad 4 k s)
      |some s'=>b5 ty y n nt (.ops all rest::k) s' C
  | n+1,_, .OY nt f res j o all todo pend::k,s,C=>match res s with
    |none=>some (C,nt, .bad 5 k s)
    | some r=>match putDst nt o r ⟨f,s.h,s.nx⟩ with
      |none=>some (C,nt, .bad 6 k s)
      | some s'=>match dD ty nt all s' (bg pend o) with
        |none=>some (C,nt, .bad 7 k s)
        |some C''=>b5 ty y n nt (.cJ all (todo.filter fun x=>!Xn x.1 j) (bg pend o)::k) s' (C∧C'')
  |n+1,nt, .code .skip::k,s,C=>b5 ty y n nt k s C
  |n+1,nt, .code (.label _)::k,s,C=>b5 ty y n nt k s C
  |n+1,nt, .code (.seq a b)::k,s,C=>b5 ty y n nt (.code a:: .code b::k) s C
  |n+1,nt, .code (.block id b)::k,s,C=>b5 ty y n nt (.code b:: .aI id::k) s C
  | n+1,nt, .code (.region id ops d)::k,s,C=>match d with
    |false=>b5 ty y n nt (.ops ops.toList ops.toList::k) s C
    | true=>match uT ops.toList,gL 0 ops.toList,mB ty nt ops.toList 0 ops.toList with
      |true,true,true=>b5 ty y n nt (.cJ ops.toList (gB 0 ops.toList) []::k) s C
      |_,_,_=>some (C,nt, .draw id ops k s)
  |n+1,nt, .cJ _ [] _::k,s,C=>b5 ty y n nt k s C
  | n+1,nt, .cJ all (x::todo) pend::k,s,C=>match mP ty nt s all (x::todo) pend (x::todo) with
    | some (.read i o p C')=>match putDst nt o p s with
      |none=>some (C,nt, .bad 8 k s)
      | some s'=>match Bc o.op with
        |true=>b5 ty y n nt (.cJ all ((x::todo).filter fun x=>!Xn x.1 i) ((i,o)::pend)::k) s' (C∧C')
        |false=>b5 ty y n nt (.cJ all ((x::todo).filter fun x=>!Xn x.1 i) ((i,o)::pend)::k) s' C
    |some (.skip i o)=>b5 ty y n nt (.cJ all ((x::todo).filter fun x=>!Xn x.1 i) ((i,o)::pend)::k) (iq o s) C
    | some (.split d _)=>match s.f.get d with
      | .iv (.v (.bool t'))=>match y.cl with
        |false=>some (C,nt, .Lg all (x::todo) pend d t' k s)
        | true=>match t' with
          |true=>b5 ty y n nt (.cJ all (x::todo) pend::k) (setBool s (.tmp d) true) C
          |false=>b5 ty y n nt (.cJ all (x::todo) pend::k) (setBool s (.tmp d) false) C
      |_=>some (C,nt, .bad 9 k s)
    | none=>match ey (x::todo) with
      | [(j,o)]=>match cC nt all s.f o,iD all pend o,n8 (x::todo) [j] with
        | some true,true,true=>match qC ty nt all s (x::todo) pend with
          |none=>some (C,nt, .bad 101 k s)
          | some CA=>match kN ty s o.op with
            | some (p,C')=>match putDst nt o p s with
              |none=>some (C,nt, .bad 102 k s)
              | some s'=>match dD ty nt all s' (bg pend o) with
                |none=>some (C,nt, .bad 103 k s)
                |some C''=>b5 ty y n nt (.cJ all ((x::todo).filter fun x=>!Xn x.1 j) (bg pend o)::k) s' (C∧(CA∧C'∧C''))
            | none=>match IP ty s o.op with
              | none=>match callee y.fns s o.op with
                | none=>match Te ty s o.op with
                  |none=>some (C,nt, .Lk all (x::todo) pend k s)
                  | some (C',p,s1)=>match putDst nt o p s1 with
                    |none=>some (C,nt, .bad 109 k s)
                    | some s'=>match dD ty nt all s' (bg pend o) with
                      |none=>some (C,nt, .bad 110 k s)
                      |some C''=>b5 ty y n nt (.cJ all ((x::todo).filter fun x=>!Xn x.1 j) (bg pend o)::k) s' (C∧(CA∧C'∧C''))
                |some (e,asv)=>Eb 0 asv fun f=>b5 ty y n e.nt (.code e.body:: .OY nt s.f (lS ty · e.res) j o all (x::todo) pend::k) ⟨f,s.h,s.nx⟩ (C∧CA)
              | some (p,s1)=>match putDst nt o p s1 with
                |none=>some (C,nt, .bad 104 k s)
                | some s'=>match dD ty nt all s' (bg pend o) with
                  |none=>some (C,nt, .bad 105 k s)
                  |some C''=>b5 ty y n nt (.cJ all ((x::todo).filter fun x=>!Xn x.1 j) (bg pend o)::k) s' (C∧(CA∧C''))
        |_,_,_=>some (C,nt, .Lk all (x::todo) pend k s)
      | []=>match CN (x::todo) (x::todo) with
        |none=>some (C,nt, .Lk all (x::todo) pend k s)
        | some (i,o)=>match o.op,o.dst with
          | .alloc t,some d=>match ty t with
            |none=>some (C,nt, .bad 106 k s)
            | some e=>force (cV e.zero) fun cs=>match dD ty nt all s pend,dD ty nt all (mC s d cs) pend with
              |some C1,some C2=>b5 ty y n nt (.cJ all ((x::todo).filter fun x=>!Xn x.1 i) pend::k) (mC s d cs) (C∧(C1∧C2))
              |_,_=>some (C,nt, .bad 107 k s)
          |_,_=>some (C,nt, .bad 108 k s)
      |_=>some (C,nt, .Lk all (x::todo) pend k s)
  | n+1,nt, .code (.cond c u v)::k,s,C=>match ev s.f c with
    | .iv (.v (.bool t))=>match y.cl with
      |false=>some (C,nt, .cond c t u v k s)
      | true=>match t with
        |true=>b5 ty y n nt (.code u::k) s C
        |false=>b5 ty y n nt (.code v::k) s C
    | .kb true=>b5 ty y n nt (.code u::k) s C
    | .kb false=>b5 ty y n nt (.code v::k) s C
    |_=>some (C,nt, .bad 14 k s)
  | n+1,nt, .code .ret::k,s,C=>match ir k with
    |some k'=>b5 ty y n nt k' s C
    |none=>some (C,nt, .fin .ret s)
  | n+1,nt, .code (.exit id)::k,s,C=>match pF id k with
    |some k'=>b5 ty y n nt k' s C
    |none=>some (C,nt, .bad 15 k s)
  | n+1,nt, .code (.loop b)::k,s,C=>match y.un with
    |0=>some (C,nt, .loop b k s)
    |u+1=>b5 ty y n nt (.code b:: .Hj b u::k) s C
  |_+1,nt, .code _::k,s,C=>some (C,nt, .bad 16 k s)
  |_+1,nt, .vW _ _::k,s,C=>some (C,nt, .bad 17 k s)
  |n+1,nt, .ops _ []::k,s,C=>b5 ty y n nt k s C
  | n+1,nt, .ops all (o::r)::k,s,C=>match o.guard with
    | some (j,want)=>match guardOf all s.f j with
      | some (d, .iv (.v (.bool t)))=>bif Xi d nt then(match y.cl with
        |false=>some (C,nt, .guard all r o d want t k s)
        | true=>match t with
          |true=>b5 ty y n nt (.ops all (o::r)::k) (setBool s (.tmp d) true) C
          |false=>b5 ty y n nt (.ops all (o::r)::k) (setBool s (.tmp d) false) C) else some (C,nt, .bad 18 k s)
      | some (d, .kb t)=>bif Xi d nt then(match t,want,o with
        |true,true,⟨a1,a2,a3,a4,a5,_⟩=>b5 ty y n nt (.ops all (⟨a1,a2,a3,a4,a5,none⟩::r)::k) s C
        |false,false,⟨a1,a2,a3,a4,a5,_⟩=>b5 ty y n nt (.ops all (⟨a1,a2,a3,a4,a5,none⟩::r)::k) s C
        |_,_,o=>b5 ty y n nt (.ops all r::k) (iq o s) C) else some (C,nt, .bad 19 k s)
      |some (_, .iv (.v (.tuple _)))=>b5 ty y n nt (.ops all r::k) (iq o s) C
      |_=>some (C,nt, .bad 20 k s)
    | none=>match kN ty s o.op with
      | none=>match IP ty s o.op with
        | none=>match callee y.fns s o.op with
          | none=>match Te ty s o.op with
            |none=>some (C,nt, .op all r o k s)
            | some (C',p,s1)=>match putDst nt o p s1 with
              |none=>some (C,nt, .bad 111 k s)
              |some s'=>b5 ty y n nt (.ops all r::k) s' (C∧C')
          |some (e,asv)=>Eb 0 asv fun f=>b5 ty y n e.nt (.code e.body:: .OX nt s.f (lS ty · e.res) o all r::k) ⟨f,s.h,s.nx⟩ C
        | some (p,s1)=>match putDst nt o p s1 with
          |none=>some (C,nt, .bad 21 k s)
          |some s'=>b5 ty y n nt (.ops all r::k) s' C
      | some (p,C')=>match putDst nt o p s with
        |none=>some (C,nt, .bad 22 k s)
        | some s'=>match Bc o.op with
          |true=>b5 ty y n nt (.ops all r::k) s' (C∧C')
          |false=>b5 ty y n nt (.ops all r::k) s' C
def iN(P:Program)(nt:Nat)(Q:AQ):Stop->Prop
  | .fin e s=>Q e s
  | .cond c t x y k s=>(t=true->GO P nt (.code x::k) Q (setBool s c true))∧(t=false->GO P nt (.code y::k) Q (setBool s c false))
  | .guard all r o d want t k s=>(t=want->GO P nt (.ops all ({o with guard:=none}::r)::k) Q (setBool s (.tmp d) want))∧(t=!want->GO P nt (.ops all r::k) Q (iq o (setBool s (.tmp d) (!want))))
  | .op all r o k s=>GO P nt (.ops all (o::r)::k) Q s
  | .loop b k s=>GO P nt (.code (.loop b)::k) Q s
  | .draw id ops k s=>GO P nt (.code (.region id ops true)::k) Q s
  | .again R s=>R s
  | .R0 all r o d want t k s=>(t=want->GO P nt (.vW all ({o with guard:=none}::r)::k) Q (setBool s (.tmp d) want))∧(t=!want->GO P nt (.vW all r::k) Q (iq o (setBool s (.tmp d) (!want))))
  | .Lg all todo pend d t k s=>(t=true->GO P nt (.cJ all todo pend::k) Q (setBool s (.tmp d) true))∧(t=false->GO P nt (.cJ all todo pend::k) Q (setBool s (.tmp d) false))
  | .Lk all todo pend k s=>GO P nt (.cJ all todo pend::k) Q s
  | .bad _ _ _=>False
  | .out k s=>GO P nt k Q s
section
variable {P:Program} {ty:Ty} {nt:Nat} {Q:AQ}
theorem oK: ∀(k:List KI) {nt:Nat} {s:AS},ir k=none->Q .ret s->kp P nt k Q .ret s
  | [],_,_,_,h=>h
  | .code _::k,_,_,g,h=>oK k g h
  | .aI _::k,_,_,g,h=>oK k g h
  | .ops _ _::k,_,_,g,h=>oK k g h
  | .lp _::k,_,_,g,h=>oK k g h
  | .vW _ _::k,_,_,g,h=>oK k g h
  | .cJ _ _ _::k,_,_,g,h=>oK k g h
  | .Hj _ _::k,_,_,g,h=>oK k g h
  | .IM::k,_,_,g,h=>oK k g h
  | .OX ..::_,_,_,g,_=>by simp[ir]at g
  | .OY ..::_,_,_,g,_=>by simp[ir]at g
theorem eL: ∀(k:List KI) {nt:Nat} {s:AS} {k':List KI},ir k=some k'->GO P nt k' Q s->kp P nt k Q .ret s
  | [],_,_,_,g,_=>by simp[ir]at g
  | .code _::k,_,_,_,g,h=>eL k g h
  | .aI _::k,_,_,_,g,h=>eL k g h
  | .ops _ _::k,_,_,_,g,h=>eL k g h
  | .lp _::k,_,_,_,g,h=>eL k g h
  | .vW _ _::k,_,_,_,g,h=>eL k g h
  | .cJ _ _ _::k,_,_,_,g,h=>eL k g h
  | .Hj _ _::k,_,_,_,g,h=>eL k g h
  | .IM::k,_,_,_,g,h=>eL k g h
  | .OX ..::_,_,_,_,g,h=>by
    simp only[ir,WV]at g;subst g;exact⟨.inr Z,h.2⟩
  | .OY ..::_,_,_,_,g,h=>by
    simp only[ir,WV]at g;subst g;exact⟨.inr Z,h.2⟩
theorem dK{id:Nat}: ∀(k:List KI) {nt:Nat} {k':List KI} {s:AS},pF id k=some k'->GO P nt k' Q s->kp P nt k Q (.exit id) s
  | [],_,_,_,h,_=>by cases h
  | .code _::k,_,_,_,h,g=>dK k h g
  | .ops _ _::k,_,_,_,h,g=>dK k h g
  | .lp _::k,_,_,_,h,g=>dK k h g
  | .vW _ _::k,_,_,_,h,g=>dK k h g
  | .cJ _ _ _::k,_,_,_,h,g=>dK k h g
  | .Hj _ _::k,_,_,_,h,g=>dK k h g
  | .IM::k,_,_,_,h,g=>dK k h g
  | .OX ..::_,_,_,_,h,_=>by cases h
  | .OY ..::_,_,_,_,h,_=>by cases h
  | .aI j::k,nt,k',s,h,g=>by
    simp only[pF]at h;show if id=j then _ else _;cases hb:Xn id j with
    | true=>
      simp only[hb,cond_true,WV]at h;subst h;rw[am (Xh hb)];exact g
    | false=>
      simp only[hb,cond_false]at h;rw[be (fun e=>by subst e;simp at hb)];exact dK k h g
theorem uF(a0:cz P ty){s s':AS}{o:Oper}{p:PV}{C:Prop}(h:kN ty s o.op=some (p,C))(hC:C)(hp:putDst nt o p s=some s'):OT P nt o s (fun t=>t=s'):=by
  intro M N a w hf K Z hk;obtain⟨x,hx,hv⟩:=xn a0 hf h hC;unfold Oper.wp;rw[hx];simp only[Oper.upon];cases hd:o.dst with
  | none=>
    have:=gv hp hd;subst this;exact hk M N s' _ w (.refl _ _ _ _ _) hf rfl
  | some d=>
    obtain⟨h1,rfl⟩:=gu hp hd;exact hk M N {s with f:=(d,p)::s.f} _ w (.refl _ _ _ _ _) (hf.put d p x h1 hv) rfl
theorem lC(a0:cz P ty){s s':AS}{o:Oper}{p:PV}{C:Prop}(h:kN ty s o.op=some (p,C))(hC:C)(hp:putDst nt o p s=some s'):
    (s'.h=s.h∧s'.nx=s.nx)∧ ∀M N a w,Fits M N s nt a w-> ∃x,(execOp a.eval o).run P w= .ok (.value x) w∧Fits M N s' nt (a.put o.dst x) w:=by
  cases hd:o.dst with
  | none=>
    have:=gv hp hd;subst this;exact⟨⟨rfl,rfl⟩,fun M N a w hf=>let ⟨x,hx,_⟩:=xn a0 hf h hC;⟨x,hx,hf⟩⟩
  | some d=>
    obtain⟨h1,rfl⟩:=gu hp hd;exact⟨⟨rfl,rfl⟩,fun M N a w hf=>let ⟨x,hx,hv⟩:=xn a0 hf h hC;⟨x,hx,hf.put d p x h1 hv⟩⟩
theorem pG{s:AS}{all:List Oper}{todo pend:List (Nat×Oper)}: ∀{l:List (Nat×Oper)} {i:Nat} {o:Oper},(∀x∈l,x∈todo)->
    ((∀{p C},mP ty nt s all todo pend l=some (.read i o p C)->(i,o)∈todo∧aU o=false∧(∀x∈todo,waits o x.1=false)∧cC nt all s.f o=some true∧yS all pend o=true∧kN ty s o.op=some (p,C))∧
     (mP ty nt s all todo pend l=some (.skip i o)->(i,o)∈todo∧aU o=false∧(∀x∈todo,waits o x.1=false)∧cC nt all s.f o=some false∧yS all pend o=true))
  | [],i,o,_=>⟨fun h=>by simp[mP]at h,fun h=>by simp[mP]at h⟩
  | (j,q)::r,i,o,hl=>by
    have ih:=pG (s:=s) (all:=all) (todo:=todo) (pend:=pend) (l:=r) (i:=i) (o:=o) (fun x hx=>hl x (W8 _ hx));have a0:(todo.any (fun y=>waits q y.1)||aU q)=false->aU q=false∧ ∀x∈todo,waits q x.1=false:=fun h=>by
      simp only[XL,XO]at h;exact⟨h.2,fun x hx=>by simpa using h.1 x hx⟩
    constructor
    · intro p C h
      simp only[mP]at h;split at h
      · exact ih.1 h
      · rename_i h0
        split at h
        · rename_i hg
          split at h
          · rename_i hr
            split at h
            · rename_i ha
              simp only[WV,L4.read.injEq]at h;obtain⟨rfl,rfl,rfl,rfl⟩:=h;exact⟨hl _ (by simp),(a0 h0).1,(a0 h0).2,hg,ha,hr⟩
            · exact ih.1 h
          · exact ih.1 h
        · split at h
          · cases h
          · exact ih.1 h
        · split at h
          · split at h
            · cases h
            · exact ih.1 h
          · exact ih.1 h
    · intro h
      simp only[mP]at h;split at h
      · exact ih.2 h
      · rename_i h0
        split at h
        · split at h
          · split at h
            · cases h
            · exact ih.2 h
          · exact ih.2 h
        · rename_i hg
          split at h
          · rename_i ha
            simp only[WV,L4.skip.injEq]at h;obtain⟨rfl,rfl⟩:=h;exact⟨hl _ (by simp),(a0 h0).1,(a0 h0).2,hg,ha⟩
          · exact ih.2 h
        · split at h
          · split at h
            · cases h
            · exact ih.2 h
          · exact ih.2 h
theorem Eg{s s1:AS}{o:Oper}{d:Nat}{p:PV}(hd:o.dst=some d)(hs:s1={s with f:=(d,p)::s.f})(hp:aH p (s.f.get d)){M:Mem}{N:Nm}{a:Act}{w:World}(hf:Fits M N s1 nt a w):Fits M N s nt a w:=by
  subst hs;refine⟨hf.1,fun k=>?_,hf.2.2⟩;have:=hf.2.1 k;rw[AF.au]at this;split at this
  · rename_i hk;subst hk;exact hp _ _ _ _ this
  · exact this
theorem dX(a0:cz P ty){all:List Oper}{s:AS}: ∀{l:List (Nat×Oper)} {C:Prop},dD ty nt all s l=some C->C-> ∀x∈l,im P nt all s x.2
  | [],_,_,_,x,hx=>(nomatch hx)
  | (i,o)::r,C,h,hC,x,hx=>by
    simp only[dD]at h;split at h
    · cases h
    · rename_i R hR
      have key:R->(∀M N b w,Fits M N s nt b w-> ∃v,YieldsAt P all.toArray w o v b∧Fits M N s nt (b.put o.dst v) w)->im P nt all s x.2:=by
        intro hr hh;rcases Xb.1 hx with rfl|hx
        · exact hh
        · exact dX a0 hR hr x hx
      split at h
      · rename_i hg
        split at h
        · rename_i p C' hr
          split at h
          · rename_i d hd
            cases hb:Xi d nt with
            |false=>simp[hb]at h
            | true=>
              simp only[hb,cond_true,WV]at h;subst h;obtain⟨⟨h1,h2⟩,h3⟩:=hC;refine key h3 fun M N b w hf=>?_;obtain⟨v,hv,b0⟩:=xn a0 hf hr h2;refine⟨v, .inl ⟨ei hg hf, .inl hv⟩,?_⟩;rw[hd];exact Eg hd Z h1 (hf.put d p v (WR hb) b0)
          · rename_i hd
            simp only[WV]at h;subst h;refine key hC.2 fun M N b w hf=>?_;obtain⟨v,hv,b0⟩:=xn a0 hf hr hC.1;exact⟨v, .inl ⟨ei hg hf, .inl hv⟩,by rw[hd];exact hf⟩
        · cases h
      · rename_i hg
        have c0: ∀d,o.dst=some d->s.f.get d= .iv (.v (.tuple #[]))-> ∀M N b w,Fits M N s nt b w-> ∃v,YieldsAt P all.toArray w o v b∧Fits M N s nt (b.put o.dst v) w:=fun d hd h1 M N b w hf=>by
          refine⟨undef, .inr ⟨ei hg hf,rfl⟩,?_⟩;have:=hf.skip o;unfold iq at this;rw[hd]at this ⊢;exact Eg hd Z (h1▸aH.refl _) this
        split at h
        · rename_i d hd
          simp only[WV]at h;subst h;exact key hC.2 (c0 d hd hC.1)
        · rename_i hd
          simp only[WV]at h;subst h;exact key hC fun M N b w hf=>⟨undef, .inr ⟨ei hg hf,rfl⟩,by rw[hd];exact hf⟩
      · cases h
theorem GK{all:List Oper}{o:Oper}{r:List Oper}{d:Nat}{t:Bool}{k:List KI}{s:AS}{c:Bool}(hc:c=t)(hy:s.f.get d= .iv (.v (.bool t)))(h:GO P nt (.ops all (o::r)::k) Q (setBool s (.tmp d) c)):GO P nt (.ops all (o::r)::k) Q s:=by
  subst hc;intro M N a w hf;have a0:=hf.setBool (c:= .tmp d) hy;exact AL.same (s:=s) h (lf _ _ _) a0
theorem xT{c:Operand}{u v:Code}{t:Bool}{k:List KI}{s:AS}(hc:ev s.f c= .iv (.v (.bool t)))(h:GO P nt (.code (bif t then u else v)::k) Q s):GO P nt (.code (.cond c u v)::k) Q s:=by
  intro M N a w hf;refine wp_cond (hf.bool hc) ?_;cases t
  · exact h M N a w hf
  · exact h M N a w hf
theorem vy{all:List Oper}{f:AF}{j d:Nat}{p:PV}(h:guardOf all f j=some (d,p)):f.get d=p:=by
  unfold guardOf at h;split at h
  · split at h
    · simp only[WV,W9]at h;rw[<-h.1];exact h.2
    · cases h
  · cases h
theorem CM{todo:List (Nat×Oper)}: ∀{l:List (Nat×Oper)} {i:Nat} {o:Oper},(∀x∈l,x∈todo)->CN todo l=some (i,o)->(i,o)∈todo∧BP todo i=true
  | [],_,_,_,h=>by simp[CN]at h
  | (j,q)::r,i,o,hl,h=>by
    simp only[CN]at h;split at h
    · rename_i h2
      simp only[WV,W9]at h;obtain⟨rfl,rfl⟩:=h;exact⟨hl _ (by simp),h2⟩
    · exact CM (fun x hx=>hl x (W8 _ hx)) h
theorem vQ{all:List Oper}{i:Nat}{o:Oper}: ∀{l:List Oper} {n:Nat},qz all i o n l=true-> ∀k q,l[k]? =some q->n+k≠i->(waits q i=true∨looks all q o=false)∧ ∀d,o.dst=some d->q.dst≠some d
  | [],_,_,k,q,hk,_=>by simp at hk
  | c::l,n,h,k,q,hk,hne=>by
    simp only[qz,Xg,XJ,XF]at h;cases k with
    | zero=>
      simp at hk;subst hk;rcases h.1 with h1|⟨h1,h2⟩
      · exact absurd (Xh h1) (by simpa using hne)
      · refine⟨h1,fun d b0 a0=>?_⟩
        rw[b0,a0]at h2;simp at h2
    |succ k=>exact vQ h.2 k q (by simpa using hk) (by omega)
theorem yR(b0:cz P ty){all:List Oper}(h:mB ty nt all 0 all=true):jK P nt all:=by
  have key: ∀(l:List Oper) (n:Nat),mB ty nt all n l=true-> ∀k o,l[k]? =some o->aU o=true->
      o.guard=none∧(∃d,o.dst=some d∧d<nt)∧(∃t v,o.op= .alloc t∧ ∀w,(zeroValue t).run P w= .ok v w)∧(∀k,waits o k=false)∧qz all (n+k) o 0 all=true:=by
    intro l
    induction l with
    |nil=>intro n _ k o hk;simp at hk
    | cons c l ih=>
      intro n h k o hk ha;simp only[mB,Xg]at h;cases k with
      | zero=>
        simp at hk;subst hk;have h1:=h.1;split at h1
        · rename_i t ht
          split at h1
          · rename_i d e hg hd he
            simp only[Xg]at h1;refine⟨hg,⟨d,hd,WR h1.1⟩,⟨t,_,ht,fun w=>dZ (b0 _ _ he)⟩,fun k=>?_,h1.2.2⟩;unfold waits;refine XO.2 fun e he=>?_;have:=Xm.1 h1.2.1 e he;simp only[XF]at this;simp[this]
          · cases h1
        · rename_i a0
          unfold aU at ha;split at ha
          · rename_i t ht;exact absurd ht (a0 t)
          · cases ha
      | succ k=>
        have:=ih (n+1) h.2 k o (by simpa using hk) ha;rw[show n+(k+1)=n+1+k by omega];exact this
  intro i o ho ha;obtain⟨h1,h2,h3,h4,h5⟩:=key all 0 h i o ho ha;refine⟨h1,h2,h3,h4,fun k q hk hne=>?_⟩;rw[Xk]at h5;exact vQ h5 k q hk (by omega)
theorem Ak{a0:Vs}(c0:L3 P a0){s:AS}{o:Op}{e:WO}{asv:List PV}(h:callee a0 s o=some (e,asv)):
    ∃g c fn,o= .call c∧bK s.f c=some (g,asv)∧asv.length<=e.nt∧P.funcs[g]? =some fn∧fn.body=some e.body∧(fn.name== "runtime.NumGoroutine")=false∧fn.ntmps=e.nt∧fn.results.toList=e.res:=by
  unfold callee at h;split at h
  · rename_i c
    split at h
    · rename_i g b0 ha
      split at h
      · rename_i e' he
        split at h
        · rename_i hb
          simp only[WV,W9]at h;obtain⟨rfl,rfl⟩:=h;obtain⟨fn,h1,h2,h3,h4,h5⟩:=c0 _ _ he;exact⟨g,c,fn,rfl,ha,WR hb,h1,h2,h3,h4,h5⟩
        · cases h
      · cases h
    · cases h
  · cases h
theorem R7(hm:P.follows .mixedOrders=true)(d0:cz P ty){y:Way}(b1:L3 P y.fns): ∀(n nt:Nat) (k:List KI) (s:AS) (C0 C:Prop) (f0:Nat) (st:Stop),b5 ty y n nt k s C0=some (C,f0,st)->(C->C0)∧(C->iN P f0 Q st->GO P nt k Q s):=by
  intro n
  induction n with
  | zero=>
    intro nt k s C0 C f0 st h;simp only[b5,WV,W9]at h;obtain⟨rfl,rfl,rfl⟩:=h;exact⟨fun h=>h,fun _ g=>g⟩
  | succ n ih=>
    intro nt k s C0 C f0 st h;have a0: ∀{g0:Nat} {k2:List KI} {s2:AS},b5 ty y n g0 k2 s2 C0=some (C,f0,st)->(GO P g0 k2 Q s2->GO P nt k Q s)->(C->C0)∧(C->iN P f0 Q st->GO P nt k Q s):=
      fun h f=>have:=ih _ _ _ _ _ _ _ h;⟨this.1,fun hC g=>f (this.2 hC g)⟩
    have e0: ∀{g0:Nat} {k2:List KI} {s2:AS} {C1:Prop},b5 ty y n g0 k2 s2 (C0∧C1)=some (C,f0,st)->(C1->GO P g0 k2 Q s2->GO P nt k Q s)->(C->C0)∧(C->iN P f0 Q st->GO P nt k Q s):=
      fun h f=>have:=ih _ _ _ _ _ _ _ h;⟨fun hC=>(this.1 hC).1,fun hC g=>f (this.1 hC).2 (this.2 hC g)⟩
    have c0: ∀{w0:Stop},some (C0,nt,w0)=some (C,f0,st)->(iN P nt Q w0->GO P nt k Q s)->(C->C0)∧(C->iN P f0 Q st->GO P nt k Q s):=by
      intro w0 h f;simp only[WV,W9]at h;obtain⟨rfl,rfl,rfl⟩:=h;exact⟨fun h=>h,fun _ g=>f g⟩
    have b0: ∀{g0:Nat} {d1:Nat} {k2:List KI} {s2:AS},some (C0,g0,Stop.bad d1 k2 s2)=some (C,f0,st)->(C->C0)∧(C->iN P f0 Q st->GO P nt k Q s):=by
      intro g0 d1 k2 s2 h;simp only[WV,W9]at h;obtain⟨rfl,rfl,rfl⟩:=h;exact⟨fun h=>h,fun _ g=>g.elim⟩
    cases k with
    |nil=>simp only[b5]at h;exact c0 h fun g=>g
    | cons i k=>
      cases i with
      |lp R=>simp only[b5]at h;exact c0 h fun g=>g
      |aI id=>simp only[b5]at h;exact a0 h Sz
      |IM=>simp only[b5]at h;exact a0 h fun g=>g
      | Hj b m=>
        simp only[b5]at h;split at h
        · exact b0 h
        · exact a0 h go_round
      | OX g0 f res o all rest=>
        simp only[b5]at h;split at h
        · exact b0 h
        · rename_i r hr
          split at h
          · exact b0 h
          · rename_i s' hp
            exact a0 h fun g=>⟨.inl Z,r,s',hr,hp,g⟩
      | OY g0 f res j o all todo pend=>
        simp only[b5]at h;split at h
        · exact b0 h
        · rename_i r hr
          split at h
          · exact b0 h
          · rename_i s' hp
            split at h
            · exact b0 h
            · rename_i t0 hag
              exact e0 h fun hC g=>⟨.inl Z,r,s',hr,hp,dX d0 hag hC,g⟩
      | code c=>
        cases c with
        |skip=>simp only[b5]at h;exact a0 h go_skip
        |scope b=>simp only[b5]at h;exact a0 h KS
        |label l=>simp only[b5]at h;exact a0 h KU
        |seq a b=>simp only[b5]at h;exact a0 h Su
        |block id b=>simp only[b5]at h;exact a0 h KY
        | region id ops d=>
          cases d with
          |false=>simp only[b5]at h;exact a0 h go_region
          | true=>
            simp only[b5]at h;split at h
            · rename_i h1 h2 h3
              exact a0 h (KX hm (zs h1) h2 (yR d0 h3))
            · exact c0 h fun g=>g
        | cond c u v=>
          simp only[b5]at h;split at h
          · rename_i t he
            split at h
            · exact c0 h fun g=>OS he g.1 g.2
            · split at h
              · exact a0 h (xT he)
              · exact a0 h (xT he)
          · rename_i he
            exact a0 h (xS he)
          · rename_i he
            exact a0 h (xS he)
          · exact b0 h
        | ret=>
          simp only[b5]at h;split at h
          · rename_i k' hp
            exact a0 h fun g=>go_ret (eL k hp g)
          · rename_i hp
            exact c0 h fun g=>go_ret (oK k hp g)
        | exit id=>
          simp only[b5]at h;split at h
          · rename_i k' hp
            exact a0 h fun g=>OP (dK k hp g)
          · exact b0 h
        | loop b=>
          simp only[b5]at h;split at h
          · exact c0 h fun g=>g
          · exact a0 h KR
        |_=>simp only[b5]at h;exact b0 h
      |vW all rest=>simp only[b5]at h;exact b0 h
      | cJ all todo pend=>
        cases todo with
        |nil=>simp only[b5]at h;exact a0 h Dx
        | cons x todo=>
          have m0: ∀{j:Nat} {o:Oper},ey (x::todo)=[(j,o)]->(j,o)∈(x::todo)∧aU o=false∧ ∀y∈(x::todo),waits o y.1=false:=by
            intro j o h1;have h2:(j,o)∈ey (x::todo):=by rw[h1];simp
            obtain⟨h3,h4⟩:=Xs.1 h2;simp only[XF,XL,XO]at h4;exact⟨h3,h4.1,fun y hy=>by simpa using h4.2 y hy⟩
          have i0: ∀{CA:Prop},qC ty nt all s (x::todo) pend=some CA->CA-> ∀y∈(x::todo),aU y.2=true-> ∀y∈pend,im P nt all s y.2:=by
            intro CA h1 hCA y hy e1;unfold qC at h1;split at h1
            · exact dX d0 h1 hCA
            · rename_i h2
              have:=XO.1 h2 y hy;rw[e1]at this;exact absurd Z this
          have k0: ∀{j:Nat} {o:Oper} {s':AS},ey (x::todo)=[(j,o)]->cC nt all s.f o=some true->iD all pend o=true->n8 (x::todo) [j]=true->(∀y∈(x::todo),aU y.2=true-> ∀y∈pend,im P nt all s y.2)->OT P nt o s (fun t=>t=s')->
              (∀y∈bg pend o,im P nt all s' y.2)->GO P nt (.cJ all ((x::todo).filter fun x=>!Xn x.1 j) (bg pend o)::k) Q s'->GO P nt (.cJ all (x::todo) pend::k) Q s:=by
            intro j o s' h1 h2 h3 h4 ha h5 h6 h7;obtain⟨j0,q0,y0⟩:=m0 h1;refine wJ h4 ⟨_,j0,q0⟩ ha fun j' o' hj _ hu=>?_;simp only[W5]at hj;subst hj;have:=hu o j0;subst this;exact⟨q0,fun y hy _=>y0 y hy,h3,h2,_,h5,fun t ht=>by subst ht;exact⟨h6,h7⟩⟩
          simp only[b5]at h;split at h
          · rename_i i o p C' z0
            obtain⟨g1,ga,gb,g2,g3,g4⟩:=(pG (fun _ h=>h)).1 z0;split at h
            · exact b0 h
            · rename_i s' hp
              split at h
              · exact e0 h fun hC g=>Dw g1 ga gb g2 g3 (lC d0 g4 hC hp).1 (lC d0 g4 hC hp).2 g
              · rename_i ho
                exact a0 h fun g=>Dw g1 ga gb g2 g3 (lC d0 g4 (wv g4 ho) hp).1 (lC d0 g4 (wv g4 ho) hp).2 g
          · rename_i i o z0
            obtain⟨g1,ga,gb,g2,g3⟩:=(pG (fun _ h=>h)).2 z0;exact a0 h (KW g1 ga gb g2 g3)
          · split at h
            · rename_i t' hy
              split at h
              · exact c0 h fun g=>u5 hy g.1 g.2
              · split at h
                · exact a0 h fun g=>u5 hy (fun _=>g) (fun h=>by cases h)
                · exact a0 h fun g=>u5 hy (fun h=>by cases h) (fun _=>g)
            · exact b0 h
          · split at h
            · rename_i j o hrd
              split at h
              · rename_i o0 p0 n0
                split at h
                · exact b0 h
                · rename_i CA hCA
                  split at h
                  · rename_i p C' hr
                    split at h
                    · exact b0 h
                    · rename_i s' hp
                      split at h
                      · exact b0 h
                      · rename_i t0 hag
                        exact e0 h fun hC g=>k0 hrd o0 p0 n0 (i0 hCA hC.1) (uF d0 hr hC.2.1 hp) (dX d0 hag hC.2.2) g
                  · split at h
                    · split at h
                      · split at h
                        · exact c0 h fun g=>g
                        · rename_i C' p s1 v0
                          split at h
                          · exact b0 h
                          · rename_i s' hp
                            split at h
                            · exact b0 h
                            · rename_i t0 hag
                              exact e0 h fun hC g=>k0 hrd o0 p0 n0 (i0 hCA hC.1) (Em d0 v0 hC.2.1 hp) (dX d0 hag hC.2.2) g
                      · rename_i e asv x0
                        rw[yu]at h;obtain⟨g,c,fn,ho,ha,he,h1,h2,h3,h4,h5⟩:=Ak b1 x0;obtain⟨j0,q0,y0⟩:=m0 hrd;exact e0 h fun hC gg=>OQ d0 j0 n0 y0 (i0 hCA hC) p0 o0 ho ha h1 h2 h3 h4 h5 he gg
                    · rename_i p s1 s0
                      split at h
                      · exact b0 h
                      · rename_i s' hp
                        split at h
                        · exact b0 h
                        · rename_i t0 hag
                          exact e0 h fun hC g=>k0 hrd o0 p0 n0 (i0 hCA hC.1) (EW d0 s0 hp) (dX d0 hag hC.2) g
              · exact c0 h fun g=>g
            · split at h
              · exact c0 h fun g=>g
              · rename_i i o l1
                split at h
                · rename_i t d j1 n1
                  split at h
                  · exact b0 h
                  · rename_i e he
                    rw[force_eq]at h;split at h
                    · rename_i C1 C2 f1 i1
                      obtain⟨m1,m2⟩:=CM (fun _ h=>h) l1;exact e0 h fun hC g=>Il m1 j1 (fun w=>dZ (d0 _ _ he)) n1 m2 (dX d0 f1 hC.1) (dX d0 i1 hC.2) g
                    · exact b0 h
                · exact b0 h
            · exact c0 h fun g=>g
      | ops all rest=>
        cases rest with
        |nil=>simp only[b5]at h;exact a0 h Fh
        | cons o r=>
          simp only[b5]at h;split at h
          · rename_i j r0 hg
            split at h
            · rename_i d t hy
              cases hb:Xi d nt with
              |false=>simp only[hb,cond_false]at h;exact b0 h
              | true=>
                simp only[hb,cond_true]at h;split at h
                · exact c0 h fun g=>KV hg hy (WR hb) g.1 g.2
                · split at h
                  · exact a0 h (GK Z (vy hy))
                  · exact a0 h (GK Z (vy hy))
            · rename_i d t hy
              cases hb:Xi d nt with
              |false=>simp only[hb,cond_false]at h;exact b0 h
              | true=>
                simp only[hb,cond_true]at h;obtain⟨a1,a2,a3,a4,a5,a6⟩:=o;cases t<;>cases r0<;>simp only at h
                all_goals exact a0 h fun g=>Du hg hy (WR hb) g
            · rename_i d vs hy
              exact a0 h fun g=>Dt hg hy g
            · exact b0 h
          · rename_i hg
            split at h
            · split at h
              · split at h
                · split at h
                  · exact c0 h fun g=>g
                  · rename_i C' p s1 v0
                    split at h
                    · exact b0 h
                    · rename_i s' hp
                      exact e0 h fun hC g=>ep hg (Em d0 v0 hC hp) fun t ht=>by subst ht;exact g
                · rename_i e asv x0
                  rw[yu]at h;obtain⟨g,c,fn,ho,ha,he,h1,h2,h3,h4,h5⟩:=Ak b1 x0;exact a0 h fun gg=>Sv d0 hg ho ha h1 h2 h3 h4 h5 he gg
              · rename_i p s1 s0
                split at h
                · exact b0 h
                · rename_i s' hp
                  exact a0 h fun g=>ep hg (EW d0 s0 hp) fun t ht=>by subst ht;exact g
            · rename_i p C' hr
              split at h
              · exact b0 h
              · rename_i s' hp
                split at h
                · exact e0 h fun hC g=>ep hg (uF d0 hr hC hp) fun t ht=>by subst ht;exact g
                · rename_i ho
                  exact a0 h fun g=>ep hg (uF d0 hr (wv hr ho) hp) fun t ht=>by subst ht;exact g
theorem Sl:L3 P (fun _=>none):=fun _ _ h=>nomatch h
theorem aR(hm:P.follows .mixedOrders=true)(b0:cz P ty)(n:Nat){k:List KI}{s:AS}{C:Prop}{a0:Nat}{st:Stop}(h:b5 ty ⟨fun _=>none,0,false⟩ n nt k s True=some (C,a0,st))(hC:C)(hg:iN P a0 Q st):GO P nt k Q s:=
  (R7 hm b0 Sl n nt k s True C a0 st h).2 hC hg
end
mutual
def PV.low(n:Nat):PV->Bool
 | .iv _=>true
 | .agg cs=>bs n cs
 | .bT cs=>bs n cs
 | .ptr i _=>Xi i n
 | .dC i _ _ _=>Xi i n
 | .fv _ i=>Xi i n
 | .sl i _ _ _=>Xi i n
 | .mp i=>Xi i n
 | .dr _ first caps=>match bs n first with
  |true=>bs n caps
  |false=>false
 | .kb _=>true
 | .any=>true
def bs(n:Nat):List PV->Bool
 | []=>true
 |p::r=>match PV.low n p with
  |true=>bs n r
  |false=>false
end
theorem gQ{n:Nat}: ∀{l:List PV},bs n l=true-> ∀(j:Nat) (p:PV),l[j]? =some p->p.low n=true
 | [],_,j,p,h=>by simp at h
 |c::l,hb,j,p,h=>by
  simp only[bs]at hb;split at hb
  ·rename_i hc;cases j with
   |zero=>simp at h;subst h;exact hc
   |succ j=>exact gQ hb j p (by simpa using h)
  ·cases hb
def AO.low(n:Nat):AO->Prop
 | .cells cs _=>bs n cs=true
 | .row _ es=> ∀(k:Nat) (e:List PV),es[k]? =some e->bs n e=true
 | .bG _ _=>True
 | .fY=>True
 | .map ..=>True
 | .bS ..=>True
 | .eJ _ _=>True
section
variable {M:Mem} {N:Nm} {U:Nat->Prop} {n:Nat}
theorem VR.down{p:PV}{x:Value}(h:VR M N U p x):p.low n=true->VR M N (· <n) p x:=by
 induction h with
 |iv x y h=>exact fun _=> .iv x y h
 |agg cs ys hl hr ih=>exact fun hb=> .agg _ _ hl fun j p hj=>ih j p hj (gQ hb j p hj)
 |bT cs ys hl hr ih=>exact fun hb=> .bT _ _ hl fun j p hj=>ih j p hj (gQ hb j p hj)
 |ptr i off h=>exact fun hb=> .ptr i off (WR hb)
 |dC i sz k off h=>exact fun hb=> .dC i sz k off (WR hb)
 |fv z i h=>exact fun hb=> .fv z i (WR hb)
 |sl i off len sz cap h h0 hl hc he=>exact fun hb=> .sl i off len sz cap (WR hb) h0 hl hc he
 |ph i sz h=>exact fun hb=> .ph i sz (WR hb)
 |sle i sz cap h hc he=>exact fun hb=> .sle i sz cap (WR hb) hc he
 |mp i h=>exact fun hb=> .mp i (WR hb)
 |dr fn first caps f' c' h1 h2 hr1 hr2 ih1 ih2=>
  intro hb;simp only[PV.low]at hb;split at hb
  ·rename_i h0;exact .dr _ _ _ _ _ h1 h2 (fun j p hj=>ih1 j p hj (gQ h0 j p hj)) (fun j p hj=>ih2 j p hj (gQ hb j p hj))
  ·cases hb
 |kb b=>exact fun _=> .kb b
 |any x=>exact fun _=> .any x
theorem OR.down{w:World}{i:Nat}{o:AO}(h:OR M N U w i o)(hb:o.low n):OR M N (· <n) w i o:=by
 cases o with
 |cells cs T0=>obtain⟨c,T,h1,h2,h3,h4,h5⟩:=h;exact⟨c,T,h1,h2,h3,fun j p hj=>(h4 j p hj).down (gQ hb j p hj),h5⟩
 |row sz es=>
  rcases h with h|⟨h0,c,T,h1,h2,h3,h4,h5⟩
  ·exact .inl h
  exact .inr ⟨h0,c,T,h1,h2,h3,h4,fun k e j p he hp=>(h5 k e j p he hp).down (gQ (hb k e he) j p hp)⟩
 |bG l T=>exact h
 |fY=>exact h
 |map kc ev z zv dv m=>exact h
 |bS kc ev m l cu=>exact h
 |eJ s p=>exact h
end
def IY(n:Nat)(f:AF):AF->Prop
 | []=>True
 |(d,p)::r=>f.get d=p∧p.low n=true∧IY n f r
def FJ(n:Nat)(h:AH):AH->Prop
 | []=>True
 |(_,none)::r=>FJ n h r
 |(i,some o)::r=>h.get i=some o∧i<n∧o.low n∧FJ n h r
structure Po (s t:AS):Prop where
 nx:t.nx<=s.nx
 f:IY t.nx s.f t.f
 h:FJ t.nx s.h t.h
theorem yV{n:Nat}{f:AF}: ∀{g:AF},IY n f g-> ∀d,g.get d= .any∨(f.get d=g.get d∧(g.get d).low n=true)
 | [],_,_=> .inl Z
 |(k,p)::r,h,d=>by
  obtain⟨h1,h2,h3⟩:=h;rw[AF.au];by_cases hd:d=k
  ·subst hd;rw[am Z];exact .inr ⟨h1,h2⟩
  ·rw[be hd];exact yV h3 d
theorem jf{n:Nat}{h:AH}: ∀{g:AH},FJ n h g-> ∀i o,g.get i=some o->h.get i=some o∧i<n∧o.low n
 | [],_,i,o,hi=>by simp[AH.get]at hi
 |(k,none)::r,hw,i,o,hi=>by
  rw[AH.au]at hi;split at hi
  ·cases hi
  ·exact jf (g:=r) hw i o hi
 |(k,some p)::r,hw,i,o,hi=>by
  obtain⟨h1,h2,h3,h4⟩:=hw;rw[AH.au]at hi;split at hi
  ·rename_i e;subst e;simp only[WV]at hi;subst hi;exact⟨h1,h2,h3⟩
  ·exact jf h4 i o hi
theorem Po.fits{s t:AS}(hw:Po s t){M:Mem}{N:Nm}{nt:Nat}{a:Act}{w:World}(hf:Fits M N s nt a w):Fits M N t nt a w:=by
 refine⟨⟨hf.1.dF,fun i o hi=>(jf hw.h i o hi).2.1,fun i o hi a0=>hf.1.eK i o (jf hw.h i o hi).1 a0,fun i o hi=>?_,fun i j o p hi hj=>hf.1.inj i j o p (jf hw.h i o hi).1 (jf hw.h j p hj).1⟩,fun d=>?_,hf.2.2⟩
 ·obtain⟨h1,h2,h3⟩:=jf hw.h i o hi;exact(hf.1.obj i o h1).down h3
 ·rcases yV hw.f d with h|⟨h1,h2⟩
  ·rw[h];exact .any _
  ·have:=hf.2.1 d;rw[h1]at this;exact this.down h2
theorem Po.ext{s t:AS}(hw:Po s t){M M':Mem}{N N':Nm}{n:Nat}{h:AH}{w w':World}(hx:Ext M N (· <n) h w M' N' (· <s.nx) s.h w')(hn:n<=t.nx):Ext M N (· <n) h w M' N' (· <t.nx) t.h w':=
 ⟨hx.os,hx.tape,hx.output,hx.size,hx.jq,hx.rF,hx.jM,hx.nm,fun _ hi=>YX hi hn,fun i o hi a0=>hx.iW i o (jf hw.h i o hi).1 a0⟩
theorem dB{p:Nat->Prop}(h: ∃n,p n): ∃n,p n∧ ∀m,p m->n<=m:=by
 obtain⟨n,hn⟩:=h
 induction n using Nat.strongRecOn with
 |_ n ih=>
  by_cases hm: ∃m,m<n∧p m
  ·obtain⟨m,h1,h2⟩:=hm;exact ih m h1 h2
  ·exact⟨n,hn,fun m h2=>YY fun h1=>hm ⟨m,h1,h2⟩⟩
section
variable {P:Program} {nt:Nat} {Q:AQ} {k:List KI} {s:AS}
end
section
variable {P:Program}
def Pure(P:Program)(k:FuncId)(args:List PV)(r:PV):Prop:=Fn P k args [] fun q h n=>q=r∧h=[]∧n=0
end
mutual
theorem PV.ju(σ:Nat->Nat): ∀p:PV,p.low 0=true->p.c7 σ=p
 | .iv _,_=>rfl
 | .agg cs,h=>by simp only[PV.c7];rw[iC σ cs (by simpa[PV.low]using h)]
 | .bT cs,h=>by simp only[PV.c7];rw[iC σ cs (by simpa[PV.low]using h)]
 | .ptr i o,h=>by simp[PV.low,Xi]at h
 | .dC i _ _ o,h=>by simp[PV.low,Xi]at h
 | .fv _ i,h=>by simp[PV.low,Xi]at h
 | .sl i _ _ _,h=>by simp[PV.low,Xi]at h
 | .mp i,h=>by simp[PV.low,Xi]at h
 | .dr fn a b,h=>by
  simp only[PV.low]at h;simp only[PV.c7];split at h
  ·rename_i ha;rw[iC σ a ha,iC σ b h]
  ·cases h
 | .kb _,_=>rfl
 | .any,_=>rfl
theorem iC(σ:Nat->Nat): ∀l:List PV,bs 0 l=true->dS σ l=l
 | [],_=>rfl
 |p::r,h=>by
  simp only[bs]at h;split at h
  ·rename_i hp;simp only[dS];rw[PV.ju σ p hp,iC σ r h]
  ·cases h
end
section
variable {P:Program} {nt:Nat} {Q:AQ} {k:List KI} {s:AS}
theorem bn{all rest:List Oper}{o:Oper}{c:Call}{g:FuncId}{args:List PV}{r:PV}{s':AS}(hc:Pure P g args r)(ho:o.op= .call c)(hg:o.guard=none)(ha:bK s.f c=some (g,args))(hl:bs 0 args=true)
  (hr:r.low 0=true) (hp:putDst nt o r s=some s') (h:GO P nt (.ops all rest::k) Q s'):GO P nt (.ops all (o::rest)::k) Q s:=by
 refine ep (R:=fun t=>t=s') hg ?_ (fun t ht=>by subst ht;exact h);refine lv ho ha hc (L:=[]) (by simp) (by simp) Z (iC _ _ hl).symm ?_;rintro q h' n' ⟨rfl,rfl,rfl⟩;exact⟨s',by rw[PV.ju _ _ hr];exact hp,rfl⟩
end
def fQ(o q:AO):Prop:=(q.real=true->o.real=true)∧ ∀(M:Mem) (N:Nm) (U:Nat->Prop) (w:World) (i:Nat),OR M N U w i o->OR M N U w i q
theorem aH.of_eq{p q:PV}(h:p=q):aH p q:=h▸ .refl p
theorem aH.trans{p q r:PV}(a:aH p q)(b:aH q r):aH p r:=fun M N U x h=>b M N U x (a M N U x h)
theorem aH.any(p:PV):aH p .any:=fun _ _ _ _ _=> .any _
theorem nA.refl(p:IV):nA p p:=fun _ _ h=>h
theorem nA.of_eq{p q:IV}(h:p=q):nA p q:=h▸ .refl p
theorem fQ.refl(o:AO):fQ o o:=⟨id,fun _ _ _ _ _ h=>h⟩
theorem fQ.of_eq{o q:AO}(h:o=q):fQ o q:=h▸ .refl o
theorem fQ.trans{o q r:AO}(a:fQ o q)(b:fQ q r):fQ o r:=⟨fun h=>a.1 (b.1 h),fun M N U w i h=>b.2 M N U w i (a.2 M N U w i h)⟩
theorem aH.iv{p q:IV}(h:nA p q):aH (.iv p) (.iv q):=fun M N U x hx=>by
 cases hx with
 |iv _ _ hi=>exact .iv _ _ (h M x hi)
theorem nA.nil(sz:Nat)(el:Nat->List IV):nA (.v (.slice none 0 0)) (.dq sz 0 el):=fun M x h=>by
 cases h;exact .kQ _ _ _ _
theorem aH.nil(sz:Nat)(el:Nat->List IV):aH (.iv (.v (.slice none 0 0))) (.iv (.dq sz 0 el)):= .iv (.nil sz el)
theorem aH.kb(b:Bool):aH (.kb b) (.iv (.v (.bool b))):=fun M N U x h=>by
 cases h;exact .iv _ _ (.v _)
theorem nA.dq{sz n n':Nat}{el a0:Nat->List IV}(hn:n=n')(h: ∀k,k<n->el k=a0 k):nA (.dq sz n el) (.dq sz n' a0):=by
 subst hn;intro M x hx;cases hx with
 |kQ=>exact .kQ _ _ _ _
 |dq _ _ _ b off cap hn hc hl hm hr=>
  exact .dq _ _ _ _ _ _ hn hc (fun k hk=>by rw[<-h k hk];exact hl k hk) hm (fun k j p hk hp=>hr k j p hk (by rw[h k hk];exact hp))
theorem aH.dq{sz n n':Nat}{el a0:Nat->List IV}(hn:n=n')(h: ∀k,k<n->el k=a0 k):aH (.iv (.dq sz n el)) (.iv (.dq sz n' a0)):= .iv (.dq hn h)
def mF:List PV->List PV->Prop
 | [],[]=>True
 |p::r,q::s=>aH p q∧mF r s
 |_,_=>False
theorem mF.length: ∀{a b:List PV},mF a b->a.length=b.length
 | [],[],_=>rfl
 |_::_,_::_,h=>congrArg (· +1) (mF.length h.2)
 | [],_::_,h=>h.elim
 |_::_,[],h=>h.elim
theorem mF.get: ∀{a b:List PV},mF a b-> ∀(j:Nat) (q:PV),b[j]? =some q-> ∃p,a[j]? =some p∧aH p q
 | [],[],_,j,q,h=>by simp at h
 |p::r,q0::s,hh,j,q,h=>by
  cases j with
  |zero=>simp at h;subst h;exact⟨p,rfl,hh.1⟩
  |succ j=>simpa using mF.get hh.2 j q (by simpa using h)
 | [],_::_,hh,_,_,_=>hh.elim
 |_::_,[],hh,_,_,_=>hh.elim
theorem aH.agg{a b:List PV}(h:mF a b):aH (.agg a) (.agg b):=fun M N U x hx=>by
 cases hx with
 |agg _ ys hl hr=>exact .agg _ _ (h.length▸hl) fun j q hj=>let ⟨p,hp,hle⟩:=h.get j q hj;hle M N U _ (hr j p hp)
theorem aH.bT{a b:List PV}(h:mF a b):aH (.bT a) (.bT b):=fun M N U x hx=>by
 cases hx with
 |bT _ ys hl hr=>exact .bT _ _ (h.length▸hl) fun j q hj=>let ⟨p,hp,hle⟩:=h.get j q hj;hle M N U _ (hr j p hp)
theorem fQ.cells{a b:List PV}{T0:Option TypeId}(h:mF a b):fQ (.cells a T0) (.cells b T0):=⟨fun h=>h,fun M N U w i ⟨c,T,h1,h2,h3,h4,h5⟩=>
 ⟨c,T,h1,h2,h.length▸h3,fun j q hj=>let ⟨p,hp,hle⟩:=h.get j q hj;hle M N U _ (h4 j p hp),h5⟩⟩
theorem fQ.Py(a:List PV)(T0:Option TypeId):fQ (.cells a T0) (.cells a):=⟨fun h=>h,fun M N U w i ⟨c,T,h1,h2,h3,h4,_⟩=>⟨c,T,h1,h2,h3,h4, .none _⟩⟩
theorem Fn.le{P:Program}{k:FuncId}{aa args:List PV}{os:List AO}{R:PV->AH->Nat->Prop}(h:Fn P k args os R)(a0:mF aa args):Fn P k aa os R:=
 ⟨h.1,fun M N w vs hr hl hv=>h.2 M N w vs hr (by rw[<-a0.length];exact hl) fun j q hj=>let ⟨p,hp,hpq⟩:=a0.get j q hj;hpq M N _ _ (hv j p hp)⟩
theorem Pure.le{P:Program}{k:FuncId}{aa args:List PV}{r:PV}(h:Pure P k args r)(a0:mF aa args):Pure P k aa r:=Fn.le h a0
theorem Fn.mono{P:Program}{k:FuncId}{args:List PV}{os:List AO}{R R':PV->AH->Nat->Prop}(h:Fn P k args os R)(hR: ∀r h n,R r h n->R' r h n):Fn P k args os R':=
 ⟨h.1,fun M N w vs hr hl hv=>(h.2 M N w vs hr hl hv).mono fun _ _ ⟨x,M',N',r,h',n',e,hh,rest⟩=>⟨x,M',N',r,h',n',e,hR _ _ _ hh,rest⟩⟩
def sg(n0:Nat)(L:List Nat)(i:Nat):Nat:=bif Xi i n0 then i else L.getD (i-n0) 0
theorem gh{n0:Nat}{L:List Nat}{i:Nat}(h:i<n0):sg n0 L i=i:=by
 have:Xi i n0=true:=XB h;simp[sg,this]
def FI(n:Nat)(σ:Nat->Nat)(f:AF):AF->Prop
 | []=>True
 |(d,p)::r=>aH (f.get d) (p.c7 σ)∧p.low n=true∧FI n σ f r
def rr(n:Nat)(σ:Nat->Nat)(h:AH):AH->Prop
 | []=>True
 |(_,none)::r=>rr n σ h r
 |(i,some o)::r=>(∃o',h.get (σ i)=some o'∧fQ o' (o.c7 σ))∧i<n∧o.low n∧rr n σ h r
def ef(σ:Nat->Nat):AH->List Nat
 | []=> []
 |(_,none)::r=>ef σ r
 |(i,some _)::r=>σ i::ef σ r
structure Wk (n0:Nat) (L:List Nat) (s t:AS):Prop where
 nx:t.nx=n0+L.length
 ns:n0<=s.nx
 lt: ∀j∈L,j<s.nx
 f:FI t.nx (sg n0 L) s.f t.f
 h:rr t.nx (sg n0 L) s.h t.h
 inj:(ef (sg n0 L) t.h).Nodup
theorem FH{n:Nat}{σ:Nat->Nat}{f:AF}: ∀{g:AF},FI n σ f g-> ∀d,g.get d= .any∨(aH (f.get d) ((g.get d).c7 σ)∧(g.get d).low n=true)
 | [],_,_=> .inl Z
 |(k,p)::r,h,d=>by
  obtain⟨h1,h2,h3⟩:=h;rw[AF.au];by_cases hd:d=k
  ·subst hd;rw[am Z];exact .inr ⟨h1,h2⟩
  ·rw[be hd];exact FH h3 d
theorem kg{n:Nat}{σ:Nat->Nat}{h:AH}: ∀{g:AH},rr n σ h g-> ∀i o,g.get i=some o->(∃o',h.get (σ i)=some o'∧fQ o' (o.c7 σ))∧i<n∧o.low n
 | [],_,i,o,hi=>by simp[AH.get]at hi
 |(k,none)::r,hw,i,o,hi=>by
  rw[AH.au]at hi;split at hi
  ·cases hi
  ·exact kg (g:=r) hw i o hi
 |(k,some p)::r,hw,i,o,hi=>by
  obtain⟨h1,h2,h3,h4⟩:=hw;rw[AH.au]at hi;split at hi
  ·rename_i e;subst e;simp only[WV]at hi;subst hi;exact⟨h1,h2,h3⟩
  ·exact kg h4 i o hi
theorem lg{σ:Nat->Nat}: ∀{g:AH} {i:Nat} {o:AO},g.get i=some o->σ i∈ef σ g
 | [],i,o,h=>by simp[AH.get]at h
 |(k,none)::r,i,o,h=>by
  rw[AH.au]at h;split at h
  ·cases h
  ·exact lg (g:=r) h
 |(k,some p)::r,i,o,h=>by
  rw[AH.au]at h;split at h
  ·rename_i e;subst e;simp[ef]
  ·exact W8 _ (lg h)
theorem oz{σ:Nat->Nat}: ∀{g:AH},(ef σ g).Nodup-> ∀i j o p,g.get i=some o->g.get j=some p->σ i=σ j->i=j
 | [],_,i,j,o,p,h,_,_=>by simp[AH.get]at h
 |(k,none)::r,hn,i,j,o,p,hi,hj,he=>by
  rw[AH.au]at hi hj;split at hi
  ·cases hi
  ·split at hj
   ·cases hj
   ·exact oz (g:=r) hn i j o p hi hj he
 |(k,some q)::r,hn,i,j,o,p,hi,hj,he=>by
  rw[AH.au]at hi hj;simp only[ef,X5]at hn;split at hi
  ·rename_i e1;split at hj
   ·rename_i e2;rw[e1,e2]
   ·subst e1;exact absurd (he▸lg hj) hn.1
  ·split at hj
   ·rename_i e2;subst e2;exact absurd (he▸lg hi) hn.1
   ·exact oz hn.2 i j o p hi hj he
section
variable {n0:Nat} {L:List Nat} {s t:AS} {M:Mem} {N:Nm} {w:World}
theorem fQ.real{o q:AO}(h:fQ o q)(hq:q.real=true):o.real=true:=h.1 hq
theorem Wk.fits(hw:Wk n0 L s t){nt:Nat}{a:Act}(hf:Fits M N s nt a w):Fits M (N.comp (sg n0 L)) t nt a w:=by
 refine⟨⟨hf.1.dF,fun i o hi=>(kg hw.h i o hi).2.1,fun i o hi a0=>?_,fun i o hi=>?_,fun i j o p hi hj ho hp he=>?_⟩,fun d=>?_,hf.2.2⟩
 ·obtain⟨⟨o',h1,h2⟩,h3,h4⟩:=kg hw.h i o hi;exact hf.1.eK _ o' h1 (h2.real ((AO.cM _ o).trans a0))
 ·obtain⟨⟨o',h1,h2⟩,h3,h4⟩:=kg hw.h i o hi;exact(OR.w6 (h2.2 M N _ w _ (hf.1.obj _ _ h1))).down h4
 ·obtain⟨⟨o',h1,h2⟩,_⟩:=kg hw.h i o hi;obtain⟨⟨p',h3,h4⟩,_⟩:=kg hw.h j p hj;have:=hf.1.inj _ _ _ _ h1 h3 (h2.real ((AO.cM _ o).trans ho)) (h4.real ((AO.cM _ p).trans hp)) he;exact oz hw.inj i j o p hi hj this
 ·rcases FH hw.f d with h|⟨h1,h2⟩
  ·rw[h];exact .any _
  ·exact((h1 M N _ _ (hf.2.1 d)).w6 Z).down h2
theorem Wk.ext(hw:Wk n0 L s t){M0:Mem}{N0:Nm}{h0:AH}{w0:World}(hx:Ext M0 N0 (· <n0) h0 w0 M N (· <s.nx) s.h w):Ext M0 N0 (· <n0) h0 w0 M (N.comp (sg n0 L)) (· <t.nx) t.h w:=by
 refine⟨hx.os,hx.tape,hx.output,hx.size,hx.jq,hx.rF,hx.jM,⟨fun i hi=>?_,fun i hi=>?_⟩,fun i hi=>by have:=hw.nx;omega,fun i o hi a0=>?_⟩
 ·simp only[Nm.comp,gh hi];exact hx.nm.aI i hi
 ·simp only[Nm.comp,gh hi];exact hx.nm.ext i hi
 ·obtain⟨⟨o',h1,h2⟩,_⟩:=kg hw.h i o hi;exact hx.iW _ o' h1 (h2.real ((AO.cM _ o).trans a0))
end
theorem sN{P:Program}{nt:Nat}{Q:AQ}{k:List KI}{s:AS}{c:Code}{R R':AS->Prop}(h: ∀t,R t->R' t)(hg:GO P nt (.code c:: .lp R::k) Q s):GO P nt (.code c:: .lp R'::k) Q s:=by
 intro M N a w hf;refine AW.then hg hf fun e a' w' M' N' s' hx a0 hr=>⟨M',N',s',hx,a0,?_⟩
 cases e with
 |normal=>exact h _ hr
 |_=>exact hr
section
variable {P:Program} {nt:Nat} {Q:AQ} {k:List KI} {s:AS}
theorem o7{L:List Nat}{t:AS}{c:Code}(hw:Wk s.nx L s t)(h:GO P nt (.code c::k) Q t):GO P nt (.code c::k) Q s:=by
 intro M N a w hf;exact AW.then h (hw.fits hf) fun e a2 w2 M2 N2 s2 a0 c0 b0=>⟨M2,N2,s2,(hw.ext (.refl _ _ _ _ _)).trans a0,c0,b0⟩
theorem o8{body:Code}{σ:Type}(I:σ->AS)(μ:σ->Nat)(i0:σ)(L0:List Nat)(h0:Wk s.nx L0 s (I i0))
  (b0: ∀i,GO P nt (.code body:: .lp (fun t=> ∃j L,μ j<μ i∧Wk s.nx L t (I j))::k) Q (I i)):GO P nt (.code (.loop body)::k) Q s:=by
 intro M0 N0 a0 w0 g0
 let J:Act->World->Nat->Prop:=fun a w n=> ∃i M N,μ i=n∧Ext M0 N0 (· <s.nx) s.h w0 M N (· <(I i).nx) (I i).h w∧Fits M N (I i) nt a w
 have j0:J a0 w0 (μ i0):=⟨i0,M0,N0.comp (sg s.nx L0),rfl,h0.ext (.refl _ _ _ _ _),h0.fits g0⟩
 refine wp_loop (fun a w=> ∃n,J a w n) (fun a w=>by classical exact if h: ∃n,J a w n then Zp (dB h) else 0) ⟨_,j0⟩ fun a w e0=>?_;obtain⟨⟨i,M,N,hi,hx,hf⟩,f0⟩:=YW (dB e0);refine AW.then (b0 i) hf fun e a' w' M' N' s' c0 d0 hr=>?_
 cases e with
 |normal=>
  obtain⟨j,L,hj,hw⟩:=hr;have hJ:J a' w' (μ j):=⟨j,M',N'.comp (sg s.nx L),rfl,hw.ext (hx.trans c0),hw.fits d0⟩
  refine⟨⟨_,hJ⟩,?_⟩;simp only[dif_pos e0,dif_pos (⟨_,hJ⟩: ∃n,J a' w' n)];rw[<-hi];exact Nat.lt_of_le_of_lt ((YW (dB (⟨_,hJ⟩: ∃n,J a' w' n))).2 _ hJ) hj
 |_=>exact⟨M',N',s',hx.trans c0,d0,hr⟩
end
section
variable {P:Program} {nt:Nat} {Q:AQ} {k:List KI} {s:AS}
theorem aA{body:Code}(i0 n:Nat)(b0:i0<=n)(I:Nat->AS)(J:Nat->Prop)(L0:List Nat)(j0:J i0)(h0:Wk s.nx L0 s (I i0))
  (a0: ∀i,i<=n->J i->GO P nt (.code body:: .lp (fun t=>i<n∧J (i+1)∧ ∃L,Wk s.nx L t (I (i+1)))::k) Q (I i)):GO P nt (.code (.loop body)::k) Q s:=by
 refine o8 (σ:={i:Nat//i<=n∧J i}) (fun i=>I i.1) (fun i=>n-i.1) ⟨i0,b0,j0⟩ L0 h0 fun i=>?_;obtain⟨i,h1,h2⟩:=i;have:=a0 i h1 h2;refine sN ?_ this
 rintro t ⟨h3,h4,L,h5⟩;exact⟨⟨i+1,h3,h4⟩,L,by show n-(i+1)<n-i;omega,h5⟩
end
theorem fb{P:Program}{nt:Nat}{Q:AQ}{k:List KI}{s:AS}{c:Code}(t sz:Nat)(ht:s.f.get t= .iv (.v (.slice none 0 0)))(h:GO P nt (.code c::k) Q (wY s t sz)):GO P nt (.code c::k) Q s:=by
 intro M N a w hf;obtain⟨sf,sh,sn⟩:=s;obtain⟨h1,h2⟩:=hf.1.Me sz;have e0:Fits M N (wY ⟨sf,sh,sn⟩ t sz) nt a w:=by
  refine⟨h2,fun k=>?_,hf.2.2⟩;simp only[wY];rw[AF.au];split
  ·rename_i a0;subst a0;have:=hf.2.1 k;simp only at ht this;rw[ht]at this;generalize a.tmps.getD k undef=v at this;cases this with
   |iv _ _ h=>cases h with
    |v=>exact .ph _ _ (YC _)
  ·exact(hf.2.1 k).mono (.refl _) (.refl _ _) (fun i hi=>YS hi)
 exact AW.then h e0 fun e a2 w2 M2 N2 s2 b0 d0 c0=>⟨M2,N2,s2,h1.trans b0,d0,c0⟩
mutual
def PV.dF(i sz:Nat)(el:Nat->List IV):PV->PV
 | .iv x=> .iv x
 | .agg cs=> .agg (nY i sz el cs)
 | .bT cs=> .bT (nY i sz el cs)
 | .sl j off len sz'=>bif Xn j i then .iv (.dq sz len (fun k=>el (off+k))) else .sl j off len sz'
 | .ptr j o=> .ptr j o
 | .dC j a b c=> .dC j a b c
 | .fv z j=> .fv z j
 | .mp j=> .mp j
 | .dr fn a b=> .dr fn a b
 | .kb b=> .kb b
 | .any=> .any
def nY(i sz:Nat)(el:Nat->List IV):List PV->List PV
 | []=> []
 |p::r=>PV.dF i sz el p::nY i sz el r
end
theorem fE(i sz:Nat)(el:Nat->List IV): ∀l:List PV,nY i sz el l=l.map (PV.dF i sz el)
 | []=>rfl
 |p::r=>by simp[nY,fE i sz el r]
mutual
def PV.bH(i sz n:Nat):PV->Prop
 | .agg cs=>dw i sz n cs
 | .bT cs=>dw i sz n cs
 | .sl j off len sz'=>if j=i then sz'=sz∧off+len<=n else True
 |_=>True
def dw(i sz n:Nat):List PV->Prop
 | []=>True
 |p::r=>PV.bH i sz n p∧dw i sz n r
end
theorem gE{i sz n:Nat}: ∀{l:List PV},dw i sz n l-> ∀(j:Nat) (p:PV),l[j]? =some p->p.bH i sz n
 | [],_,j,p,h=>by simp at h
 |c::l,hh,j,p,h=>by
  cases j with
  |zero=>simp at h;subst h;exact hh.1
  |succ j=>exact gE hh.2 j p (by simpa using h)
theorem wK{M:Mem}{N:Nm}{n:Nat}{h:AH}{w:World}(hr:Rel M N (· <n) h w){i sz:Nat}{es:List (List PV)}(hi:h.get i=some (.row sz es)){el:Nat->List IV}
  (i0: ∀k e,es[k]? =some e->e=(el k).map .iv): ∃M',Ext M N (· <n) h w M' N (· <n) ((i,none)::h) w∧Rel M' N (· <n) ((i,none)::h) w∧
   ∀p x,VR M N (· <n) p x->p.bH i sz es.length->VR M' N (· <n) (p.dF i sz el) x:=by
 have key: ∀M':Mem,M.le M'->(∀off a0 cap b,off+a0<=es.length->0<a0->a0<=cap->cap<=maxLen->b=N.aI i->IR M' (.dq sz a0 (fun k=>el (off+k))) (.slice (some ⟨b,off*sz,none⟩) a0 cap))->
   ∀p x,VR M N (· <n) p x->p.bH i sz es.length->VR M' N (· <n) (p.dF i sz el) x:=by
  intro M' hM hs p x hx
  induction hx with
  |iv x y h=>exact fun _=> .iv _ _ (h.mono hM)
  |agg cs ys hl hr ih=>
   intro hp;refine .agg _ _ (by simpa[fE]using hl) fun j q hq=>?_;rw[fE,W1,W6]at hq;obtain⟨q0,e0,rfl⟩:=hq
   exact ih j q0 e0 (gE (by simpa[PV.bH]using hp) j q0 e0)
  |bT cs ys hl hr ih=>
   intro hp;refine .bT _ _ (by simpa[fE]using hl) fun j q hq=>?_;rw[fE,W1,W6]at hq;obtain⟨q0,e0,rfl⟩:=hq
   exact ih j q0 e0 (gE (by simpa[PV.bH]using hp) j q0 e0)
  |ptr i off h=>exact fun _=> .ptr _ _ h
  |dC i sz k off h=>exact fun _=> .dC _ _ _ _ h
  |fv z i h=>exact fun _=> .fv _ _ h
  |sl j off a0 sz' cap h h0 hl hc he=>
   intro hp;simp only[PV.bH]at hp;simp only[PV.dF];by_cases hj:j=i
   ·subst hj;rw[am Z]at hp;obtain⟨rfl,hp⟩:=hp;have:Xn j j=true:=by simp
    rw[this,cond_true];exact .iv _ _ (hs off a0 cap _ hp h0 hl hc Z)
   ·have:Xn j i=false:=X7.2 (fun e=>hj (Xh e));rw[this,cond_false];exact .sl _ _ _ _ _ h h0 hl hc he
  |ph j sz' h=>
   intro hp;simp only[PV.dF];cases hb:Xn j i with
   |true=>exact .iv _ _ (.kQ _ _ _ _)
   |false=>exact .ph _ _ h
  |sle j sz' cap h hc he=>
   intro hp;simp only[PV.dF];cases hb:Xn j i with
   |true=>exact .iv _ _ (.kQ _ _ _ _)
   |false=>exact .sle _ _ _ h hc he
  |mp i h=>exact fun _=> .mp _ h
  |dr fn first caps f' c' h1 h2 hr1 hr2 ih1 ih2=>exact fun _=> .dr _ _ _ _ _ h1 h2 (fun j p hj=>(hr1 j p hj).mono hM (.refl _ _) (fun _ h=>h)) (fun j p hj=>(hr2 j p hj).mono hM (.refl _ _) (fun _ h=>h))
  |kb b=>exact fun _=> .kb _
  |any x=>exact fun _=> .any _
 rcases hr.obj i _ hi with h0|⟨h0,c,T,h1,h2,h3,h4,h5⟩
 ·subst h0;exact⟨M,(Ext.refl _ _ _ _ _).del i,hr.del i,key M (.refl _) fun off a0 cap b h1 h2=>by simp at h1;omega⟩
 ·have hne:es≠ []∨es=[]:=by cases es<;>simp
  rcases hne with hne|rfl;rotate_left
  ·exact⟨M,(Ext.refl _ _ _ _ _).del i,hr.del i,key M (.refl _) fun off a0 cap b h1 h2=>by simp at h1;omega⟩
  have f0:(AO.row sz es).real=true:=by cases es with
   |nil=>exact absurd Z hne
   |cons=>rfl
  have j0:=hr.eK i _ hi f0
  let M':Mem:=M.set (N.aI i) (.cells c) j0
  have hM:M.le M':=fun b d hb=>by
   simp only[M',Mem.set];by_cases b0:b=N.aI i
   ·rw[b0,j0]at hb;cases hb
   ·rw[be b0];exact hb
  have hnew: ∀b d,M b=none->M' b=some d->b=N.aI i:=fun b d h1 h2=>by
   simp only[M',Mem.set]at h2;by_cases b0:b=N.aI i
   ·exact b0
   ·rw[be b0,h1]at h2;cases h2
  refine⟨M',?_,?_,key M' hM fun off a0 cap b hb h6 h7 h8 m0=>?_⟩
  ·exact⟨rfl,rfl,rfl,W0 _,fun _ _ _=>rfl,hM,fun b d h1 h2=> .inr ⟨i,_,hi,f0,(hnew b d h1 h2).symm⟩, .refl _ _,fun _ h=>h,fun j o hj f0=> .inr ⟨j,o,(bz j o hj).2,f0,rfl⟩⟩
  ·refine⟨fun b d hb=>?_,fun j o hj=>hr.used j o (bz j o hj).2,fun j o hj d0=>?_,fun j o hj=>?_,fun j k o p hj hk=>hr.inj j k o p (bz j o hj).2 (bz k p hk).2⟩
   ·simp only[M',Mem.set]at hb;by_cases b0:b=N.aI i
    ·rw[am b0]at hb;cases hb;exact⟨T,(0,0),by rw[b0,h1]⟩
    ·rw[be b0]at hb;exact hr.dF b d hb
   ·obtain⟨g1,g2⟩:=bz j o hj;simp only[M',Mem.set];rw[be fun e=>g1 (hr.inj j i o _ g2 hi d0 f0 e)];exact hr.eK j o g2 d0
   ·obtain⟨g1,g2⟩:=bz j o hj;exact(hr.obj j o g2).mono hM (.refl _ _) (fun _ h=>h) (hr.used j o g2) Z
  ·subst m0;have c0: ∀o,M'.cell (N.aI i) o=c[o]? :=fun o=>by simp[Mem.cell,M',Mem.set]
   have hlt: ∀k j,k<a0->j<sz->off*sz+k*sz+j<c.size:=by
    intro k j hk hj;have:(off+k+1)*sz<=es.length*sz:=Xw _ (by omega);rw[Yj,Yj]at this;omega
   have g0: ∀k,k<a0-> ∃e,es[off+k]? =some e:=fun k hk=>⟨_,WY (by omega)⟩
   refine .dq _ _ _ _ _ _ h7 h8 (fun k hk=>?_) (fun k j hk hj=>?_) (fun k j p hk hp=>?_)
   ·obtain⟨e,he⟩:=g0 k hk;have:=h4 _ e he;rw[i0 _ e he]at this;simpa using this
   ·rw[c0];simp[hlt k j hk hj]
   ·obtain⟨e,he⟩:=g0 k hk;have h9:=h4 _ e he;have k0:=i0 _ e he;have hj:j<sz:=by rw[<-h9,k0,Xr];exact(WX.1 hp).1
    have:=h5 _ e j (.iv p) he (by rw[k0,W1,hp];rfl);rw[c0];have e2:off*sz+k*sz+j=(off+k)*sz+j:=by rw[Yj]
    rw[e2];rw[WT]at this;cases this with
    |iv _ _ h=>exact h.mono hM
def iz(h:AH)(n:Nat)(r:PV)(K:AH->PV->Prop):Prop:= ∀M N w,Rel M N (· <n) h w-> ∃M' h2 r2,Ext M N (· <n) h w M' N (· <n) h2 w∧Rel M' N (· <n) h2 w∧(∀x,VR M N (· <n) r x->VR M' N (· <n) r2 x)∧K h2 r2
theorem iz.done{h:AH}{n:Nat}{r:PV}{K:AH->PV->Prop}(hk:K h r):iz h n r K:=fun M N w hr=>⟨M,h,r, .refl _ _ _ _ _,hr,fun _ h=>h,hk⟩
theorem iz.row{h:AH}{n:Nat}{r:PV}{K:AH->PV->Prop}(i:Nat){sz:Nat}{es:List (List PV)}(el:Nat->List IV)(hi:h.get i=some (.row sz es))(a0: ∀k e,es[k]? =some e->e=(el k).map .iv)
  (hin:r.bH i sz es.length) (hk:iz ((i,none)::h) n (r.dF i sz el) K):iz h n r K:=by
 intro M N w hr;obtain⟨M1,h1,h2,h3⟩:=wK hr hi a0;obtain⟨M2,h',r2,g1,g2,g3,g4⟩:=hk M1 N w h2;exact⟨M2,h',r2,h1.trans g1,g2,fun x hx=>g3 x (h3 _ _ hx hin),g4⟩
def Pv(ty:Ty)(l:List ResultVar)(m:Nat)(R:PV->AH->Nat->Prop):AQ:=fun e s=>
 (e= .normal∨e= .ret)∧ ∃r0,lS ty s l=some r0∧iz s.h s.nx r0 fun h2 r2=> ∃r h' n' L,R r h' n'∧Wk m L ⟨[(0,r2)],h2,s.nx⟩ ⟨[(0,r)],h',n'⟩
section
variable {P:Program}
theorem xW {ty:Ty} (f0:cz P ty) {k:FuncId} {fn:Func} {c:Code} (hf:P.funcs[k]? =some fn) (hb:fn.body=some c) (hn:(fn.name== "runtime.NumGoroutine")=false) {nt:Nat} (d0:fn.ntmps=nt)
  {l:List ResultVar} (hl:fn.results.toList=l) {args:List PV} (g0:args.length<=nt) {os:List AO} {R:PV->AH->Nat->Prop}
  (h:GO P nt [.code c] (Pv ty l os.length R) ⟨qx 0 args,fk 0 os,os.length⟩):Fn P k args os R:=by
 have key:Fn P k args os (fun r0 h0 n0=>iz h0 n0 r0 fun h2 r2=> ∃r h' n' L,R r h' n'∧Wk os.length L ⟨[(0,r2)],h2,n0⟩ ⟨[(0,r)],h',n'⟩):=by
  refine Fl f0 hf hb hn d0 hl g0 ?_;intro M N a w b0;refine wp_mono (h M N a w b0) fun e a' w' hp=>?_;obtain⟨M',N',s',h1,h2,h3⟩:=hp;refine⟨M',N',s',h1,h2,?_⟩;simp only[kp]at h3 ⊢;obtain⟨he,r,g1,g2⟩:=h3;exact⟨he,r,g1,g2⟩
 refine⟨key.1,fun M N w vs hr a0 hv=>(key.2 M N w vs hr a0 hv).mono ?_⟩;rintro e w' ⟨x,M',N',r0,h0,n0,rfl,hF,hx,hr',hvr⟩;obtain⟨M2,h2,r2,g1,g2,g3,r,h',n',L,hR,hw⟩:=hF M' N' w' hr'
 have e0:Fits M2 N' ⟨[(0,r2)],h2,n0⟩ 1 ⟨#[x],[]⟩ w':=⟨g2,fun d=>by
  rw[AF.au];by_cases hd:d=0
  ·subst hd;rw[am Z];exact g3 x hvr
  ·rw[be hd];exact .any _,rfl,rfl⟩
 have c0:=hw.fits e0;refine⟨x,M2,_,r,h',n',rfl,hR,hw.ext (hx.trans g1),c0.1,?_⟩;have:=c0.2.1 0;exact this
def FE(ty:Ty)(l:List ResultVar)(r:PV):AQ:=fun e s=>
 (e= .normal∨e= .ret)∧ ∃r0,lS ty s l=some r0∧iz s.h s.nx r0 fun _ r2=>aH r2 r
theorem ad {ty:Ty} (c0:cz P ty) {k:FuncId} {fn:Func} {c:Code} (hf:P.funcs[k]? =some fn) (hb:fn.body=some c) (hn:(fn.name== "runtime.NumGoroutine")=false) {nt:Nat} (b0:fn.ntmps=nt)
  {l:List ResultVar} (hl:fn.results.toList=l) {args:List PV} (d0:args.length<=nt) {r:PV} (hlow:r.low 0=true)
  (h:GO P nt [.code c] (FE ty l r) ⟨qx 0 args,[],0⟩):Pure P k args r:=by
 refine xW c0 hf hb hn b0 hl d0 ?_;intro M N a w a0;refine wp_mono (h M N a w a0) fun e a' w' hp=>?_;obtain⟨M',N',s',h1,h2,h3⟩:=hp;refine⟨M',N',s',h1,h2,?_⟩;simp only[kp]at h3 ⊢;obtain⟨he,r0,g1,g2⟩:=h3;refine⟨he,r0,g1,fun M N w hr=>?_⟩;obtain⟨M2,h2,r2,q1,q2,q3,q4⟩:=g2 M N w hr;refine⟨M2,h2,r2,q1,q2,q3,r,[],0,[],⟨rfl,rfl,rfl⟩,rfl,W3 _,by simp,⟨?_,hlow,ac⟩,ac,XT⟩;rw[PV.ju _ _ hlow];exact q4
theorem jG{ty:Ty}{l:List ResultVar}{r r0:PV}{e:Exit}{s:AS}(he:e= .normal∨e= .ret)(h:lS ty s l=some r0)(a0:aH r0 r):FE ty l r e s:=⟨he,r0,h, .done a0⟩
end
section
variable {P:Program}
theorem K7{k:FuncId}{args:List PV}{os:List AO}{R:PV->AH->Nat->Prop}(hc:ot P k){n:Nat}(hn: ∃sz el,PV.iv (.dq sz n el)∈args)(h:n<=maxLen->Fn P k args os R):Fn P k args os R:=by
 refine⟨hc,fun M N w vs hr hl hv=>?_⟩;obtain⟨sz,el,hn⟩:=hn;obtain⟨j,hj⟩:=XP hn;have:=hv j _ hj;have a0:n<=maxLen:=by
  generalize vs.getD j undef=v at this;cases this with
  |iv _ _ hi=>cases hi with
   |kQ=>exact W3 _
   |dq=>omega
 exact(h a0).2 M N w vs hr hl hv
theorem pE{k:FuncId}{args:List PV}{r:PV}(hc:ot P k){n:Nat}(hn: ∃sz el,PV.iv (.dq sz n el)∈args)(h:n<=maxLen->Pure P k args r):Pure P k args r:=K7 hc hn h
end
inductive FT where
 |leaf
 |node (l:FT) (k e:Nat) (r:FT)
def FT.find:FT->Nat->Option Nat
 | .leaf,_=>none
 | .node l k e r,t=>bif Xn t k then some e else bif Xi t k then l.find t else r.find t
def FT.Ri(p:Nat->Nat->Prop):FT->Prop
 | .leaf=>True
 | .node l k e r=>p k e∧l.Ri p∧r.Ri p
theorem FT.n6{p:Nat->Nat->Prop}: ∀{x:FT},x.Ri p-> ∀t e,x.find t=some e->p t e
 | .leaf,_,t,e,h=>by simp[FT.find]at h
 | .node l k e0 r,ha,t,e,h=>by
  simp only[FT.find]at h;cases hb:Xn t k with
  |true=>
   simp only[hb,cond_true,WV]at h;have:=Xh hb;subst this;subst h;exact ha.1
  |false=>
   simp only[hb,cond_false]at h;cases hc:Xi t k with
   |true=>simp only[hc,cond_true]at h;exact FT.n6 ha.2.1 t e h
   |false=>simp only[hc,cond_false]at h;exact FT.n6 ha.2.2 t e h
abbrev iI(n:Int):IV:= .v (.int .i64 n)
abbrev iS(s:ByteArray):IV:= .v (.string s)
abbrev pI(n:Int):PV:= .iv (iI n)
abbrev pS(s:ByteArray):PV:= .iv (iS s)
abbrev pB(b:Bool):PV:= .iv (.v (.bool b))
abbrev ag(l:List IV):PV:= .agg (l.map .iv)
abbrev dy{α:Type}[Inhabited α](sz:Nat)(l:List α)(f:α->List IV):IV:= .dq sz l.length (fun k=>f (l.getD k default))
def aD{α:Type}(sz:Nat)(l:List α)(f:α->List IV):AO:= .row sz (l.map fun x=>(f x).map .iv)
theorem wo(σ:Nat->Nat): ∀l:List IV,dS σ (l.map .iv)=l.map .iv
 | []=>rfl
 |x::r=>by simp only[Xe,dS,PV.c7,wo σ r]
theorem oe(n:Nat): ∀l:List IV,bs n (l.map .iv)=true
 | []=>rfl
 |x::r=>by simp only[Xe,bs,PV.low,oe n r]
section
variable {α:Type} {sz:Nat} {l:List α} {f:α->List IV}
theorem bC(σ:Nat->Nat):(aD sz l f).c7 σ=aD sz l f:=by
 simp only[aD,AO.c7,Y0];congr 1;exact Yx fun x _=>wo σ _
theorem cL(n:Nat):(aD sz l f).low n:=by
 intro k e he;rw[W1,W6]at he;obtain⟨x,_,rfl⟩:=he;exact oe n _
theorem NR{es:List (List PV)}(σ:Nat->Nat)(h:es=l.map fun x=>(f x).map .iv):fQ (.row sz es) ((aD sz l f).c7 σ):=by
 rw[bC];exact .of_eq (by rw[h];rfl)
theorem cX[Inhabited α]{es:List (List PV)}(h:es=l.map fun x=>(f x).map .iv): ∀k e,es[k]? =some e->e=(f (l.getD k default)).map .iv:=by
 subst h;intro k e he;rw[W1,W6]at he;obtain⟨x,hx,rfl⟩:=he;rw[WU,hx];rfl
theorem ox[Inhabited α](l:List α)(f:α->List IV):(Xc l.length).map (fun k=>(f (l.getD k default)).map PV.iv)=l.map fun x=>(f x).map .iv:=by
 apply YH;intro k;rw[W1,W1];rcases X3 k l.length with h|h
 ·rw[YF h,WY h];simp[WU,h]
 ·simp[h]
theorem vR(h: ∀x,jb ((f x).map .iv)=true)(l:List α):allOnes (l.map fun x=>(f x).map .iv)=true:=by
 induction l with
 |nil=>rfl
 |cons x r ih=>simp only[Xe,allOnes,h x,ih]
theorem kF[Inhabited α](h: ∀x,jb ((f x).map .iv)=true)(l:List α):allOnes ((Xc l.length).map (fun k=>(f (l.getD k default)).map PV.iv))=true:=by
 rw[ox];exact vR h l
end
def an(l:List IV):AO:= .cells (l.map .iv)
theorem ta(σ:Nat->Nat)(l:List IV):(an l).c7 σ=an l:=by
 simp only[an,AO.c7,wo]
theorem ID{cs:List PV}{T0:Option TypeId}{l:List IV}(σ:Nat->Nat)(h:cs=l.map .iv):fQ (.cells cs T0) ((an l).c7 σ):=by
 rw[ta];exact .trans (.Py cs T0) (.of_eq (by rw[h];rfl))
def bN:List Nat->Bool
 | []=>true
 |x::r=>!r.elem x&&bN r
theorem dd: ∀{l:List Nat},bN l=true->l.Nodup
 | [],_=>XT
 |x::r,h=>by
  simp only[bN,Xg,XF,List.elem_eq_mem,decide_eq_false_iff_not]at h;exact X5.2 ⟨h.1,dd h.2⟩
theorem wk{n0:Nat}{L:List Nat}{s t:AS}(h1:Xn t.nx (n0+L.length)=true)(h2:YQ n0 s.nx=true)(h3:L.all (fun j=>Xi j s.nx)=true)(hf:FI t.nx (sg n0 L) s.f t.f)(hh:rr t.nx (sg n0 L) s.h t.h)
  (h4:bN (ef (sg n0 L) t.h)=true):Wk n0 L s t:=
 ⟨Xh h1,WR h2,fun j hj=>WR (Xm.1 h3 j hj),hf,hh,dd h4⟩
theorem mH{n0:Nat}{s t:AS}(h1:t.nx=n0)(h2:YQ n0 s.nx=true)(hf:FI t.nx (sg n0 []) s.f t.f)(hh:t.h=[]):Wk n0 [] s t:=
 ⟨by simpa using h1,WR h2,by simp,hf,by rw[hh];trivial,by rw[hh];exact XT⟩
section
variable {n i:Nat} {σ:Nat->Nat} {h r:AH}
theorem hC{cs:List PV}{T0:Option TypeId}{c:List IV}(ho:h.get (σ i)=some (.cells cs T0))(he:cs=c.map .iv)(hi:Xi i n=true)(hr:rr n σ h r):rr n σ h ((i,some (an c))::r):=
 ⟨⟨_,ho,ID σ he⟩,WR hi,oe n c,hr⟩
theorem hR{α:Type}{sz:Nat}{es:List (List PV)}{l:List α}{f:α->List IV}(ho:h.get (σ i)=some (.row sz es))(he:es=l.map fun x=>(f x).map .iv)(hi:Xi i n=true)(hr:rr n σ h r):rr n σ h ((i,some (aD sz l f))::r):=
 ⟨⟨_,ho,NR σ he⟩,WR hi,cL n,hr⟩
theorem hM{V:Type}{kc:KC}{ev:V->IV}{z:V}{zv:Value}{dv:PV->V}{m m':List (kc.K×V)}(ho:h.get (σ i)=some (.map kc ev z zv dv m))(he:m=m')(hi:Xi i n=true)(hr:rr n σ h r):rr n σ h ((i,some (.map kc ev z zv dv m'))::r):=
 ⟨⟨_,ho, .of_eq (by rw[he];rfl)⟩,WR hi,ac,hr⟩
theorem KF{V:Type}{kc:KC}{ev:V->IV}{z:V}{zv:Value}{dv:PV->V}(ho:h.get (σ i)=some .fY)(hz: ∀M,IR M (ev z) zv)(hi:Xi i n=true)(hr:rr n σ h r):rr n σ h ((i,some (.map kc ev z zv dv []))::r):=
 ⟨⟨_,ho,id,fun M N U w j hj=>⟨#[],0,hj,⟨rfl,by simp,by simp,by simp,by simp⟩,hz M⟩⟩,WR hi,ac,hr⟩
theorem hI{V:Type}{kc:KC}{ev:V->IV}{m:List (kc.K×V)}{vs c0:List Nat}{cu b0:Option (kc.K×V)}(ho:h.get (σ i)=some (.bS kc ev m vs cu))(he:vs=c0)(hc:b0=cu∨b0=none)(hi:Xi i n=true)(hr:rr n σ h r):rr n σ h ((i,some (.bS kc ev m c0 b0))::r):=by
 refine⟨⟨_,ho,id,fun M N U w j hj=>?_⟩,WR hi,ac,hr⟩;subst he;rcases hc with rfl|rfl
 ·exact hj
 ·rcases hj with⟨h1,h2,_,h4⟩|⟨b,ents,clock,a0,h1,h2,h3,h4,h5,h6,h7⟩
  ·exact .inl ⟨h1,h2,rfl,h4⟩
  ·exact .inr ⟨b,ents,clock,a0,h1,h2,h3,h4,h5,h6,by simp⟩
end
theorem cU{ty:Ty}{rl:List ResultVar}{e:Exit}{s:AS}{α:Type}[Inhabited α]{i n sz:Nat}{es:List (List PV)}{L:List α}{f:α->List IV}(he:e= .normal∨e= .ret)(h:lS ty s rl=some (.sl i 0 n sz))(hi:s.h.get i=some (.row sz es))
  (hes:es=L.map fun x=>(f x).map .iv) (hn:n=L.length):FE ty rl (.iv (dy sz L f)) e s:=by
 refine⟨he,_,h, .row i (fun k=>f (L.getD k default)) hi (cX hes) ?_ (.done ?_)⟩
 ·subst hes;subst hn;simp[PV.bH]
 ·have:Xn i i=true:=by simp
  simp only[PV.dF,this,cond_true,Xk];subst hn;exact .refl _
theorem aH.bk{b c:Bool}(h:b=c):aH (pB b) (.kb c):=fun _ _ _ _ hx=>by
 subst h;cases hx with
 |iv _ _ h=>cases h;exact .kb _
theorem aH.te{b c:Bool}(h:b=c):aH (.kb b) (pB c):=h▸ .kb b
theorem aH.row{i n m sz:Nat}(h:n=m):aH (.sl i 0 n sz) (.sl i 0 m sz):= .of_eq (by rw[h])
section
variable {α:Type} [Inhabited α] {l:List α} {f:α->Bool} {i:Nat}
theorem bq(h:(l.take i).any f=false)(hi:i<l.length):((l.take (i+1)).any f=false↔f (l.getD i default)=false):=by
 rw[Zg hi,List.any_append,h,WU,WY hi];simp
theorem kn(hi:i<l.length)(h:f (l.getD i default)=true):l.any f=true:=by
 rw[WU,WY hi]at h;exact XM.2 ⟨_,XD hi,h⟩
omit [Inhabited α] in
theorem any_none(h:(l.take i).any f=false)(hi:l.length<=i):l.any f=false:=by
 rwa[W2 hi]at h
theorem um(h:(l.take i).all f=true)(hi:i<l.length):((l.take (i+1)).all f=true↔f (l.getD i default)=true):=by
 rw[Zg hi,Zz,h,WU,WY hi];simp
theorem Ec(hi:i<l.length)(h:f (l.getD i default)=false):l.all f=false:=by
 rw[WU,WY hi]at h;exact Y4.2 ⟨_,XD hi,by simpa using h⟩
omit [Inhabited α] in
theorem Ed(h:(l.take i).all f=true)(hi:l.length<=i):l.all f=true:=by
 rwa[W2 hi]at h
theorem aN(hi:i<l.length):l.take (i+1)=l.take i++ [l.getD i default]:=by
 rw[Zg hi,WU,WY hi];rfl
theorem cR{β:Type}{g:β->α->β}{b:β}(hi:i<l.length):(l.take (i+1)).foldl g b=g ((l.take i).foldl g b) (l.getD i default):=by
 rw[aN hi,YI];rfl
omit [Inhabited α] in
theorem qW{β:Type}{g:β->α->β}{b:β}(hi:l.length<=i):(l.take i).foldl g b=l.foldl g b:=by rw[W2 hi]
end
theorem gG{P:Program}{nt:Nat}{Q:AQ}{k:List KI}{s:AS}{body:Code}{K:Type}(m:List K)(I:List Nat->AS)(J:List Nat->Prop)(L0:List Nat)(j0:J [])(h0:Wk s.nx L0 s (I []))
  (b0: ∀vs:List Nat,J vs->GO P nt (.code body:: .lp (fun t=> ∃j x,m[j]? =some x∧j∉vs∧J (j::vs)∧ ∃L,Wk s.nx L t (I (j::vs)))::k) Q (I vs)):GO P nt (.code (.loop body)::k) Q s:=by
 refine o8 (σ:={vs:List Nat//vs.Nodup∧(∀j∈vs,j<m.length)∧J vs}) (fun v=>I v.1) (fun v=>m.length-v.1.length) ⟨[],XT,by simp,j0⟩ L0 h0 fun v=>?_;obtain⟨vs,h1,h2,h3⟩:=v;refine sN ?_ (b0 vs h3)
 rintro t ⟨j,x,g1,g2,g3,L,g4⟩;have hj:j<m.length:=(WX.1 g1).1;have a0: ∀i∈j::vs,i<m.length:=by
  intro i hi;rcases Xb.1 hi with rfl|hi
  ·exact hj
  ·exact h2 i hi
 have hnd:(j::vs).Nodup:=X5.2 ⟨g2,h1⟩;have c0:(j::vs).length<=m.length:=by
  have:=X0 hnd (l₂:=Xc m.length) (fun i hi=>Xu.2 (a0 i hi));simpa using this
 refine⟨⟨j::vs,hnd,a0,g3⟩,L,?_,g4⟩;show m.length-(j::vs).length<m.length-vs.length;simp only[Xx]at c0 ⊢;omega
def b8(P:Program)(k:FuncId)(args:List PV)(os:List AO)(r:PV)(h:AH)(n:Nat):Prop:=Fn P k args os fun q h' n'=>q=r∧h'=h∧n'=n
def uo:List AO->List AO->Prop
 | [],[]=>True
 |p::r,q::s=>fQ p q∧uo r s
 |_,_=>False
theorem uo.length: ∀{a b:List AO},uo a b->a.length=b.length
 | [],[],_=>rfl
 |_::_,_::_,h=>congrArg (· +1) (uo.length h.2)
 | [],_::_,h=>h.elim
 |_::_,[],h=>h.elim
theorem uo.get: ∀{a b:List AO},uo a b-> ∀(j:Nat) (q:AO),b[j]? =some q-> ∃p,a[j]? =some p∧fQ p q
 | [],[],_,j,q,h=>by simp at h
 |p::r,q0::s,hh,j,q,h=>by
  cases j with
  |zero=>simp at h;subst h;exact⟨p,rfl,hh.1⟩
  |succ j=>simpa using uo.get hh.2 j q (by simpa using h)
 | [],_::_,hh,_,_,_=>hh.elim
 |_::_,[],hh,_,_,_=>hh.elim
theorem Fn.QR{P:Program}{k:FuncId}{args:List PV}{os ps:List AO}{R:PV->AH->Nat->Prop}(h:Fn P k args os R)(b0:uo ps os):Fn P k args ps R:=by
 have a0:=b0.length;have hin: ∀i o,(fk 0 os).get i=some o-> ∃p,(fk 0 ps).get i=some p∧fQ p o:=by
  intro i o hi;rw[uZ,am (W3 _)]at hi ⊢;exact b0.get _ _ hi
 refine⟨h.1,fun M N w vs hr hl hv=>?_⟩;rw[a0]at hr hv ⊢;have c0:Rel M N (· <os.length) (fk 0 os) w:=by
  refine⟨hr.dF,fun i o hi=>?_,fun i o hi d0=>?_,fun i o hi=>?_,fun i j o p hi hj ho hp he=>?_⟩
  ·obtain⟨p,h1,h2⟩:=hin i o hi;exact hr.used i p h1
  ·obtain⟨p,h1,h2⟩:=hin i o hi;exact hr.eK i p h1 (h2.1 d0)
  ·obtain⟨p,h1,h2⟩:=hin i o hi;exact h2.2 _ _ _ _ _ (hr.obj i p h1)
  ·obtain⟨o',h1,h2⟩:=hin i o hi;obtain⟨p',h3,h4⟩:=hin j p hj;exact hr.inj i j o' p' h1 h3 (h2.1 ho) (h4.1 hp) he
 refine(h.2 M N w vs c0 hl hv).mono ?_;rintro e w' ⟨x,M',N',r,h',n',rfl,hR,hx,hrr,hvr⟩;refine⟨x,M',N',r,h',n',rfl,hR,⟨hx.os,hx.tape,hx.output,hx.size,fun b hb hn=>hx.jq b hb fun i o hi ho=>?_,hx.rF,fun b c h1 h2=>?_,hx.nm,hx.ule,fun i o hi ho=>?_⟩,hrr,hvr⟩
 ·obtain⟨p,h1,h2⟩:=hin i o hi;exact hn i p h1 (h2.1 ho)
 ·rcases hx.jM b c h1 h2 with h3|⟨i,o,h3,h4,h5⟩
  ·exact .inl h3
  ·obtain⟨p,g1,g2⟩:=hin i o h3;exact .inr ⟨i,p,g1,g2.1 h4,h5⟩
 ·rcases hx.iW i o hi ho with h3|⟨j,q,h3,h4,h5⟩
  ·exact .inl h3
  ·obtain⟨p,g1,g2⟩:=hin j q h3;exact .inr ⟨j,p,g1,g2.1 h4,h5⟩
theorem b8.QR{P:Program}{k:FuncId}{args:List PV}{os ps:List AO}{r:PV}{h:AH}{n:Nat}(hc:b8 P k args os r h n)(a0:uo ps os):b8 P k args ps r h n:=Fn.QR hc a0
theorem b8.le{P:Program}{k:FuncId}{aa args:List PV}{os:List AO}{r:PV}{h:AH}{n:Nat}(hc:b8 P k args os r h n)(a0:mF aa args):b8 P k aa os r h n:=Fn.le hc a0
theorem Pure.Vq{P:Program}{k:FuncId}{args:List PV}{r:PV}(h:Pure P k args r):b8 P k args [] r [] 0:=h
section
variable {P:Program} {ty:Ty} {nt:Nat} {Q:AQ} {k:List KI} {s:AS}
theorem Lj{o:Oper}{c:Call}{g:FuncId}{asv args:List PV}{os:List AO}{r:PV}{h':AH}{n':Nat}{s':AS}(L:List Nat)(hc:b8 P g args os r h' n')(ho:o.op= .call c)(ha:bK s.f c=some (g,asv))
  (hn:bN L=true) (hl:L.all (fun j=>Xi j s.nx)=true) (b0:L.map s.h.get=os.map fun o=>some (o.c7 (sig L s.nx))) (a0:asv=dS (sig L s.nx) args) (hp:putDst nt o (r.c7 (sig L s.nx)) (aM s L h' n')=some s'):
  OT P nt o s (fun t=>t=s'):=
 lv ho ha hc (dd hn) (fun j hj=>WR (Xm.1 hl j hj)) b0 a0 (by rintro q h0 n0 ⟨rfl,rfl,rfl⟩;exact⟨s',hp,rfl⟩)
theorem ja{all rest:List Oper}{o:Oper}{c:Call}{g:FuncId}{asv args:List PV}{os:List AO}{r:PV}{h':AH}{n':Nat}{s':AS}(L:List Nat)(hc:b8 P g args os r h' n')(ho:o.op= .call c)(hg:o.guard=none)(ha:bK s.f c=some (g,asv))
  (hn:bN L=true) (hl:L.all (fun j=>Xi j s.nx)=true) (b0:L.map s.h.get=os.map fun o=>some (o.c7 (sig L s.nx))) (a0:asv=dS (sig L s.nx) args) (hp:putDst nt o (r.c7 (sig L s.nx)) (aM s L h' n')=some s')
  (h:GO P nt (.ops all rest::k) Q s'):GO P nt (.ops all (o::rest)::k) Q s:=
 ep hg (Lj L hc ho ha hn hl b0 a0 hp) fun t ht=>by subst ht;exact h
theorem xR(c0:cz P ty){all:List Oper}{todo pend:List (Nat×Oper)}{j:Nat}{o:Oper}{s':AS}{CA C2:Prop}(hrd:ey todo=[(j,o)])(hg:cC nt all s.f o=some true)(hpb:iD all pend o=true)(hE:n8 todo [j]=true)
  (hag:qC ty nt all s todo pend=some CA) (hCA:CA) (d0:OT P nt o s (fun t=>t=s')) (hag2:dD ty nt all s' (bg pend o)=some C2) (hC2:C2)
  (h:GO P nt (.cJ all (todo.filter fun x=>!Xn x.1 j) (bg pend o)::k) Q s'):GO P nt (.cJ all todo pend::k) Q s:=by
 have b0:(j,o)∈ey todo:=by rw[hrd];simp
 obtain⟨h3,h4⟩:=Xs.1 b0;simp only[XF,XL,XO]at h4;have a0: ∀y∈todo,aU y.2=true-> ∀y∈pend,im P nt all s y.2:=by
  intro y hy e0;unfold qC at hag;split at hag
  ·exact dX c0 hag hCA
  ·rename_i h2;have:=XO.1 h2 y hy;rw[e0]at this;exact absurd Z this
 refine wJ hE ⟨_,h3,h4.1⟩ a0 fun j' o' hj _ hu=>?_;simp only[W5]at hj;subst hj;have:=hu o h3;subst this;exact⟨h4.1,fun y hy _=>by simpa using h4.2 y hy,hpb,hg,_,d0,fun t ht=>by subst ht;exact⟨dX c0 hag2 hC2,h⟩⟩
theorem tV(b0:cz P ty){all:List Oper}{todo pend:List (Nat×Oper)}{j:Nat}{o:Oper}{c:Call}{g:FuncId}{asv args:List PV}{os:List AO}{r:PV}{h':AH}{n':Nat}{s':AS}{CA C2:Prop}(L:List Nat)(hc:b8 P g args os r h' n')
  (hrd:ey todo=[(j,o)]) (ho:o.op= .call c) (ha:bK s.f c=some (g,asv))
  (hn:bN L=true) (hl:L.all (fun j=>Xi j s.nx)=true) (c0:L.map s.h.get=os.map fun o=>some (o.c7 (sig L s.nx))) (a0:asv=dS (sig L s.nx) args) (hp:putDst nt o (r.c7 (sig L s.nx)) (aM s L h' n')=some s')
  (hg:cC nt all s.f o=some true) (hpb:iD all pend o=true) (hE:n8 todo [j]=true)
  (hag:qC ty nt all s todo pend=some CA) (hCA:CA) (hag2:dD ty nt all s' (bg pend o)=some C2) (hC2:C2)
  (h:GO P nt (.cJ all (todo.filter fun x=>!Xn x.1 j) (bg pend o)::k) Q s'):GO P nt (.cJ all todo pend::k) Q s:=
 xR b0 hrd hg hpb hE hag hCA (Lj L hc ho ha hn hl c0 a0 hp) hag2 hC2 h
def Ei(ty:Ty)(l:List ResultVar)(m:Nat)(r:PV)(h:AH)(n:Nat):AQ:=Pv ty l m fun q h' n'=>q=r∧h'=h∧n'=n
theorem aE (d0:cz P ty) {g:FuncId} {fn:Func} {c:Code} (hf:P.funcs[g]? =some fn) (hb:fn.body=some c) (hn:(fn.name== "runtime.NumGoroutine")=false) (a0:fn.ntmps=nt)
  {l:List ResultVar} (hl:fn.results.toList=l) {args:List PV} (b0:args.length<=nt) {os:List AO} {r:PV} {h:AH} {n:Nat}
  (c0:GO P nt [.code c] (Ei ty l os.length r h n) ⟨qx 0 args,fk 0 os,os.length⟩):b8 P g args os r h n:=xW d0 hf hb hn a0 hl b0 c0
theorem aC{l:List ResultVar}{m:Nat}{r r0:PV}{h:AH}{n:Nat}{e:Exit}(L:List Nat)(he:e= .normal∨e= .ret)(hr:lS ty s l=some r0)(hw:Wk m L ⟨[(0,r0)],s.h,s.nx⟩ ⟨[(0,r)],h,n⟩):Ei ty l m r h n e s:=
 ⟨he,r0,hr, .done ⟨r,h,n,L,⟨rfl,rfl,rfl⟩,hw⟩⟩
end
theorem iz.map{h:AH}{n:Nat}{r:PV}{K:AH->PV->Prop}(i:Nat){kc:KC}{V:Type}{e:V->IV}{z:V}{zv:Value}{dv:PV->V}{m:List (kc.K×V)}(hi:h.get i=some (.map kc e z zv dv m))
  (hk:iz ((i,none)::h.gJ i (.fw kc e z zv m)) n (r.gJ i (.fw kc e z zv m)) K):iz h n r K:=by
 intro M N w hr;obtain⟨M1,h1,h2,_,h3⟩:=tZ hr hi;obtain⟨M2,h',r2,g1,g2,g3,g4⟩:=hk M1 N w h2;exact⟨M2,h',r2,h1.trans g1,g2,fun x hx=>g3 x (h3 _ _ hx),g4⟩
mutual
def PV.Io(i:Nat)(l:List IV):PV->PV
 | .iv x=> .iv x
 | .agg cs=> .agg (DA i l cs)
 | .bT cs=> .bT (DA i l cs)
 | .ptr j o=>bif Xn j i then .iv (.mf (l.drop o)) else .ptr j o
 | .sl j off len sz'=> .sl j off len sz'
 | .dC j a b c=> .dC j a b c
 | .fv z j=> .fv z j
 | .mp j=> .mp j
 | .dr fn a b=> .dr fn a b
 | .kb b=> .kb b
 | .any=> .any
def DA(i:Nat)(l:List IV):List PV->List PV
 | []=> []
 |p::r=>PV.Io i l p::DA i l r
end
theorem p3(i:Nat)(x:List IV): ∀l:List PV,DA i x l=l.map (PV.Io i x)
 | []=>rfl
 |p::r=>by simp[DA,p3 i x r]
theorem z6{M:Mem}{N:Nm}{n:Nat}{h:AH}{w:World}(hr:Rel M N (· <n) h w){i:Nat}{l:List IV}{cs:List PV}{T0:Option TypeId}(hi:h.get i=some (.cells cs T0))(g0:cs=l.map .iv):
  ∃M',Ext M N (· <n) h w M' N (· <n) ((i,none)::h) w∧Rel M' N (· <n) ((i,none)::h) w∧ ∀p x,VR M N (· <n) p x->VR M' N (· <n) (p.Io i l) x:=by
 subst g0;have f0:=hr.eK i _ hi Z;obtain⟨c,T,h1,h2,h3,h4,h5⟩:=hr.obj i _ hi
 let M':Mem:=M.set (N.aI i) (.cells c) f0
 have hM:M.le M':=fun b d hb=>by
  simp only[M',Mem.set];by_cases a0:b=N.aI i
  ·rw[a0,f0]at hb;cases hb
  ·rw[be a0];exact hb
 have hnew: ∀b d,M b=none->M' b=some d->b=N.aI i:=fun b d h1 h2=>by
  simp only[M',Mem.set]at h2;by_cases a0:b=N.aI i
  ·exact a0
  ·rw[be a0,h1]at h2;cases h2
 have b0: ∀o,M'.cell (N.aI i) o=c[o]? :=fun o=>by simp[Mem.cell,M',Mem.set]
 refine⟨M',?_,?_,fun p x hx=>?_⟩
 ·exact⟨rfl,rfl,rfl,W0 _,fun _ _ _=>rfl,hM,fun b d h1 h2=> .inr ⟨i,_,hi,rfl,(hnew b d h1 h2).symm⟩, .refl _ _,fun _ h=>h,fun j o hj i0=> .inr ⟨j,o,(bz j o hj).2,i0,rfl⟩⟩
 ·refine⟨fun b d hb=>?_,fun j o hj=>hr.used j o (bz j o hj).2,fun j o hj c0=>?_,fun j o hj=>?_,fun j k o p hj hk=>hr.inj j k o p (bz j o hj).2 (bz k p hk).2⟩
  ·simp only[M',Mem.set]at hb;by_cases a0:b=N.aI i
   ·rw[am a0]at hb;cases hb;exact⟨T,(0,0),by rw[a0];exact h1⟩
   ·rw[be a0]at hb;exact hr.dF b d hb
  ·obtain⟨g1,g2⟩:=bz j o hj;simp only[M',Mem.set];rw[be fun e=>g1 (hr.inj j i o _ g2 hi c0 Z e)];exact hr.eK j o g2 c0
  ·obtain⟨g1,g2⟩:=bz j o hj;exact(hr.obj j o g2).mono hM (.refl _ _) (fun _ h=>h) (hr.used j o g2) Z
 ·induction hx with
  |iv x y h=>exact .iv _ _ (h.mono hM)
  |agg cs ys hl _ ih=>
   refine .agg _ _ (by simpa[p3]using hl) fun j q hq=>?_;rw[p3,W1,W6]at hq;obtain⟨q0,d0,rfl⟩:=hq
   exact ih j q0 d0
  |bT cs ys hl _ ih=>
   refine .bT _ _ (by simpa[p3]using hl) fun j q hq=>?_;rw[p3,W1,W6]at hq;obtain⟨q0,d0,rfl⟩:=hq
   exact ih j q0 d0
  |ptr j off h=>
   simp only[PV.Io];cases hb:Xn j i with
   |true=>
    have hj:=Xh hb;subst hj;have e0:l.length=c.size:=by simpa using h3
    refine .iv _ _ (.mf _ _ _ (fun k hk=>?_) fun k q hq=>?_)
    ·rw[List.length_drop]at hk;rw[b0];simp[show off+k<c.size by omega]
    ·rw[Yc]at hq;have hlt:off+k<c.size:=by rw[<-e0];exact(WX.1 hq).1
     have:=h4 (off+k) (.iv q) (by rw[W1,hq];rfl);rw[b0];rw[WT]at this;cases this with
     |iv _ _ h=>exact h.mono hM
   |false=>exact .ptr _ _ h
  |dC i sz k off h=>exact .dC _ _ _ _ h
  |fv z i h=>exact .fv _ _ h
  |sl j off len sz' cap h h0 hl hc he=>exact .sl _ _ _ _ _ h h0 hl hc he
  |ph j sz' h=>exact .ph _ _ h
  |sle j sz' cap h hc he=>exact .sle _ _ _ h hc he
  |mp j h=>exact .mp _ h
  |dr fn first caps f' c' h1 h2 hr1 hr2 _ _=>exact .dr _ _ _ _ _ h1 h2 (fun j p hj=>(hr1 j p hj).mono hM (.refl _ _) (fun _ h=>h)) (fun j p hj=>(hr2 j p hj).mono hM (.refl _ _) (fun _ h=>h))
  |kb b=>exact .kb _
  |any x=>exact .any _
theorem iz.cells{h:AH}{n:Nat}{r:PV}{K:AH->PV->Prop}(i:Nat)(l:List IV){cs:List PV}{T0:Option TypeId}(hi:h.get i=some (.cells cs T0))(a0:cs=l.map .iv)(hk:iz ((i,none)::h) n (r.Io i l) K):iz h n r K:=by
 intro M N w hr;obtain⟨M1,h1,h2,h3⟩:=z6 hr hi a0;obtain⟨M2,h',r2,g1,g2,g3,g4⟩:=hk M1 N w h2;exact⟨M2,h',r2,h1.trans g1,g2,fun x hx=>g3 x (h3 _ _ hx),g4⟩
theorem jH{ty:Ty}{l:List ResultVar}{r r0:PV}{e:Exit}{s:AS}(he:e= .normal∨e= .ret)(h:lS ty s l=some r0)(hk:iz s.h s.nx r0 fun _ r2=>aH r2 r):FE ty l r e s:=⟨he,r0,h,hk⟩
section
variable {P:Program} {ty:Ty} {nt:Nat} {Q:AQ} {k:List KI} {s:AS}
theorem Dv{all rest:List Oper}{o:Oper}{c:Call}{g:FuncId}{asv args:List PV}{os:List AO}{R:PV->AH->Nat->Prop}(L:List Nat)(hc:Fn P g args os R)(ho:o.op= .call c)(hg:o.guard=none)(ha:bK s.f c=some (g,asv))
  (hn:bN L=true) (hl:L.all (fun j=>Xi j s.nx)=true) (b0:L.map s.h.get=os.map fun o=>some (o.c7 (sig L s.nx))) (a0:asv=dS (sig L s.nx) args)
  (h: ∀r h' n',R r h' n'-> ∃s',putDst nt o (r.c7 (sig L s.nx)) (aM s L h' n')=some s'∧GO P nt (.ops all rest::k) Q s'):GO P nt (.ops all (o::rest)::k) Q s:=
 ep (R:=fun t=>GO P nt (.ops all rest::k) Q t) hg (lv ho ha hc (dd hn) (fun j hj=>WR (Xm.1 hl j hj)) b0 a0 h) fun t ht=>ht
theorem GV{R:PV->AH->Nat->Prop}{l:List ResultVar}{m:Nat}{r r0:PV}{h:AH}{n:Nat}{e:Exit}(L:List Nat)(he:e= .normal∨e= .ret)(hr:lS ty s l=some r0)(hR:R r h n)(hw:Wk m L ⟨[(0,r0)],s.h,s.nx⟩ ⟨[(0,r)],h,n⟩):Pv ty l m R e s:=
 ⟨he,r0,hr, .done ⟨r,h,n,L,hR,hw⟩⟩
end
theorem kB{P:Program}{nt:Nat}{Q:AQ}{k:List KI}{s:AS}{c:Code}(i j sz:Nat){cs:List PV}{T0:Option TypeId}(hi:s.h.get i=some (.cells cs T0))(hj:cs[j]? =some (.iv (.v (.slice none 0 0))))
  (h:GO P nt (.code c::k) Q ⟨s.f,(i,some (.cells (cs.set j (.sl s.nx 0 0 sz)) T0))::(s.nx,some (.row sz []))::s.h,s.nx+1⟩):GO P nt (.code c::k) Q s:=by
 intro M N a w hf;obtain⟨sf,sh,sn⟩:=s;obtain⟨h1,h2⟩:=hf.1.Me sz;have hne:i≠sn:=fun e=>by have:=hf.1.used i _ hi;simp only at this;omega
 have a0:AH.get ((sn,some (AO.row sz []))::sh) i=some (.cells cs T0):=by
  rw[AH.au,be hne];exact hi
 obtain⟨c0,T,e1,e2,e3,e4,e5⟩:=h2.obj i _ a0
 obtain⟨g1,g2⟩:=h2.write (i:=i) (o0:= .cells cs T0) a0 Z w (.cells (cs.set j (.sl sn 0 0 sz)) T0) Z Z Z Z (fun _ _=>rfl) ⟨c0,T,e1,e2,by rw[YM];exact e3,fun k p hp=>by
  rw[XK]at hp;split at hp
  ·rename_i hk;subst hk;split at hp
   ·cases hp;have:=e4 j _ hj;generalize c0.getD j undef=v at this ⊢;cases this with
    |iv _ _ h=>cases h with
     |v=>exact .ph _ _ (YC _)
   ·cases hp
  ·exact e4 k p hp,e5⟩
 have f0:Fits M N ⟨sf,(i,some (.cells (cs.set j (.sl sn 0 0 sz)) T0))::(sn,some (.row sz []))::sh,sn+1⟩ nt a w:=
  ⟨g2,fun k=>(hf.2.1 k).mono (.refl _) (.refl _ _) (fun i hi=>YS hi),hf.2.2⟩
 exact AW.then h f0 fun e a2 w2 M2 N2 s2 b0 e0 d0=>⟨M2,N2,s2,(h1.trans g1).trans b0,e0,d0⟩
theorem iz.v7{h:AH}{n:Nat}{r:PV}{K:AH->PV->Prop}{α:Type}[Inhabited α](i:Nat){sz:Nat}{es:List (List PV)}(L:List α)(f:α->List IV)(hi:h.get i=some (.row sz es))(hes:es=L.map fun x=>(f x).map .iv)
  (hin:r.bH i sz L.length) (hk:iz ((i,none)::h) n (r.dF i sz fun k=>f (L.getD k default)) K):iz h n r K:=
 .row i (fun k=>f (L.getD k default)) hi (cX hes) (by subst hes;simpa using hin) hk
def AO.iu(i sz:Nat)(el:Nat->List IV):AO->AO
 | .cells cs T=> .cells (nY i sz el cs) T
 |o=>o
def AO.rD(i sz n:Nat):AO->Prop
 | .cells cs _=>dw i sz n cs
 | .row _ es=> ∀(k:Nat) (e:List PV) (j:Nat) (p:PV),es[k]? =some e->e[j]? =some p-> ∃y,p= .iv y
 |_=>True
def AH.iu(i sz:Nat)(el:Nat->List IV):AH->AH
 | []=> []
 |(k,none)::r=>(k,none)::AH.iu i sz el r
 |(k,some o)::r=>(k,some (o.iu i sz el))::AH.iu i sz el r
def AH.rD(i sz n:Nat):AH->Prop
 | []=>True
 |(_,none)::r=>AH.rD i sz n r
 |(_,some o)::r=>o.rD i sz n∧AH.rD i sz n r
def AF.iu(i sz:Nat)(el:Nat->List IV):AF->AF
 | []=> []
 |(d,p)::r=>(d,p.dF i sz el)::AF.iu i sz el r
def AF.rD(i sz n:Nat):AF->Prop
 | []=>True
 |(_,p)::r=>p.bH i sz n∧AF.rD i sz n r
theorem AH.mq(i sz:Nat)(el:Nat->List IV): ∀(h:AH) (j:Nat),(AH.iu i sz el h).get j=(h.get j).map (AO.iu i sz el)
 | [],_=>rfl
 |(k,none)::r,j=>by
  simp only[AH.iu,AH.au,AH.mq i sz el r j];split<;>rfl
 |(k,some o)::r,j=>by
  simp only[AH.iu,AH.au,AH.mq i sz el r j];split<;>rfl
theorem AH.oA{i sz n:Nat}: ∀{h:AH} (_:h.rD i sz n) (j:Nat) (o:AO),h.get j=some o->o.rD i sz n
 | [],_,j,o,ho=>nomatch ho
 |(k,none)::r,hh,j,o,ho=>by
  rw[AH.au]at ho;split at ho
  ·cases ho
  ·exact AH.oA (h:=r) hh j o ho
 |(k,some q)::r,hh,j,o,ho=>by
  rw[AH.au]at ho;split at ho
  ·cases ho;exact hh.1
  ·exact AH.oA (h:=r) hh.2 j o ho
theorem AF.mq(i sz:Nat)(el:Nat->List IV): ∀(f:AF) (d:Nat),(AF.iu i sz el f).get d=(f.get d).dF i sz el
 | [],_=>rfl
 |(k,p)::r,d=>by
  simp only[AF.iu,AF.au,AF.mq i sz el r d];split<;>rfl
theorem AF.oA{i sz n:Nat}: ∀{f:AF} (_:f.rD i sz n) (d:Nat),(f.get d).bH i sz n
 | [],_,d=>trivial
 |(k,p)::r,h,d=>by
  rw[AF.au];split
  ·exact h.1
  ·exact AF.oA (f:=r) h.2 d
theorem AO.u7(i sz:Nat)(el:Nat->List IV)(o:AO):(o.iu i sz el).real=o.real:=by
 cases o<;>rfl
theorem BA{P:Program}{nt:Nat}{Q:AQ}{k:List KI}{s:AS}{c:Code}(i:Nat){sz:Nat}{es:List (List PV)}(el:Nat->List IV)(hi:s.h.get i=some (.row sz es))(f0: ∀k e,es[k]? =some e->e=(el k).map .iv)
  (hf:s.f.rD i sz es.length) (hh:s.h.rD i sz es.length) (h:GO P nt (.code c::k) Q ⟨s.f.iu i sz el,(i,none)::s.h.iu i sz el,s.nx⟩):GO P nt (.code c::k) Q s:=by
 intro M N a w a0;obtain⟨M',h1,h2,h4⟩:=wK a0.1 hi f0;have hM:M.le M':=h1.rF;have hg: ∀j o,AH.get ((i,none)::s.h.iu i sz el) j=some o-> ∃p,AH.get ((i,none)::s.h) j=some p∧s.h.get j=some p∧o=p.iu i sz el:=by
  intro j o hj;obtain⟨g1,g2⟩:=bz j o hj;rw[AH.mq,W6]at g2;obtain⟨p,g3,g4⟩:=g2;exact⟨p,by rw[AH.au,be g1];exact g3,g3,g4.symm⟩
 have hE:Ext M N (· <s.nx) s.h w M' N (· <s.nx) ((i,none)::s.h.iu i sz el) w:=⟨h1.os,h1.tape,h1.output,h1.size,h1.jq,h1.rF,h1.jM,h1.nm,h1.ule,fun j o hj b0=>by
  obtain⟨p,g1,_,rfl⟩:=hg j o hj;rw[AO.u7]at b0
  exact h1.iW j p g1 b0⟩
 have hR:Rel M' N (· <s.nx) ((i,none)::s.h.iu i sz el) w:=by
  refine⟨h2.dF,fun j o hj=>?_,fun j o hj b0=>?_,fun j o hj=>?_,fun j k o p hj hk ho hp=>?_⟩
  ·obtain⟨p,g1,_,rfl⟩:=hg j o hj;exact h2.used j p g1
  ·obtain⟨p,g1,_,rfl⟩:=hg j o hj;rw[AO.u7]at b0;exact h2.eK j p g1 b0
  ·obtain⟨p,g1,g2,rfl⟩:=hg j o hj;cases p with
   |cells cs T0=>
    obtain⟨c,T,q1,q2,q3,q4,q5⟩:=a0.1.obj j _ g2;have i0:=AH.oA hh j _ g2;refine⟨c,T,q1,q2,by simpa[fE]using q3,fun k q hq=>?_,q5⟩;rw[fE,W1,W6]at hq;obtain⟨q0,c0,rfl⟩:=hq;exact h4 _ _ (q4 k q0 c0) (gE i0 k q0 c0)
   |row=>exact h2.obj j _ g1
   |bG=>exact h2.obj j _ g1
   |fY=>exact h2.obj j _ g1
   |map=>exact h2.obj j _ g1
   |bS=>exact h2.obj j _ g1
   |eJ=>exact h2.obj j _ g1
  ·obtain⟨o',g1,_,rfl⟩:=hg j o hj;obtain⟨p',g2,_,rfl⟩:=hg k p hk;rw[AO.u7]at ho hp;exact h2.inj j k o' p' g1 g2 ho hp
 have g0:Fits M' N ⟨s.f.iu i sz el,(i,none)::s.h.iu i sz el,s.nx⟩ nt a w:=⟨hR,fun d=>by
  rw[AF.mq];exact h4 _ _ (a0.2.1 d) (AF.oA hf d),a0.2.2⟩
 exact AW.then h g0 fun e a2 w2 M2 N2 s2 d0 j0 e0=>⟨M2,N2,s2,hE.trans d0,j0,e0⟩
def AO.gH(i sz:Nat)(el:Nat->List IV):AO->AO
 | .cells cs T=> .cells (nY i sz el cs) T
 | .row s es=> .row s (es.map (nY i sz el))
 |o=>o
def AO.uQ(i sz n:Nat):AO->Prop
 | .cells cs _=>dw i sz n cs
 | .row _ es=> ∀e∈es,dw i sz n e
 |_=>True
def AH.gH(i sz:Nat)(el:Nat->List IV):AH->AH
 | []=> []
 |(k,none)::r=>(k,none)::AH.gH i sz el r
 |(k,some o)::r=>(k,some (o.gH i sz el))::AH.gH i sz el r
def AH.uQ(i sz n:Nat):AH->Prop
 | []=>True
 |(_,none)::r=>AH.uQ i sz n r
 |(_,some o)::r=>o.uQ i sz n∧AH.uQ i sz n r
theorem AH.j8(i sz:Nat)(el:Nat->List IV): ∀(h:AH) (j:Nat),(AH.gH i sz el h).get j=(h.get j).map (AO.gH i sz el)
 | [],_=>rfl
 |(k,none)::r,j=>by
  simp only[AH.gH,AH.au,AH.j8 i sz el r j];split<;>rfl
 |(k,some o)::r,j=>by
  simp only[AH.gH,AH.au,AH.j8 i sz el r j];split<;>rfl
theorem AH.nQ{i sz n:Nat}: ∀{h:AH} (_:h.uQ i sz n) (j:Nat) (o:AO),h.get j=some o->o.uQ i sz n
 | [],_,j,o,ho=>nomatch ho
 |(k,none)::r,hh,j,o,ho=>by
  rw[AH.au]at ho;split at ho
  ·cases ho
  ·exact AH.nQ (h:=r) hh j o ho
 |(k,some q)::r,hh,j,o,ho=>by
  rw[AH.au]at ho;split at ho
  ·cases ho;exact hh.1
  ·exact AH.nQ (h:=r) hh.2 j o ho
theorem AO.mr(i sz:Nat)(el:Nat->List IV)(o:AO):(o.gH i sz el).real=o.real:=by
 cases o with
 |row s es=>cases es<;>rfl
 |_=>rfl
theorem uM{M:Mem}{N:Nm}{n:Nat}{h:AH}{w:World}(hr:Rel M N (· <n) h w)(i:Nat){sz:Nat}{es:List (List PV)}(el:Nat->List IV)(hi:h.get i=some (.row sz es))(g0: ∀k e,es[k]? =some e->e=(el k).map .iv)
  (hh:h.uQ i sz es.length): ∃M',M.le M'∧Rel M' N (· <n) ((i,none)::h.gH i sz el) w∧ ∀p x,VR M N (· <n) p x->p.bH i sz es.length->VR M' N (· <n) (p.dF i sz el) x:=by
 obtain⟨M',h1,h2,h4⟩:=wK hr hi g0;refine⟨M',h1.rF,?_,h4⟩;have hg: ∀j o,AH.get ((i,none)::h.gH i sz el) j=some o-> ∃p,AH.get ((i,none)::h) j=some p∧h.get j=some p∧o=p.gH i sz el:=by
  intro j o hj;obtain⟨g1,g2⟩:=bz j o hj;rw[AH.j8,W6]at g2;obtain⟨p,g3,g4⟩:=g2;exact⟨p,by rw[AH.au,be g1];exact g3,g3,g4.symm⟩
 refine⟨h2.dF,fun j o hj=>?_,fun j o hj f0=>?_,fun j o hj=>?_,fun j k o p hj hk ho hp=>?_⟩
 ·obtain⟨p,g1,_,rfl⟩:=hg j o hj;exact h2.used j p g1
 ·obtain⟨p,g1,_,rfl⟩:=hg j o hj;rw[AO.mr]at f0;exact h2.eK j p g1 f0
 ·obtain⟨p,g1,g2,rfl⟩:=hg j o hj;cases p with
  |cells cs T0=>
   obtain⟨c,T,q1,q2,q3,q4,q5⟩:=hr.obj j _ g2;have b0:=AH.nQ hh j _ g2;refine⟨c,T,q1,q2,by simpa[fE]using q3,fun k q hq=>?_,q5⟩;rw[fE,W1,W6]at hq;obtain⟨q0,c0,rfl⟩:=hq;exact h4 _ _ (q4 k q0 c0) (gE b0 k q0 c0)
  |row s2 es2=>
   have b0:=AH.nQ hh j _ g2;rcases hr.obj j _ g2 with rfl|⟨q0,c,T,q1,q2,q3,q4,q5⟩
   ·exact .inl Z
   ·refine .inr ⟨q0,c,T,q1,q2,by simpa using q3,fun k e he=>?_,fun k e j2 p he hp=>?_⟩
    ·rw[W1,W6]at he;obtain⟨e0,a0,rfl⟩:=he;rw[fE,Xr];exact q4 k e0 a0
    ·rw[W1,W6]at he;obtain⟨e0,a0,rfl⟩:=he;rw[fE,W1,W6]at hp;obtain⟨p0,d0,rfl⟩:=hp;exact h4 _ _ (q5 k e0 j2 p0 a0 d0) (gE (b0 e0 (Xo a0)) j2 p0 d0)
  |bG=>exact h2.obj j _ g1
  |fY=>exact h2.obj j _ g1
  |map=>exact h2.obj j _ g1
  |bS=>exact h2.obj j _ g1
  |eJ=>exact h2.obj j _ g1
 ·obtain⟨o',g1,_,rfl⟩:=hg j o hj;obtain⟨p',g2,_,rfl⟩:=hg k p hk;rw[AO.mr]at ho hp;exact h2.inj j k o' p' g1 g2 ho hp
def R1:List Code->Code->Code
 | [],r=>r
 |c::l,r=> .seq c (R1 l r)
def AN:Nat->Code->List Code
 |n+1, .seq a b=>a::AN n b
 |_,_=> []
def wM:Nat->Code->Code
 |n+1, .seq _ b=>wM n b
 |_,c=>c
theorem Gu{P:Program}{nt:Nat}{R:AQ}: ∀{l:List Code} {e:Exit} {s:AS},e≠ .normal->kp P nt (l.map KI.code) R e s->R e s
 | [],_,_,_,h=>h
 |c::l,e,s,he,h=>by
  cases e with
  |normal=>exact absurd Z he
  |_=>exact Gu (l:=l) he h
mutual
def DZ:PV->Bool
 | .iv (.v _)=>true
 | .iv _=>false
 | .agg cs=>vP cs
 | .bT cs=>vP cs
 | .dr _ _ _=>false
 |_=>true
def vP:List PV->Bool
 | []=>true
 |p::r=>DZ p&&vP r
end
theorem lH: ∀{l:List PV},vP l=true-> ∀(j:Nat) (p:PV),l[j]? =some p->DZ p=true
 | [],_,j,p,h=>by simp at h
 |c::l,hh,j,p,h=>by
  simp only[vP,Xg]at hh;cases j with
  |zero=>simp at h;subst h;exact hh.1
  |succ j=>exact lH hh.2 j p (by simpa using h)
theorem ui{M M':Mem}{N:Nm}{U:Nat->Prop}{p:PV}{x:Value}(h:VR M N U p x):DZ p=true->VR M' N U p x:=by
 induction h with
 |iv x y h=>
  intro hb;cases h with
  |v=>exact .iv _ _ (.v _)
  |_=>cases hb
 |agg cs ys hl hr ih=>exact fun hb=> .agg _ _ hl fun j p hj=>ih j p hj (lH hb j p hj)
 |bT cs ys hl hr ih=>exact fun hb=> .bT _ _ hl fun j p hj=>ih j p hj (lH hb j p hj)
 |ptr i off h=>exact fun _=> .ptr _ _ h
 |dC i sz k off h=>exact fun _=> .dC _ _ _ _ h
 |fv z i h=>exact fun _=> .fv _ _ h
 |sl i off len sz cap h h0 hl hc he=>exact fun _=> .sl _ _ _ _ _ h h0 hl hc he
 |ph i sz h=>exact fun _=> .ph _ _ h
 |sle i sz cap h hc he=>exact fun _=> .sle _ _ _ h hc he
 |mp i h=>exact fun _=> .mp _ h
 |dr=>intro hb;cases hb
 |kb b=>exact fun _=> .kb _
 |any=>exact fun _=> .any _
def LJ:AO->Prop
 | .row _ es=> ∀e∈es,vP e=true
 | .cells cs _=>vP cs=true
 |_=>False
theorem LI{M M':Mem}{N:Nm}{U:Nat->Prop}{w:World}{i:Nat}{o:AO}(hb:LJ o)(h:OR M N U w i o):OR M' N U w i o:=by
 cases o with
 |row sz es=>
  rcases h with h|⟨h0,c,T,h1,h2,h3,h4,h5⟩
  ·exact .inl h
  ·exact .inr ⟨h0,c,T,h1,h2,h3,h4,fun k e j p he hp=>ui (h5 k e j p he hp) (lH (hb e (Xo he)) j p hp)⟩
 |cells cs T0=>
  obtain⟨c,T,h1,h2,h3,h4,h5⟩:=h;exact⟨c,T,h1,h2,h3,fun j p hp=>ui (h4 j p hp) (lH hb j p hp),h5⟩
 |_=>exact hb.elim
section
variable {P:Program} {nt:Nat} {Q:AQ} {k:List KI} {s:AS}
theorem LH{o:Oper}{c:Call}{g:FuncId}{asv args:List PV}(ho:o.op= .call c)(ha:bK s.f c=some (g,asv)){r:PV}{h':AH}{n':Nat}(hc:b8 P g args [] r h' n')
  (m0:args.length=asv.length) (hlow:bs 0 args=true)
  (s0: ∀M N w,Rel M N (· <s.nx) s.h w-> ∃M1:Mem,M.le M1∧Rel M1 N (· <s.nx) [] w∧ ∀(j:Nat) (p:PV) (x:Value),args[j]? =some p->(∀q,asv[j]? =some q->VR M N (· <s.nx) q x)->VR M1 N (· <s.nx) p x)
  (r0:DZ (r.c7 (sig [] s.nx))=true) (q0: ∀j o,(sv (sig [] s.nx) h').get j=some o->LJ o)
  {s':AS} (hp:putDst nt o (r.c7 (sig [] s.nx)) (aM s [] h' n')=some s'):OT P nt o s (fun t=>t=s'):=by
 intro M N a w hf K Z hk;obtain⟨vs,i0,hl,hv⟩:=DG hf ho ha hc.1;unfold Oper.wp;rw[i0];simp only[Oper.upon];obtain⟨M1,t0,n0,p0⟩:=s0 M N w hf.1
 have e0:=Fn.calls (s:=⟨s.f,[],s.nx⟩) (L:=[]) hc XT (by simp) rfl (M:=M1) (N:=N) (w:=w) n0 (vs:=vs) (by omega) (fun j p hj=>by
  rw[PV.ju _ _ (gQ hlow j p hj)]
  exact p0 j p _ hj fun q hq=>hv j q hq)
 refine e0.mono ?_;rintro e w' ⟨x,M',N',r',h2,n2,rfl,⟨rfl,rfl,rfl⟩,hx,hr,hvr⟩;have hag:N.agree N' (· <s.nx):=hx.nm;have d0: ∀i,i<s.nx->i<s.nx+(n2-0):=fun i hi=>hx.ule i hi;have c0: ∀b,b<w.heap.size->w'.heap[b]? =w.heap[b]? :=fun b hb=>hx.jq b hb fun i o hi=>(nomatch hi)
 have o0:(aM ⟨s.f,[],s.nx⟩ [] h2 n2).h=sv (sig [] s.nx) h2:=by simp[aM,DI]
 have a0: ∀j o,(aM s [] h2 n2).h.get j=some o->(sv (sig [] s.nx) h2).get j=some o∨s.h.get j=some o:=by
  intro j o hj;simp only[aM,DI,Y5]at hj;rw[AH.get_append]at hj;split at hj
  ·exact .inl hj
  ·exact .inr hj
 rw[o0]at hr hx;have hnew: ∀j o,(sv (sig [] s.nx) h2).get j=some o->o.real=true->w.heap.size<=N'.aI j:=by
  intro j o hj b0;rcases hx.iW j o hj b0 with h|⟨i,p,hi,_⟩
  ·exact h
  ·exact nomatch hi
 have hR:Rel M N' (· <s.nx+(n2-0)) (aM s [] h2 n2).h w':=by
  refine⟨fun b d hb=>(hf.1.dF b d hb).mono (c0 b (hf.1.dF b d hb).lt),fun j o hj=>?_,fun j o hj b0=>?_,fun j o hj=>?_,fun i j o p hi hj g0 f0 e=>?_⟩
  ·rcases a0 j o hj with h|h
   ·exact hr.used j o h
   ·exact d0 j (hf.1.used j o h)
  ·rcases a0 j o hj with h|h
   ·have:=hnew j o h b0;cases hm:M (N'.aI j) with
    |none=>rfl
    |some d=>have:=(hf.1.dF _ d hm).lt;omega
   ·rw[hag.aI j (hf.1.used j o h)];exact hf.1.eK j o h b0
  ·rcases a0 j o hj with h|h
   ·exact LI (q0 j o h) (hr.obj j o h)
   ·cases b0:o.real with
    |true=>exact(hf.1.obj j o h).mono (.refl _) hag d0 (hf.1.used j o h) (c0 _ ((hf.1.obj j o h).lt b0))
    |false=>
     cases o with
     |row sz es=>cases es with
      |nil=>exact .inl rfl
      |cons=>cases b0
     |bG l T=>cases l with
      |nil=>exact .inl rfl
      |cons=>cases b0
     |_=>cases b0
  ·rcases a0 i o hi with h1|h1<;>rcases a0 j p hj with h2'|h2'
   ·exact hr.inj i j o p h1 h2' g0 f0 e
   ·have:=hnew i o h1 g0;rw[e,hag.aI j (hf.1.used j p h2')]at this;have:=(hf.1.obj j p h2').lt f0;omega
   ·have:=hnew j p h2' f0;rw[<-e,hag.aI i (hf.1.used i o h1)]at this;have:=(hf.1.obj i o h1).lt g0;omega
   ·rw[hag.aI i (hf.1.used i o h1),hag.aI j (hf.1.used j p h2')]at e;exact hf.1.inj i j o p h1 h2' g0 f0 e
 have hX:Ext M N (· <s.nx) s.h w M N' (· <s.nx+(n2-0)) (aM s [] h2 n2).h w':=
  ⟨hx.os,hx.tape,hx.output,hx.size,fun b hb _=>c0 b hb, .refl _,fun b d g1 g2=>absurd (g1.symm.trans g2) (by simp),hag,d0,fun j o hj b0=>by
   rcases a0 j o hj with h|h
   ·exact .inl (hnew j o h b0)
   ·exact .inr ⟨j,o,h,b0,(hag.aI j (hf.1.used j o h)).symm⟩⟩
 have k0:Fits M N' (aM s [] h2 n2) nt a w':=⟨hR,hf.2.1.ext hX,hf.2.2⟩
 have j0:VR M N' (· <(aM s [] h2 n2).nx) (r'.c7 (sig [] s.nx)) x:=ui hvr r0;show K (a.put o.dst x) w';cases hd:o.dst with
 |none=>
  have:=gv hp hd;subst this;exact hk M N' _ _ w' hX k0 rfl
 |some d=>
  obtain⟨h1,rfl⟩:=gu hp hd;exact hk M N' {aM s [] h2 n2 with f:=(d,r'.c7 (sig [] s.nx))::(aM s [] h2 n2).f} _ w' hX (k0.put d _ x h1 j0) rfl
theorem KZ{all rest:List Oper}{o:Oper}{c:Call}{g:FuncId}{asv args:List PV}{r:PV}{h':AH}{n':Nat}{s':AS}(hc:b8 P g args [] r h' n')(ho:o.op= .call c)(hg:o.guard=none)(ha:bK s.f c=some (g,asv))
  (a0:args.length=asv.length) (hlow:bs 0 args=true)
  (c0: ∀M N w,Rel M N (· <s.nx) s.h w-> ∃M1:Mem,M.le M1∧Rel M1 N (· <s.nx) [] w∧ ∀(j:Nat) (p:PV) (x:Value),args[j]? =some p->(∀q,asv[j]? =some q->VR M N (· <s.nx) q x)->VR M1 N (· <s.nx) p x)
  (d0:DZ (r.c7 (sig [] s.nx))=true) (b0: ∀j o,(sv (sig [] s.nx) h').get j=some o->LJ o) (hp:putDst nt o (r.c7 (sig [] s.nx)) (aM s [] h' n')=some s')
  (h:GO P nt (.ops all rest::k) Q s'):GO P nt (.ops all (o::rest)::k) Q s:=
 ep hg (LH ho ha hc a0 hlow c0 d0 b0 hp) fun t ht=>by subst ht;exact h
end
section
variable {P:Program} {ty:Ty} {nt:Nat} {Q:AQ} {k:List KI} {s:AS}
theorem Cd(q0:cz P ty){o:Oper}{t:TypeId}{a x:Operand}(ho:o.op= .store t a x)(hd:o.dst=none){e:cI}(he:ty t=some e)(p0:e.size=1){i sz q off:Nat}{es:List (List PV)}{row:List PV}{v:PV}
  (ha:ev s.f a= .dC i sz q off) (hi:s.h.get i=some (.row sz es)) (hq:es[q]? =some row) (f0:Xi off sz=true) (hx:ev s.f x=v) (v0:v.cells=some [v]) (e0:v.one=true):
  OT P nt o s (fun u=>u=⟨s.f,(i,some (.row sz (es.set q (row.set off v))))::s.h,s.nx⟩):=by
 have hp:putDst nt o .any ⟨s.f,(i,some (.row sz (es.set q (row.set off v))))::s.h,s.nx⟩=some ⟨s.f,(i,some (.row sz (es.set q (row.set off v))))::s.h,s.nx⟩:=by simp only[putDst,hd]
 refine OT.skip hp fun M N b w hf=>?_;have hu:=bf hf.2.1 a;have hy:=bf hf.2.1 x;rw[ha]at hu;rw[hx]at hy;have k0:off<sz:=WR f0;generalize o0:b.eval a=u at hu;generalize r0:b.eval x=y at hy
 have key: ∃w',(Instr.storeAt t u y).run P w= .ok () w'∧Ext M N (· <s.nx) s.h w M N (· <s.nx) ((i,some (.row sz (es.set q (row.set off v))))::s.h) w'∧Fits M N ⟨s.f,(i,some (.row sz (es.set q (row.set off v))))::s.h,s.nx⟩ nt b w':=by
  cases hu with
  |dC _ _ _ _ hU=>
   obtain⟨hl,hv⟩:=qs hy v0;obtain⟨y0,a0⟩: ∃y0,y.cells= #[y0]:=by
    have:y.cells.size=1:=by simpa using hl.symm
    exact Array.size_eq_one_iff.1 this
   rcases hf.1.obj i _ hi with h0|⟨h0,c,T,g1,g2,g3,g4,g5⟩
   ·rw[h0]at hq;cases hq
   have t0:q<es.length:=(WX.1 hq).1;have hrl:=g4 q row hq;have i0:(q+1)*sz<=es.length*sz:=Xw _ t0;have w0:q*sz+off+1<=c.size:=by rw[Y7]at i0;omega
   have d0: ∀z∈y.cells.toList,z.oneCell'=true:=by
    intro z hz;rw[a0]at hz;simp only[W5]at hz;have:=(hv 0 v Z).one e0;rw[a0]at this;subst hz;exact this
   have c0:=run_storeCells_at P (N.aI i) (q*sz+off) T y.cells.toList 0 c w g1 (by simp[a0];omega) d0;have hC:(c.toList.take (q*sz+off+0)++y.cells.toList++c.toList.drop (q*sz+off+0+y.cells.toList.length))=c.toList.set (q*sz+off) y0:=by
    rw[List.set_eq_take_append_cons_drop,am (by simp;omega),a0];simp
   rw[hC]at c0;refine⟨w.setRow (N.aI i) (c.toList.set (q*sz+off) y0).toArray,?_,?_⟩
   ·have b0:=ct (w:=w) (q0 t e he);have s0:y.cells.size=e.size:=by rw[a0,p0];rfl
    simp only[Instr.storeAt,Instr.sureAddr,pure_bind,storeVar,Sem.run_bind,b0,Result.andThen_ok,s0,ne_eq,not_true_eq_false,if_false,c0]
   ·have j0:=setRow_heap w (N.aI i) c (c.toList.set (q*sz+off) y0).toArray T (0,0) g1;have hne: ∀b,b≠N.aI i->(w.setRow (N.aI i) (c.toList.set (q*sz+off) y0).toArray).heap[b]? =w.heap[b]? :=by
     intro b hb;simp only[World.setRow,XR];rw[be (fun e=>hb e.symm)]
    have n0:(AO.row sz es).real=true:=by cases es with
     |nil=>cases hq
     |cons=>rfl
    have:=hf.1.write hi n0 (w.setRow (N.aI i) (c.toList.set (q*sz+off) y0).toArray) (.row sz (es.set q (row.set off v))) Z Z Z (by simp) hne
     (.inr ⟨h0,_,T,j0,by simp;exact g2,by simpa using g3,fun k2 e2 h2=>?_,fun k2 e2 j2 p2 h2 h3=>?_⟩)
    ·exact⟨this.1,this.2,hf.2.1,hf.2.2⟩
    ·rw[XK]at h2;split at h2
     ·cases h2;rw[YM];exact hrl
     ·exact g4 k2 e2 h2
    ·have m0: ∀m,(c.toList.set (q*sz+off) y0).toArray.getD m undef=if q*sz+off=m then y0 else c.getD m undef:=by
      intro m;rw[WT,WT,Yf,XK];split
      ·rename_i e;subst e;rw[am (by simp;omega)];rfl
      ·simp
     rw[m0];rw[XK]at h2;split at h2
     ·rename_i g0;subst g0;cases h2;rw[XK]at h3;split at h3
      ·rename_i hj;subst hj;rw[am (by omega)]at h3;cases h3;rw[am Z];have:=hv 0 v Z;rw[a0]at this;exact this
      ·rename_i hj;rw[be (by omega)];exact g5 _ row j2 p2 hq h3
     ·rename_i g0;have x0:j2<sz:=by rw[<-g4 k2 e2 h2];exact(WX.1 h3).1
      rw[be ?_]
      ·exact g5 k2 e2 j2 p2 h2 h3
      ·intro e;rcases Nat.lt_trichotomy q k2 with hlt|heq|hgt
       ·have:(q+1)*sz<=k2*sz:=Xw _ hlt;rw[Y7]at this;omega
       ·exact g0 heq
       ·have:(k2+1)*sz<=q*sz:=Xw _ hgt;rw[Y7]at this;omega
 obtain⟨w',h1,h2,h3⟩:=key;refine⟨w',M,N,?_,h2,h3⟩;simp only[execOp,ho];simp[o0,r0,h1]
theorem Ds(c0:cz P ty){all rest:List Oper}{o:Oper}{t:TypeId}{a x:Operand}(ho:o.op= .store t a x)(hd:o.dst=none)(hg:o.guard=none){e:cI}(he:ty t=some e)(e0:e.size=1){i sz q off:Nat}{es:List (List PV)}{row:List PV}{v:PV}
  (ha:ev s.f a= .dC i sz q off) (hi:s.h.get i=some (.row sz es)) (hq:es[q]? =some row) (b0:Xi off sz=true) (hx:ev s.f x=v) (d0:v.cells=some [v]) (a0:v.one=true)
  {s':AS} (hs:(⟨s.f,(i,some (.row sz (es.set q (row.set off v))))::s.h,s.nx⟩:AS)=s') (h:GO P nt (.ops all rest::k) Q s'):GO P nt (.ops all (o::rest)::k) Q s:=
 ep hg (Cd c0 ho hd he e0 ha hi hq b0 hx d0 a0) fun u hu=>by subst hu;subst hs;exact h
end
end Go.Al
namespace Go.Al
open Go.ChangeShapes Go.WideShapes Go.RowKit
def z7(W:World)(b:Nat):Option MB:=match W.heap[b]? with
 |some (.cells c _ _)=>some (.cells c)
 |some (.map es cl)=>some (.map es cl)
 |_=>none
def qD(W:World):Prop:= ∀b c,Sq b=some c-> ∃T fr,W.heap[b]? =some (.cells c T fr)
def Mem.rf(W:World)(h:qD W):Mem:=⟨z7 W,fun b c hb=>by obtain⟨T,fr,e⟩:=h b c hb;simp[z7,e]⟩
def Ug:Nm:=⟨fun _=>0,fun _=>0⟩
theorem NX(W:World)(h:qD W):Rel (Mem.rf W h) Ug (· <0) [] W:=by
 refine⟨fun b c hb=>?_,fun i o hi=>by simp[AH.get]at hi,fun i o hi=>by simp[AH.get]at hi,fun i o hi=>by simp[AH.get]at hi,fun i j o p hi=>by simp[AH.get]at hi⟩;have a0:z7 W b=some c:=hb;unfold z7 at a0;split at a0
 ·rename_i c' T fr e;obtain rfl:=XX a0;exact⟨T,fr,e⟩
 ·rename_i es cl e;obtain rfl:=XX a0;exact e
 ·cases a0
theorem DU{W:World}{h:qD W}{b o:Nat}{v:Value}(hc:W.cell? ⟨b,o,none⟩=some v):(Mem.rf W h).cell b o=some v:=by
 show(match z7 W b with|some (.cells c)=>c[o]? |_=>none)=some v;unfold World.cell? at hc;unfold z7;split at hc
 ·rename_i c T fr e;simp only at e;rw[e];simpa using hc
 ·cases hc
def CR(M:Mem)(l:List IV)(cs:List Value):Prop:=l.length=cs.length∧ ∀j p,l[j]? =some p->IR M p (cs.getD j undef)
theorem CR.nil(M:Mem):CR M [] []:=⟨rfl,fun j p h=>by simp at h⟩
theorem CR.one{M:Mem}{p:IV}{v:Value}(h:IR M p v):CR M [p] [v]:=⟨rfl,fun j q hq=>by
 cases j with
 |zero=>simp at hq;subst hq;simpa using h
 |succ j=>simp at hq⟩
theorem CR.append{M:Mem}{l l':List IV}{cs a0:List Value}(h:CR M l cs)(k:CR M l' a0):CR M (l++l') (cs++a0):=by
 refine⟨by simp[h.1,k.1],fun j p hp=>?_⟩;rcases X3 j l.length with hj|hj
 ·rw[Xf hj]at hp;have:=h.2 j p hp;rw[WU]at this ⊢;rwa[Xf (by rw[<-h.1];exact hj)]
 ·rw[Xj hj]at hp;have:=k.2 _ p hp;rw[WU]at this ⊢;rw[Xj (by rw[<-h.1];exact hj),<-h.1];exact this
theorem CR.gW{M:Mem}{l r:List IV}{cs:List Value}{o n o':Nat}(h:CR M l ((cs.drop o).take n))(e:o'=o+n)(k:CR M r (cs.drop o')):CR M (l++r) (cs.drop o):=by
 subst e;have:=h.append k;rwa[<-List.drop_drop,Zd]at this
theorem CR.end_{M:Mem}{cs:List Value}{o:Nat}(h:cs.length=o):CR M [] (cs.drop o):=by
 rw[List.drop_eq_nil_of_le (by omega)];exact .nil M
theorem CR.agg{M:Mem}{N:Nm}{U:Nat->Prop}{l:List IV}{ys:Array Value}(h:CR M l ys.toList):VR M N U (ag l) (.agg ys):=by
 refine .agg _ _ (by simpa using h.1) fun j p hp=>?_;rw[W1,W6]at hp;obtain⟨q,hq,rfl⟩:=hp;have:=h.2 j q hq;exact .iv _ _ (by simpa[WT,WU]using this)
theorem CR.le{M:Mem}{l l':List IV}{cs:List Value}(h:CR M l cs)(hl:l.length=l'.length)(a0: ∀(j:Nat) (p q:IV),l[j]? =some p->l'[j]? =some q->nA p q):CR M l' cs:=by
 refine⟨hl▸h.1,fun j q hq=>?_⟩;have hj:j<l.length:=by rw[hl];exact(WX.1 hq).1
 exact a0 j _ q (WY hj) hq M _ (h.2 j _ (WY hj))
theorem CR.xG{M:Mem}{p q:IV}{cs:List Value}(h:CR M [p] cs)(a0:nA p q):CR M [q] cs:=
 h.le Z fun j p' q' hp hq=>by
  cases j with
  |zero=>simp at hp hq;subst hp;subst hq;exact a0
  |succ j=>simp at hp
section
variable {H:Type} {enc:TypeId×Value->H} {P:Program} {W:World} {hT:qD W} {sp:Nat->Bool} {held:Bool}
def Rd(enc:TypeId×Value->H)(P:Program)(W:World)(hT:qD W)(sp:Nat->Bool)(held:Bool)(t:TypeId){α:Type}(c:α->List IV)(Q:α->DataW H->Prop)(n:Nat):Prop:=
 ∀m,m<=n-> ∀cs y,DataW.trod enc P W 0 sp held m t cs=some y-> ∃x,CR (Mem.rf W hT) (c x) cs∧Q x y.1
theorem Rd.mono{t:TypeId}{α:Type}{c:α->List IV}{Q:α->DataW H->Prop}{n m:Nat}(h:Rd enc P W hT sp held t c Q n)(hm:m<=n):Rd enc P W hT sp held t c Q m:=fun k hk=>h k (Xz hk hm)
theorem lV{t:TypeId}{k:IntKind}(ht:P.underlying t=some (.int k))(n:Nat):Rd enc P W hT sp held t (fun z=> [.v (.int k z)]) (fun z d=>d= .lit (.int k z)∧(Lit.int k z).wf=true) n:=by
 intro m _ cs y h;cases m with
 |zero=>simp[DataW.trod]at h
 |succ m=>
  unfold DataW.trod at h;rw[ht]at h;split at h<;>simp_all;obtain⟨⟨rfl,hw⟩,rfl⟩:=h;exact⟨_, .one (.v _),rfl,hw⟩
theorem lD{t:TypeId}(ht:P.underlying t=some .string)(n:Nat):Rd enc P W hT sp held t (fun s=> [.v (.string s)]) (fun s d=>d= .lit (.string s.data.toList)∧s.size<=maxLen) n:=by
 intro m _ cs y h;cases m with
 |zero=>simp[DataW.trod]at h
 |succ m=>
  unfold DataW.trod at h;rw[ht]at h;split at h<;>simp_all;rename_i s;obtain⟨hw,rfl⟩:=h;exact⟨s, .one (.v _),rfl,hw⟩
def QL{α:Type}(Q:α->DataW H->Prop)(l:List α)(d:DataW H):Prop:=
 ∃el:List (DataW H),(d= .nil∧el=[]∨ ∃sp,d= .slice el sp)∧l.length=el.length∧ ∀(i:Nat) (x:α) (e:DataW H),l[i]? =some x->el[i]? =some e->Q x e
theorem lU{α:Type}[Inhabited α]{t e:TypeId}{sz:Nat}{c:α->List IV}{Q:α->DataW H->Prop}{n:Nat}(ht:P.underlying t=some (.slice e))(hc:P.cellsOf e=sz)(e0:0<sz)(hl: ∀x,(c x).length=sz)
  (he:Rd enc P W hT sp held e c Q n):Rd enc P W hT sp held t (fun l:List α=> [dy sz l c]) (QL Q) (n+1):=by
 intro m hm cs y h;rcases DataW.trod_slice ht h with⟨rfl,rfl⟩|⟨a,b0,cap,c0,rest,k,rfl,rfl,rfl,_,h1,h2,h3,h4,_⟩
 ·exact⟨[], .one (.kQ ..),[], .inl ⟨rfl,rfl⟩,rfl,fun i x e h=>by simp at h⟩
 have key: ∀i,i<b0-> ∃x,(∃d0,W.cells? 0 (a.add (i*sz)) sz=some d0∧CR (Mem.rf W hT) (c x) d0)∧ ∃y,c0[i]? =some y∧Q x y.1:=by
  intro i hi;have h5:=h4 i hi;rw[hc,WY (by omega)]at h5;obtain⟨d0,h6,h7⟩:=Option.bind_eq_some_iff.1 h5;obtain⟨x,h8,h9⟩:=he k (by omega) _ _ h7;exact⟨x,⟨d0,h6,h8⟩,_,WY (by omega),h9⟩
 obtain⟨f,hf⟩:=Deep.choose_lt key;refine⟨(Xc b0).map f, .one ?_,c0.map (·.1), .inr ⟨_,rfl⟩,by simp[h3],fun i x e hx j0=>?_⟩
 ·cases b0 with
  |zero=>exact .kQ ..
  |succ b0=>
   have s0: ∀i,i<b0+1-> ∀j,j<sz->W.cell? ((a.add (i*sz)).add j)=((c (f i))[j]?).bind fun _=>(W.cell? ((a.add (i*sz)).add j)):=by
    intro i hi j hj;rw[WY (by rw[hl];exact hj)];rfl
   have a0: ∀i,i<b0+1-> ∀j,j<sz-> ∃v,W.cell? ⟨a.block,a.off+i*sz+j,none⟩=some v∧(∀p,(c (f i))[j]? =some p->IR (Mem.rf W hT) p v)∧a.spot=none:=by
    intro i hi j hj;obtain⟨⟨d0,h6,h8⟩,_⟩:=hf i hi;obtain⟨_,h9,m0⟩:=World.cells?_some h6;have o0:=m0 j hj;rw[WY (by omega)]at o0;have hs: ∀j,j<sz->(a.add (i*sz+j)).spot=none:=fun j hj=>by
     have n0:=m0 j hj;rw[WY (by omega),Deep.add_add]at n0;exact World.cell?_spot n0
    have g0:a.add (i*sz+j)=⟨a.block,a.off+i*sz+j,none⟩:=by
     have:=hs j hj;unfold Addr.add at this ⊢;split
     ·rename_i h0;rw[am h0]at this;cases a;simp_all
     ·rw[Yu]
    refine⟨d0[j]'(by omega),?_,fun p hp=>?_,?_⟩
    ·rw[<-g0,<-Deep.add_add];exact o0
    ·have:=h8.2 j p hp;rwa[WU,WY (by omega)]at this
    ·obtain⟨⟨r0,g6,_⟩,_⟩:=hf 0 (by omega);obtain⟨_,g9,q0⟩:=World.cells?_some g6;have k0:=q0 0 e0;rw[WY (by omega),Deep.add_add]at k0;have:=World.cell?_spot k0;simpa[Addr.add]using this
   have ha:some a=some (⟨a.block,a.off,none⟩:Addr):=by
    obtain⟨_,_,_,hs⟩:=a0 0 (by omega) 0 e0;cases a;simp_all
   rw[ha];have f0:((Xc (b0+1)).map f).length=b0+1:=by simp
   have i0: ∀k,k<b0+1->((Xc (b0+1)).map f).getD k default=f k:=fun k hk=>by
    simp[WU,YF hk]
   unfold dy;rw[f0];refine .dq _ _ _ _ _ _ h1 h2 (fun k _=>hl _) (fun k j hk hj=>?_) (fun k j p hk hp=>?_)
   ·obtain⟨v,hv,_⟩:=a0 k hk j hj;rw[DU hv];rfl
   ·rw[i0 k hk]at hp;have hj:j<sz:=by rw[<-hl (f k)];exact(WX.1 hp).1
    obtain⟨v,hv,p0,_⟩:=a0 k hk j hj;rw[DU hv];exact p0 p hp
 ·have hi:i<b0:=by simpa using(WX.1 hx).1
  obtain⟨_,y,hy,hq⟩:=hf i hi;rw[W1,hy]at j0;rw[W1,YF hi]at hx;simp at j0 hx;subst j0;subst hx;exact hq
theorem qX{n:Nat}{fs:Array Field}{cs:List Value}{xs:List (DataW H×List MemPlace)}(hf: ∀(i:Nat) (f:Field),fs[i]? =some f->DataW.trod enc P W 0 sp held n f.type ((cs.drop f.offset).take (P.cellsOf f.type))=xs[i]?)
  (i:Nat) {f:Field} (h1:fs[i]? =some f) {t o sz:Nat} (h2:f.type=t) (h3:f.offset=o) (h4:P.cellsOf t=sz) {x:DataW H×List MemPlace} (hx:xs[i]? =some x):DataW.trod enc P W 0 sp held n t ((cs.drop o).take sz)=some x:=by
 subst h2;subst h3;subst h4;rw[hf i f h1,hx]
end
section
variable {H:Type} {enc:TypeId×Value->H} {P:Program} {W W':World} {T:TypeId->Prop}
theorem HC{W W':World}(hk: ∀b,b<W.heap.size->W'.heap[b]? =W.heap[b]?){p:MemPlace}(hp:p.block<W.heap.size):W.sameAt W' p:=by
 cases p with
 |cell b o=>exact World.cell?_of_block (a:=⟨b,o,none⟩) (hk b hp)
 |map b=>exact hk b hp
theorem ry(K:Kids P T)(hz: ∀{t e},T t->P.underlying t=some (.slice e)->0<P.cellsOf e)(hk: ∀b,b<W.heap.size->W'.heap[b]? =W.heap[b]?){sp:Nat->Bool}:
  ∀{ts:List TypeId} {vs:List Value} {ds:List (DataW H)} {ps:List MemPlace},(∀t∈ts,T t)->DataW.TrodAll enc P W 0 (fun _=>true) true ts vs ds ps->(∀p∈ps,p.block<W.heap.size)->(∀p∈ps,sp p.block=true)->
   DataW.TrodAll enc P W' 0 sp true ts vs ds ps
 | [],vs,ds,ps,_,h,_,_=>by
  obtain⟨rfl,rfl,rfl⟩:=trodAll_nil h;exact trodAll_mk0
 |t::ts,vs,ds,ps,hT,h,hlt,hsp=>by
  obtain⟨v,b0,d,a0,p,q,rfl,rfl,rfl,⟨n,h1⟩,h2⟩:=trodAll_cons h;refine⟨p,q,⟨n,DataW.trod_stays K hz (fun h=>by cases h) (hT t (by simp)) h1 (fun x hx=>HC hk (hlt x (Xv _ hx))) (fun x hx=>hsp x (Xv _ hx))⟩,?_,rfl⟩;exact ry K hz hk (fun t ht=>hT t (W8 _ ht)) h2 (fun x hx=>hlt x (Yp _ hx)) (fun x hx=>hsp x (Yp _ hx))
theorem OI{W W':World}(b0:W'.os=W.os)(a0:W'.output=W.output)(hk: ∀b,b<W.heap.size->W'.heap[b]? =W.heap[b]?)(may:MemPlace->Prop):W.keptBut W' may:=by
 refine World.keptBut_mono (fun p hp=>(hp:False).elim) (World.keptBut_none_iff.2 ⟨b0,a0,hk⟩)
theorem A9{f:Func}{s:ChangeSpec}{d0 i0 c0 g0:Bool}{args:Array Value}{v:Value}{ds gs:List (DataW H)}{a0:List MemPlace}
  (K:Kids P T) (hz: ∀{t e},T t->P.underlying t=some (.slice e)->0<P.cellsOf e) (t0: ∀t∈f.params.toList,T t) (e0:s.vars=[])
  (hW:DataW.Whole enc P f.params.toList s.vars d0 W args.toList ds gs a0) (s0:W'.os=W.os) (m0:W'.output=W.output) (hk: ∀b,b<W.heap.size->W'.heap[b]? =W.heap[b]?)
  (f0: ∀(b:Nat) (sp:Nat->Bool) (hd:Bool),DataW.TrodAll enc P W' b sp hd f.resultTypes.toList (v.resultList f.resultTypes.size) (s.fn H (ds++gs)).results [])
  (k0:(s.fn H (ds++gs)).args=ds) (r0:(s.fn H (ds++gs)).vars=[])
  (p0: ∀(j:Nat) (t:TypeId) (r:Value),f.resultTypes[j]? =some t->(v.resultList f.resultTypes.size)[j]? =some r->Value.okWide P W' .any 0 t r):
  s.post enc P f d0 i0 c0 g0 W args v W':=by
 have hlt: ∀p∈a0,p.block<W.heap.size:=fun p hp=>by simpa using hW.lt p hp
 have j0: ∀p∈a0,(fun b=>decide (b<W.heap.size)) p.block=true:=fun p hp=>by simpa using hW.lt p hp
 obtain⟨pa,pv,hA,hV,rfl,v0,hnd⟩:=id hW;rw[e0]at hV;obtain⟨rfl,rfl⟩:gs=[]∧pv=[]:=by
  cases gs with
  |nil=>exact⟨rfl,hV⟩
  |cons _ _=>exact hV.elim
 rw[XE]at hlt j0;have b0: ∀sp:Nat->Bool,(∀p∈pa,sp p.block=true)->DataW.TrodAll enc P W' 0 sp true f.params.toList args.toList (s.fn H (ds++ [])).args pa:=fun sp q0=>by
  rw[k0];exact ry K hz hk t0 hA hlt q0
 have o0: ∀sp:Nat->Bool,DataW.TrodVars enc P W' sp s.vars (s.fn H (ds++ [])).vars []:=fun sp=>by
  rw[r0,e0];rfl
 refine⟨ds,[],pa++ [],[],pa,[],hW,f0 _ _ _,b0 _ j0,o0 _,?_,fun _=>⟨p0,_,_,([]++pa)++ [],⟨[]++pa,[],trodAll_append (b0 _ (fun _ _=>rfl)) (f0 _ _ _),o0 _,rfl,?_,?_⟩,?_⟩⟩
 ·exact OI s0 m0 hk _
 ·intro b off hp;have n0:MemPlace.cell b off∈pa:=by simpa using hp
  have hb:=hlt _ n0;have:=v0 b off (by simpa using n0);rw[<-this];simp only[World.frozen?];rw[hk b hb]
 ·intro ha;have:=hnd ha;simpa using this
 ·intro p hp _;simpa using hp
end
end Go.Al
namespace Go.Proofs.YtflegjieadkonaaGreatDoor
open Go Go.Al Go.Proofs.Tryz
def ty2:cI:=⟨.bb (.int .i64),1,8, .int .i64 (0),false⟩
theorem Tr:ay prog 2 ty2:=⟨ak (by kernel_rfl),⟨underlying2,rfl⟩,fun h=>nomatch h⟩
def ty3:cI:=⟨.bb (.int .i64),1,8, .int .i64 (0),false⟩
theorem Tq:ay prog 3 ty3:=⟨ak (by kernel_rfl),⟨underlying3,rfl⟩,fun h=>nomatch h⟩
def ty4:cI:=⟨.bb (.bool),1,1, .bool false,false⟩
theorem Tp:ay prog 4 ty4:=⟨ak (by kernel_rfl),⟨underlying4,rfl⟩,fun h=>nomatch h⟩
def ty5:cI:=⟨.bb (.int .u8),1,1, .int .u8 (0),false⟩
theorem To:ay prog 5 ty5:=⟨ak (by kernel_rfl),⟨underlying5,rfl⟩,fun h=>nomatch h⟩
def ty9:cI:=⟨.bb (.string),1,16, .string W4,false⟩
theorem Tn:ay prog 9 ty9:=⟨ak (by kernel_rfl),⟨underlying9,rfl⟩,fun h=>nomatch h⟩
def TX:cI:=⟨.bb (.int .i32),1,4, .int .i32 (0),false⟩
theorem RP:ay prog 21 TX:=⟨ak (by kernel_rfl),⟨underlying21,rfl⟩,fun h=>nomatch h⟩
def TV:cI:=⟨.bb (.slice 49),1,24, .slice none 0 0,false⟩
theorem RO:ay prog 22 TV:=⟨ak (by kernel_rfl),⟨underlying22,rfl⟩,fun h=>nomatch h⟩
def TU:cI:=⟨.bb (.slice 76),1,24, .slice none 0 0,false⟩
theorem RN:ay prog 23 TU:=⟨ak (by kernel_rfl),⟨underlying23,rfl⟩,fun h=>nomatch h⟩
def TR:cI:=⟨.dE [(0,22),(1,23)],2,48, .agg #[.slice none 0 0, .slice none 0 0],true⟩
theorem RL:ay prog 25 TR:=⟨ak (by kernel_rfl),⟨_,underlying25,rfl⟩,fun _=>cT underlying25 Tryz.stoodInHeld25 Tryz.eqGuardType25 (by decide)⟩
def TQ:cI:=⟨.bb (.slice 80),1,24, .slice none 0 0,false⟩
theorem RK:ay prog 28 TQ:=⟨ak (by kernel_rfl),⟨underlying28,rfl⟩,fun h=>nomatch h⟩
def TP:cI:=⟨.bb (.slice 53),1,24, .slice none 0 0,false⟩
theorem RJ:ay prog 30 TP:=⟨ak (by kernel_rfl),⟨underlying30,rfl⟩,fun h=>nomatch h⟩
def TO:cI:=⟨.bb (.slice 56),1,24, .slice none 0 0,false⟩
theorem RI:ay prog 32 TO:=⟨ak (by kernel_rfl),⟨underlying32,rfl⟩,fun h=>nomatch h⟩
def TN:cI:=⟨.bb (.int .i64),1,8, .int .i64 (0),false⟩
theorem RH:ay prog 33 TN:=⟨ak (by kernel_rfl),⟨underlying33,rfl⟩,fun h=>nomatch h⟩
def TM:cI:=⟨.dE [(0,3),(1,3)],2,16, .agg #[.int .i64 (0), .int .i64 (0)],true⟩
theorem RG:ay prog 35 TM:=⟨ak (by kernel_rfl),⟨_,underlying35,rfl⟩,fun _=>cT underlying35 Tryz.stoodInHeld35 Tryz.eqGuardType35 (by decide)⟩
def TL:cI:=⟨.dE [(0,33),(1,35)],3,24, .agg #[.int .i64 (0), .int .i64 (0), .int .i64 (0)],true⟩
theorem RF:ay prog 37 TL:=⟨ak (by kernel_rfl),⟨_,underlying37,rfl⟩,fun _=>cT underlying37 Tryz.stoodInHeld37 Tryz.eqGuardType37 (by decide)⟩
def TJ:cI:=⟨.bb (.slice 3),1,24, .slice none 0 0,false⟩
theorem RE:ay prog 47 TJ:=⟨ak (by kernel_rfl),⟨underlying47,rfl⟩,fun h=>nomatch h⟩
def TI:cI:=⟨.dE [(0,9),(1,47),(2,35)],4,56, .agg #[.string W4, .slice none 0 0, .int .i64 (0), .int .i64 (0)],true⟩
theorem RD:ay prog 49 TI:=⟨ak (by kernel_rfl),⟨_,underlying49,rfl⟩,fun _=>cT underlying49 Tryz.stoodInHeld49 Tryz.eqGuardType49 (by decide)⟩
def TH:cI:=⟨.bb (.slice 9),1,24, .slice none 0 0,false⟩
theorem RC:ay prog 53 TH:=⟨ak (by kernel_rfl),⟨underlying53,rfl⟩,fun h=>nomatch h⟩
def TG:cI:=⟨.dE [(0,9),(1,3)],2,24, .agg #[.string W4, .int .i64 (0)],true⟩
theorem RB:ay prog 56 TG:=⟨ak (by kernel_rfl),⟨_,underlying56,rfl⟩,fun _=>cT underlying56 Tryz.stoodInHeld56 Tryz.eqGuardType56 (by decide)⟩
def TF:cI:=⟨.bb (.slice 143),1,24, .slice none 0 0,false⟩
theorem RA:ay prog 71 TF:=⟨ak (by kernel_rfl),⟨underlying71,rfl⟩,fun h=>nomatch h⟩
def TE:cI:=⟨.dE [(0,9),(1,71)],2,40, .agg #[.string W4, .slice none 0 0],true⟩
theorem Rz:ay prog 73 TE:=⟨ak (by kernel_rfl),⟨_,underlying73,rfl⟩,fun _=>cT underlying73 Tryz.stoodInHeld73 Tryz.eqGuardType73 (by decide)⟩
def TD:cI:=⟨.bb (.slice 105),1,24, .slice none 0 0,false⟩
theorem Ry:ay prog 74 TD:=⟨ak (by kernel_rfl),⟨underlying74,rfl⟩,fun h=>nomatch h⟩
def TC:cI:=⟨.dE [(0,73),(2,74),(3,35)],5,80, .agg #[.string W4, .slice none 0 0, .slice none 0 0, .int .i64 (0), .int .i64 (0)],true⟩
theorem Rx:ay prog 76 TC:=⟨ak (by kernel_rfl),⟨_,underlying76,rfl⟩,fun _=>cT underlying76 Tryz.stoodInHeld76 Tryz.eqGuardType76 (by decide)⟩
def TB:cI:=⟨.dE [(0,9),(1,9),(2,4)],3,40, .agg #[.string W4, .string W4, .bool false],true⟩
theorem Rw:ay prog 80 TB:=⟨ak (by kernel_rfl),⟨_,underlying80,rfl⟩,fun _=>cT underlying80 Tryz.stoodInHeld80 Tryz.eqGuardType80 (by decide)⟩
def TA:cI:=⟨.bb (.map 9 88),1,8, .map none,false⟩
theorem Rv:ay prog 83 TA:=⟨ak (by kernel_rfl),⟨underlying83,rfl⟩,fun h=>nomatch h⟩
def Tz:cI:=⟨.bb (.map 9 88),1,8, .map none,false⟩
theorem Ru:ay prog 84 Tz:=⟨ak (by kernel_rfl),⟨underlying84,rfl⟩,fun h=>nomatch h⟩
def Tx:cI:=⟨.bb (.map 9 3),1,8, .map none,false⟩
theorem Rt:ay prog 88 Tx:=⟨ak (by kernel_rfl),⟨underlying88,rfl⟩,fun h=>nomatch h⟩
def Tw:cI:=⟨.bb (.map 3 53),1,8, .map none,false⟩
theorem Rs:ay prog 91 Tw:=⟨ak (by kernel_rfl),⟨underlying91,rfl⟩,fun h=>nomatch h⟩
def Tv:cI:=⟨.bb (.map 3 3),1,8, .map none,false⟩
theorem Rr:ay prog 92 Tv:=⟨ak (by kernel_rfl),⟨underlying92,rfl⟩,fun h=>nomatch h⟩
def Tu:cI:=⟨.bb (.slice 47),1,24, .slice none 0 0,false⟩
theorem Rq:ay prog 94 Tu:=⟨ak (by kernel_rfl),⟨underlying94,rfl⟩,fun h=>nomatch h⟩
def Tt:cI:=⟨.dE [(0,3),(1,3),(2,9)],3,32, .agg #[.int .i64 (0), .int .i64 (0), .string W4],true⟩
theorem Rp:ay prog 98 Tt:=⟨ak (by kernel_rfl),⟨_,underlying98,rfl⟩,fun _=>cT underlying98 Tryz.stoodInHeld98 Tryz.eqGuardType98 (by decide)⟩
def Ts:cI:=⟨.bb (.slice 101),1,24, .slice none 0 0,false⟩
theorem Ro:ay prog 99 Ts:=⟨ak (by kernel_rfl),⟨underlying99,rfl⟩,fun h=>nomatch h⟩
def Qy:cI:=⟨.dE [(0,3),(1,9),(2,98),(5,3),(6,99)],7,88, .agg #[.int .i64 (0), .string W4, .int .i64 (0), .int .i64 (0), .string W4, .int .i64 (0), .slice none 0 0],true⟩
theorem Nl:ay prog 101 Qy:=⟨ak (by kernel_rfl),⟨_,underlying101,rfl⟩,fun _=>cT underlying101 Tryz.stoodInHeld101 Tryz.eqGuardType101 (by decide)⟩
def Qx:cI:=⟨.dE [(0,3),(1,9),(2,101),(9,74)],10,136, .agg #[.int .i64 (0), .string W4, .int .i64 (0), .string W4, .int .i64 (0), .int .i64 (0), .string W4, .int .i64 (0), .slice none 0 0, .slice none 0 0],true⟩
theorem Nk:ay prog 103 Qx:=⟨ak (by kernel_rfl),⟨_,underlying103,rfl⟩,fun _=>cT underlying103 Tryz.stoodInHeld103 Tryz.eqGuardType103 (by decide)⟩
def Qw:cI:=⟨.dE [(0,3),(1,73),(3,3),(4,101),(11,101),(18,103),(28,35)],30,384, .agg #[.int .i64 (0), .string W4, .slice none 0 0, .int .i64 (0), .int .i64 (0), .string W4, .int .i64 (0), .int .i64 (0), .string W4, .int .i64 (0), .slice none 0 0, .int .i64 (0), .string W4, .int .i64 (0), .int .i64 (0), .string W4, .int .i64 (0), .slice none 0 0, .int .i64 (0), .string W4, .int .i64 (0), .string W4, .int .i64 (0), .int .i64 (0), .string W4, .int .i64 (0), .slice none 0 0, .slice none 0 0, .int .i64 (0), .int .i64 (0)],true⟩
theorem Nj:ay prog 105 Qw:=⟨ak (by kernel_rfl),⟨_,underlying105,rfl⟩,fun _=>cT underlying105 Tryz.stoodInHeld105 Tryz.eqGuardType105 (by decide)⟩
def Qv:cI:=⟨.bb (.slice 113),1,24, .slice none 0 0,false⟩
theorem Ni:ay prog 110 Qv:=⟨ak (by kernel_rfl),⟨underlying110,rfl⟩,fun h=>nomatch h⟩
def Qu:cI:=⟨.bb (.slice 4),1,24, .slice none 0 0,false⟩
theorem Nh:ay prog 113 Qu:=⟨ak (by kernel_rfl),⟨underlying113,rfl⟩,fun h=>nomatch h⟩
def Qt:cI:=⟨.dE [(0,3),(1,9),(2,98)],5,56, .agg #[.int .i64 (0), .string W4, .int .i64 (0), .int .i64 (0), .string W4],true⟩
theorem Ng:ay prog 143 Qt:=⟨ak (by kernel_rfl),⟨_,underlying143,rfl⟩,fun _=>cT underlying143 Tryz.stoodInHeld143 Tryz.eqGuardType143 (by decide)⟩
def Qs:cI:=⟨.bb (.func #[9] #[3] false),1,8, .nilFunc,false⟩
theorem Nf:ay prog 148 Qs:=⟨ak (by kernel_rfl),⟨underlying148,rfl⟩,fun h=>nomatch h⟩
def Qr:cI:=⟨.bb (.func #[37] #[4] false),1,8, .nilFunc,false⟩
theorem Nd:ay prog 151 Qr:=⟨ak (by kernel_rfl),⟨underlying151,rfl⟩,fun h=>nomatch h⟩
def Qq:cI:=⟨.bb (.func #[105] #[4] false),1,8, .nilFunc,false⟩
theorem Nc:ay prog 155 Qq:=⟨ak (by kernel_rfl),⟨underlying155,rfl⟩,fun h=>nomatch h⟩
def Qp:cI:=⟨.bb (.slice 37),1,24, .slice none 0 0,false⟩
theorem Nb:ay prog 156 Qp:=⟨ak (by kernel_rfl),⟨underlying156,rfl⟩,fun h=>nomatch h⟩
def Qo:cI:=⟨.bb (.map 9 3),1,8, .map none,false⟩
theorem Na:ay prog 164 Qo:=⟨ak (by kernel_rfl),⟨underlying164,rfl⟩,fun h=>nomatch h⟩
def Qn:cI:=⟨.dE [(0,76),(5,164)],6,88, .agg #[.string W4, .slice none 0 0, .slice none 0 0, .int .i64 (0), .int .i64 (0), .map none],true⟩
theorem M9:ay prog 166 Qn:=⟨ak (by kernel_rfl),⟨_,underlying166,rfl⟩,fun _=>cT underlying166 Tryz.stoodInHeld166 Tryz.eqGuardType166 (by decide)⟩
def Qm:cI:=⟨.bb (.pointer 166),1,8, .pointer none,false⟩
theorem M8:ay prog 167 Qm:=⟨ak (by kernel_rfl),⟨underlying167,rfl⟩,fun h=>nomatch h⟩
def Ql:cI:=⟨.bb (.int .u64),1,8, .int .u64 (0),false⟩
theorem M7:ay prog 179 Ql:=⟨ak (by kernel_rfl),⟨underlying179,rfl⟩,fun h=>nomatch h⟩
def Qk:cI:=⟨.bb (.map 9 49),1,8, .map none,false⟩
theorem M6:ay prog 181 Qk:=⟨ak (by kernel_rfl),⟨underlying181,rfl⟩,fun h=>nomatch h⟩
def Qj:cI:=⟨.bb (.func #[101] #[4] false),1,8, .nilFunc,false⟩
theorem M5:ay prog 185 Qj:=⟨ak (by kernel_rfl),⟨underlying185,rfl⟩,fun h=>nomatch h⟩
def Qi:cI:=⟨.bb (.func #[103] #[4] false),1,8, .nilFunc,false⟩
theorem MZ:ay prog 186 Qi:=⟨ak (by kernel_rfl),⟨underlying186,rfl⟩,fun h=>nomatch h⟩
def Qh:cI:=⟨.bb (.int .i64),1,8, .int .i64 (0),false⟩
theorem MY:ay prog 195 Qh:=⟨ak (by kernel_rfl),⟨underlying195,rfl⟩,fun h=>nomatch h⟩
def Qg:cI:=⟨.bb (.int .u32),1,4, .int .u32 (0),false⟩
theorem MX:ay prog 203 Qg:=⟨ak (by kernel_rfl),⟨underlying203,rfl⟩,fun h=>nomatch h⟩
def Qf:cI:=⟨.bb (.int .u64),1,8, .int .u64 (0),false⟩
theorem MW:ay prog 205 Qf:=⟨ak (by kernel_rfl),⟨underlying205,rfl⟩,fun h=>nomatch h⟩
def Qe:cI:=⟨.bb (.func #[3] #[4] false),1,8, .nilFunc,false⟩
theorem MV:ay prog 207 Qe:=⟨ak (by kernel_rfl),⟨underlying207,rfl⟩,fun h=>nomatch h⟩
def Qd:cI:=⟨.bb (.slice 73),1,24, .slice none 0 0,false⟩
theorem MU:ay prog 215 Qd:=⟨ak (by kernel_rfl),⟨underlying215,rfl⟩,fun h=>nomatch h⟩
def Qc:cI:=⟨.bb (.func #[73] #[4] false),1,8, .nilFunc,false⟩
theorem MT:ay prog 217 Qc:=⟨ak (by kernel_rfl),⟨underlying217,rfl⟩,fun h=>nomatch h⟩
def Qb:cI:=⟨.dE [(0,33),(1,207)],2,16, .agg #[.int .i64 (0), .nilFunc],true⟩
theorem MS:ay prog 218 Qb:=⟨ak (by kernel_rfl),⟨_,underlying218,rfl⟩,fun _=>cT underlying218 Tryz.stoodInHeld218 Tryz.eqGuardType218 (by decide)⟩
def Qa:cI:=⟨.bb (.pointer 257),1,8, .pointer none,false⟩
theorem MR:ay prog 220 Qa:=⟨ak (by kernel_rfl),⟨underlying220,rfl⟩,fun h=>nomatch h⟩
def P9:cI:=⟨.bb (.slice 218),1,24, .slice none 0 0,false⟩
theorem MQ:ay prog 222 P9:=⟨ak (by kernel_rfl),⟨underlying222,rfl⟩,fun h=>nomatch h⟩
def P8:cI:=⟨.bb (.int .u64),1,8, .int .u64 (0),false⟩
theorem MP:ay prog 233 P8:=⟨ak (by kernel_rfl),⟨underlying233,rfl⟩,fun h=>nomatch h⟩
def P7:cI:=⟨.bb (.pointer 3),1,8, .pointer none,false⟩
theorem MO:ay prog 237 P7:=⟨ak (by kernel_rfl),⟨underlying237,rfl⟩,fun h=>nomatch h⟩
def P6:cI:=⟨.bb (.pointer 247),1,8, .pointer none,false⟩
theorem MN:ay prog 241 P6:=⟨ak (by kernel_rfl),⟨underlying241,rfl⟩,fun h=>nomatch h⟩
def P5:cI:=⟨.bb (.pointer 245),1,8, .pointer none,false⟩
theorem MM:ay prog 242 P5:=⟨ak (by kernel_rfl),⟨underlying242,rfl⟩,fun h=>nomatch h⟩
def P4:cI:=⟨.bb (.slice 5),1,24, .slice none 0 0,false⟩
theorem ML:ay prog 243 P4:=⟨ak (by kernel_rfl),⟨underlying243,rfl⟩,fun h=>nomatch h⟩
def P3:cI:=⟨.dE [(0,242),(1,243)],2,32, .agg #[.pointer none, .slice none 0 0],true⟩
theorem MK:ay prog 245 P3:=⟨ak (by kernel_rfl),⟨_,underlying245,rfl⟩,fun _=>cT underlying245 Tryz.stoodInHeld245 Tryz.eqGuardType245 (by decide)⟩
def P2:cI:=⟨.dE [(0,245),(2,4),(3,3)],4,48, .agg #[.pointer none, .slice none 0 0, .bool false, .int .i64 (0)],true⟩
theorem MJ:ay prog 247 P2:=⟨ak (by kernel_rfl),⟨_,underlying247,rfl⟩,fun _=>cT underlying247 Tryz.stoodInHeld247 Tryz.eqGuardType247 (by decide)⟩
def P1:cI:=⟨.bb (.func #[143] #[4] false),1,8, .nilFunc,false⟩
theorem MI:ay prog 252 P1:=⟨ak (by kernel_rfl),⟨underlying252,rfl⟩,fun h=>nomatch h⟩
def P0:cI:=⟨.bb (.map 263 263),1,8, .map none,false⟩
theorem MH:ay prog 253 P0:=⟨ak (by kernel_rfl),⟨underlying253,rfl⟩,fun h=>nomatch h⟩
def PZ:cI:=⟨.bb (.map 263 3),1,8, .map none,false⟩
theorem MG:ay prog 254 PZ:=⟨ak (by kernel_rfl),⟨underlying254,rfl⟩,fun h=>nomatch h⟩
def PY:cI:=⟨.bb (.slice 265),1,24, .slice none 0 0,false⟩
theorem MF:ay prog 255 PY:=⟨ak (by kernel_rfl),⟨underlying255,rfl⟩,fun h=>nomatch h⟩
def PX:cI:=⟨.dE [(0,167),(1,253),(2,255),(3,254)],4,48, .agg #[.pointer none, .map none, .slice none 0 0, .map none],true⟩
theorem ME:ay prog 257 PX:=⟨ak (by kernel_rfl),⟨_,underlying257,rfl⟩,fun _=>cT underlying257 Tryz.stoodInHeld257 Tryz.eqGuardType257 (by decide)⟩
def PW:cI:=⟨.dE [(0,9),(1,3)],2,24, .agg #[.string W4, .int .i64 (0)],true⟩
theorem MD:ay prog 263 PW:=⟨ak (by kernel_rfl),⟨_,underlying263,rfl⟩,fun _=>cT underlying263 Tryz.stoodInHeld263 Tryz.eqGuardType263 (by decide)⟩
def PU:cI:=⟨.dE [(0,3),(1,263),(3,3),(4,3)],5,48, .agg #[.int .i64 (0), .string W4, .int .i64 (0), .int .i64 (0), .int .i64 (0)],true⟩
theorem MC:ay prog 265 PU:=⟨ak (by kernel_rfl),⟨_,underlying265,rfl⟩,fun _=>cT underlying265 Tryz.stoodInHeld265 Tryz.eqGuardType265 (by decide)⟩
def PS:cI:=⟨.bb (.pointer 276),1,8, .pointer none,false⟩
theorem MA:ay prog 271 PS:=⟨ak (by kernel_rfl),⟨underlying271,rfl⟩,fun h=>nomatch h⟩
def PR:cI:=⟨.bb (.slice 325),1,24, .slice none 0 0,false⟩
theorem Mz:ay prog 273 PR:=⟨ak (by kernel_rfl),⟨underlying273,rfl⟩,fun h=>nomatch h⟩
def PQ:cI:=⟨.bb (.slice 278),1,24, .slice none 0 0,false⟩
theorem My:ay prog 274 PQ:=⟨ak (by kernel_rfl),⟨underlying274,rfl⟩,fun h=>nomatch h⟩
def PO:cI:=⟨.dE [(0,273),(1,47),(2,274),(3,53)],4,96, .agg #[.slice none 0 0, .slice none 0 0, .slice none 0 0, .slice none 0 0],true⟩
theorem Mx:ay prog 276 PO:=⟨ak (by kernel_rfl),⟨_,underlying276,rfl⟩,fun _=>cT underlying276 Tryz.stoodInHeld276 Tryz.eqGuardType276 (by decide)⟩
def PN:cI:=⟨.dE [(0,3),(1,3),(2,3),(3,3)],4,32, .agg #[.int .i64 (0), .int .i64 (0), .int .i64 (0), .int .i64 (0)],true⟩
theorem Mw:ay prog 278 PN:=⟨ak (by kernel_rfl),⟨_,underlying278,rfl⟩,fun _=>cT underlying278 Tryz.stoodInHeld278 Tryz.eqGuardType278 (by decide)⟩
def PM:cI:=⟨.bb (.pointer 233),1,8, .pointer none,false⟩
theorem Mv:ay prog 280 PM:=⟨ak (by kernel_rfl),⟨underlying280,rfl⟩,fun h=>nomatch h⟩
def PL:cI:=⟨.bb (.func #[21] #[4] false),1,8, .nilFunc,false⟩
theorem Mu:ay prog 284 PL:=⟨ak (by kernel_rfl),⟨underlying284,rfl⟩,fun h=>nomatch h⟩
def PK:cI:=⟨.arr 7 9,7,112, .agg #[.string W4, .string W4, .string W4, .string W4, .string W4, .string W4, .string W4],false⟩
theorem Mt:ay prog 289 PK:=⟨ak (by kernel_rfl),underlying289,fun h=>nomatch h⟩
def PJ:cI:=⟨.bb (.pointer 5),1,8, .pointer none,false⟩
theorem Ms:ay prog 306 PJ:=⟨ak (by kernel_rfl),⟨underlying306,rfl⟩,fun h=>nomatch h⟩
def PI:cI:=⟨.arr 5 9,5,80, .agg #[.string W4, .string W4, .string W4, .string W4, .string W4],false⟩
theorem Mr:ay prog 307 PI:=⟨ak (by kernel_rfl),underlying307,fun h=>nomatch h⟩
def PH:cI:=⟨.dE [(0,9),(1,4)],2,24, .agg #[.string W4, .bool false],true⟩
theorem Mq:ay prog 320 PH:=⟨ak (by kernel_rfl),⟨_,underlying320,rfl⟩,fun _=>cT underlying320 Tryz.stoodInHeld320 Tryz.eqGuardType320 (by decide)⟩
def PG:cI:=⟨.dE [(0,9),(1,3)],2,24, .agg #[.string W4, .int .i64 (0)],true⟩
theorem Mp:ay prog 325 PG:=⟨ak (by kernel_rfl),⟨_,underlying325,rfl⟩,fun _=>cT underlying325 Tryz.stoodInHeld325 Tryz.eqGuardType325 (by decide)⟩
def PF:cI:=⟨.bb (.unsafePointer),1,8, .pointer none,false⟩
theorem Mo:ay prog 327 PF:=⟨ak (by kernel_rfl),⟨underlying327,rfl⟩,fun h=>nomatch h⟩
def PD:cI:=⟨.arr 24 5,24,24, .agg #[.int .u8 (0), .int .u8 (0), .int .u8 (0), .int .u8 (0), .int .u8 (0), .int .u8 (0), .int .u8 (0), .int .u8 (0), .int .u8 (0), .int .u8 (0), .int .u8 (0), .int .u8 (0), .int .u8 (0), .int .u8 (0), .int .u8 (0), .int .u8 (0), .int .u8 (0), .int .u8 (0), .int .u8 (0), .int .u8 (0), .int .u8 (0), .int .u8 (0), .int .u8 (0), .int .u8 (0)],false⟩
theorem Mn:ay prog 337 PD:=⟨ak (by kernel_rfl),underlying337,fun h=>nomatch h⟩
def PC:cI:=⟨.arr 20 205,20,160, .agg #[.int .u64 (0), .int .u64 (0), .int .u64 (0), .int .u64 (0), .int .u64 (0), .int .u64 (0), .int .u64 (0), .int .u64 (0), .int .u64 (0), .int .u64 (0), .int .u64 (0), .int .u64 (0), .int .u64 (0), .int .u64 (0), .int .u64 (0), .int .u64 (0), .int .u64 (0), .int .u64 (0), .int .u64 (0), .int .u64 (0)],false⟩
theorem Mm:ay prog 343 PC:=⟨ak (by kernel_rfl),underlying343,fun h=>nomatch h⟩
def PB:cI:=⟨.arr 65 5,65,65, .agg #[.int .u8 (0), .int .u8 (0), .int .u8 (0), .int .u8 (0), .int .u8 (0), .int .u8 (0), .int .u8 (0), .int .u8 (0), .int .u8 (0), .int .u8 (0), .int .u8 (0), .int .u8 (0), .int .u8 (0), .int .u8 (0), .int .u8 (0), .int .u8 (0), .int .u8 (0), .int .u8 (0), .int .u8 (0), .int .u8 (0), .int .u8 (0), .int .u8 (0), .int .u8 (0), .int .u8 (0), .int .u8 (0), .int .u8 (0), .int .u8 (0), .int .u8 (0), .int .u8 (0), .int .u8 (0), .int .u8 (0), .int .u8 (0), .int .u8 (0), .int .u8 (0), .int .u8 (0), .int .u8 (0), .int .u8 (0), .int .u8 (0), .int .u8 (0), .int .u8 (0), .int .u8 (0), .int .u8 (0), .int .u8 (0), .int .u8 (0), .int .u8 (0), .int .u8 (0), .int .u8 (0), .int .u8 (0), .int .u8 (0), .int .u8 (0), .int .u8 (0), .int .u8 (0), .int .u8 (0), .int .u8 (0), .int .u8 (0), .int .u8 (0), .int .u8 (0), .int .u8 (0), .int .u8 (0), .int .u8 (0), .int .u8 (0), .int .u8 (0), .int .u8 (0), .int .u8 (0), .int .u8 (0)],false⟩
theorem Ml:ay prog 344 PB:=⟨ak (by kernel_rfl),underlying344,fun h=>nomatch h⟩
def PA:cI:=⟨.arr 32 5,32,32, .agg #[.int .u8 (0), .int .u8 (0), .int .u8 (0), .int .u8 (0), .int .u8 (0), .int .u8 (0), .int .u8 (0), .int .u8 (0), .int .u8 (0), .int .u8 (0), .int .u8 (0), .int .u8 (0), .int .u8 (0), .int .u8 (0), .int .u8 (0), .int .u8 (0), .int .u8 (0), .int .u8 (0), .int .u8 (0), .int .u8 (0), .int .u8 (0), .int .u8 (0), .int .u8 (0), .int .u8 (0), .int .u8 (0), .int .u8 (0), .int .u8 (0), .int .u8 (0), .int .u8 (0), .int .u8 (0), .int .u8 (0), .int .u8 (0)],false⟩
theorem Mk:ay prog 345 PA:=⟨ak (by kernel_rfl),underlying345,fun h=>nomatch h⟩
def Pz:cI:=⟨.arr 64 5,64,64, .agg #[.int .u8 (0), .int .u8 (0), .int .u8 (0), .int .u8 (0), .int .u8 (0), .int .u8 (0), .int .u8 (0), .int .u8 (0), .int .u8 (0), .int .u8 (0), .int .u8 (0), .int .u8 (0), .int .u8 (0), .int .u8 (0), .int .u8 (0), .int .u8 (0), .int .u8 (0), .int .u8 (0), .int .u8 (0), .int .u8 (0), .int .u8 (0), .int .u8 (0), .int .u8 (0), .int .u8 (0), .int .u8 (0), .int .u8 (0), .int .u8 (0), .int .u8 (0), .int .u8 (0), .int .u8 (0), .int .u8 (0), .int .u8 (0), .int .u8 (0), .int .u8 (0), .int .u8 (0), .int .u8 (0), .int .u8 (0), .int .u8 (0), .int .u8 (0), .int .u8 (0), .int .u8 (0), .int .u8 (0), .int .u8 (0), .int .u8 (0), .int .u8 (0), .int .u8 (0), .int .u8 (0), .int .u8 (0), .int .u8 (0), .int .u8 (0), .int .u8 (0), .int .u8 (0), .int .u8 (0), .int .u8 (0), .int .u8 (0), .int .u8 (0), .int .u8 (0), .int .u8 (0), .int .u8 (0), .int .u8 (0), .int .u8 (0), .int .u8 (0), .int .u8 (0), .int .u8 (0)],false⟩
theorem Mj:ay prog 346 Pz:=⟨ak (by kernel_rfl),underlying346,fun h=>nomatch h⟩
def I6:TT:=(.node (.node (.node (.node (.node (.node (.node .leaf 2 ty2 .leaf) 3 ty3 .leaf) 4 ty4 (.node (.node .leaf 5 ty5 .leaf) 9 ty9 .leaf)) 21 TX (.node (.node (.node .leaf 22 TV .leaf) 23 TU .leaf) 25 TR (.node (.node .leaf 28 TQ .leaf) 30 TP .leaf))) 32 TO (.node (.node (.node (.node .leaf 33 TN .leaf) 35 TM .leaf) 37 TL (.node (.node .leaf 47 TJ .leaf) 49 TI .leaf)) 53 TH (.node (.node (.node .leaf 56 TG .leaf) 71 TF .leaf) 73 TE (.node .leaf 74 TD .leaf)))) 76 TC (.node (.node (.node (.node (.node .leaf 80 TB .leaf) 83 TA .leaf) 84 Tz (.node (.node .leaf 88 Tx .leaf) 91 Tw .leaf)) 92 Tv (.node (.node (.node .leaf 94 Tu .leaf) 98 Tt .leaf) 99 Ts (.node (.node .leaf 101 Qy .leaf) 103 Qx .leaf))) 105 Qw (.node (.node (.node (.node .leaf 110 Qv .leaf) 113 Qu .leaf) 143 Qt (.node (.node .leaf 148 Qs .leaf) 151 Qr .leaf)) 155 Qq (.node (.node (.node .leaf 156 Qp .leaf) 164 Qo .leaf) 166 Qn (.node .leaf 167 Qm .leaf))))) 179 Ql (.node (.node (.node (.node (.node (.node .leaf 181 Qk .leaf) 185 Qj .leaf) 186 Qi (.node (.node .leaf 195 Qh .leaf) 203 Qg .leaf)) 205 Qf (.node (.node (.node .leaf 207 Qe .leaf) 215 Qd .leaf) 217 Qc (.node (.node .leaf 218 Qb .leaf) 220 Qa .leaf))) 222 P9 (.node (.node (.node (.node .leaf 233 P8 .leaf) 237 P7 .leaf) 241 P6 (.node (.node .leaf 242 P5 .leaf) 243 P4 .leaf)) 245 P3 (.node (.node (.node .leaf 247 P2 .leaf) 252 P1 .leaf) 253 P0 (.node .leaf 254 PZ .leaf)))) 255 PY (.node (.node (.node (.node (.node .leaf 257 PX .leaf) 263 PW .leaf) 265 PU (.node (.node .leaf 271 PS .leaf) 273 PR .leaf)) 274 PQ (.node (.node (.node .leaf 276 PO .leaf) 278 PN .leaf) 280 PM (.node .leaf 284 PL .leaf))) 289 PK (.node (.node (.node (.node .leaf 306 PJ .leaf) 307 PI .leaf) 320 PH (.node (.node .leaf 325 PG .leaf) 327 PF .leaf)) 337 PD (.node (.node (.node .leaf 343 PC .leaf) 344 PB .leaf) 345 PA (.node .leaf 346 Pz .leaf))))))
theorem Eo:I6.Ri (ay prog):=⟨M7,⟨Rx,⟨RI,⟨RP,⟨Tp,⟨Tq,⟨Tr,ac,ac⟩,ac⟩,⟨Tn,⟨To,ac,ac⟩,ac⟩⟩,⟨RL,⟨RN,⟨RO,ac,ac⟩,ac⟩,⟨RJ,⟨RK,ac,ac⟩,ac⟩⟩⟩,⟨RC,⟨RF,⟨RG,⟨RH,ac,ac⟩,ac⟩,⟨RD,⟨RE,ac,ac⟩,ac⟩⟩,⟨Rz,⟨RA,⟨RB,ac,ac⟩,ac⟩,⟨Ry,ac,ac⟩⟩⟩⟩,⟨Nj,⟨Rr,⟨Ru,⟨Rv,⟨Rw,ac,ac⟩,ac⟩,⟨Rs,⟨Rt,ac,ac⟩,ac⟩⟩,⟨Ro,⟨Rp,⟨Rq,ac,ac⟩,ac⟩,⟨Nk,⟨Nl,ac,ac⟩,ac⟩⟩⟩,⟨Nc,⟨Ng,⟨Nh,⟨Ni,ac,ac⟩,ac⟩,⟨Nd,⟨Nf,ac,ac⟩,ac⟩⟩,⟨M9,⟨Na,⟨Nb,ac,ac⟩,ac⟩,⟨M8,ac,ac⟩⟩⟩⟩⟩,⟨MF,⟨MQ,⟨MW,⟨MZ,⟨M5,⟨M6,ac,ac⟩,ac⟩,⟨MX,⟨MY,ac,ac⟩,ac⟩⟩,⟨MT,⟨MU,⟨MV,ac,ac⟩,ac⟩,⟨MR,⟨MS,ac,ac⟩,ac⟩⟩⟩,⟨MK,⟨MN,⟨MO,⟨MP,ac,ac⟩,ac⟩,⟨ML,⟨MM,ac,ac⟩,ac⟩⟩,⟨MH,⟨MI,⟨MJ,ac,ac⟩,ac⟩,⟨MG,ac,ac⟩⟩⟩⟩,⟨Mt,⟨My,⟨MC,⟨MD,⟨ME,ac,ac⟩,ac⟩,⟨Mz,⟨MA,ac,ac⟩,ac⟩⟩,⟨Mv,⟨Mw,⟨Mx,ac,ac⟩,ac⟩,⟨Mu,ac,ac⟩⟩⟩,⟨Mn,⟨Mq,⟨Mr,⟨Ms,ac,ac⟩,ac⟩,⟨Mo,⟨Mp,ac,ac⟩,ac⟩⟩,⟨Mk,⟨Ml,⟨Mm,ac,ac⟩,ac⟩,⟨Mj,ac,ac⟩⟩⟩⟩⟩⟩
def pn:Ty:=I6.find
theorem ab:cz prog pn:=TT.n6 Eo
theorem cv:prog.follows .mixedOrders=true:=rfl
theorem nX{Q:AQ}{nt:Nat}{k:List KI}{s:AS}{C:Prop}{a0:Nat}{st:Stop}(h:b5 pn ⟨fun _=>none,0,false⟩ 400 nt k s True=some (C,a0,st))(hC:C)(hg:iN prog a0 Q st):GO prog nt k Q s:=aR cv ab 400 h hC hg
theorem gA{Q:AQ}{nt:Nat}{k:List KI}{s:AS}{C:Prop}{a0:Nat}{st:Stop}(h:b5 pn ⟨fun _=>none,0,false⟩ 400 nt k s True=some (C,a0,st))(hg:iN prog a0 Q st)
  (hC:C:=by(repeat' (first|exact ac|exact rfl|exact aH.refl _|exact aH.bk (by assumption)|apply XA))<;>first|omega|exact kF (fun _=>rfl) _|(simp only[Xp];omega)|(simp;done)|(simp;omega)):GO prog nt k Q s:=aR cv ab 400 h hC hg
theorem gM(N:Nat){Q:AQ}{nt:Nat}{k:List KI}{s:AS}{C:Prop}{a0:Nat}{st:Stop}(h:b5 pn ⟨fun _=>none,0,false⟩ N nt k s True=some (C,a0,st))(hg:iN prog a0 Q st)
  (hC:C:=by(repeat' (first|exact ac|exact rfl|exact aH.refl _|exact aH.bk (by assumption)|apply XA))<;>first|omega|exact kF (fun _=>rfl) _|(simp only[Xp];omega)|(simp;done)|(simp;omega)):GO prog nt k Q s:=aR cv ab N h hC hg
theorem zp{nt:Nat}{Q:AQ}{k:List KI}{s:AS}{all rest:List Oper}{o:Oper}{c:Call}{g:FuncId}{args:List PV}{r:PV}{s':AS}(hc:Al.Pure prog g args r)(h:GO prog nt (.ops all rest::k) Q s')(ho:o.op= .call c:=by exact rfl)(hg:o.guard=none:=by exact rfl)(ha:bK s.f c=some (g,args):=by exact rfl)(hl:bs 0 args=true:=by exact rfl)(hr:r.low 0=true:=by exact rfl)(hp:putDst nt o r s=some s':=by exact rfl):GO prog nt (.ops all (o::rest)::k) Q s:=bn hc ho hg ha hl hr hp h
theorem zL{ty:Ty}{rl:List ResultVar}{e:Exit}{s:AS}{r r0:PV}(a0:aH r0 r)(he:e= .normal∨e= .ret:=by first|exact .inr Z|exact .inl Z)(h:lS ty s rl=some r0:=by exact rfl):FE ty rl r e s:=jG he h a0
theorem zq{nt:Nat}{Q:AQ}{k:List KI}{s:AS}{all rest:List Oper}{o:Oper}{c:Call}{g:FuncId}{asv args:List PV}{os:List AO}{r:PV}{h':AH}{n':Nat}{s':AS}(L:List Nat)(hc:b8 prog g args os r h' n')(h:GO prog nt (.ops all rest::k) Q s')(ho:o.op= .call c:=by exact rfl)(hg:o.guard=none:=by exact rfl)(ha:bK s.f c=some (g,asv):=by exact rfl)(hn:bN L=true:=by exact rfl)(hl:L.all (fun j=>Xi j s.nx)=true:=by exact rfl)(b0:L.map s.h.get=os.map fun o=>some (o.c7 (sig L s.nx)):=by exact rfl)(a0:asv=dS (sig L s.nx) args:=by exact rfl)(hp:putDst nt o (r.c7 (sig L s.nx)) (aM s L h' n')=some s':=by exact rfl):GO prog nt (.ops all (o::rest)::k) Q s:=ja L hc ho hg ha hn hl b0 a0 hp h
theorem zd{nt:Nat}{Q:AQ}{k:List KI}{s:AS}{all:List Oper}{todo pend:List (Nat×Oper)}{j:Nat}{o:Oper}{c:Call}{g:FuncId}{asv args:List PV}{os:List AO}{r:PV}{h':AH}{n':Nat}{s':AS}{CA C2:Prop}(L:List Nat)(hc:b8 prog g args os r h' n')(h:GO prog nt (.cJ all (todo.filter fun x=>!Xn x.1 j) (bg pend o)::k) Q s')(hrd:ey todo=[(j,o)]:=by exact rfl)(ho:o.op= .call c:=by exact rfl)(ha:bK s.f c=some (g,asv):=by exact rfl)(hn:bN L=true:=by exact rfl)(hl:L.all (fun j=>Xi j s.nx)=true:=by exact rfl)(b0:L.map s.h.get=os.map fun o=>some (o.c7 (sig L s.nx)):=by exact rfl)(a0:asv=dS (sig L s.nx) args:=by exact rfl)(hp:putDst nt o (r.c7 (sig L s.nx)) (aM s L h' n')=some s':=by exact rfl)(hg:cC nt all s.f o=some true:=by exact rfl)(hpb:iD all pend o=true:=by exact rfl)(hE:n8 todo [j]=true:=by exact rfl)(hag:qC pn nt all s todo pend=some CA:=by exact rfl)(hCA:CA:=by(repeat' (first|exact ac|exact rfl|exact aH.refl _|exact aH.bk (by assumption)|apply XA))<;>first|omega|(simp only[Xp];omega)|(simp;done)|(simp;omega))(hag2:dD pn nt all s' (bg pend o)=some C2:=by exact rfl)(hC2:C2:=by(repeat' (first|exact ac|exact rfl|exact aH.refl _|exact aH.bk (by assumption)|apply XA))<;>first|omega|(simp only[Xp];omega)|(simp;done)|(simp;omega)):GO prog nt (.cJ all todo pend::k) Q s:=tV ab L hc hrd ho ha hn hl b0 a0 hp hg hpb hE hag hCA hag2 hC2 h
theorem nB{nt:Nat}{Q:AQ}{k:List KI}{s:AS}{all:List Oper}{todo pend:List (Nat×Oper)}{j:Nat}{o:Oper}{c:Call}{g:FuncId}{asv args:List PV}{r:PV}{s':AS}{CA C2:Prop}(hc:Al.Pure prog g args r)(h:GO prog nt (.cJ all (todo.filter fun x=>!Xn x.1 j) (bg pend o)::k) Q s')(hrd:ey todo=[(j,o)]:=by exact rfl)(ho:o.op= .call c:=by exact rfl)(ha:bK s.f c=some (g,asv):=by exact rfl)(a0:asv=dS (sig [] s.nx) args:=by exact rfl)(hp:putDst nt o (r.c7 (sig [] s.nx)) (aM s [] [] 0)=some s':=by exact rfl)(hg:cC nt all s.f o=some true:=by exact rfl)(hpb:iD all pend o=true:=by exact rfl)(hE:n8 todo [j]=true:=by exact rfl)(hag:qC pn nt all s todo pend=some CA:=by exact rfl)(hCA:CA:=by(repeat' (first|exact ac|exact rfl|exact aH.refl _|exact aH.bk (by assumption)|apply XA))<;>first|omega|(simp only[Xp];omega)|(simp;done)|(simp;omega))(hag2:dD pn nt all s' (bg pend o)=some C2:=by exact rfl)(hC2:C2:=by(repeat' (first|exact ac|exact rfl|exact aH.refl _|exact aH.bk (by assumption)|apply XA))<;>first|omega|(simp only[Xp];omega)|(simp;done)|(simp;omega)):GO prog nt (.cJ all todo pend::k) Q s:=tV ab [] hc.Vq hrd ho ha Z Z Z a0 hp hg hpb hE hag hCA hag2 hC2 h
theorem zW{n0:Nat}{L:List Nat}{s t:AS}(hh:rr t.nx (sg n0 L) s.h t.h)(h1:Xn t.nx (n0+L.length)=true:=by exact rfl)(h2:YQ n0 s.nx=true:=by exact rfl)(h3:L.all (fun j=>Xi j s.nx)=true:=by exact rfl)(hf:FI t.nx (sg n0 L) s.f t.f:=by repeat' (first|exact ac|exact aH.refl _|exact rfl|apply XA))(h4:bN (ef (sg n0 L) t.h)=true:=by exact rfl):Wk n0 L s t:=wk h1 h2 h3 hf hh h4
theorem zM{n0:Nat}{L:List Nat}{s t:AS}(hf:FI t.nx (sg n0 L) s.f t.f)(hh:rr t.nx (sg n0 L) s.h t.h)(h1:Xn t.nx (n0+L.length)=true:=by exact rfl)(h2:YQ n0 s.nx=true:=by exact rfl)(h3:L.all (fun j=>Xi j s.nx)=true:=by exact rfl)(h4:bN (ef (sg n0 L) t.h)=true:=by exact rfl):Wk n0 L s t:=wk h1 h2 h3 hf hh h4
theorem zK{n i:Nat}{σ:Nat->Nat}{h r:AH}{cs:List PV}{T0:Option TypeId}{c:List IV}(hr:rr n σ h r)(ho:h.get (σ i)=some (.cells cs T0):=by exact rfl)(he:cs=c.map .iv:=by exact rfl)(hi:Xi i n=true:=by exact rfl):rr n σ h ((i,some (an c))::r):=hC ho he hi hr
theorem zS{n i:Nat}{σ:Nat->Nat}{h r:AH}{α:Type}{sz:Nat}{es:List (List PV)}{l:List α}{f:α->List IV}(hr:rr n σ h r)(ho:h.get (σ i)=some (.row sz es):=by exact rfl)(he:es=l.map fun x=>(f x).map .iv:=by exact rfl)(hi:Xi i n=true:=by exact rfl):rr n σ h ((i,some (aD sz l f))::r):=hR ho he hi hr
theorem zI{a b:Prop}(l:a)(r:b):a∧b:=⟨l,r⟩
theorem zO{n i:Nat}{σ:Nat->Nat}{h r:AH}{o:AO}(hr:rr n σ h r)(he: ∃p,h.get (σ i)=some p∧fQ p (o.c7 σ):=by exact⟨_,rfl, .of_eq Z⟩)(hi:i<n:=by exact WR Z)(hl:o.low n:=by exact rfl):rr n σ h ((i,some o)::r):=⟨he,hi,hl,hr⟩
theorem zT{p:Prop}[Decidable p](h:decide p=true):p:=of_decide_eq_true h
theorem zF{p:Prop}[Decidable p](h:decide p=false): ¬p:=of_decide_eq_false h
theorem zN{a b:Nat}(h:decide ((a:Int)<(b:Int))=true):a<b:=Int.ofNat_lt.1 (of_decide_eq_true h)
theorem zG{a b:Nat}(h:decide ((a:Int)<(b:Int))=false):b<=a:=YY fun hh=>absurd (Int.ofNat_lt.2 hh) (of_decide_eq_false h)
end Go.Proofs.YtflegjieadkonaaGreatDoor
namespace Go.Proofs.YtflegjieadkonaaGreatDoor
open Go Go.Al
abbrev aj:=ByteArray
structure tg where
 kind:Int
 num:Int
 sym:aj
 deriving Inhabited,DecidableEq
structure Term where
 kind:Int
 var:aj
 val:tg
 deriving Inhabited,DecidableEq
inductive Expr where
 |mk (kind:Int) (var:aj) (val:tg) (op:Int) (args:List Expr)
instance:Inhabited Expr:=⟨.mk 0 W4 ⟨0,0,W4⟩ 0 []⟩
def Expr.kind:Expr->Int| .mk k _ _ _ _=>k
def Expr.var:Expr->aj| .mk _ v _ _ _=>v
def Expr.val:Expr->tg| .mk _ _ v _ _=>v
def Expr.op:Expr->Int| .mk _ _ _ o _=>o
def Expr.args:Expr->List Expr| .mk _ _ _ _ a=>a
structure Atom where
 rel:aj
 ae:List Term
 deriving Inhabited,DecidableEq
structure Pos where
 line:Int
 G6:Int
 deriving Inhabited,DecidableEq
inductive Lit where
 |mk (kind:Int) (atom:Atom) (op:Int) (left right:Expr) (dP:Int) (bp:aj) (km:Expr) (ar:List Lit) (at_:Pos)
instance:Inhabited Lit:=⟨.mk 0 default 0 default default 0 W4 default [] ⟨0,0⟩⟩
def Lit.kind:Lit->Int| .mk k _ _ _ _ _ _ _ _ _=>k
def Lit.atom:Lit->Atom| .mk _ a _ _ _ _ _ _ _ _=>a
def Lit.op:Lit->Int| .mk _ _ o _ _ _ _ _ _ _=>o
def Lit.left:Lit->Expr| .mk _ _ _ l _ _ _ _ _ _=>l
def Lit.right:Lit->Expr| .mk _ _ _ _ r _ _ _ _ _=>r
def Lit.dP:Lit->Int| .mk _ _ _ _ _ f _ _ _ _=>f
def Lit.bp:Lit->aj| .mk _ _ _ _ _ _ v _ _ _=>v
def Lit.km:Lit->Expr| .mk _ _ _ _ _ _ _ o _ _=>o
def Lit.ar:Lit->List Lit| .mk _ _ _ _ _ _ _ _ b _=>b
def Lit.at:Lit->Pos| .mk _ _ _ _ _ _ _ _ _ p=>p
structure eQ where
 func:Int
 var:aj
 dT:Expr
 body:List Lit
 deriving Inhabited
def Lit.agg(l:Lit):eQ:=⟨l.dP,l.bp,l.km,l.ar⟩
structure aq where
 head:Atom
 body:List Lit
 at_:Pos
 deriving Inhabited
structure Decl where
 name:aj
 types:List Int
 at_:Pos
 deriving Inhabited
structure Prog where
 aB:List Decl
 rules:List aq
 deriving Inhabited
structure Fact where
 rel:aj
 args:List tg
 deriving Inhabited
def tg.c(v:tg):List IV:=[iI v.kind,iI v.num,iS v.sym]
def Term.c(t:Term):List IV:=[iI t.kind,iS t.var,iI t.val.kind,iI t.val.num,iS t.val.sym]
def cW(s:aj):List IV:=[iS s]
def ba(n:Int):List IV:=[iI n]
abbrev strs(l:List aj):IV:=dy 1 l cW
def Atom.c(a:Atom):List IV:=[iS a.rel,dy 5 a.ae Term.c]
mutual
def Expr.cr:Expr->List IV
 | .mk k v val op args=> [iI k,iS v,iI val.kind,iI val.num,iS val.sym,iI op, .dq 7 args.length (fun j=>(Expr.BI args).getD j [])]
def Expr.BI:List Expr->List (List IV)
 | []=> []
 |e::r=>e.cr::Expr.BI r
end
def Expr.c(e:Expr):List IV:=[iI e.kind,iS e.var,iI e.val.kind,iI e.val.num,iS e.val.sym,iI e.op, .dq 7 e.args.length (fun j=>(Expr.BI e.args).getD j [])]
def Expr.c1(e:Expr):List IV:=[iI e.kind,iS e.var,iI e.val.kind,iI e.val.num,iS e.val.sym,iI e.op,dy 7 e.args Expr.c]
theorem Expr.Lt(e:Expr):e.cr=e.c:=by cases e;rfl
theorem Expr.sY: ∀(l:List Expr) (k:Nat),k<l.length->(Expr.BI l).getD k []=(l.getD k default).c
 |e::r,0,_=>by simp[Expr.BI,Expr.Lt]
 |e::r,k+1,h=>by simpa[Expr.BI]using Expr.sY r k (by simpa using h)
 | [],k,h=>by simp at h
theorem SI(e:Expr):nA (.dq 7 e.args.length (fun j=>(Expr.BI e.args).getD j [])) (dy 7 e.args Expr.c):= .dq Z (Expr.sY e.args)
theorem G0(e:Expr):nA (dy 7 e.args Expr.c) (.dq 7 e.args.length (fun j=>(Expr.BI e.args).getD j [])):= .dq Z (fun k hk=>(Expr.sY e.args k hk).symm)
mutual
def Lit.cr:Lit->List IV
 | .mk kind atom op left right dP bp km ar at_=>
  iI kind::(atom.c++(iI op::(left.c++(right.c++(iI dP::iS bp::(km.c++ [.dq 30 ar.length (fun j=>(Lit.BI ar).getD j []),iI at_.line,iI at_.G6]))))))
def Lit.BI:List Lit->List (List IV)
 | []=> []
 |e::r=>e.cr::Lit.BI r
end
def Lit.cw(l:Lit)(b:IV):List IV:=
 [iI l.kind,iS l.atom.rel,dy 5 l.atom.ae Term.c,iI l.op,
  iI l.left.kind,iS l.left.var,iI l.left.val.kind,iI l.left.val.num,iS l.left.val.sym,iI l.left.op, .dq 7 l.left.args.length (fun j=>(Expr.BI l.left.args).getD j []),
  iI l.right.kind,iS l.right.var,iI l.right.val.kind,iI l.right.val.num,iS l.right.val.sym,iI l.right.op, .dq 7 l.right.args.length (fun j=>(Expr.BI l.right.args).getD j []),
  iI l.dP,iS l.bp,
  iI l.km.kind,iS l.km.var,iI l.km.val.kind,iI l.km.val.num,iS l.km.val.sym,iI l.km.op, .dq 7 l.km.args.length (fun j=>(Expr.BI l.km.args).getD j []),
  b,iI l.at.line,iI l.at.G6]
def uh(l:List Lit):IV:= .dq 30 l.length (fun j=>(Lit.BI l).getD j [])
def Lit.c(l:Lit):List IV:=l.cw (uh l.ar)
abbrev lits(l:List Lit):IV:=dy 30 l Lit.c
def Lit.c1(l:Lit):List IV:=l.cw (lits l.ar)
theorem Lit.Lt(e:Lit):e.cr=e.c:=by cases e;rfl
theorem Lit.sY: ∀(l:List Lit) (k:Nat),k<l.length->(Lit.BI l).getD k []=(l.getD k default).c
 |e::r,0,_=>by simp[Lit.BI,Lit.Lt]
 |e::r,k+1,h=>by simpa[Lit.BI]using Lit.sY r k (by simpa using h)
 | [],k,h=>by simp at h
theorem kP(l:List Lit):nA (uh l) (lits l):= .dq Z (Lit.sY l)
theorem E2(l:List Lit):nA (lits l) (uh l):= .dq Z (fun k hk=>(Lit.sY l k hk).symm)
def eQ.cw(a:eQ)(b:IV):List IV:=[iI a.func,iS a.var,iI a.dT.kind,iS a.dT.var,iI a.dT.val.kind,iI a.dT.val.num,iS a.dT.val.sym,iI a.dT.op, .dq 7 a.dT.args.length (fun j=>(Expr.BI a.dT.args).getD j []),b]
def eQ.c(a:eQ):List IV:=a.cw (uh a.body)
def eQ.c1(a:eQ):List IV:=a.cw (lits a.body)
def aq.c(r:aq):List IV:=[iS r.head.rel,dy 5 r.head.ae Term.c,lits r.body,iI r.at_.line,iI r.at_.G6]
def Decl.c(r:Decl):List IV:=[iS r.name,dy 1 r.types ba,iI r.at_.line,iI r.at_.G6]
def Prog.c(p:Prog):List IV:=[dy 4 p.aB Decl.c,dy 5 p.rules aq.c]
def Fact.c(f:Fact):List IV:=[iS f.rel,dy 3 f.args tg.c]
theorem Expr.xG(e:Expr):aH (ag e.c) (ag e.c1):= .agg ⟨.refl _, .refl _, .refl _, .refl _, .refl _, .refl _, .iv (SI e),ac⟩
theorem Expr.Ic(e:Expr):aH (ag e.c1) (ag e.c):= .agg ⟨.refl _, .refl _, .refl _, .refl _, .refl _, .refl _, .iv (G0 e),ac⟩
theorem Lit.G5(l:Lit){b b':IV}(h:nA b b'):aH (ag (l.cw b)) (ag (l.cw b')):=
 .agg ⟨.refl _, .refl _, .refl _, .refl _, .refl _, .refl _, .refl _, .refl _, .refl _, .refl _, .refl _, .refl _, .refl _, .refl _, .refl _, .refl _, .refl _, .refl _, .refl _, .refl _, .refl _, .refl _, .refl _, .refl _, .refl _, .refl _, .refl _, .iv h, .refl _, .refl _,ac⟩
theorem Lit.xG(l:Lit):aH (ag l.c) (ag l.c1):=l.G5 (kP _)
theorem eQ.G5(l:eQ){b b':IV}(h:nA b b'):aH (ag (l.cw b)) (ag (l.cw b')):=
 .agg ⟨.refl _, .refl _, .refl _, .refl _, .refl _, .refl _, .refl _, .refl _, .refl _, .iv h,ac⟩
theorem eQ.xG(l:eQ):aH (ag l.c) (ag l.c1):=l.G5 (kP _)
theorem eQ.Ic(l:eQ):aH (ag l.c1) (ag l.c):=l.G5 (E2 _)
mutual
def Expr.size:Expr->Nat
 | .mk _ _ _ _ args=>1+Expr.ax args
def Expr.ax:List Expr->Nat
 | []=>0
 |e::r=>e.size+Expr.ax r
end
mutual
def Lit.size:Lit->Nat
 | .mk _ a _ l r _ _ o b _=>2+a.ae.length+l.size+r.size+o.size+Lit.ax b
def Lit.ax:List Lit->Nat
 | []=>0
 |e::r=>e.size+Lit.ax r
end
theorem Expr.size_eq(e:Expr):e.size=1+Expr.ax e.args:=by cases e;rfl
theorem Lit.size_eq(l:Lit):l.size=2+l.atom.ae.length+l.left.size+l.right.size+l.km.size+Lit.ax l.ar:=by cases l;rfl
theorem Expr.aT: ∀(l:List Expr) (k:Nat),k<l.length->(l.getD k default).size<=Expr.ax l
 |e::r,0,_=>by simp[Expr.ax]
 |e::r,k+1,h=>by
  have:=Expr.aT r k (by simpa using h);simp only[Yk,Expr.ax];omega
 | [],k,h=>by simp at h
theorem Lit.aT: ∀(l:List Lit) (k:Nat),k<l.length->(l.getD k default).size<=Lit.ax l
 |e::r,0,_=>by simp[Lit.ax]
 |e::r,k+1,h=>by
  have:=Lit.aT r k (by simpa using h);simp only[Yk,Lit.ax];omega
 | [],k,h=>by simp at h
theorem Expr.size_pos(e:Expr):1<=e.size:=by rw[e.size_eq];omega
theorem Lit.size_pos(e:Lit):2<=e.size:=by rw[e.size_eq];omega
theorem Expr.aw: ∀(l:List Expr),l.length<=Expr.ax l
 | []=>W0 _
 |e::r=>by have:=e.size_pos;have:=Expr.aw r;simp only[Xx,Expr.ax];omega
theorem Lit.aw: ∀(l:List Lit),l.length<=Lit.ax l
 | []=>W0 _
 |e::r=>by have:=e.size_pos;have:=Lit.aw r;simp only[Xx,Lit.ax];omega
def aq.size(r:aq):Nat:=r.head.ae.length+Lit.ax r.body
end Go.Proofs.YtflegjieadkonaaGreatDoor
namespace Go.Proofs.YtflegjieadkonaaGreatDoor
open Go Go.Al Go.Proofs.Tryz
def cj(l:List aj)(s:aj):Bool:=l.any fun x=>decide (x=s)
theorem LD(l:List aj)(s:aj):Pure prog 212 [.iv (strs l),pS s] (pB (cj l s)):=by
 refine pE (bI func212 Z (by decide)) ⟨_,_,Xd⟩ fun a0=>?_;simp only[maxLen]at a0;refine ad ab func212 Z (by decide) ntmps212 Z (by simp) Z ?_;refine aR cv ab 100 Z ac ?_;refine aA 0 l.length (W3 _) (fun i=>⟨[(0, .iv (strs l)),(1,pS s),(5,pI i)],[],0⟩) (fun i=>cj (l.take i) s=false) [] Z (mH Z Z (bv (bv (bv ac))) Z) fun i hi hJ=>?_;refine aR cv ab 100 Z ac ?_;refine zI (fun h1=>?_) (fun h1=>?_)
 ·have h1:=ci h1;refine aR cv ab 100 Z ⟨ac,by omega⟩ ?_;refine zI (fun h2=>?_) (fun h2=>?_)
  ·refine aR cv ab 100 Z ac ?_;refine jG (.inr Z) Z (.of_eq ?_);rw[cj,kn h1 h2]
  ·refine aR cv ab 100 Z ⟨ac,by unfold iO;omega⟩ ?_;exact⟨h1,(bq hJ h1).2 h2,[],mH Z Z (bv (bv (bv ac))) Z⟩
 ·have h1:=co h1;refine aR cv ab 100 Z ac ?_;refine jG (.inr Z) Z (.of_eq ?_);rw[cj,any_none hJ h1]
def bJ(s:aj)(a:List aj×Bool)(x:aj):List aj×Bool:=
 if(a.2||decide (x=s))=false∧(!(Op.bytesLess x.toList s.toList||decide (x=s)))=true then(a.1++ [s]++ [x],true) else(a.1++ [x],a.2||decide (x=s))
def bR(l:List aj)(s:aj):List aj:=
 let r:=l.foldl (bJ s) ([],false)
 if r.2 then r.1 else r.1++ [s]
def ik(l:List aj)(s:aj)(i:Nat):List aj×Bool:=(l.take i).foldl (bJ s) ([],false)
theorem rX{l:List aj}{s:aj}{i:Nat}(h:i<l.length):ik l s (i+1)=bJ s (ik l s i) (l.getD i default):=cR h
theorem rY{l:List aj}{s:aj}{i:Nat}(h:l.length<=i):bR l s=if(ik l s i).2 then(ik l s i).1 else(ik l s i).1++ [s]:=by
 simp only[ik,qW h];rfl
theorem AA(s:aj)(a:List aj×Bool)(x:aj)(n:Nat)(h:a.1.length<=n+(if a.2 then 1 else 0)):(bJ s a x).1.length<=(n+1)+(if(bJ s a x).2 then 1 else 0):=by
 obtain⟨a1,a2⟩:=a;simp only[bJ];cases a2<;>cases hd:decide (x=s)<;>simp only[Ya,Zq,Yn,if_false,if_true,YR,Zr,false_and,true_and,reduceCtorEq]at h ⊢ <;>(try split)<;>simp at h ⊢ <;>omega
theorem qG(l:List aj)(s:aj): ∀i,i<=l.length->(ik l s i).1.length<=i+(if(ik l s i).2 then 1 else 0)
 |0,_=>by simp[ik]
 |i+1,h=>by
  rw[rX (by omega)];exact AA s _ _ i (qG l s i (by omega))
theorem O9(l:List aj)(s:aj)(hb:l.length<=1000000000000):Pure prog 111 [.iv (strs l),pS s] (.iv (strs (bR l s))):=by
 refine ad ab func111 Z (by decide) ntmps111 Z (by simp) Z ?_;refine aR cv ab 100 Z ac ?_;refine fb 5 1 Z ?_;refine aA 0 l.length (W3 _) (fun i=>⟨[(0, .iv (strs l)),(1,pS s),(5, .sl 1 0 (ik l s i).1.length 1),(6,pB (ik l s i).2),(7,pI i)],[(1,some (aD 1 (ik l s i).1 cW))],2⟩) (fun _=>True) [0] ac
  (zM (bv (bv (bv ⟨.te Z,rfl,bv trivial⟩))) (zS trivial)) fun i hi hJ=>?_
 have b0:=qG l s i hi;have c0:(ik l s i).1.length<=i+1:=by split at b0<;>omega
 refine aR cv ab 100 Z ac ?_;refine zI (fun h1=>?_) (fun h1=>?_)
 ·have h1:=ci h1;have hs:=rX (s:=s) h1;simp only[bJ]at hs;refine aR cv ab 100 Z ⟨ac,by omega⟩ ?_;refine zI (fun h2=>?_) (fun h2=>?_)
  ·have h2:decide (l.getD i default=s)=true:=h2;rw[h2,Zr,be (by simp)]at hs;refine aR cv ab 300 Z ?_ ⟨h1,ac,[3],zM (bv (bv ⟨.row (by rw[hs];simp),rfl,.te (by rw[hs]),rfl,bv ac⟩)) (hR Z (by rw[hs];simp;rfl) Z ac)⟩
   repeat' (first|exact ac|exact rfl|apply XA)
   all_goals first|omega|(simp;omega)|simp
  ·have h2:decide (l.getD i default=s)=false:=h2;rw[h2,YR,YR]at hs;refine aR cv ab 300 Z ac ?_;refine zI (fun h3=>?_) (fun h3=>?_)
   ·have a0:(ik l s i).2=false:=by simpa using h3
    refine aR cv ab 300 Z ?_ ?_
    ·repeat' (first|exact ac|exact rfl|apply XA)
     all_goals omega
    refine zI (fun h4=>?_) (fun h4=>?_)
    ·have h4:(!(Op.bytesLess (l.getD i default).toList s.toList||decide (l.getD i default=s)))=true:=h4;rw[h2,YR]at h4;rw[am ⟨a0,h4⟩]at hs;refine aR cv ab 300 Z ?_ ⟨h1,ac,[5],zM (bv (bv ⟨.row (by rw[hs];simp),rfl,.te (by rw[hs]),rfl,bv ac⟩)) (hR Z (by rw[hs,WZ,WZ];rfl) Z ac)⟩
     repeat' (first|exact ac|exact rfl|apply XA)
     all_goals first|omega|(simp;omega)|simp
    ·have h4:(!(Op.bytesLess (l.getD i default).toList s.toList||decide (l.getD i default=s)))=false:=h4;rw[h2,YR]at h4;rw[be (by rw[h4];simp)]at hs;refine aR cv ab 300 Z ?_ ⟨h1,ac,[3],zM (bv (bv ⟨.row (by rw[hs];simp),rfl,.of_eq (by rw[hs];rfl),rfl,bv ac⟩)) (hR Z (by rw[hs];simp;rfl) Z ac)⟩
     repeat' (first|exact ac|exact rfl|apply XA)
     all_goals first|omega|(simp;omega)|simp
   ·have a0:(ik l s i).2=true:=by simpa using h3
    rw[be (by rw[a0];simp)]at hs;refine aR cv ab 300 Z ?_ ⟨h1,ac,[3],zM (bv (bv ⟨.row (by rw[hs];simp),rfl,.of_eq (by rw[hs];rfl),rfl,bv ac⟩)) (hR Z (by rw[hs];simp;rfl) Z ac)⟩
    repeat' (first|exact ac|exact rfl|apply XA)
    all_goals first|omega|(simp;omega)|simp
 ·have h1:=co h1;have hs:=rY (s:=s) h1;refine aR cv ab 100 Z ac ?_;refine zI (fun h2=>?_) (fun h2=>?_)
  ·have h2:(ik l s i).2=false:=by simpa using h2
   rw[h2,be (by simp)]at hs;refine aR cv ab 300 Z ?_ (cU (.inr Z) Z Z (by rw[hs];simp;rfl) (by rw[hs];simp))
   repeat' (first|exact ac|exact rfl|apply XA)
   all_goals first|omega|(simp;omega)|simp
  ·have h2:(ik l s i).2=true:=by simpa using h2
   rw[h2,am Z]at hs;refine aR cv ab 300 Z ac (cU (.inr Z) Z Z (by rw[hs]) (by rw[hs]))
theorem jR(l:List aj)(s:aj):(bR l s).length<=l.length+1:=by
 have h:=qG l s l.length (W0 _);rw[rY (W0 _)];split
 ·rename_i h1;rw[h1]at h;simpa using h
 ·rename_i h1;simp[h1]at h;simp;omega
def cm(l m:List aj):List aj:=m.foldl bR l
theorem eG: ∀(m l:List aj),(cm l m).length<=l.length+m.length
 | [],l=>by simp[cm]
 |x::r,l=>by
  have h1:=jR l x;have h2:=eG r (bR l x);simp only[cm,Xq,Xx]at h2 ⊢;omega
theorem uv(l m:List aj)(i:Nat):(cm l (m.take i)).length<=l.length+m.length:=by
 have:=eG (m.take i) l;have h2:(m.take i).length<=m.length:=by simp;omega
 omega
theorem AB{l m:List aj}{i:Nat}(h:i<m.length):cm l (m.take (i+1))=bR (cm l (m.take i)) (m.getD i default):=cR h
theorem Tc(l m:List aj)(hb:l.length+m.length<=1000000000000):Pure prog 120 [.iv (strs l), .iv (strs m)] (.iv (strs (cm l m))):=by
 refine ad ab func120 Z (by decide) ntmps120 Z (by simp) Z ?_;refine aR cv ab 100 Z ac ?_;refine aA 0 m.length (W3 _) (fun i=>⟨[(0, .iv (strs (cm l (m.take i)))),(1, .iv (strs m)),(5,pI i)],[],0⟩) (fun _=>True) [] ac (mH Z Z (bv (bv (bv ac))) Z) fun i hi hJ=>?_;have hl:=uv l m i;refine aR cv ab 100 Z ac ?_;refine zI (fun h1=>?_) (fun h1=>?_)
 ·have h1:=ci h1;refine aR cv ab 100 Z ⟨ac,by omega⟩ (bn (O9 _ _ (by omega)) Z Z Z Z Z Z ?_);refine aR cv ab 100 Z ⟨ac,by unfold iO;omega⟩ ?_;exact⟨h1,ac,[],mH Z Z ⟨.of_eq (by rw[AB h1];rfl),rfl,bv (bv ac)⟩ Z⟩
 ·have h1:=co h1;refine aR cv ab 100 Z ac (jG (.inr Z) Z (.of_eq ?_));rw[W2 h1];rfl
theorem VP(s:aj):Pure prog 111 [.iv (.v (.slice none 0 0)),pS s] (.iv (strs (bR [] s))):=(O9 [] s (by decide)).le ⟨.nil _ _, .refl _,ac⟩
def kI(a:List aj)(t:Term):List aj:=if t.kind=1 then bR a t.var else a
def dx(a:Atom):List aj:=a.ae.foldl kI []
theorem Ep: ∀(l:List Term) (a:List aj),(l.foldl kI a).length<=a.length+l.length
 | [],a=>by simp
 |t::r,a=>by
  have h:=Ep r (kI a t);have h2:(kI a t).length<=a.length+1:=by
   unfold kI;split
   ·exact jR _ _
   ·omega
  simp only[Xq,Xx];omega
theorem jI(a:Atom):(dx a).length<=a.ae.length:=by have:=Ep a.ae [];simpa[dx]using this
theorem UR(a:Atom)(hb:a.ae.length<=1000000000000):Pure prog 77 [ag a.c] (.iv (strs (dx a))):=by
 refine ad ab func77 Z (by decide) ntmps77 Z (by simp) Z ?_;refine aR cv ab 100 Z ac ?_;refine aA 0 a.ae.length (W3 _) (fun i=>⟨[(1, .ptr 0 0),(3, .iv (strs ((a.ae.take i).foldl kI []))),(4,pI i)],[(0,some (an a.c))],1⟩) (fun _=>True) [] ac
  (zM (bv ⟨.nil _ _,rfl,bv trivial⟩) (zK trivial)) fun i hi hJ=>?_
 have hl:=Ep (a.ae.take i) [];simp only[YB,XH]at hl;refine aR cv ab 100 Z ac ?_;refine zI (fun h1=>?_) (fun h1=>?_)
 ·have h1:=ci h1;have hs:=cR (g:=kI) (b:=[]) h1;simp only[kI]at hs;refine aR cv ab 100 Z ⟨ac,by omega⟩ ?_;refine zI (fun h2=>?_) (fun h2=>?_)
  ·have h2:(a.ae.getD i default).kind=1:=zT h2;rw[am h2]at hs;refine aR cv ab 100 Z ⟨ac,by omega⟩ (bn (O9 _ _ (by omega)) Z Z Z Z Z Z ?_);refine aR cv ab 100 Z ⟨ac,by unfold iO;omega⟩ ?_;exact⟨h1,ac,[],zM (bv ⟨.of_eq (by simp only[hs];rfl),rfl,bv ac⟩) (zK ac)⟩
  ·have h2: ¬(a.ae.getD i default).kind=1:=zF h2;rw[be h2]at hs;refine aR cv ab 100 Z ⟨ac,by unfold iO;omega⟩ ?_;exact⟨h1,ac,[],zM (bv ⟨.of_eq (by simp only[hs];rfl),rfl,bv ac⟩) (zK ac)⟩
 ·have h1:=co h1;refine aR cv ab 100 Z ac (jG (.inr Z) Z (.of_eq ?_));rw[W2 h1];rfl
mutual
def aS:Expr->List aj
 | .mk k v _ _ args=>if k=1 then bR [] v else if k=4 then fW [] args else[]
def fW(a:List aj):List Expr->List aj
 | []=>a
 |e::r=>fW (cm a (aS e)) r
end
theorem lr: ∀(l:List Expr) (a:List aj),fW a l=l.foldl (fun a e=>cm a (aS e)) a
 | [],_=>rfl
 |e::r,a=>by simp only[fW,Xq];exact lr r _
theorem vG(e:Expr):aS e=if e.kind=1 then bR [] e.var else if e.kind=4 then e.args.foldl (fun a e=>cm a (aS e)) [] else[]:=by
 cases e with
 |mk k v val op args=>simp only[aS,Expr.kind,Expr.var,Expr.args,lr];rfl
mutual
theorem eP: ∀e:Expr,(aS e).length<=e.size
 | .mk k v _ _ args=>by
  simp only[aS,Expr.size];split
  ·have:=jR [] v;simp at this;omega
  ·split
   ·have:=nv args [];simp at this;omega
   ·simp
theorem nv: ∀(l:List Expr) (a:List aj),(fW a l).length<=a.length+Expr.ax l
 | [],a=>by simp[fW,Expr.ax]
 |e::r,a=>by
  have h1:=nv r (cm a (aS e));have h2:=eG (aS e) a;have h3:=eP e;simp only[fW,Expr.ax];omega
end
theorem Expr.lQ: ∀(l:List Expr) (i:Nat),Expr.ax (l.take i)<=Expr.ax l
 | [],i=>by simp
 |e::r,0=>by simp[Expr.ax]
 |e::r,i+1=>by have:=Expr.lQ r i;simp only[Yh,Expr.ax];omega
theorem Lit.lQ: ∀(l:List Lit) (i:Nat),Lit.ax (l.take i)<=Lit.ax l
 | [],i=>by simp
 |e::r,0=>by simp[Lit.ax]
 |e::r,i+1=>by have:=Lit.lQ r i;simp only[Yh,Lit.ax];omega
theorem Expr.cO: ∀(l:List Expr) (i:Nat),i<l.length->Expr.ax (l.take i)+(l.getD i default).size<=Expr.ax l
 |e::r,0,_=>by simp[Expr.ax]
 |e::r,i+1,h=>by have:=Expr.cO r i (by simpa using h);simp only[Yh,Yk,Expr.ax];omega
 | [],i,h=>by simp at h
theorem Lit.cO: ∀(l:List Lit) (i:Nat),i<l.length->Lit.ax (l.take i)+(l.getD i default).size<=Lit.ax l
 |e::r,0,_=>by simp[Lit.ax]
 |e::r,i+1,h=>by have:=Lit.cO r i (by simpa using h);simp only[Yh,Yk,Lit.ax];omega
 | [],i,h=>by simp at h
abbrev VD(a:List aj)(e:Expr):List aj:=cm a (aS e)
theorem Vc: ∀(n:Nat) (e:Expr),e.size<=n->e.size<=1000000000000->Pure prog 141 [ag e.c] (.iv (strs (aS e)))
 |0,e,h,_=>by have:=e.size_pos;omega
 |n+1,e,h,hb=>by
  refine Pure.le (args:=[ag e.c1]) ?_ ⟨e.xG,ac⟩;have he:=vG e;refine ad ab func141 Z (by decide) ntmps141 Z (by simp) Z ?_;refine aR cv ab 100 Z ac ?_;refine zI (fun h1=>?_) (fun h1=>?_)
  ·have h1:e.kind=1:=zT h1;rw[am h1]at he;refine aR cv ab 100 Z ac (bn (VP _) Z Z Z Z Z Z ?_);refine aR cv ab 100 Z ac (jG (.inr Z) Z (.of_eq ?_));rw[he];rfl
  have h1: ¬e.kind=1:=zF h1;rw[be h1]at he;refine aR cv ab 100 Z ac ?_;refine zI (fun h2=>?_) (fun h2=>?_)
  ·have h2: ¬e.kind=4:=by simpa using h2
   rw[be h2]at he;refine aR cv ab 100 Z ac (jG (.inr Z) Z ?_);rw[he];exact .nil _ _
  have h2:e.kind=4:=by simpa using h2
  rw[am h2]at he;have d0:=e.size_eq;refine aR cv ab 100 Z ac ?_;refine aA 0 e.args.length (W3 _) (fun i=>⟨[(1, .ptr 0 0),(3, .iv (strs ((e.args.take i).foldl VD []))),(4,pI i)],[(0,some (an e.c1))],1⟩) (fun _=>True) [] ac
   (zM (bv ⟨.nil _ _,rfl,bv trivial⟩) (zK trivial)) fun i hi hJ=>?_
  have c0:=Expr.aw e.args;refine aR cv ab 100 Z ac ?_;refine zI (fun h3=>?_) (fun h3=>?_)
  ·have h3:=ci h3;have hs:=cR (g:=VD) (b:=[]) h3;have hn:=Expr.cO e.args i h3;have hv:=nv (e.args.take i) [];rw[lr]at hv;have a0:=eP (e.args.getD i default);have b0:((e.args.take i).foldl VD []).length<=Expr.ax (e.args.take i):=by simpa using hv
   refine aR cv ab 100 Z ⟨ac,by omega⟩ (bn (Vc n (e.args.getD i default) (by omega) (by omega)) Z Z Z Z Z Z ?_);refine aR cv ab 100 Z ac (bn (Tc _ _ (by omega)) Z Z Z Z Z Z ?_);refine aR cv ab 100 Z ⟨ac,by unfold iO;omega⟩ ?_;exact⟨h3,ac,[],zM (bv ⟨.of_eq (by simp only[hs];rfl),rfl,bv ac⟩) (zK ac)⟩
  ·have h3:=co h3;refine aR cv ab 100 Z ac (jG (.inr Z) Z (.of_eq ?_));rw[W2 h3,he];rfl
theorem DW(e:Expr)(hb:e.size<=1000000000000):Pure prog 141 [ag e.c] (.iv (strs (aS e))):=Vc e.size e (W0 _) hb
def cf(l:Lit):List aj:=if l.kind=1∨l.kind=2 then dx l.atom else if l.kind=3 then cm (aS l.left) (aS l.right) else[]
theorem fU(l:Lit):(cf l).length+2<=l.size:=by
 have h1:=jI l.atom;have h2:=eP l.left;have h3:=eP l.right;have h4:=eG (aS l.right) (aS l.left);rw[l.size_eq];unfold cf;split
 ·omega
 ·split
  ·omega
  ·simp;omega
theorem Vr(l:Lit)(hb:l.size<=1000000000000):Pure prog 119 [ag l.c] (.iv (strs (cf l))):=by
 have a0:=l.size_eq;have h1:=eP l.left;have h2:=eP l.right;refine ad ab func119 Z (by decide) ntmps119 Z (by simp) Z ?_;refine aR cv ab 100 Z ac ?_;refine zI (fun k1=>?_) (fun k1=>?_)
 ·have k1:l.kind=1:=zT k1;refine aR cv ab 100 Z ac (bn (UR l.atom (by omega)) Z Z Z Z Z Z ?_);refine aR cv ab 100 Z ac (jG (.inr Z) Z (.of_eq ?_));rw[cf,am (.inl k1)];rfl
 have k1: ¬l.kind=1:=zF k1;refine aR cv ab 100 Z ac ?_;refine zI (fun k2=>?_) (fun k2=>?_)
 ·have k2:l.kind=2:=zT k2;refine aR cv ab 100 Z ac (bn (UR l.atom (by omega)) Z Z Z Z Z Z ?_);refine aR cv ab 100 Z ac (jG (.inr Z) Z (.of_eq ?_));rw[cf,am (.inr k2)];rfl
 have k2: ¬l.kind=2:=zF k2;refine aR cv ab 100 Z ac ?_;refine zI (fun k3=>?_) (fun k3=>?_)
 ·have k3:l.kind=3:=zT k3;refine aR cv ab 100 Z ac (bn (DW l.left (by omega)) Z Z Z Z Z Z ?_);refine aR cv ab 100 Z ac (bn (DW l.right (by omega)) Z Z Z Z Z Z ?_);refine aR cv ab 100 Z ac (bn (Tc _ _ (by omega)) Z Z Z Z Z Z ?_);refine aR cv ab 100 Z ac (jG (.inr Z) Z (.of_eq ?_));rw[cf,be (by simp[k1,k2]),am k3];rfl
 ·have k3: ¬l.kind=3:=zF k3;refine aR cv ab 100 Z ac (jG (.inr Z) Z ?_);rw[cf,be (by simp[k1,k2]),be k3];exact .nil _ _
abbrev IN(a:List aj)(l:Lit):List aj:=cm a (cf l)
def aF(a:eQ):List aj:=a.body.foldl IN (if a.func=1 then[] else aS a.dT)
theorem wu: ∀(l:List Lit) (a:List aj),(l.foldl IN a).length<=a.length+Lit.ax l
 | [],a=>by simp[Lit.ax]
 |e::r,a=>by
  have h1:=wu r (IN a e);have h2:(IN a e).length<=_:=eG (cf e) a;have h3:=fU e;simp only[Xq,Lit.ax];omega
def eQ.size(a:eQ):Nat:=a.dT.size+Lit.ax a.body
theorem iK(a:eQ):(aF a).length<=a.size:=by
 have h:=wu a.body (if a.func=1 then[] else aS a.dT);have h2:=eP a.dT;unfold aF eQ.size;split at h<;>rename_i h3<;>simp[h3]at h ⊢ <;>omega
theorem UQ(a:eQ)(hb:a.size<=1000000000000):Pure prog 118 [ag a.c] (.iv (strs (aF a))):=by
 refine Pure.le (args:=[ag a.c1]) ?_ ⟨a.xG,ac⟩;have c0:=eP a.dT;unfold eQ.size at hb;refine ad ab func118 Z (by decide) ntmps118 Z (by simp) Z ?_;refine aR cv ab 100 Z ac ?_;refine zI (fun h1=>?_) (fun h1=>?_)
 ·have h1: ¬a.func=1:=by simpa using h1
  have hin:aF a=a.body.foldl IN (aS a.dT):=by unfold aF;rw[be h1]
  refine aR cv ab 100 Z ac (bn (DW a.dT (by omega)) Z Z Z Z Z Z ?_);refine aR cv ab 100 Z ac ?_;refine aA 0 a.body.length (W3 _) (fun i=>⟨[(1, .ptr 0 0),(3, .iv (strs ((a.body.take i).foldl IN (aS a.dT)))),(4,pI i)],[(0,some (an a.c1))],1⟩) (fun _=>True) [] ac
   (zW (zK trivial)) fun i hi hJ=>?_
  have b0:=Lit.aw a.body;refine aR cv ab 100 Z ac ?_;refine zI (fun h3=>?_) (fun h3=>?_)
  ·have h3:=ci h3;have hs:=cR (g:=IN) (b:=aS a.dT) h3;have hn:=Lit.cO a.body i h3;have hv:=wu (a.body.take i) (aS a.dT);have a0:=fU (a.body.getD i default);refine aR cv ab 100 Z ⟨ac,by omega⟩ (bn (Vr (a.body.getD i default) (by omega)) Z Z Z Z Z Z ?_);refine aR cv ab 100 Z ac (bn (Tc _ _ (by omega)) Z Z Z Z Z Z ?_);refine aR cv ab 100 Z ⟨ac,by unfold iO;omega⟩ ?_;exact⟨h3,ac,[],zM (bv ⟨.of_eq (by simp only[hs];rfl),rfl,bv ac⟩) (zK ac)⟩
  ·have h3:=co h3;refine aR cv ab 100 Z ac (jG (.inr Z) Z (.of_eq ?_));rw[W2 h3,hin];rfl
 ·have h1:a.func=1:=by simpa using h1
  have hin:aF a=a.body.foldl IN []:=by unfold aF;rw[am h1]
  refine aR cv ab 100 Z ac ?_;refine aA 0 a.body.length (W3 _) (fun i=>⟨[(1, .ptr 0 0),(3, .iv (strs ((a.body.take i).foldl IN []))),(4,pI i)],[(0,some (an a.c1))],1⟩) (fun _=>True) [] ac
   (zM (bv ⟨.nil _ _,rfl,bv trivial⟩) (zK trivial)) fun i hi hJ=>?_
  have b0:=Lit.aw a.body;refine aR cv ab 100 Z ac ?_;refine zI (fun h3=>?_) (fun h3=>?_)
  ·have h3:=ci h3;have hs:=cR (g:=IN) (b:=[]) h3;have hn:=Lit.cO a.body i h3;have hv:=wu (a.body.take i) [];have a0:=fU (a.body.getD i default);simp only[YB]at hv;refine aR cv ab 100 Z ⟨ac,by omega⟩ (bn (Vr (a.body.getD i default) (by omega)) Z Z Z Z Z Z ?_);refine aR cv ab 100 Z ac (bn (Tc _ _ (by omega)) Z Z Z Z Z Z ?_);refine aR cv ab 100 Z ⟨ac,by unfold iO;omega⟩ ?_;exact⟨h3,ac,[],zM (bv ⟨.of_eq (by simp only[hs];rfl),rfl,bv ac⟩) (zK ac)⟩
  ·have h3:=co h3;refine aR cv ab 100 Z ac (jG (.inr Z) Z (.of_eq ?_));rw[W2 h3,hin];rfl
end Go.Proofs.YtflegjieadkonaaGreatDoor
namespace Go.Proofs.YtflegjieadkonaaGreatDoor
open Go Go.Al
def xY(n:Int):IV:= .v (.int .i64 n)
def Vp(p:PV):Int:=match p with
 | .iv (.v (.int _ n))=>n
 |_=>0
abbrev NM:=List ((KC.str).K×Int)
abbrev c9(m:NM):AO:= .map .str xY 0 (.int .i64 0) Vp m
abbrev td(m:NM):IV:= .fw .str xY 0 (.int .i64 0) m
theorem gK: ∀M,IR M (xY 0) (.int .i64 0):=fun _=> .v _
def bump(m:NM)(s:aj):NM:=b6 .str m s (bQ .str m s 0+1)
def aJ(l:List aj):NM:=l.foldl bump []
theorem dU(l:List aj)(s:aj):aJ (l++ [s])=bump (aJ l) s:=by simp[aJ]
section
variable {V:Type}
theorem iG{m:List ((KC.str).K×V)}{s t:aj}{v z:V}:bQ .str (b6 .str m s v) t z=if s=t then v else bQ .str m t z:=by
 induction m with
 |nil=>simp only[b6,bQ]
 |cons x r ih=>
  obtain⟨a,b⟩:=x;simp only[b6];by_cases h:a=s
  ·rw[am h];simp only[bQ];by_cases h2:s=t
   ·simp[h2]
   ·have: ¬a=t:=fun e=>h2 (h▸e)
    rw[be h2,be h2,be this]
  ·rw[be h];simp only[bQ,ih];by_cases h2:a=t
   ·have: ¬s=t:=fun e=>h (h2.trans e.symm)
    simp[h2,this]
   ·simp[h2]
theorem pX{m:List ((KC.str).K×V)}{t:aj}:dV .str m t=true↔t∈m.map Xl:=by
 induction m with
 |nil=>simp[dV]
 |cons x r ih=>
  obtain⟨a,b⟩:=x;simp only[dV,Xe,Xb];by_cases h:a=t
  ·simp[h]
  ·have: ¬t=a:=fun e=>h e.symm
   simp[h,this,ih]
theorem oL{m:List ((KC.str).K×V)}{s:aj}{v:V}(h:s∈m.map Xl):(b6 .str m s v).map Xl=m.map Xl:=by
 induction m with
 |nil=>simp at h
 |cons x r ih=>
  obtain⟨a,b⟩:=x;simp only[b6];by_cases h2:a=s
  ·rw[am h2];simp[h2]
  ·have: ¬s=a:=fun e=>h2 e.symm
   rw[be h2,Xe,ih (by simpa[this]using h)];rfl
theorem dN{m:List ((KC.str).K×V)}{s:aj}{v:V}(h:s∉m.map Xl):(b6 .str m s v).map Xl=m.map Xl++ [s]:=by
 induction m with
 |nil=>simp[b6]
 |cons x r ih=>
  obtain⟨a,b⟩:=x;simp only[Xe,Xb,not_or]at h;have: ¬a=s:=fun e=>h.1 e.symm;simp only[b6,be this,Xe,ih h.2];rfl
theorem xE{m:List ((KC.str).K×V)}{t:aj}{z:V}(h:t∉m.map Xl):bQ .str m t z=z:=by
 induction m with
 |nil=>rfl
 |cons x r ih=>
  obtain⟨a,b⟩:=x;simp only[Xe,Xb,not_or]at h;have: ¬a=t:=fun e=>h.1 e.symm;simp only[bQ,be this];exact ih h.2
end
theorem lP{α:Type}{p:List α->Prop}(h0:p [])(h1: ∀l a,p l->p (l++ [a]))(l:List α):p l:=by
 have key: ∀r:List α,p r.reverse:=by
  intro r
  induction r with
  |nil=>exact h0
  |cons a r ih=>rw[List.reverse_cons];exact h1 _ _ ih
 simpa using key l.reverse
def s8(l:List aj)(t:aj):Nat:=(l.filter fun x=>decide (x=t)).length
theorem DP(l m:List aj)(t:aj):s8 (l++m) t=s8 l t+s8 m t:=by simp[s8]
theorem iP(l:List aj)(t:aj):s8 l t<=l.length:=X6 _ _
theorem oc{l:List aj}{t:aj}:0<s8 l t↔t∈l:=by
 rw[s8,List.length_pos_iff_exists_mem];constructor
 ·rintro⟨x,hx⟩;obtain⟨h1,h2⟩:=Xs.1 hx;exact(zT h2)▸h1
 ·exact fun h=>⟨t,Xs.2 ⟨h,by simp⟩⟩
theorem qZ{l:List aj}{t:aj}:s8 l t=0↔t∉l:=by
 rw[<-oc];omega
theorem bL(l:List aj)(t:aj):bQ .str (aJ l) t 0=(s8 l t:Int):=by
 induction l using lP with
 |h0=>rfl
 |h1 l s ih=>
  rw[dU,bump,iG,DP];by_cases h:s=t
  ·subst h;rw[ih];simp[s8]
  ·rw[be h,ih];simp[h,s8]
theorem bY(l:List aj):((aJ l).map Xl).Nodup∧ ∀t:aj,t∈(aJ l).map Xl↔t∈l:=by
 induction l using lP with
 |h0=>simp[aJ]
 |h1 l s ih=>
  rw[dU,bump];obtain⟨h1,h2⟩:=ih;by_cases h:s∈(aJ l).map Xl
  ·rw[oL h];refine⟨h1,fun t=>?_⟩;rw[h2,W7,W5];exact⟨.inl,fun h3=>h3.elim id fun e=>e▸(h2 s).1 h⟩
  ·rw[dN h];refine⟨?_,fun t=>by rw[W7,h2,W7]⟩;rw[Yy];refine⟨h1,X5.2 ⟨Zs,XT⟩,fun a ha b hb e=>?_⟩;rw[W5]at hb;exact h ((e.trans hb)▸ha)
def da(a:Atom):List aj:=a.ae.flatMap fun t=>if t.kind=1 then[t.var] else[]
theorem b7{α β:Type}[Inhabited α]{l:List α}{f:α->List β}{i:Nat}(h:i<l.length):(l.take (i+1)).flatMap f=(l.take i).flatMap f++f (l.getD i default):=by
 rw[aN h,YT];simp
theorem xa: ∀l:List Term,(l.flatMap fun t=>if t.kind=1 then[t.var] else[]).length<=l.length
 | []=>by simp
 |t::r=>by
  have:=xa r;have h2:(if t.kind=1 then[t.var] else[]).length<=1:=by split<;>simp
  rw[XZ,WW,Xx];omega
theorem kD(a:Atom):(da a).length<=a.ae.length:=xa a.ae
theorem d88(occ:List aj)(a:Atom)(hb:occ.length+a.ae.length<=1000000000000):b8 Tryz.prog 135 [.mp 0,ag a.c] [c9 (aJ occ)] (.bT []) [(0,some (c9 (aJ (occ++da a))))] 1:=by
 refine aE ab Tryz.func135 Z (by decide) Tryz.ntmps135 Z (by simp) ?_;refine gA Z ?_;refine aA 0 a.ae.length (W3 _) (fun i=>⟨[(0, .mp 0),(3, .ptr 1 0),(7, .iv (dy 5 a.ae Term.c)),(8,pI a.ae.length),(9,pI i)],[(0,some (c9 (aJ (occ++(a.ae.take i).flatMap fun t=>if t.kind=1 then[t.var] else[]))))],2⟩) (fun _=>True) [] ac
  (zW (hM Z (by simp) Z trivial)) fun i hi _=>?_
 have hl:=xa (a.ae.take i);simp only[XH]at hl;refine gA Z (zI (fun h1=>?_) fun h1=>?_)
 ·have h1:=ci h1;have hs:=b7 (f:=fun t:Term=>if t.kind=1 then[t.var] else[]) h1;have b0:=bL (occ++(a.ae.take i).flatMap fun t=>if t.kind=1 then[t.var] else[]) (a.ae.getD i default).var;have a0:=iP (occ++(a.ae.take i).flatMap fun t=>if t.kind=1 then[t.var] else[]) (a.ae.getD i default).var;rw[WW]at a0;refine gA Z (zI (fun h2=>?_) fun h2=>?_)
  ·have h2:(a.ae.getD i default).kind=1:=by simpa using h2
   rw[am h2]at hs;refine gA Z ⟨h1,ac,[],zW (hM Z (by rw[hs,<-Xa,dU];rfl) Z ac)⟩
  ·have h2: ¬(a.ae.getD i default).kind=1:=by simpa using h2
   rw[be h2,XE]at hs;refine gA Z ⟨h1,ac,[],zW (hM Z (by rw[hs]) Z ac)⟩
 ·have h1:=co h1;have e0:a.ae.take i=a.ae:=W2 h1;refine gA Z (aC [] (by first|exact .inr Z|exact .inl Z) Z (zW (hM Z (by rw[e0];rfl) Z ac)))
end Go.Proofs.YtflegjieadkonaaGreatDoor
namespace Go.Proofs.YtflegjieadkonaaGreatDoor
open Go Go.Al Go.Proofs.Tryz
mutual
def cN:Expr->List aj
 | .mk k v _ _ args=>if k=1 then[v] else if k=4 then iM args else[]
def iM:List Expr->List aj
 | []=> []
 |e::r=>cN e++iM r
end
theorem qh: ∀l:List Expr,iM l=l.flatMap cN
 | []=>rfl
 |e::r=>by simp only[iM,XZ,qh r]
theorem Fq(e:Expr):cN e=if e.kind=1 then[e.var] else if e.kind=4 then e.args.flatMap cN else[]:=by
 cases e with
 |mk k v val op args=>simp only[cN,Expr.kind,Expr.var,Expr.args,qh];rfl
mutual
theorem jo: ∀e:Expr,(cN e).length<=e.size
 | .mk k v _ _ args=>by
  have:=oN args;simp only[cN,Expr.size];split
  ·simp
  ·split
   ·omega
   ·simp
theorem oN: ∀l:List Expr,(iM l).length<=Expr.ax l
 | []=>by simp[iM]
 |e::r=>by
  have h1:=jo e;have h2:=oN r;simp only[iM,Expr.ax,WW];omega
end
theorem d135: ∀(n:Nat) (e:Expr) (occ:List aj),e.size<=n->occ.length+e.size<=1000000000000->b8 prog 178 [.mp 0,ag e.c] [c9 (aJ occ)] (.bT []) [(0,some (c9 (aJ (occ++cN e))))] 1
 |0,e,_,h,_=>by have:=e.size_pos;omega
 |n+1,e,occ,h,hb=>by
  refine b8.le (args:=[.mp 0,ag e.c1]) ?_ ⟨.refl _,e.xG,ac⟩;have he:=Fq e;have d0:=e.size_eq;have c0:=bL occ e.var;have a0:=iP occ e.var;refine aE ab func178 Z (by decide) ntmps178 Z (by simp) ?_;refine gA Z (zI (fun h1=>?_) fun h1=>?_)
  ·have h1:e.kind=1:=by simpa using h1
   rw[am h1]at he;refine gA Z (aC [] (by first|exact .inr Z|exact .inl Z) Z (zW (hM Z (by rw[he,dU];rfl) Z ac)))
  have h1: ¬e.kind=1:=by simpa using h1
  rw[be h1]at he;refine gA Z (zI (fun h2=>?_) fun h2=>?_)
  ·have h2:e.kind=4:=by simpa using h2
   rw[am h2]at he;refine gA Z ?_;refine aA 0 e.args.length (W3 _) (fun i=>⟨[(0, .mp 0),(3, .ptr 1 0),(18, .iv (dy 7 e.args Expr.c)),(19,pI e.args.length),(20,pI i)],[(0,some (c9 (aJ (occ++(e.args.take i).flatMap cN))))],2⟩) (fun _=>True) [] ac
    (zW (hM Z (by simp) Z trivial)) fun i hi _=>?_
   have b0:=Expr.aw e.args;refine gA Z (zI (fun h3=>?_) fun h3=>?_)
   ·have h3:=ci h3;have hs:=b7 (f:=cN) h3;have hn:=Expr.cO e.args i h3;have hv:=oN (e.args.take i);rw[qh]at hv;refine gA Z (ja [0] (d135 n (e.args.getD i default) _ (by omega) (by rw[WW];omega)) Z Z Z Z Z Z Z Z ?_);refine gA Z ⟨h3,ac,[],zW (hM Z (by rw[hs,Xa]) Z ac)⟩
   ·have h3:=co h3;have e0:e.args.take i=e.args:=W2 h3;refine gA Z (aC [] (by first|exact .inr Z|exact .inl Z) Z (zW (hM Z (by rw[he,e0]) Z ac)))
  ·have h2: ¬e.kind=4:=by simpa using h2
   rw[be h2]at he;refine gA Z (aC [] (by first|exact .inr Z|exact .inl Z) Z (zW (hM Z (by rw[he,XE]) Z ac)))
theorem Lq(e:Expr)(occ:List aj)(hb:occ.length+e.size<=1000000000000):b8 prog 178 [.mp 0,ag e.c] [c9 (aJ occ)] (.bT []) [(0,some (c9 (aJ (occ++cN e))))] 1:=d135 e.size e occ (W0 _) hb
def cP(l:Lit):List aj:=if l.kind=1∨l.kind=2 then da l.atom else if l.kind=3 then cN l.left++cN l.right else[]
theorem oJ(l:Lit):(cP l).length+2<=l.size:=by
 have h1:=kD l.atom;have h2:=jo l.left;have h3:=jo l.right;rw[l.size_eq];unfold cP;split
 ·omega
 ·split
  ·rw[WW];omega
  ·simp;omega
theorem d89(l:Lit)(occ:List aj)(hb:occ.length+l.size<=1000000000000):b8 prog 136 [.mp 0,ag l.c] [c9 (aJ occ)] (.bT []) [(0,some (c9 (aJ (occ++cP l))))] 1:=by
 have b0:=l.size_eq;have h2:=jo l.left;refine aE ab func136 Z (by decide) ntmps136 Z (by simp) ?_;refine gA Z (zI (fun k1=>?_) fun k1=>?_)
 ·have k1:l.kind=1:=zT k1;have he:cP l=da l.atom:=am (.inl k1);refine gA Z (zq [0] (d88 occ l.atom (by omega)) ?_);refine gA Z (aC [] (by first|exact .inr Z|exact .inl Z) Z (zW (hM Z (by rw[he]) Z ac)))
 have k1: ¬l.kind=1:=zF k1;refine gA Z (zI (fun k2=>?_) fun k2=>?_)
 ·have k2:l.kind=2:=zT k2;have he:cP l=da l.atom:=am (.inr k2);refine gA Z (zq [0] (d88 occ l.atom (by omega)) ?_);refine gA Z (aC [] (by first|exact .inr Z|exact .inl Z) Z (zW (hM Z (by rw[he]) Z ac)))
 have k2: ¬l.kind=2:=zF k2;have a0:cP l=if l.kind=3 then cN l.left++cN l.right else[]:=be (by simp[k1,k2]);refine gA Z (zI (fun k3=>?_) fun k3=>?_)
 ·have k3:l.kind=3:=zT k3;rw[am k3]at a0;refine gA Z (zq [0] (Lq l.left occ (by omega)) ?_);refine gA Z (ja [0] (Lq l.right _ (by rw[WW];omega)) Z Z Z Z Z Z Z Z ?_);refine gA Z (aC [] (by first|exact .inr Z|exact .inl Z) Z (zW (hM Z (by rw[a0,Xa]) Z ac)))
 ·have k3: ¬l.kind=3:=zF k3;rw[be k3]at a0;refine gA Z (aC [] (by first|exact .inr Z|exact .inl Z) Z (zW (hM Z (by rw[a0,XE]) Z ac)))
def bj(a:eQ):List aj:=(if a.func=1 then[] else cN a.dT)++a.body.flatMap cP
theorem mS: ∀l:List Lit,(l.flatMap cP).length<=Lit.ax l
 | []=>by simp
 |e::r=>by
  have h1:=oJ e;have h2:=mS r;rw[XZ,WW];simp only[Lit.ax];omega
theorem Q5(e:Expr)(hb:e.size<=1000000000000):b8 prog 178 [.mp 0,ag e.c] [.fY] (.bT []) [(0,some (c9 (aJ (cN e))))] 1:=
 (Lq e [] (by simpa using hb)).QR ⟨⟨id,fun M N U w j hj=>⟨#[],0,hj,⟨rfl,by simp[aJ],by simp[aJ],by simp,by simp⟩,gK M⟩⟩,ac⟩
theorem VI(a:Atom)(hb:a.ae.length<=1000000000000):b8 prog 135 [.mp 0,ag a.c] [.fY] (.bT []) [(0,some (c9 (aJ (da a))))] 1:=
 (d88 [] a (by simpa using hb)).QR ⟨⟨id,fun M N U w j hj=>⟨#[],0,hj,⟨rfl,by simp[aJ],by simp[aJ],by simp,by simp⟩,gK M⟩⟩,ac⟩
theorem d127(a:eQ)(hb:a.size<=1000000000000):b8 prog 196 [ag a.c] [] (.mp 0) [(0,some (c9 (aJ (bj a))))] 1:=by
 refine b8.le (args:=[ag a.c1]) ?_ ⟨a.xG,ac⟩;unfold eQ.size at hb;have b0:=jo a.dT;have a0:=Lit.aw a.body;refine aE ab func196 Z (by decide) ntmps196 Z (by simp) ?_;refine gA Z (zI (fun h1=>?_) fun h1=>?_)
 ·have h1: ¬a.func=1:=by simpa using h1
  have hin:bj a=cN a.dT++a.body.flatMap cP:=by unfold bj;rw[be h1]
  refine gA Z (zq [1] (Q5 a.dT (by omega)) ?_);refine gA Z ?_;refine aA 0 a.body.length (W3 _) (fun i=>⟨[(3, .mp 1),(15, .iv (lits a.body)),(16,pI a.body.length),(17,pI i)],[(1,some (c9 (aJ (cN a.dT++(a.body.take i).flatMap cP))))],2⟩) (fun _=>True) [] ac
   (zW (hM Z (by simp) Z trivial)) fun i hi _=>?_
  refine gA Z (zI (fun h3=>?_) fun h3=>?_)
  ·have h3:=ci h3;have hs:=b7 (f:=cP) h3;have hn:=Lit.cO a.body i h3;have hv:=mS (a.body.take i);refine gA Z (ja [1] (d89 (a.body.getD i default) _ (by rw[WW];omega)) Z Z Z Z Z Z Z Z ?_);refine gA Z ⟨h3,ac,[],zW (hM Z (by rw[hs,Xa]) Z ac)⟩
  ·have h3:=co h3;have e0:a.body.take i=a.body:=W2 h3;refine gA Z (aC [1] (by first|exact .inr Z|exact .inl Z) Z (zW (hM Z (by rw[e0,hin]) Z ac)))
 ·have h1:a.func=1:=by simpa using h1
  have hin:bj a=a.body.flatMap cP:=by unfold bj;rw[am h1];rfl
  refine gA Z ?_;refine aA 0 a.body.length (W3 _) (fun i=>⟨[(3, .mp 1),(15, .iv (lits a.body)),(16,pI a.body.length),(17,pI i)],[(1,some (c9 (aJ ((a.body.take i).flatMap cP))))],2⟩) (fun _=>True) [] ac
   (zW (KF Z gK Z trivial)) fun i hi _=>?_
  refine gA Z (zI (fun h3=>?_) fun h3=>?_)
  ·have h3:=ci h3;have hs:=b7 (f:=cP) h3;have hn:=Lit.cO a.body i h3;have hv:=mS (a.body.take i);refine gA Z (ja [1] (d89 (a.body.getD i default) _ (by omega)) Z Z Z Z Z Z Z Z ?_);refine gA Z ⟨h3,ac,[],zW (hM Z (by rw[hs]) Z ac)⟩
  ·have h3:=co h3;have e0:a.body.take i=a.body:=W2 h3;refine gA Z (aC [1] (by first|exact .inr Z|exact .inl Z) Z (zW (hM Z (by rw[e0,hin]) Z ac)))
def ins:List aj->aj->List aj
 | [],s=> [s]
 |x::r,s=>if x=s then x::r else if Op.bytesLess x.toList s.toList=true then x::ins r s else s::x::r
theorem mv(s:aj): ∀(l a:List aj),l.foldl (bJ s) (a,true)=(a++l,true)
 | [],a=>by simp
 |x::r,a=>by
  have:bJ s (a,true) x=(a++ [x],true):=by simp[bJ]
  rw[Xq,this,mv s r];simp
theorem Ac(s:aj): ∀(l a:List aj),(if(l.foldl (bJ s) (a,false)).2 then(l.foldl (bJ s) (a,false)).1 else(l.foldl (bJ s) (a,false)).1++ [s])=a++ins l s
 | [],a=>by simp[ins]
 |x::r,a=>by
  by_cases h1:x=s
  ·have:bJ s (a,false) x=(a++ [x],true):=by simp[bJ,h1]
   rw[Xq,this,mv];simp[ins,h1]
  ·cases h2:Op.bytesLess x.toList s.toList with
   |true=>
    have:bJ s (a,false) x=(a++ [x],false):=by simp[bJ,h1,h2]
    rw[Xq,this,Ac s r];simp[ins,h1,h2]
   |false=>
    have:bJ s (a,false) x=(a++ [s]++ [x],true):=by simp[bJ,h1,h2]
    rw[Xq,this,mv];simp[ins,h1,h2]
theorem qF(l:List aj)(s:aj):bR l s=ins l s:=by
 have:=Ac s l [];simpa[bR]using this
theorem wA{x:aj}: ∀{l:List aj} {s:aj},x∈ins l s↔x∈l∨x=s
 | [],s=>by simp[ins]
 |y::r,s=>by
  simp only[ins];split
  ·rename_i h;subst h;simp;exact fun h=> .inl h
  ·split
   ·simp[wA (l:=r),or_assoc]
   ·simp;constructor
    ·rintro(h|h|h)
     ·exact .inr h
     ·exact .inl (.inl h)
     ·exact .inl (.inr h)
    ·rintro((h|h)|h)
     ·exact .inr (.inl h)
     ·exact .inr (.inr h)
     ·exact .inl h
theorem ch{x s:aj}{l:List aj}:x∈bR l s↔x∈l∨x=s:=by rw[qF];exact wA
theorem gC{x:aj}: ∀{m l:List aj},x∈cm l m↔x∈l∨x∈m
 | [],l=>by simp[cm]
 |y::r,l=>by
  have h:=gC (x:=x) (m:=r) (l:=bR l y);simp only[cm,Xq]at h ⊢;rw[h,ch,Xb,or_assoc]
theorem aQ{l:List aj}{s:aj}:cj l s=true↔s∈l:=by
 simp[cj]
theorem fm{l:List aj}{s:aj}:cj l s=false↔s∉l:=by
 rw[<-Yv,aQ]
def ly(l m:List aj):Bool:=m.all fun x=>cj l x
theorem LS{l m:List aj}:ly l m=true↔ ∀x∈m,x∈l:=by simp[ly,aQ]
theorem U8(l m:List aj):Pure prog 296 [.iv (strs l), .iv (strs m)] (pB (ly l m)):=by
 refine pE (bI func296 Z (by decide)) ⟨_,_,W8 _ Xd⟩ fun a0=>?_;simp only[maxLen]at a0;refine ad ab func296 Z (by decide) ntmps296 Z (by simp) Z ?_;refine gA Z ?_;refine aA 0 m.length (W3 _) (fun i=>⟨[(0, .iv (strs l)),(1, .iv (strs m)),(5,pI i)],[],0⟩) (fun i=>(m.take i).all (fun x=>cj l x)=true) [] Z (mH Z Z (bv (bv (bv ac))) Z) fun i hi hJ=>?_;refine gA Z (zI (fun h1=>?_) fun h1=>?_)
 ·have h1:=ci h1;refine gA Z (zp (LD l (m.getD i default)) ?_);refine gA Z (zI (fun h2=>?_) fun h2=>?_)
  ·refine gA Z (zL (.of_eq ?_));rw[ly,Ec h1 (by simpa using h2)];try rfl
  ·refine gA Z ?_;exact⟨h1,(um hJ h1).2 (by simpa using h2),[],mH Z Z (bv (bv (bv ac))) Z⟩
 ·have h1:=co h1;refine gA Z (zL (.of_eq ?_));rw[ly,Ed hJ h1];try rfl
def uP(a:List aj)(l:Lit):List aj:=if l.kind=4 then bR (cm a (cf l)) l.bp else cm a (cf l)
theorem CQ{a:List aj}{l:Lit}(h:l.kind=4):uP a l=bR (cm a (cf l)) l.bp:=am h
theorem CS{a:List aj}{l:Lit}(h: ¬l.kind=4):uP a l=cm a (cf l):=be h
def outer(r:aq):List aj:=r.body.foldl uP (dx r.head)
theorem J0(a:List aj)(l:Lit):(uP a l).length+1<=a.length+l.size:=by
 have h1:=eG (cf l) a;have h2:=fU l;have h3:=jR (cm a (cf l)) l.bp;unfold uP;split<;>omega
theorem rB: ∀(l:List Lit) (a:List aj),(l.foldl uP a).length<=a.length+Lit.ax l
 | [],a=>by simp[Lit.ax]
 |e::r,a=>by
  have h1:=rB r (uP a e);have h2:=J0 a e;simp only[Xq,Lit.ax];omega
theorem Td(r:aq)(hb:r.size<=1000000000000):Pure prog 87 [ag r.c] (.iv (strs (outer r))):=by
 have c0:=jI r.head;have d0:=Lit.aw r.body;unfold aq.size at hb;refine ad ab func87 Z (by decide) ntmps87 Z (by simp) Z ?_;refine gA Z (zp (UR r.head (by omega)) ?_);refine gA Z ?_;refine aA 0 r.body.length (W3 _) (fun i=>⟨[(1, .ptr 0 0),(3, .iv (strs ((r.body.take i).foldl uP (dx r.head)))),(4,pI i)],[(0,some (an r.c))],1⟩) (fun _=>True) [] ac
  (zW (zK trivial)) fun i hi hJ=>?_
 refine gA Z (zI (fun h3=>?_) fun h3=>?_)
 ·have h3:=ci h3;have hs:=cR (g:=uP) (b:=dx r.head) h3;have hn:=Lit.cO r.body i h3;have hv:=rB (r.body.take i) (dx r.head);have a0:=fU (r.body.getD i default);have b0:=eG (cf (r.body.getD i default)) ((r.body.take i).foldl uP (dx r.head));refine gA Z (zp (Vr (r.body.getD i default) (by omega)) ?_);refine gA Z (bn (Tc _ _ (by omega)) Z Z Z Z Z Z ?_);refine gA Z (zI (fun h4=>?_) fun h4=>?_)
  ·have h4:(r.body.getD i default).kind=4:=zT h4;rw[CQ h4]at hs;refine gA Z (bn (O9 _ _ (by omega)) Z Z Z Z Z Z ?_);refine gA Z ⟨h3,ac,[],zM (bv ⟨.of_eq (by rw[hs];rfl),rfl,bv ac⟩) (zK ac)⟩
  ·have h4: ¬(r.body.getD i default).kind=4:=zF h4;rw[CS h4]at hs;refine gA Z ⟨h3,ac,[],zM (bv ⟨.of_eq (by rw[hs];rfl),rfl,bv ac⟩) (zK ac)⟩
 ·have h3:=co h3;refine gA Z (zL (.of_eq ?_));rw[W2 h3];rfl
def eT(l:Lit):List aj:=cP l++if l.kind=4 then[l.bp] else[]
def az(r:aq):List aj:=da r.head++r.body.flatMap eT
theorem E3(l:Lit):(eT l).length+1<=l.size:=by
 have:=oJ l;unfold eT;rw[WW];split<;>simp<;>omega
theorem pT: ∀l:List Lit,(l.flatMap eT).length<=Lit.ax l
 | []=>by simp
 |e::r=>by
  have h1:=E3 e;have h2:=pT r;rw[XZ,WW];simp only[Lit.ax];omega
theorem tF(r:aq):(az r).length<=r.size:=by
 have h1:=pT r.body;have h2:=kD r.head;unfold az aq.size;rw[WW];omega
def Q9(r:aq):List IV:=[iS r.head.rel,dy 5 r.head.ae Term.c,lits r.body,iI r.at_.line,iI r.at_.G6,td (aJ (az r))]
abbrev c6(r:aq):IV:= .mf (Q9 r)
theorem c48(r:aq)(hb:r.size<=1000000000000):Pure prog 113 [ag r.c] (.iv (c6 r)):=by
 unfold aq.size at hb;have f0:=kD r.head;have d0:=Lit.aw r.body;refine ad ab func113 Z (by decide) ntmps113 Z (by simp) Z ?_;refine gA Z (zd [1] (VI r.head (by omega)) ?_);refine gA Z ?_
 refine aA 0 r.body.length (W3 _) (fun i=>⟨[(3, .ptr 2 0),(18, .iv (lits r.body)),(19,pI r.body.length),(20,pI i)],
   [(1,some (c9 (aJ (da r.head++(r.body.take i).flatMap eT)))),(2,some (.cells [pS r.head.rel, .iv (dy 5 r.head.ae Term.c), .iv (lits r.body),pI r.at_.line,pI r.at_.G6, .mp 1]))],3⟩) (fun _=>True) [] ac
  (zW (hM Z (by simp) Z (zO trivial))) fun i hi _=>?_
 refine gA Z (zI (fun h3=>?_) fun h3=>?_)
 ·have h3:=ci h3;have hs:=b7 (f:=eT) h3;have hn:=Lit.cO r.body i h3;have hv:=pT (r.body.take i);have c0:=oJ (r.body.getD i default);refine gA Z (tV ab [1] (d89 (r.body.getD i default) _ (by rw[WW];omega)) Z Z Z Z Z Z Z Z Z Z Z Z (by(repeat' (first|exact ac|exact rfl|exact aH.refl _|exact aH.bk (by assumption)|apply XA))<;>first|omega|(simp only[Xp];omega)|(simp;done)|(simp;omega)) Z (by(repeat' (first|exact ac|exact rfl|exact aH.refl _|exact aH.bk (by assumption)|apply XA))<;>first|omega|(simp only[Xp];omega)|(simp;done)|(simp;omega)) ?_);refine gA Z (zI (fun h4=>?_) fun h4=>?_)
  ·have h4:(r.body.getD i default).kind=4:=zT h4;have a0:eT (r.body.getD i default)=cP (r.body.getD i default)++ [(r.body.getD i default).bp]:=by unfold eT;rw[am h4]
   rw[a0]at hs;have g0:=bL (da r.head++(r.body.take i).flatMap eT++cP (r.body.getD i default)) (r.body.getD i default).bp;have b0:=iP (da r.head++(r.body.take i).flatMap eT++cP (r.body.getD i default)) (r.body.getD i default).bp;rw[WW,WW]at b0;refine gA Z ⟨h3,ac,[],zW (hM Z (by rw[hs,<-Xa,<-Xa,dU];rfl) Z (zO ac))⟩
  ·have h4: ¬(r.body.getD i default).kind=4:=zF h4;have a0:eT (r.body.getD i default)=cP (r.body.getD i default):=by unfold eT;rw[be h4,XE]
   rw[a0]at hs;refine gA Z ⟨h3,ac,[],zW (hM Z (by rw[hs,<-Xa]) Z (zO ac))⟩
 ·have h3:=co h3;have e0:r.body.take i=r.body:=W2 h3;refine nX Z ac (jH (.inr Z) Z (.map 1 Z (.cells 2 _ Z (show _=List.map PV.iv (Q9 r) by rw[e0];rfl) (.done (.of_eq Z)))))
def aW(occ:List aj)(e:Expr):Bool:=(cN e).all fun x=>cj occ x
theorem wD{l:List aj}{j:Nat}{x:(KC.str).K×Int}(h:(aJ l)[j]? =some x):x.1∈l:=
 ((bY l).2 x.1).1 (Xt.2 ⟨x,Xo h,rfl⟩)
theorem all_keys{l:List aj}{vs:List Nat}(h: ∀j,j<(aJ l).length->j∈vs){p:aj->Prop}(hp: ∀j∈vs,∀x,(aJ l)[j]? =some x->p x.1): ∀t∈l,p t:=by
 intro t ht;obtain⟨x,hx,rfl⟩:=Xt.1 (((bY l).2 t).2 ht);obtain⟨j,hj⟩:=XP hx;exact hp j (h j (WX.1 hj).1) x hj
theorem d125(occ:List aj)(e:Expr)(hb:e.size<=1000000000000):b8 prog 227 [.mp 0,ag e.c] [c9 (aJ occ)] (pB (aW occ e)) [(0,some (c9 (aJ occ)))] 1:=by
 refine aE ab func227 Z (by decide) ntmps227 Z (by simp) ?_;refine gA Z (zq [2] (Q5 e hb) ?_);refine gA Z ?_;refine gG (aJ (cN e)) (fun vs=>⟨[(0, .mp 0),(12, .ptr 3 0)],[(0,some (c9 (aJ occ))),(3,some (.bS .str xY (aJ (cN e)) vs none))],4⟩) (fun vs=> ∀j∈vs,∀x,(aJ (cN e))[j]? =some x->x.1∈occ) [] (by simp)
  (zW (hM Z Z Z (hI Z Z (.inl Z) Z trivial))) fun vs hJ=>?_
 refine nX Z ac (eN Z Z Z Z Z (by decide) (fun a0=>?_) fun j x hx hj=>?_)
 ·refine gA Z (aC [] (by first|exact .inr Z|exact .inl Z) Z (zM ⟨.of_eq (by rw[show aW occ e=true from Xm.2 fun t ht=>aQ.2 (all_keys a0 hJ t ht)];rfl),rfl,ac⟩ (hM Z Z Z ac)))
 ·have b0:=bL occ x.1;refine gA Z (zI (fun h1=>?_) fun h1=>?_)
  ·have h1:bQ .str (aJ occ) x.1 0=0:=zT h1;have h2:x.1∉occ:=qZ.1 (by rw[b0]at h1;omega);refine gA Z (aC [] (by first|exact .inr Z|exact .inl Z) Z (zM ⟨.of_eq (by rw[show aW occ e=false from Y4.2 ⟨x.1,wD hx,by rw[fm.2 h2];simp⟩];rfl),rfl,ac⟩ (hM Z Z Z ac)))
  ·have h1: ¬bQ .str (aJ occ) x.1 0=0:=zF h1;have h2:x.1∈occ:=oc.1 (by rw[b0]at h1;omega);refine gA Z ?_
   exact⟨j,x,hx,hj,fun i hi y hy=>by
    rcases Xb.1 hi with rfl|hi
    ·rw[hx]at hy;cases hy;exact h2
    ·exact hJ i hi y hy,[],zW (hM Z Z Z (hI Z Z (.inr Z) Z ac))⟩
theorem DE{α:Type}[Inhabited α]{l:List α}{p:α->Bool}{i:Nat}(h:i<l.length):(l.take (i+1)).filter p=if p (l.getD i default) then(l.take i).filter p++ [l.getD i default] else(l.take i).filter p:=by
 rw[aN h,List.filter_append];cases hp:p (l.getD i default)<;>simp only[YD,List.filter_nil,hp]<;>simp
theorem wb{α:Type}(l:List α)(p:α->Bool)(i:Nat):((l.take i).filter p).length<=l.length:=by
 have h1:=X6 p (l.take i);have h2:(l.take i).length<=l.length:=by simp;omega
 omega
def ah(r:aq)(lit:Int):Lit:=r.body.getD lit.toNat default
def l9(r:aq)(lit:Int):List aj:=if lit<0∨(r.body.length:Int)<=lit∨ ¬(ah r lit).kind=4 then[] else(aF (ah r lit).agg).filter fun x=>!cj (outer r) x
theorem Lit.fq(l:Lit):l.agg.size+2<=l.size:=by
 rw[l.size_eq];unfold eQ.size Lit.agg;dsimp only;omega
theorem c36(r:aq)(lit:Int)(hb:r.size<=1000000000000):Pure prog 238 [ag r.c,pI lit] (.iv (strs (l9 r lit))):=by
 have a0:=hb;unfold aq.size at a0;refine ad ab func238 Z (by decide) ntmps238 Z (by simp) Z ?_;refine gA Z (zI (fun h1=>?_) fun h1=>?_);rotate_left
 ·have h1:lit<0:=by simpa using h1
  refine gA Z (zL ?_);rw[l9,am (.inl h1)];exact .nil _ _
 have h1: ¬lit<0:=by simpa using h1
 refine gA Z (zI (fun h2=>?_) fun h2=>?_);rotate_left
 ·have h2:(r.body.length:Int)<=lit:=by simpa using h2
  refine gA Z (zL ?_);rw[l9,am (.inr (.inl h2))];exact .nil _ _
 have h2: ¬(r.body.length:Int)<=lit:=by simpa using h2
 refine gA Z (zI (fun h3=>?_) fun h3=>?_)
 ·have h3: ¬(ah r lit).kind=4:=by simpa[ah]using h3
  refine gA Z (zL ?_);rw[l9,am (.inr (.inr h3))];exact .nil _ _
 have h3:(ah r lit).kind=4:=by simpa[ah]using h3
 have hk:lit.toNat<r.body.length:=by omega
 have b0:=Lit.aT r.body lit.toNat hk;have hag:=(ah r lit).fq;have d0:=iK (ah r lit).agg;have e0:(ah r lit).size<=Lit.ax r.body:=b0;refine gA Z (zp (Td r hb) ?_);refine gA Z (zp (UQ (ah r lit).agg (by omega)) ?_);refine gA Z ?_;refine fb 7 1 Z ?_;refine aA 0 (aF (ah r lit).agg).length (W3 _) (fun i=>⟨[(5, .iv (strs (outer r))),(6, .iv (strs (aF (ah r lit).agg))),(7, .sl 2 0 (((aF (ah r lit).agg).take i).filter fun x=>!cj (outer r) x).length 1),(8,pI i)],[(2,some (aD 1 (((aF (ah r lit).agg).take i).filter fun x=>!cj (outer r) x) cW))],3⟩) (fun _=>True) [1] ac
  (zW (zS trivial)) fun i hi hJ=>?_
 have c0:=wb (aF (ah r lit).agg) (fun x=>!cj (outer r) x) i;refine gA Z (zI (fun h4=>?_) fun h4=>?_)
 ·have h4:=ci h4;have hs:=DE (p:=fun x=>!cj (outer r) x) h4;refine gA Z (bn (LD _ ((aF (ah r lit).agg).getD i default)) Z Z Z Z Z Z ?_);refine gA Z (zI (fun h5=>?_) fun h5=>?_)
  ·rw[am h5]at hs;refine nX Z ?_ ⟨h4,ac,[4],zM (bv (bv ⟨.row (by rw[hs];simp),rfl,bv ac⟩)) (hR Z (by rw[hs,WZ];rfl) Z ac)⟩
   repeat' (first|exact ac|exact rfl|apply XA)
   all_goals first|omega|(simp;omega)|simp
  ·rw[h5]at hs;refine gA Z ⟨h4,ac,[2],zM (bv (bv ⟨.row (by rw[hs];simp),rfl,bv ac⟩)) (hR Z (by rw[hs];simp;try rfl) Z ac)⟩
 ·have h4:=co h4;have hin:l9 r lit=((aF (ah r lit).agg).take i).filter fun x=>!cj (outer r) x:=by
   rw[W2 h4,l9,be (by simp[h1,h3];omega)]
  refine gA Z (cU (by first|exact .inr Z|exact .inl Z) Z Z (by rw[hin]) (by rw[hin]))
def jO(l:Lit)(a0:List aj):aj×Bool:=
 if¬l.kind=3∨ ¬l.op=1 then(W4,false)
 else if l.left.kind=1∧ly a0 (aS l.left)=false∧ly a0 (aS l.right)=true then(l.left.var,true)
 else if l.right.kind=1∧ly a0 (aS l.right)=false∧ly a0 (aS l.left)=true then(l.right.var,true)
 else(W4,false)
theorem jS{a b:aj×Bool}(h:a=b):PV.bT [pS a.1,pB a.2]= .bT [pS b.1,pB b.2]:=by rw[h]
theorem Ww(l:Lit)(a0:List aj)(hb:l.size<=1000000000000):Pure prog 283 [ag l.c, .iv (strs a0)] (.bT [pS (jO l a0).1,pB (jO l a0).2]):=by
 have b0:=l.size_eq;refine ad ab func283 Z (by decide) ntmps283 Z (by simp) Z ?_;refine gA Z (zI (fun h1=>?_) fun h1=>?_);rotate_left
 ·have h1: ¬l.kind=3:=by simpa using h1
  refine gA Z (zL (.of_eq ?_));exact jS (a:=(W4,false)) (by rw[jO,am (.inl h1)])
 have h1:l.kind=3:=by simpa using h1
 refine gA Z (zI (fun h2=>?_) fun h2=>?_)
 ·have h2: ¬l.op=1:=by simpa using h2
  refine gA Z (zL (.of_eq ?_));exact jS (a:=(W4,false)) (by rw[jO,am (.inr h2)])
 have h2:l.op=1:=by simpa using h2
 have e1:jO l a0=if l.left.kind=1∧ly a0 (aS l.left)=false∧ly a0 (aS l.right)=true then(l.left.var,true)
   else if l.right.kind=1∧ly a0 (aS l.right)=false∧ly a0 (aS l.left)=true then(l.right.var,true)
   else(W4,false):=by rw[jO,be (by simp[h1,h2])]
 refine gA Z (zp (DW l.left (by omega)) ?_);refine gA Z (zp (DW l.right (by omega)) ?_);refine gA Z (zp (U8 a0 (aS l.left)) ?_);refine gA Z (zp (U8 a0 (aS l.right)) ?_);refine gA Z (zI (fun h3=>?_) fun h3=>?_)
 ·have h3:l.left.kind=1:=by simpa using h3
  refine gA Z (zI (fun h4=>?_) fun h4=>?_)
  ·have h4:ly a0 (aS l.left)=false:=by simpa using h4
   refine gA Z (zI (fun h5=>?_) fun h5=>?_)
   ·refine gA Z (zL (.of_eq ?_));exact jS (a:=(l.left.var,true)) (by rw[e1,am ⟨h3,h4,h5⟩])
   ·refine gA Z (zI (fun h6=>?_) fun h6=>?_)
    ·have h6:l.right.kind=1:=by simpa using h6
     refine gA Z (zI (fun h7=>?_) fun h7=>?_)
     ·refine gA Z (zI (fun h8=>?_) fun h8=>?_)
      ·rw[h4]at h8;cases h8
      ·refine gA Z (zL (.of_eq ?_));exact jS (a:=(W4,false)) (by rw[e1,be (by simp[h5]),be (by simp[h4])])
     ·rw[h5]at h7;cases h7
    ·have h6: ¬l.right.kind=1:=by simpa using h6
     refine gA Z (zL (.of_eq ?_));exact jS (a:=(W4,false)) (by rw[e1,be (by simp[h5]),be (by simp[h4])])
  ·have h4:ly a0 (aS l.left)=true:=by simpa using h4
   refine gA Z (zI (fun h6=>?_) fun h6=>?_)
   ·have h6:l.right.kind=1:=by simpa using h6
    refine gA Z (zI (fun h7=>?_) fun h7=>?_)
    ·have h7:ly a0 (aS l.right)=false:=by simpa using h7
     refine gA Z (zI (fun h8=>?_) fun h8=>?_)
     ·refine gA Z (zL (.of_eq ?_));exact jS (a:=(l.right.var,true)) (by rw[e1,be (by simp[h4]),am ⟨h6,h7,h4⟩])
     ·rw[h4]at h8;cases h8
    ·have h7:ly a0 (aS l.right)=true:=by simpa using h7
     refine gA Z (zL (.of_eq ?_));exact jS (a:=(W4,false)) (by rw[e1,be (by simp[h4]),be (by simp[h7])])
   ·have h6: ¬l.right.kind=1:=by simpa using h6
    refine gA Z (zL (.of_eq ?_));exact jS (a:=(W4,false)) (by rw[e1,be (by simp[h4]),be (by simp[h6])])
 ·have h3: ¬l.left.kind=1:=by simpa using h3
  refine gA Z (zI (fun h6=>?_) fun h6=>?_)
  ·have h6:l.right.kind=1:=by simpa using h6
   refine gA Z (zI (fun h7=>?_) fun h7=>?_)
   ·have h7:ly a0 (aS l.right)=false:=by simpa using h7
    refine gA Z (zI (fun h8=>?_) fun h8=>?_)
    ·refine gA Z (zL (.of_eq ?_));exact jS (a:=(l.right.var,true)) (by rw[e1,be (by simp[h3]),am ⟨h6,h7,h8⟩])
    ·refine gA Z (zL (.of_eq ?_));exact jS (a:=(W4,false)) (by rw[e1,be (by simp[h3]),be (by simp[h8])])
   ·have h7:ly a0 (aS l.right)=true:=by simpa using h7
    refine gA Z (zL (.of_eq ?_));exact jS (a:=(W4,false)) (by rw[e1,be (by simp[h3]),be (by simp[h7])])
  ·have h6: ¬l.right.kind=1:=by simpa using h6
   refine gA Z (zL (.of_eq ?_));exact jS (a:=(W4,false)) (by rw[e1,be (by simp[h3]),be (by simp[h6])])
def rT(a:eQ)(a0 outer:List aj):Bool:=!cj a0 a.var&&(aF a).all fun x=>!(cj outer x&&(!cj a0 x&&!decide (x=a.var)))
theorem Wv(a:eQ)(a0 outer:List aj)(hb:a.size<=1000000000000):Pure prog 284 [ag a.c, .iv (strs a0), .iv (strs outer)] (pB (rT a a0 outer)):=by
 have b0:=iK a;refine ad ab func284 Z (by decide) ntmps284 Z (by simp) Z ?_;refine gA Z (zp (LD a0 a.var) ?_);refine gA Z (zI (fun h1=>?_) fun h1=>?_)
 ·refine gA Z (zL (.of_eq ?_));rw[rT,h1];try rfl
 refine gA Z (zp (UQ a hb) ?_);refine gA Z ?_;refine aA 0 (aF a).length (W3 _) (fun i=>⟨[(1, .iv (strs a0)),(2, .iv (strs outer)),(3, .ptr 0 0),(8, .iv (strs (aF a))),(9,pI i)],[(0,some (an a.c))],1⟩) (fun i=>((aF a).take i).all (fun x=>!(cj outer x&&(!cj a0 x&&!decide (x=a.var))))=true) [] Z
  (zW (zK trivial)) fun i hi hJ=>?_
 refine gA Z (zI (fun h2=>?_) fun h2=>?_)
 ·have h2:=ci h2;refine gA Z (zp (LD outer ((aF a).getD i default)) ?_);refine gA Z (zp (LD a0 ((aF a).getD i default)) ?_);refine gA Z (zI (fun h3=>?_) fun h3=>?_)
  ·refine gA Z (zI (fun h4=>?_) fun h4=>?_)
   ·refine gA Z (zI (fun h5=>?_) fun h5=>?_)
    ·refine gA Z (zL (.of_eq ?_));rw[rT,Ec h2 (show(!(cj outer ((aF a).getD i default)&&(!cj a0 ((aF a).getD i default)&&!decide ((aF a).getD i default=a.var))))=false by rw[h3,h4,show(!decide ((aF a).getD i default=a.var))=true from h5];rfl)];simp;try rfl
    ·refine gA Z ?_;exact⟨h2,(um hJ h2).2 (by rw[h3];simp only[XV];rw[show(!decide ((aF a).getD i default=a.var))=false from h5];simp),[],zW (zK ac)⟩
   ·refine gA Z ?_;exact⟨h2,(um hJ h2).2 (by rw[h4];simp),[],zW (zK ac)⟩
  ·refine gA Z ?_;exact⟨h2,(um hJ h2).2 (by rw[h3];simp),[],zW (zK ac)⟩
 ·have h2:=co h2;refine gA Z (zL (.of_eq ?_));rw[rT,h1,Ed hJ h2];try rfl
def mV(l:Lit)(a0:List aj):aj×Bool:=
 if¬l.kind=3∨ ¬l.op=1 then(W4,false)
 else if l.left.kind=1∧cj a0 l.left.var=false∧(l.right.kind=2∨l.right.kind=1∧cj a0 l.right.var=true) then(l.left.var,true)
 else if l.right.kind=1∧(if l.left.kind=1 then cj a0 l.left.var else decide (l.left.kind=2))=true then(l.right.var,!cj a0 l.right.var)
 else(W4,false)
theorem oO{e:Expr}(h:e.kind=1):aS e=[e.var]:=by
 rw[vG,am h,qF];rfl
theorem HB{l:Lit}{k:List aj}(h:(jO l k).2=true):((jO l k).1=l.left.var∨(jO l k).1=l.right.var)∧(jO l k).1∉k:=by
 unfold jO at h ⊢;split at h
 ·cases h
 ·rename_i h0;rw[be h0];split at h
  ·rename_i h1;rw[am h1];refine⟨.inl Z,fun hk=>?_⟩;have:=h1.2.1;rw[oO h1.1]at this;simp[ly,aQ.2 hk]at this
  ·rename_i h1;rw[be h1];split at h
   ·rename_i h2;rw[am h2];refine⟨.inr Z,fun hk=>?_⟩;have:=h2.2.1;rw[oO h2.1]at this;simp[ly,aQ.2 hk]at this
   ·cases h
theorem IK{a:eQ}{k o:List aj}(h:rT a k o=true):a.var∉k:=by
 unfold rT at h;simp only[Xg,XF]at h;exact fm.1 h.1
def bM(body:List Lit):List aj:=body.flatMap fun l=> [l.left.var,l.right.var,l.bp]
def ck(c k:List aj):Nat:=(c.filter fun x=>!cj k x).length
theorem ke: ∀body:List Lit,(bM body).length=3*body.length
 | []=>rfl
 |l::r=>by have:=ke r;simp only[bM,XZ,WW,Xx,YB]at this ⊢;omega
theorem qQ(c k:List aj):ck c k<=c.length:=X6 _ _
theorem qP{v:aj}{k:List aj}: ∀{c:List aj},v∈c->v∉k->ck c (bR k v)<ck c k:=by
 have a0: ∀c:List aj,ck c (bR k v)<=ck c k:=by
  intro c
  induction c with
  |nil=>exact W0 _
  |cons x r ih=>
   simp only[ck]at ih ⊢;simp only[YD];by_cases h1:x∈k
   ·have:cj (bR k v) x=true:=aQ.2 (ch.2 (.inl h1));rw[this,aQ.2 h1];exact ih
   ·simp only[fm.2 h1,Zi,if_true,Xx];split<;>(try simp only[Xx])<;>omega
 intro c hc hk
 induction c with
 |nil=>cases hc
 |cons x r ih=>
  have hm:=a0 r;simp only[ck]at ih hm ⊢;simp only[YD];by_cases hx:x=v
  ·subst hx;have:cj (bR k x) x=true:=aQ.2 (ch.2 (.inr Z));simp[this,fm.2 hk];omega
  ·have hr:v∈r:=by
    rcases Xb.1 hc with h|h
    ·exact absurd h.symm hx
    ·exact h
   have ih:=ih hr;by_cases h1:x∈k
   ·have:cj (bR k v) x=true:=aQ.2 (ch.2 (.inl h1));simp[this,aQ.2 h1];exact ih
   ·have:cj (bR k v) x=false:=fm.2 fun h=>by rcases ch.1 h with h|h;exact h1 h;exact hx h
    simp[this,fm.2 h1];omega
def fy(own:Bool)(outer:List aj)(k:List aj)(l:Lit):aj×Bool:=if own=true∧l.kind=4 then(l.bp,rT l.agg k outer) else jO l k
def stepG(own:Bool)(outer:List aj)(a:List aj×Bool)(l:Lit):List aj×Bool:=if(fy own outer a.1 l).2=true then(bR a.1 (fy own outer a.1 l).1,true) else a
def nk(own:Bool)(outer:List aj)(body:List Lit)(k:List aj):List aj×Bool:=body.foldl (stepG own outer) (k,false)
def zR(own:Bool)(outer:List aj)(body:List Lit):Nat->List aj->List aj
 |0,k=>k
 |n+1,k=>if(nk own outer body k).2=true then zR own outer body n (nk own outer body k).1 else(nk own outer body k).1
theorem xO{own:Bool}{outer:List aj}{body:List Lit}{n:Nat}{k:List aj}:zR own outer body (n+1) k=if(nk own outer body k).2=true then zR own outer body n (nk own outer body k).1 else(nk own outer body k).1:=rfl
def lY(k:List aj)(l:Lit):List aj:=if l.kind=1 then cm k (dx l.atom) else k
def sS(own:Bool)(outer:List aj)(body:List Lit)(k:List aj):List aj:=zR own outer body (3*body.length+1) (body.foldl lY k)
theorem Hu{own:Bool}{outer k:List aj}{l:Lit}(h:(fy own outer k l).2=true):(fy own outer k l).1∈ [l.left.var,l.right.var,l.bp]∧(fy own outer k l).1∉k:=by
 unfold fy at h ⊢;split at h
 ·rename_i h1;rw[am h1];exact⟨by simp,IK (a:=l.agg) h⟩
 ·rename_i h1;rw[be h1];obtain⟨h2,h3⟩:=HB h;refine⟨?_,h3⟩;rcases h2 with h2|h2<;>simp[h2]
theorem vh{body:List Lit}{l:Lit}(h:l∈body){v:aj}(hv:v∈ [l.left.var,l.right.var,l.bp]):v∈bM body:=Yw.2 ⟨l,h,hv⟩
theorem Jq{own:Bool}{outer c:List aj}{a:List aj×Bool}{l:Lit}(hc: ∀v∈ [l.left.var,l.right.var,l.bp],v∈c):
  (stepG own outer a l).1.length+ck c (stepG own outer a l).1<=a.1.length+ck c a.1∧ck c (stepG own outer a l).1<=ck c a.1∧
  ((stepG own outer a l).2=true->a.2=true∨ck c (stepG own outer a l).1<ck c a.1):=by
 unfold stepG;split
 ·rename_i h;obtain⟨h1,h2⟩:=Hu h;have h3:=qP (hc _ h1) h2;have h4:=jR a.1 (fy own outer a.1 l).1;exact⟨by dsimp only;omega,by dsimp only;omega,fun _=> .inr h3⟩
 ·exact⟨W0 _,W0 _,fun h=> .inl h⟩
theorem DB{own:Bool}{outer c:List aj}: ∀{body:List Lit} {a:List aj×Bool},(∀l∈body,∀v∈ [l.left.var,l.right.var,l.bp],v∈c)->
  (body.foldl (stepG own outer) a).1.length+ck c (body.foldl (stepG own outer) a).1<=a.1.length+ck c a.1∧ck c (body.foldl (stepG own outer) a).1<=ck c a.1∧
  ((body.foldl (stepG own outer) a).2=true->a.2=true∨ck c (body.foldl (stepG own outer) a).1<ck c a.1)
 | [],a,_=>⟨W0 _,W0 _,fun h=> .inl h⟩
 |l::r,a,hc=>by
  obtain⟨h1,h2,h3⟩:=Jq (own:=own) (outer:=outer) (a:=a) (hc l Xd);obtain⟨g1,g2,g3⟩:=DB (own:=own) (outer:=outer) (body:=r) (a:=stepG own outer a l) fun l hl=>hc l (W8 _ hl);simp only[Xq];refine⟨by omega,by omega,fun h=>?_⟩;rcases g3 h with g|g
  ·rcases h3 g with h|h
   ·exact .inl h
   ·exact .inr (by omega)
  ·exact .inr (by omega)
theorem JV(k:List aj)(l:Lit):(lY k l).length+2<=k.length+l.size:=by
 have h1:=eG (dx l.atom) k;have h2:=jI l.atom;have h3:=l.size_eq;unfold lY;split<;>omega
theorem nn: ∀(l:List Lit) (a:List aj),(l.foldl lY a).length<=a.length+Lit.ax l
 | [],a=>by simp[Lit.ax]
 |e::r,a=>by
  have h1:=nn r (lY a e);have h2:=JV a e;simp only[Xq,Lit.ax];omega
theorem c74(body:List Lit)(a0 outer:List aj)(own:Bool)(hb:a0.length+4*Lit.ax body<=1000000000000):Pure prog 269 [.iv (lits body), .iv (strs a0), .iv (strs outer),pB own] (.iv (strs (sS own outer body a0))):=by
 have k0:=Lit.aw body;have g0:=nn body a0;have q0:=ke body;have p0:=qQ (bM body) (body.foldl lY a0);refine ad ab func269 Z (by decide) ntmps269 Z (by simp) Z ?_;refine gA Z ?_;refine aA 0 body.length (W3 _) (fun i=>⟨[(0, .iv (lits body)),(1, .iv (strs ((body.take i).foldl lY a0))),(2, .iv (strs outer)),(3,pB own),(9,pI i)],[],0⟩) (fun _=>True) [] ac
  (mH Z Z (bv (bv (bv (bv (bv trivial))))) Z) fun i hi _=>?_
 refine gA Z (zI (fun h1=>?_) fun h1=>?_)
 ·have h1:=ci h1;have hs:=cR (g:=lY) (b:=a0) h1;have hv:=nn (body.take i) a0;have hn:=Lit.cO body i h1;have m0:=jI (body.getD i default).atom;have i0:=(body.getD i default).size_eq;refine gA Z (zI (fun h2=>?_) fun h2=>?_)
  ·have h2:(body.getD i default).kind=1:=by simpa using h2
   rw[show lY ((body.take i).foldl lY a0) (body.getD i default)=_ from am h2]at hs;refine gA Z (zp (UR (body.getD i default).atom (by omega)) ?_);refine gA Z (bn (Tc _ _ (by omega)) Z Z Z Z Z Z ?_);refine gA Z ⟨h1,ac,[],mH Z Z (bv ⟨.of_eq (by rw[hs];rfl),rfl,bv (bv (bv ac))⟩) Z⟩
  ·have h2: ¬(body.getD i default).kind=1:=by simpa using h2
   rw[show lY ((body.take i).foldl lY a0) (body.getD i default)=_ from be h2]at hs;refine gA Z ⟨h1,ac,[],mH Z Z (bv ⟨.of_eq (by rw[hs];rfl),rfl,bv (bv (bv ac))⟩) Z⟩
 have h1:=co h1;have e0:(body.take i).foldl lY a0=body.foldl lY a0:=qW h1;rw[e0];refine gA Z ?_;refine o8 (σ:={x:List aj×Bool×Nat//sS own outer body a0=(if x.2.1=true then zR own outer body (x.2.2+1) x.1 else x.1)∧(x.2.1=true->ck (bM body) x.1<=x.2.2)∧x.1.length+ck (bM body) x.1<=(body.foldl lY a0).length+ck (bM body) (body.foldl lY a0)})
  (fun x=>⟨[(0, .iv (lits body)),(1, .iv (strs x.1.1)),(2, .iv (strs outer)),(3,pB own),(11,pB x.1.2.1)],[],0⟩) (fun x=>if x.1.2.1=true then ck (bM body) x.1.1+1 else 0)
  ⟨(body.foldl lY a0,true,3*body.length),by simp[sS],fun _=>by dsimp only;omega,W0 _⟩ [] (mH Z Z (bv (bv (bv (bv ⟨.te Z,rfl,ac⟩)))) Z) ?_
 rintro⟨⟨k,more,f⟩,hx1,hx2,hx3⟩;dsimp only at hx1 hx2 hx3 ⊢;refine gA Z (zI (fun h2=>?_) fun h2=>?_)
 ·subst h2;rw[am Z]at hx1;have n0:=hx2 Z;refine gA Z ?_;refine aA 0 body.length (W3 _) (fun i=>⟨[(0, .iv (lits body)),(1, .iv (strs ((body.take i).foldl (stepG own outer) (k,false)).1)),(2, .iv (strs outer)),(3,pB own),(11,pB ((body.take i).foldl (stepG own outer) (k,false)).2),(12,pI i)],[],0⟩) (fun _=>True) [] ac
   (mH Z Z (bv (bv (bv (bv ⟨.te Z,rfl,bv trivial⟩)))) Z) fun i hi _=>?_
  have d0:=DB (own:=own) (outer:=outer) (c:=bM body) (body:=body.take i) (a:=(k,false)) fun l hl v hv=>vh (ZI hl) hv;dsimp only at d0;refine gA Z (zI (fun h3=>?_) fun h3=>?_)
  ·have h3:=ci h3;have hs:=cR (g:=stepG own outer) (b:=(k,false)) h3;generalize j0:(body.take i).foldl (stepG own outer) (k,false)=ka at d0 hs ⊢;have o0:=Lit.aT body i h3;have hag:=(body.getD i default).fq;refine gA Z (zp (Ww (body.getD i default) ka.1 (by omega)) ?_);refine gA Z (zI (fun h4=>?_) fun h4=>?_)
   ·subst h4;refine gA Z (zI (fun h5=>?_) fun h5=>?_)
    ·have h5:(body.getD i default).kind=4:=by simpa using h5
     have c0:fy true outer ka.1 (body.getD i default)=((body.getD i default).bp,rT (body.getD i default).agg ka.1 outer):=am ⟨rfl,h5⟩;refine gA Z (zp (Wv (body.getD i default).agg ka.1 outer (by omega)) ?_);refine gA Z (zI (fun h6=>?_) fun h6=>?_)
     ·have b0:stepG true outer ka (body.getD i default)=(bR ka.1 (body.getD i default).bp,true):=by unfold stepG;rw[c0,am h6]
      rw[b0]at hs;refine gA Z (bn (O9 ka.1 _ (by omega)) Z Z Z Z Z Z ?_);refine gA Z ⟨h3,ac,[],mH Z Z (bv ⟨.of_eq (by rw[hs];rfl),rfl,bv (bv ⟨.te (by rw[hs]),rfl,bv ac⟩)⟩) Z⟩
     ·have b0:stepG true outer ka (body.getD i default)=ka:=by unfold stepG;rw[c0,be (by rw[h6];simp)]
      rw[b0]at hs;refine gA Z ⟨h3,ac,[],mH Z Z (bv ⟨.of_eq (by rw[hs];rfl),rfl,bv (bv ⟨.of_eq (by rw[hs];rfl),rfl,bv ac⟩)⟩) Z⟩
    ·have h5: ¬(body.getD i default).kind=4:=by simpa using h5
     have c0:fy true outer ka.1 (body.getD i default)=jO (body.getD i default) ka.1:=be (fun h=>h5 h.2);refine gA Z (zI (fun h6=>?_) fun h6=>?_)
     ·have b0:stepG true outer ka (body.getD i default)=(bR ka.1 (jO (body.getD i default) ka.1).1,true):=by unfold stepG;rw[c0,am h6]
      rw[b0]at hs;refine gA Z (bn (O9 ka.1 _ (by omega)) Z Z Z Z Z Z ?_);refine gA Z ⟨h3,ac,[],mH Z Z (bv ⟨.of_eq (by rw[hs];rfl),rfl,bv (bv ⟨.te (by rw[hs]),rfl,bv ac⟩)⟩) Z⟩
     ·have b0:stepG true outer ka (body.getD i default)=ka:=by unfold stepG;rw[c0,be (by rw[h6];simp)]
      rw[b0]at hs;refine gA Z ⟨h3,ac,[],mH Z Z (bv ⟨.of_eq (by rw[hs];rfl),rfl,bv (bv ⟨.of_eq (by rw[hs];rfl),rfl,bv ac⟩)⟩) Z⟩
   ·have h4:own=false:=h4;subst h4;have c0:fy false outer ka.1 (body.getD i default)=jO (body.getD i default) ka.1:=be (fun h=>by cases h.1);refine gA Z (zI (fun h6=>?_) fun h6=>?_)
    ·have b0:stepG false outer ka (body.getD i default)=(bR ka.1 (jO (body.getD i default) ka.1).1,true):=by unfold stepG;rw[c0,am h6]
     rw[b0]at hs;refine gA Z (bn (O9 ka.1 _ (by omega)) Z Z Z Z Z Z ?_);refine gA Z ⟨h3,ac,[],mH Z Z (bv ⟨.of_eq (by rw[hs];rfl),rfl,bv (bv ⟨.te (by rw[hs]),rfl,bv ac⟩)⟩) Z⟩
    ·have b0:stepG false outer ka (body.getD i default)=ka:=by unfold stepG;rw[c0,be (by rw[h6];simp)]
     rw[b0]at hs;refine gA Z ⟨h3,ac,[],mH Z Z (bv ⟨.of_eq (by rw[hs];rfl),rfl,bv (bv ⟨.of_eq (by rw[hs];rfl),rfl,bv ac⟩)⟩) Z⟩
  ·have h3:=co h3;have e1:(body.take i).foldl (stepG own outer) (k,false)=nk own outer body k:=qW h3;rw[e1]at d0 ⊢;refine gA Z ?_;refine⟨⟨((nk own outer body k).1,(nk own outer body k).2,f-1),?_,fun hm=>?_,by dsimp only;omega⟩,[],?_,mH Z Z (bv (bv (bv (bv (bv ac))))) Z⟩
   ·dsimp only;rw[hx1,xO];by_cases hm:(nk own outer body k).2=true
    ·have:=d0.2.2 hm;have f0:f-1+1=f:=by simp at this;omega
     rw[am hm,am hm,f0]
    ·rw[be hm,be hm]
   ·have:=d0.2.2 hm;simp at this;dsimp only;omega
   ·dsimp only;split
    ·rename_i hm;have:=d0.2.2 hm;simp at this;simp;omega
    ·simp
 ·subst h2;rw[be (by simp)]at hx1;refine gA Z (zL (.of_eq ?_));rw[hx1];rfl
def fP(may:Expr->Bool)(occ:List aj)(l:Lit):aj×Bool:=
 if¬l.kind=3∨ ¬l.op=1 then(W4,false)
 else if l.left.kind=1∧cj occ l.left.var=false∧may l.right=true then(l.left.var,true)
 else if l.right.kind=1∧cj occ l.right.var=false∧may l.left=true then(l.right.var,true)
 else(W4,false)
theorem cS{occ:List aj}{s:aj}:cj occ s=!decide (bQ .str (aJ occ) s 0=0):=by
 rw[bL];by_cases h:s∈occ
 ·have:=oc.2 h;rw[aQ.2 h];simp;omega
 ·rw[fm.2 h,qZ.2 h];rfl
def cZ(occ:List aj)(e:Expr):Bool:=decide (e.kind=2)||(decide (e.kind=1)&&cj occ e.var)
theorem fu{a b:Bool}(h:a=b):pB a=pB b:=by rw[h]
theorem d76(occ:List aj)(e:Expr)(hb:e.size<=1000000000000):b8 prog 127 [ag e.c, .ptr 1 0] [c9 (aJ occ), .cells [.mp 0]] (pB (cZ occ e)) [(0,some (c9 (aJ occ))),(1,some (.cells [.mp 0]))] 2:=by
 have a0:=bL occ e.var;have hi:=cS (occ:=occ) (s:=e.var);refine aE ab func127 Z (by decide) ntmps127 Z (by simp) ?_
 repeat' (first
  |(refine gA Z (zI (fun _=>?_) (fun _=>?_)))
  |fail)
 all_goals first
  |(refine gA Z (aC [] (.inr Z) Z (zM ⟨.of_eq (fu (a:=true) ?_),rfl,ac⟩ (hM Z Z Z (zO ac))));simp_all [cZ];done)
  |(refine gA Z (aC [] (.inr Z) Z (zM ⟨.of_eq (fu (a:=false) ?_),rfl,ac⟩ (hM Z Z Z (zO ac))));simp_all [cZ];done)
  |(refine gA Z (aC [] (.inr Z) Z (zM ⟨.of_eq (fu (a:=decide (bQ .str (aJ occ) e.var 0>0)) ?_),rfl,ac⟩ (hM Z Z Z (zO ac))));rw[cZ,hi,a0];simp_all;by_cases hz:s8 occ e.var=0<;>simp[hz]<;>omega)
theorem c77(a:eQ):Pure prog 128 [ag a.c] (pB false):=by
 refine ad ab func128 Z (by decide) ntmps128 Z (by simp) Z ?_;refine gA Z (zL (.of_eq ?_));rfl
theorem Wg(a:eQ):Pure prog 229 [ag a.c] (pB false):=by
 refine ad ab func229 Z (by decide) ntmps229 Z (by simp) Z ?_;refine gA Z (zL (.of_eq ?_));rfl
def iE(out occ:List aj)(a:eQ):Bool:=(bj a).all fun x=>decide (x=a.var)||(!cj out x||cj occ x)
theorem d126(r:aq)(occ:List aj)(a:eQ)(hb:a.size<=1000000000000):b8 prog 228 [ag a.c, .ptr 1 0, .ptr 2 0] [c9 (aJ occ), .cells [.iv (c6 r)], .cells [.mp 0]] (pB (iE (az r) occ a)) [(0,some (c9 (aJ occ))),(1,some (.cells [.iv (c6 r)])),(2,some (.cells [.mp 0]))] 3:=by
 refine aE ab func228 Z (by decide) ntmps228 Z (by simp) ?_;refine gA Z (zq [] (d127 a hb) ?_);refine gA Z ?_;refine gG (aJ (bj a)) (fun vs=>⟨[(1, .ptr 1 0),(2, .ptr 2 0),(3, .ptr 3 0),(8, .ptr 5 0)],[(0,some (c9 (aJ occ))),(1,some (.cells [.iv (c6 r)])),(2,some (.cells [.mp 0])),(3,some (an a.c)),(5,some (.bS .str xY (aJ (bj a)) vs none))],6⟩) (fun vs=> ∀j∈vs,∀x,(aJ (bj a))[j]? =some x->(decide (x.1=a.var)||(!cj (az r) x.1||cj occ x.1))=true) [] (by simp)
  (zW (hM Z Z Z ⟨⟨_,rfl, .of_eq Z⟩,WR Z,rfl,⟨_,rfl, .of_eq Z⟩,WR Z,rfl,zK (hI Z Z (.inl Z) Z trivial)⟩)) fun vs hJ=>?_
 refine nX Z ac (eN Z Z Z Z Z (by decide) (fun a0=>?_) fun j x hx hj=>?_)
 ·refine gA Z (aC [] (by first|exact .inr Z|exact .inl Z) Z (zM ⟨.of_eq (fu (a:=true) (Xm.2 fun t ht=>all_keys (p:=fun t=>(decide (t=a.var)||(!cj (az r) t||cj occ t))=true) a0 hJ t ht).symm),rfl,ac⟩ (hM Z Z Z ⟨⟨_,rfl, .of_eq Z⟩,WR Z,rfl,⟨_,rfl, .of_eq Z⟩,WR Z,rfl,ac⟩)))
 ·have more:(decide (x.1=a.var)||(!cj (az r) x.1||cj occ x.1))=true-> ∀i∈j::vs,∀x,(aJ (bj a))[i]? =some x->(decide (x.1=a.var)||(!cj (az r) x.1||cj occ x.1))=true:=fun h i hi y hy=>by
   rcases Xb.1 hi with rfl|hi
   ·rw[hx]at hy;cases hy;exact h
   ·exact hJ i hi y hy
  have h5:=cS (occ:=az r) (s:=x.1);have h6:=cS (occ:=occ) (s:=x.1);have h7:=bL (az r) x.1;have h8:=bL occ x.1;refine gA Z (zI (fun g1=>?_) fun g1=>?_)
  ·have g1:decide (x.1=a.var)=false:=by simpa using g1
   refine gA Z (zI (fun g2=>?_) fun g2=>?_)
   ·have g2:cj (az r) x.1=true:=by
     have:=zT g2;rw[h5];simp;omega
    refine gA Z (zI (fun g3=>?_) fun g3=>?_)
    ·have g3:cj occ x.1=false:=by rw[h6,g3];rfl
     refine gA Z (aC [] (by first|exact .inr Z|exact .inl Z) Z (zM ⟨.of_eq (fu (a:=false) (Y4.2 ⟨x.1,wD hx,by rw[g1,g2,g3];simp⟩).symm),rfl,ac⟩ (hM Z Z Z ⟨⟨_,rfl, .of_eq Z⟩,WR Z,rfl,⟨_,rfl, .of_eq Z⟩,WR Z,rfl,ac⟩)))
    ·have g3:cj occ x.1=true:=by rw[h6,g3];rfl
     refine gA Z ⟨j,x,hx,hj,more (by rw[g3];simp),[],zW (hM Z Z Z ⟨⟨_,rfl, .of_eq Z⟩,WR Z,rfl,⟨_,rfl, .of_eq Z⟩,WR Z,rfl,zK (hI Z Z (.inr Z) Z ac)⟩)⟩
   ·have g2:cj (az r) x.1=false:=by
     have:=zF g2;rw[h5];simp;omega
    refine gA Z ⟨j,x,hx,hj,more (by rw[g2];simp),[],zW (hM Z Z Z ⟨⟨_,rfl, .of_eq Z⟩,WR Z,rfl,⟨_,rfl, .of_eq Z⟩,WR Z,rfl,zK (hI Z Z (.inr Z) Z ac)⟩)⟩
  ·have g1:decide (x.1=a.var)=true:=by simpa using g1
   refine gA Z ⟨j,x,hx,hj,more (by rw[g1];simp),[],zW (hM Z Z Z ⟨⟨_,rfl, .of_eq Z⟩,WR Z,rfl,⟨_,rfl, .of_eq Z⟩,WR Z,rfl,zK (hI Z Z (.inr Z) Z ac)⟩)⟩
def l4(may:Expr->Bool)(more:eQ->Bool)(occ:List aj)(l:Lit):Option aj:=
 if(fP may occ l).2=true then some (fP may occ l).1 else if l.kind=4∧cj occ l.bp=false∧more l.agg=true then some l.bp else none
def cF(may:Expr->Bool)(more:eQ->Bool)(occ:List aj):List Lit->Option aj
 | []=>none
 |l::r=>match l4 may more occ l with
  |some v=>some v
  |none=>cF may more occ r
def dL(may:List aj->Expr->Bool)(more:List aj->eQ->Bool)(body:List Lit):Nat->List aj->List aj
 |0,occ=>occ
 |n+1,occ=>match cF (may occ) (more occ) occ body with
  |some v=>dL may more body n (occ++ [v])
  |none=>occ
def bD(l:Lit):List aj:=if l.kind=1 then da l.atom else[]
def cH(may:List aj->Expr->Bool)(more:List aj->eQ->Bool)(body:List Lit)(occ:List aj):List aj:=dL may more body (3*body.length+1) (occ++body.flatMap bD)
theorem fF{may:List aj->Expr->Bool}{more:List aj->eQ->Bool}{body:List Lit}{n:Nat}{occ:List aj}{v:aj}(h:cF (may occ) (more occ) occ body=some v):dL may more body (n+1) occ=dL may more body n (occ++ [v]):=by
 simp only[dL,h]
theorem fG{may:List aj->Expr->Bool}{more:List aj->eQ->Bool}{body:List Lit}{n:Nat}{occ:List aj}(h:cF (may occ) (more occ) occ body=none):dL may more body (n+1) occ=occ:=by
 simp only[dL,h]
theorem nu{may:Expr->Bool}{more:eQ->Bool}{occ:List aj}: ∀{l m:List Lit},cF may more occ l=none->cF may more occ (l++m)=cF may more occ m
 | [],_,_=>rfl
 |x::r,m,h=>by
  simp only[cF]at h;split at h
  ·cases h
  ·rename_i h1;simp only[Ym,cF,h1];exact nu h
theorem eO{may:Expr->Bool}{more:eQ->Bool}{occ:List aj}{l:List Lit}{i:Nat}(h:cF may more occ (l.take i)=none)(hi:i<l.length)(hx:l4 may more occ (l.getD i default)=none):cF may more occ (l.take (i+1))=none:=by
 rw[aN hi,nu h];simp only[cF,hx]
theorem sW{may:Expr->Bool}{more:eQ->Bool}{occ:List aj}{l:List Lit}{i:Nat}{v:aj}(h:cF may more occ (l.take i)=none)(hi:i<l.length)(hx:l4 may more occ (l.getD i default)=some v):cF may more occ l=some v:=by
 have e:l=l.take i++(l.getD i default::l.drop (i+1)):=by
  rw[WU,WY hi,Yl,List.getElem_cons_drop,Zd]
 rw[e,nu h];simp only[cF,hx]
theorem xA{may:Expr->Bool}{more:eQ->Bool}{occ:List aj}{l:Lit}{v:aj}(h:l4 may more occ l=some v):v∈ [l.left.var,l.right.var,l.bp]∧v∉occ:=by
 unfold l4 at h;split at h
 ·rename_i h1;simp only[WV]at h;subst h;unfold fP at h1 ⊢;split at h1
  ·cases h1
  ·rename_i h0;rw[be h0];split at h1
   ·rename_i h2;rw[am h2];exact⟨by simp,fm.1 h2.2.1⟩
   ·rename_i h2;rw[be h2];split at h1
    ·rename_i h3;rw[am h3];exact⟨by simp,fm.1 h3.2.1⟩
    ·cases h1
 ·split at h
  ·rename_i h2;simp only[WV]at h;subst h;exact⟨by simp,fm.1 h2.2.1⟩
  ·cases h
theorem mw{may:Expr->Bool}{more:eQ->Bool}{occ:List aj}{v:aj}: ∀{l:List Lit},cF may more occ l=some v->v∈bM l∧v∉occ
 | [],h=>by cases h
 |x::r,h=>by
  simp only[cF]at h;split at h
  ·rename_i w hw;simp only[WV]at h;subst h;obtain⟨h1,h2⟩:=xA hw;exact⟨vh Xd h1,h2⟩
  ·obtain⟨h1,h2⟩:=mw h;refine⟨?_,h2⟩;simp only[bM,XZ,W7]at h1 ⊢;exact .inr h1
theorem gy: ∀l:List Lit,(l.flatMap bD).length<=Lit.ax l
 | []=>by simp
 |e::r=>by
  have h2:=gy r;have h3:(bD e).length<=e.size:=by
   have:=kD e.atom;have:=e.size_eq;unfold bD;split
   ·omega
   ·simp
  rw[XZ,WW];simp only[Lit.ax];omega
theorem UN(occ:List aj)(l:Lit)(hb:l.size<=100000000000):b8 prog 172 [ag l.c, .dr (.func 227) [.mp 0] [], .mp 0] [c9 (aJ occ)] (.bT [pS (fP (aW occ) occ l).1,pB (fP (aW occ) occ l).2]) [(0,some (c9 (aJ occ)))] 1:=by
 have c0:=l.size_eq;have b0:=bL occ l.left.var;have a0:=bL occ l.right.var;refine aE ab func172 Z (by decide) ntmps172 Z (by simp) ?_;refine gA Z (zI (fun h1=>?_) fun h1=>?_);rotate_left
 ·have h1: ¬l.kind=3:=by simpa using h1
  refine gA Z (aC [] (by first|exact .inr Z|exact .inl Z) Z (zM ⟨.of_eq (jS (a:=(W4,false)) (by rw[fP,am (.inl h1)])),rfl,ac⟩ (hM Z Z Z ac)))
 have h1:l.kind=3:=by simpa using h1
 refine gA Z (zI (fun h2=>?_) fun h2=>?_)
 ·have h2: ¬l.op=1:=by simpa using h2
  refine gA Z (aC [] (by first|exact .inr Z|exact .inl Z) Z (zM ⟨.of_eq (jS (a:=(W4,false)) (by rw[fP,am (.inr h2)])),rfl,ac⟩ (hM Z Z Z ac)))
 have h2:l.op=1:=by simpa using h2
 have e1:fP (aW occ) occ l=if l.left.kind=1∧cj occ l.left.var=false∧(aW occ) l.right=true then(l.left.var,true) else if l.right.kind=1∧cj occ l.right.var=false∧(aW occ) l.left=true then(l.right.var,true) else(W4,false):=by
  rw[fP,be (by simp[h1,h2])]
 repeat' (first
  |(refine gA Z (zI (fun _=>?_) (fun _=>?_)))
  |(refine gA Z (ja [0] (d125 occ l.left (by omega)) Z Z Z Z Z Z Z Z ?_))
  |(refine gA Z (ja [0] (d125 occ l.right (by omega)) Z Z Z Z Z Z Z Z ?_))
  |fail)
 all_goals first
  |(refine gA Z (aC [] (.inr Z) Z (zM ⟨.of_eq (jS (a:=(W4,false)) ?_),rfl,ac⟩ (hM Z Z Z ac)));rw[e1];simp only[cS] at*;simp_all;done)
  |(refine gA Z (aC [] (.inr Z) Z (zM ⟨.of_eq (jS (a:=(l.left.var,true)) ?_),rfl,ac⟩ (hM Z Z Z ac)));rw[e1];simp only[cS] at*;simp_all;done)
  |(refine gA Z (aC [] (.inr Z) Z (zM ⟨.of_eq (jS (a:=(l.right.var,true)) ?_),rfl,ac⟩ (hM Z Z Z ac)));rw[e1];simp only[cS] at*;simp_all;done)
  |(exfalso;simp_all;done)
theorem VL(occ:List aj)(body:List Lit)(hb:occ.length+8*Lit.ax body<=100000000000):b8 prog 126 [.iv (lits body), .mp 0, .dr (.func 227) [.mp 0] [], .dr (.func 229) [] []] [c9 (aJ occ)] (.bT []) [(0,some (c9 (aJ (cH (fun occ=>aW occ) (fun occ=>fun _=>false) body occ))))] 1:=by
 have p0:=Lit.aw body;have k0:=gy body;have q0:=ke body;have o0:=qQ (bM body) (occ++body.flatMap bD);refine aE ab func126 Z (by decide) ntmps126 Z (by simp) ?_;refine gA Z ?_;refine aA 0 body.length (W3 _) (fun i=>⟨[(0, .iv (lits body)),(1, .mp 0),(2, .dr (.func 227) [.mp 0] []),(3, .dr (.func 229) [] []),(14, .iv (lits body)),(15,pI body.length),(16,pI i)],[(0,some (c9 (aJ (occ++(body.take i).flatMap bD))))],1⟩) (fun _=>True) [] ac
  (zW (hM Z (by simp) Z trivial)) fun i hi _=>?_
 refine gA Z (zI (fun h1=>?_) fun h1=>?_)
 ·have h1:=ci h1;have hs:=b7 (f:=bD) h1;have hn:=Lit.cO body i h1;have hv:=gy (body.take i);have n0:=(body.getD i default).size_eq;refine gA Z (zI (fun h2=>?_) fun h2=>?_)
  ·have h2:(body.getD i default).kind=1:=by simpa using h2
   rw[show bD (body.getD i default)=_ from am h2]at hs;refine gA Z (zq [0] (d88 (occ++(body.take i).flatMap bD) (body.getD i default).atom (by rw[WW];omega)) ?_);refine gA Z ⟨h1,ac,[],zW (hM Z (by rw[hs,Xa]) Z ac)⟩
  ·have h2: ¬(body.getD i default).kind=1:=by simpa using h2
   rw[show bD (body.getD i default)=_ from be h2,XE]at hs;refine gA Z ⟨h1,ac,[],zW (hM Z (by rw[hs]) Z ac)⟩
 have h1:=co h1;have e0:body.take i=body:=W2 h1;rw[e0];refine gA Z ?_;refine o8 (σ:={x:List aj×Nat//cH (fun occ=>aW occ) (fun occ=>fun _=>false) body occ=dL (fun occ=>aW occ) (fun occ=>fun _=>false) body (x.2+1) x.1∧ck (bM body) x.1<=x.2∧x.1.length+ck (bM body) x.1<=(occ++body.flatMap bD).length+ck (bM body) (occ++body.flatMap bD)})
  (fun x=>⟨[(0, .iv (lits body)),(1, .mp 0),(2, .dr (.func 227) [.mp 0] []),(3, .dr (.func 229) [] [])],[(0,some (c9 (aJ x.1.1)))],1⟩) (fun x=>ck (bM body) x.1.1)
  ⟨(occ++body.flatMap bD,3*body.length),rfl,by dsimp only;omega,W0 _⟩ [] (zW (hM Z Z Z trivial)) ?_
 rintro⟨⟨ok,f⟩,hx1,hx2,hx3⟩;dsimp only at hx1 hx2 hx3 ⊢;rw[WW]at hx3;refine gA Z ?_;refine aA 0 body.length (W3 _) (fun i=>⟨[(0, .iv (lits body)),(1, .mp 0),(2, .dr (.func 227) [.mp 0] []),(3, .dr (.func 229) [] []),(28, .iv (lits body)),(29,pI body.length),(30,pI i)],[(0,some (c9 (aJ ok)))],1⟩) (fun i=>cF ((fun occ=>aW occ) ok) ((fun occ=>fun _=>false) ok) ok (body.take i)=none) [] Z
  (zW (hM Z Z Z trivial)) fun i hi hJ=>?_
 refine gA Z (zI (fun h3=>?_) fun h3=>?_)
 ·have h3:=ci h3;have m0:=Lit.aT body i h3;have hag:=(body.getD i default).fq;have a0: ∀v,l4 ((fun occ=>aW occ) ok) ((fun occ=>fun _=>false) ok) ok (body.getD i default)=some v->cH (fun occ=>aW occ) (fun occ=>fun _=>false) body occ=dL (fun occ=>aW occ) (fun occ=>fun _=>false) body (f-1+1) (ok++ [v])∧ck (bM body) (ok++ [v])<=f-1∧
    (ok++ [v]).length+ck (bM body) (ok++ [v])<=(occ++body.flatMap bD).length+ck (bM body) (occ++body.flatMap bD)∧ck (bM body) (ok++ [v])<ck (bM body) ok:=by
   intro v hv;have hf:=sW hJ h3 hv;obtain⟨g1,g2⟩:=mw hf;have hlt:=qP g1 g2;have f0:ck (bM body) (ok++ [v])=ck (bM body) (bR ok v):=by
    unfold ck;congr 2
    funext x
    congr 1;rw[Xy,aQ,aQ,ch,W7,W5]
   have i0:f-1+1=f:=by omega
   refine⟨?_,by omega,?_,by omega⟩
   ·rw[hx1,fF hf,i0]
   ·rw[WW,WW,XC];omega
  have c0:=bL ok (fP (aW ok) ok (body.getD i default)).1;have g0:=iP ok (fP (aW ok) ok (body.getD i default)).1;have d0:=bL ok (body.getD i default).bp;have j0:=iP ok (body.getD i default).bp;refine gA Z (zq [0] (UN ok (body.getD i default) (by omega)) ?_);refine gA Z (zI (fun h4=>?_) fun h4=>?_)
  ·obtain⟨g1,g2,g3,g4⟩:=a0 _ (am h4);refine gA Z ⟨⟨(_,f-1),g1,g2,g3⟩,[],g4,zW (hM Z (by dsimp only;rw[dU];rfl) Z ac)⟩
  ·refine gA Z (zI (fun h5=>?_) fun h5=>?_)
   ·have h5:(body.getD i default).kind=4:=by simpa using h5
    refine gA Z (zI (fun h6=>?_) fun h6=>?_)
    ·have h6:cj ok (body.getD i default).bp=false:=by rw[cS];simpa using h6
     refine gA Z (zp (Wg (body.getD i default).agg) ?_);refine gA Z (zI (fun h7=>?_) fun h7=>?_)
     ·obtain⟨g1,g2,g3,g4⟩:=a0 _ ((be (by rw[h4];simp)).trans (am ⟨h5,h6,h7⟩));refine gA Z ⟨⟨(_,f-1),g1,g2,g3⟩,[],g4,zW (hM Z (by dsimp only;rw[dU];rfl) Z ac)⟩
     ·refine gA Z ?_;exact⟨h3,eO hJ h3 ((be (by rw[h4];simp)).trans (be (fun h=>nomatch (h.2.2.symm.trans h7)))),[],zW (hM Z Z Z ac)⟩
    ·have h6:cj ok (body.getD i default).bp=true:=by rw[cS];simpa using h6
     refine gA Z ⟨h3,eO hJ h3 ((be (by rw[h4];simp)).trans (be (by rw[h6];simp))),[],zW (hM Z Z Z ac)⟩
   ·have h5: ¬(body.getD i default).kind=4:=by simpa using h5
    refine gA Z ⟨h3,eO hJ h3 ((be (by rw[h4];simp)).trans (be (fun h=>h5 h.1))),[],zW (hM Z Z Z ac)⟩
 ·have h3:=co h3;rw[W2 h3]at hJ;have b0:cH (fun occ=>aW occ) (fun occ=>fun _=>false) body occ=ok:=by rw[hx1,fG hJ]
  refine gA Z (aC [] (by first|exact .inr Z|exact .inl Z) Z (zW (hM Z (by rw[b0]) Z ac)))
theorem UL(occ:List aj)(l:Lit)(hb:l.size<=100000000000):b8 prog 172 [ag l.c, .dr (.func 127) [] [.ptr 1 0], .mp 0] [c9 (aJ occ), .cells [.mp 0]] (.bT [pS (fP (cZ occ) occ l).1,pB (fP (cZ occ) occ l).2]) [(0,some (c9 (aJ occ))),(1,some (.cells [.mp 0]))] 2:=by
 have c0:=l.size_eq;have b0:=bL occ l.left.var;have a0:=bL occ l.right.var;refine aE ab func172 Z (by decide) ntmps172 Z (by simp) ?_;refine gA Z (zI (fun h1=>?_) fun h1=>?_);rotate_left
 ·have h1: ¬l.kind=3:=by simpa using h1
  refine gA Z (aC [] (by first|exact .inr Z|exact .inl Z) Z (zM ⟨.of_eq (jS (a:=(W4,false)) (by rw[fP,am (.inl h1)])),rfl,ac⟩ (hM Z Z Z (zO ac))))
 have h1:l.kind=3:=by simpa using h1
 refine gA Z (zI (fun h2=>?_) fun h2=>?_)
 ·have h2: ¬l.op=1:=by simpa using h2
  refine gA Z (aC [] (by first|exact .inr Z|exact .inl Z) Z (zM ⟨.of_eq (jS (a:=(W4,false)) (by rw[fP,am (.inr h2)])),rfl,ac⟩ (hM Z Z Z (zO ac))))
 have h2:l.op=1:=by simpa using h2
 have e1:fP (cZ occ) occ l=if l.left.kind=1∧cj occ l.left.var=false∧(cZ occ) l.right=true then(l.left.var,true) else if l.right.kind=1∧cj occ l.right.var=false∧(cZ occ) l.left=true then(l.right.var,true) else(W4,false):=by
  rw[fP,be (by simp[h1,h2])]
 repeat' (first
  |(refine gA Z (zI (fun _=>?_) (fun _=>?_)))
  |(refine gA Z (ja [0,1] (d76 occ l.left (by omega)) Z Z Z Z Z Z Z Z ?_))
  |(refine gA Z (ja [0,1] (d76 occ l.right (by omega)) Z Z Z Z Z Z Z Z ?_))
  |fail)
 all_goals first
  |(refine gA Z (aC [] (.inr Z) Z (zM ⟨.of_eq (jS (a:=(W4,false)) ?_),rfl,ac⟩ (hM Z Z Z (zO ac))));rw[e1];simp only[cS] at*;simp_all;done)
  |(refine gA Z (aC [] (.inr Z) Z (zM ⟨.of_eq (jS (a:=(l.left.var,true)) ?_),rfl,ac⟩ (hM Z Z Z (zO ac))));rw[e1];simp only[cS] at*;simp_all;done)
  |(refine gA Z (aC [] (.inr Z) Z (zM ⟨.of_eq (jS (a:=(l.right.var,true)) ?_),rfl,ac⟩ (hM Z Z Z (zO ac))));rw[e1];simp only[cS] at*;simp_all;done)
  |(exfalso;simp_all;done)
theorem VK(occ:List aj)(body:List Lit)(hb:occ.length+8*Lit.ax body<=100000000000):b8 prog 126 [.iv (lits body), .mp 0, .dr (.func 127) [] [.ptr 1 0], .dr (.func 128) [] []] [c9 (aJ occ), .cells [.mp 0]] (.bT []) [(0,some (c9 (aJ (cH (fun occ=>cZ occ) (fun occ=>fun _=>false) body occ)))),(1,some (.cells [.mp 0]))] 2:=by
 have p0:=Lit.aw body;have k0:=gy body;have q0:=ke body;have o0:=qQ (bM body) (occ++body.flatMap bD);refine aE ab func126 Z (by decide) ntmps126 Z (by simp) ?_;refine gA Z ?_;refine aA 0 body.length (W3 _) (fun i=>⟨[(0, .iv (lits body)),(1, .mp 0),(2, .dr (.func 127) [] [.ptr 1 0]),(3, .dr (.func 128) [] []),(14, .iv (lits body)),(15,pI body.length),(16,pI i)],[(0,some (c9 (aJ (occ++(body.take i).flatMap bD)))),(1,some (.cells [.mp 0]))],2⟩) (fun _=>True) [] ac
  (zW (hM Z (by simp) Z (zO trivial))) fun i hi _=>?_
 refine gA Z (zI (fun h1=>?_) fun h1=>?_)
 ·have h1:=ci h1;have hs:=b7 (f:=bD) h1;have hn:=Lit.cO body i h1;have hv:=gy (body.take i);have n0:=(body.getD i default).size_eq;refine gA Z (zI (fun h2=>?_) fun h2=>?_)
  ·have h2:(body.getD i default).kind=1:=by simpa using h2
   rw[show bD (body.getD i default)=_ from am h2]at hs;refine gA Z (zq [0] (d88 (occ++(body.take i).flatMap bD) (body.getD i default).atom (by rw[WW];omega)) ?_);refine gA Z ⟨h1,ac,[],zW (hM Z (by rw[hs,Xa]) Z (zO ac))⟩
  ·have h2: ¬(body.getD i default).kind=1:=by simpa using h2
   rw[show bD (body.getD i default)=_ from be h2,XE]at hs;refine gA Z ⟨h1,ac,[],zW (hM Z (by rw[hs]) Z (zO ac))⟩
 have h1:=co h1;have e0:body.take i=body:=W2 h1;rw[e0];refine gA Z ?_;refine o8 (σ:={x:List aj×Nat//cH (fun occ=>cZ occ) (fun occ=>fun _=>false) body occ=dL (fun occ=>cZ occ) (fun occ=>fun _=>false) body (x.2+1) x.1∧ck (bM body) x.1<=x.2∧x.1.length+ck (bM body) x.1<=(occ++body.flatMap bD).length+ck (bM body) (occ++body.flatMap bD)})
  (fun x=>⟨[(0, .iv (lits body)),(1, .mp 0),(2, .dr (.func 127) [] [.ptr 1 0]),(3, .dr (.func 128) [] [])],[(0,some (c9 (aJ x.1.1))),(1,some (.cells [.mp 0]))],2⟩) (fun x=>ck (bM body) x.1.1)
  ⟨(occ++body.flatMap bD,3*body.length),rfl,by dsimp only;omega,W0 _⟩ [] (zW (hM Z Z Z (zO trivial))) ?_
 rintro⟨⟨ok,f⟩,hx1,hx2,hx3⟩;dsimp only at hx1 hx2 hx3 ⊢;rw[WW]at hx3;refine gA Z ?_;refine aA 0 body.length (W3 _) (fun i=>⟨[(0, .iv (lits body)),(1, .mp 0),(2, .dr (.func 127) [] [.ptr 1 0]),(3, .dr (.func 128) [] []),(28, .iv (lits body)),(29,pI body.length),(30,pI i)],[(0,some (c9 (aJ ok))),(1,some (.cells [.mp 0]))],2⟩) (fun i=>cF ((fun occ=>cZ occ) ok) ((fun occ=>fun _=>false) ok) ok (body.take i)=none) [] Z
  (zW (hM Z Z Z (zO trivial))) fun i hi hJ=>?_
 refine gA Z (zI (fun h3=>?_) fun h3=>?_)
 ·have h3:=ci h3;have m0:=Lit.aT body i h3;have hag:=(body.getD i default).fq;have a0: ∀v,l4 ((fun occ=>cZ occ) ok) ((fun occ=>fun _=>false) ok) ok (body.getD i default)=some v->cH (fun occ=>cZ occ) (fun occ=>fun _=>false) body occ=dL (fun occ=>cZ occ) (fun occ=>fun _=>false) body (f-1+1) (ok++ [v])∧ck (bM body) (ok++ [v])<=f-1∧
    (ok++ [v]).length+ck (bM body) (ok++ [v])<=(occ++body.flatMap bD).length+ck (bM body) (occ++body.flatMap bD)∧ck (bM body) (ok++ [v])<ck (bM body) ok:=by
   intro v hv;have hf:=sW hJ h3 hv;obtain⟨g1,g2⟩:=mw hf;have hlt:=qP g1 g2;have f0:ck (bM body) (ok++ [v])=ck (bM body) (bR ok v):=by
    unfold ck;congr 2
    funext x
    congr 1;rw[Xy,aQ,aQ,ch,W7,W5]
   have i0:f-1+1=f:=by omega
   refine⟨?_,by omega,?_,by omega⟩
   ·rw[hx1,fF hf,i0]
   ·rw[WW,WW,XC];omega
  have c0:=bL ok (fP (cZ ok) ok (body.getD i default)).1;have g0:=iP ok (fP (cZ ok) ok (body.getD i default)).1;have d0:=bL ok (body.getD i default).bp;have j0:=iP ok (body.getD i default).bp;refine gA Z (zq [0,1] (UL ok (body.getD i default) (by omega)) ?_);refine gA Z (zI (fun h4=>?_) fun h4=>?_)
  ·obtain⟨g1,g2,g3,g4⟩:=a0 _ (am h4);refine gA Z ⟨⟨(_,f-1),g1,g2,g3⟩,[],g4,zW (hM Z (by dsimp only;rw[dU];rfl) Z (zO ac))⟩
  ·refine gA Z (zI (fun h5=>?_) fun h5=>?_)
   ·have h5:(body.getD i default).kind=4:=by simpa using h5
    refine gA Z (zI (fun h6=>?_) fun h6=>?_)
    ·have h6:cj ok (body.getD i default).bp=false:=by rw[cS];simpa using h6
     refine gA Z (zp (c77 (body.getD i default).agg) ?_);refine gA Z (zI (fun h7=>?_) fun h7=>?_)
     ·obtain⟨g1,g2,g3,g4⟩:=a0 _ ((be (by rw[h4];simp)).trans (am ⟨h5,h6,h7⟩));refine gA Z ⟨⟨(_,f-1),g1,g2,g3⟩,[],g4,zW (hM Z (by dsimp only;rw[dU];rfl) Z (zO ac))⟩
     ·refine gA Z ?_;exact⟨h3,eO hJ h3 ((be (by rw[h4];simp)).trans (be (fun h=>nomatch (h.2.2.symm.trans h7)))),[],zW (hM Z Z Z (zO ac))⟩
    ·have h6:cj ok (body.getD i default).bp=true:=by rw[cS];simpa using h6
     refine gA Z ⟨h3,eO hJ h3 ((be (by rw[h4];simp)).trans (be (by rw[h6];simp))),[],zW (hM Z Z Z (zO ac))⟩
   ·have h5: ¬(body.getD i default).kind=4:=by simpa using h5
    refine gA Z ⟨h3,eO hJ h3 ((be (by rw[h4];simp)).trans (be (fun h=>h5 h.1))),[],zW (hM Z Z Z (zO ac))⟩
 ·have h3:=co h3;rw[W2 h3]at hJ;have b0:cH (fun occ=>cZ occ) (fun occ=>fun _=>false) body occ=ok:=by rw[hx1,fG hJ]
  refine gA Z (aC [] (by first|exact .inr Z|exact .inl Z) Z (zW (hM Z (by rw[b0]) Z (zO ac))))
theorem UK(r:aq)(occ:List aj)(l:Lit)(hb:l.size<=100000000000):b8 prog 172 [ag l.c, .dr (.func 227) [.mp 0] [], .mp 0] [c9 (aJ occ), .cells [.iv (c6 r)], .cells [.mp 0]] (.bT [pS (fP (aW occ) occ l).1,pB (fP (aW occ) occ l).2]) [(0,some (c9 (aJ occ))),(1,some (.cells [.iv (c6 r)])),(2,some (.cells [.mp 0]))] 3:=by
 have c0:=l.size_eq;have b0:=bL occ l.left.var;have a0:=bL occ l.right.var;refine aE ab func172 Z (by decide) ntmps172 Z (by simp) ?_;refine gA Z (zI (fun h1=>?_) fun h1=>?_);rotate_left
 ·have h1: ¬l.kind=3:=by simpa using h1
  refine gA Z (aC [] (by first|exact .inr Z|exact .inl Z) Z (zM ⟨.of_eq (jS (a:=(W4,false)) (by rw[fP,am (.inl h1)])),rfl,ac⟩ (hM Z Z Z ⟨⟨_,rfl, .of_eq Z⟩,WR Z,rfl,⟨_,rfl, .of_eq Z⟩,WR Z,rfl,ac⟩)))
 have h1:l.kind=3:=by simpa using h1
 refine gA Z (zI (fun h2=>?_) fun h2=>?_)
 ·have h2: ¬l.op=1:=by simpa using h2
  refine gA Z (aC [] (by first|exact .inr Z|exact .inl Z) Z (zM ⟨.of_eq (jS (a:=(W4,false)) (by rw[fP,am (.inr h2)])),rfl,ac⟩ (hM Z Z Z ⟨⟨_,rfl, .of_eq Z⟩,WR Z,rfl,⟨_,rfl, .of_eq Z⟩,WR Z,rfl,ac⟩)))
 have h2:l.op=1:=by simpa using h2
 have e1:fP (aW occ) occ l=if l.left.kind=1∧cj occ l.left.var=false∧(aW occ) l.right=true then(l.left.var,true) else if l.right.kind=1∧cj occ l.right.var=false∧(aW occ) l.left=true then(l.right.var,true) else(W4,false):=by
  rw[fP,be (by simp[h1,h2])]
 repeat' (first
  |(refine gA Z (zI (fun _=>?_) (fun _=>?_)))
  |(refine gA Z (ja [0] (d125 occ l.left (by omega)) Z Z Z Z Z Z Z Z ?_))
  |(refine gA Z (ja [0] (d125 occ l.right (by omega)) Z Z Z Z Z Z Z Z ?_))
  |fail)
 all_goals first
  |(refine gA Z (aC [] (.inr Z) Z (zM ⟨.of_eq (jS (a:=(W4,false)) ?_),rfl,ac⟩ (hM Z Z Z ⟨⟨_,rfl, .of_eq Z⟩,WR Z,rfl,⟨_,rfl, .of_eq Z⟩,WR Z,rfl,ac⟩)));rw[e1];simp only[cS] at*;simp_all;done)
  |(refine gA Z (aC [] (.inr Z) Z (zM ⟨.of_eq (jS (a:=(l.left.var,true)) ?_),rfl,ac⟩ (hM Z Z Z ⟨⟨_,rfl, .of_eq Z⟩,WR Z,rfl,⟨_,rfl, .of_eq Z⟩,WR Z,rfl,ac⟩)));rw[e1];simp only[cS] at*;simp_all;done)
  |(refine gA Z (aC [] (.inr Z) Z (zM ⟨.of_eq (jS (a:=(l.right.var,true)) ?_),rfl,ac⟩ (hM Z Z Z ⟨⟨_,rfl, .of_eq Z⟩,WR Z,rfl,⟨_,rfl, .of_eq Z⟩,WR Z,rfl,ac⟩)));rw[e1];simp only[cS] at*;simp_all;done)
  |(exfalso;simp_all;done)
theorem VJ(r:aq)(occ:List aj)(body:List Lit)(hb:occ.length+8*Lit.ax body<=100000000000):b8 prog 126 [.iv (lits body), .mp 0, .dr (.func 227) [.mp 0] [], .dr (.func 228) [] [.ptr 1 0, .ptr 2 0]] [c9 (aJ occ), .cells [.iv (c6 r)], .cells [.mp 0]] (.bT []) [(0,some (c9 (aJ (cH (fun occ=>aW occ) (fun occ=>iE (az r) occ) body occ)))),(1,some (.cells [.iv (c6 r)])),(2,some (.cells [.mp 0]))] 3:=by
 have p0:=Lit.aw body;have k0:=gy body;have q0:=ke body;have o0:=qQ (bM body) (occ++body.flatMap bD);refine aE ab func126 Z (by decide) ntmps126 Z (by simp) ?_;refine gA Z ?_;refine aA 0 body.length (W3 _) (fun i=>⟨[(0, .iv (lits body)),(1, .mp 0),(2, .dr (.func 227) [.mp 0] []),(3, .dr (.func 228) [] [.ptr 1 0, .ptr 2 0]),(14, .iv (lits body)),(15,pI body.length),(16,pI i)],[(0,some (c9 (aJ (occ++(body.take i).flatMap bD)))),(1,some (.cells [.iv (c6 r)])),(2,some (.cells [.mp 0]))],3⟩) (fun _=>True) [] ac
  (zW (hM Z (by simp) Z ⟨⟨_,rfl, .of_eq Z⟩,WR Z,rfl,⟨_,rfl, .of_eq Z⟩,WR Z,rfl,ac⟩)) fun i hi _=>?_
 refine gA Z (zI (fun h1=>?_) fun h1=>?_)
 ·have h1:=ci h1;have hs:=b7 (f:=bD) h1;have hn:=Lit.cO body i h1;have hv:=gy (body.take i);have n0:=(body.getD i default).size_eq;refine gA Z (zI (fun h2=>?_) fun h2=>?_)
  ·have h2:(body.getD i default).kind=1:=by simpa using h2
   rw[show bD (body.getD i default)=_ from am h2]at hs;refine gA Z (zq [0] (d88 (occ++(body.take i).flatMap bD) (body.getD i default).atom (by rw[WW];omega)) ?_);refine gA Z ⟨h1,ac,[],zW (hM Z (by rw[hs,Xa]) Z ⟨⟨_,rfl, .of_eq Z⟩,WR Z,rfl,⟨_,rfl, .of_eq Z⟩,WR Z,rfl,ac⟩)⟩
  ·have h2: ¬(body.getD i default).kind=1:=by simpa using h2
   rw[show bD (body.getD i default)=_ from be h2,XE]at hs;refine gA Z ⟨h1,ac,[],zW (hM Z (by rw[hs]) Z ⟨⟨_,rfl, .of_eq Z⟩,WR Z,rfl,⟨_,rfl, .of_eq Z⟩,WR Z,rfl,ac⟩)⟩
 have h1:=co h1;have e0:body.take i=body:=W2 h1;rw[e0];refine gA Z ?_;refine o8 (σ:={x:List aj×Nat//cH (fun occ=>aW occ) (fun occ=>iE (az r) occ) body occ=dL (fun occ=>aW occ) (fun occ=>iE (az r) occ) body (x.2+1) x.1∧ck (bM body) x.1<=x.2∧x.1.length+ck (bM body) x.1<=(occ++body.flatMap bD).length+ck (bM body) (occ++body.flatMap bD)})
  (fun x=>⟨[(0, .iv (lits body)),(1, .mp 0),(2, .dr (.func 227) [.mp 0] []),(3, .dr (.func 228) [] [.ptr 1 0, .ptr 2 0])],[(0,some (c9 (aJ x.1.1))),(1,some (.cells [.iv (c6 r)])),(2,some (.cells [.mp 0]))],3⟩) (fun x=>ck (bM body) x.1.1)
  ⟨(occ++body.flatMap bD,3*body.length),rfl,by dsimp only;omega,W0 _⟩ [] (zW (hM Z Z Z ⟨⟨_,rfl, .of_eq Z⟩,WR Z,rfl,⟨_,rfl, .of_eq Z⟩,WR Z,rfl,ac⟩)) ?_
 rintro⟨⟨ok,f⟩,hx1,hx2,hx3⟩;dsimp only at hx1 hx2 hx3 ⊢;rw[WW]at hx3;refine gA Z ?_;refine aA 0 body.length (W3 _) (fun i=>⟨[(0, .iv (lits body)),(1, .mp 0),(2, .dr (.func 227) [.mp 0] []),(3, .dr (.func 228) [] [.ptr 1 0, .ptr 2 0]),(28, .iv (lits body)),(29,pI body.length),(30,pI i)],[(0,some (c9 (aJ ok))),(1,some (.cells [.iv (c6 r)])),(2,some (.cells [.mp 0]))],3⟩) (fun i=>cF ((fun occ=>aW occ) ok) ((fun occ=>iE (az r) occ) ok) ok (body.take i)=none) [] Z
  (zW (hM Z Z Z ⟨⟨_,rfl, .of_eq Z⟩,WR Z,rfl,⟨_,rfl, .of_eq Z⟩,WR Z,rfl,ac⟩)) fun i hi hJ=>?_
 refine gA Z (zI (fun h3=>?_) fun h3=>?_)
 ·have h3:=ci h3;have m0:=Lit.aT body i h3;have hag:=(body.getD i default).fq;have a0: ∀v,l4 ((fun occ=>aW occ) ok) ((fun occ=>iE (az r) occ) ok) ok (body.getD i default)=some v->cH (fun occ=>aW occ) (fun occ=>iE (az r) occ) body occ=dL (fun occ=>aW occ) (fun occ=>iE (az r) occ) body (f-1+1) (ok++ [v])∧ck (bM body) (ok++ [v])<=f-1∧
    (ok++ [v]).length+ck (bM body) (ok++ [v])<=(occ++body.flatMap bD).length+ck (bM body) (occ++body.flatMap bD)∧ck (bM body) (ok++ [v])<ck (bM body) ok:=by
   intro v hv;have hf:=sW hJ h3 hv;obtain⟨g1,g2⟩:=mw hf;have hlt:=qP g1 g2;have f0:ck (bM body) (ok++ [v])=ck (bM body) (bR ok v):=by
    unfold ck;congr 2
    funext x
    congr 1;rw[Xy,aQ,aQ,ch,W7,W5]
   have i0:f-1+1=f:=by omega
   refine⟨?_,by omega,?_,by omega⟩
   ·rw[hx1,fF hf,i0]
   ·rw[WW,WW,XC];omega
  have c0:=bL ok (fP (aW ok) ok (body.getD i default)).1;have g0:=iP ok (fP (aW ok) ok (body.getD i default)).1;have d0:=bL ok (body.getD i default).bp;have j0:=iP ok (body.getD i default).bp;refine gA Z (zq [0,1,2] (UK r ok (body.getD i default) (by omega)) ?_);refine gA Z (zI (fun h4=>?_) fun h4=>?_)
  ·obtain⟨g1,g2,g3,g4⟩:=a0 _ (am h4);refine gA Z ⟨⟨(_,f-1),g1,g2,g3⟩,[],g4,zW (hM Z (by dsimp only;rw[dU];rfl) Z ⟨⟨_,rfl, .of_eq Z⟩,WR Z,rfl,⟨_,rfl, .of_eq Z⟩,WR Z,rfl,ac⟩)⟩
  ·refine gA Z (zI (fun h5=>?_) fun h5=>?_)
   ·have h5:(body.getD i default).kind=4:=by simpa using h5
    refine gA Z (zI (fun h6=>?_) fun h6=>?_)
    ·have h6:cj ok (body.getD i default).bp=false:=by rw[cS];simpa using h6
     refine gA Z (zq [0,1,2] (d126 r ok (body.getD i default).agg (by omega)) ?_);refine gA Z (zI (fun h7=>?_) fun h7=>?_)
     ·obtain⟨g1,g2,g3,g4⟩:=a0 _ ((be (by rw[h4];simp)).trans (am ⟨h5,h6,h7⟩));refine gA Z ⟨⟨(_,f-1),g1,g2,g3⟩,[],g4,zW (hM Z (by dsimp only;rw[dU];rfl) Z ⟨⟨_,rfl, .of_eq Z⟩,WR Z,rfl,⟨_,rfl, .of_eq Z⟩,WR Z,rfl,ac⟩)⟩
     ·refine gA Z ?_;exact⟨h3,eO hJ h3 ((be (by rw[h4];simp)).trans (be (fun h=>nomatch (h.2.2.symm.trans h7)))),[],zW (hM Z Z Z ⟨⟨_,rfl, .of_eq Z⟩,WR Z,rfl,⟨_,rfl, .of_eq Z⟩,WR Z,rfl,ac⟩)⟩
    ·have h6:cj ok (body.getD i default).bp=true:=by rw[cS];simpa using h6
     refine gA Z ⟨h3,eO hJ h3 ((be (by rw[h4];simp)).trans (be (by rw[h6];simp))),[],zW (hM Z Z Z ⟨⟨_,rfl, .of_eq Z⟩,WR Z,rfl,⟨_,rfl, .of_eq Z⟩,WR Z,rfl,ac⟩)⟩
   ·have h5: ¬(body.getD i default).kind=4:=by simpa using h5
    refine gA Z ⟨h3,eO hJ h3 ((be (by rw[h4];simp)).trans (be (fun h=>h5 h.1))),[],zW (hM Z Z Z ⟨⟨_,rfl, .of_eq Z⟩,WR Z,rfl,⟨_,rfl, .of_eq Z⟩,WR Z,rfl,ac⟩)⟩
 ·have h3:=co h3;rw[W2 h3]at hJ;have b0:cH (fun occ=>aW occ) (fun occ=>iE (az r) occ) body occ=ok:=by rw[hx1,fG hJ]
  refine gA Z (aC [] (by first|exact .inr Z|exact .inl Z) Z (zW (hM Z (by rw[b0]) Z ⟨⟨_,rfl, .of_eq Z⟩,WR Z,rfl,⟨_,rfl, .of_eq Z⟩,WR Z,rfl,ac⟩)))
theorem wB:fQ .fY (c9 (aJ [])):=⟨id,fun M N U w j hj=>⟨#[],0,hj,⟨rfl,by simp[aJ],by simp[aJ],by simp,by simp⟩,gK M⟩⟩
def bV(r:aq):List aj:=cH (fun occ=>aW occ) (fun occ=>iE (az r) occ) r.body []
theorem UH(r:aq)(hb:8*Lit.ax r.body<=100000000000):b8 prog 126 [.iv (lits r.body), .mp 0, .dr (.func 227) [.mp 0] [], .dr (.func 228) [] [.ptr 1 0, .ptr 2 0]] [.fY, .cells [.iv (c6 r)], .cells [.mp 0]] (.bT []) [(0,some (c9 (aJ (bV r)))),(1,some (.cells [.iv (c6 r)])),(2,some (.cells [.mp 0]))] 3:=
 b8.QR (VJ r [] r.body (by simp;omega)) ⟨wB, .refl _, .refl _,ac⟩
theorem d73(r:aq)(hb:8*r.size<=100000000000):b8 prog 202 [.iv (c6 r)] [] (.mp 0) [(0,some (c9 (aJ (bV r))))] 1:=by
 unfold aq.size at hb;refine aE ab func202 Z (by decide) ntmps202 Z (by simp) ?_;refine gA Z (zd [1,0,2] (UH r (by omega)) ?_);refine gA Z (aC [1] (by first|exact .inr Z|exact .inl Z) Z (zW (hM Z Z Z ac)))
def S5(p:List aj->Prop)(q:PV)(h:AH)(n:Nat):Prop:= ∃ok,p ok∧q= .mp 0∧h=[(0,some (c9 (aJ ok)))]∧n=1
def KB(r:aq)(a:eQ)(occ:List aj):Prop:=occ.Nodup∧ ∀x,x∈occ↔x∈bj a∧x∈az r
theorem zr{l m:List aj}(h:l.Nodup)(hs: ∀x∈l,x∈m):l.length<=m.length:=X0 h hs
theorem mE(a:eQ):(bj a).length<=a.size:=by
 have h1:=mS a.body;have h2:=jo a.dT;unfold bj eQ.size;rw[WW];split
 ·rw[YB];omega
 ·omega
theorem Q6(a:eQ)(hb:a.size<=100000000000):b8 prog 196 [ag a.c1] [] (.mp 0) [(0,some (c9 (aJ (bj a))))] 1:=b8.le (d127 a (by omega)) ⟨a.Ic,ac⟩
theorem d161(r:aq)(a:eQ)(hb:16*a.size<=100000000000):Al.Fn prog 203 [.iv (c6 r),ag a.c] [] (S5 fun ok=> ∃occ,KB r a occ∧ok=cH (fun occ=>aW occ) (fun _=>fun _=>false) a.body occ):=by
 have q0:=mE a;have o0:Lit.ax a.body<=a.size:=by unfold eQ.size;omega
 refine Al.Fn.le (args:=[.iv (c6 r),ag a.c1]) ?_ ⟨.refl _,a.xG,ac⟩;refine xW ab func203 Z (by decide) ntmps203 Z (by simp) ?_;refine gA Z (zq [] (Q6 a (by omega)) ?_);refine gA Z ?_
 let a0:List Nat->List aj:=fun vs=>(vs.reverse.filterMap fun j=>((aJ (bj a))[j]?).bind fun x=>if cj (az r) x.1 then some x.1 else none)
 refine gG (aJ (bj a)) (fun vs=>⟨[(0, .iv (c6 r)),(3, .ptr 0 0),(5, .mp 1),(10, .ptr 3 0)],[(0,some (an a.c1)),(1,some (c9 (aJ (a0 vs)))),(3,some (.bS .str xY (aJ (bj a)) vs none))],4⟩)
  (fun vs=>(a0 vs).Nodup∧ ∀x,x∈a0 vs↔x∈az r∧ ∃j∈vs,∃y,(aJ (bj a))[j]? =some y∧y.1=x) [] ⟨XT,by simp[a0]⟩
  (zW (zK (KF Z gK Z (hI Z Z (.inl Z) Z trivial)))) fun vs hJ=>?_
 obtain⟨e0,f0⟩:=hJ;have p0:(a0 vs).length<=(bj a).length:=zr e0 fun x hx=>by
  obtain⟨_,j,_,y,h2,rfl⟩:=(f0 x).1 hx;exact wD h2
 refine nX Z ac (eN Z Z Z Z Z (by decide) (fun j0=>?_) fun j x hx hj=>?_)
 ·have m0:KB r a (a0 vs):=⟨e0,fun x=>by
   rw[f0];constructor
   ·rintro⟨h1,j,h2,y,h3,rfl⟩;exact⟨wD h3,h1⟩
   ·rintro⟨h1,h2⟩;refine⟨h2,?_⟩;obtain⟨y,hy,rfl⟩:=Xt.1 (((bY (bj a)).2 x).2 h1);obtain⟨j,hj⟩:=XP hy
    exact⟨j,j0 j (WX.1 hj).1,y,hj,rfl⟩⟩
  refine gA Z (zq [1] (VL (a0 vs) a.body (by omega)) ?_);refine nX Z ac (GV [1] (.inr Z) Z ⟨_,⟨a0 vs,m0,rfl⟩,rfl,rfl,rfl⟩ (zW (hM Z Z Z ac)))
 ·have h5:=cS (occ:=az r) (s:=x.1);have h7:=bL (az r) x.1;have h8:=bL (a0 vs) x.1;have h9:=iP (a0 vs) x.1;have b0:x.1∉a0 vs:=fun h=>by
   obtain⟨_,i,hi,y,h2,h3⟩:=(f0 x.1).1 h;have hnd:=(bY (bj a)).1;have:i=j:=by
    have g0:=(WX.1 h2)
    have i0:=(WX.1 hx)
    obtain⟨g0,k0⟩:=g0;obtain⟨i0,n0⟩:=i0;refine(Zt (i:=i) (j:=j) (h₀:=by rw[Xr];exact g0) (h₁:=by rw[Xr];exact i0) hnd).1 ?_;rw[ZG,ZG,k0,n0,h3]
   exact hj (this▸hi)
  have d0:a0 (j::vs)=a0 vs++if cj (az r) x.1 then[x.1] else[]:=by
   simp only[a0,List.reverse_cons,Z4,aac,List.filterMap_nil,hx,ZW];congr 1;cases cj (az r) x.1<;>rfl
  have c0:(a0 (j::vs)).Nodup∧ ∀z,z∈a0 (j::vs)↔z∈az r∧ ∃i∈j::vs,∃y,(aJ (bj a))[i]? =some y∧y.1=z:=by
   rw[d0];constructor
   ·split
    ·rw[Yy];refine⟨e0,X5.2 ⟨Zs,XT⟩,fun p hp q hq e=>?_⟩;rw[W5]at hq;exact b0 ((e.trans hq)▸hp)
    ·rw[XE];exact e0
   ·intro z;rw[W7,f0];constructor
    ·rintro(⟨h1,i,h2,h3⟩|h1)
     ·exact⟨h1,i,W8 _ h2,h3⟩
     ·split at h1
      ·rename_i h2;rw[W5]at h1;exact⟨h1▸aQ.1 h2,j,Xd,x,hx,h1.symm⟩
      ·cases h1
    ·rintro⟨h1,i,h2,y,h3,h4⟩;rcases Xb.1 h2 with rfl|h2
     ·rw[hx]at h3;cases h3;exact .inr (by rw[am (aQ.2 (h4▸h1))];simp[h4])
     ·exact .inl ⟨h1,i,h2,y,h3,h4⟩
  refine gA Z (zI (fun g1=>?_) fun g1=>?_)
  ·have g1:cj (az r) x.1=true:=by
    have:=zT g1;rw[h5];simp;omega
   rw[g1,am Z]at d0;refine gA Z ⟨j,x,hx,hj,c0,[],zW (zK (hM Z (by rw[d0,dU];rfl) Z (hI Z Z (.inr Z) Z ac)))⟩
  ·have g1:cj (az r) x.1=false:=by
    have:=zF g1;rw[h5];simp;omega
   rw[g1,be (by simp),XE]at d0;refine gA Z ⟨j,x,hx,hj,c0,[],zW (zK (hM Z (by rw[d0]) Z (hI Z Z (.inr Z) Z ac)))⟩
end Go.Proofs.YtflegjieadkonaaGreatDoor
namespace Go.Proofs.YtflegjieadkonaaGreatDoor
open Go Go.Al
def pc(s:aj):List UInt8:=s.data.toList
def Sk(l:List UInt8):aj:=⟨l.toArray⟩
theorem wx(s:aj):Sk (pc s)=s:=by simp[pc,Sk]
theorem Nq(l:List UInt8):pc (Sk l)=l:=by simp[pc,Sk]
def eE(l:List (List UInt8)):List (List UInt8):=l.mergeSort fun x y=>decide (x<=y)
def eH(l:List aj):List aj:=(eE (l.map pc)).map Sk
def ft:Prop:=
 (∀(aI off cap:Nat) (ss:List (List UInt8)) (w:World),Go.Sort.Holds encStr w aI off ss.toArray->aI<w.heap.size->ss.length<4611686018427387904->
  Calls Tryz.prog 91 #[.slice (some ⟨aI,off,none⟩) ss.length cap] w fun e w'=>
   e= .returned (.tuple #[])∧ ∃n os,w'=Go.Sort.grow (Go.Sort.putRow encStr (Go.Sort.ahead w n) aI off (ss.mergeSort fun x y=>decide (x<=y)).toArray) os)∧
 (∀(p:Option Addr) (cap:Nat) (w:World),Calls Tryz.prog 91 #[.slice p 0 cap] w fun e w'=>e= .returned (.tuple #[])∧w'=w)
theorem ji(l:List aj):(eH l).length=l.length:=by simp[eH,eE]
theorem qL:eH []=[]:=by simp[eH,eE]
theorem uz(l:List aj):(eH l).map pc=eE (l.map pc):=by
 unfold eH;rw[Y0];have:pc ∘ Sk=id:=by funext x;exact Nq x
 rw[this,List.map_id]
theorem Ct{l:List aj}{k:Nat}{e:List PV}(h:(l.map fun x=>(cW x).map PV.iv)[k]? =some e): ∃s,l[k]? =some s∧e=[pS s]:=by
 rw[W1,W6]at h;obtain⟨s,h1,rfl⟩:=h;exact⟨s,h1,rfl⟩
theorem LC(hS:ft)(l:List aj)(hl:l.length<=1000000000000):b8 Tryz.prog 91 [.sl 0 0 l.length 1] [aD 1 l cW] (.bT []) [(0,some (aD 1 (eH l) cW))] 1:=by
 refine⟨bI Tryz.func91 Z (by decide),fun M N w vs hr g0 hv=>?_⟩;obtain⟨v,rfl⟩: ∃v,vs=[v]:=by
  cases vs with
  |nil=>cases g0
  |cons v r=>cases r with
   |nil=>exact⟨v,rfl⟩
   |cons a b=>simp at g0
 have c0:=hv 0 _ Z;simp only[List.getD_cons_zero]at c0;have r0:=hr.obj 0 _ Z;cases l with
 |nil=>
  have m0:v= .slice none 0 0:=by
   generalize hq:PV.sl 0 0 ([]:List aj).length 1=q at c0;cases c0 with
   |sl i off len sz cap h h0 h1 hc he=>cases hq;simp at h0
   |ph i sz h=>rfl
   |_=>cases hq
  subst m0;refine(hS.2 none 0 w).mono ?_;rintro e w' ⟨rfl,rfl⟩;refine⟨_,M,N, .bT [],_,1,rfl,⟨rfl,rfl,rfl⟩,?_,?_, .bT [] #[] Z (by simp)⟩
  ·rw[qL];exact .refl _ _ _ _ _
  ·rw[qL];exact hr
 |cons s0 r=>
  generalize hL:s0::r=L at*
  have j0:0<L.length:=by rw[<-hL];simp
  obtain⟨cap,m0⟩: ∃cap,v= .slice (some ⟨N.aI 0,0,none⟩) L.length cap:=by
   generalize hn:L.length=n at c0 j0;generalize hq:PV.sl 0 0 n 1=q at c0;cases c0 with
   |sl i off len sz cap h h0 h1 hc he=>cases hq;exact⟨cap,by simp⟩
   |ph i sz h=>cases hq;omega
   |_=>cases hq
  subst m0;rcases r0 with h0|⟨_,c,T,h1,h2,h3,h4,h5⟩
  ·rw[<-hL]at h0;cases h0
  rw[Xr]at h3;have p0:(aD 1 L cW).real=true:=by rw[<-hL];rfl
  have k0: ∀j s,L[j]? =some s->c.getD j undef= .string s:=fun j s hj=>by
   have:=h5 j [pS s] 0 (pS s) (by rw[W1,hj];rfl) Z;rw[ZQ,Y8]at this;generalize c.getD j undef=y at this ⊢;cases this with
   |iv _ _ h=>cases h;rfl
  have hlt:=hr.lt (i:=0) Z p0;have hlm:(L.map pc).length=L.length:=by simp
  have hH:Go.Sort.Holds encStr w (N.aI 0) 0 (L.map pc).toArray:=by
   intro j hj;have v0:j<L.length:=by simpa using hj
   have n0:j<c.size:=by omega
   have:=k0 j L[j] (WY v0);rw[WT,XS n0,Yl]at this;constructor
   ·simp only[World.cell?,h1,Xk,Option.isSome_none,Yn,if_false];rw[XS n0,this,getElem!_pos _ j hj];simp[encStr,pc]
   ·simp[World.frozen?,h1]
  have b0:=hS.1 (N.aI 0) 0 cap (L.map pc) w hH hlt (by omega);rw[hlm]at b0;refine b0.mono ?_;rintro e w' ⟨rfl,n,os,rfl⟩
  let w1:=Go.Sort.putRow encStr (Go.Sort.ahead w n) (N.aI 0) 0 ((L.map pc).mergeSort fun x y=>decide (x<=y)).toArray
  have i0:(eE (L.map pc)).length=L.length:=by simp[eE]
  have d0:Ext M N (· <1) (fk 0 [aD 1 L cW]) w M N (· <1) ((0,some (aD 1 (eH L) cW))::fk 0 [aD 1 L cW]) w1∧Rel M N (· <1) ((0,some (aD 1 (eH L) cW))::fk 0 [aD 1 L cW]) w1:=by
   refine hr.write (i:=0) (o0:=aD 1 L cW) Z p0 w1 (aD 1 (eH L) cW) Z Z Z ?_ ?_ ?_
   ·show(Go.Sort.putRow _ _ _ _ _).heap.size=_;rw[Go.Sort.size_putRow];rfl
   ·intro b hb;show((w.heap.modify (N.aI 0) _))[b]? =_;rw[XR,be (fun e=>hb e.symm)]
   ·refine .inr ⟨Nat.one_pos,Go.Sort.putCells encStr 0 (eE (L.map pc)).toArray c,T,?_,?_,?_,?_,?_⟩
    ·show((w.heap.modify (N.aI 0) _))[N.aI 0]? =_;rw[XR,am Z,h1];rfl
    ·simp[Go.Sort.putCells,h2]
    ·rw[Xr,ji];simp[Go.Sort.putCells];omega
    ·intro k e he;obtain⟨s,_,rfl⟩:=Ct he;rfl
    ·intro k e j p he hp;obtain⟨s,hs,rfl⟩:=Ct he;have hj:j=0:=by
      rcases j with _|j
      ·rfl
      ·simp at hp
     subst hj;cases hp;have hk:k<L.length:=by
      have:=(WX.1 hs).1;rwa[ji]at this
     have w0:(eE (L.map pc))[k]? =some (pc s):=by
      rw[<-uz,W1,hs];rfl
     have q0:k<c.size:=by omega
     have f0:(Go.Sort.putCells encStr 0 (eE (L.map pc)).toArray c).getD (k*1+0) undef= .string s:=by
      rw[ZQ,Y8,WT];simp only[Go.Sort.putCells,Array.getElem?_mapIdx];rw[XS q0,XW,Yl,am ⟨W3 _,by simp[i0];omega⟩,ZZ];rw[getElem!_pos _ k (by simp[i0];omega)];have h9:(eE (L.map pc)).toArray[k]'(by simp[i0];omega)=pc s:=by
       rw[List.getElem_toArray];exact(WX.1 w0).2
      rw[h9];simp[encStr,pc]
     rw[f0];exact .iv _ _ (.v _)
  have e0:Rel M N (· <1) ((0,some (aD 1 (eH L) cW))::fk 0 [aD 1 L cW]) (Go.Sort.grow w1 os):=d0.2.more fun b hb=>by
   show(w1.heap++os)[b]? =_;rw[X8 hb]
  have t0:w1.heap.size=w.heap.size:=by
   show(Go.Sort.putRow _ _ _ _ _).heap.size=_;rw[Go.Sort.size_putRow];rfl
  have a0: ∀i o,AH.get [(0,some (aD 1 (eH L) cW))] i=some o->AH.get ((0,some (aD 1 (eH L) cW))::fk 0 [aD 1 L cW]) i=some o:=by
   intro i o h;rw[AH.au]at h ⊢;split at h
   ·rename_i h6;rw[am h6];exact h
   ·simp[AH.get]at h
  refine⟨_,M,N, .bT [],_,1,rfl,⟨rfl,rfl,rfl⟩,⟨d0.1.os,d0.1.tape,d0.1.output,?_,?_, .refl _,fun b c h1 h2=>(nomatch (h1.symm.trans h2)), .refl _ _,fun _ h=>h,fun i o hi=>d0.1.iW i o (a0 i o hi)⟩,?_, .bT [] #[] Z (by simp)⟩
  ·show w.heap.size<=(Go.Sort.grow w1 os).heap.size;rw[Go.Sort.size_grow,t0];omega
  ·intro b hb hn;have h7:=d0.1.jq b hb hn;show(w1.heap++os)[b]? =_;rw[X8 (by omega)];exact h7
  ·exact⟨e0.dF,fun i o hi=>e0.used i o (a0 i o hi),fun i o hi=>e0.eK i o (a0 i o hi),fun i o hi=>e0.obj i o (a0 i o hi),fun i j o p hi hj=>e0.inj i j o p (a0 i o hi) (a0 j p hj)⟩
end Go.Proofs.YtflegjieadkonaaGreatDoor
namespace Go.Proofs.YtflegjieadkonaaGreatDoor
open Go Go.Al Go.Proofs.Tryz
theorem gn(l:List (List UInt8)):(eE l).Perm l:=List.mergeSort_perm _ _
theorem jU(l:List (List UInt8)):(eE l).Pairwise (fun x y=>decide (x<=y)=true):=
 List.pairwise_mergeSort (le:=fun x y=>decide (x<=y)) (fun a b c h1 h2=>by simp only[decide_eq_true_eq] at*;exact List.le_trans h1 h2)
  (fun a b=>by
   rcases List.le_total a b with h|h
   ·simp[h]
   ·simp[h]) l
theorem Hv{a b:List (List UInt8)}(h:a.Perm b)(ha:a.Pairwise (fun x y=>decide (x<=y)=true))(hb:b.Pairwise (fun x y=>decide (x<=y)=true)):a=b:=
 List.Perm.eq_of_pairwise (fun x y _ _ h1 h2=>List.le_antisymm (zT h1) (zT h2)) ha hb h
theorem sc{a b:List aj}(h:a.Perm b):eH a=eH b:=by
 unfold eH;rw[Hv (((gn _).trans (h.map pc)).trans (gn _).symm) (jU _) (jU _)]
theorem c8{x:aj}{l:List aj}:x∈eH l↔x∈l:=by
 unfold eH;rw[Xt];constructor
 ·rintro⟨b,hb,rfl⟩;obtain⟨s,hs,rfl⟩:=Xt.1 ((gn _).mem_iff.1 hb);rwa[wx]
 ·intro h;exact⟨pc x,(gn _).mem_iff.2 (Xt.2 ⟨x,h,rfl⟩),wx x⟩
def iZ(m:NM)(vs:List Nat):List aj:=vs.reverse.filterMap fun j=>(m[j]?).map (·.1)
theorem mT(m:NM)(vs:List Nat)(j:Nat)(x:(KC.str).K×Int)(h:m[j]? =some x):iZ m (j::vs)=iZ m vs++ [x.1]:=by
 simp[iZ,Z4,h]
theorem xH(m:NM)(vs:List Nat):(iZ m vs).length<=vs.length:=by
 unfold iZ;have:=List.length_filterMap_le (fun j=>(m[j]?).map (·.1)) vs.reverse;rwa[List.length_reverse]at this
theorem Bm(m:NM):(Xc m.length).filterMap (fun j=>(m[j]?).map (·.1))=m.map (·.1):=by
 apply YH;intro k;have h:(Xc m.length).filterMap (fun j=>(m[j]?).map (·.1))=(Xc m.length).map (fun j=>(m.getD j (W4,0)).1):=by
  rw[show(fun j=>(m.getD j (W4,0)).1)=fun j=>(m.getD j (W4,0)).1 from rfl];have key: ∀l:List Nat,(∀j∈l,j<m.length)->l.filterMap (fun j=>(m[j]?).map (·.1))=l.map (fun j=>(m.getD j (W4,0)).1):=by
   intro l
   induction l with
   |nil=>simp
   |cons j r ih=>
    intro h;have hj:=h j Xd;rw[aac,WY hj,ih fun k hk=>h k (W8 _ hk)];simp[hj]
  exact key _ fun j hj=>Xu.1 hj
 rw[h];by_cases hk:k<m.length
 ·simp[hk]
 ·simp[hk]
theorem mc(m:NM)(vs:List Nat)(hn:vs.Nodup)(hb: ∀j∈vs,j<m.length)(a0: ∀j,j<m.length->j∈vs):(iZ m vs).Perm (m.map (·.1)):=by
 rw[<-Bm];unfold iZ;apply List.Perm.filterMap;refine(List.reverse_perm _).trans ?_;rw[List.perm_ext_iff_of_nodup hn List.nodup_range];intro j;rw[Xu];exact⟨hb j,a0 j⟩
def ff(m:NM):List aj:=eH (m.map (·.1))
theorem xz{vs:List Nat}{n:Nat}(h:vs.Nodup)(hb: ∀j∈vs,j<n):vs.length<=n:=by
 have:=X0 h (l₂:=Xc n) fun j hj=>Xu.2 (hb j hj);rwa[Zm]at this
theorem xj(σ:Nat->Nat)(l:List aj):(l.map fun x=>(cW x).map PV.iv).map (dS σ)=l.map fun x=>(cW x).map PV.iv:=by
 simp only[Y0,cW,Xe,XN];rfl
theorem c51(hS:ft)(m:NM)(hm:m.length<=100000000):Pure prog 112 [.iv (td m)] (.iv (strs (ff m))):=by
 refine ad ab func112 Z (by decide) ntmps112 Z (by simp) Z ?_;refine gA Z ?_;refine fb 3 1 Z ?_;refine gG m (fun vs=>⟨[(3, .sl 2 0 (iZ m vs).length 1),(6, .ptr 0 0)],[(0,some (.bS .str xY m vs none)),(2,some (aD 1 (iZ m vs) cW))],3⟩) (fun vs=>vs.Nodup∧ ∀j∈vs,j<m.length) [1] ⟨XT,by simp⟩
  (zW (hI Z Z (.inl Z) Z (zS trivial))) fun vs hJ=>?_
 obtain⟨b0,c0⟩:=hJ;have e0:=xz b0 c0;have d0:=xH m vs;refine nX Z ac (eN Z Z Z Z Z (by decide) (fun a0=>?_) fun j x hx hj=>?_)
 ·refine nX Z ac (ja [2] (LC hS (iZ m vs) (by omega)) Z Z Z Z Z (congrArg (fun o=> [some o]) (bC _).symm) Z Z ?_);refine nX Z ac (cU (.inr Z) Z Z ((xj _ _).trans (by rw[ff,sc (mc m vs b0 c0 a0)])) ?_);rw[ff,ji,<-(mc m vs b0 c0 a0).length_eq]
 ·have hk:=mT m vs j x hx;refine gA Z ⟨j,x,hx,hj,⟨X5.2 ⟨hj,b0⟩,fun i hi=>(Xb.1 hi).elim (fun h=>h▸(WX.1 hx).1) (c0 i)⟩,[4],zM ⟨.row (by rw[hk,WW];rfl),rfl,bv ac⟩ (hI Z Z (.inr Z) Z (hR Z (by rw[hk,WZ];rfl) Z ac))⟩
theorem Oh{P:Program}{k:FuncId}{kc:KC}{V:Type}{e:V->IV}{z:V}{zv:Value}{dv:PV->V}{m:List (kc.K×V)}{y:IV}(h:Al.Pure P k [.iv (.fw kc e z zv m)] (.iv y)):b8 P k [.mp 0] [.map kc e z zv dv m] (.iv y) [] 1:=by
 refine⟨h.1,fun M N w vs hr hl hv=>?_⟩;obtain⟨M1,h1,h2,h3,h4⟩:=tZ (n:=1) hr (i:=0) Z;have a0:Rel M1 N (· <0) (fk 0 []) w:=⟨h2.dF,fun i o hi=>(nomatch hi),fun i o hi=>(nomatch hi),fun i o hi=>(nomatch hi),fun i j o p hi=>(nomatch hi)⟩
 refine(h.2 M1 N w vs a0 hl fun j p hj=>?_).mono ?_
 ·cases j with
  |zero=>
   cases hj;have:=h4 _ _ (hv 0 _ Z);generalize vs.getD 0 undef=x at this ⊢;cases this with
   |iv _ _ h=>exact .iv _ _ h
  |succ j=>cases hj
 ·rintro _ w' ⟨x,M',N',r,h',n',rfl,⟨rfl,rfl,rfl⟩,hx,hrr,hvr⟩;refine⟨x,M',N, .iv y,[],1,rfl,⟨rfl,rfl,rfl⟩,?_,⟨hrr.dF,fun i o hi=>(nomatch hi),fun i o hi=>(nomatch hi),fun i o hi=>(nomatch hi),fun i j o p hi=>(nomatch hi)⟩,?_⟩
  ·refine⟨hx.os,hx.tape,hx.output,hx.size,fun b hb hn=>hx.jq b hb fun i o hi=>(nomatch hi),h1.rF.trans hx.rF,fun b c g1 g2=>?_, .refl _ _,fun _ h=>h,fun i o hi=>(nomatch hi)⟩;cases g3:M1 b with
   |some c'=>exact h1.jM b c' g1 g3
   |none=>
    rcases hx.jM b c g3 g2 with g4|⟨i,o,g4,_⟩
    ·exact .inl g4
    ·exact nomatch g4
  ·cases hvr with
   |iv _ _ h=>exact .iv _ _ h
theorem VV(hS:ft)(m:NM)(hm:m.length<=100000000):b8 prog 112 [.mp 0] [c9 m] (.iv (strs (ff m))) [] 1:=Oh (c51 hS m hm)
theorem vI: ∀{m:NM} (_:(m.map (·.1)).Nodup) (k:aj),pg .str m k=m.filter fun x=>!decide (x.1=k)
 | [],_,k=>rfl
 |(a,b)::r,h,k=>by
  rw[Xe,X5]at h;by_cases hk:a=k
  ·subst hk;have:r.filter (fun x=>!decide (x.1=a))=r:=aad.2 fun x hx=>by
    have:x.1≠a:=fun e=>h.1 (e▸Xt.2 ⟨x,hx,rfl⟩);simp[this]
   simp[pg,this]
  ·have ih:=vI h.2 k;simp[pg,hk,ih]
theorem rE{m:NM}{p:(KC.str).K×Int->Bool}(h:(m.map (·.1)).Nodup):((m.filter p).map (·.1)).Nodup:=h.sublist ((List.filter_sublist).map _)
theorem qk: ∀(ks:List aj) {m:NM} (_:(m.map (·.1)).Nodup),ks.foldl (fun m k=>pg .str m k) m=m.filter fun x=>!cj ks x.1
 | [],m,h=>(aad.2 fun _ _=>rfl).symm
 |k::r,m,h=>by
  rw[Xq,vI h,qk r (rE h),List.filter_filter];congr 1
  funext x
  by_cases hk:x.1=k
  ·simp[cj,hk]
  ·have: ¬k=x.1:=fun e=>hk e.symm
   simp[cj,hk,this]
def lj(r:aq)(a:eQ):NM:=(aJ (bj a)).filter fun x=>!cj (az r) x.1
theorem l0(l:List aj):(aJ l).length<=l.length:=by
 have h:=bY l;have:=zr h.1 fun x hx=>(h.2 x).1 hx;rwa[Xr]at this
theorem d79(r:aq)(a:eQ)(hb:a.size<=100000000000):b8 prog 191 [.iv (c6 r),ag a.c] [] (.mp 0) [(0,some (c9 (lj r a)))] 1:=by
 refine b8.le (args:=[.iv (c6 r),ag a.c1]) ?_ ⟨.refl _,a.xG,ac⟩;have e0:=mE a;have d0:=(bY (bj a)).1;refine aE ab func191 Z (by decide) ntmps191 Z (by simp) ?_;refine gA Z (zq [] (Q6 a (by omega)) ?_);refine gA Z ?_;refine gG (aJ (az r)) (fun vs=>⟨[(5, .mp 1),(13, .ptr 2 0)],[(1,some (c9 ((iZ (aJ (az r)) vs).foldl (fun m k=>pg .str m k) (aJ (bj a))))),(2,some (.bS .str xY (aJ (az r)) vs none))],3⟩)
  (fun vs=>vs.Nodup∧ ∀j∈vs,j<(aJ (az r)).length) [] ⟨XT,by simp⟩
  (zW (hM Z Z Z (hI Z Z (.inl Z) Z trivial))) fun vs hJ=>?_
 obtain⟨b0,c0⟩:=hJ;refine nX Z ac (eN Z Z Z Z Z (by decide) (fun a0=>?_) fun j x hx hj=>?_)
 ·have hlm:(iZ (aJ (az r)) vs).foldl (fun m k=>pg .str m k) (aJ (bj a))=lj r a:=by
   rw[qk _ d0];unfold lj;congr 1
   funext x
   congr 1;rw[Xy,aQ,aQ,(mc _ vs b0 c0 a0).mem_iff];exact(bY (az r)).2 x.1
  rw[hlm];refine gA Z (aC [1] (by first|exact .inr Z|exact .inl Z) Z (zW (hM Z Z Z ac)))
 ·have hk:=mT (aJ (az r)) vs j x hx;refine gA Z ⟨j,x,hx,hj,⟨X5.2 ⟨hj,b0⟩,fun i hi=>(Xb.1 hi).elim (fun h=>h▸(WX.1 hx).1) (c0 i)⟩,[],zW (hM Z (by rw[hk,YI];rfl) Z (hI Z Z (.inr Z) Z ac))⟩
theorem vJ{may:List aj->Expr->Bool}{more:List aj->eQ->Bool}{body:List Lit}: ∀(n:Nat) (occ:List aj),(dL may more body n occ).length<=occ.length+n
 |0,occ=>W0 _
 |n+1,occ=>by
  cases h:cF (may occ) (more occ) occ body with
  |none=>rw[fG h];omega
  |some v=>
   rw[fF h];have:=vJ (may:=may) (more:=more) (body:=body) n (occ++ [v]);rw[WW,XC]at this;omega
theorem vN{may:List aj->Expr->Bool}{more:List aj->eQ->Bool}{body:List Lit}(occ:List aj):(cH may more body occ).length<=occ.length+4*Lit.ax body+1:=by
 have h1:=vJ (may:=may) (more:=more) (body:=body) (3*body.length+1) (occ++body.flatMap bD);have h2:=gy body;have h3:=Lit.aw body;rw[WW]at h1;unfold cH;omega
theorem E4(r:aq):(bV r).length<=4*Lit.ax r.body+1:=by
 have:=vN (may:=fun occ=>aW occ) (more:=fun occ=>iE (az r) occ) (body:=r.body) [];rw[YB]at this;unfold bV;omega
def rA(r:aq):List aj:=cH (fun occ=>cZ occ) (fun _=>fun _=>false) r.body []
theorem HM(r:aq):(rA r).length<=4*Lit.ax r.body+1:=by
 have:=vN (may:=fun occ=>cZ occ) (more:=fun _=>fun _=>false) (body:=r.body) [];rw[YB]at this;unfold rA;omega
theorem UI(r:aq)(hb:8*Lit.ax r.body<=100000000000):b8 prog 126 [.iv (lits r.body), .mp 0, .dr (.func 127) [] [.ptr 1 0], .dr (.func 128) [] []] [.fY, .cells [.mp 0]] (.bT []) [(0,some (c9 (aJ (rA r)))),(1,some (.cells [.mp 0]))] 2:=
 b8.QR (VK [] r.body (by simp;omega)) ⟨wB, .refl _,ac⟩
theorem c33(hS:ft)(r:aq)(hb:r.size<=10000000):Pure prog 98 [ag r.c] (.iv (strs (ff (aJ (rA r))))):=by
 have h1:=l0 (rA r);have h2:=HM r;have h3:Lit.ax r.body<=r.size:=Yt _ _;refine ad ab func98 Z (by decide) ntmps98 Z (by simp) Z ?_;refine gA Z ?_;refine gA Z (zq [1,2] (UI r (by omega)) ?_);refine gA Z (zq [1] (VV hS (aJ (rA r)) (by omega)) ?_);refine gA Z (zL (.of_eq ?_));rfl
def sJ(r:aq)(lit:Int):List aj:=if lit<0∨(r.body.length:Int)<=lit∨ ¬(ah r lit).kind=4 then[] else ff (lj r (ah r lit).agg)
theorem vd{P:Program}{k:FuncId}{args:List PV}{os:List AO}{r:PV}{h:AH}{n0:Nat}(hc:ot P k){n:Nat}(hn: ∃sz el,PV.iv (.dq sz n el)∈args)(hh:n<=maxLen->b8 P k args os r h n0):b8 P k args os r h n0:=K7 hc hn hh
def sQ{α:Type}(p:α->Bool)(l:List α):Int:=match l.findIdx? p with
 |some i=>i
 |none=> -1
theorem ib{α:Type}{p:α->Bool}{l:List α}(h:l.any p=false):sQ p l= -1:=by
 have:l.findIdx? p=none:=by
  rw[Zv];intro x hx;have:=XO.1 h x hx;simpa using this
 rw[sQ,this]
theorem iL{α:Type}[Inhabited α]{p:α->Bool}{l:List α}{i:Nat}(h:(l.take i).any p=false)(hi:i<l.length)(hp:p (l.getD i default)=true):sQ p l=i:=by
 have:l.findIdx? p=some i:=by
  rw[Ze];have hg:l.getD i default=l[i]:=by simp[hi]
  refine⟨hi,hg▸hp,fun j hj=>?_⟩;have:=XO.1 h l[j] (List.mem_iff_getElem?.2 ⟨j,by rw[XY,am hj,WY (by omega)]⟩);simpa using this
 rw[sQ,this]
theorem ky{α:Type}(p:α->Bool)(l:List α):decide (sQ p l>=0)=l.any p:=by
 unfold sQ;cases h:l.findIdx? p with
 |none=>
  have:=Zv.1 h;have:l.any p=false:=XO.2 fun x hx=>by simp[this x hx]
  rw[this];rfl
 |some i=>
  obtain⟨h1,h2,_⟩:=Ze.1 h;rw[XM.2 ⟨_,XD h1,h2⟩];simp
theorem EM{a b:Int}(h:a=b):pI a=pI b:=by rw[h]
theorem Wr(x:Int):Pure prog 155 [pI x] (pB (!decide (x=1)&&!decide (x=2))):=by
 refine ad ab func155 Z (by decide) ntmps155 Z (by simp) Z ?_
 repeat' (first|(refine gA Z (zI (fun _=>?_) (fun _=>?_)))|(refine gA Z (zL (.of_eq ?_))))
 all_goals(refine(fu ?_:pB _=pB _);simp_all)
theorem Wq(t:Term):Pure prog 194 [ag t.c] (pB (decide (t.kind=3))):=by
 refine ad ab func194 Z (by decide) ntmps194 Z (by simp) Z ?_;refine gA Z (zL (.of_eq ?_));rfl
theorem Wp(t:Lit):Pure prog 195 [ag t.c] (pB (decide (t.kind=4))):=by
 refine ad ab func195 Z (by decide) ntmps195 Z (by simp) Z ?_;refine gA Z (zL (.of_eq ?_));rfl
def dt(v:tg):Int:=if v.kind=1 then(if v.sym=W4∧ -2147483647<=v.num∧v.num<=2147483647 then 0 else 20) else if v.kind=2 then(if v.num=0∧v.sym.size<=64 then 0 else 20) else 20
theorem Wu(v:tg):Pure prog 261 [ag v.c] (pI (dt v)):=by
 refine ad ab func261 Z (by decide) ntmps261 Z (by simp) Z ?_
 repeat' (first|(refine gA Z (zI (fun _=>?_) (fun _=>?_)))|(refine gA Z (zL (.of_eq ?_))))
 all_goals(refine(EM ?_:pI _=pI _);have hE:(⟨#[]⟩:ByteArray)=W4:=rfl;simp_all [dt];try omega)
def Decl.z:Decl:=⟨W4,[],⟨0,0⟩⟩
def G3(d:Decl):IV:= .agg d.c
def Lm:Value:= .agg #[.string W4, .slice none 0 0, .int .i64 0, .int .i64 0]
def intOf:List IV->Int
 | [.v (.int .i64 n)]=>n
 |_=>0
def VF:PV->Decl
 | .agg [.iv (.v (.string s)), .iv (.dq _ n el), .iv (.v (.int _ a)), .iv (.v (.int _ b))]=>⟨s,(Xc n).map fun k=>intOf (el k),⟨a,b⟩⟩
 |_=>Decl.z
abbrev DM:=List ((KC.str).K×Decl)
abbrev Q3(m:DM):AO:= .map .str G3 Decl.z Lm VF m
abbrev UF(m:DM):IV:= .fw .str G3 Decl.z Lm m
theorem QZ(d:Decl):VF (ag d.c)=d:=by
 show(⟨d.name,(Xc d.types.length).map fun k=>intOf (ba (d.types.getD k default)),⟨d.at_.line,d.at_.G6⟩⟩:Decl)=d;have:(Xc d.types.length).map (fun k=>intOf (ba (d.types.getD k default)))=d.types:=by
  apply YH;intro k;by_cases hk:k<d.types.length
  ·simp[hk,intOf,ba]
  ·simp[hk]
 rw[this]
theorem Ll: ∀M,IR M (G3 Decl.z) Lm:=fun M=>by
 refine .agg _ _ Z fun j p hj=>?_
 match j,hj with
 |0,hj=>cases hj;exact .v _
 |1,hj=>cases hj;exact .kQ _ _ _ _
 |2,hj=>cases hj;exact .v _
 |3,hj=>cases hj;exact .v _
 |j+4,hj=>simp[Decl.c]at hj
theorem agI(l:List IV):aH (ag l) (.iv (.agg l)):=by
 intro M N U x h;generalize hq:ag l=q at h;cases h with
 |agg cs ys hl hr=>
  cases hq;refine .iv _ _ (.agg _ _ (by simpa using hl) fun j p hj=>?_);have:=hr j (.iv p) (by rw[W1,hj];rfl);generalize ys.getD j undef=y at this ⊢;cases this with
  |iv _ _ h=>exact h
 |_=>cases hq
theorem Ln(d:Decl):aH (ag d.c) (.iv (G3 (VF (ag d.c)))):=by rw[QZ];exact agI _
def gY(m:DM)(d:Decl):DM:=if dV .str m d.name=true then m else b6 .str m d.name d
def zb(p:Prog):DM:=p.aB.foldl gY []
abbrev df(p:Prog):IV:=UF (zb p)
theorem xp{V:Type}: ∀(m:List ((KC.str).K×V)) (k:aj) (v:V),(b6 .str m k v).length<=m.length+1
 | [],_,_=>by simp[b6]
 |(a,b)::r,k,v=>by
  have:=xp r k v;simp only[b6];split
  ·simp
  ·simp only[Xx];omega
theorem d50(p:Prog)(hb:p.aB.length<=1000000000000):b8 prog 124 [ag p.c] [] (.mp 0) [(0,some (Q3 (zb p)))] 1:=by
 refine aE ab func124 Z (by decide) ntmps124 Z (by simp) ?_;refine gA Z ?_;refine aA 0 p.aB.length (W3 _) (fun i=>⟨[(3, .mp 1),(13, .iv (dy 4 p.aB Decl.c)),(14,pI p.aB.length),(15,pI i)],[(1,some (Q3 ((p.aB.take i).foldl gY [])))],2⟩) (fun _=>True) [] ac
  (zW (KF Z Ll Z trivial)) fun i hi _=>?_
 refine gA Z (zI (fun h1=>?_) fun h1=>?_)
 ·have h1:=ci h1;have hs:=cR (g:=gY) (b:=[]) h1;refine gA Z (zI (fun h2=>?_) fun h2=>?_)
  ·have h2:dV .str ((p.aB.take i).foldl gY []) (p.aB.getD i default).name=false:=by simpa using h2
   rw[gY,be (by rw[h2];simp)]at hs;refine nX Z ?_ ?_
   ·repeat' (first|exact ac|exact rfl|exact Ln _|exact aH.refl _|apply XA)
    all_goals omega
   exact⟨h1,ac,[],zW (hM Z (by rw[hs,<-QZ (p.aB.getD i default)];rfl) Z ac)⟩
  ·have h2:dV .str ((p.aB.take i).foldl gY []) (p.aB.getD i default).name=true:=by simpa using h2
   rw[gY,am h2]at hs;refine gA Z ⟨h1,ac,[],zW (hM Z (by rw[hs]) Z ac)⟩
 ·have h1:=co h1;rw[W2 h1];refine gA Z (aC [1] (by first|exact .inr Z|exact .inl Z) Z (zW (hM Z Z Z ac)))
def lz(p:Prog)(a:Atom):Bool:=!dV .str (zb p) a.rel
def gP(p:Prog)(s:aj):Decl:=bQ .str (zb p) s Decl.z
def mJ(p:Prog)(a:Atom):Bool:=!decide ((a.ae.length:Int)=((gP p a.rel).types.length:Int))
theorem d113(p:Prog)(a:Atom):b8 prog 163 [ag a.c, .ptr 0 0] [.cells [.iv (df p)]] (pB (lz p a)) [(0,some (.cells [.iv (df p)]))] 1:=by
 refine aE ab func163 Z (by decide) ntmps163 Z (by simp) ?_;refine gA Z (aC [] (by first|exact .inr Z|exact .inl Z) Z (zM ⟨.of_eq Z,rfl,ac⟩ (zO ac)))
theorem d115(p:Prog)(a:Atom):b8 prog 165 [ag a.c, .ptr 0 0] [.cells [.iv (df p)]] (pB (mJ p a)) [(0,some (.cells [.iv (df p)]))] 1:=by
 refine aE ab func165 Z (by decide) ntmps165 Z (by simp) ?_;refine gA Z (aC [] (by first|exact .inr Z|exact .inl Z) Z (zM ⟨.of_eq Z,rfl,ac⟩ (zO ac)))
theorem i187(l:List Int):b8 prog 186 [.iv (dy 1 l ba), .dr (.func 155) [] []] [] (pI (sQ (fun x=>!decide (x=1)&&!decide (x=2)) l)) [] 0:=by
 refine vd (bI func186 Z (by decide)) ⟨_,_,Xd⟩ fun a0=>?_;simp only[maxLen]at a0;refine aE ab func186 Z (by decide) ntmps186 Z (by simp) ?_;refine gA Z ?_
 refine aA 0 l.length (W3 _) (fun i=>⟨[(0, .iv (dy 1 l ba)),(1, .dr (.func 155) [] []),(7,pI l.length),(8,pI i)],[],0⟩) (fun i=>(l.take i).any (fun x=>!decide (x=1)&&!decide (x=2))=false) [] (by simp)
  (zW trivial) fun i hi hJ=>?_
 refine gA Z (zI (fun h1=>?_) fun h1=>?_)
 ·have h1:=ci h1;refine gA Z (zp (Wr (l.getD i default)) ?_);refine gA Z (zI (fun h2=>?_) fun h2=>?_)
  ·have h2:(fun x=>!decide (x=1)&&!decide (x=2)) (l.getD i default)=true:=h2;rw[iL hJ h1 h2];refine gA Z (aC [] (by first|exact .inr Z|exact .inl Z) Z (zW ac))
  ·have h2:(fun x=>!decide (x=1)&&!decide (x=2)) (l.getD i default)=false:=h2;refine gA Z ⟨h1,(bq hJ h1).2 h2,[],zW ac⟩
 ·have h1:=co h1;rw[ib (any_none hJ h1)];refine gA Z (aC [] (by first|exact .inr Z|exact .inl Z) Z (zW ac))
theorem d153(l:List Int):b8 prog 154 [.iv (dy 1 l ba), .dr (.func 155) [] []] [] (pB (l.any (fun x=>!decide (x=1)&&!decide (x=2)))) [] 0:=by
 refine aE ab func154 Z (by decide) ntmps154 Z (by simp) ?_;refine gA Z (zq [] (i187 l) ?_);refine gA Z (aC [] (by first|exact .inr Z|exact .inl Z) Z (zM ⟨.of_eq (fu (ky _ l)),rfl,ac⟩ ac))
theorem i191(l:List Term):b8 prog 224 [.iv (dy 5 l Term.c), .dr (.func 194) [] []] [] (pI (sQ (fun x:Term=>decide (x.kind=3)) l)) [] 0:=by
 refine vd (bI func224 Z (by decide)) ⟨_,_,Xd⟩ fun a0=>?_;simp only[maxLen]at a0;refine aE ab func224 Z (by decide) ntmps224 Z (by simp) ?_;refine gA Z ?_
 refine aA 0 l.length (W3 _) (fun i=>⟨[(0, .iv (dy 5 l Term.c)),(1, .dr (.func 194) [] []),(7,pI l.length),(8,pI i)],[],0⟩) (fun i=>(l.take i).any (fun x:Term=>decide (x.kind=3))=false) [] (by simp)
  (zW trivial) fun i hi hJ=>?_
 refine gA Z (zI (fun h1=>?_) fun h1=>?_)
 ·have h1:=ci h1;refine gA Z (zp (Wq (l.getD i default)) ?_);refine gA Z (zI (fun h2=>?_) fun h2=>?_)
  ·have h2:(fun x:Term=>decide (x.kind=3)) (l.getD i default)=true:=h2;rw[iL hJ h1 h2];refine gA Z (aC [] (by first|exact .inr Z|exact .inl Z) Z (zW ac))
  ·have h2:(fun x:Term=>decide (x.kind=3)) (l.getD i default)=false:=h2;refine gA Z ⟨h1,(bq hJ h1).2 h2,[],zW ac⟩
 ·have h1:=co h1;rw[ib (any_none hJ h1)];refine gA Z (aC [] (by first|exact .inr Z|exact .inl Z) Z (zW ac))
theorem d157(l:List Term):b8 prog 193 [.iv (dy 5 l Term.c), .dr (.func 194) [] []] [] (pB (l.any (fun x:Term=>decide (x.kind=3)))) [] 0:=by
 refine aE ab func193 Z (by decide) ntmps193 Z (by simp) ?_;refine gA Z (zq [] (i191 l) ?_);refine gA Z (aC [] (by first|exact .inr Z|exact .inl Z) Z (zM ⟨.of_eq (fu (ky _ l)),rfl,ac⟩ ac))
theorem i192(l:List Lit):b8 prog 130 [.iv (dy 30 l Lit.c), .dr (.func 195) [] []] [] (pI (sQ (fun x:Lit=>decide (x.kind=4)) l)) [] 0:=by
 refine vd (bI func130 Z (by decide)) ⟨_,_,Xd⟩ fun a0=>?_;simp only[maxLen]at a0;refine aE ab func130 Z (by decide) ntmps130 Z (by simp) ?_;refine gA Z ?_
 refine aA 0 l.length (W3 _) (fun i=>⟨[(0, .iv (dy 30 l Lit.c)),(1, .dr (.func 195) [] []),(7,pI l.length),(8,pI i)],[],0⟩) (fun i=>(l.take i).any (fun x:Lit=>decide (x.kind=4))=false) [] (by simp)
  (zW trivial) fun i hi hJ=>?_
 refine gA Z (zI (fun h1=>?_) fun h1=>?_)
 ·have h1:=ci h1;refine gA Z (zp (Wp (l.getD i default)) ?_);refine gA Z (zI (fun h2=>?_) fun h2=>?_)
  ·have h2:(fun x:Lit=>decide (x.kind=4)) (l.getD i default)=true:=h2;rw[iL hJ h1 h2];refine gA Z (aC [] (by first|exact .inr Z|exact .inl Z) Z (zW ac))
  ·have h2:(fun x:Lit=>decide (x.kind=4)) (l.getD i default)=false:=h2;refine gA Z ⟨h1,(bq hJ h1).2 h2,[],zW ac⟩
 ·have h1:=co h1;rw[ib (any_none hJ h1)];refine gA Z (aC [] (by first|exact .inr Z|exact .inl Z) Z (zW ac))
theorem d159(l:List Lit):b8 prog 101 [.iv (dy 30 l Lit.c), .dr (.func 195) [] []] [] (pB (l.any (fun x:Lit=>decide (x.kind=4)))) [] 0:=by
 refine aE ab func101 Z (by decide) ntmps101 Z (by simp) ?_;refine gA Z (zq [] (i192 l) ?_);refine gA Z (aC [] (by first|exact .inr Z|exact .inl Z) Z (zM ⟨.of_eq (fu (ky _ l)),rfl,ac⟩ ac))
theorem Uu(p:Prog)(l:List Atom):b8 prog 192 [.iv (dy 2 l Atom.c), .dr (.func 163) [] [.ptr 0 0]] [.cells [.iv (df p)]] (pI (sQ (fun x:Atom=>lz p x) l)) [(0,some (.cells [.iv (df p)]))] 1:=by
 refine vd (bI func192 Z (by decide)) ⟨_,_,Xd⟩ fun a0=>?_;simp only[maxLen]at a0;refine aE ab func192 Z (by decide) ntmps192 Z (by simp) ?_;refine gA Z ?_
 refine aA 0 l.length (W3 _) (fun i=>⟨[(0, .iv (dy 2 l Atom.c)),(1, .dr (.func 163) [] [.ptr 0 0]),(7,pI l.length),(8,pI i)],[(0,some (.cells [.iv (df p)]))],1⟩) (fun i=>(l.take i).any (fun x:Atom=>lz p x)=false) [] (by simp)
  (zW (zO trivial)) fun i hi hJ=>?_
 refine gA Z (zI (fun h1=>?_) fun h1=>?_)
 ·have h1:=ci h1;refine gA Z (zq [0] (d113 p (l.getD i default)) ?_);refine gA Z (zI (fun h2=>?_) fun h2=>?_)
  ·have h2:(fun x:Atom=>lz p x) (l.getD i default)=true:=h2;rw[iL hJ h1 h2];refine gA Z (aC [] (by first|exact .inr Z|exact .inl Z) Z (zW (zO ac)))
  ·have h2:(fun x:Atom=>lz p x) (l.getD i default)=false:=h2;refine gA Z ⟨h1,(bq hJ h1).2 h2,[],zW (zO ac)⟩
 ·have h1:=co h1;rw[ib (any_none hJ h1)];refine gA Z (aC [] (by first|exact .inr Z|exact .inl Z) Z (zW (zO ac)))
theorem UP(p:Prog)(l:List Atom):b8 prog 161 [.iv (dy 2 l Atom.c), .dr (.func 163) [] [.ptr 0 0]] [.cells [.iv (df p)]] (pB (l.any (fun x:Atom=>lz p x))) [(0,some (.cells [.iv (df p)]))] 1:=by
 refine aE ab func161 Z (by decide) ntmps161 Z (by simp) ?_;refine gA Z (zq [0] (Uu p l) ?_);refine gA Z (aC [] (by first|exact .inr Z|exact .inl Z) Z (zM ⟨.of_eq (fu (ky _ l)),rfl,ac⟩ (zO ac)))
theorem Ut(p:Prog)(l:List Atom):b8 prog 192 [.iv (dy 2 l Atom.c), .dr (.func 165) [] [.ptr 0 0]] [.cells [.iv (df p)]] (pI (sQ (fun x:Atom=>mJ p x) l)) [(0,some (.cells [.iv (df p)]))] 1:=by
 refine vd (bI func192 Z (by decide)) ⟨_,_,Xd⟩ fun a0=>?_;simp only[maxLen]at a0;refine aE ab func192 Z (by decide) ntmps192 Z (by simp) ?_;refine gA Z ?_
 refine aA 0 l.length (W3 _) (fun i=>⟨[(0, .iv (dy 2 l Atom.c)),(1, .dr (.func 165) [] [.ptr 0 0]),(7,pI l.length),(8,pI i)],[(0,some (.cells [.iv (df p)]))],1⟩) (fun i=>(l.take i).any (fun x:Atom=>mJ p x)=false) [] (by simp)
  (zW (zO trivial)) fun i hi hJ=>?_
 refine gA Z (zI (fun h1=>?_) fun h1=>?_)
 ·have h1:=ci h1;refine gA Z (zq [0] (d115 p (l.getD i default)) ?_);refine gA Z (zI (fun h2=>?_) fun h2=>?_)
  ·have h2:(fun x:Atom=>mJ p x) (l.getD i default)=true:=h2;rw[iL hJ h1 h2];refine gA Z (aC [] (by first|exact .inr Z|exact .inl Z) Z (zW (zO ac)))
  ·have h2:(fun x:Atom=>mJ p x) (l.getD i default)=false:=h2;refine gA Z ⟨h1,(bq hJ h1).2 h2,[],zW (zO ac)⟩
 ·have h1:=co h1;rw[ib (any_none hJ h1)];refine gA Z (aC [] (by first|exact .inr Z|exact .inl Z) Z (zW (zO ac)))
theorem UO(p:Prog)(l:List Atom):b8 prog 161 [.iv (dy 2 l Atom.c), .dr (.func 165) [] [.ptr 0 0]] [.cells [.iv (df p)]] (pB (l.any (fun x:Atom=>mJ p x))) [(0,some (.cells [.iv (df p)]))] 1:=by
 refine aE ab func161 Z (by decide) ntmps161 Z (by simp) ?_;refine gA Z (zq [0] (Ut p l) ?_);refine gA Z (aC [] (by first|exact .inr Z|exact .inl Z) Z (zM ⟨.of_eq (fu (ky _ l)),rfl,ac⟩ (zO ac)))
end Go.Proofs.YtflegjieadkonaaGreatDoor
