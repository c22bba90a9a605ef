/-
  What the proofs of the claims need: part 2 of 7.
-/
import Derived.Test.YtflegjieadkonaaGreatDoorPart1
import Derived.Deep.Slices
import Derived.ReadAgain
import Derived.ChangeStays
import Derived.ChangeSame
import Derived.WideShapes
import Derived.RowKit
import Derived.Lib.AppendStr
import Derived.Laws.IdiomStrings
import Derived.Laws.BytesArg
import Derived.Laws.MakeOwn
import Derived.Laws.Slices
import Derived.StillTail
import Derived.Lib.SliceRun
import Derived.KernelRfl
import Derived.Test.YtflegjieadkonaaGreatDoorProg
open And renaming intro→ZL
open Array renaming getD_eq_getD_getElem?→Y0,getElem?_append_left→Z4,getElem?_eq_getElem→ZV,getElem?_eq_some_iff→aaj,getElem?_map→abn,getElem?_modify→ZT,getElem?_push→abj,getElem?_setIfInBounds→ZK,getElem?_toList→aac,range→abR,replicate→aaP,size_append→abh,toArray_toList→aay
open Bool renaming and_eq_true→Zo,eq_false_iff→aaK,false_eq_true→aaz,false_or→aag,not_eq_true→aav,not_eq_true'→Z7,or_eq_false_iff→Zz,or_eq_true→aal,or_false→aaD,or_true→aba,true_or→abx
open ByteArray renaming empty→Y5
open Classical renaming choose→abw,choose_spec→aa0
open Int renaming toNat_natCast→Zs
open List.Nodup renaming length_le_of_subset→aaH
open List.Pairwise renaming nil→aaL
open List renaming all_eq_false→aaN,all_eq_true→Zr,any_eq_false→ZU,any_eq_true→ZQ,append_assoc→Zc,append_nil→ZE,cons_append→aaC,eq_nil_of_length_eq_zero→ZW,ext_getElem?→aaM,flatMap_append→aa7,flatMap_cons→ZO,foldl_append→aax,foldl_cons→Zw,getD_cons_succ→aap,getD_eq_getElem?_getD→YZ,getElem?_append_left→Zi,getElem?_append_right→Zn,getElem?_drop→aai,getElem?_eq_getElem→Y3,getElem?_eq_some_iff→Y4,getElem?_map→Y9,getElem?_of_mem→ZY,getElem?_range→aaZ,getElem?_replicate→aa6,getElem?_set→ZM,getElem?_take→ZX,getElem?_toArray→aak,getElem_mem→ZJ,length_append→Y1,length_cons→ZA,length_eq_zero_iff→abl,length_filter_le→aae,length_map→Zx,length_nil→aad,length_set→aaG,length_take→ZP,map_append→Y6,map_congr_left→aao,map_cons→Zm,map_map→aaQ,mem_append→Zf,mem_append_left→ZC,mem_append_right→aau,mem_cons→Zj,mem_cons_of_mem→Zg,mem_cons_self→Zh,mem_filter→ZF,mem_map→ZD,mem_of_find?_eq_some→abB,mem_of_getElem?→Zv,mem_range→Z8,mem_singleton→Zd,nil_append→aaF,nodup_append→aaY,nodup_cons→aam,nodup_nil→Z3,not_mem_nil→aby,range→Zp,replicate→aaX,take_append_drop→abe,take_of_length_le→Za,take_succ_cons→aan,take_succ_eq_append_getElem→abi
open Nat renaming add_assoc→aaB,add_mul→aaf,add_zero→aa8,beq→Zt,ble→aaV,ble_eq_true_of_le→ZI,blt→Zk,eq_of_beq_eq_true→Zl,le_of_ble_eq_true→YY,le_of_not_lt→aa2,le_refl→Y7,le_succ→abK,le_trans→ZS,lt_irrefl→abV,lt_of_le_of_lt→acb,lt_of_lt_of_le→aa1,lt_or_ge→aab,lt_succ_of_lt→aaE,lt_succ_self→aar,mul_le_mul_right→Zy,mul_one→abT,ne_of_lt→ab1,succ_mul→aaW,zero_add→Zq,zero_le→Y8,zero_mul→aa3
open Option renaming getD_some→aaq,map_eq_some_iff→Zb,map_none→abI,map_some→ZZ
open Option.some renaming inj→Z0,injEq→Y2
open Prod renaming fst→Zu
open Prod.mk renaming injEq→Ze
set_option maxRecDepth 100000
open Bool renaming false→lc,true→kw
open Decidable renaming decide→li
open Inhabited renaming default→em
open Option renaming none→jp,some→io
namespace Go.Al
theorem bv{a b:PV}{c:Bool}{X:Prop}(h:X)(h1:a=b:=by rfl)(h2:c=true:=by rfl):aL a b∧c=true∧X:=⟨by subst h1;exact fun _ _ _ _ h=>h,h2,h⟩
theorem ci{i n:Nat}(h:decide ((i:Int)<(n:Int))=true):i<n:=by simpa using h
theorem co{i n:Nat}(h:decide ((i:Int)<(n:Int))=false):n≤i:=by simpa using h
end Go.Al
namespace Go.Al
section
def B3:Op->Bool
  | .binOp .add _ _ _ _=>kw
  | .binOp .sub _ _ _ _=>kw
  | .binOp .mul _ _ _ _=>kw
  | .binOp .rem _ _ _ _=>kw
  | .binOp .quo _ _ _ _=>kw
  | .indexAddr ..=>kw
  | .index ..=>kw
  | .slice ..=>kw
  |_=>lc
theorem wW{ty:Ty}{s:AS}{o:Op}{p:PV}{C:Prop}(h:lu ty s o=io (p,C))(ho:B3 o=lc):C:=by
  cases o with
  | binOp op t x y t'=>
    simp only[lu]at h;split at h
    · unfold Ie at h
      split at h
      · split at h<;>first|(cases h;done)|(simp only[Y2,Ze]at h;rw[<-h.2];trivial)
      · split at h<;>first|(cases h;done)|(simp only[Y2,Ze]at h;rw[<-h.2];trivial)
      · cases h
    unfold CN at h;split at h
    · split at h
      · unfold Hz at h
        split at h<;>first|(cases h;done)|(simp[B3]at ho;done)|(simp only[Y2,Ze]at h;rw[<-h.2];trivial)
      · unfold GZ at h
        split at h<;>first
          |(cases h;done)
          |(split at h<;>first|(cases h;done)|(simp only[Y2,Ze]at h;rw[<-h.2];trivial))
    · unfold GS at h
      split at h<;>first|(cases h;done)|(simp[B3]at ho;done)|(simp only[Y2,Ze]at h;rw[<-h.2];trivial)
    · split at h
      all_goals first
        |(cases h;done)
        | (unfold qS at h
           split at h
           · split at h<;>first|(cases h;done)|(simp only[Y2,Ze]at h;rw[<-h.2];trivial)
           · cases h)
    · split at h
      all_goals first
        |(cases h;done)
        | (unfold qS at h
           split at h
           · split at h<;>first|(cases h;done)|(simp only[Y2,Ze]at h;rw[<-h.2];trivial)
           · cases h)
    · cases h
  |indexAddr t x i=>simp[B3]at ho
  |index t x i=>simp[B3]at ho
  |slice t x lo hi mx=>simp[B3]at ho
  | call c=>
    obtain⟨callee,args,d⟩:=c;cases callee with
    | builtin b=>
      cases b with
      | len=>
        simp only[lu]at h;split at h
        · split at h
          · split at h<;>first|(cases h;done)|(simp only[zo,Y2,Ze]at h;rw[<-h.2];trivial)
          · split at h<;>first|(cases h;done)|(simp only[zo,Y2,Ze]at h;rw[<-h.2];trivial)
          · split at h
            · simp only[Y2,Ze]at h;rw[<-h.2];trivial
            · split at h<;>first|(cases h;done)|(simp only[Y2,Ze]at h;rw[<-h.2];trivial)
            · cases h
          · cases h
        · cases h
      | max=>
        simp only[lu]at h;split at h
        · split at h<;>first|(cases h;done)|(simp only[Y2,Ze]at h;rw[<-h.2];trivial)
        · cases h
      | min=>
        simp only[lu]at h;split at h
        · split at h<;>first|(cases h;done)|(simp only[Y2,Ze]at h;rw[<-h.2];trivial)
        · cases h
      |_=>simp[lu]at h
    |_=>simp[lu]at h
  | unOp op t x=>
    cases op with
    |not=>simp only[lu]at h;split at h<;>first|(cases h;done)|(simp only[Y2,Ze]at h;rw[<-h.2];trivial)
    |_=>simp[lu]at h
  | lookup t x i ok=>
    have key: ∀{kc:KC} {V:Type} {e:V->IV} {z:V} {j:Value} {m:List (kc.K×V)},yc ty t ok kc e z j m (ev s.f i)=io (p,C)->C:=by
      intro kc V e z j m h;unfold yc at h;split at h
      · split at h
        · split at h
          · split at h<;>(simp only[Y2,Ze]at h;rw[<-h.2];trivial)
          · cases h
        · cases h
      · cases h
    simp only[lu]at h;split at h
    · exact key h
    · split at h
      · exact key h
      · cases h
    · cases h
  | _=>
    simp only[lu]at h
    repeat' (first|(cases h;done)|(simp only[force_eq,Y2,Ze]at h;rw[<-h.2];trivial)|split at h)
inductive Np where
  |read (i:Nat) (o:Oper) (p:PV) (C:Prop)
  |skip (i:Nat) (o:Oper)
  |split (d:Nat) (t:Bool)
def nr(ty:Ty)(nt:Nat)(s:AS)(all:List Oper)(todo pend:List (Nat×Oper)):List (Nat×Oper)->Option Np
  | []=>jp
  | (i,o)::r=>match todo.any (fun y=>waits o y.1)||aS o with
    |true=>nr ty nt s all todo pend r
    | false=>match cH nt all s.f o with
      | some kw=>match lu ty s o.op with
        | some (p,C)=>match y9 all pend o with
          |true=>io (.read i o p C)
          |false=>nr ty nt s all todo pend r
        |none=>nr ty nt s all todo pend r
      | some lc=>match y9 all pend o with
        |true=>io (.skip i o)
        |false=>nr ty nt s all todo pend r
      | none=>match o.guard with
        | some (g,_)=>match guardOf all s.f g with
          |some (d,.iv (.v (.bool t)))=>io (.split d t)
          |_=>nr ty nt s all todo pend r
        |none=>nr ty nt s all todo pend r
def eB(ty:Ty)(nt:Nat)(all:List Oper)(s:AS):List (Nat×Oper)->Option Prop
  | []=>io True
  | (_,o)::r=>match eB ty nt all s r with
    |none=>jp
    | some R=>match cH nt all s.f o with
      | some kw=>match lu ty s o.op with
        | some (p,C)=>match o.dst with
          |some d=>bif Zk d nt then io ((aL p (s.f.get d)∧C)∧R) else jp
          |none=>io (C∧R)
        |none=>jp
      | some lc=>match o.dst with
        |some d=>io (s.f.get d= .iv (.v (.tuple #[]))∧R)
        |none=>io R
      |none=>jp
def fp(todo:List (Nat×Oper)):List (Nat×Oper):=todo.filter fun x=>!(aS x.2||todo.any fun y=>waits x.2 y.1)
def tE(ty:Ty)(nt:Nat)(all:List Oper)(s:AS)(todo pend:List (Nat×Oper)):Option Prop:=
  match todo.any fun y=>aS y.2 with
  |true=>eB ty nt all s pend
  |false=>io True
def qZ(all:List Oper)(i:Nat)(o:Oper):Nat->List Oper->Bool
  |_,[]=>kw
  |k,q::r=>(Zt k i||((waits q i||!looks all q o)&&(match o.dst,q.dst with|some d,io e=>!Zt d e|_,_=>kw)))&&qZ all i o (k+1) r
def mV(ty:Ty)(nt:Nat)(all:List Oper):Nat->List Oper->Bool
  |_,[]=>kw
  | i,o::r=>(match o.op with
    | .alloc t=>match o.guard,o.dst,ty t with
      |none,io d,io _=>Zk d nt&&((o.after.toList.all fun e=>!Region.binds .any e)&&qZ all i o 0 all)
      |_,_,_=>lc
    |_=>kw)&&mV ty nt all (i+1) r
def DS(todo:List (Nat×Oper)):List (Nat×Oper)->Option (Nat×Oper)
  | []=>jp
  | (i,o)::r=>match aS o,CQ todo i with
    |true,kw=>io (i,o)
    |_,_=>DS todo r
inductive Stop where
  |fin (e:Exit) (s:AS)
  |cond (c:Operand) (t:Bool) (x y:Code) (k:List KI) (s:AS)
  |guard (all rest:List Oper) (o:Oper) (d:Nat) (want t:Bool) (k:List KI) (s:AS)
  |op (all rest:List Oper) (o:Oper) (k:List KI) (s:AS)
  |loop (b:Code) (k:List KI) (s:AS)
  |draw (id:Nat) (ops:Array Oper) (k:List KI) (s:AS)
  |again (R:AS->Prop) (s:AS)
  |TU (all rest:List Oper) (o:Oper) (d:Nat) (want t:Bool) (k:List KI) (s:AS)
  |Mt (all:List Oper) (todo pend:List (Nat×Oper)) (d:Nat) (t:Bool) (k:List KI) (s:AS)
  |My (all:List Oper) (todo pend:List (Nat×Oper)) (k:List KI) (s:AS)
  |bad (why:Nat) (k:List KI) (s:AS)
  |out (k:List KI) (s:AS)
def qh(id:Nat):List KI->Option (List KI)
  | []=>jp
  | .aK j::k=>bif Zt id j then io k else qh id k
  | .code _::k=>qh id k
  | .ops _ _::k=>qh id k
  | .lp _::k=>qh id k
  | .wB _ _::k=>qh id k
  | .cW _ _ _::k=>qh id k
  | .Il _ _::k=>qh id k
  | .JN::k=>qh id k
  | .Qy ..::_=>jp
  | .Qz ..::_=>jp
def iQ:List KI->Option (List KI)
  | []=>jp
  | .aK _::k=>iQ k
  | .code _::k=>iQ k
  | .ops _ _::k=>iQ k
  | .lp _::k=>iQ k
  | .wB _ _::k=>iQ k
  | .cW _ _ _::k=>iQ k
  | .Il _ _::k=>iQ k
  | .JN::k=>iQ k
  |k=>io k
structure YX where
  nt:Nat
  res:List ResultVar
  body:Code
abbrev Xy:=Nat->Option YX
def No(P:Program)(b:Xy):Prop:= ∀g e,b g=io e-> ∃fn,P.funcs[g]? =io fn∧fn.body=io e.body∧(fn.name== "runtime.NumGoroutine")=lc∧fn.ntmps=e.nt∧fn.results.toList=e.res
def Ff{α:Type _}:Nat->List PV->(AF->α)->α
  |_,[],k=>k []
  |n,p::r,k=>yx p fun b=>Ff (n+1) r fun f=>k ((n,b)::f)
theorem yY{α:Type _}: ∀(l:List PV) (n:Nat) (k:AF->α),Ff n l k=k (qX n l)
  | [],_,_=>rfl
  |p::r,n,k=>by simp only[Ff,eI,yY r,qX]
def callee(b:Xy)(s:AS):Op->Option (YX×List PV)
  | .call c=>match bY s.f c with
    | some (g,asv)=>match b g with
      | some e=>match aaV asv.length e.nt with
        |true=>io (e,asv)
        |false=>jp
      |none=>jp
    |none=>jp
  |_=>jp
structure Way where
  fns:Xy
  un:Nat
  cl:Bool
def b7(ty:Ty)(y:Way):Nat->Nat->List KI->AS->Prop->Option (Prop×Nat×Stop)
  |0,nt,k,s,C=>io (C,nt,.out k s)
  |_+1,nt,[],s,C=>io (C,nt,.fin .normal s)
  |n+1,nt,.aK _::k,s,C=>b7 ty y n nt k s C
  |_+1,nt,.lp R::_,s,C=>io (C,nt,.again R s)
  |n+1,nt,.JN::k,s,C=>b7 ty y n nt k s C
  |n+1,nt,.code (.scope b)::k,s,C=>b7 ty y n nt (.code b:: .JN::k) s C
  | n+1,nt,.Il b m::k,s,C=>match m with
    |0=>io (C,nt,.bad 2 k s)
    |m+1=>b7 ty y n nt (.code b:: .Il b m::k) s C
  | n+1,_,.Qy nt f res o all rest::k,s,C=>match res s with
    |none=>io (C,nt,.bad 3 k s)
    | some r=>match putDst nt o r ⟨f,s.h,s.nx⟩ with
      |none=>io (C,nt,.bad 4 k s)
      |some s'=>b7 ty y n nt (.ops all rest::k) s' C
  | n+1,_,.Qz nt f res j o all todo pend::k,s,C=>match res s with
    |none=>io (C,nt,.bad 5 k s)
    | some r=>match putDst nt o r ⟨f,s.h,s.nx⟩ with
      |none=>io (C,nt,.bad 6 k s)
      | some s'=>match eB ty nt all s' (bn pend o) with
        |none=>io (C,nt,.bad 7 k s)
        |some C''=>b7 ty y n nt (.cW all (todo.filter fun x=>!Zt x.1 j) (bn pend o)::k) s' (C∧C'')
  |n+1,nt,.code .skip::k,s,C=>b7 ty y n nt k s C
  |n+1,nt,.code (.label _)::k,s,C=>b7 ty y n nt k s C
  |n+1,nt,.code (.seq a b)::k,s,C=>b7 ty y n nt (.code a:: .code b::k) s C
  |n+1,nt,.code (.block id b)::k,s,C=>b7 ty y n nt (.code b:: .aK id::k) s C
  | n+1,nt,.code (.region id ops d)::k,s,C=>match d with
    |false=>b7 ty y n nt (.ops ops.toList ops.toList::k) s C
    | true=>match vm ops.toList,iu 0 ops.toList,mV ty nt ops.toList 0 ops.toList with
      |true,kw,kw=>b7 ty y n nt (.cW ops.toList (ic 0 ops.toList) []::k) s C
      |_,_,_=>io (C,nt,.draw id ops k s)
  |n+1,nt,.cW _ [] _::k,s,C=>b7 ty y n nt k s C
  | n+1,nt,.cW all (x::todo) pend::k,s,C=>match nr ty nt s all (x::todo) pend (x::todo) with
    | some (.read i o p C')=>match putDst nt o p s with
      |none=>io (C,nt,.bad 8 k s)
      | some s'=>match B3 o.op with
        |true=>b7 ty y n nt (.cW all ((x::todo).filter fun x=>!Zt x.1 i) ((i,o)::pend)::k) s' (C∧C')
        |false=>b7 ty y n nt (.cW all ((x::todo).filter fun x=>!Zt x.1 i) ((i,o)::pend)::k) s' C
    |some (.skip i o)=>b7 ty y n nt (.cW all ((x::todo).filter fun x=>!Zt x.1 i) ((i,o)::pend)::k) (iP o s) C
    | some (.split d _)=>match s.f.get d with
      | .iv (.v (.bool t'))=>match y.cl with
        |false=>io (C,nt,.Mt all (x::todo) pend d t' k s)
        | true=>match t' with
          |true=>b7 ty y n nt (.cW all (x::todo) pend::k) (setBool s (.tmp d) kw) C
          |false=>b7 ty y n nt (.cW all (x::todo) pend::k) (setBool s (.tmp d) lc) C
      |_=>io (C,nt,.bad 9 k s)
    | none=>match fp (x::todo) with
      | [(j,o)]=>match cH nt all s.f o,jI all pend o,ph (x::todo) [j] with
        | some kw,kw,kw=>match tE ty nt all s (x::todo) pend with
          |none=>io (C,nt,.bad 101 k s)
          | some CA=>match lu ty s o.op with
            | some (p,C')=>match putDst nt o p s with
              |none=>io (C,nt,.bad 102 k s)
              | some s'=>match eB ty nt all s' (bn pend o) with
                |none=>io (C,nt,.bad 103 k s)
                |some C''=>b7 ty y n nt (.cW all ((x::todo).filter fun x=>!Zt x.1 j) (bn pend o)::k) s' (C∧(CA∧C'∧C''))
            | none=>match JQ ty s o.op with
              | none=>match callee y.fns s o.op with
                | none=>match Vr ty s o.op with
                  |none=>io (C,nt,.My all (x::todo) pend k s)
                  | some (C',p,s1)=>match putDst nt o p s1 with
                    |none=>io (C,nt,.bad 109 k s)
                    | some s'=>match eB ty nt all s' (bn pend o) with
                      |none=>io (C,nt,.bad 110 k s)
                      |some C''=>b7 ty y n nt (.cW all ((x::todo).filter fun x=>!Zt x.1 j) (bn pend o)::k) s' (C∧(CA∧C'∧C''))
                |some (e,asv)=>Ff 0 asv fun f=>b7 ty y n e.nt (.code e.body:: .Qz nt s.f (lv ty · e.res) j o all (x::todo) pend::k) ⟨f,s.h,s.nx⟩ (C∧CA)
              | some (p,s1)=>match putDst nt o p s1 with
                |none=>io (C,nt,.bad 104 k s)
                | some s'=>match eB ty nt all s' (bn pend o) with
                  |none=>io (C,nt,.bad 105 k s)
                  |some C''=>b7 ty y n nt (.cW all ((x::todo).filter fun x=>!Zt x.1 j) (bn pend o)::k) s' (C∧(CA∧C''))
        |_,_,_=>io (C,nt,.My all (x::todo) pend k s)
      | []=>match DS (x::todo) (x::todo) with
        |none=>io (C,nt,.My all (x::todo) pend k s)
        | some (i,o)=>match o.op,o.dst with
          | .alloc t,io d=>match ty t with
            |none=>io (C,nt,.bad 106 k s)
            | some e=>force (c6 e.zero) fun A=>match eB ty nt all s pend,eB ty nt all (mW s d A) pend with
              |some C1,io C2=>b7 ty y n nt (.cW all ((x::todo).filter fun x=>!Zt x.1 i) pend::k) (mW s d A) (C∧(C1∧C2))
              |_,_=>io (C,nt,.bad 107 k s)
          |_,_=>io (C,nt,.bad 108 k s)
      |_=>io (C,nt,.My all (x::todo) pend k s)
  | n+1,nt,.code (.cond c u v)::k,s,C=>match ev s.f c with
    | .iv (.v (.bool t))=>match y.cl with
      |false=>io (C,nt,.cond c t u v k s)
      | true=>match t with
        |true=>b7 ty y n nt (.code u::k) s C
        |false=>b7 ty y n nt (.code v::k) s C
    | .kb kw=>b7 ty y n nt (.code u::k) s C
    | .kb lc=>b7 ty y n nt (.code v::k) s C
    |_=>io (C,nt,.bad 14 k s)
  | n+1,nt,.code .ret::k,s,C=>match iQ k with
    |some k'=>b7 ty y n nt k' s C
    |none=>io (C,nt,.fin .ret s)
  | n+1,nt,.code (.exit id)::k,s,C=>match qh id k with
    |some k'=>b7 ty y n nt k' s C
    |none=>io (C,nt,.bad 15 k s)
  | n+1,nt,.code (.loop b)::k,s,C=>match y.un with
    |0=>io (C,nt,.loop b k s)
    |u+1=>b7 ty y n nt (.code b:: .Il b u::k) s C
  |_+1,nt,.code _::k,s,C=>io (C,nt,.bad 16 k s)
  |_+1,nt,.wB _ _::k,s,C=>io (C,nt,.bad 17 k s)
  |n+1,nt,.ops _ []::k,s,C=>b7 ty y n nt k s C
  | n+1,nt,.ops all (o::r)::k,s,C=>match o.guard with
    | some (j,want)=>match guardOf all s.f j with
      | some (d,.iv (.v (.bool t)))=>bif Zk d nt then(match y.cl with
        |false=>io (C,nt,.guard all r o d want t k s)
        | true=>match t with
          |true=>b7 ty y n nt (.ops all (o::r)::k) (setBool s (.tmp d) kw) C
          |false=>b7 ty y n nt (.ops all (o::r)::k) (setBool s (.tmp d) lc) C) else io (C,nt,.bad 18 k s)
      | some (d,.kb t)=>bif Zk d nt then(match t,want,o with
        |true,kw,⟨a1,a2,a3,a4,a5,_⟩=>b7 ty y n nt (.ops all (⟨a1,a2,a3,a4,a5,jp⟩::r)::k) s C
        |false,lc,⟨a1,a2,a3,a4,a5,_⟩=>b7 ty y n nt (.ops all (⟨a1,a2,a3,a4,a5,jp⟩::r)::k) s C
        |_,_,o=>b7 ty y n nt (.ops all r::k) (iP o s) C) else io (C,nt,.bad 19 k s)
      |some (_,.iv (.v (.tuple _)))=>b7 ty y n nt (.ops all r::k) (iP o s) C
      |_=>io (C,nt,.bad 20 k s)
    | none=>match lu ty s o.op with
      | none=>match JQ ty s o.op with
        | none=>match callee y.fns s o.op with
          | none=>match Vr ty s o.op with
            |none=>io (C,nt,.op all r o k s)
            | some (C',p,s1)=>match putDst nt o p s1 with
              |none=>io (C,nt,.bad 111 k s)
              |some s'=>b7 ty y n nt (.ops all r::k) s' (C∧C')
          |some (e,asv)=>Ff 0 asv fun f=>b7 ty y n e.nt (.code e.body:: .Qy nt s.f (lv ty · e.res) o all r::k) ⟨f,s.h,s.nx⟩ C
        | some (p,s1)=>match putDst nt o p s1 with
          |none=>io (C,nt,.bad 21 k s)
          |some s'=>b7 ty y n nt (.ops all r::k) s' C
      | some (p,C')=>match putDst nt o p s with
        |none=>io (C,nt,.bad 22 k s)
        | some s'=>match B3 o.op with
          |true=>b7 ty y n nt (.ops all r::k) s' (C∧C')
          |false=>b7 ty y n nt (.ops all r::k) s' C
def gm(P:Program)(nt:Nat)(Q:AQ):Stop->Prop
  | .fin e s=>Q e s
  | .cond c t x y k s=>(t=kw->GO P nt (.code x::k) Q (setBool s c kw))∧(t=lc->GO P nt (.code y::k) Q (setBool s c lc))
  | .guard all r o d want t k s=>(t=want->GO P nt (.ops all ({o with guard:=jp}::r)::k) Q (setBool s (.tmp d) want))∧(t=!want->GO P nt (.ops all r::k) Q (iP o (setBool s (.tmp d) (!want))))
  | .op all r o k s=>GO P nt (.ops all (o::r)::k) Q s
  | .loop b k s=>GO P nt (.code (.loop b)::k) Q s
  | .draw id ops k s=>GO P nt (.code (.region id ops kw)::k) Q s
  | .again R s=>R s
  | .TU all r o d want t k s=>(t=want->GO P nt (.wB all ({o with guard:=jp}::r)::k) Q (setBool s (.tmp d) want))∧(t=!want->GO P nt (.wB all r::k) Q (iP o (setBool s (.tmp d) (!want))))
  | .Mt all todo pend d t k s=>(t=kw->GO P nt (.cW all todo pend::k) Q (setBool s (.tmp d) kw))∧(t=lc->GO P nt (.cW all todo pend::k) Q (setBool s (.tmp d) lc))
  | .My all todo pend k s=>GO P nt (.cW all todo pend::k) Q s
  | .bad _ _ _=>False
  | .out k s=>GO P nt k Q s
section
variable {P:Program} {ty:Ty} {nt:Nat} {Q:AQ}
theorem pc: ∀(k:List KI) {nt:Nat} {s:AS},iQ k=jp->Q .ret s->kp P nt k Q .ret s
  | [],_,_,_,h=>h
  | .code _::k,_,_,g,h=>pc k g h
  | .aK _::k,_,_,g,h=>pc k g h
  | .ops _ _::k,_,_,g,h=>pc k g h
  | .lp _::k,_,_,g,h=>pc k g h
  | .wB _ _::k,_,_,g,h=>pc k g h
  | .cW _ _ _::k,_,_,g,h=>pc k g h
  | .Il _ _::k,_,_,g,h=>pc k g h
  | .JN::k,_,_,g,h=>pc k g h
  | .Qy ..::_,_,_,g,_=>by simp[iQ]at g
  | .Qz ..::_,_,_,g,_=>by simp[iQ]at g
theorem eR: ∀(k:List KI) {nt:Nat} {s:AS} {b:List KI},iQ k=io b->GO P nt b Q s->kp P nt k Q .ret s
  | [],_,_,_,g,_=>by simp[iQ]at g
  | .code _::k,_,_,_,g,h=>eR k g h
  | .aK _::k,_,_,_,g,h=>eR k g h
  | .ops _ _::k,_,_,_,g,h=>eR k g h
  | .lp _::k,_,_,_,g,h=>eR k g h
  | .wB _ _::k,_,_,_,g,h=>eR k g h
  | .cW _ _ _::k,_,_,_,g,h=>eR k g h
  | .Il _ _::k,_,_,_,g,h=>eR k g h
  | .JN::k,_,_,_,g,h=>eR k g h
  | .Qy ..::_,_,_,_,g,h=>by
    simp only[iQ,Y2]at g;subst g;exact⟨.inr Z,h.2⟩
  | .Qz ..::_,_,_,_,g,h=>by
    simp only[iQ,Y2]at g;subst g;exact⟨.inr Z,h.2⟩
theorem dP{id:Nat}: ∀(k:List KI) {nt:Nat} {b:List KI} {s:AS},qh id k=io b->GO P nt b Q s->kp P nt k Q (.exit id) s
  | [],_,_,_,h,_=>by cases h
  | .code _::k,_,_,_,h,g=>dP k h g
  | .ops _ _::k,_,_,_,h,g=>dP k h g
  | .lp _::k,_,_,_,h,g=>dP k h g
  | .wB _ _::k,_,_,_,h,g=>dP k h g
  | .cW _ _ _::k,_,_,_,h,g=>dP k h g
  | .Il _ _::k,_,_,_,h,g=>dP k h g
  | .JN::k,_,_,_,h,g=>dP k h g
  | .Qy ..::_,_,_,_,h,_=>by cases h
  | .Qz ..::_,_,_,_,h,_=>by cases h
  | .aK j::k,nt,b,s,h,g=>by
    simp only[qh]at h;show if id=j then _ else _;cases hb:Zt id j with
    | true=>
      simp only[hb,cond_true,Y2]at h;subst h;rw[am (Zl hb)];exact g
    | false=>
      simp only[hb,cond_false]at h;rw[be (fun e=>by subst e;simp at hb)];exact dP k h g
theorem u5(j:cB P ty){s s':AS}{o:Oper}{p:PV}{C:Prop}(h:lu ty s o.op=io (p,C))(hC:C)(hp:putDst nt o p s=io s'):OT P nt o s (fun t=>t=s'):=by
  intro M N a w b K Z u;obtain⟨x,B,A⟩:=xM j b h hC;unfold Oper.wp;rw[B];simp only[Oper.upon];cases hd:o.dst with
  | none=>
    have:=fH hp hd;subst this;exact u M N s' _ w (.refl _ _ _ _ _) b rfl
  | some d=>
    obtain⟨y,rfl⟩:=fG hp hd;exact u M N {s with f:=(d,p)::s.f} _ w (.refl _ _ _ _ _) (b.put d p x y A) rfl
theorem lZ(j:cB P ty){s s':AS}{o:Oper}{p:PV}{C:Prop}(h:lu ty s o.op=io (p,C))(hC:C)(hp:putDst nt o p s=io s'):
    (s'.h=s.h∧s'.nx=s.nx)∧ ∀M N a w,Fits M N s nt a w-> ∃x,(execOp a.eval o).run P w= .ok (.value x) w∧Fits M N s' nt (a.put o.dst x) w:=by
  cases hd:o.dst with
  | none=>
    have:=fH hp hd;subst this;exact⟨⟨rfl,rfl⟩,fun M N a w b=>let ⟨x,hx,_⟩:=xM j b h hC;⟨x,hx,b⟩⟩
  | some d=>
    obtain⟨u,rfl⟩:=fG hp hd;exact⟨⟨rfl,rfl⟩,fun M N a w b=>let ⟨x,hx,hv⟩:=xM j b h hC;⟨x,hx,b.put d p x u hv⟩⟩
theorem qi{s:AS}{all:List Oper}{todo pend:List (Nat×Oper)}: ∀{l:List (Nat×Oper)} {i:Nat} {o:Oper},(∀x∈l,x∈todo)->
    ((∀{p C},nr ty nt s all todo pend l=io (.read i o p C)->(i,o)∈todo∧aS o=lc∧(∀x∈todo,waits o x.1=lc)∧cH nt all s.f o=io kw∧y9 all pend o=kw∧lu ty s o.op=io (p,C))∧
     (nr ty nt s all todo pend l=io (.skip i o)->(i,o)∈todo∧aS o=lc∧(∀x∈todo,waits o x.1=lc)∧cH nt all s.f o=io lc∧y9 all pend o=kw))
  | [],i,o,_=>⟨fun h=>by simp[nr]at h,fun h=>by simp[nr]at h⟩
  | (j,q)::r,i,o,hl=>by
    have b:=qi (s:=s) (all:=all) (todo:=todo) (pend:=pend) (l:=r) (i:=i) (o:=o) (fun x D=>hl x (Zg _ D));have d:(todo.any (fun y=>waits q y.1)||aS q)=lc->aS q=lc∧ ∀x∈todo,waits q x.1=lc:=fun h=>by
      simp only[Zz,ZU]at h;exact⟨h.2,fun x D=>by simpa using h.1 x D⟩
    constructor
    · intro p C h
      simp only[nr]at h;split at h
      · exact b.1 h
      · rename_i u
        split at h
        · rename_i B
          split at h
          · rename_i F
            split at h
            · rename_i A
              simp only[Y2,Np.read.injEq]at h;obtain⟨rfl,rfl,rfl,rfl⟩:=h;exact⟨hl _ (by simp),(d u).1,(d u).2,B,A,F⟩
            · exact b.1 h
          · exact b.1 h
        · split at h
          · cases h
          · exact b.1 h
        · split at h
          · split at h
            · cases h
            · exact b.1 h
          · exact b.1 h
    · intro h
      simp only[nr]at h;split at h
      · exact b.2 h
      · rename_i u
        split at h
        · split at h
          · split at h
            · cases h
            · exact b.2 h
          · exact b.2 h
        · rename_i B
          split at h
          · rename_i A
            simp only[Y2,Np.skip.injEq]at h;obtain⟨rfl,rfl⟩:=h;exact⟨hl _ (by simp),(d u).1,(d u).2,B,A⟩
          · exact b.2 h
        · split at h
          · split at h
            · cases h
            · exact b.2 h
          · exact b.2 h
theorem Fk{s s1:AS}{o:Oper}{d:Nat}{p:PV}(hd:o.dst=io d)(hs:s1={s with f:=(d,p)::s.f})(hp:aL p (s.f.get d)){M:Mem}{N:Nm}{a:Act}{w:World}(hf:Fits M N s1 nt a w):Fits M N s nt a w:=by
  subst hs;refine⟨hf.1,fun k=>?_,hf.2.2⟩;have:=hf.2.1 k;rw[AF.aw]at this;split at this
  · rename_i b;subst b;exact hp _ _ _ _ this
  · exact this
theorem fz(u:cB P ty){all:List Oper}{s:AS}: ∀{l:List (Nat×Oper)} {C:Prop},eB ty nt all s l=io C->C-> ∀x∈l,ji P nt all s x.2
  | [],_,_,_,x,hx=>(nomatch hx)
  | (i,o)::r,C,h,hC,x,hx=>by
    simp only[eB]at h;split at h
    · cases h
    · rename_i R hR
      have key:R->(∀M N b w,Fits M N s nt b w-> ∃v,YieldsAt P all.toArray w o v b∧Fits M N s nt (b.put o.dst v) w)->ji P nt all s x.2:=by
        intro B hh;rcases Zj.1 hx with rfl|hx
        · exact hh
        · exact fz u hR B x hx
      split at h
      · rename_i y
        split at h
        · rename_i p S B
          split at h
          · rename_i d hd
            cases hb:Zk d nt with
            |false=>simp[hb]at h
            | true=>
              simp only[hb,cond_true,Y2]at h;subst h;obtain⟨⟨D,I⟩,J⟩:=hC;refine key J fun M N b w j=>?_;obtain⟨v,G,A⟩:=xM u j B I;refine⟨v,.inl ⟨ey y j,.inl G⟩,?_⟩;rw[hd];exact Fk hd Z D (j.put d p v (YY hb) A)
          · rename_i hd
            simp only[Y2]at h;subst h;refine key hC.2 fun M N b w j=>?_;obtain⟨v,G,A⟩:=xM u j B hC.1;exact⟨v,.inl ⟨ey y j,.inl G⟩,by rw[hd];exact j⟩
        · cases h
      · rename_i y
        have F: ∀d,o.dst=io d->s.f.get d= .iv (.v (.tuple #[]))-> ∀M N b w,Fits M N s nt b w-> ∃v,YieldsAt P all.toArray w o v b∧Fits M N s nt (b.put o.dst v) w:=fun d hd D M N b w j=>by
          refine⟨undef,.inr ⟨ey y j,rfl⟩,?_⟩;have:=j.skip o;unfold iP at this;rw[hd]at this ⊢;exact Fk hd Z (D▸aL.refl _) this
        split at h
        · rename_i d hd
          simp only[Y2]at h;subst h;exact key hC.2 (F d hd hC.1)
        · rename_i hd
          simp only[Y2]at h;subst h;exact key hC fun M N b w j=>⟨undef,.inr ⟨ey y j,rfl⟩,by rw[hd];exact j⟩
      · cases h
theorem HJ{all:List Oper}{o:Oper}{r:List Oper}{d:Nat}{t:Bool}{k:List KI}{s:AS}{c:Bool}(hc:c=t)(u:s.f.get d= .iv (.v (.bool t)))(h:GO P nt (.ops all (o::r)::k) Q (setBool s (.tmp d) c)):GO P nt (.ops all (o::r)::k) Q s:=by
  subst hc;intro M N a w j;have b:=j.setBool (c:= .tmp d) u;exact AL.same (s:=s) h (lJ _ _ _) b
theorem yv{c:Operand}{u v:Code}{t:Bool}{k:List KI}{s:AS}(hc:ev s.f c= .iv (.v (.bool t)))(h:GO P nt (.code (bif t then u else v)::k) Q s):GO P nt (.code (.cond c u v)::k) Q s:=by
  intro M N a w b;refine wp_cond (b.bool hc) ?_;cases t
  · exact h M N a w b
  · exact h M N a w b
theorem v8{all:List Oper}{f:AF}{j d:Nat}{p:PV}(h:guardOf all f j=io (d,p)):f.get d=p:=by
  unfold guardOf at h;split at h
  · split at h
    · simp only[Y2,Ze]at h;rw[<-h.1];exact h.2
    · cases h
  · cases h
theorem DR{todo:List (Nat×Oper)}: ∀{l:List (Nat×Oper)} {i:Nat} {o:Oper},(∀x∈l,x∈todo)->DS todo l=io (i,o)->(i,o)∈todo∧CQ todo i=kw
  | [],_,_,_,h=>by simp[DS]at h
  | (j,q)::r,i,o,hl,h=>by
    simp only[DS]at h;split at h
    · rename_i b
      simp only[Y2,Ze]at h;obtain⟨rfl,rfl⟩:=h;exact⟨hl _ (by simp),b⟩
    · exact DR (fun x d=>hl x (Zg _ d)) h
theorem wv{all:List Oper}{i:Nat}{o:Oper}: ∀{l:List Oper} {n:Nat},qZ all i o n l=kw-> ∀k q,l[k]? =io q->n+k≠i->(waits q i=kw∨looks all q o=lc)∧ ∀d,o.dst=io d->q.dst≠io d
  | [],_,_,k,q,hk,_=>by simp at hk
  | c::l,n,h,k,q,hk,hne=>by
    simp only[qZ,Zo,aal,Z7]at h;cases k with
    | zero=>
      simp at hk;subst hk;rcases h.1 with b|⟨b,x⟩
      · exact absurd (Zl b) (by simpa using hne)
      · refine⟨b,fun d j u=>?_⟩
        rw[j,u]at x;simp at x
    |succ k=>exact wv h.2 k q (by simpa using hk) (by omega)
theorem zy(B:cB P ty){all:List Oper}(h:mV ty nt all 0 all=kw):kf P nt all:=by
  have key: ∀(l:List Oper) (n:Nat),mV ty nt all n l=kw-> ∀k o,l[k]? =io o->aS o=kw->
      o.guard=jp∧(∃d,o.dst=io d∧d<nt)∧(∃t v,o.op= .alloc t∧ ∀w,(zeroValue t).run P w= .ok v w)∧(∀k,waits o k=lc)∧qZ all (n+k) o 0 all=kw:=by
    intro l
    induction l with
    |nil=>intro n _ k o j;simp at j
    | cons c l ih=>
      intro n h k o j u;simp only[mV,Zo]at h;cases k with
      | zero=>
        simp at j;subst j;have b:=h.1;split at b
        · rename_i t A
          split at b
          · rename_i d e J hd x
            simp only[Zo]at b;refine⟨J,⟨d,hd,YY b.1⟩,⟨t,_,A,fun w=>ej (B _ _ x)⟩,fun k=>?_,b.2.2⟩;unfold waits;refine ZU.2 fun e x=>?_;have:=Zr.1 b.2.1 e x;simp only[Z7]at this;simp[this]
          · cases b
        · rename_i y
          unfold aS at u;split at u
          · rename_i t A;exact absurd A (y t)
          · cases u
      | succ k=>
        have:=ih (n+1) h.2 k o (by simpa using j) u;rw[show n+(k+1)=n+1+k by omega];exact this
  intro i o Y u;obtain⟨b,F,G,I,D⟩:=key all 0 h i o Y u;refine⟨b,F,G,I,fun k q j S=>?_⟩;rw[Zq]at D;exact wv D k q j (by omega)
theorem Bg{b:Xy}(d:No P b){s:AS}{o:Op}{e:YX}{asv:List PV}(h:callee b s o=io (e,asv)):
    ∃g c fn,o= .call c∧bY s.f c=io (g,asv)∧asv.length<=e.nt∧P.funcs[g]? =io fn∧fn.body=io e.body∧(fn.name== "runtime.NumGoroutine")=lc∧fn.ntmps=e.nt∧fn.results.toList=e.res:=by
  unfold callee at h;split at h
  · rename_i c
    split at h
    · rename_i g j D
      split at h
      · rename_i G F
        split at h
        · rename_i hb
          simp only[Y2,Ze]at h;obtain⟨rfl,rfl⟩:=h;obtain⟨fn,u,x,y,A,B⟩:=d _ _ F;exact⟨g,c,fn,rfl,D,YY hb,u,x,y,A,B⟩
        · cases h
      · cases h
    · cases h
  · cases h
theorem Uc(hm:P.follows .mixedOrders=kw)(B:cB P ty){y:Way}(s0:No P y.fns): ∀(n nt:Nat) (k:List KI) (s:AS) (C0 C:Prop) (G:Nat) (st:Stop),b7 ty y n nt k s C0=io (C,G,st)->(C->C0)∧(C->gm P G Q st->GO P nt k Q s):=by
  intro n
  induction n with
  | zero=>
    intro nt k s C0 C G st h;simp only[b7,Y2,Ze]at h;obtain⟨rfl,rfl,rfl⟩:=h;exact⟨fun h=>h,fun _ g=>g⟩
  | succ n ih=>
    intro nt k s C0 C G st h;have A: ∀{I:Nat} {k2:List KI} {s2:AS},b7 ty y n I k2 s2 C0=io (C,G,st)->(GO P I k2 Q s2->GO P nt k Q s)->(C->C0)∧(C->gm P G Q st->GO P nt k Q s):=
      fun h f=>have:=ih _ _ _ _ _ _ _ h;⟨this.1,fun hC g=>f (this.2 hC g)⟩
    have D: ∀{I:Nat} {k2:List KI} {s2:AS} {C1:Prop},b7 ty y n I k2 s2 (C0∧C1)=io (C,G,st)->(C1->GO P I k2 Q s2->GO P nt k Q s)->(C->C0)∧(C->gm P G Q st->GO P nt k Q s):=
      fun h f=>have:=ih _ _ _ _ _ _ _ h;⟨fun hC=>(this.1 hC).1,fun hC g=>f (this.1 hC).2 (this.2 hC g)⟩
    have here: ∀{r0:Stop},io (C0,nt,r0)=io (C,G,st)->(gm P nt Q r0->GO P nt k Q s)->(C->C0)∧(C->gm P G Q st->GO P nt k Q s):=by
      intro r0 h f;simp only[Y2,Ze]at h;obtain⟨rfl,rfl,rfl⟩:=h;exact⟨fun h=>h,fun _ g=>f g⟩
    have bad: ∀{I:Nat} {t0:Nat} {k2:List KI} {s2:AS},io (C0,I,Stop.bad t0 k2 s2)=io (C,G,st)->(C->C0)∧(C->gm P G Q st->GO P nt k Q s):=by
      intro I t0 k2 s2 h;simp only[Y2,Ze]at h;obtain⟨rfl,rfl,rfl⟩:=h;exact⟨fun h=>h,fun _ g=>g.elim⟩
    cases k with
    |nil=>simp only[b7]at h;exact here h fun g=>g
    | cons i k=>
      cases i with
      |lp R=>simp only[b7]at h;exact here h fun g=>g
      |aK id=>simp only[b7]at h;exact A h UK
      |JN=>simp only[b7]at h;exact A h fun g=>g
      | Il b m=>
        simp only[b7]at h;split at h
        · exact bad h
        · exact A h go_round
      | Qy I f res o all rest=>
        simp only[b7]at h;split at h
        · exact bad h
        · rename_i r hr
          split at h
          · exact bad h
          · rename_i s' F
            exact A h fun g=>⟨.inl Z,r,s',hr,F,g⟩
      | Qz I f res j o all todo pend=>
        simp only[b7]at h;split at h
        · exact bad h
        · rename_i r hr
          split at h
          · exact bad h
          · rename_i s' F
            split at h
            · exact bad h
            · rename_i j0 S
              exact D h fun hC g=>⟨.inl Z,r,s',hr,F,fz B S hC,g⟩
      | code c=>
        cases c with
        |skip=>simp only[b7]at h;exact A h go_skip
        |scope b=>simp only[b7]at h;exact A h L8
        |label l=>simp only[b7]at h;exact A h Ma
        |seq a b=>simp only[b7]at h;exact A h UG
        |block id b=>simp only[b7]at h;exact A h Mg
        | region id ops d=>
          cases d with
          |false=>simp only[b7]at h;exact A h go_region
          | true=>
            simp only[b7]at h;split at h
            · rename_i h1 h2 h3
              exact A h (Mf hm (Az h1) h2 (zy B h3))
            · exact here h fun g=>g
        | cond c u v=>
          simp only[b7]at h;split at h
          · rename_i t he
            split at h
            · exact here h fun g=>Qs he g.1 g.2
            · split at h
              · exact A h (yv he)
              · exact A h (yv he)
          · rename_i he
            exact A h (yu he)
          · rename_i he
            exact A h (yu he)
          · exact bad h
        | ret=>
          simp only[b7]at h;split at h
          · rename_i k' F
            exact A h fun g=>go_ret (eR k F g)
          · rename_i F
            exact here h fun g=>go_ret (pc k F g)
        | exit id=>
          simp only[b7]at h;split at h
          · rename_i k' F
            exact A h fun g=>Qq (dP k F g)
          · exact bad h
        | loop b=>
          simp only[b7]at h;split at h
          · exact here h fun g=>g
          · exact A h L7
        |_=>simp only[b7]at h;exact bad h
      |wB all rest=>simp only[b7]at h;exact bad h
      | cW all todo pend=>
        cases todo with
        |nil=>simp only[b7]at h;exact A h EC
        | cons x todo=>
          have d0: ∀{j:Nat} {o:Oper},fp (x::todo)=[(j,o)]->(j,o)∈(x::todo)∧aS o=lc∧ ∀y∈(x::todo),waits o y.1=lc:=by
            intro j o h1;have h2:(j,o)∈fp (x::todo):=by rw[h1];simp
            obtain⟨h3,h4⟩:=ZF.1 h2;simp only[Z7,Zz,ZU]at h4;exact⟨h3,h4.1,fun y J=>by simpa using h4.2 y J⟩
          have Y: ∀{CA:Prop},tE ty nt all s (x::todo) pend=io CA->CA-> ∀y∈(x::todo),aS y.2=kw-> ∀y∈pend,ji P nt all s y.2:=by
            intro CA h1 c0 y J e1;unfold tE at h1;split at h1
            · exact fz B h1 c0
            · rename_i h2
              have:=ZU.1 h2 y J;rw[e1]at this;exact absurd Z this
          have b0: ∀{j:Nat} {o:Oper} {s':AS},fp (x::todo)=[(j,o)]->cH nt all s.f o=io kw->jI all pend o=kw->ph (x::todo) [j]=kw->(∀y∈(x::todo),aS y.2=kw-> ∀y∈pend,ji P nt all s y.2)->OT P nt o s (fun t=>t=s')->
              (∀y∈bn pend o,ji P nt all s' y.2)->GO P nt (.cW all ((x::todo).filter fun x=>!Zt x.1 j) (bn pend o)::k) Q s'->GO P nt (.cW all (x::todo) pend::k) Q s:=by
            intro j o s' h1 h2 h3 h4 ha h5 h6 h7;obtain⟨a0,o0,q0⟩:=d0 h1;refine Cu h4 ⟨_,a0,o0⟩ ha fun j' o' hj _ hu=>?_;simp only[Zd]at hj;subst hj;have:=hu o a0;subst this;exact⟨o0,fun y J _=>q0 y J,h3,h2,_,h5,fun t ht=>by subst ht;exact⟨h6,h7⟩⟩
          simp only[b7]at h;split at h
          · rename_i i o p C' p0
            obtain⟨g1,ga,gb,g2,g3,g4⟩:=(qi (fun _ h=>h)).1 p0;split at h
            · exact bad h
            · rename_i s' F
              split at h
              · exact D h fun hC g=>yr g1 ga gb g2 g3 (lZ B g4 hC F).1 (lZ B g4 hC F).2 g
              · rename_i ho
                exact A h fun g=>yr g1 ga gb g2 g3 (lZ B g4 (wW g4 ho) F).1 (lZ B g4 (wW g4 ho) F).2 g
          · rename_i i o p0
            obtain⟨g1,ga,gb,g2,g3⟩:=(qi (fun _ h=>h)).2 p0;exact A h (Me g1 ga gb g2 g3)
          · split at h
            · rename_i t' J
              split at h
              · exact here h fun g=>vA J g.1 g.2
              · split at h
                · exact A h fun g=>vA J (fun _=>g) (fun h=>by cases h)
                · exact A h fun g=>vA J (fun h=>by cases h) (fun _=>g)
            · exact bad h
          · split at h
            · rename_i j o i0
              split at h
              · rename_i e0 f0 g0
                split at h
                · exact bad h
                · rename_i CA c0
                  split at h
                  · rename_i p C' hr
                    split at h
                    · exact bad h
                    · rename_i s' F
                      split at h
                      · exact bad h
                      · rename_i j0 S
                        exact D h fun hC g=>b0 i0 e0 f0 g0 (Y c0 hC.1) (u5 B hr hC.2.1 F) (fz B S hC.2.2) g
                  · split at h
                    · split at h
                      · split at h
                        · exact here h fun g=>g
                        · rename_i C' p s1 k0
                          split at h
                          · exact bad h
                          · rename_i s' F
                            split at h
                            · exact bad h
                            · rename_i j0 S
                              exact D h fun hC g=>b0 i0 e0 f0 g0 (Y c0 hC.1) (Fq B k0 hC.2.1 F) (fz B S hC.2.2) g
                      · rename_i e v0 m0
                        rw[yY]at h;obtain⟨g,c,fn,ho,ha,he,h1,h2,h3,h4,h5⟩:=Bg s0 m0;obtain⟨a0,o0,q0⟩:=d0 i0;exact D h fun hC gg=>Qr B a0 g0 q0 (Y c0 hC) f0 e0 ho ha h1 h2 h3 h4 h5 he gg
                    · rename_i p s1 n0
                      split at h
                      · exact bad h
                      · rename_i s' F
                        split at h
                        · exact bad h
                        · rename_i j0 S
                          exact D h fun hC g=>b0 i0 e0 f0 g0 (Y c0 hC.1) (FZ B n0 F) (fz B S hC.2) g
              · exact here h fun g=>g
            · split at h
              · exact here h fun g=>g
              · rename_i i o d1
                split at h
                · rename_i t d b1 y0
                  split at h
                  · exact bad h
                  · rename_i e he
                    rw[force_eq]at h;split at h
                    · rename_i C1 C2 w0 x0
                      obtain⟨m1,m2⟩:=DR (fun _ h=>h) d1;exact D h fun hC g=>Jl m1 b1 (fun w=>ej (B _ _ he)) y0 m2 (fz B w0 hC.1) (fz B x0 hC.2) g
                    · exact bad h
                · exact bad h
            · exact here h fun g=>g
      | ops all rest=>
        cases rest with
        |nil=>simp only[b7]at h;exact A h Ge
        | cons o r=>
          simp only[b7]at h;split at h
          · rename_i j want hg
            split at h
            · rename_i d t J
              cases hb:Zk d nt with
              |false=>simp only[hb,cond_false]at h;exact bad h
              | true=>
                simp only[hb,cond_true]at h;split at h
                · exact here h fun g=>Mc hg J (YY hb) g.1 g.2
                · split at h
                  · exact A h (HJ Z (v8 J))
                  · exact A h (HJ Z (v8 J))
            · rename_i d t J
              cases hb:Zk d nt with
              |false=>simp only[hb,cond_false]at h;exact bad h
              | true=>
                simp only[hb,cond_true]at h;obtain⟨a1,a2,a3,a4,a5,a6⟩:=o;cases t<;>cases want<;>simp only at h
                all_goals exact A h fun g=>EB hg J (YY hb) g
            · rename_i d vs J
              exact A h fun g=>EA hg J g
            · exact bad h
          · rename_i hg
            split at h
            · split at h
              · split at h
                · split at h
                  · exact here h fun g=>g
                  · rename_i C' p s1 k0
                    split at h
                    · exact bad h
                    · rename_i s' F
                      exact D h fun hC g=>dJ hg (Fq B k0 hC F) fun t ht=>by subst ht;exact g
                · rename_i e v0 m0
                  rw[yY]at h;obtain⟨g,c,fn,ho,ha,he,h1,h2,h3,h4,h5⟩:=Bg s0 m0;exact A h fun gg=>UH B hg ho ha h1 h2 h3 h4 h5 he gg
              · rename_i p s1 n0
                split at h
                · exact bad h
                · rename_i s' F
                  exact A h fun g=>dJ hg (FZ B n0 F) fun t ht=>by subst ht;exact g
            · rename_i p C' hr
              split at h
              · exact bad h
              · rename_i s' F
                split at h
                · exact D h fun hC g=>dJ hg (u5 B hr hC F) fun t ht=>by subst ht;exact g
                · rename_i ho
                  exact A h fun g=>dJ hg (u5 B hr (wW hr ho) F) fun t ht=>by subst ht;exact g
theorem Ux:No P (fun _=>jp):=fun _ _ h=>nomatch h
theorem aR(hm:P.follows .mixedOrders=kw)(d:cB P ty)(n:Nat){k:List KI}{s:AS}{C:Prop}{b:Nat}{st:Stop}(h:b7 ty ⟨fun _=>jp,0,lc⟩ n nt k s True=io (C,b,st))(hC:C)(hg:gm P b Q st):GO P nt k Q s:=
  (Uc hm d Ux n nt k s True C b st h).2 hC hg
end
mutual
def PV.low(n:Nat):PV->Bool
 | .iv _=>kw
 | .agg cs=>bq n cs
 | .bQ cs=>bq n cs
 | .ptr i _=>Zk i n
 | .dH i _ _ _=>Zk i n
 | .fA _ i=>Zk i n
 | .sl i _ _ _=>Zk i n
 | .mp i=>Zk i n
 | .dt _ first caps=>match bq n first with
  |true=>bq n caps
  |false=>lc
 | .kb _=>kw
 | .any=>kw
def bq(n:Nat):List PV->Bool
 | []=>kw
 |p::r=>match PV.low n p with
  |true=>bq n r
  |false=>lc
end
theorem iA{n:Nat}: ∀{l:List PV},bq n l=kw-> ∀(j:Nat) (p:PV),l[j]? =io p->p.low n=kw
 | [],_,j,p,h=>by simp at h
 |c::l,hb,j,p,h=>by
  simp only[bq]at hb;split at hb
  .rename_i b;cases j with
   |zero=>simp at h;subst h;exact b
   |succ j=>exact iA hb j p (by simpa using h)
  .cases hb
def AO.low(n:Nat):AO->Prop
 | .cells cs _=>bq n cs=kw
 | .row _ es=> ∀(k:Nat) (e:List PV),es[k]? =io e->bq n e=kw
 | .bT _ _=>True
 | .gK=>True
 | .map ..=>True
 | .cD ..=>True
 | .eO _ _=>True
section
variable {M:Mem} {N:Nm} {U:Nat->Prop} {n:Nat}
theorem VR.down{p:PV}{x:Value}(h:VR M N U p x):p.low n=kw->VR M N (· <n) p x:=by
 induction h with
 |iv x y h=>exact fun _=> .iv x y h
 |agg cs ys hl hr ih=>exact fun hb=> .agg _ _ hl fun j p d=>ih j p d (iA hb j p d)
 |bQ cs ys hl hr ih=>exact fun hb=> .bQ _ _ hl fun j p d=>ih j p d (iA hb j p d)
 |ptr i off h=>exact fun hb=> .ptr i off (YY hb)
 |dH i sz k off h=>exact fun hb=> .dH i sz k off (YY hb)
 |fA z i h=>exact fun hb=> .fA z i (YY hb)
 |sl i off len sz cap h u hl hc he=>exact fun hb=> .sl i off len sz cap (YY hb) u hl hc he
 |pV i sz h=>exact fun hb=> .pV i sz (YY hb)
 |sle i sz cap h hc he=>exact fun hb=> .sle i sz cap (YY hb) hc he
 |mp i h=>exact fun hb=> .mp i (YY hb)
 |dt fn first caps f' c' h1 h2 hr1 hr2 ih1 ih2=>
  intro hb;simp only[PV.low]at hb;split at hb
  .rename_i u;exact .dt _ _ _ _ _ h1 h2 (fun j p d=>ih1 j p d (iA u j p d)) (fun j p d=>ih2 j p d (iA hb j p d))
  .cases hb
 |kb b=>exact fun _=> .kb b
 |any x=>exact fun _=> .any x
theorem OR.down{w:World}{i:Nat}{o:AO}(h:OR M N U w i o)(hb:o.low n):OR M N (· <n) w i o:=by
 cases o with
 |cells cs T0=>obtain⟨c,T,b,d,u,x,y⟩:=h;exact⟨c,T,b,d,u,fun j p B=>(x j p B).down (iA hb j p B),y⟩
 |row sz es=>
  rcases h with h|⟨F,c,T,b,d,u,x,y⟩
  .exact .inl h
  exact .inr ⟨F,c,T,b,d,u,x,fun k e j p A D=>(y k e j p A D).down (iA (hb k e A) j p D)⟩
 |bT l T=>exact h
 |gK=>exact h
 |map kc ev z zv dv m=>exact h
 |cD kc ev m l cu=>exact h
 |eO s p=>exact h
end
def Rq(n:Nat)(f:AF):AF->Prop
 | []=>True
 |(d,p)::r=>f.get d=p∧p.low n=kw∧Rq n f r
def GF(n:Nat)(h:AH):AH->Prop
 | []=>True
 |(_,jp)::r=>GF n h r
 |(i,io o)::r=>h.get i=io o∧i<n∧o.low n∧GF n h r
structure Xi (s t:AS):Prop where
 nx:t.nx<=s.nx
 f:Rq t.nx s.f t.f
 h:GF t.nx s.h t.h
theorem uT{n:Nat}{h:AH}: ∀{g:AH},GF n h g-> ∀i o,g.get i=io o->h.get i=io o∧i<n∧o.low n
 | [],_,i,o,hi=>by simp[AH.get]at hi
 |(k,jp)::r,hw,i,o,hi=>by
  rw[AH.aw]at hi;split at hi
  .cases hi
  .exact uT (g:=r) hw i o hi
 |(k,io p)::r,hw,i,o,hi=>by
  obtain⟨b,d,j,u⟩:=hw;rw[AH.aw]at hi;split at hi
  .rename_i e;subst e;simp only[Y2]at hi;subst hi;exact⟨b,d,j⟩
  .exact uT u i o hi
theorem Xi.ext{s t:AS}(hw:Xi s t){M u:Mem}{N x:Nm}{n:Nat}{h:AH}{w y:World}(b:Ext M N (· <n) h w u x (· <s.nx) s.h y)(hn:n<=t.nx):Ext M N (· <n) h w u x (· <t.nx) t.h y:=
 ⟨b.os,b.tape,b.output,b.size,b.iT,b.r6,b.kh,b.nm,fun _ d=>aa1 d hn,fun i o d j=>b.jr i o (uT hw.h i o d).1 j⟩
theorem dG{p:Nat->Prop}(h: ∃n,p n): ∃n,p n∧ ∀m,p m->n<=m:=by
 obtain⟨n,u⟩:=h
 induction n using Nat.strongRecOn with
 |_ n ih=>
  by_cases j: ∃m,m<n∧p m
  .obtain⟨m,b,d⟩:=j;exact ih m b d
  .exact⟨n,u,fun m d=>aa2 fun b=>j ⟨m,b,d⟩⟩
section
variable {P:Program} {nt:Nat} {Q:AQ} {k:List KI} {s:AS}
end
section
variable {P:Program}
def Pure(P:Program)(k:FuncId)(args:List PV)(r:PV):Prop:=Fn P k args [] fun q h n=>q=r∧h=[]∧n=0
end
mutual
theorem PV.jW(σ:Nat->Nat): ∀p:PV,p.low 0=kw->p.db σ=p
 | .iv _,_=>rfl
 | .agg cs,h=>by simp only[PV.db];rw[iY σ cs (by simpa[PV.low]using h)]
 | .bQ cs,h=>by simp only[PV.db];rw[iY σ cs (by simpa[PV.low]using h)]
 | .ptr i o,h=>by simp[PV.low,Zk]at h
 | .dH i _ _ o,h=>by simp[PV.low,Zk]at h
 | .fA _ i,h=>by simp[PV.low,Zk]at h
 | .sl i _ _ _,h=>by simp[PV.low,Zk]at h
 | .mp i,h=>by simp[PV.low,Zk]at h
 | .dt fn a b,h=>by
  simp only[PV.low]at h;simp only[PV.db];split at h
  .rename_i d;rw[iY σ a d,iY σ b h]
  .cases h
 | .kb _,_=>rfl
 | .any,_=>rfl
theorem iY(σ:Nat->Nat): ∀l:List PV,bq 0 l=kw->dL σ l=l
 | [],_=>rfl
 |p::r,h=>by
  simp only[bq]at h;split at h
  .rename_i b;simp only[dL];rw[PV.jW σ p b,iY σ r h]
  .cases h
end
section
variable {P:Program} {nt:Nat} {Q:AQ} {k:List KI} {s:AS}
theorem bj{all rest:List Oper}{o:Oper}{c:Call}{g:FuncId}{args:List PV}{r:PV}{s':AS}(hc:Pure P g args r)(ho:o.op= .call c)(hg:o.guard=jp)(ha:bY s.f c=io (g,args))(b:bq 0 args=kw)
  (hr:r.low 0=kw) (hp:putDst nt o r s=io s') (h:GO P nt (.ops all rest::k) Q s'):GO P nt (.ops all (o::rest)::k) Q s:=by
 refine dJ (R:=fun t=>t=s') hg ?_ (fun t d=>by subst d;exact h);refine nD ho ha hc (L:=[]) (by simp) (by simp) Z (iY _ _ b).symm ?_;rintro q j u ⟨rfl,rfl,rfl⟩;exact⟨s',by rw[PV.jW _ _ hr];exact hp,rfl⟩
end
def gi(o q:AO):Prop:=(q.real=kw->o.real=kw)∧ ∀(M:Mem) (N:Nm) (U:Nat->Prop) (w:World) (i:Nat),OR M N U w i o->OR M N U w i q
theorem aL.of_eq{p q:PV}(h:p=q):aL p q:=h▸ .refl p
theorem aL.trans{p q r:PV}(a:aL p q)(b:aL q r):aL p r:=fun M N U x h=>b M N U x (a M N U x h)
theorem aL.any(p:PV):aL p .any:=fun _ _ _ _ _=> .any _
theorem oL.refl(p:IV):oL p p:=fun _ _ h=>h
theorem oL.of_eq{p q:IV}(h:p=q):oL p q:=h▸ .refl p
theorem gi.refl(o:AO):gi o o:=⟨id,fun _ _ _ _ _ h=>h⟩
theorem gi.of_eq{o q:AO}(h:o=q):gi o q:=h▸ .refl o
theorem gi.trans{o q r:AO}(a:gi o q)(b:gi q r):gi o r:=⟨fun h=>a.1 (b.1 h),fun M N U w i h=>b.2 M N U w i (a.2 M N U w i h)⟩
theorem aL.iv{p q:IV}(h:oL p q):aL (.iv p) (.iv q):=fun M N U x b=>by
 cases b with
 |iv _ _ hi=>exact .iv _ _ (h M x hi)
theorem oL.nil(sz:Nat)(el:Nat->List IV):oL (.v (.slice jp 0 0)) (.dh sz 0 el):=fun M x h=>by
 cases h;exact .ki _ _ _ _
theorem aL.nil(sz:Nat)(el:Nat->List IV):aL (.iv (.v (.slice jp 0 0))) (.iv (.dh sz 0 el)):= .iv (.nil sz el)
theorem aL.kb(b:Bool):aL (.kb b) (.iv (.v (.bool b))):=fun M N U x h=>by
 cases h;exact .iv _ _ (.v _)
theorem oL.dh{sz n y:Nat}{el d:Nat->List IV}(hn:n=y)(h: ∀k,k<n->el k=d k):oL (.dh sz n el) (.dh sz y d):=by
 subst hn;intro M x B;cases B with
 |ki=>exact .ki _ _ _ _
 |dh _ _ _ b off cap hn hc hl hm hr=>
  exact .dh _ _ _ _ _ _ hn hc (fun k u=>by rw[<-h k u];exact hl k u) hm (fun k j p u A=>hr k j p u (by rw[h k u];exact A))
theorem aL.dh{sz n d:Nat}{el b:Nat->List IV}(hn:n=d)(h: ∀k,k<n->el k=b k):aL (.iv (.dh sz n el)) (.iv (.dh sz d b)):= .iv (.dh hn h)
def lf:List PV->List PV->Prop
 | [],[]=>True
 |p::r,q::s=>aL p q∧lf r s
 |_,_=>False
theorem lf.length: ∀{a b:List PV},lf a b->a.length=b.length
 | [],[],_=>rfl
 |_::_,_::_,h=>congrArg (· +1) (lf.length h.2)
 | [],_::_,h=>h.elim
 |_::_,[],h=>h.elim
theorem lf.get: ∀{a b:List PV},lf a b-> ∀(j:Nat) (q:PV),b[j]? =io q-> ∃p,a[j]? =io p∧aL p q
 | [],[],_,j,q,h=>by simp at h
 |p::r,q0::s,hh,j,q,h=>by
  cases j with
  |zero=>simp at h;subst h;exact⟨p,rfl,hh.1⟩
  |succ j=>simpa using lf.get hh.2 j q (by simpa using h)
 | [],_::_,hh,_,_,_=>hh.elim
 |_::_,[],hh,_,_,_=>hh.elim
theorem aL.agg{a b:List PV}(h:lf a b):aL (.agg a) (.agg b):=fun M N U x u=>by
 cases u with
 |agg _ ys hl hr=>exact .agg _ _ (h.length▸hl) fun j q d=>let ⟨p,hp,hle⟩:=h.get j q d;hle M N U _ (hr j p hp)
theorem aL.bQ{a b:List PV}(h:lf a b):aL (.bQ a) (.bQ b):=fun M N U x u=>by
 cases u with
 |bQ _ ys hl hr=>exact .bQ _ _ (h.length▸hl) fun j q d=>let ⟨p,hp,hle⟩:=h.get j q d;hle M N U _ (hr j p hp)
theorem gi.cells{a b:List PV}{T0:Option TypeId}(h:lf a b):gi (.cells a T0) (.cells b T0):=⟨fun h=>h,fun M N U w i ⟨c,T,h1,h2,h3,h4,h5⟩=>
 ⟨c,T,h1,h2,h.length▸h3,fun j q d=>let ⟨p,hp,hle⟩:=h.get j q d;hle M N U _ (h4 j p hp),h5⟩⟩
theorem gi.Rs(a:List PV)(T0:Option TypeId):gi (.cells a T0) (.cells a):=⟨fun h=>h,fun M N U w i ⟨c,T,h1,h2,h3,h4,_⟩=>⟨c,T,h1,h2,h3,h4,.none _⟩⟩
theorem Fn.le{P:Program}{k:FuncId}{aa args:List PV}{os:List AO}{R:PV->AH->Nat->Prop}(h:Fn P k args os R)(b:lf aa args):Fn P k aa os R:=
 ⟨h.1,fun M N w A x u y=>h.2 M N w A x (by rw[<-b.length];exact u) fun j q d=>let ⟨p,hp,hpq⟩:=b.get j q d;hpq M N _ _ (y j p hp)⟩
theorem Pure.le{P:Program}{k:FuncId}{aa args:List PV}{r:PV}(h:Pure P k args r)(b:lf aa args):Pure P k aa r:=Fn.le h b
theorem Fn.mono{P:Program}{k:FuncId}{args:List PV}{os:List AO}{R b:PV->AH->Nat->Prop}(h:Fn P k args os R)(hR: ∀r h n,R r h n->b r h n):Fn P k args os b:=
 ⟨h.1,fun M N w y j d u=>(h.2 M N w y j d u).mono fun _ _ ⟨x,M',N',r,h',n',e,hh,rest⟩=>⟨x,M',N',r,h',n',e,hR _ _ _ hh,rest⟩⟩
def sg(n0:Nat)(L:List Nat)(i:Nat):Nat:=bif Zk i n0 then i else L.getD (i-n0) 0
theorem gz{n0:Nat}{L:List Nat}{i:Nat}(h:i<n0):sg n0 L i=i:=by
 have:Zk i n0=kw:=ZI h;simp[sg,this]
def GD(n:Nat)(σ:Nat->Nat)(f:AF):AF->Prop
 | []=>True
 |(d,p)::r=>aL (f.get d) (p.db σ)∧p.low n=kw∧GD n σ f r
def n6(n:Nat)(σ:Nat->Nat)(h:AH):AH->Prop
 | []=>True
 |(_,jp)::r=>n6 n σ h r
 |(i,io o)::r=>(∃b,h.get (σ i)=io b∧gi b (o.db σ))∧i<n∧o.low n∧n6 n σ h r
def en(σ:Nat->Nat):AH->List Nat
 | []=> []
 |(_,jp)::r=>en σ r
 |(i,io _)::r=>σ i::en σ r
structure Wk (n0:Nat) (L:List Nat) (s t:AS):Prop where
 nx:t.nx=n0+L.length
 ns:n0<=s.nx
 lt: ∀j∈L,j<s.nx
 f:GD t.nx (sg n0 L) s.f t.f
 h:n6 t.nx (sg n0 L) s.h t.h
 inj:(en (sg n0 L) t.h).Nodup
theorem GC{n:Nat}{σ:Nat->Nat}{f:AF}: ∀{g:AF},GD n σ f g-> ∀d,g.get d= .any∨(aL (f.get d) ((g.get d).db σ)∧(g.get d).low n=kw)
 | [],_,_=> .inl Z
 |(k,p)::r,h,d=>by
  obtain⟨b,j,u⟩:=h;rw[AF.aw];by_cases hd:d=k
  .subst hd;rw[am Z];exact .inr ⟨b,j⟩
  .rw[be hd];exact GC u d
theorem kG{n:Nat}{σ:Nat->Nat}{h:AH}: ∀{g:AH},n6 n σ h g-> ∀i o,g.get i=io o->(∃b,h.get (σ i)=io b∧gi b (o.db σ))∧i<n∧o.low n
 | [],_,i,o,hi=>by simp[AH.get]at hi
 |(k,jp)::r,hw,i,o,hi=>by
  rw[AH.aw]at hi;split at hi
  .cases hi
  .exact kG (g:=r) hw i o hi
 |(k,io p)::r,hw,i,o,hi=>by
  obtain⟨d,j,u,x⟩:=hw;rw[AH.aw]at hi;split at hi
  .rename_i e;subst e;simp only[Y2]at hi;subst hi;exact⟨d,j,u⟩
  .exact kG x i o hi
theorem lL{σ:Nat->Nat}: ∀{g:AH} {i:Nat} {o:AO},g.get i=io o->σ i∈en σ g
 | [],i,o,h=>by simp[AH.get]at h
 |(k,jp)::r,i,o,h=>by
  rw[AH.aw]at h;split at h
  .cases h
  .exact lL (g:=r) h
 |(k,io p)::r,i,o,h=>by
  rw[AH.aw]at h;split at h
  .rename_i e;subst e;simp[en]
  .exact Zg _ (lL h)
theorem oT{σ:Nat->Nat}: ∀{g:AH},(en σ g).Nodup-> ∀i j o p,g.get i=io o->g.get j=io p->σ i=σ j->i=j
 | [],_,i,j,o,p,h,_,_=>by simp[AH.get]at h
 |(k,jp)::r,hn,i,j,o,p,hi,hj,he=>by
  rw[AH.aw]at hi hj;split at hi
  .cases hi
  .split at hj
   .cases hj
   .exact oT (g:=r) hn i j o p hi hj he
 |(k,io q)::r,hn,i,j,o,p,hi,hj,he=>by
  rw[AH.aw]at hi hj;simp only[en,aam]at hn;split at hi
  .rename_i d;split at hj
   .rename_i b;rw[d,b]
   .subst d;exact absurd (he▸lL hj) hn.1
  .split at hj
   .rename_i b;subst b;exact absurd (he▸lL hi) hn.1
   .exact oT hn.2 i j o p hi hj he
section
variable {n0:Nat} {L:List Nat} {s t:AS} {M:Mem} {N:Nm} {w:World}
theorem gi.real{o q:AO}(h:gi o q)(b:q.real=kw):o.real=kw:=h.1 b
theorem Wk.fits(hw:Wk n0 L s t){nt:Nat}{a:Act}(hf:Fits M N s nt a w):Fits M (N.comp (sg n0 L)) t nt a w:=by
 refine⟨⟨hf.1.fi,fun i o b=>(kG hw.h i o b).2.1,fun i o b B=>?_,fun i o b=>?_,fun i j o p b F I J G=>?_⟩,fun d=>?_,hf.2.2⟩
 .obtain⟨⟨D,u,x⟩,A,y⟩:=kG hw.h i o b;exact hf.1.fh _ D u (x.real ((AO.cV _ o).trans B))
 .obtain⟨⟨D,u,x⟩,A,y⟩:=kG hw.h i o b;exact(OR.xp (x.2 M N _ w _ (hf.1.obj _ _ u))).down y
 .obtain⟨⟨D,u,x⟩,_⟩:=kG hw.h i o b;obtain⟨⟨S,A,y⟩,_⟩:=kG hw.h j p F;have:=hf.1.inj _ _ _ _ u A (x.real ((AO.cV _ o).trans I)) (y.real ((AO.cV _ p).trans J)) G;exact oT hw.inj i j o p b F this
 .rcases GC hw.f d with h|⟨u,x⟩
  .rw[h];exact .any _
  .exact((u M N _ _ (hf.2.1 d)).xp Z).down x
theorem Wk.ext(hw:Wk n0 L s t){u:Mem}{x:Nm}{h0:AH}{y:World}(b:Ext u x (· <n0) h0 y M N (· <s.nx) s.h w):Ext u x (· <n0) h0 y M (N.comp (sg n0 L)) (· <t.nx) t.h w:=by
 refine⟨b.os,b.tape,b.output,b.size,b.iT,b.r6,b.kh,⟨fun i d=>?_,fun i d=>?_⟩,fun i d=>by have:=hw.nx;omega,fun i o d j=>?_⟩
 .simp only[Nm.comp,gz d];exact b.nm.aK i d
 .simp only[Nm.comp,gz d];exact b.nm.ext i d
 .obtain⟨⟨D,A,B⟩,_⟩:=kG hw.h i o d;exact b.jr _ D A (B.real ((AO.cV _ o).trans j))
end
theorem tj{P:Program}{nt:Nat}{Q:AQ}{k:List KI}{s:AS}{c:Code}{R d:AS->Prop}(h: ∀t,R t->d t)(hg:GO P nt (.code c:: .lp R::k) Q s):GO P nt (.code c:: .lp d::k) Q s:=by
 intro M N a w y;refine AW.then hg y fun e B D u x s' A b j=>⟨u,x,s',A,b,?_⟩
 cases e with
 |normal=>exact h _ j
 |_=>exact j
section
variable {P:Program} {nt:Nat} {Q:AQ} {k:List KI} {s:AS}
theorem oA{body:Code}{σ:Type}(I:σ->AS)(μ:σ->Nat)(i0:σ)(F:List Nat)(h0:Wk s.nx F s (I i0))
  (b: ∀i,GO P nt (.code body:: .lp (fun t=> ∃j L,μ j<μ i∧Wk s.nx L t (I j))::k) Q (I i)):GO P nt (.code (.loop body)::k) Q s:=by
 intro S N0 a0 w0 B
 let J:Act->World->Nat->Prop:=fun a w n=> ∃i M N,μ i=n∧Ext S N0 (· <s.nx) s.h w0 M N (· <(I i).nx) (I i).h w∧Fits M N (I i) nt a w
 have A:J a0 w0 (μ i0):=⟨i0,S,N0.comp (sg s.nx F),rfl,h0.ext (.refl _ _ _ _ _),h0.fits B⟩
 refine wp_loop (fun a w=> ∃n,J a w n) (fun a w=>by classical exact if h: ∃n,J a w n then abw (dG h) else 0) ⟨_,A⟩ fun a w b0=>?_;obtain⟨⟨i,M,N,hi,hx,hf⟩,c0⟩:=aa0 (dG b0);refine AW.then (b i) hf fun e y D G Y s' u d hr=>?_
 cases e with
 |normal=>
  obtain⟨j,L,hj,hw⟩:=hr;have x:J y D (μ j):=⟨j,G,Y.comp (sg s.nx L),rfl,hw.ext (hx.trans u),hw.fits d⟩
  refine⟨⟨_,x⟩,?_⟩;simp only[dif_pos b0,dif_pos (⟨_,x⟩: ∃n,J y D n)];rw[<-hi];exact acb ((aa0 (dG (⟨_,x⟩: ∃n,J y D n))).2 _ x) hj
 |_=>exact⟨G,Y,s',hx.trans u,d,hr⟩
end
section
variable {P:Program} {nt:Nat} {Q:AQ} {k:List KI} {s:AS}
theorem az{body:Code}(i0 n:Nat)(d:i0<=n)(I:Nat->AS)(J:Nat->Prop)(j:List Nat)(y:J i0)(h0:Wk s.nx j s (I i0))
  (b: ∀i,i<=n->J i->GO P nt (.code body:: .lp (fun t=>i<n∧J (i+1)∧ ∃L,Wk s.nx L t (I (i+1)))::k) Q (I i)):GO P nt (.code (.loop body)::k) Q s:=by
 refine oA (σ:={i:Nat//i<=n∧J i}) (fun i=>I i.1) (fun i=>n-i.1) ⟨i0,d,y⟩ j h0 fun i=>?_;obtain⟨i,u,x⟩:=i;have:=b i u x;refine tj ?_ this
 rintro t ⟨h3,h4,L,h5⟩;exact⟨⟨i+1,h3,h4⟩,L,by show n-(i+1)<n-i;omega,h5⟩
end
theorem fU{P:Program}{nt:Nat}{Q:AQ}{k:List KI}{s:AS}{c:Code}(t sz:Nat)(A:s.f.get t= .iv (.v (.slice jp 0 0)))(h:GO P nt (.code c::k) Q (xm s t sz)):GO P nt (.code c::k) Q s:=by
 intro M N a w b;obtain⟨S,Y,sn⟩:=s;obtain⟨F,G⟩:=b.1.ND sz;have d:Fits M N (xm ⟨S,Y,sn⟩ t sz) nt a w:=by
  refine⟨G,fun k=>?_,b.2.2⟩;simp only[xm];rw[AF.aw];split
  .rename_i u;subst u;have:=b.2.1 k;simp only at A this;rw[A]at this;generalize a.tmps.getD k undef=v at this;cases this with
   |iv _ _ h=>cases h with
    |v=>exact .pV _ _ (aar _)
  .exact(b.2.1 k).mono (.refl _) (.refl _ _) (fun i I=>aaE I)
 exact AW.then h d fun e a2 w2 B D J y j x=>⟨B,D,J,F.trans y,j,x⟩
mutual
def PV.fi(i sz:Nat)(el:Nat->List IV):PV->PV
 | .iv x=> .iv x
 | .agg cs=> .agg (uA i sz el cs)
 | .bQ cs=> .bQ (uA i sz el cs)
 | .sl j off len sz'=>bif Zt j i then .iv (.dh sz len (fun k=>el (off+k))) else .sl j off len sz'
 | .ptr j o=> .ptr j o
 | .dH j a b c=> .dH j a b c
 | .fA z j=> .fA z j
 | .mp j=> .mp j
 | .dt fn a b=> .dt fn a b
 | .kb b=> .kb b
 | .any=> .any
def uA(i sz:Nat)(el:Nat->List IV):List PV->List PV
 | []=> []
 |p::r=>PV.fi i sz el p::uA i sz el r
end
theorem fY(i sz:Nat)(el:Nat->List IV): ∀l:List PV,uA i sz el l=l.map (PV.fi i sz el)
 | []=>rfl
 |p::r=>by simp[uA,fY i sz el r]
mutual
def PV.dc(i sz n:Nat):PV->Prop
 | .agg cs=>iU i sz n cs
 | .bQ cs=>iU i sz n cs
 | .sl j off len sz'=>if j=i then sz'=sz∧off+len<=n else True
 |_=>True
def iU(i sz n:Nat):List PV->Prop
 | []=>True
 |p::r=>PV.dc i sz n p∧iU i sz n r
end
theorem ij{i sz n:Nat}: ∀{l:List PV},iU i sz n l-> ∀(j:Nat) (p:PV),l[j]? =io p->p.dc i sz n
 | [],_,j,p,h=>by simp at h
 |c::l,hh,j,p,h=>by
  cases j with
  |zero=>simp at h;subst h;exact hh.1
  |succ j=>exact ij hh.2 j p (by simpa using h)
theorem xb{M:Mem}{N:Nm}{n:Nat}{h:AH}{w:World}(hr:Rel M N (· <n) h w){i sz:Nat}{es:List (List PV)}(hi:h.get i=io (.row sz es)){el:Nat->List IV}
  (i0: ∀k e,es[k]? =io e->e=(el k).map .iv): ∃A,Ext M N (· <n) h w A N (· <n) ((i,jp)::h) w∧Rel A N (· <n) ((i,jp)::h) w∧
   ∀p x,VR M N (· <n) p x->p.dc i sz es.length->VR A N (· <n) (p.fi i sz el) x:=by
 have key: ∀A:Mem,M.le A->(∀a0 len b0 b,a0+len<=es.length->0<len->len<=b0->b0<=maxLen->b=N.aK i->IR A (.dh sz len (fun k=>el (a0+k))) (.slice (io ⟨b,a0*sz,jp⟩) len b0))->
   ∀p x,VR M N (· <n) p x->p.dc i sz es.length->VR A N (· <n) (p.fi i sz el) x:=by
  intro A hM hs p x hx
  induction hx with
  |iv x y h=>exact fun _=> .iv _ _ (h.mono hM)
  |agg cs ys hl hr ih=>
   intro D;refine .agg _ _ (by simpa[fY]using hl) fun j q hq=>?_;rw[fY,Y9,Zb]at hq;obtain⟨q0,I,rfl⟩:=hq
   exact ih j q0 I (ij (by simpa[PV.dc]using D) j q0 I)
  |bQ cs ys hl hr ih=>
   intro D;refine .bQ _ _ (by simpa[fY]using hl) fun j q hq=>?_;rw[fY,Y9,Zb]at hq;obtain⟨q0,I,rfl⟩:=hq
   exact ih j q0 I (ij (by simpa[PV.dc]using D) j q0 I)
  |ptr i a0 h=>exact fun _=> .ptr _ _ h
  |dH i sz k a0 h=>exact fun _=> .dH _ _ _ _ h
  |fA z i h=>exact fun _=> .fA _ _ h
  |sl j a0 len sz' b0 h h0 hl hc Y=>
   intro D;simp only[PV.dc]at D;simp only[PV.fi];by_cases u:j=i
   .subst u;rw[am Z]at D;obtain⟨rfl,D⟩:=D;have:Zt j j=kw:=by simp
    rw[this,cond_true];exact .iv _ _ (hs a0 len b0 _ D h0 hl hc Z)
   .have:Zt j i=lc:=aaK.2 (fun e=>u (Zl e));rw[this,cond_false];exact .sl _ _ _ _ _ h h0 hl hc Y
  |pV j sz' h=>
   intro D;simp only[PV.fi];cases hb:Zt j i with
   |true=>exact .iv _ _ (.ki _ _ _ _)
   |false=>exact .pV _ _ h
  |sle j sz' b0 h hc Y=>
   intro D;simp only[PV.fi];cases hb:Zt j i with
   |true=>exact .iv _ _ (.ki _ _ _ _)
   |false=>exact .sle _ _ _ h hc Y
  |mp i h=>exact fun _=> .mp _ h
  |dt fn first caps f' c' F S hr1 hr2 ih1 ih2=>exact fun _=> .dt _ _ _ _ _ F S (fun j p u=>(hr1 j p u).mono hM (.refl _ _) (fun _ h=>h)) (fun j p u=>(hr2 j p u).mono hM (.refl _ _) (fun _ h=>h))
  |kb b=>exact fun _=> .kb _
  |any x=>exact fun _=> .any _
 rcases hr.obj i _ hi with h0|⟨h0,c,T,F,S,h3,h4,h5⟩
 .subst h0;exact⟨M,(Ext.refl _ _ _ _ _).del i,hr.del i,key M (.refl _) fun a0 len b0 b F S=>by simp at F;omega⟩
 .have d0:es≠ []∨es=[]:=by cases es<;>simp
  rcases d0 with d0|rfl;rotate_left
  .exact⟨M,(Ext.refl _ _ _ _ _).del i,hr.del i,key M (.refl _) fun a0 len b0 b F S=>by simp at F;omega⟩
  have J:(AO.row sz es).real=kw:=by cases es with
   |nil=>exact absurd Z d0
   |cons=>rfl
  have f0:=hr.fh i _ hi J
  let A:Mem:=M.set (N.aK i) (.cells c) f0
  have hM:M.le A:=fun b d hb=>by
   simp only[A,Mem.set];by_cases B:b=N.aK i
   .rw[B,f0]at hb;cases hb
   .rw[be B];exact hb
  have hnew: ∀b d,M b=jp->A b=io d->b=N.aK i:=fun b d F S=>by
   simp only[A,Mem.set]at S;by_cases B:b=N.aK i
   .exact B
   .rw[be B,F]at S;cases S
  refine⟨A,?_,?_,key A hM fun a0 len b0 b hb h6 h7 h8 j0=>?_⟩
  .exact⟨rfl,rfl,rfl,Y7 _,fun _ _ _=>rfl,hM,fun b d F S=> .inr ⟨i,_,hi,J,(hnew b d F S).symm⟩,.refl _ _,fun _ h=>h,fun j o u J=> .inr ⟨j,o,(bF j o u).2,J,rfl⟩⟩
  .refine⟨fun b d hb=>?_,fun j o u=>hr.used j o (bF j o u).2,fun j o u c0=>?_,fun j o u=>?_,fun j k o p u hk=>hr.inj j k o p (bF j o u).2 (bF k p hk).2⟩
   .simp only[A,Mem.set]at hb;by_cases B:b=N.aK i
    .rw[am B]at hb;cases hb;exact⟨T,(0,0),by rw[B,F]⟩
    .rw[be B]at hb;exact hr.fi b d hb
   .obtain⟨g1,g2⟩:=bF j o u;simp only[A,Mem.set];rw[be fun e=>g1 (hr.inj j i o _ g2 hi c0 J e)];exact hr.fh j o g2 c0
   .obtain⟨g1,g2⟩:=bF j o u;exact(hr.obj j o g2).mono hM (.refl _ _) (fun _ h=>h) (hr.used j o g2) Z
  .subst j0;have G: ∀o,A.cell (N.aK i) o=c[o]? :=fun o=>by simp[Mem.cell,A,Mem.set]
   have k0: ∀k j,k<len->j<sz->a0*sz+k*sz+j<c.size:=by
    intro k j hk u;have:(a0+k+1)*sz<=es.length*sz:=Zy _ (by omega);rw[aaf,aaf]at this;omega
   have g0: ∀k,k<len-> ∃e,es[a0+k]? =io e:=fun k hk=>⟨_,Y3 (by omega)⟩
   refine .dh _ _ _ _ _ _ h7 h8 (fun k hk=>?_) (fun k j hk u=>?_) (fun k j p hk D=>?_)
   .obtain⟨e,Y⟩:=g0 k hk;have:=h4 _ e Y;rw[i0 _ e Y]at this;simpa using this
   .rw[G];simp[k0 k j hk u]
   .obtain⟨e,Y⟩:=g0 k hk;have h9:=h4 _ e Y;have e0:=i0 _ e Y;have u:j<sz:=by rw[<-h9,e0,Zx];exact(Y4.1 D).1
    have:=h5 _ e j (.iv p) Y (by rw[e0,Y9,D];rfl);rw[G];have e2:a0*sz+k*sz+j=(a0+k)*sz+j:=by rw[aaf]
    rw[e2];rw[Y0]at this;cases this with
    |iv _ _ h=>exact h.mono hM
def lB(h:AH)(n:Nat)(r:PV)(K:AH->PV->Prop):Prop:= ∀M N w,Rel M N (· <n) h w-> ∃b d j,Ext M N (· <n) h w b N (· <n) d w∧Rel b N (· <n) d w∧(∀x,VR M N (· <n) r x->VR b N (· <n) j x)∧K d j
theorem lB.done{h:AH}{n:Nat}{r:PV}{K:AH->PV->Prop}(b:K h r):lB h n r K:=fun M N w d=>⟨M,h,r,.refl _ _ _ _ _,d,fun _ h=>h,b⟩
theorem lB.row{h:AH}{n:Nat}{r:PV}{K:AH->PV->Prop}(i:Nat){sz:Nat}{es:List (List PV)}(el:Nat->List IV)(hi:h.get i=io (.row sz es))(b: ∀k e,es[k]? =io e->e=(el k).map .iv)
  (hin:r.dc i sz es.length) (D:lB ((i,jp)::h) n (r.fi i sz el) K):lB h n r K:=by
 intro M N w F;obtain⟨d,y,A,B⟩:=xb F hi b;obtain⟨j,u,I,g1,g2,g3,g4⟩:=D d N w A;exact⟨j,u,I,y.trans g1,g2,fun x G=>g3 x (B _ _ G hin),g4⟩
def Rn(ty:Ty)(l:List ResultVar)(m:Nat)(R:PV->AH->Nat->Prop):AQ:=fun e s=>
 (e= .normal∨e= .ret)∧ ∃j,lv ty s l=io j∧lB s.h s.nx j fun u x=> ∃r b d L,R r b d∧Wk m L ⟨[(0,x)],u,s.nx⟩ ⟨[(0,r)],b,d⟩
section
variable {P:Program}
theorem yy {ty:Ty} (S:cB P ty) {k:FuncId} {fn:Func} {c:Code} (hf:P.funcs[k]? =io fn) (hb:fn.body=io c) (hn:(fn.name== "runtime.NumGoroutine")=lc) {nt:Nat} (J:fn.ntmps=nt)
  {l:List ResultVar} (hl:fn.results.toList=l) {args:List PV} (I:args.length<=nt) {os:List AO} {R:PV->AH->Nat->Prop}
  (h:GO P nt [.code c] (Rn ty l os.length R) ⟨qX 0 args,fv 0 os,os.length⟩):Fn P k args os R:=by
 have key:Fn P k args os (fun r0 h0 n0=>lB h0 n0 r0 fun b Y=> ∃r B D L,R r B D∧Wk os.length L ⟨[(0,Y)],b,n0⟩ ⟨[(0,r)],B,D⟩):=by
  refine Gi S hf hb hn J hl I ?_;intro M N a w u;refine wp_mono (h M N a w u) fun e a' w' hp=>?_;obtain⟨F,A,s',h1,b,h3⟩:=hp;refine⟨F,A,s',h1,b,?_⟩;simp only[kp]at h3 ⊢;obtain⟨he,r,g1,g2⟩:=h3;exact⟨he,r,g1,g2⟩
 refine⟨key.1,fun M N w vs hr y hv=>(key.2 M N w vs hr y hv).mono ?_⟩;rintro e w' ⟨x,F,A,r0,h0,n0,rfl,hF,hx,hr',hvr⟩;obtain⟨M2,b,Y,g1,g2,g3,r,B,D,L,hR,hw⟩:=hF F A w' hr'
 have G:Fits M2 A ⟨[(0,Y)],b,n0⟩ 1 ⟨#[x],[]⟩ w':=⟨g2,fun d=>by
  rw[AF.aw];by_cases hd:d=0
  .subst hd;rw[am Z];exact g3 x hvr
  .rw[be hd];exact .any _,rfl,rfl⟩
 have j:=hw.fits G;refine⟨x,M2,_,r,B,D,rfl,hR,hw.ext (hx.trans g1),j.1,?_⟩;have:=j.2.1 0;exact this
def Fl(ty:Ty)(l:List ResultVar)(r:PV):AQ:=fun e s=>
 (e= .normal∨e= .ret)∧ ∃b,lv ty s l=io b∧lB s.h s.nx b fun _ d=>aL d r
theorem ae {ty:Ty} (x:cB P ty) {k:FuncId} {fn:Func} {c:Code} (hf:P.funcs[k]? =io fn) (hb:fn.body=io c) (hn:(fn.name== "runtime.NumGoroutine")=lc) {nt:Nat} (u:fn.ntmps=nt)
  {l:List ResultVar} (I:fn.results.toList=l) {args:List PV} (j:args.length<=nt) {r:PV} (hlow:r.low 0=kw)
  (h:GO P nt [.code c] (Fl ty l r) ⟨qX 0 args,[],0⟩):Pure P k args r:=by
 refine yy x hf hb hn u I j ?_;intro M N a w b;refine wp_mono (h M N a w b) fun e a' w' J=>?_;obtain⟨A,D,s',F,d,y⟩:=J;refine⟨A,D,s',F,d,?_⟩;simp only[kp]at y ⊢;obtain⟨G,r0,g1,g2⟩:=y;refine⟨G,r0,g1,fun M N w S=>?_⟩;obtain⟨B,d,r2,Y,q2,q3,q4⟩:=g2 M N w S;refine⟨B,d,r2,Y,q2,q3,r,[],0,[],⟨rfl,rfl,rfl⟩,rfl,Y8 _,by simp,⟨?_,hlow,ac⟩,ac,Z3⟩;rw[PV.jW _ _ hlow];exact q4
theorem jx{ty:Ty}{l:List ResultVar}{r d:PV}{e:Exit}{s:AS}(he:e= .normal∨e= .ret)(h:lv ty s l=io d)(b:aL d r):Fl ty l r e s:=⟨he,d,h,.done b⟩
end
section
variable {P:Program}
theorem Mp{k:FuncId}{args:List PV}{os:List AO}{R:PV->AH->Nat->Prop}(hc:oN P k){n:Nat}(hn: ∃sz el,PV.iv (.dh sz n el)∈args)(h:n<=maxLen->Fn P k args os R):Fn P k args os R:=by
 refine⟨hc,fun M N w u A y d=>?_⟩;obtain⟨sz,el,hn⟩:=hn;obtain⟨j,x⟩:=ZY hn;have:=d j _ x;have b:n<=maxLen:=by
  generalize u.getD j undef=v at this;cases this with
  |iv _ _ hi=>cases hi with
   |ki=>exact Y8 _
   |dh=>omega
 exact(h b).2 M N w u A y d
theorem my{k:FuncId}{args:List PV}{r:PV}(hc:oN P k){n:Nat}(hn: ∃sz el,PV.iv (.dh sz n el)∈args)(h:n<=maxLen->Pure P k args r):Pure P k args r:=Mp hc hn h
end
abbrev iI(n:Int):IV:= .v (.int .i64 n)
abbrev iS(s:ByteArray):IV:= .v (.string s)
abbrev pI(n:Int):PV:= .iv (iI n)
abbrev pS(s:ByteArray):PV:= .iv (iS s)
abbrev pB(b:Bool):PV:= .iv (.v (.bool b))
abbrev ag(l:List IV):PV:= .agg (l.map .iv)
abbrev cZ{α:Type}[Inhabited α](sz:Nat)(l:List α)(f:α->List IV):IV:= .dh sz l.length (fun k=>f (l.getD k em))
def aG{α:Type}(sz:Nat)(l:List α)(f:α->List IV):AO:= .row sz (l.map fun x=>(f x).map .iv)
theorem rq(σ:Nat->Nat): ∀l:List IV,dL σ (l.map .iv)=l.map .iv
 | []=>rfl
 |x::r=>by simp only[Zm,dL,PV.db,rq σ r]
theorem l9(n:Nat): ∀l:List IV,bq n (l.map .iv)=kw
 | []=>rfl
 |x::r=>by simp only[Zm,bq,PV.low,l9 n r]
section
variable {α:Type} {sz:Nat} {l:List α} {f:α->List IV}
theorem bA(σ:Nat->Nat):(aG sz l f).db σ=aG sz l f:=by
 simp only[aG,AO.db,aaQ];congr 1;exact aao fun x _=>rq σ _
theorem cK(n:Nat):(aG sz l f).low n:=by
 intro k e b;rw[Y9,Zb]at b;obtain⟨x,_,rfl⟩:=b;exact l9 n _
theorem Pw{es:List (List PV)}(σ:Nat->Nat)(h:es=l.map fun x=>(f x).map .iv):gi (.row sz es) ((aG sz l f).db σ):=by
 rw[bA];exact .of_eq (by rw[h];rfl)
theorem fN[Inhabited α]{es:List (List PV)}(h:es=l.map fun x=>(f x).map .iv): ∀k e,es[k]? =io e->e=(f (l.getD k em)).map .iv:=by
 subst h;intro k e b;rw[Y9,Zb]at b;obtain⟨x,d,rfl⟩:=b;rw[YZ,d];rfl
theorem oP[Inhabited α](l:List α)(f:α->List IV):(Zp l.length).map (fun k=>(f (l.getD k em)).map PV.iv)=l.map fun x=>(f x).map .iv:=by
 apply aaM;intro k;rw[Y9,Y9];rcases aab k l.length with h|h
 .rw[aaZ h,Y3 h];simp[YZ,h]
 .simp[h]
theorem wx(h: ∀x,jy ((f x).map .iv)=kw)(l:List α):allOnes (l.map fun x=>(f x).map .iv)=kw:=by
 induction l with
 |nil=>rfl
 |cons x r ih=>simp only[Zm,allOnes,h x,ih]
theorem fL[Inhabited α](h: ∀x,jy ((f x).map .iv)=kw)(l:List α):allOnes ((Zp l.length).map (fun k=>(f (l.getD k em)).map PV.iv))=kw:=by
 rw[oP];exact wx h l
end
def an(l:List IV):AO:= .cells (l.map .iv)
theorem tA(σ:Nat->Nat)(l:List IV):(an l).db σ=an l:=by
 simp only[an,AO.db,rq]
theorem JB{cs:List PV}{T0:Option TypeId}{l:List IV}(σ:Nat->Nat)(h:cs=l.map .iv):gi (.cells cs T0) ((an l).db σ):=by
 rw[tA];exact .trans (.Rs cs T0) (.of_eq (by rw[h];rfl))
def b4:List Nat->Bool
 | []=>kw
 |x::r=>!r.elem x&&b4 r
theorem dA: ∀{l:List Nat},b4 l=kw->l.Nodup
 | [],_=>Z3
 |x::r,h=>by
  simp only[b4,Zo,Z7,List.elem_eq_mem,decide_eq_false_iff_not]at h;exact aam.2 ⟨h.1,dA h.2⟩
theorem wk{n0:Nat}{L:List Nat}{s t:AS}(h1:Zt t.nx (n0+L.length)=kw)(h2:aaV n0 s.nx=kw)(h3:L.all (fun j=>Zk j s.nx)=kw)(hf:GD t.nx (sg n0 L) s.f t.f)(hh:n6 t.nx (sg n0 L) s.h t.h)
  (b:b4 (en (sg n0 L) t.h)=kw):Wk n0 L s t:=
 ⟨Zl h1,YY h2,fun j d=>YY (Zr.1 h3 j d),hf,hh,dA b⟩
theorem mZ{n0:Nat}{s t:AS}(h1:t.nx=n0)(h2:aaV n0 s.nx=kw)(hf:GD t.nx (sg n0 []) s.f t.f)(hh:t.h=[]):Wk n0 [] s t:=
 ⟨by simpa using h1,YY h2,by simp,hf,by rw[hh];trivial,by rw[hh];exact Z3⟩
section
variable {n i:Nat} {σ:Nat->Nat} {h r:AH}
theorem hC{cs:List PV}{T0:Option TypeId}{c:List IV}(ho:h.get (σ i)=io (.cells cs T0))(he:cs=c.map .iv)(hi:Zk i n=kw)(hr:n6 n σ h r):n6 n σ h ((i,io (an c))::r):=
 ⟨⟨_,ho,JB σ he⟩,YY hi,l9 n c,hr⟩
theorem hR{α:Type}{sz:Nat}{es:List (List PV)}{l:List α}{f:α->List IV}(ho:h.get (σ i)=io (.row sz es))(he:es=l.map fun x=>(f x).map .iv)(hi:Zk i n=kw)(hr:n6 n σ h r):n6 n σ h ((i,io (aG sz l f))::r):=
 ⟨⟨_,ho,Pw σ he⟩,YY hi,cK n,hr⟩
theorem hM{V:Type}{kc:KC}{ev:V->IV}{z:V}{j:Value}{b:PV->V}{m d:List (kc.K×V)}(ho:h.get (σ i)=io (.map kc ev z j b m))(he:m=d)(hi:Zk i n=kw)(hr:n6 n σ h r):n6 n σ h ((i,io (.map kc ev z j b d))::r):=
 ⟨⟨_,ho,.of_eq (by rw[he];rfl)⟩,YY hi,ac,hr⟩
theorem Ji{V:Type}{kc:KC}{ev:V->IV}{z:V}{b:Value}{d:PV->V}(ho:h.get (σ i)=io .gK)(x: ∀M,IR M (ev z) b)(hi:Zk i n=kw)(hr:n6 n σ h r):n6 n σ h ((i,io (.map kc ev z b d []))::r):=
 ⟨⟨_,ho,id,fun M N U w j u=>⟨#[],0,u,⟨rfl,by simp,by simp,by simp,by simp⟩,x M⟩⟩,YY hi,ac,hr⟩
theorem hI{V:Type}{kc:KC}{ev:V->IV}{m:List (kc.K×V)}{vs x:List Nat}{D d:Option (kc.K×V)}(ho:h.get (σ i)=io (.cD kc ev m vs D))(he:vs=x)(hc:d=D∨d=jp)(hi:Zk i n=kw)(hr:n6 n σ h r):n6 n σ h ((i,io (.cD kc ev m x d))::r):=by
 refine⟨⟨_,ho,id,fun M N U w j F=>?_⟩,YY hi,ac,hr⟩;subst he;rcases hc with rfl|rfl
 .exact F
 .rcases F with⟨y,A,_,B⟩|⟨b,ents,clock,u,y,A,G,B,I,J,S⟩
  .exact .inl ⟨y,A,rfl,B⟩
  .exact .inr ⟨b,ents,clock,u,y,A,G,B,I,J,by simp⟩
end
theorem cx{ty:Ty}{b:List ResultVar}{e:Exit}{s:AS}{α:Type}[Inhabited α]{i n sz:Nat}{es:List (List PV)}{L:List α}{f:α->List IV}(he:e= .normal∨e= .ret)(h:lv ty s b=io (.sl i 0 n sz))(hi:s.h.get i=io (.row sz es))
  (hes:es=L.map fun x=>(f x).map .iv) (hn:n=L.length):Fl ty b (.iv (cZ sz L f)) e s:=by
 refine⟨he,_,h,.row i (fun k=>f (L.getD k em)) hi (fN hes) ?_ (.done ?_)⟩
 .subst hes;subst hn;simp[PV.dc]
 .have:Zt i i=kw:=by simp
  simp only[PV.fi,this,cond_true,Zq];subst hn;exact .refl _
theorem aL.bk{b c:Bool}(h:b=c):aL (pB b) (.kb c):=fun _ _ _ _ d=>by
 subst h;cases d with
 |iv _ _ h=>cases h;exact .kb _
theorem aL.rA{b c:Bool}(h:b=c):aL (.kb b) (pB c):=h▸ .kb b
theorem aL.row{i n m sz:Nat}(h:n=m):aL (.sl i 0 n sz) (.sl i 0 m sz):= .of_eq (by rw[h])
section
variable {α:Type} [Inhabited α] {l:List α} {f:α->Bool} {i:Nat}
theorem aW(h:(l.take i).any f=lc)(hi:i<l.length):((l.take (i+1)).any f=lc↔f (l.getD i em)=lc):=by
 rw[abi hi,List.any_append,h,YZ,Y3 hi];simp
theorem iN(hi:i<l.length)(h:f (l.getD i em)=kw):l.any f=kw:=by
 rw[YZ,Y3 hi]at h;exact ZQ.2 ⟨_,ZJ hi,h⟩
omit [Inhabited α] in
theorem any_none(h:(l.take i).any f=lc)(hi:l.length<=i):l.any f=lc:=by
 rwa[Za hi]at h
theorem ld(h:(l.take i).all f=kw)(hi:i<l.length):((l.take (i+1)).all f=kw↔f (l.getD i em)=kw):=by
 rw[abi hi,List.all_append,h,YZ,Y3 hi];simp
theorem Fg(hi:i<l.length)(h:f (l.getD i em)=lc):l.all f=lc:=by
 rw[YZ,Y3 hi]at h;exact aaN.2 ⟨_,ZJ hi,by simpa using h⟩
omit [Inhabited α] in
theorem Fh(h:(l.take i).all f=kw)(hi:l.length<=i):l.all f=kw:=by
 rwa[Za hi]at h
theorem bz(hi:i<l.length):l.take (i+1)=l.take i++ [l.getD i em]:=by
 rw[abi hi,YZ,Y3 hi];rfl
theorem cI{β:Type}{g:β->α->β}{b:β}(hi:i<l.length):(l.take (i+1)).foldl g b=g ((l.take i).foldl g b) (l.getD i em):=by
 rw[bz hi,aax];rfl
omit [Inhabited α] in
theorem l0{β:Type}{g:β->α->β}{b:β}(hi:l.length<=i):(l.take i).foldl g b=l.foldl g b:=by rw[Za hi]
end
theorem jw{P:Program}{nt:Nat}{Q:AQ}{k:List KI}{s:AS}{body:Code}{K:Type}(m:List K)(I:List Nat->AS)(J:List Nat->Prop)(A:List Nat)(S:J [])(h0:Wk s.nx A s (I []))
  (d: ∀vs:List Nat,J vs->GO P nt (.code body:: .lp (fun t=> ∃j x,m[j]? =io x∧j∉vs∧J (j::vs)∧ ∃L,Wk s.nx L t (I (j::vs)))::k) Q (I vs)):GO P nt (.code (.loop body)::k) Q s:=by
 refine oA (σ:={vs:List Nat//vs.Nodup∧(∀j∈vs,j<m.length)∧J vs}) (fun v=>I v.1) (fun v=>m.length-v.1.length) ⟨[],Z3,by simp,S⟩ A h0 fun v=>?_;obtain⟨vs,B,D,F⟩:=v;refine tj ?_ (d vs F)
 rintro t ⟨j,x,g1,g2,g3,L,g4⟩;have G:j<m.length:=(Y4.1 g1).1;have b: ∀i∈j::vs,i<m.length:=by
  intro i hi;rcases Zj.1 hi with rfl|hi
  .exact G
  .exact D i hi
 have y:(j::vs).Nodup:=aam.2 ⟨g2,B⟩;have u:(j::vs).length<=m.length:=by
  have:=aaH y (l₂:=Zp m.length) (fun i hi=>Z8.2 (b i hi));simpa using this
 refine⟨⟨j::vs,y,b,g3⟩,L,?_,g4⟩;show m.length-(j::vs).length<m.length-vs.length;simp only[ZA]at u ⊢;omega
def bV(P:Program)(k:FuncId)(args:List PV)(os:List AO)(r:PV)(h:AH)(n:Nat):Prop:=Fn P k args os fun q b d=>q=r∧b=h∧d=n
def uO:List AO->List AO->Prop
 | [],[]=>True
 |p::r,q::s=>gi p q∧uO r s
 |_,_=>False
theorem uO.length: ∀{a b:List AO},uO a b->a.length=b.length
 | [],[],_=>rfl
 |_::_,_::_,h=>congrArg (· +1) (uO.length h.2)
 | [],_::_,h=>h.elim
 |_::_,[],h=>h.elim
theorem uO.get: ∀{a b:List AO},uO a b-> ∀(j:Nat) (q:AO),b[j]? =io q-> ∃p,a[j]? =io p∧gi p q
 | [],[],_,j,q,h=>by simp at h
 |p::r,q0::s,hh,j,q,h=>by
  cases j with
  |zero=>simp at h;subst h;exact⟨p,rfl,hh.1⟩
  |succ j=>simpa using uO.get hh.2 j q (by simpa using h)
 | [],_::_,hh,_,_,_=>hh.elim
 |_::_,[],hh,_,_,_=>hh.elim
theorem Fn.SR{P:Program}{k:FuncId}{args:List PV}{os ps:List AO}{R:PV->AH->Nat->Prop}(h:Fn P k args os R)(G:uO ps os):Fn P k args ps R:=by
 have I:=G.length;have d: ∀i o,(fv 0 os).get i=io o-> ∃p,(fv 0 ps).get i=io p∧gi p o:=by
  intro i o u;rw[vw,am (Y8 _)]at u ⊢;exact G.get _ _ u
 refine⟨h.1,fun M N w vs D hl hv=>?_⟩;rw[I]at D hv ⊢;have Y:Rel M N (· <os.length) (fv 0 os) w:=by
  refine⟨D.fi,fun i o u=>?_,fun i o u a0=>?_,fun i o u=>?_,fun i j o p u hj J hp he=>?_⟩
  .obtain⟨p,y,A⟩:=d i o u;exact D.used i p y
  .obtain⟨p,y,A⟩:=d i o u;exact D.fh i p y (A.1 a0)
  .obtain⟨p,y,A⟩:=d i o u;exact A.2 _ _ _ _ _ (D.obj i p y)
  .obtain⟨o',y,A⟩:=d i o u;obtain⟨p',B,F⟩:=d j p hj;exact D.inj i j o' p' y B (A.1 J) (F.1 hp) he
 refine(h.2 M N w vs Y hl hv).mono ?_;rintro e w' ⟨x,M',N',r,h',n',rfl,hR,hx,hrr,hvr⟩;refine⟨x,M',N',r,h',n',rfl,hR,⟨hx.os,hx.tape,hx.output,hx.size,fun b hb hn=>hx.iT b hb fun i o u J=>?_,hx.r6,fun b c y A=>?_,hx.nm,hx.ule,fun i o u J=>?_⟩,hrr,hvr⟩
 .obtain⟨p,y,A⟩:=d i o u;exact hn i p y (A.1 J)
 .rcases hx.kh b c y A with B|⟨i,o,B,F,S⟩
  .exact .inl B
  .obtain⟨p,g1,g2⟩:=d i o B;exact .inr ⟨i,p,g1,g2.1 F,S⟩
 .rcases hx.jr i o u J with B|⟨j,q,B,F,S⟩
  .exact .inl B
  .obtain⟨p,g1,g2⟩:=d j q B;exact .inr ⟨j,p,g1,g2.1 F,S⟩
theorem bV.SR{P:Program}{k:FuncId}{args:List PV}{os d:List AO}{r:PV}{h:AH}{n:Nat}(hc:bV P k args os r h n)(b:uO d os):bV P k args d r h n:=Fn.SR hc b
theorem bV.le{P:Program}{k:FuncId}{aa args:List PV}{os:List AO}{r:PV}{h:AH}{n:Nat}(hc:bV P k args os r h n)(b:lf aa args):bV P k aa os r h n:=Fn.le hc b
theorem Pure.det{P:Program}{k:FuncId}{args:List PV}{r:PV}(h:Pure P k args r):bV P k args [] r [] 0:=h
section
variable {P:Program} {ty:Ty} {nt:Nat} {Q:AQ} {k:List KI} {s:AS}
theorem Mx{o:Oper}{c:Call}{g:FuncId}{asv args:List PV}{os:List AO}{r:PV}{u:AH}{x:Nat}{s':AS}(L:List Nat)(hc:bV P g args os r u x)(ho:o.op= .call c)(ha:bY s.f c=io (g,asv))
  (hn:b4 L=kw) (A:L.all (fun j=>Zk j s.nx)=kw) (d:L.map s.h.get=os.map fun o=>io (o.db (sig L s.nx))) (b:asv=dL (sig L s.nx) args) (hp:putDst nt o (r.db (sig L s.nx)) (aO s L u x)=io s'):
  OT P nt o s (fun t=>t=s'):=
 nD ho ha hc (dA hn) (fun j y=>YY (Zr.1 A j y)) d b (by rintro q B n0 ⟨rfl,rfl,rfl⟩;exact⟨s',hp,rfl⟩)
theorem bI{all rest:List Oper}{o:Oper}{c:Call}{g:FuncId}{asv args:List PV}{os:List AO}{r:PV}{u:AH}{x:Nat}{s':AS}(L:List Nat)(hc:bV P g args os r u x)(ho:o.op= .call c)(hg:o.guard=jp)(ha:bY s.f c=io (g,asv))
  (hn:b4 L=kw) (y:L.all (fun j=>Zk j s.nx)=kw) (d:L.map s.h.get=os.map fun o=>io (o.db (sig L s.nx))) (b:asv=dL (sig L s.nx) args) (hp:putDst nt o (r.db (sig L s.nx)) (aO s L u x)=io s')
  (h:GO P nt (.ops all rest::k) Q s'):GO P nt (.ops all (o::rest)::k) Q s:=
 dJ hg (Mx L hc ho ha hn y d b hp) fun t A=>by subst A;exact h
theorem yt(u:cB P ty){all:List Oper}{todo pend:List (Nat×Oper)}{j:Nat}{o:Oper}{s':AS}{I G:Prop}(hrd:fp todo=[(j,o)])(hg:cH nt all s.f o=io kw)(hpb:jI all pend o=kw)(hE:ph todo [j]=kw)
  (hag:tE ty nt all s todo pend=io I) (hCA:I) (B:OT P nt o s (fun t=>t=s')) (hag2:eB ty nt all s' (bn pend o)=io G) (hC2:G)
  (h:GO P nt (.cW all (todo.filter fun x=>!Zt x.1 j) (bn pend o)::k) Q s'):GO P nt (.cW all todo pend::k) Q s:=by
 have d:(j,o)∈fp todo:=by rw[hrd];simp
 obtain⟨J,A⟩:=ZF.1 d;simp only[Z7,Zz,ZU]at A;have b: ∀y∈todo,aS y.2=kw-> ∀y∈pend,ji P nt all s y.2:=by
  intro y D F;unfold tE at hag;split at hag
  .exact fz u hag hCA
  .rename_i Y;have:=ZU.1 Y y D;rw[F]at this;exact absurd Z this
 refine Cu hE ⟨_,J,A.1⟩ b fun j' o' S _ hu=>?_;simp only[Zd]at S;subst S;have:=hu o J;subst this;exact⟨A.1,fun y D _=>by simpa using A.2 y D,hpb,hg,_,B,fun t ht=>by subst ht;exact⟨fz u hag2 hC2,h⟩⟩
theorem Cv(u:cB P ty){all:List Oper}{todo pend:List (Nat×Oper)}{j:Nat}{o:Oper}{c:Call}{g:FuncId}{asv args:List PV}{os:List AO}{r:PV}{B:AH}{D:Nat}{s':AS}{A y:Prop}(L:List Nat)(hc:bV P g args os r B D)
  (hrd:fp todo=[(j,o)]) (ho:o.op= .call c) (ha:bY s.f c=io (g,asv))
  (hn:b4 L=kw) (F:L.all (fun j=>Zk j s.nx)=kw) (d:L.map s.h.get=os.map fun o=>io (o.db (sig L s.nx))) (b:asv=dL (sig L s.nx) args) (hp:putDst nt o (r.db (sig L s.nx)) (aO s L B D)=io s')
  (hg:cH nt all s.f o=io kw) (hpb:jI all pend o=kw) (hE:ph todo [j]=kw)
  (hag:tE ty nt all s todo pend=io A) (hCA:A) (hag2:eB ty nt all s' (bn pend o)=io y) (hC2:y)
  (h:GO P nt (.cW all (todo.filter fun x=>!Zt x.1 j) (bn pend o)::k) Q s'):GO P nt (.cW all todo pend::k) Q s:=
 yt u hrd hg hpb hE hag hCA (Mx L hc ho ha hn F d b hp) hag2 hC2 h
def CT(ty:Ty)(l:List ResultVar)(m:Nat)(r:PV)(h:AH)(n:Nat):AQ:=Rn ty l m fun q b d=>q=r∧b=h∧d=n
theorem aB (u:cB P ty) {g:FuncId} {fn:Func} {c:Code} (hf:P.funcs[g]? =io fn) (hb:fn.body=io c) (hn:(fn.name== "runtime.NumGoroutine")=lc) (j:fn.ntmps=nt)
  {l:List ResultVar} (x:fn.results.toList=l) {args:List PV} (d:args.length<=nt) {os:List AO} {r:PV} {h:AH} {n:Nat}
  (b:GO P nt [.code c] (CT ty l os.length r h n) ⟨qX 0 args,fv 0 os,os.length⟩):bV P g args os r h n:=yy u hf hb hn j x d b
theorem eU{l:List ResultVar}{m:Nat}{r b:PV}{h:AH}{n:Nat}{e:Exit}(L:List Nat)(he:e= .normal∨e= .ret)(hr:lv ty s l=io b)(hw:Wk m L ⟨[(0,b)],s.h,s.nx⟩ ⟨[(0,r)],h,n⟩):CT ty l m r h n e s:=
 ⟨he,b,hr,.done ⟨r,h,n,L,⟨rfl,rfl,rfl⟩,hw⟩⟩
end
theorem lB.map{h:AH}{n:Nat}{r:PV}{K:AH->PV->Prop}(i:Nat){kc:KC}{V:Type}{e:V->IV}{z:V}{b:Value}{u:PV->V}{m:List (kc.K×V)}(hi:h.get i=io (.map kc e z b u m))
  (F:lB ((i,jp)::h.fX i (.eE kc e z b m)) n (r.fX i (.eE kc e z b m)) K):lB h n r K:=by
 intro M N w G;obtain⟨d,A,B,_,D⟩:=qA G hi;obtain⟨j,y,J,g1,g2,g3,g4⟩:=F d N w B;exact⟨j,y,J,A.trans g1,g2,fun x I=>g3 x (D _ _ I),g4⟩
mutual
def PV.Jn(i:Nat)(l:List IV):PV->PV
 | .iv x=> .iv x
 | .agg cs=> .agg (EG i l cs)
 | .bQ cs=> .bQ (EG i l cs)
 | .ptr j o=>bif Zt j i then .iv (.mI (l.drop o)) else .ptr j o
 | .sl j off len sz'=> .sl j off len sz'
 | .dH j a b c=> .dH j a b c
 | .fA z j=> .fA z j
 | .mp j=> .mp j
 | .dt fn a b=> .dt fn a b
 | .kb b=> .kb b
 | .any=> .any
def EG(i:Nat)(l:List IV):List PV->List PV
 | []=> []
 |p::r=>PV.Jn i l p::EG i l r
end
theorem qC(i:Nat)(x:List IV): ∀l:List PV,EG i x l=l.map (PV.Jn i x)
 | []=>rfl
 |p::r=>by simp[EG,qC i x r]
theorem A3{M:Mem}{N:Nm}{n:Nat}{h:AH}{w:World}(hr:Rel M N (· <n) h w){i:Nat}{l:List IV}{cs:List PV}{T0:Option TypeId}(hi:h.get i=io (.cells cs T0))(b0:cs=l.map .iv):
  ∃B,Ext M N (· <n) h w B N (· <n) ((i,jp)::h) w∧Rel B N (· <n) ((i,jp)::h) w∧ ∀p x,VR M N (· <n) p x->VR B N (· <n) (p.Jn i l) x:=by
 subst b0;have Y:=hr.fh i _ hi Z;obtain⟨c,T,J,G,h3,h4,h5⟩:=hr.obj i _ hi
 let B:Mem:=M.set (N.aK i) (.cells c) Y
 have hM:M.le B:=fun b d hb=>by
  simp only[B,Mem.set];by_cases u:b=N.aK i
  .rw[u,Y]at hb;cases hb
  .rw[be u];exact hb
 have hnew: ∀b d,M b=jp->B b=io d->b=N.aK i:=fun b d J G=>by
  simp only[B,Mem.set]at G;by_cases u:b=N.aK i
  .exact u
  .rw[be u,J]at G;cases G
 have D: ∀o,B.cell (N.aK i) o=c[o]? :=fun o=>by simp[Mem.cell,B,Mem.set]
 refine⟨B,?_,?_,fun p x hx=>?_⟩
 .exact⟨rfl,rfl,rfl,Y7 _,fun _ _ _=>rfl,hM,fun b d J G=> .inr ⟨i,_,hi,rfl,(hnew b d J G).symm⟩,.refl _ _,fun _ h=>h,fun j o A c0=> .inr ⟨j,o,(bF j o A).2,c0,rfl⟩⟩
 .refine⟨fun b d hb=>?_,fun j o A=>hr.used j o (bF j o A).2,fun j o A I=>?_,fun j o A=>?_,fun j k o p A hk=>hr.inj j k o p (bF j o A).2 (bF k p hk).2⟩
  .simp only[B,Mem.set]at hb;by_cases u:b=N.aK i
   .rw[am u]at hb;cases hb;exact⟨T,(0,0),by rw[u];exact J⟩
   .rw[be u]at hb;exact hr.fi b d hb
  .obtain⟨g1,g2⟩:=bF j o A;simp only[B,Mem.set];rw[be fun e=>g1 (hr.inj j i o _ g2 hi I Z e)];exact hr.fh j o g2 I
  .obtain⟨g1,g2⟩:=bF j o A;exact(hr.obj j o g2).mono hM (.refl _ _) (fun _ h=>h) (hr.used j o g2) Z
 .induction hx with
  |iv x y h=>exact .iv _ _ (h.mono hM)
  |agg cs ys hl _ ih=>
   refine .agg _ _ (by simpa[qC]using hl) fun j q F=>?_;rw[qC,Y9,Zb]at F;obtain⟨q0,S,rfl⟩:=F
   exact ih j q0 S
  |bQ cs ys hl _ ih=>
   refine .bQ _ _ (by simpa[qC]using hl) fun j q F=>?_;rw[qC,Y9,Zb]at F;obtain⟨q0,S,rfl⟩:=F
   exact ih j q0 S
  |ptr j off h=>
   simp only[PV.Jn];cases hb:Zt j i with
   |true=>
    have A:=Zl hb;subst A;have a0:l.length=c.size:=by simpa using h3
    refine .iv _ _ (.mI _ _ _ (fun k hk=>?_) fun k q F=>?_)
    .rw[List.length_drop]at hk;rw[D];simp[show off+k<c.size by omega]
    .rw[aai]at F;have d0:off+k<c.size:=by rw[<-a0];exact(Y4.1 F).1
     have:=h4 (off+k) (.iv q) (by rw[Y9,F];rfl);rw[D];rw[Y0]at this;cases this with
     |iv _ _ h=>exact h.mono hM
   |false=>exact .ptr _ _ h
  |dH i sz k off h=>exact .dH _ _ _ _ h
  |fA z i h=>exact .fA _ _ h
  |sl j off len sz' cap h h0 hl hc he=>exact .sl _ _ _ _ _ h h0 hl hc he
  |pV j sz' h=>exact .pV _ _ h
  |sle j sz' cap h hc he=>exact .sle _ _ _ h hc he
  |mp j h=>exact .mp _ h
  |dt fn first caps f' c' J G hr1 hr2 _ _=>exact .dt _ _ _ _ _ J G (fun j p A=>(hr1 j p A).mono hM (.refl _ _) (fun _ h=>h)) (fun j p A=>(hr2 j p A).mono hM (.refl _ _) (fun _ h=>h))
  |kb b=>exact .kb _
  |any x=>exact .any _
theorem lB.cells{h:AH}{n:Nat}{r:PV}{K:AH->PV->Prop}(i:Nat)(l:List IV){cs:List PV}{T0:Option TypeId}(hi:h.get i=io (.cells cs T0))(b:cs=l.map .iv)(D:lB ((i,jp)::h) n (r.Jn i l) K):lB h n r K:=by
 intro M N w F;obtain⟨d,y,A,B⟩:=A3 F hi b;obtain⟨j,u,I,g1,g2,g3,g4⟩:=D d N w A;exact⟨j,u,I,y.trans g1,g2,fun x G=>g3 x (B _ _ G),g4⟩
theorem rE{ty:Ty}{l:List ResultVar}{r b:PV}{e:Exit}{s:AS}(he:e= .normal∨e= .ret)(h:lv ty s l=io b)(d:lB s.h s.nx b fun _ j=>aL j r):Fl ty l r e s:=⟨he,b,h,d⟩
section
variable {P:Program} {ty:Ty} {nt:Nat} {Q:AQ} {k:List KI} {s:AS}
theorem HK{all rest:List Oper}{o:Oper}{c:Call}{g:FuncId}{asv args:List PV}{os:List AO}{R:PV->AH->Nat->Prop}(L:List Nat)(hc:Fn P g args os R)(ho:o.op= .call c)(hg:o.guard=jp)(ha:bY s.f c=io (g,asv))
  (hn:b4 L=kw) (A:L.all (fun j=>Zk j s.nx)=kw) (d:L.map s.h.get=os.map fun o=>io (o.db (sig L s.nx))) (b:asv=dL (sig L s.nx) args)
  (h: ∀r u x,R r u x-> ∃s',putDst nt o (r.db (sig L s.nx)) (aO s L u x)=io s'∧GO P nt (.ops all rest::k) Q s'):GO P nt (.ops all (o::rest)::k) Q s:=
 dJ (R:=fun t=>GO P nt (.ops all rest::k) Q t) hg (nD ho ha hc (dA hn) (fun j y=>YY (Zr.1 A j y)) d b h) fun t B=>B
theorem HR{R:PV->AH->Nat->Prop}{l:List ResultVar}{m:Nat}{r b:PV}{h:AH}{n:Nat}{e:Exit}(L:List Nat)(he:e= .normal∨e= .ret)(hr:lv ty s l=io b)(hR:R r h n)(hw:Wk m L ⟨[(0,b)],s.h,s.nx⟩ ⟨[(0,r)],h,n⟩):Rn ty l m R e s:=
 ⟨he,b,hr,.done ⟨r,h,n,L,hR,hw⟩⟩
end
theorem oy{P:Program}{nt:Nat}{Q:AQ}{k:List KI}{s:AS}{c:Code}(i j sz:Nat){cs:List PV}{T0:Option TypeId}(hi:s.h.get i=io (.cells cs T0))(hj:cs[j]? =io (.iv (.v (.slice jp 0 0))))
  (h:GO P nt (.code c::k) Q ⟨s.f,(i,io (.cells (cs.set j (.sl s.nx 0 0 sz)) T0))::(s.nx,io (.row sz []))::s.h,s.nx+1⟩):GO P nt (.code c::k) Q s:=by
 intro M N a w x;obtain⟨sf,S,u⟩:=s;obtain⟨h1,J⟩:=x.1.ND sz;have B:i≠u:=fun e=>by have:=x.1.used i _ hi;simp only at this;omega
 have b:AH.get ((u,io (AO.row sz []))::S) i=io (.cells cs T0):=by
  rw[AH.aw,be B];exact hi
 obtain⟨G,T,e1,e2,e3,I,e5⟩:=J.obj i _ b
 obtain⟨g1,g2⟩:=J.write (i:=i) (o0:= .cells cs T0) b Z w (.cells (cs.set j (.sl u 0 0 sz)) T0) Z Z Z Z (fun _ _=>rfl) ⟨G,T,e1,e2,by rw[aaG];exact e3,fun k p d=>by
  rw[ZM]at d;split at d
  .rename_i hk;subst hk;split at d
   .cases d;have:=I j _ hj;generalize G.getD j undef=v at this ⊢;cases this with
    |iv _ _ h=>cases h with
     |v=>exact .pV _ _ (aar _)
   .cases d
  .exact I k p d,e5⟩
 have y:Fits M N ⟨sf,(i,io (.cells (cs.set j (.sl u 0 0 sz)) T0))::(u,io (.row sz []))::S,u+1⟩ nt a w:=
  ⟨g2,fun k=>(x.2.1 k).mono (.refl _) (.refl _ _) (fun i hi=>aaE hi),x.2.2⟩
 exact AW.then h y fun e a2 w2 Y N2 s2 F A D=>⟨Y,N2,s2,(h1.trans g1).trans F,A,D⟩
theorem lB.KP{h:AH}{n:Nat}{r:PV}{K:AH->PV->Prop}{α:Type}[Inhabited α](i:Nat){sz:Nat}{es:List (List PV)}(L:List α)(f:α->List IV)(hi:h.get i=io (.row sz es))(hes:es=L.map fun x=>(f x).map .iv)
  (hin:r.dc i sz L.length) (b:lB ((i,jp)::h) n (r.fi i sz fun k=>f (L.getD k em)) K):lB h n r K:=
 .row i (fun k=>f (L.getD k em)) hi (fN hes) (by subst hes;simpa using hin) b
def AO.lQ(i sz:Nat)(el:Nat->List IV):AO->AO
 | .cells cs T=> .cells (uA i sz el cs) T
 |o=>o
def AO.xS(i sz n:Nat):AO->Prop
 | .cells cs _=>iU i sz n cs
 | .row _ es=> ∀(k:Nat) (e:List PV) (j:Nat) (p:PV),es[k]? =io e->e[j]? =io p-> ∃y,p= .iv y
 |_=>True
def AH.lQ(i sz:Nat)(el:Nat->List IV):AH->AH
 | []=> []
 |(k,jp)::r=>(k,jp)::AH.lQ i sz el r
 |(k,io o)::r=>(k,io (o.lQ i sz el))::AH.lQ i sz el r
def AH.xS(i sz n:Nat):AH->Prop
 | []=>True
 |(_,jp)::r=>AH.xS i sz n r
 |(_,io o)::r=>o.xS i sz n∧AH.xS i sz n r
def AF.lQ(i sz:Nat)(el:Nat->List IV):AF->AF
 | []=> []
 |(d,p)::r=>(d,p.fi i sz el)::AF.lQ i sz el r
def AF.xS(i sz n:Nat):AF->Prop
 | []=>True
 |(_,p)::r=>p.dc i sz n∧AF.xS i sz n r
theorem AH.mM(i sz:Nat)(el:Nat->List IV): ∀(h:AH) (j:Nat),(AH.lQ i sz el h).get j=(h.get j).map (AO.lQ i sz el)
 | [],_=>rfl
 |(k,jp)::r,j=>by
  simp only[AH.lQ,AH.aw,AH.mM i sz el r j];split<;>rfl
 |(k,io o)::r,j=>by
  simp only[AH.lQ,AH.aw,AH.mM i sz el r j];split<;>rfl
theorem AH.oV{i sz n:Nat}: ∀{h:AH} (_:h.xS i sz n) (j:Nat) (o:AO),h.get j=io o->o.xS i sz n
 | [],_,j,o,ho=>nomatch ho
 |(k,jp)::r,hh,j,o,ho=>by
  rw[AH.aw]at ho;split at ho
  .cases ho
  .exact AH.oV (h:=r) hh j o ho
 |(k,io q)::r,hh,j,o,ho=>by
  rw[AH.aw]at ho;split at ho
  .cases ho;exact hh.1
  .exact AH.oV (h:=r) hh.2 j o ho
theorem AF.mM(i sz:Nat)(el:Nat->List IV): ∀(f:AF) (d:Nat),(AF.lQ i sz el f).get d=(f.get d).fi i sz el
 | [],_=>rfl
 |(k,p)::r,d=>by
  simp only[AF.lQ,AF.aw,AF.mM i sz el r d];split<;>rfl
theorem AF.oV{i sz n:Nat}: ∀{f:AF} (_:f.xS i sz n) (d:Nat),(f.get d).dc i sz n
 | [],_,d=>trivial
 |(k,p)::r,h,d=>by
  rw[AF.aw];split
  .exact h.1
  .exact AF.oV (f:=r) h.2 d
theorem AO.vC(i sz:Nat)(el:Nat->List IV)(o:AO):(o.lQ i sz el).real=o.real:=by
 cases o<;>rfl
theorem Cs{P:Program}{nt:Nat}{Q:AQ}{k:List KI}{s:AS}{c:Code}(i:Nat){sz:Nat}{es:List (List PV)}(el:Nat->List IV)(hi:s.h.get i=io (.row sz es))(G: ∀k e,es[k]? =io e->e=(el k).map .iv)
  (hf:s.f.xS i sz es.length) (hh:s.h.xS i sz es.length) (h:GO P nt (.code c::k) Q ⟨s.f.lQ i sz el,(i,jp)::s.h.lQ i sz el,s.nx⟩):GO P nt (.code c::k) Q s:=by
 intro M N a w b;obtain⟨F,u,A,h4⟩:=xb b.1 hi G;have hM:M.le F:=u.r6;have B: ∀j o,AH.get ((i,jp)::s.h.lQ i sz el) j=io o-> ∃p,AH.get ((i,jp)::s.h) j=io p∧s.h.get j=io p∧o=p.lQ i sz el:=by
  intro j o x;obtain⟨g1,g2⟩:=bF j o x;rw[AH.mM,Zb]at g2;obtain⟨p,g3,g4⟩:=g2;exact⟨p,by rw[AH.aw,be g1];exact g3,g3,g4.symm⟩
 have hE:Ext M N (· <s.nx) s.h w F N (· <s.nx) ((i,jp)::s.h.lQ i sz el) w:=⟨u.os,u.tape,u.output,u.size,u.iT,u.r6,u.kh,u.nm,u.ule,fun j o x y=>by
  obtain⟨p,g1,_,rfl⟩:=B j o x;rw[AO.vC]at y
  exact u.jr j p g1 y⟩
 have hR:Rel F N (· <s.nx) ((i,jp)::s.h.lQ i sz el) w:=by
  refine⟨A.fi,fun j o x=>?_,fun j o x y=>?_,fun j o x=>?_,fun j k o p x hk ho hp=>?_⟩
  .obtain⟨p,g1,_,rfl⟩:=B j o x;exact A.used j p g1
  .obtain⟨p,g1,_,rfl⟩:=B j o x;rw[AO.vC]at y;exact A.fh j p g1 y
  .obtain⟨p,g1,g2,rfl⟩:=B j o x;cases p with
   |cells cs T0=>
    obtain⟨c,T,q1,q2,q3,q4,q5⟩:=b.1.obj j _ g2;have S:=AH.oV hh j _ g2;refine⟨c,T,q1,q2,by simpa[fY]using q3,fun k q hq=>?_,q5⟩;rw[fY,Y9,Zb]at hq;obtain⟨q0,D,rfl⟩:=hq;exact h4 _ _ (q4 k q0 D) (ij S k q0 D)
   |row=>exact A.obj j _ g1
   |bT=>exact A.obj j _ g1
   |gK=>exact A.obj j _ g1
   |map=>exact A.obj j _ g1
   |cD=>exact A.obj j _ g1
   |eO=>exact A.obj j _ g1
  .obtain⟨o',g1,_,rfl⟩:=B j o x;obtain⟨p',g2,_,rfl⟩:=B k p hk;rw[AO.vC]at ho hp;exact A.inj j k o' p' g1 g2 ho hp
 have I:Fits F N ⟨s.f.lQ i sz el,(i,jp)::s.h.lQ i sz el,s.nx⟩ nt a w:=⟨hR,fun d=>by
  rw[AF.mM];exact h4 _ _ (b.2.1 d) (AF.oV hf d),b.2.2⟩
 exact AW.then h I fun e a2 w2 M2 N2 s2 a0 J Y=>⟨M2,N2,s2,hE.trans a0,J,Y⟩
def AO.il(i sz:Nat)(el:Nat->List IV):AO->AO
 | .cells cs T=> .cells (uA i sz el cs) T
 | .row s es=> .row s (es.map (uA i sz el))
 |o=>o
def AO.vi(i sz n:Nat):AO->Prop
 | .cells cs _=>iU i sz n cs
 | .row _ es=> ∀e∈es,iU i sz n e
 |_=>True
def AH.il(i sz:Nat)(el:Nat->List IV):AH->AH
 | []=> []
 |(k,jp)::r=>(k,jp)::AH.il i sz el r
 |(k,io o)::r=>(k,io (o.il i sz el))::AH.il i sz el r
def AH.vi(i sz n:Nat):AH->Prop
 | []=>True
 |(_,jp)::r=>AH.vi i sz n r
 |(_,io o)::r=>o.vi i sz n∧AH.vi i sz n r
theorem AH.kF(i sz:Nat)(el:Nat->List IV): ∀(h:AH) (j:Nat),(AH.il i sz el h).get j=(h.get j).map (AO.il i sz el)
 | [],_=>rfl
 |(k,jp)::r,j=>by
  simp only[AH.il,AH.aw,AH.kF i sz el r j];split<;>rfl
 |(k,io o)::r,j=>by
  simp only[AH.il,AH.aw,AH.kF i sz el r j];split<;>rfl
theorem AH.oq{i sz n:Nat}: ∀{h:AH} (_:h.vi i sz n) (j:Nat) (o:AO),h.get j=io o->o.vi i sz n
 | [],_,j,o,ho=>nomatch ho
 |(k,jp)::r,hh,j,o,ho=>by
  rw[AH.aw]at ho;split at ho
  .cases ho
  .exact AH.oq (h:=r) hh j o ho
 |(k,io q)::r,hh,j,o,ho=>by
  rw[AH.aw]at ho;split at ho
  .cases ho;exact hh.1
  .exact AH.oq (h:=r) hh.2 j o ho
theorem AO.mN(i sz:Nat)(el:Nat->List IV)(o:AO):(o.il i sz el).real=o.real:=by
 cases o with
 |row s es=>cases es<;>rfl
 |_=>rfl
theorem vd{M:Mem}{N:Nm}{n:Nat}{h:AH}{w:World}(hr:Rel M N (· <n) h w)(i:Nat){sz:Nat}{es:List (List PV)}(el:Nat->List IV)(hi:h.get i=io (.row sz es))(a0: ∀k e,es[k]? =io e->e=(el k).map .iv)
  (hh:h.vi i sz es.length): ∃A,M.le A∧Rel A N (· <n) ((i,jp)::h.il i sz el) w∧ ∀p x,VR M N (· <n) p x->p.dc i sz es.length->VR A N (· <n) (p.fi i sz el) x:=by
 obtain⟨A,h1,b,h4⟩:=xb hr hi a0;refine⟨A,h1.r6,?_,h4⟩;have D: ∀j o,AH.get ((i,jp)::h.il i sz el) j=io o-> ∃p,AH.get ((i,jp)::h) j=io p∧h.get j=io p∧o=p.il i sz el:=by
  intro j o u;obtain⟨g1,g2⟩:=bF j o u;rw[AH.kF,Zb]at g2;obtain⟨p,g3,g4⟩:=g2;exact⟨p,by rw[AH.aw,be g1];exact g3,g3,g4.symm⟩
 refine⟨b.fi,fun j o u=>?_,fun j o u J=>?_,fun j o u=>?_,fun j k o p u hk ho F=>?_⟩
 .obtain⟨p,g1,_,rfl⟩:=D j o u;exact b.used j p g1
 .obtain⟨p,g1,_,rfl⟩:=D j o u;rw[AO.mN]at J;exact b.fh j p g1 J
 .obtain⟨p,g1,g2,rfl⟩:=D j o u;cases p with
  |cells cs T0=>
   obtain⟨c,T,q1,q2,q3,q4,q5⟩:=hr.obj j _ g2;have y:=AH.oq hh j _ g2;refine⟨c,T,q1,q2,by simpa[fY]using q3,fun k q hq=>?_,q5⟩;rw[fY,Y9,Zb]at hq;obtain⟨Y,I,rfl⟩:=hq;exact h4 _ _ (q4 k Y I) (ij y k Y I)
  |row s2 es2=>
   have y:=AH.oq hh j _ g2;rcases hr.obj j _ g2 with rfl|⟨Y,c,T,q1,q2,q3,q4,q5⟩
   .exact .inl Z
   .refine .inr ⟨Y,c,T,q1,q2,by simpa using q3,fun k e B=>?_,fun k e j2 p B F=>?_⟩
    .rw[Y9,Zb]at B;obtain⟨S,d,rfl⟩:=B;rw[fY,Zx];exact q4 k S d
    .rw[Y9,Zb]at B;obtain⟨S,d,rfl⟩:=B;rw[fY,Y9,Zb]at F;obtain⟨p0,G,rfl⟩:=F;exact h4 _ _ (q5 k S j2 p0 d G) (ij (y S (Zv d)) j2 p0 G)
  |bT=>exact b.obj j _ g1
  |gK=>exact b.obj j _ g1
  |map=>exact b.obj j _ g1
  |cD=>exact b.obj j _ g1
  |eO=>exact b.obj j _ g1
 .obtain⟨o',g1,_,rfl⟩:=D j o u;obtain⟨p',g2,_,rfl⟩:=D k p hk;rw[AO.mN]at ho F;exact b.inj j k o' p' g1 g2 ho F
def Kx:List Code->Code->Code
 | [],r=>r
 |c::l,r=> .seq c (Kx l r)
def tQ:Nat->Code->List Code
 |n+1,.seq a b=>a::tQ n b
 |_,_=> []
def pj:Nat->Code->Code
 |n+1,.seq _ b=>pj n b
 |_,c=>c
theorem Cc{P:Program}{nt:Nat}{R:AQ}: ∀{l:List Code} {e:Exit} {s:AS},e≠ .normal->kp P nt (l.map KI.code) R e s->R e s
 | [],_,_,_,h=>h
 |c::l,e,s,he,h=>by
  cases e with
  |normal=>exact absurd Z he
  |_=>exact Cc (l:=l) he h
mutual
def E9:PV->Bool
 | .iv (.v _)=>kw
 | .iv _=>lc
 | .agg cs=>wu cs
 | .bQ cs=>wu cs
 | .dt _ _ _=>lc
 |_=>kw
def wu:List PV->Bool
 | []=>kw
 |p::r=>E9 p&&wu r
end
theorem ma: ∀{l:List PV},wu l=kw-> ∀(j:Nat) (p:PV),l[j]? =io p->E9 p=kw
 | [],_,j,p,h=>by simp at h
 |c::l,hh,j,p,h=>by
  simp only[wu,Zo]at hh;cases j with
  |zero=>simp at h;subst h;exact hh.1
  |succ j=>exact ma hh.2 j p (by simpa using h)
theorem uK{M u:Mem}{N:Nm}{U:Nat->Prop}{p:PV}{x:Value}(h:VR M N U p x):E9 p=kw->VR u N U p x:=by
 induction h with
 |iv x y h=>
  intro hb;cases h with
  |v=>exact .iv _ _ (.v _)
  |_=>cases hb
 |agg cs ys hl hr ih=>exact fun hb=> .agg _ _ hl fun j p d=>ih j p d (ma hb j p d)
 |bQ cs ys hl hr ih=>exact fun hb=> .bQ _ _ hl fun j p d=>ih j p d (ma hb j p d)
 |ptr i off h=>exact fun _=> .ptr _ _ h
 |dH i sz k off h=>exact fun _=> .dH _ _ _ _ h
 |fA z i h=>exact fun _=> .fA _ _ h
 |sl i off len sz cap h h0 hl hc he=>exact fun _=> .sl _ _ _ _ _ h h0 hl hc he
 |pV i sz h=>exact fun _=> .pV _ _ h
 |sle i sz cap h hc he=>exact fun _=> .sle _ _ _ h hc he
 |mp i h=>exact fun _=> .mp _ h
 |dt=>intro hb;cases hb
 |kb b=>exact fun _=> .kb _
 |any=>exact fun _=> .any _
def MY:AO->Prop
 | .row _ es=> ∀e∈es,wu e=kw
 | .cells cs _=>wu cs=kw
 |_=>False
theorem MX{M D:Mem}{N:Nm}{U:Nat->Prop}{w:World}{i:Nat}{o:AO}(hb:MY o)(h:OR M N U w i o):OR D N U w i o:=by
 cases o with
 |row sz es=>
  rcases h with h|⟨F,c,T,d,u,x,y,A⟩
  .exact .inl h
  .exact .inr ⟨F,c,T,d,u,x,y,fun k e j p B b=>uK (A k e j p B b) (ma (hb e (Zv B)) j p b)⟩
 |cells cs T0=>
  obtain⟨c,T,d,u,x,y,A⟩:=h;exact⟨c,T,d,u,x,fun j p b=>uK (y j p b) (ma hb j p b),A⟩
 |_=>exact hb.elim
section
variable {P:Program} {nt:Nat} {Q:AQ} {k:List KI} {s:AS}
theorem MW{o:Oper}{c:Call}{g:FuncId}{asv args:List PV}(ho:o.op= .call c)(ha:bY s.f c=io (g,asv)){r:PV}{h':AH}{n':Nat}(hc:bV P g args [] r h' n')
  (i0:args.length=asv.length) (hlow:bq 0 args=kw)
  (f0: ∀M N w,Rel M N (· <s.nx) s.h w-> ∃M1:Mem,M.le M1∧Rel M1 N (· <s.nx) [] w∧ ∀(j:Nat) (p:PV) (x:Value),args[j]? =io p->(∀q,asv[j]? =io q->VR M N (· <s.nx) q x)->VR M1 N (· <s.nx) p x)
  (e0:E9 (r.db (sig [] s.nx))=kw) (d0: ∀j o,(sV (sig [] s.nx) h').get j=io o->MY o)
  {s':AS} (hp:putDst nt o (r.db (sig [] s.nx)) (aO s [] h' n')=io s'):OT P nt o s (fun t=>t=s'):=by
 intro M N a w y K Z hk;obtain⟨vs,a0,hl,hv⟩:=EO y ho ha hc.1;unfold Oper.wp;rw[a0];simp only[Oper.upon];obtain⟨M1,m0,j0,k0⟩:=f0 M N w y.1
 have S:=Fn.calls (s:=⟨s.f,[],s.nx⟩) (L:=[]) hc Z3 (by simp) rfl (M:=M1) (N:=N) (w:=w) j0 (vs:=vs) (by omega) (fun j p B=>by
  rw[PV.jW _ _ (iA hlow j p B)]
  exact k0 j p _ B fun q hq=>hv j q hq)
 refine S.mono ?_;rintro e w' ⟨x,M',N',r',h2,n2,rfl,⟨rfl,rfl,rfl⟩,hx,hr,hvr⟩;have D:N.agree N' (· <s.nx):=hx.nm;have G: ∀i,i<s.nx->i<s.nx+(n2-0):=fun i Y=>hx.ule i Y;have F: ∀b,b<w.heap.size->w'.heap[b]? =w.heap[b]? :=fun b hb=>hx.iT b hb fun i o Y=>(nomatch Y)
 have g0:(aO ⟨s.f,[],s.nx⟩ [] h2 n2).h=sV (sig [] s.nx) h2:=by simp[aO,ER]
 have A: ∀j o,(aO s [] h2 n2).h.get j=io o->(sV (sig [] s.nx) h2).get j=io o∨s.h.get j=io o:=by
  intro j o B;simp only[aO,ER,aaF]at B;rw[AH.get_append]at B;split at B
  .exact .inl B
  .exact .inr B
 rw[g0]at hr hx;have hnew: ∀j o,(sV (sig [] s.nx) h2).get j=io o->o.real=kw->w.heap.size<=N'.aK j:=by
  intro j o B u;rcases hx.jr j o B u with h|⟨i,p,Y,_⟩
  .exact h
  .exact nomatch Y
 have hR:Rel M N' (· <s.nx+(n2-0)) (aO s [] h2 n2).h w':=by
  refine⟨fun b d hb=>(y.1.fi b d hb).mono (F b (y.1.fi b d hb).lt),fun j o B=>?_,fun j o B u=>?_,fun j o B=>?_,fun i j o p Y B I J e=>?_⟩
  .rcases A j o B with h|h
   .exact hr.used j o h
   .exact G j (y.1.used j o h)
  .rcases A j o B with h|h
   .have:=hnew j o h u;cases hm:M (N'.aK j) with
    |none=>rfl
    |some d=>have:=(y.1.fi _ d hm).lt;omega
   .rw[D.aK j (y.1.used j o h)];exact y.1.fh j o h u
  .rcases A j o B with h|h
   .exact MX (d0 j o h) (hr.obj j o h)
   .cases u:o.real with
    |true=>exact(y.1.obj j o h).mono (.refl _) D G (y.1.used j o h) (F _ ((y.1.obj j o h).lt u))
    |false=>
     cases o with
     |row sz es=>cases es with
      |nil=>exact .inl rfl
      |cons=>cases u
     |bT l T=>cases l with
      |nil=>exact .inl rfl
      |cons=>cases u
     |_=>cases u
  .rcases A i o Y with h1|h1<;>rcases A j p B with h2'|h2'
   .exact hr.inj i j o p h1 h2' I J e
   .have:=hnew i o h1 I;rw[e,D.aK j (y.1.used j p h2')]at this;have:=(y.1.obj j p h2').lt J;omega
   .have:=hnew j p h2' J;rw[<-e,D.aK i (y.1.used i o h1)]at this;have:=(y.1.obj i o h1).lt I;omega
   .rw[D.aK i (y.1.used i o h1),D.aK j (y.1.used j p h2')]at e;exact y.1.inj i j o p h1 h2' I J e
 have hX:Ext M N (· <s.nx) s.h w M N' (· <s.nx+(n2-0)) (aO s [] h2 n2).h w':=
  ⟨hx.os,hx.tape,hx.output,hx.size,fun b hb _=>F b hb,.refl _,fun b d g1 g2=>absurd (g1.symm.trans g2) (by simp),D,G,fun j o B u=>by
   rcases A j o B with h|h
   .exact .inl (hnew j o h u)
   .exact .inr ⟨j,o,h,u,(D.aK j (y.1.used j o h)).symm⟩⟩
 have c0:Fits M N' (aO s [] h2 n2) nt a w':=⟨hR,y.2.1.ext hX,y.2.2⟩
 have b0:VR M N' (· <(aO s [] h2 n2).nx) (r'.db (sig [] s.nx)) x:=uK hvr e0;show K (a.put o.dst x) w';cases hd:o.dst with
 |none=>
  have:=fH hp hd;subst this;exact hk M N' _ _ w' hX c0 rfl
 |some d=>
  obtain⟨h1,rfl⟩:=fG hp hd;exact hk M N' {aO s [] h2 n2 with f:=(d,r'.db (sig [] s.nx))::(aO s [] h2 n2).f} _ w' hX (c0.put d _ x h1 b0) rfl
theorem Mh{all rest:List Oper}{o:Oper}{c:Call}{g:FuncId}{asv args:List PV}{r:PV}{u:AH}{D:Nat}{s':AS}(hc:bV P g args [] r u D)(ho:o.op= .call c)(hg:o.guard=jp)(ha:bY s.f c=io (g,asv))
  (b:args.length=asv.length) (hlow:bq 0 args=kw)
  (B: ∀M N w,Rel M N (· <s.nx) s.h w-> ∃d:Mem,M.le d∧Rel d N (· <s.nx) [] w∧ ∀(j:Nat) (p:PV) (x:Value),args[j]? =io p->(∀q,asv[j]? =io q->VR M N (· <s.nx) q x)->VR d N (· <s.nx) p x)
  (A:E9 (r.db (sig [] s.nx))=kw) (y: ∀j o,(sV (sig [] s.nx) u).get j=io o->MY o) (hp:putDst nt o (r.db (sig [] s.nx)) (aO s [] u D)=io s')
  (h:GO P nt (.ops all rest::k) Q s'):GO P nt (.ops all (o::rest)::k) Q s:=
 dJ hg (MW ho ha hc b hlow B A y hp) fun t F=>by subst F;exact h
end
section
variable {P:Program} {ty:Ty} {nt:Nat} {Q:AQ} {k:List KI} {s:AS}
theorem Dk(p0:cB P ty){o:Oper}{t:TypeId}{a x:Operand}(ho:o.op= .store t a x)(hd:o.dst=jp){e:cC}(he:ty t=io e)(o0:e.size=1){i sz q off:Nat}{es:List (List PV)}{row:List PV}{v:PV}
  (ha:ev s.f a= .dH i sz q off) (hi:s.h.get i=io (.row sz es)) (Y:es[q]? =io row) (b0:Zk off sz=kw) (hx:ev s.f x=v) (r0:v.cells=io [v]) (c0:v.one=kw):
  OT P nt o s (fun u=>u=⟨s.f,(i,io (.row sz (es.set q (row.set off v))))::s.h,s.nx⟩):=by
 have hp:putDst nt o .any ⟨s.f,(i,io (.row sz (es.set q (row.set off v))))::s.h,s.nx⟩=io ⟨s.f,(i,io (.row sz (es.set q (row.set off v))))::s.h,s.nx⟩:=by simp only[putDst,hd]
 refine OT.skip hp fun M N b w S=>?_;have hu:=aZ S.2.1 a;have hy:=aZ S.2.1 x;rw[ha]at hu;rw[hx]at hy;have e0:off<sz:=YY b0;generalize q0:b.eval a=u at hu;generalize s0:b.eval x=y at hy
 have key: ∃w',(Instr.storeAt t u y).run P w= .ok () w'∧Ext M N (· <s.nx) s.h w M N (· <s.nx) ((i,io (.row sz (es.set q (row.set off v))))::s.h) w'∧Fits M N ⟨s.f,(i,io (.row sz (es.set q (row.set off v))))::s.h,s.nx⟩ nt b w':=by
  cases hu with
  |dH _ _ _ _ hU=>
   obtain⟨hl,hv⟩:=qQ hy r0;obtain⟨B,d⟩: ∃B,y.cells= #[B]:=by
    have:y.cells.size=1:=by simpa using hl.symm
    exact Array.size_eq_one_iff.1 this
   rcases S.1.obj i _ hi with h0|⟨h0,c,T,g1,g2,g3,g4,g5⟩
   .rw[h0]at Y;cases Y
   have j0:q<es.length:=(Y4.1 Y).1;have m0:=g4 q row Y;have a0:(q+1)*sz<=es.length*sz:=Zy _ j0;have v0:q*sz+off+1<=c.size:=by rw[aaW]at a0;omega
   have G: ∀z∈y.cells.toList,z.oneCell'=kw:=by
    intro z hz;rw[d]at hz;simp only[Zd]at hz;have:=(hv 0 v Z).one c0;rw[d]at this;subst hz;exact this
   have D:=run_storeCells_at P (N.aK i) (q*sz+off) T y.cells.toList 0 c w g1 (by simp[d];omega) G;have hC:(c.toList.take (q*sz+off+0)++y.cells.toList++c.toList.drop (q*sz+off+0+y.cells.toList.length))=c.toList.set (q*sz+off) B:=by
    rw[List.set_eq_take_append_cons_drop,am (by simp;omega),d];simp
   rw[hC]at D;refine⟨w.setRow (N.aK i) (c.toList.set (q*sz+off) B).toArray,?_,?_⟩
   .have I:=bN (w:=w) (p0 t e he);have n0:y.cells.size=e.size:=by rw[d,o0];rfl
    simp only[Instr.storeAt,Instr.sureAddr,pure_bind,storeVar,Sem.run_bind,I,Result.andThen_ok,n0,ne_eq,not_true_eq_false,if_false,D]
   .have d0:=setRow_heap w (N.aK i) c (c.toList.set (q*sz+off) B).toArray T (0,0) g1;have i0: ∀b,b≠N.aK i->(w.setRow (N.aK i) (c.toList.set (q*sz+off) B).toArray).heap[b]? =w.heap[b]? :=by
     intro b hb;simp only[World.setRow,ZT];rw[be (fun e=>hb e.symm)]
    have k0:(AO.row sz es).real=kw:=by cases es with
     |nil=>cases Y
     |cons=>rfl
    have:=S.1.write hi k0 (w.setRow (N.aK i) (c.toList.set (q*sz+off) B).toArray) (.row sz (es.set q (row.set off v))) Z Z Z (by simp) i0
     (.inr ⟨h0,_,T,d0,by simp;exact g2,by simpa using g3,fun J e2 j=>?_,fun J e2 j2 p2 j A=>?_⟩)
    .exact⟨this.1,this.2,S.2.1,S.2.2⟩
    .rw[ZM]at j;split at j
     .cases j;rw[aaG];exact m0
     .exact g4 J e2 j
    .have f0: ∀m,(c.toList.set (q*sz+off) B).toArray.getD m undef=if q*sz+off=m then B else c.getD m undef:=by
      intro m;rw[Y0,Y0,aak,ZM];split
      .rename_i e;subst e;rw[am (by simp;omega)];rfl
      .simp
     rw[f0];rw[ZM]at j;split at j
     .rename_i F;subst F;cases j;rw[ZM]at A;split at A
      .rename_i hj;subst hj;rw[am (by omega)]at A;cases A;rw[am Z];have:=hv 0 v Z;rw[d]at this;exact this
      .rename_i hj;rw[be (by omega)];exact g5 _ row j2 p2 Y A
     .rename_i F;have t0:j2<sz:=by rw[<-g4 J e2 j];exact(Y4.1 A).1
      rw[be ?_]
      .exact g5 J e2 j2 p2 j A
      .intro e;rcases Nat.lt_trichotomy q J with g0|heq|hgt
       .have:(q+1)*sz<=J*sz:=Zy _ g0;rw[aaW]at this;omega
       .exact F heq
       .have:(J+1)*sz<=q*sz:=Zy _ hgt;rw[aaW]at this;omega
 obtain⟨w',h1,j,A⟩:=key;refine⟨w',M,N,?_,j,A⟩;simp only[execOp,ho];simp[q0,s0,h1]
theorem Ey(y:cB P ty){all rest:List Oper}{o:Oper}{t:TypeId}{a x:Operand}(ho:o.op= .store t a x)(hd:o.dst=jp)(hg:o.guard=jp){e:cC}(he:ty t=io e)(j:e.size=1){i sz q off:Nat}{es:List (List PV)}{row:List PV}{v:PV}
  (ha:ev s.f a= .dH i sz q off) (hi:s.h.get i=io (.row sz es)) (B:es[q]? =io row) (b:Zk off sz=kw) (D:ev s.f x=v) (A:v.cells=io [v]) (d:v.one=kw)
  {s':AS} (hs:(⟨s.f,(i,io (.row sz (es.set q (row.set off v))))::s.h,s.nx⟩:AS)=s') (h:GO P nt (.ops all rest::k) Q s'):GO P nt (.ops all (o::rest)::k) Q s:=
 dJ hg (Dk y ho hd he j ha hi B b D A d) fun u hu=>by subst hu;subst hs;exact h
end
end
end Go.Al
namespace Go.Al
open Go.ChangeShapes Go.WideShapes Go.RowKit
section
def A4(W:World)(b:Nat):Option MB:=match W.heap[b]? with
 |some (.cells c _ _)=>io (.cells c)
 |some (.map es cl)=>io (.map es cl)
 |_=>jp
def oK(W:World):Prop:= ∀b c,UE b=io c-> ∃T d,W.heap[b]? =io (.cells c T d)
def Mem.rr(W:World)(h:oK W):Mem:=⟨A4 W,fun b c hb=>by obtain⟨T,d,e⟩:=h b c hb;simp[A4,e]⟩
def Vo:Nm:=⟨fun _=>0,fun _=>0⟩
theorem PC(W:World)(h:oK W):Rel (Mem.rr W h) Vo (· <0) [] W:=by
 refine⟨fun b c hb=>?_,fun i o u=>by simp[AH.get]at u,fun i o u=>by simp[AH.get]at u,fun i o u=>by simp[AH.get]at u,fun i j o p u=>by simp[AH.get]at u⟩;have d:A4 W b=io c:=hb;unfold A4 at d;split at d
 .rename_i y T x e;obtain rfl:=Z0 d;exact⟨T,x,e⟩
 .rename_i es A e;obtain rfl:=Z0 d;exact e
 .cases d
theorem E1{W:World}{h:oK W}{b o:Nat}{v:Value}(hc:W.cell? ⟨b,o,jp⟩=io v):(Mem.rr W h).cell b o=io v:=by
 show(match A4 W b with|some (.cells c)=>c[o]? |_=>jp)=io v;unfold World.cell? at hc;unfold A4;split at hc
 .rename_i c T d e;simp only at e;rw[e];simpa using hc
 .cases hc
def CR(M:Mem)(l:List IV)(cs:List Value):Prop:=l.length=cs.length∧ ∀j p,l[j]? =io p->IR M p (cs.getD j undef)
theorem CR.nil(M:Mem):CR M [] []:=⟨rfl,fun j p h=>by simp at h⟩
theorem CR.one{M:Mem}{p:IV}{v:Value}(h:IR M p v):CR M [p] [v]:=⟨rfl,fun j q b=>by
 cases j with
 |zero=>simp at b;subst b;simpa using h
 |succ j=>simp at b⟩
theorem CR.append{M:Mem}{l u:List IV}{cs b:List Value}(h:CR M l cs)(k:CR M u b):CR M (l++u) (cs++b):=by
 refine⟨by simp[h.1,k.1],fun j p d=>?_⟩;rcases aab j l.length with hj|hj
 .rw[Zi hj]at d;have:=h.2 j p d;rw[YZ]at this ⊢;rwa[Zi (by rw[<-h.1];exact hj)]
 .rw[Zn hj]at d;have:=k.2 _ p d;rw[YZ]at this ⊢;rw[Zn (by rw[<-h.1];exact hj),<-h.1];exact this
theorem CR.iF{M:Mem}{l r:List IV}{cs:List Value}{o n o':Nat}(h:CR M l ((cs.drop o).take n))(e:o'=o+n)(k:CR M r (cs.drop o')):CR M (l++r) (cs.drop o):=by
 subst e;have:=h.append k;rwa[<-List.drop_drop,abe]at this
theorem CR.end_{M:Mem}{cs:List Value}{o:Nat}(h:cs.length=o):CR M [] (cs.drop o):=by
 rw[List.drop_eq_nil_of_le (by omega)];exact .nil M
theorem CR.agg{M:Mem}{N:Nm}{U:Nat->Prop}{l:List IV}{ys:Array Value}(h:CR M l ys.toList):VR M N U (ag l) (.agg ys):=by
 refine .agg _ _ (by simpa using h.1) fun j p b=>?_;rw[Y9,Zb]at b;obtain⟨q,d,rfl⟩:=b;have:=h.2 j q d;exact .iv _ _ (by simpa[Y0,YZ]using this)
theorem CR.le{M:Mem}{l d:List IV}{cs:List Value}(h:CR M l cs)(x:l.length=d.length)(b: ∀(j:Nat) (p q:IV),l[j]? =io p->d[j]? =io q->oL p q):CR M d cs:=by
 refine⟨x▸h.1,fun j q y=>?_⟩;have u:j<l.length:=by rw[x];exact(Y4.1 y).1
 exact b j _ q (Y3 u) y M _ (h.2 j _ (Y3 u))
theorem CR.zr{M:Mem}{p q:IV}{cs:List Value}(h:CR M [p] cs)(b:oL p q):CR M [q] cs:=
 h.le Z fun j x y d u=>by
  cases j with
  |zero=>simp at d u;subst d;subst u;exact b
  |succ j=>simp at d
section
variable {H:Type} {enc:TypeId×Value->H} {P:Program} {W:World} {hT:oK W} {sp:Nat->Bool} {held:Bool}
def Rd(enc:TypeId×Value->H)(P:Program)(W:World)(hT:oK W)(sp:Nat->Bool)(held:Bool)(t:TypeId){α:Type}(c:α->List IV)(Q:α->DataW H->Prop)(n:Nat):Prop:=
 ∀m,m<=n-> ∀b y,DataW.trod enc P W 0 sp held m t b=io y-> ∃x,CR (Mem.rr W hT) (c x) b∧Q x y.1
theorem Rd.mono{t:TypeId}{α:Type}{c:α->List IV}{Q:α->DataW H->Prop}{n m:Nat}(h:Rd enc P W hT sp held t c Q n)(hm:m<=n):Rd enc P W hT sp held t c Q m:=fun k b=>h k (ZS b hm)
theorem mv{t:TypeId}{k:IntKind}(b:P.underlying t=io (.int k))(n:Nat):Rd enc P W hT sp held t (fun z=> [.v (.int k z)]) (fun z d=>d= .lit (.int k z)∧(Lit.int k z).wf=kw) n:=by
 intro m _ u y h;cases m with
 |zero=>simp[DataW.trod]at h
 |succ m=>
  unfold DataW.trod at h;rw[b]at h;split at h<;>simp_all;obtain⟨⟨rfl,j⟩,rfl⟩:=h;exact⟨_,.one (.v _),rfl,j⟩
theorem ky{t:TypeId}(b:P.underlying t=io .string)(n:Nat):Rd enc P W hT sp held t (fun s=> [.v (.string s)]) (fun s d=>d= .lit (.string s.data.toList)∧s.size<=maxLen) n:=by
 intro m _ u y h;cases m with
 |zero=>simp[DataW.trod]at h
 |succ m=>
  unfold DataW.trod at h;rw[b]at h;split at h<;>simp_all;rename_i s;obtain⟨j,rfl⟩:=h;exact⟨s,.one (.v _),rfl,j⟩
def QL{α:Type}(Q:α->DataW H->Prop)(l:List α)(d:DataW H):Prop:=
 ∃el:List (DataW H),(d= .nil∧el=[]∨ ∃sp,d= .slice el sp)∧l.length=el.length∧ ∀(i:Nat) (x:α) (e:DataW H),l[i]? =io x->el[i]? =io e->Q x e
theorem kM{α:Type}[Inhabited α]{t e:TypeId}{sz:Nat}{c:α->List IV}{Q:α->DataW H->Prop}{n:Nat}(ht:P.underlying t=io (.slice e))(hc:P.cellsOf e=sz)(B:0<sz)(hl: ∀x,(c x).length=sz)
  (he:Rd enc P W hT sp held e c Q n):Rd enc P W hT sp held t (fun l:List α=> [cZ sz l c]) (QL Q) (n+1):=by
 intro m hm cs y h;rcases DataW.trod_slice ht h with⟨rfl,rfl⟩|⟨a,len,f0,u,rest,k,rfl,rfl,rfl,_,h1,h2,h3,h4,_⟩
 .exact⟨[],.one (.ki ..),[],.inl ⟨rfl,rfl⟩,rfl,fun i x e h=>by simp at h⟩
 have key: ∀i,i<len-> ∃x,(∃d,W.cells? 0 (a.add (i*sz)) sz=io d∧CR (Mem.rr W hT) (c x) d)∧ ∃y,u[i]? =io y∧Q x y.1:=by
  intro i D;have h5:=h4 i D;rw[hc,Y3 (by omega)]at h5;obtain⟨d,h6,h7⟩:=Option.bind_eq_some_iff.1 h5;obtain⟨x,h8,h9⟩:=he k (by omega) _ _ h7;exact⟨x,⟨d,h6,h8⟩,_,Y3 (by omega),h9⟩
 obtain⟨f,hf⟩:=Deep.choose_lt key;refine⟨(Zp len).map f,.one ?_,u.map (·.1),.inr ⟨_,rfl⟩,by simp[h3],fun i x e hx a0=>?_⟩
 .cases len with
  |zero=>exact .ki ..
  |succ len=>
   have i0: ∀i,i<len+1-> ∀j,j<sz->W.cell? ((a.add (i*sz)).add j)=((c (f i))[j]?).bind fun _=>(W.cell? ((a.add (i*sz)).add j)):=by
    intro i D j A;rw[Y3 (by rw[hl];exact A)];rfl
   have b: ∀i,i<len+1-> ∀j,j<sz-> ∃v,W.cell? ⟨a.block,a.off+i*sz+j,jp⟩=io v∧(∀p,(c (f i))[j]? =io p->IR (Mem.rr W hT) p v)∧a.spot=jp:=by
    intro i D j A;obtain⟨⟨d,h6,h8⟩,_⟩:=hf i D;obtain⟨_,h9,G⟩:=World.cells?_some h6;have I:=G j A;rw[Y3 (by omega)]at I;have hs: ∀j,j<sz->(a.add (i*sz+j)).spot=jp:=fun j A=>by
     have J:=G j A;rw[Y3 (by omega),Deep.add_add]at J;exact World.cell?_spot J
    have S:a.add (i*sz+j)=⟨a.block,a.off+i*sz+j,jp⟩:=by
     have:=hs j A;unfold Addr.add at this ⊢;split
     .rename_i h0;rw[am h0]at this;cases a;simp_all
     .rw[aaB]
    refine⟨d[j]'(by omega),?_,fun p hp=>?_,?_⟩
    .rw[<-S,<-Deep.add_add];exact I
    .have:=h8.2 j p hp;rwa[YZ,Y3 (by omega)]at this
    .obtain⟨⟨g0,g6,_⟩,_⟩:=hf 0 (by omega);obtain⟨_,g9,d0⟩:=World.cells?_some g6;have c0:=d0 0 B;rw[Y3 (by omega),Deep.add_add]at c0;have:=World.cell?_spot c0;simpa[Addr.add]using this
   have ha:io a=io (⟨a.block,a.off,jp⟩:Addr):=by
    obtain⟨_,_,_,hs⟩:=b 0 (by omega) 0 B;cases a;simp_all
   rw[ha];have b0:((Zp (len+1)).map f).length=len+1:=by simp
   have Y: ∀k,k<len+1->((Zp (len+1)).map f).getD k em=f k:=fun k F=>by
    simp[YZ,aaZ F]
   unfold cZ;rw[b0];refine .dh _ _ _ _ _ _ h1 h2 (fun k _=>hl _) (fun k j F A=>?_) (fun k j p F hp=>?_)
   .obtain⟨v,hv,_⟩:=b k F j A;rw[E1 hv];rfl
   .rw[Y k F]at hp;have A:j<sz:=by rw[<-hl (f k)];exact(Y4.1 hp).1
    obtain⟨v,hv,e0,_⟩:=b k F j A;rw[E1 hv];exact e0 p hp
 .have D:i<len:=by simpa using(Y4.1 hx).1
  obtain⟨_,y,hy,hq⟩:=hf i D;rw[Y9,hy]at a0;rw[Y9,aaZ D]at hx;simp at a0 hx;subst a0;subst hx;exact hq
theorem rC{n:Nat}{b:Array Field}{cs:List Value}{xs:List (DataW H×List MemPlace)}(hf: ∀(i:Nat) (f:Field),b[i]? =io f->DataW.trod enc P W 0 sp held n f.type ((cs.drop f.offset).take (P.cellsOf f.type))=xs[i]?)
  (i:Nat) {f:Field} (h1:b[i]? =io f) {t o sz:Nat} (h2:f.type=t) (h3:f.offset=o) (d:P.cellsOf t=sz) {x:DataW H×List MemPlace} (j:xs[i]? =io x):DataW.trod enc P W 0 sp held n t ((cs.drop o).take sz)=io x:=by
 subst h2;subst h3;subst d;rw[hf i f h1,j]
end
section
variable {H:Type} {enc:TypeId×Value->H} {P:Program} {W W':World} {T:TypeId->Prop}
theorem IF{W W':World}(d: ∀b,b<W.heap.size->W'.heap[b]? =W.heap[b]?){p:MemPlace}(hp:p.block<W.heap.size):W.sameAt W' p:=by
 cases p with
 |cell b o=>exact World.cell?_of_block (a:=⟨b,o,jp⟩) (d b hp)
 |map b=>exact d b hp
theorem rV(K:Kids P T)(B: ∀{t e},T t->P.underlying t=io (.slice e)->0<P.cellsOf e)(A: ∀b,b<W.heap.size->W'.heap[b]? =W.heap[b]?){sp:Nat->Bool}:
  ∀{ts:List TypeId} {vs:List Value} {y:List (DataW H)} {u:List MemPlace},(∀t∈ts,T t)->DataW.TrodAll enc P W 0 (fun _=>kw) kw ts vs y u->(∀p∈u,p.block<W.heap.size)->(∀p∈u,sp p.block=kw)->
   DataW.TrodAll enc P W' 0 sp kw ts vs y u
 | [],vs,y,u,_,h,_,_=>by
  obtain⟨rfl,rfl,rfl⟩:=trodAll_nil h;exact trodAll_mk0
 |t::ts,vs,y,u,hT,h,hlt,hsp=>by
  obtain⟨v,J,d,D,p,q,rfl,rfl,rfl,⟨n,F⟩,G⟩:=trodAll_cons h;refine⟨p,q,⟨n,DataW.trod_stays K B (fun h=>by cases h) (hT t (by simp)) F (fun x j=>IF A (hlt x (ZC _ j))) (fun x j=>hsp x (ZC _ j))⟩,?_,rfl⟩;exact rV K B A (fun t I=>hT t (Zg _ I)) G (fun x j=>hlt x (aau _ j)) (fun x j=>hsp x (aau _ j))
theorem Qk{W W':World}(j:W'.os=W.os)(d:W'.output=W.output)(u: ∀b,b<W.heap.size->W'.heap[b]? =W.heap[b]?)(may:MemPlace->Prop):W.keptBut W' may:=by
 refine World.keptBut_mono (fun p x=>(x:False).elim) (World.keptBut_none_iff.2 ⟨j,d,u⟩)
theorem BY{f:Func}{s:ChangeSpec}{x G y again:Bool}{args:Array Value}{v:Value}{B gs:List (DataW H)}{d:List MemPlace}
  (K:Kids P T) (hz: ∀{t e},T t->P.underlying t=io (.slice e)->0<P.cellsOf e) (d0: ∀t∈f.params.toList,T t) (A:s.vars=[])
  (hW:DataW.Whole enc P f.params.toList s.vars x W args.toList B gs d) (i0:W'.os=W.os) (Y:W'.output=W.output) (hk: ∀b,b<W.heap.size->W'.heap[b]? =W.heap[b]?)
  (F: ∀(b:Nat) (sp:Nat->Bool) (hd:Bool),DataW.TrodAll enc P W' b sp hd f.resultTypes.toList (v.resultList f.resultTypes.size) (s.fn H (B++gs)).results [])
  (I:(s.fn H (B++gs)).args=B) (k0:(s.fn H (B++gs)).vars=[])
  (g0: ∀(j:Nat) (t:TypeId) (r:Value),f.resultTypes[j]? =io t->(v.resultList f.resultTypes.size)[j]? =io r->Value.okWide P W' .any 0 t r):
  s.post enc P f x G y again W args v W':=by
 have J: ∀p∈d,p.block<W.heap.size:=fun p S=>by simpa using hW.lt p S
 have D: ∀p∈d,(fun b=>li (b<W.heap.size)) p.block=kw:=fun p S=>by simpa using hW.lt p S
 obtain⟨pa,pv,hA,hV,rfl,e0,f0⟩:=id hW;rw[A]at hV;obtain⟨rfl,rfl⟩:gs=[]∧pv=[]:=by
  cases gs with
  |nil=>exact⟨rfl,hV⟩
  |cons _ _=>exact hV.elim
 rw[ZE]at J D;have u: ∀sp:Nat->Bool,(∀p∈pa,sp p.block=kw)->DataW.TrodAll enc P W' 0 sp kw f.params.toList args.toList (s.fn H (B++ [])).args pa:=fun sp j0=>by
  rw[I];exact rV K hz hk d0 hA J j0
 have b0: ∀sp:Nat->Bool,DataW.TrodVars enc P W' sp s.vars (s.fn H (B++ [])).vars []:=fun sp=>by
  rw[k0,A];rfl
 refine⟨B,[],pa++ [],[],pa,[],hW,F _ _ _,u _ D,b0 _,?_,fun _=>⟨g0,_,_,([]++pa)++ [],⟨[]++pa,[],trodAll_append (u _ (fun _ _=>rfl)) (F _ _ _),b0 _,rfl,?_,?_⟩,?_⟩⟩
 .exact Qk i0 Y hk _
 .intro b c0 S;have a0:MemPlace.cell b c0∈pa:=by simpa using S
  have hb:=J _ a0;have:=e0 b c0 (by simpa using a0);rw[<-this];simp only[World.frozen?];rw[hk b hb]
 .intro ha;have:=f0 ha;simpa using this
 .intro p S _;simpa using S
end
section
variable {P:Program} {ty:Ty} {nt:Nat} {s:AS} {Q:AQ} {k:List KI}
def yJ(c:UInt8):List IV:=[.v (.int .u8 (c.toNat:Int))]
theorem u0(w:World)(t u F e:TypeId)(i:TypeInfo)(I:P.underlying t=io (.slice e))(hu:P.underlying u=io .string)(hi:P.info? e=io i)(D:i.size=1)(T:TypeId)
  (g d x:Nat) (j:Array Value) (hg:w.heap[g]? =io (.cells j T (0,0))) (b:ByteArray)
  (y:d+b.size<=x) (A:d+b.size<=j.size):
  (Builtin.append_ #[t,u] F #[.slice (io ⟨g,0,jp⟩) d x,.string b]).run P w=
   .ok (.slice (io ⟨g,0,jp⟩) (d+b.size) x) (w.setRow g (j.toList.take d++Lib.strCells b++j.toList.drop (d+b.size)).toArray):=by
 have G:=Lib.run_firstCells_string (P:=P) w 1 b;have B:=run_storeCells_at P g d T (Lib.strCells b) 0 j w hg (by simpa[Lib.strCells_length]using A) (Lib.strCells_oneCell b);simp only[aa8,Lib.strCells_length]at B;simp[Builtin.append_,run_underlying I,run_underlying hu,sizeOf,typeInfo,hi,D,Builtin.lenOf,y,G,Addr.add_lit,B]
theorem oi(w:World)(t u B e:TypeId)(i:TypeInfo)(D:P.underlying t=io (.slice e))(hu:P.underlying u=io .string)(hi:P.info? e=io i)(y:Option Addr)(j d:Nat)(x:j<=d)(b:ByteArray)(hb:b.size=0)(hs:y=jp∨ ∃b o,y=io ⟨b,o,jp⟩):
  (Builtin.append_ #[t,u] B #[.slice y j d,.string b]).run P w= .ok (.slice y j d) w:=by
 have A:=Lib.run_firstCells_string (P:=P) w i.size b;have F:Lib.strCells b=[]:=ZW (by rw[Lib.strCells_length];exact hb);rw[hb,F]at A;rcases hs with rfl|⟨g,o,rfl⟩
 .simp[Builtin.append_,run_underlying D,run_underlying hu,sizeOf,typeInfo,hi,Builtin.lenOf,hb,x,A]
 .simp[Builtin.append_,run_underlying D,run_underlying hu,sizeOf,typeInfo,hi,Builtin.lenOf,hb,x,A,storeCells]
def wC(s:AS)(i:Nat)(l:List UInt8)(u:TypeId):AS:=⟨s.f,(s.nx,io (.bT l u))::(i,jp)::s.h,s.nx+1⟩
theorem ub{i:Nat}{l:List UInt8}{u:TypeId}{M b:Mem}{N d:Nm}{a:Act}{w j:World}(hf:Fits M N s nt a w)(x:Ext M N (· <s.nx) s.h w b d (· <s.nx+1) ((s.nx,io (.bT l u))::(i,jp)::s.h) j)
  (hr:Rel b d (· <s.nx+1) ((s.nx,io (.bT l u))::(i,jp)::s.h) j):
  Ext M N (· <s.nx) s.h w b d (· <(wC s i l u).nx) (wC s i l u).h j∧Fits b d (wC s i l u) nt a j:=
 ⟨x,hr,hf.2.1.ext x,hf.2.2⟩
theorem Rel.Rr{M:Mem}{N:Nm}{w:World}{n:Nat}{h:AH}(hr:Rel M N (· <n) h w)(T:TypeId):Ext M N (· <n) h w M N (· <n+1) ((n,io (.bT [] T))::h) w∧Rel M N (· <n+1) ((n,io (.bT [] T))::h) w:=by
 have d: ∀i p,AH.get ((n,io (.bT [] T))::h) i=io p->(i=n∧p= .bT [] T)∨(i<n∧h.get i=io p):=by
  intro i p u;rw[AH.aw]at u;split at u
  .rename_i D;exact .inl ⟨D,by simpa using u.symm⟩
  .exact .inr ⟨hr.used i p u,u⟩
 refine⟨⟨rfl,rfl,rfl,Y7 _,fun _ _ _=>rfl,.refl _,fun b c A y=>by simp[A]at y,.refl _ _,fun i u=>by omega,fun i p u x=>?_⟩,⟨hr.fi,fun i p u=>?_,fun i p u x=>?_,fun i p u=>?_,fun i j p q u J F G B=>?_⟩⟩
 .rcases d i p u with⟨rfl,rfl⟩|⟨A,y⟩
  .cases x
  .exact .inr ⟨i,p,y,x,rfl⟩
 .rcases d i p u with⟨rfl,rfl⟩|⟨A,y⟩<;>omega
 .rcases d i p u with⟨rfl,rfl⟩|⟨A,y⟩
  .cases x
  .exact hr.fh i p y x
 .rcases d i p u with⟨rfl,rfl⟩|⟨A,y⟩
  .exact .inl Z
  .exact(hr.obj i p y).mono (.refl _) (.refl _ _) (fun i u=>by omega) A Z
 .rcases d i p u with⟨rfl,rfl⟩|⟨A,y⟩<;>rcases d j q J with⟨rfl,rfl⟩|⟨S,I⟩
  .rfl
  .cases F
  .cases G
  .exact hr.inj i j p q y I F G B
theorem Pd(w0:cB P ty){o:Oper}{x y:Operand}{t tu u:TypeId}(ho:o.op= .call ⟨.builtin .append, #[x,y], #[t,tu]⟩){e et eu:cC}(ht:ty t=io e)(hk:e.k= .bb (.slice u))(s1:ty tu=io et)(m1:et.k= .bb .string)(hu:ty u=io eu)
  {i len:Nat} {l:List UInt8} {b:ByteArray} (hx:ev s.f x= .sl i 0 len 1) (hi:s.h.get i=io (.bT l u)) (B:l.length=len) (r1:eu.size=1) (j1:eu.bytes=1) (hz:eu.zero= .int .u8 0)
  (o1:ev s.f y= .iv (.v (.string b))) (x1:len+b.size<=140737488355328)
  {s':AS} (hp:putDst nt o (.sl s.nx 0 (len+b.size) 1) (wC s i (l++b.data.toList) u)=io s'):OT P nt o s (fun t=>t=s'):=by
 refine OT.value hp fun M N a w I=>?_;obtain⟨⟨ii,f0,q0,p0,r0⟩,_⟩:=w0 u _ hu;rw[r1]at q0;rw[j1]at p0;rw[hz]at r0
 have j0:P.underlying t=io (.slice u):=by
  have:=(w0 t _ ht).2.1;rw[hk]at this;exact this.1
 have i0:P.underlying tu=io .string:=by
  have:=(w0 tu _ s1).2.1;rw[m1]at this;exact this.1
 have x0:=aZ I.2.1 x;rw[hx]at x0;have y0:=aZ I.2.1 y;rw[o1]at y0;have v1:a.eval y= .string b:=by
  generalize a.eval y=v at y0;cases y0 with
  |iv _ _ h=>cases h;rfl
 have d: ∀v w',(Builtin.append_ #[t,tu] o.type #[a.eval x,a.eval y]).run P w= .ok v w'->(execOp a.eval o).run P w= .ok (.value v) w':=by
  intro v w' h;simp only[execOp,ho,resolve];simp[invoke,builtin,h]
 rw[v1]at d;have y1:i<s.nx:=I.1.used i _ hi;have k0:s.nx≠i:=by omega
 have n1:=I.1.obj i _ hi;have Y:b.data.toList.length=b.size:=by simp
 have e0: ∀(j:Nat) (x:UInt8),b.data.toList[j]? =io x->(Lib.strCells b).getD j undef= .int .u8 (x.toNat:Int):=by
  intro j x hx;simp only[Lib.strCells,YZ,Y9,hx,ZZ,aaq]
 have b0: ∀z:Array Value,(∀(j:Nat) (x:UInt8),l[j]? =io x->z.getD j undef= .int .u8 (x.toNat:Int))->(∀j,j<b.size->z.getD (len+j) undef=(Lib.strCells b).getD j undef)->
   ∀(j:Nat) (x:UInt8),(l++b.data.toList)[j]? =io x->z.getD j undef= .int .u8 (x.toNat:Int):=by
  intro z h1 h2 j x D;rcases aab j l.length with hk|hk
  .rw[Zi hk]at D;exact h1 j x D
  .rw[Zn hk]at D;have s0:j-l.length<b.size:=by rw[<-Y];exact(Y4.1 D).1
   have:=h2 _ s0;rw[e0 _ _ D,show len+(j-l.length)=j by omega]at this;exact this
 have S: ∀(F:List Value) (a0:Nat),F.length=len->(∀(j:Nat) (x:UInt8),l[j]? =io x->F.getD j undef= .int .u8 (x.toNat:Int))->len+b.size<=a0->a0<=maxLen->0<len+b.size->
   ∀z:Array Value,z=F.toArray++(Lib.strCells b).toArray++Builtin.zeroCells (Value.int .u8 0).cells (a0-(len+b.size))->
   ∃M' J,Ext M N (· <s.nx) s.h w M' J (· <(wC s i (l++b.data.toList) u).nx) (wC s i (l++b.data.toList) u).h (w.drew.alloc (.cells z u))∧Fits M' J (wC s i (l++b.data.toList) u) nt a (w.drew.alloc (.cells z u))∧
    VR M' J (· <(wC s i (l++b.data.toList) u).nx) (.sl s.nx 0 (len+b.size) 1) (.slice (io ⟨w.heap.size,0,jp⟩) (len+b.size) a0):=by
  intro F a0 d1 t1 n0 l1 t0 z a1;have w1:(Value.int IntKind.u8 0).cells.size=1:=rfl;have G:z.size=a0:=by
   rw[a1,abh,abh,size_zeroCells,w1];simp only[List.size_toArray,d1,Lib.strCells_length];omega
  obtain⟨J,h1,h2,h3,h4,h5⟩:=I.1.drew.alloc (.cells z u) (.bT (l++b.data.toList) u) z.size (fun J g1 g2 g3=>by
   refine .inr ⟨z,by rw[g1];exact heap_alloc_new _ _,g2.symm,by rw[G,Y1,B,Y];omega,b0 z (fun j x D=>?_) (fun j D=>?_)⟩
   .have z1:=(Y4.1 D).1;have e1:z.getD j undef=F.getD j undef:=by
     rw[a1,Y0,Array.append_assoc,Z4 (by simp;omega),YZ];simp
    rw[e1];exact t1 j x D
   .rw[a1,Y0,Z4 (by simp[Lib.strCells_length];omega),Array.getElem?_append_right (by simp;omega),YZ]
    simp[d1])
  have p1:=(h5.del i).swap (Ne.symm k0);have u1:=(((Ext.drew (M:=M) (N:=N) (U:=(· <s.nx)) (h:=s.h) (w:=w)).trans h4).del i).swap (Ne.symm k0);obtain⟨g1,g2⟩:=ub I u1 p1;refine⟨M,J,g1,g2,?_⟩;have:=VR.sl (M:=M) (N:=J) (U:=(· <s.nx+1)) s.nx 0 (len+b.size) 1 a0 (by omega) t0 n0 l1 (by rw[h2,G];simp);rw[h1,aa3]at this;exact this
 generalize a.eval x=vx at x0 d;cases x0 with
 |pV _ _ hU=>
  have he:l=[]:=ZW B;subst he;by_cases hm:b.size=0
  .have m0:b.data.toList=[]:=ZW (by rw[Y];exact hm);have A:=oi (P:=P) w t tu o.type u ii j0 i0 f0 jp 0 0 (Y7 _) b hm (.inl Z);obtain⟨h1,h2⟩:=I.1.Rr u;obtain⟨g1,g2⟩:=ub (i:=i) (l:=[]) (u:=u) I ((h1.del i).swap (Ne.symm k0)) ((h2.del i).swap (Ne.symm k0));rw[m0,hm];exact⟨_,w,M,N,d _ _ A,g1,g2,.pV _ _ (by simp only[wC];omega)⟩
  .have A:=run_append_nil_string (P:=P) w t tu o.type u ii (.int .u8 0) j0 i0 f0 r0 b (by omega) (by omega) (by rw[p0];omega);have e1:(b.data.map fun b=>Value.int .u8 b.toNat)=(Lib.strCells b).toArray:=by
    apply Array.ext';simp[Lib.strCells]
   rw[e1]at A;obtain⟨M',J,g1,g2,g3⟩:=S [] (grownCap w b.size 0 u) Z (by simp) (by simpa using grownCap_ge w b.size 0 u) (grownCap_le_maxLen w _ _ _ (by simp only[maxLen];omega)) (by omega) _ Z;simp only[Zq,aaF,Array.empty_append] at*
   exact⟨_,_,M',J,d _ _ A,by simpa using g1,by simpa using g2,by simpa using g3⟩
 |sl _ _ _ _ a0 hU h0 hl hc hext=>
  rcases n1 with rfl|⟨cur,q1,q2,q3,q4⟩
  .simp at B;omega
  have c0:(AO.bT l u).real=kw:=by cases l with
   |nil=>simp at B;omega
   |cons=>rfl
  rw[aa3]at d;have o0:cur.size=a0:=by rw[q2,<-hext];omega
  by_cases hm:b.size=0
  .have m0:b.data.toList=[]:=ZW (by rw[Y];exact hm);have A:=oi (P:=P) w t tu o.type u ii j0 i0 f0 (io ⟨N.aK i,0,jp⟩) len a0 hl b hm (.inr ⟨_,_,rfl⟩)
   obtain⟨h1,h2⟩:=I.1.move hi c0 w (.bT (l++ []) u) Z Z Z Z (fun _ _=>rfl) (by
    rw[ZE]
    exact .inr ⟨cur,by simpa using q1,by simpa using q2,q3,q4⟩)
   obtain⟨g1,g2⟩:=ub (i:=i) I h1 h2;rw[m0,hm];refine⟨_,w,M,_,d _ _ A,g1,g2,?_⟩;have:=VR.sl (M:=M) (N:=N.with s.nx (N.aK i) (N.ext i)) (U:=(· <s.nx+1)) s.nx 0 len 1 a0 (by omega) h0 hl hc (by simpa using hext);simpa[wC]using this
  .by_cases d0:len+b.size<=a0
   .have A:=u0 (P:=P) w t tu o.type u ii j0 i0 f0 q0 u (N.aK i) len a0 cur q1 b d0 (by omega);generalize hL:(cur.toList.take len++Lib.strCells b++cur.toList.drop (len+b.size)).toArray=L at A;have b1:L.size=cur.size:=by rw[<-hL];simp[Lib.strCells_length];omega
    have v0:=setRow_heap w (N.aK i) cur L u (0,0) q1;have i1: ∀j,j<len->L.getD j undef=cur.getD j undef:=by
     intro j D;rw[<-hL,Y0,Y0];simp only[aak];rw[Zc,Zi (by simp;omega),ZX,am D,aac]
    have f1: ∀j,j<b.size->L.getD (len+j) undef=(Lib.strCells b).getD j undef:=by
     intro j D;rw[<-hL,Y0,YZ];simp only[aak];rw[Zi (by simp[Lib.strCells_length];omega),Zn (by simp;omega)];congr 2;simp;omega
    obtain⟨h1,h2⟩:=I.1.move hi c0 (w.setRow (N.aK i) L) (.bT (l++b.data.toList) u) Z Z Z (by simp) (fun b hb=>by
      simp only[World.setRow,ZT]
      rw[be (fun e=>hb e.symm)]) (by
     refine .inr ⟨L,by simpa using v0,by rw[b1];simpa using q2,by rw[b1,o0,Y1,B,Y];omega,b0 L (fun j x D=>?_) f1⟩;rw[i1 j (by rw[<-B];exact(Y4.1 D).1)]
     exact q4 j x D)
    obtain⟨g1,g2⟩:=ub (i:=i) I h1 h2;refine⟨_,_,M,_,d _ _ A,g1,g2,?_⟩;have:=VR.sl (M:=M) (N:=N.with s.nx (N.aK i) (N.ext i)) (U:=(· <s.nx+1)) s.nx 0 (len+b.size) 1 a0 (by omega) (by omega) d0 hc (by simpa using hext);simpa[wC]using this
   .have g0: ∀(j:Nat) (v:Value),(cur.toList.take len)[j]? =io v->w.cell? ((⟨N.aK i,0,jp⟩:Addr).add j)=io v:=by
     intro j v hv;rw[ZX]at hv;split at hv
     .rw[iE,Zq];simp only[World.cell?,q1];simpa using hv
     .cases hv
    have A:=Lib.run_append_grow_string (P:=P) w t tu o.type u ii (.int .u8 0) j0 i0 f0 r0 ⟨N.aK i,0,jp⟩ len a0 (cur.toList.take len) (by rw[q0];simp;omega) g0 b (by omega) (by omega)
     (by rw[p0];exact growslice_fits (by omega) (by omega))
    obtain⟨M',J,g1,g2,g3⟩:=S (cur.toList.take len) (grownCap w (len+b.size) a0 u) (by simp;omega) (fun j x D=>by
      have:=q4 j x D;have s0:j<len:=by rw[<-B];exact(Y4.1 D).1
      rw[YZ,ZX,am s0,aac]
      rw[Y0]at this;exact this) (grownCap_ge w _ _ _) (grownCap_le_maxLen w _ _ _ (by simp only[maxLen];omega)) (by omega) _ Z
    exact⟨_,_,M',J,d _ _ A,g1,g2,g3⟩
theorem Qo(Y:cB P ty){all rest:List Oper}{o:Oper}{x y:Operand}{t tu u d:Nat}{e et A:cC}{i len:Nat}{l:List UInt8}{b:ByteArray}(ho:o.op= .call ⟨.builtin .append, #[x,y], #[t,tu]⟩)(hg:o.guard=jp)(J:ty t=io e)(hk:e.k= .bb (.slice u))(S:ty tu=io et)(F:et.k= .bb .string)(hu:ty u=io A)
  (hx:ev s.f x= .sl i 0 len 1) (hi:s.h.get i=io (.bT l u)) (I:A.size=1) (D:A.bytes=1) (hz:A.zero= .int .u8 0)
  (G:ev s.f y= .iv (.v (.string b))) (hd:o.dst=io d) (hlt:Zk d nt=kw) (j:l.length=len) (B:len+b.size<=140737488355328)
  (h:GO P nt (.ops all rest::k) Q ⟨(d,.sl s.nx 0 (l++b.data.toList).length 1)::s.f,(s.nx,io (.bT (l++b.data.toList) u))::(i,jp)::s.h,s.nx+1⟩):GO P nt (.ops all (o::rest)::k) Q s:=by
 have e:(l++b.data.toList).length=len+b.size:=by rw[Y1,j];simp
 rw[e]at h
 exact dJ hg (Pd Y ho J hk S F hu hx hi j I D hz G B (s':=⟨(d,.sl s.nx 0 (len+b.size) 1)::s.f,(s.nx,io (.bT (l++b.data.toList) u))::(i,jp)::s.h,s.nx+1⟩) (by
  simp only[putDst,wC,hd,hlt,cond_true,eI])) fun t J=>by subst J;exact h
theorem Ku{o:Oper}{I:Operand}(ho:o.op= .next I kw){i:Nat}(J:ev s.f I= .ptr i 0){b:ByteArray}{a0:Nat}(hi:s.h.get i=io (.eO b a0)){d:Nat}(hd:o.dst=io d)(hlt:Zk d nt=kw):
  OT P nt o s (fun t=>(b.size<=a0∧t=⟨(d,.bQ [.kb lc])::s.f,s.h,s.nx⟩)∨
   (a0<b.size∧t=⟨(d,.bQ [.kb kw,.iv (.v (.int .i64 (a0:Nat))),.iv (.v (.int .i32 (Utf8.decode b a0).1))])::s.f,(i,io (.eO b (a0+(Utf8.decode b a0).2)))::s.h,s.nx⟩)):=by
 intro M N a w G K Z Y;have S:=aZ G.2.1 I;rw[J]at S;have A:w.heap[N.aK i]? =io (.stringIter b a0):=G.1.obj i _ hi;have B:N.aK i<w.heap.size:=(aaj.1 A).1;have D:d<nt:=YY hlt;have F:a.eval I= .pointer (io ⟨N.aK i,0,jp⟩):=by
  generalize a.eval I=y at S;cases S;rfl
 unfold Oper.wp;by_cases u:a0<b.size
 .have x:(execOp a.eval o).run P w= .ok (.value (.tuple #[.bool kw,.int .i64 (a0:Nat),.int .i32 (Utf8.decode b a0).1])) {w with heap:=w.heap.setIfInBounds (N.aK i) (.stringIter b (a0+(Utf8.decode b a0).2))}:=by
   simp only[execOp,ho,F];simp[Instr.next,getObj,setObj,Sem.run,A,u,Result.andThen,goInt]
  rw[x];simp only[Oper.upon]
  obtain⟨q1,q2⟩:=G.1.write hi rfl {w with heap:=w.heap.setIfInBounds (N.aK i) (.stringIter b (a0+(Utf8.decode b a0).2))} (.eO b (a0+(Utf8.decode b a0).2)) rfl rfl rfl (by simp) (fun c hc=>by
   show(w.heap.setIfInBounds _ _)[c]? =_
   rw[ZK,be (fun e=>hc e.symm)]) (by
   show(w.heap.setIfInBounds _ _)[_]? =_
   rw[ZK,am rfl,am B])
  refine Y M N _ _ _ q1 ?_ (.inr ⟨u,rfl⟩);rw[hd];refine Fits.put (s:=⟨s.f,(i,io (.eO b (a0+(Utf8.decode b a0).2)))::s.h,s.nx⟩) ⟨q2,G.2⟩ d _ _ D (.bQ _ _ rfl fun q p u=>?_)
  match q with
  |0=>simp at u;subst u;exact .kb _
  |1=>simp at u;subst u;exact .iv _ _ (.v _)
  |2=>simp at u;subst u;exact .iv _ _ (.v _)
  |q+3=>simp at u
 .have x:(execOp a.eval o).run P w= .ok (.value (.tuple #[.bool lc])) w:=by
   simp only[execOp,ho,F];simp[Instr.next,getObj,Sem.run,A,u,Result.andThen]
  rw[x];simp only[Oper.upon];refine Y M N ⟨(d,.bQ [.kb lc])::s.f,s.h,s.nx⟩ _ w (.refl _ _ _ _ _) ?_ (.inl ⟨by omega,rfl⟩);rw[hd]
  exact G.put d _ _ D (.bQ _ _ rfl fun j p u=>by
    match j with
    |0=>simp at u;subst u;exact .kb _
    |j+1=>simp at u)
theorem oz{all rest:List Oper}{o:Oper}{u:Operand}{i:Nat}{b:ByteArray}{a0 d:Nat}(ho:o.op= .next u kw)(hg:o.guard=jp)(j:ev s.f u= .ptr i 0)(hi:s.h.get i=io (.eO b a0))(hd:o.dst=io d)(hlt:Zk d nt=kw)
  (h1:b.size<=a0->GO P nt (.ops all rest::k) Q ⟨(d,.bQ [.kb lc])::s.f,s.h,s.nx⟩)
  (h2:a0<b.size->GO P nt (.ops all rest::k) Q ⟨(d,.bQ [.kb kw,.iv (.v (.int .i64 (a0:Nat))),.iv (.v (.int .i32 (Utf8.decode b a0).1))])::s.f,(i,io (.eO b (a0+(Utf8.decode b a0).2)))::s.h,s.nx⟩):
  GO P nt (.ops all (o::rest)::k) Q s:=by
 refine dJ hg (Ku ho j hi hd hlt) fun t x=>?_;rcases x with⟨g1,rfl⟩|⟨g1,rfl⟩
 .exact h1 g1
 .exact h2 g1
theorem AY(B:cB P ty){all rest:List Oper}{o:Oper}{x:Operand}{t d:Nat}{b:ByteArray}{e:cC}(ho:o.op= .range t x)(hg:o.guard=jp)(A:ty t=io e)(S:e.k= .bb .string)(Y:ev s.f x= .iv (.v (.string b)))(hd:o.dst=io d)(hlt:Zk d nt=kw)
  (h:GO P nt (.ops all rest::k) Q ⟨(d,.ptr s.nx 0)::s.f,(s.nx,io (.eO b 0))::s.h,s.nx+1⟩):GO P nt (.ops all (o::rest)::k) Q s:=by
 have D:P.underlying t=io .string:=by
  have:=(B t _ A).2.1;rw[S]at this;exact this.1
 refine dJ (R:=fun t=>t=⟨(d,.ptr s.nx 0)::s.f,(s.nx,io (.eO b 0))::s.h,s.nx+1⟩) hg (OT.value (s1:=newObj s (.eO b 0)) (p:= .ptr s.nx 0) (by cases s;simp only[putDst,newObj,hd,hlt,cond_true,eI]) fun M N a w y=>?_) fun t A=>by subst A;exact h
 have j:=aZ y.2.1 x;rw[Y]at j;have F:a.eval x= .string b:=by
  generalize a.eval x=v at j;cases j with
  |iv _ _ h=>cases h;rfl
 obtain⟨u,I,h2,h3,G,J⟩:=y.1.alloc (.stringIter b 0) (.eO b 0) 0 (fun u g1 g2 g3=>by
  show(w.alloc _).heap[u.aK s.nx]? =_
  rw[g1];exact heap_alloc_new w _)
 refine⟨.pointer (io ⟨w.heap.size,0,jp⟩),_,M,u,?_,G,fc y G J,?_⟩
 .simp only[execOp,ho,F];simp[Instr.range,run_underlying D]
 .have:=VR.ptr (M:=M) (N:=u) (U:=(· <s.nx+1)) s.nx 0 (by omega);rw[I]at this;exact this
end
section
variable {P:Program} {ty:Ty} {nt:Nat} {s:AS} {Q:AQ} {k:List KI}
theorem Jk(a0:cB P ty){all rest:List Oper}{o:Oper}{x:Operand}{t t' u d:Nat}{b:ByteArray}{et c0 eu:cC}(ho:o.op= .convert t t' x)(hg:o.guard=jp)(ht:ty t=io et)(hk:et.k= .bb .string)(k0:ty t'=io c0)(g0:c0.k= .bb (.slice u))(hu:ty u=io eu)(i0:eu.k= .bb (.int .u8))
  (hx:ev s.f x= .iv (.v (.string b))) (hd:o.dst=io d) (hlt:Zk d nt=kw) (hb:b.size<=1000000)
  (h:GO P nt (.ops all rest::k) Q ⟨(d,.iv (.dh 1 b.data.toList.length fun k=>yJ (b.data.toList.getD k em)))::s.f,s.h,s.nx⟩):GO P nt (.ops all (o::rest)::k) Q s:=by
 have hs:P.underlying t=io .string:=by have:=(a0 t _ ht).2.1;rw[hk]at this;exact this.1
 have j0:P.underlying t'=io (.slice u):=by have:=(a0 t' _ k0).2.1;rw[g0]at this;exact this.1
 have m0:P.underlying u=io (.int .u8):=by have:=(a0 u _ hu).2.1;rw[i0]at this;exact this.1
 refine dJ (R:=fun t=>t=⟨(d,.iv (.dh 1 b.data.toList.length fun k=>yJ (b.data.toList.getD k em)))::s.f,s.h,s.nx⟩) hg (OT.value (s1:=s) (p:= .iv (.dh 1 b.data.toList.length fun k=>yJ (b.data.toList.getD k em))) (by cases s;simp only[putDst,hd,hlt,cond_true,eI]) fun M N a w D=>?_) fun t ht=>by subst ht;exact h
 have b0:=aZ D.2.1 x;rw[hx]at b0;have n0:a.eval x= .string b:=by
  generalize a.eval x=v at b0;cases b0 with
  |iv _ _ h=>cases h;rfl
 have J:=Go.run_bytes_of_string (P:=P) w t t' u b hs j0 m0;generalize hC:bytesRow b (grownCap w b.size 0 u)=C at J;have B:M w.heap.size=jp:=by
  cases hm:M w.heap.size with
  |none=>rfl
  |some c=>exact absurd (D.1.fi _ _ hm).lt (abV _)
 have F: ∀c,c<w.heap.size->(w.drew.alloc (.cells C u (C.size,C.size+1))).heap[c]? =w.heap[c]? :=fun c A=>by
  show(w.heap.push _)[c]? =_;rw[abj,be (by omega)]
 have hnew:(w.drew.alloc (.cells C u (C.size,C.size+1))).heap[w.heap.size]? =io (.cells C u (C.size,C.size+1)):=by
  show(w.heap.push _)[w.heap.size]? =_;simp
 have d0: ∀j,j<b.data.toList.length->C[j]? =io (.int .u8 ((b.data.toList.getD j em).toNat:Int)):=by
  intro j hj;have S:j<b.data.size:=by simpa using hj
  rw[<-hC];simp only[bytesRow];rw[Z4 (by simpa using S)];simp[YZ];exact⟨b.data[j],ZV S,by rw[ZV S];rfl⟩
 have G:=grownCap_ge w b.size 0 u;refine⟨.slice (io ⟨w.heap.size,0,jp⟩) b.size (grownCap w b.size 0 u),w.drew.alloc (.cells C u (C.size,C.size+1)),M.set w.heap.size (.cells C) B,N,?_,?_,?_,?_⟩
 .simp only[execOp,ho,n0];rw[Sem.run_bind,J];rfl
 .have q1:M.le (M.set w.heap.size (.cells C) B):=fun c e A=>by
   simp only[Mem.set];rw[be fun e2=>by rw[e2,B]at A;cases A];exact A
  have q2: ∀c e,M c=jp->(M.set w.heap.size (.cells C) B) c=io e->w.heap.size<=c∨ ∃i o,s.h.get i=io o∧o.real=kw∧N.aK i=c:=fun c e h1 h2=>by
   simp only[Mem.set]at h2;by_cases he:c=w.heap.size
   .exact .inl (by omega)
   .rw[be he,h1]at h2;cases h2
  exact⟨rfl,rfl,rfl,(by show w.heap.size<=(w.heap.push _).size;simp),fun c A _=>F c A,q1,q2,.refl _ _,fun _ h=>h,fun i o I y=> .inr ⟨i,o,I,y,rfl⟩⟩
 .have e0:M.le (M.set w.heap.size (.cells C) B):=fun c e A=>by
   simp only[Mem.set];rw[be fun e2=>by rw[e2,B]at A;cases A];exact A
  refine⟨⟨fun c e A=>?_,D.1.used,fun i o I y=>?_,fun i o I=>?_,D.1.inj⟩,fun i=>(D.2.1 i).mono e0 (.refl _ _) fun _ h=>h,D.2.2⟩
  .simp only[Mem.set]at A;by_cases he:c=w.heap.size
   .rw[am he]at A;cases A;exact⟨u,(C.size,C.size+1),by rw[he];exact hnew⟩
   .rw[be he]at A;exact(D.1.fi c e A).mono (F c (D.1.fi c e A).lt)
  .simp only[Mem.set];have:=D.1.lt I y;rw[be (by omega)];exact D.1.fh i o I y
  .cases y:o.real with
   |true=>exact(D.1.obj i o I).mono e0 (.refl _ _) (fun _ h=>h) (D.1.used i o I) (F _ (D.1.lt I y))
   |false=>
    cases o with
    |row sz es=>cases es with
     |nil=>exact .inl Z
     |cons=>cases y
    |bT l T=>cases l with
     |nil=>exact .inl Z
     |cons=>cases y
    |_=>cases y
 .have f0:b.data.toList.length=b.size:=by simp
  rw[<-f0]at G ⊢;by_cases h0:b.data.toList.length=0
  .rw[h0];exact .iv _ _ (.ki _ _ _ _)
  .refine .iv _ _ (.dh _ _ _ _ _ _ (by omega) (grownCap_le_maxLen w _ _ _ (by simp only[maxLen];omega)) (fun _ _=>rfl) (fun k j hk hj=>?_) (fun k j p hk hp=>?_))
   .have Y:j=0:=by omega
    subst Y;have:=d0 k hk;simp only[Mem.cell,Mem.set,if_true,Zq,abT,aa8,this,Option.isSome_some]
   .have Y:j=0:=by
     have:=(Y4.1 hp).1;simp[yJ]at this;exact this
    subst Y;cases hp;have:=d0 k hk;simp only[Mem.cell,Mem.set,if_true,Zq,abT,aa8,this,aaq];exact .v _
theorem Qt(B:cB P ty)(l:List UInt8){all rest:List Oper}{o:Oper}{x:Operand}{t D u d i n:Nat}{es:List (List PV)}{et G eu:cC}(ho:o.op= .convert t D x)(hg:o.guard=jp)(ht:ty t=io et)(hk:et.k= .bb (.slice u))(f0:ty D=io G)(c0:G.k= .bb .string)(hu:ty u=io eu)(d0:eu.k= .bb (.int .u8))
  (hx:ev s.f x= .sl i 0 n 1) (hi:s.h.get i=io (.row 1 es)) (hd:o.dst=io d) (hlt:Zk d nt=kw) (hes:es=l.map fun x=>(yJ x).map .iv) (hn:n=l.length)
  (h:GO P nt (.ops all rest::k) Q ⟨(d,.iv (.v (.string ⟨l.toArray⟩)))::s.f,s.h,s.nx⟩):GO P nt (.ops all (o::rest)::k) Q s:=by
 have hs:P.underlying D=io .string:=by have:=(B D _ f0).2.1;rw[c0]at this;exact this.1
 have Y:P.underlying t=io (.slice u):=by have:=(B t _ ht).2.1;rw[hk]at this;exact this.1
 have a0:P.underlying u=io (.int .u8):=by have:=(B u _ hu).2.1;rw[d0]at this;exact this.1
 subst hn;subst hes;refine dJ (R:=fun t=>t=⟨(d,.iv (.v (.string ⟨l.toArray⟩)))::s.f,s.h,s.nx⟩) hg (OT.value (s1:=s) (p:= .iv (.v (.string ⟨l.toArray⟩))) (by cases s;simp only[putDst,hd,hlt,cond_true,eI]) fun M N a w hf=>?_) fun t ht=>by subst ht;exact h
 have b:=aZ hf.2.1 x;rw[hx]at b;have S:(convert t D (a.eval x)).run P w= .ok (.string ⟨l.toArray⟩) w:=by
  generalize a.eval x=v at b;cases hor:l with
  |nil=>
   rw[hor]at b;generalize F:PV.sl i 0 ([]:List UInt8).length 1=q at b;cases b with
   |sl _ _ _ _ _ _ h0=>cases F;simp at h0
   |pV _ _ _=>
    have:=run_convert_bytes_nil (P:=P) w t u Y a0 0 0 D hs;exact this
   |_=>cases F
  |cons x0 r0=>
   rw[<-hor];have J:0<l.length:=by rw[hor];simp
   generalize e0:l.length=n at b J;generalize F:PV.sl i 0 n 1=q at b;cases b with
   |sl _ _ _ _ cap hU h0 hl hc he=>
    cases F;rcases hf.1.obj i _ hi with A|⟨_,c,T,q1,q2,q3,q4,q5⟩
    .rw[hor]at A;cases A
    rw[aa3,<-e0];refine run_convert_bytes_back (P:=P) w t D u ⟨N.aK i,0,jp⟩ cap l Y a0 hs fun j hj=>?_;rw[iE,Zq];have I:j<c.size:=by rw[Zx]at q3;omega
    have:=q5 j [.iv (.v (.int .u8 (l[j].toNat:Int)))] 0 _ (by rw[Y9,Y3 hj];rfl) Z;rw[abT,aa8,Y0,ZV I,aaq]at this;simp only[World.cell?,q1];generalize b0:c[j]=y at this;cases this with
    |iv _ _ h=>cases h;simp[I,b0]
   |pV _ _ _=>cases F;omega
   |_=>cases F
 exact⟨_,w,M,N,by simp only[execOp,ho];exact bJ S,.refl _ _ _ _ _,hf,.iv _ _ (.v _)⟩
theorem w9(u:cB P ty){all rest:List Oper}{o:Oper}{x:Operand}{t y d:Nat}{q J:IntKind}{n:Int}{G j:cC}(ho:o.op= .convert t y x)(hg:o.guard=jp)(B:ty t=io G)(Y:G.k= .bb (.int q))(D:ty y=io j)(A:j.k= .bb .string)
  (hx:ev s.f x= .iv (.v (.int J n))) (hd:o.dst=io d) (hlt:Zk d nt=kw)
  (h:GO P nt (.ops all rest::k) Q ⟨(d,.iv (.v (.string (Utf8.encode n))))::s.f,s.h,s.nx⟩):GO P nt (.ops all (o::rest)::k) Q s:=by
 have hs:P.underlying y=io .string:=by have:=(u y _ D).2.1;rw[A]at this;exact this.1
 have S:P.underlying t=io (.int q):=by have:=(u t _ B).2.1;rw[Y]at this;exact this.1
 refine dJ (R:=fun t=>t=⟨(d,.iv (.v (.string (Utf8.encode n))))::s.f,s.h,s.nx⟩) hg (OT.value (s1:=s) (p:= .iv (.v (.string (Utf8.encode n)))) (by cases s;simp only[putDst,hd,hlt,cond_true,eI]) fun M N a w I=>?_) fun t B=>by subst B;exact h
 have b:=aZ I.2.1 x;rw[hx]at b;have F:a.eval x= .int J n:=by
  generalize a.eval x=v at b;cases b with
  |iv _ _ h=>cases h;rfl
 refine⟨_,w,M,N,?_,.refl _ _ _ _ _,I,.iv _ _ (.v _)⟩;simp only[execOp,ho,F];refine bJ ?_;simp[convert,run_underlying S,run_underlying hs,Conv.intToString]
end
section
variable {P:Program} {ty:Ty} {nt:Nat} {s:AS}
theorem qv{M:Mem}{N:Nm}{a:Act}{w:World}(hf:Fits M N s nt a w){x:Operand}{k:IntKind}{n:Int}(h:ev s.f x= .iv (.v (.int k n))):a.eval x= .int k n:=by
 have b:=aZ hf.2.1 x;rw[h]at b;generalize a.eval x=v at b;cases b with
 |iv _ _ b=>cases b with
  |v=>rfl
theorem Wp(D:cB P ty){o:Oper}{t u:TypeId}{l c:Operand}(ho:o.op= .makeSlice t l c){e b:cC}(ht:ty t=io e)(hk:e.k= .bb (.slice u))(hu:ty u=io b)
  {n m sz:Nat} {kl kc:IntKind} {ml nc:Int} (hl:ev s.f l= .iv (.v (.int kl ml))) (hc:ev s.f c= .iv (.v (.int kc nc))) (g0:ml=(m:Int)) (i0:nc=(n:Int)) (hn:0<n) (p0:n<=100000000000) (hb:b.bytes*n<=281474976710656) (m0:b.size=sz) (F:b.zero.cells.size=sz) (k0:0<sz)
  {z:List PV} (hz:z=c6 b.zero) {p:PV} (B:(m=0∧p= .sl s.nx 1 0 sz)∨(m=n∧p= .sl s.nx 0 n sz))
  {s':AS} (hp:putDst nt o p (newObj s (.row sz (aaX n z)))=io s'):OT P nt o s (fun t=>t=s'):=by
 refine OT.value hp fun M N a w J=>?_;subst hz m0 g0 i0;obtain⟨⟨ii,a0,b0,Y,c0⟩,_⟩:=D u _ hu
 have n0:P.underlying t=io (.slice u):=by
  have:=(D t _ ht).2.1;rw[hk]at this;exact this.1
 have o0:m<=n:=by rcases B with⟨h,_⟩|⟨h,_⟩<;>omega
 have A:=run_make w t u ii b.zero n0 a0 c0 kl kc (m:Int) (n:Int) (by omega) (by omega) (by rw[Y];omega) (by omega);rw[Zs,Zs,b0]at A;have G:(c6 b.zero).length=b.size:=by rw[(gn (M:=M) (N:=N) (U:=(· <s.nx)) b.zero).1,F]
 have y: ∀(k:Nat) (e:List PV),(aaX n (c6 b.zero))[k]? =io e->k<n∧e=c6 b.zero:=by
  intro k e d;rw[aa6]at d;split at d
  .exact⟨by assumption,by simpa using d.symm⟩
  .cases d
 obtain⟨I,h1,h2,h8,h9,S⟩:=J.1.alloc (.cells (madeCells b.zero.cells (n*b.size)) u) (.row b.size (aaX n (c6 b.zero))) (n*b.size) (fun I g1 g2 g3=>
  .inr ⟨k0,_,u,by rw[g1];exact heap_alloc_new w _,by rw[size_madeCells,g2],by rw[size_madeCells,List.length_replicate];exact Y7 _,fun k e d=>by rw[(y k e d).2,G],fun k e j p d hj=>by
   obtain⟨e0,rfl⟩:=y k e d;have d0:j<b.size:=by rw[<-G];exact(Y4.1 hj).1
   have f0:k*b.size+j<n*b.size:=by
    have:(k+1)*b.size<=n*b.size:=Zy _ e0;rw[aaf]at this;omega
   have h7:(madeCells b.zero.cells (n*b.size)).getD (k*b.size+j) undef=b.zero.cells.getD j undef:=by
    have hx:(abR (n*b.size))[k*b.size+j]? =io (k*b.size+j):=by simp[f0]
    have hm:(k*b.size+j) % b.zero.cells.size=j:=by rw[F,Nat.add_comm,Nat.add_mul_mod_self_right,Nat.mod_eq_of_lt d0]
    rw[madeCells,Y0,abn,hx];simp only[ZZ,aaq,hm];rw[Y0,getElem!_pos b.zero.cells j (by omega),ZV (by omega)];rfl
   rw[h7];exact(gn b.zero).2 j p hj⟩)
 refine⟨.slice (io ⟨w.heap.size,0,jp⟩) m n,_,M,I,?_,h9,fc J h9 S,?_⟩
 .simp only[execOp,ho,qv J hl,qv J hc];rw[Sem.run_bind,A];rfl
 .have j0:(newObj s (.row b.size (aaX n (c6 b.zero)))).nx=s.nx+1:=by cases s;rfl
  rw[j0];have x:n<=maxLen:=by simp only[maxLen];omega
  rcases B with⟨rfl,rfl⟩|⟨rfl,rfl⟩
  .have:=VR.sle (M:=M) (N:=I) (U:=(· <s.nx+1)) s.nx b.size n (by omega) x (by rw[h2]);rw[h1]at this;exact this
  .have:=VR.sl (M:=M) (N:=I) (U:=(· <s.nx+1)) s.nx 0 m b.size m (by omega) hn (Y7 _) x (by rw[h2,Zq]);rw[h1,aa3]at this;exact this
theorem UB(d:cB P ty){o:Oper}{t u:TypeId}{l c:Operand}(ho:o.op= .makeSlice t l c){e x:cC}(ht:ty t=io e)(hk:e.k= .bb (.slice u))(hu:ty u=io x)
  {sz:Nat} (el:Nat->List IV) {Y kc:IntKind} {ml nc:Int} (hl:ev s.f l= .iv (.v (.int Y ml))) (hc:ev s.f c= .iv (.v (.int kc nc))) (D:ml=0) (F:nc=0)
  {s':AS} (hp:putDst nt o (.iv (.dh sz 0 el)) (newObj s (.row sz []))=io s'):OT P nt o s (fun t=>t=s'):=by
 refine OT.value hp fun M N a w j=>?_;subst D F;obtain⟨⟨S,A,b0,a0,B⟩,_⟩:=d u _ hu
 have G:P.underlying t=io (.slice u):=by
  have:=(d t _ ht).2.1;rw[hk]at this;exact this.1
 have b:=run_make w t u S x.zero G A B Y kc 0 0 (by omega) (by omega) (by omega) (by omega);obtain⟨I,h1,h2,h8,J,y⟩:=j.1.alloc (.cells (madeCells x.zero.cells ((0:Int).toNat*S.size)) u) (.row sz []) 0 (fun I g1 g2 g3=> .inl Z);refine⟨.slice (io ⟨w.heap.size,0,jp⟩) 0 0,_,M,I,?_,J,fc j J y,.iv _ _ (.ki _ _ _ _)⟩;simp only[execOp,ho,qv j hl,qv j hc];rw[Sem.run_bind,b];rfl
theorem UY(A:cB P ty){o:Oper}{t u:TypeId}{x hi:Operand}(ho:o.op= .slice t x jp (io hi) jp){e G:cC}(ht:ty t=io e)(J:e.k= .bb (.slice u))(hu:ty u=io G)
  {i n m sz:Nat} {kc:IntKind} {I:Int} (hx:ev s.f x= .sl i 0 n sz) (hh:ev s.f hi= .iv (.v (.int kc I))) (D:I=(m:Int)) (Y:m<=n) (hn:0<n)
  {p:PV} (F:(m=0∧p= .sl i 1 0 sz)∨(0<m∧p= .sl i 0 m sz)) {s':AS} (hp:putDst nt o p s=io s'):OT P nt o s (fun t=>t=s'):=by
 refine OT.value hp fun M N a w B=>?_;subst D
 have j:P.underlying t=io (.slice u):=by
  have:=(A t _ ht).2.1;rw[J]at this;exact this.1
 have d:P.elem t=u:=by simp[Program.elem,j]
 have y:=aZ B.2.1 x;rw[hx]at y;generalize hv:a.eval x=vx at y;cases y with
 |pV=>omega
 |sl _ _ _ _ cap hU h0 hl hc hext=>
  have b:=run_slice_h (P:=P) (w:=w) t (io ⟨N.aK i,0*sz,jp⟩) n cap (by rw[d];exact j) kc (m:Int) (by omega) (by omega);rw[d,bN (A u _ hu)]at b;refine⟨sliced (io ⟨N.aK i,0*sz,jp⟩) 0 m cap G.size,w,M,N,?_,.refl _ _ _ _ _,B,?_⟩
  .simp only[execOp,ho,hv,ZZ,abI,qv B hh];refine bJ ?_;rw[run_sliceAt_slice w t _ _ _ _ (by rw[d];exact j),b];rfl
  .rcases F with⟨rfl,rfl⟩|⟨S,rfl⟩
   .have:=VR.sle (M:=M) (N:=N) (U:=(· <s.nx)) i sz cap hU hc (by rw[<-hext,Zq]);simpa[sliced,Addr.add]using this
   .have:=VR.sl (M:=M) (N:=N) (U:=(· <s.nx)) i 0 m sz cap hU S (by omega) hc hext;simpa[sliced,Addr.add]using this
theorem Q8(i0:cB P ty){o:Oper}{x y:Operand}{t u:TypeId}(ho:o.op= .call ⟨.builtin .append, #[x,y], #[t,t]⟩){e A:cC}(ht:ty t=io e)(hk:e.k= .bb (.slice u))(hu:ty u=io A)
  {i sz:Nat} {es news:List (List PV)} {py:PV} (hx:ev s.f x= .sl i 1 0 sz) (hi:s.h.get i=io (.row sz es)) (w0:A.size=sz) (a0:news.length<=es.length) (hm:0<news.length)
  (v0:ev s.f y=py) (hy:Src s.h sz py news) (d0: ∀e∈news,jy e=kw)
  {s':AS} (hp:putDst nt o (.sl s.nx 0 news.length sz) (uM s i sz [] news)=io s'):OT P nt o s (fun t=>t=s'):=by
 refine OT.value hp fun M N a w hf=>?_;subst w0;obtain⟨⟨ii,q0,c0,d1,e1⟩,_⟩:=i0 u _ hu
 have x0:P.underlying t=io (.slice u):=by
  have:=(i0 t _ ht).2.1;rw[hk]at this;exact this.1
 have f0:=aZ hf.2.1 x;rw[hx]at f0;have m0:=aZ hf.2.1 y;rw[v0]at m0;obtain⟨G,ao,c,a1,S⟩:=hy.ok hf m0;have B: ∀v w',(Builtin.append_ #[t,t] o.type #[a.eval x,a.eval y]).run P w= .ok v w'->(execOp a.eval o).run P w= .ok (.value v) w':=by
  intro v w' h;simp only[execOp,ho,resolve];simp[invoke,builtin,h]
 rw[a1]at B;have I:(AO.row A.size es).real=kw:=by cases es with
  |nil=>exact absurd a0 (by simp only[aad];omega)
  |cons=>rfl
 rcases hf.1.obj i _ hi with rfl|⟨hsz0,cur,T,q1,q2,q3,q4,q5⟩
 .cases I
 generalize a.eval x=vx at f0 B;cases f0 with
 |sl _ _ _ _ _ _ h0=>exact absurd h0 (abV _)
 |sle _ _ cap hU hc hext=>
  have F:cur.size=cap*A.size:=by rw[q2,<-hext]
  have d:news.length<=cap:=by
   have:es.length*A.size<=cap*A.size:=by rw[<-F];exact q3
   have:=Nat.le_of_mul_le_mul_right this hsz0;omega
  obtain⟨b2,b1,o0,Y⟩:=S (List.ne_nil_of_length_pos hm);subst o0;obtain⟨vs,j0,y0,k0⟩:=wQ (s:=s) Y;have J:vs.length=news.length*A.size:=by rw[j0,mP G]
  have p0:vs.length<=cur.size:=by rw[J,F];exact Zy _ d
  have b0: ∀v∈vs,v.oneCell'=kw:=by
   intro v hv;obtain⟨j,hj⟩:=ZY hv;have r0:j<news.flatten.length:=by rw[<-j0];exact(Y4.1 hj).1
   have hp:=Y3 r0;obtain⟨k,e,i',h1,h2,_⟩:=qE G j _ hp;have:=(k0 j _ hp).one (oI (d0 e (Zv h1)) i' _ h2);rw[YZ,hj]at this;exact this
  have D:=oj (P:=P) (w:=w) t o.type u ii x0 q0 T (N.aK i) 0 cap cur q1 ⟨b2,b1,jp⟩ news.length c vs (by rw[J,c0]) y0 b0 (by omega) (by rw[c0];omega);rw[c0]at D;generalize hL:(cur.toList.take (0*A.size)++vs++cur.toList.drop (0*A.size+vs.length)).toArray=L at D;rw[Zq]at D;have g0:L.size=cur.size:=by rw[<-hL];simp;omega
  have e0:=setRow_heap w (N.aK i) cur L T (0,0) q1;have n0: ∀j,j<vs.length->L.getD j undef=vs.getD j undef:=by
   intro j hj;rw[<-hL,Y0,YZ];simp only[aak];rw[Zi (by simp;omega),Zn (by simp)];simp
  obtain⟨h1,h2⟩:=hf.1.move hi I (w.setRow (N.aK i) L) (.row A.size ([]++news)) Z Z Z (by simp) (fun b hb=>by
    simp only[World.setRow,ZT]
    rw[be (fun e=>hb e.symm)]) (by
   refine .inr ⟨hsz0,L,T,by simpa using e0,by rw[g0];simpa using q2,by rw[g0,F];exact Zy _ d,fun k e he=>G _ e he,fun k e j p he hj=>?_⟩;have f1:j<A.size:=by rw[<-G _ e he];exact(Y4.1 hj).1
   have s0:k<news.length:=(Y4.1 he).1;have t0:k*A.size+j<vs.length:=by
    rw[J];have:(k+1)*A.size<=news.length*A.size:=Zy _ s0;rw[aaf]at this;omega
   rw[n0 _ t0]
   exact(k0 _ p (qD G _ e j p he hj)).mono (.refl _) (N.gQ _ _ _) (fun i hi=>by omega))
  obtain⟨g1,g2⟩:=qY (es:=[]) (news:=news) (i:=i) hf h1 h2;refine⟨_,_,M,_,B _ _ D,g1,g2,?_⟩;have:=VR.sl (M:=M) (N:=N.with s.nx (N.aK i) (N.ext i)) (U:=(· <s.nx+1)) s.nx 0 news.length A.size cap (by omega) hm d hc (by simpa using hext);rw[nG];simpa using this
section
variable {Q:AQ} {k:List KI} {all rest:List Oper} {o:Oper} {s':AS}
theorem Ez(D:cB P ty){t u:TypeId}{l c:Operand}(n m:Nat)(hg:o.guard=jp)(ho:o.op= .makeSlice t l c){e b:cC}(B:ty t=io e)(J:e.k= .bb (.slice u))(hu:ty u=io b)
  {kl kc:IntKind} {G I:Int} (S:ev s.f l= .iv (.v (.int kl G))) (hc:ev s.f c= .iv (.v (.int kc I))) (d:G=(m:Int)) (x:I=(n:Int)) (hn:0<n) (j:n<=100000000000) (hb:b.bytes*n<=281474976710656) (F:b.zero.cells.size=b.size) (A:0<b.size)
  {z:List PV} (Y:z=c6 b.zero) {p:PV} (y:(m=0∧p= .sl s.nx 1 0 b.size)∨(m=n∧p= .sl s.nx 0 n b.size))
  (hp:putDst nt o p (newObj s (.row b.size (aaX n z)))=io s') (h:GO P nt (.ops all rest::k) Q s'):GO P nt (.ops all (o::rest)::k) Q s:=
 dJ hg (Wp D ho B J hu S hc d x hn j hb Z F A Y y hp) fun t B=>by subst B;exact h
theorem Gf(x:cB P ty){t u:TypeId}{l c:Operand}(sz:Nat)(el:Nat->List IV)(hg:o.guard=jp)(ho:o.op= .makeSlice t l c){e B:cC}(j:ty t=io e)(D:e.k= .bb (.slice u))(hu:ty u=io B)
  {G kc:IntKind} {y A:Int} (F:ev s.f l= .iv (.v (.int G y))) (hc:ev s.f c= .iv (.v (.int kc A))) (b:y=0) (d:A=0)
  (hp:putDst nt o (.iv (.dh sz 0 el)) (newObj s (.row sz []))=io s') (h:GO P nt (.ops all rest::k) Q s'):GO P nt (.ops all (o::rest)::k) Q s:=
 dJ hg (UB x ho j D hu el F hc b d hp) fun t j=>by subst j;exact h
theorem HL(A:cB P ty){t u:TypeId}{x hi:Operand}{i n sz:Nat}(m:Nat)(hg:o.guard=jp)(ho:o.op= .slice t x jp (io hi) jp){e D:cC}(y:ty t=io e)(F:e.k= .bb (.slice u))(hu:ty u=io D)
  {kc:IntKind} {B:Int} (G:ev s.f x= .sl i 0 n sz) (hh:ev s.f hi= .iv (.v (.int kc B))) (b:B=(m:Int)) (d:m<=n) (hn:0<n)
  {p:PV} (j:(m=0∧p= .sl i 1 0 sz)∨(0<m∧p= .sl i 0 m sz)) (hp:putDst nt o p s=io s') (h:GO P nt (.ops all rest::k) Q s'):GO P nt (.ops all (o::rest)::k) Q s:=
 dJ hg (UY A ho y F hu G hh b d hn j hp) fun t y=>by subst y;exact h
theorem Cw(D:cB P ty){x y:Operand}{t u:TypeId}(hg:o.guard=jp)(ho:o.op= .call ⟨.builtin .append, #[x,y], #[t,t]⟩){e d:cC}(B:ty t=io e)(G:e.k= .bb (.slice u))(hu:ty u=io d)
  {i:Nat} {es news:List (List PV)} {F:PV} (I:ev s.f x= .sl i 1 0 d.size) (hi:s.h.get i=io (.row d.size es))
  (A:ev s.f y=F) (J:TQ s.h d.size F=io news) (b:news.length<=es.length) (hm:0<news.length) (j: ∀e∈news,jy e=kw)
  (hp:putDst nt o (.sl s.nx 0 news.length d.size) (uM s i d.size [] news)=io s') (h:GO P nt (.ops all rest::k) Q s'):GO P nt (.ops all (o::rest)::k) Q s:=
 dJ hg (Q8 D ho B G hu I hi Z b hm A (GU J) j hp) fun t B=>by subst B;exact h
end
section
variable {Q:AQ} {k:List KI} {all rest:List Oper} {o:Oper} {s':AS}
end
end
theorem gi.take{sz n:Nat}{es:List (List PV)}:gi (.row sz es) (.row sz (es.take n)):=by
 refine⟨fun h=>?_,fun M N U w i h=>?_⟩
 .cases es with
  |nil=>rw[List.take_nil]at h;exact h
  |cons=>rfl
 .rcases h with h|⟨d,c,T,u,x,y,A,B⟩
  .exact .inl (by rw[h,List.take_nil])
  .refine .inr ⟨d,c,T,u,x,ZS (Zy _ (by rw[ZP];omega)) y,fun k e b=>?_,fun k e j p b D=>?_⟩
   .rw[ZX]at b;split at b
    .exact A k e b
    .cases b
   .rw[ZX]at b;split at b
    .exact B k e j p b D
    .cases b
theorem ux{P:Program}{nt:Nat}{Q:AQ}{k:List KI}{s:AS}{body:Code}{σ:Type}(i0 n:Nat)(j:i0<=n)(I:Nat->σ->AS)(J:Nat->σ->Prop)(u:σ)(y:List Nat)(D:J i0 u)(h0:Wk s.nx y s (I i0 u))
  (b: ∀i x,i<=n->J i x->GO P nt (.code body:: .lp (fun t=>i<n∧ ∃d L,J (i+1) d∧Wk s.nx L t (I (i+1) d))::k) Q (I i x)):GO P nt (.code (.loop body)::k) Q s:=by
 refine oA (σ:={p:Nat×σ//p.1<=n∧J p.1 p.2}) (fun p=>I p.1.1 p.1.2) (fun p=>n-p.1.1) ⟨(i0,u),j,D⟩ y h0 fun p=>?_;obtain⟨⟨i,x⟩,A,B⟩:=p;refine tj ?_ (b i x A B)
 rintro t ⟨h3,d,L,h4,h5⟩;exact⟨⟨(i+1,d),h3,h4⟩,L,by show n-(i+1)<n-i;omega,h5⟩
theorem SU{P:Program}{nt:Nat}{Q:AQ}{k:List KI}{s:AS}{all rest:List Oper}(d:Nat){p:PV}(j:aL (s.f.get d) p)(h:GO P nt (.ops all rest::k) Q ⟨(d,p)::s.f,s.h,s.nx⟩):GO P nt (.ops all rest::k) Q s:=by
 intro M N a w b;refine h M N a w ⟨b.1,fun e=>?_,b.2.2⟩;rw[AF.aw];split
 .rename_i u;subst u;exact j M N _ _ (b.2.1 e)
 .exact b.2.1 e
theorem Qp{P:Program}{ty:Ty}{nt:Nat}{Q:AQ}{k:List KI}{s:AS}(d:cB P ty){all rest:List Oper}{o:Oper}{t:TypeId}{x i:Operand}(p:PV)(ho:o.op= .lookup t x i lc)(hg:o.guard=jp)
  {kc:KC} {V:Type} {e:V->IV} {z:V} {j:Value} {m:List (kc.K×V)} (B:ev s.f x= .iv (.eE kc e z j m)) {q:PV} (y:yc ty t lc kc e z j m (ev s.f i)=io (q,True)) (A:q=p)
  {s':AS} (hp:putDst nt o p s=io s') (h:GO P nt (.ops all rest::k) Q s'):GO P nt (.ops all (o::rest)::k) Q s:=by
 have b:lu ty s o.op=io (p,True):=by
  rw[ho,<-A];simp only[lu,B];exact y
 exact dJ hg (u5 d b ac hp) fun u hu=>by subst hu;exact h
section
variable {P:Program} {ty:Ty} {nt:Nat} {s:AS}
theorem Kk{o:Oper}{p:PV}{s':AS}(hp:putDst nt o p s=io s')(h: ∀M N a w,Fits M N s nt a w-> ∃x,(execOp a.eval o).run P w= .ok (.value x) w∧VR M N (· <s.nx) p x):
  (s'.h=s.h∧s'.nx=s.nx)∧ ∀M N a w,Fits M N s nt a w-> ∃x,(execOp a.eval o).run P w= .ok (.value x) w∧Fits M N s' nt (a.put o.dst x) w:=by
 cases hd:o.dst with
 |none=>
  have:=fH hp hd;subst this;exact⟨⟨rfl,rfl⟩,fun M N a w b=>let ⟨x,hx,_⟩:=h M N a w b;⟨x,hx,b⟩⟩
 |some d=>
  obtain⟨j,rfl⟩:=fG hp hd;exact⟨⟨rfl,rfl⟩,fun M N a w b=>let ⟨x,hx,hv⟩:=h M N a w b;⟨x,hx,b.put d p x j hv⟩⟩
theorem UJ{Q:AQ}{k:List KI}{all:List Oper}{todo pend:List (Nat×Oper)}{o:Oper}{s':AS}{p:PV}(i:Nat)(hin:todo.find? (fun x=>Zt x.1 i)=io (i,o))(d:aS o=lc)(j:todo.all (fun x=>!waits o x.1)=kw)(hg:cH nt all s.f o=io kw)(b:y9 all pend o=kw)
  (hp:putDst nt o p s=io s') (u: ∀M N a w,Fits M N s nt a w-> ∃x,(execOp a.eval o).run P w= .ok (.value x) w∧VR M N (· <s.nx) p x)
  (h:GO P nt (.cW all (todo.filter fun x=>!Zt x.1 i) ((i,o)::pend)::k) Q s'):GO P nt (.cW all todo pend::k) Q s:=
 have g:=Kk hp u
 yr (abB hin) d (fun x y=>by simpa using Zr.1 j x y) hg b g.1 g.2 h
end
section
variable {P:Program} {ty:Ty} {nt:Nat} {Q:AQ} {k:List KI} {s:AS}
theorem Fz(q0:cB P ty){o:Oper}{t:TypeId}{a x:Operand}(ho:o.op= .store t a x)(hd:o.dst=jp){i sz q:Nat}{e:cC}(he:ty t=io e)(x0:e.size=sz){es:List (List PV)}{xs:List PV}
  (ha:ev s.f a= .dH i sz q 0) (hi:s.h.get i=io (.row sz es)) (hq:q<es.length) (t0:(ev s.f x).cells=io xs) (e0:xs.length=sz) (b0:jy xs=kw):
  OT P nt o s (fun u=>u=⟨s.f,(i,io (.row sz (es.set q xs)))::s.h,s.nx⟩):=by
 have hp:putDst nt o .any ⟨s.f,(i,io (.row sz (es.set q xs)))::s.h,s.nx⟩=io ⟨s.f,(i,io (.row sz (es.set q xs)))::s.h,s.nx⟩:=by simp only[putDst,hd]
 refine OT.skip hp fun M N b w I=>?_;have hu:=aZ I.2.1 a;have hy:=aZ I.2.1 x;rw[ha]at hu;generalize r0:b.eval a=u at hu;generalize v0:b.eval x=y at hy
 have key: ∃w',(Instr.storeAt t u y).run P w= .ok () w'∧Ext M N (· <s.nx) s.h w M N (· <s.nx) ((i,io (.row sz (es.set q xs)))::s.h) w'∧Fits M N ⟨s.f,(i,io (.row sz (es.set q xs)))::s.h,s.nx⟩ nt b w':=by
  cases hu with
  |dH _ _ _ _ hU=>
   obtain⟨hl,hv⟩:=qQ hy t0;have y0:y.cells.size=sz:=by omega
   rcases I.1.obj i _ hi with h0|⟨h0,c,T,g1,g2,g3,g4,g5⟩
   .rw[h0]at hq;simp at hq
   have a0:(q+1)*sz<=es.length*sz:=Zy _ hq;have w0:q*sz+sz<=c.size:=by rw[aaW]at a0;omega
   have B: ∀z∈y.cells.toList,z.oneCell'=kw:=by
    intro v s0;obtain⟨j,hj⟩:=ZY s0;have j0:j<y.cells.toList.length:=(Y4.1 hj).1;have Y:xs[j]? =io (xs[j]'(by simp at j0;omega)):=Y3 _;have:=(hv j _ Y).one (oI b0 j _ Y);rw[Y0]at this;have g0:y.cells[j]? =io v:=by simpa using hj
    rw[g0]at this;exact this
   have d0:=run_storeCells_at P (N.aK i) (q*sz) T y.cells.toList 0 c w g1 (by simp;omega) B;refine⟨w.setRow (N.aK i) (c.toList.take (q*sz+0)++y.cells.toList++c.toList.drop (q*sz+0+y.cells.toList.length)).toArray,?_,?_⟩
   .have D:=bN (w:=w) (q0 t e he);have p0:y.cells.size=e.size:=by omega
    simp only[Instr.storeAt,Instr.sureAddr,pure_bind,storeVar,Sem.run_bind,D,Result.andThen_ok,p0,ne_eq,not_true_eq_false,if_false];exact d0
   .have c0:=setRow_heap w (N.aK i) c (c.toList.take (q*sz+0)++y.cells.toList++c.toList.drop (q*sz+0+y.cells.toList.length)).toArray T (0,0) g1;have n0: ∀b,b≠N.aK i->(w.setRow (N.aK i) (c.toList.take (q*sz+0)++y.cells.toList++c.toList.drop (q*sz+0+y.cells.toList.length)).toArray).heap[b]? =w.heap[b]? :=by
     intro b hb;simp only[World.setRow,ZT];rw[be (fun e=>hb e.symm)]
    have o0:(AO.row sz es).real=kw:=by cases es with
     |nil=>simp at hq
     |cons=>rfl
    have f0: ∀m,(c.toList.take (q*sz+0)++y.cells.toList++c.toList.drop (q*sz+0+y.cells.toList.length)).toArray.getD m undef=if q*sz<=m∧m<q*sz+sz then y.cells.getD (m-q*sz) undef else c.getD m undef:=by
     intro m;rw[Y0,Y0,Y0];have k0:y.cells.toList.length=sz:=by simp;omega
     split
     .rename_i hm;have e1:(c.toList.take (q*sz+0)++y.cells.toList++c.toList.drop (q*sz+0+y.cells.toList.length)).toArray[m]? =y.cells[m-q*sz]? :=by
       simp only[aak];rw[Zi (by simp;omega),Zn (by simp;omega)];simp only[ZP,Array.length_toList,aac];congr 1;omega
      rw[e1]
     .rename_i hm;have e1:(c.toList.take (q*sz+0)++y.cells.toList++c.toList.drop (q*sz+0+y.cells.toList.length)).toArray[m]? =c[m]? :=by
       simp only[aak];rcases aab m (q*sz) with k1|k1
       .rw[Zc,Zi (by simp;omega),ZX,am (by omega),aac]
       .rw[Zn (by simp;omega),aai,aac];congr 1;simp;omega
      rw[e1]
    have:=I.1.write hi o0 (w.setRow (N.aK i) (c.toList.take (q*sz+0)++y.cells.toList++c.toList.drop (q*sz+0+y.cells.toList.length)).toArray) (.row sz (es.set q xs)) Z Z Z (by simp) n0
     (.inr ⟨h0,_,T,c0,by simp;omega,by simp;omega,fun F S d=>?_,fun F S J p2 d G=>?_⟩)
    .exact⟨this.1,this.2,I.2.1,I.2.2⟩
    .rw[ZM]at d;split at d
     .cases d;exact e0
     .exact g4 F S d
    .rw[f0];rw[ZM]at d;split at d
     .rename_i A;subst A;cases d;have i0:J<sz:=by rw[<-e0];exact(Y4.1 G).1
      rw[am (by omega),show q*sz+J-q*sz=J by omega];exact hv J p2 G
     .rename_i A;have i0:J<sz:=by rw[<-g4 F S d];exact(Y4.1 G).1
      rw[be ?_]
      .exact g5 F S J p2 d G
      .intro⟨e1,S⟩;rcases Nat.lt_trichotomy q F with m0|heq|hgt
       .have:(q+1)*sz<=F*sz:=Zy _ m0;rw[aaW]at this;omega
       .exact A heq
       .have:(F+1)*sz<=q*sz:=Zy _ hgt;rw[aaW]at this;omega
 obtain⟨w',h1,d,G⟩:=key;refine⟨w',M,N,?_,d,G⟩;simp only[execOp,ho];simp[r0,v0,h1]
theorem kE(j:cB P ty){all rest:List Oper}{o:Oper}{t:TypeId}{a x:Operand}(ho:o.op= .store t a x)(hd:o.dst=jp)(hg:o.guard=jp){i sz q:Nat}{e:cC}(he:ty t=io e)(d:e.size=sz){es:List (List PV)}{xs:List PV}
  (ha:ev s.f a= .dH i sz q 0) (hi:s.h.get i=io (.row sz es)) (B:q<es.length) (A:(ev s.f x).cells=io xs) (y:xs.length=sz) (b:jy xs=kw)
  {s':AS} (hs:(⟨s.f,(i,io (.row sz (es.set q xs)))::s.h,s.nx⟩:AS)=s') (h:GO P nt (.ops all rest::k) Q s'):GO P nt (.ops all (o::rest)::k) Q s:=
 dJ hg (Fz j ho hd he d ha hi B A y b) fun u hu=>by subst hu;subst hs;exact h
end
theorem qy{P:Program}{nt:Nat}{Q:AQ}{k:List KI}{s:AS}{c:Code}(i:Nat){sz:Nat}{es:List (List PV)}(el:Nat->List IV)(hi:s.h.get i=io (.row sz es))(a0: ∀k e,es[k]? =io e->e=(el k).map .iv)
  (hf:s.f.xS i sz es.length) (hh:s.h.vi i sz es.length) (h:GO P nt (.code c::k) Q ⟨s.f.lQ i sz el,(i,jp)::s.h.il i sz el,s.nx⟩):GO P nt (.code c::k) Q s:=by
 intro M N a w b;obtain⟨M',y,A,h4⟩:=xb b.1 hi a0;have F: ∀j o,AH.get ((i,jp)::s.h.il i sz el) j=io o-> ∃p,AH.get ((i,jp)::s.h) j=io p∧s.h.get j=io p∧o=p.il i sz el:=by
  intro j o u;obtain⟨g1,g2⟩:=bF j o u;rw[AH.kF,Zb]at g2;obtain⟨p,g3,g4⟩:=g2;exact⟨p,by rw[AH.aw,be g1];exact g3,g3,g4.symm⟩
 have hE:Ext M N (· <s.nx) s.h w M' N (· <s.nx) ((i,jp)::s.h.il i sz el) w:=⟨y.os,y.tape,y.output,y.size,y.iT,y.r6,y.kh,y.nm,y.ule,fun j o u x=>by
  obtain⟨p,g1,_,rfl⟩:=F j o u;rw[AO.mN]at x
  exact y.jr j p g1 x⟩
 have hR:Rel M' N (· <s.nx) ((i,jp)::s.h.il i sz el) w:=by
  refine⟨A.fi,fun j o u=>?_,fun j o u x=>?_,fun j o u=>?_,fun j k o p u hk ho I=>?_⟩
  .obtain⟨p,g1,_,rfl⟩:=F j o u;exact A.used j p g1
  .obtain⟨p,g1,_,rfl⟩:=F j o u;rw[AO.mN]at x;exact A.fh j p g1 x
  .obtain⟨p,g1,g2,rfl⟩:=F j o u;cases p with
   |cells cs T0=>
    obtain⟨c,T,q1,q2,q3,q4,q5⟩:=b.1.obj j _ g2;have D:=AH.oq hh j _ g2;refine⟨c,T,q1,q2,by simpa[fY]using q3,fun k q hq=>?_,q5⟩;rw[fY,Y9,Zb]at hq;obtain⟨q0,S,rfl⟩:=hq;exact h4 _ _ (q4 k q0 S) (ij D k q0 S)
   |row s2 es2=>
    have D:=AH.oq hh j _ g2;rcases b.1.obj j _ g2 with rfl|⟨q0,c,T,q1,q2,q3,q4,q5⟩
    .exact .inl Z
    .refine .inr ⟨q0,c,T,q1,q2,by simpa using q3,fun k e G=>?_,fun k e j2 p G I=>?_⟩
     .rw[Y9,Zb]at G;obtain⟨Y,B,rfl⟩:=G;rw[fY,Zx];exact q4 k Y B
     .rw[Y9,Zb]at G;obtain⟨Y,B,rfl⟩:=G;rw[fY,Y9,Zb]at I;obtain⟨p0,J,rfl⟩:=I;exact h4 _ _ (q5 k Y j2 p0 B J) (ij (D Y (Zv B)) j2 p0 J)
   |bT=>exact A.obj j _ g1
   |gK=>exact A.obj j _ g1
   |map=>exact A.obj j _ g1
   |cD=>exact A.obj j _ g1
   |eO=>exact A.obj j _ g1
  .obtain⟨o',g1,_,rfl⟩:=F j o u;obtain⟨p',g2,_,rfl⟩:=F k p hk;rw[AO.mN]at ho I;exact A.inj j k o' p' g1 g2 ho I
 have b0:Fits M' N ⟨s.f.lQ i sz el,(i,jp)::s.h.il i sz el,s.nx⟩ nt a w:=⟨hR,fun d=>by
  rw[AF.mM];exact h4 _ _ (b.2.1 d) (AF.oV hf d),b.2.2⟩
 exact AW.then h b0 fun e a2 w2 M2 N2 s2 f0 c0 d0=>⟨M2,N2,s2,hE.trans f0,c0,d0⟩
def Ro{σ:Type}(P:Program)(nt:Nat)(k:List KI)(Q:AQ)(n0:Nat)(t:σ->AS):AQ:=fun e u=>(e= .normal∧ ∃i L,Wk n0 L u (t i))∨(e≠ .normal∧kp P nt k Q e u)
theorem go_cut{P:Program}{nt:Nat}{Q:AQ}{k:List KI}{s:AS}{c:Code}{σ:Type}(n:Nat)(t:σ->AS)(y:c=Kx (tQ n c) (pj n c))
  (h1:GO P nt ((tQ n c).map KI.code) (Ro P nt k Q s.nx t) s) (h2: ∀i,GO P nt (.code (pj n c)::k) Q (t i)):GO P nt (.code c::k) Q s:=by
 intro M N a w hf;rw[y];have key: ∀(l:List Code) (u:AS) B F I A,Ext M N (· <s.nx) s.h w B F (· <u.nx) u.h A->Fits B F u nt I A->
   kp P nt (l.map KI.code) (Ro P nt k Q s.nx t) .normal u->(Kx l (pj n c)).wp P (pL nt M N s w (kp P nt k Q)) I A:=by
  intro l
  induction l with
  |nil=>
   intro u B F I A J x hk;rcases hk with⟨_,i,L,hw⟩|⟨Y,_⟩
   .exact AW.then (h2 i) (hw.fits x) fun e a2 w2 D G S j b d=>⟨D,G,S,(hw.ext J).trans j,b,d⟩
   .exact absurd Z Y
  |cons c l ih=>
   intro u B F I A J x hk;refine wp_seq (AW.then hk x fun e a2 w2 D G S j b d=>?_);cases e with
   |normal=>exact ih S D G a2 w2 (J.trans j) b d
   |_=>
    rcases Cc (l:=l) (by simp) d with⟨Y,_⟩|⟨_,hq⟩
    .cases Y
    .exact⟨D,G,S,J.trans j,b,hq⟩
 exact key _ s M N a w (.refl _ _ _ _ _) hf h1
theorem fx{P:Program}{nt:Nat}{k:List KI}{Q:AQ}{n0:Nat}{σ:Type}{t:σ->AS}{u:AS}(i:σ)(L:List Nat)(h:Wk n0 L u (t i)):Ro P nt k Q n0 t .normal u:= .inl ⟨rfl,i,L,h⟩
theorem QI{P:Program}{nt:Nat}{k:List KI}{Q:AQ}{n0:Nat}{σ:Type}{t:σ->AS}{u:AS}{e:Exit}(he:e≠ .normal)(h:kp P nt k Q e u):Ro P nt k Q n0 t e u:= .inr ⟨he,h⟩
section
variable {P:Program} {ty:Ty} {nt:Nat} {Q:AQ} {k:List KI} {s:AS}
theorem bp(d:cB P ty){all rest:List Oper}{o:Oper}{t:TypeId}{a:Operand}(ho:o.op= .load t a)(hg:o.guard=jp){e:cC}(he:ty t=io e){i sz q off:Nat}{es:List (List PV)}{row:List PV}{v:PV}
  (ha:ev s.f a= .dH i sz q off) (hi:s.h.get i=io (.row sz es)) (j:es[q]? =io row) (hr:jq e (row.drop off)=io v)
  {s':AS} (hp:putDst nt o v s=io s') (h:GO P nt (.ops all rest::k) Q s'):GO P nt (.ops all (o::rest)::k) Q s:=by
 have hb:behind s.h (.dH i sz q off)=io (row.drop off):=by
  simp only[behind,hi,j,Nat.beq_refl]
 have b:lu ty s o.op=io (v,True):=by
  rw[ho];simp only[lu,he,ha,hb,hr]
 exact dJ hg (u5 d b ac hp) fun u hu=>by subst hu;exact h
theorem gB{α:Type}[Inhabited α]{l:List α}{f:α->List IV}{i:Nat}(h:i<l.length):(l.map fun x=>(f x).map PV.iv)[0+i]? =io ((f (l.getD i em)).map .iv):=by
 rw[Zq,Y9,Y3 h,YZ,Y3 h];rfl
end
def Nm.one(b e:Nat):Nm:=⟨fun _=>b,fun _=>e⟩
inductive SB:Type 1 where
 |obj (o:AO) (e:Nat)
 |out (i e:Nat)
abbrev bd:=Nat->Option SB
def bd.nil:bd:=fun _=>jp
def bd.put(X:bd)(b:Nat)(x:SB):bd:=fun c=>if c=b then io x else X c
def bd.still(X:bd):Prop:= ∀b i e,X b≠io (.out i e)
theorem bd.dx(X:bd)(b:Nat)(x:SB):X.put b x b=io x:=by simp[bd.put]
theorem bd.ly(X:bd){b c:Nat}(x:SB)(h:c≠b):X.put b x c=X c:=by simp[bd.put,h]
theorem bd.Hg(X:bd)(b:Nat)(x y:SB):(X.put b x).put b y=X.put b y:=by
 funext c;simp only[bd.put];split<;>rfl
structure dV (M:Mem) (N:Nm) (n:Nat) (h:AH) (X:bd) (w:World):Prop where
 real: ∀b o e,X b=io (.obj o e)->o.real=kw
 obj: ∀b o e,X b=io (.obj o e)->OR M (Nm.one b e) (fun _=>False) w 0 o
 fi: ∀b o e,X b=io (.obj o e)->M b=jp
 apart: ∀b o e,X b=io (.obj o e)-> ∀i p,h.get i=io p->p.real=kw->N.aK i≠b
 out: ∀b i e,X b=io (.out i e)->i<n∧N.aK i=b∧N.ext i=e
def AO.all(G:PV->Prop):AO->Prop
 | .cells cs _=> ∀p∈cs,G p
 | .row _ es=> ∀e∈es,∀p∈e,G p
 |_=>True
theorem AO.all_true(o:AO):o.all fun _=>True:=by cases o<;>simp[AO.all]
theorem OR.move{M J:Mem}{N B:Nm}{U U':Nat->Prop}{w I:World}{i F:Nat}{o:AO}{G:PV->Prop}(hM:M.le J)(hG:o.all G)(hV: ∀p x,G p->VR M N U p x->VR J B U' p x)
  (hb:B.aK F=N.aK i) (he:B.ext F=N.ext i) (hw:I.heap[N.aK i]? =w.heap[N.aK i]?) (h:OR M N U w i o):OR J B U' I F o:=by
 cases o with
 |cells cs T0=>
  obtain⟨c,T,d,u,y,A,Y⟩:=h;exact⟨c,T,by rw[hb,hw,d],by rw[he,u],y,fun j p D=>hV _ _ (hG p (Zv D)) (A j p D),Y⟩
 |row sz es=>
  rcases h with h|⟨h0,c,T,d,u,y,A,Y⟩
  .exact .inl h
  exact .inr ⟨h0,c,T,by rw[hb,hw,d],by rw[he,u],y,A,fun k e j p hk D=>hV _ _ (hG e (Zv hk) p (Zv D)) (Y k e j p hk D)⟩
 |bT l T=>
  rcases h with h|⟨c,d,u,y,A⟩
  .exact .inl h
  exact .inr ⟨c,by rw[hb,hw,d],by rw[he,u],y,A⟩
 |gK=>show I.heap[B.aK F]? =_;rw[hb,hw];exact h
 |map kc ev z zv dv m=>
  obtain⟨e,S,d,u,y⟩:=h;exact⟨e,S,by rw[hb,hw,d],u.mono hM,y.mono hM⟩
 |cD kc ev m l cu=>
  rcases h with⟨d,u,y,A⟩|⟨b,e,S,se,d,u,y,A⟩
  .exact .inl ⟨d,u,y,by rw[hb,hw,A]⟩
  .exact .inr ⟨b,e,S,se,by rw[hb,hw,d],hM _ _ u,y.mono hM,A⟩
 |eO s p=>show I.heap[B.aK F]? =_;rw[hb,hw];exact h
theorem VR.Hj{M b:Mem}{N d:Nm}{j:Nat->Prop}(hM:M.le b){p:PV}{x:Value}(h:VR M N (fun _=>False) p x):VR b d j p x:=
 h.mono hM ⟨fun _ h=>h.elim,fun _ h=>h.elim⟩ (fun _ h=>h.elim)
def PV.flat:PV->Prop
 | .iv _=>True
 | .kb _=>True
 | .any=>True
 |_=>False
theorem VR.O0{M:Mem}{N d:Nm}{U j:Nat->Prop}{p:PV}{x:Value}(hp:p.flat)(h:VR M N U p x):VR M d j p x:=by
 cases h with
 |iv x y h=>exact .iv _ _ h
 |kb b=>exact .kb _
 |any x=>exact .any _
 |_=>exact hp.elim
def Xk(N:Nm)(h:AH)(X:bd)(b:Nat):Prop:=(∃i o,h.get i=io o∧o.real=kw∧N.aK i=b)∨ ∃o e,X b=io (.obj o e)
structure iW (M:Mem) (N:Nm) (n:Nat) (h:AH) (X:bd) (w:World) (M':Mem) (N':Nm) (n':Nat) (h':AH) (X':bd) (w':World):Prop where
 os:w'.os=w.os
 tape:w'.tape=w.tape
 output:w'.output=w.output
 size:w.heap.size<=w'.heap.size
 iT: ∀b,b<w.heap.size-> ¬Xk N h X b->w'.heap[b]? =w.heap[b]?
 r6:M.le M'
 kh: ∀b c,M b=jp->M' b=io c->w.heap.size<=b∨Xk N h X b
 nm:N.agree N' (· <n)
 ule:n<=n'
 jr: ∀b,Xk N' h' X' b->w.heap.size<=b∨Xk N h X b
theorem iW.refl(M:Mem)(N:Nm)(n:Nat)(h:AH)(X:bd)(w:World):iW M N n h X w M N n h X w:=
 ⟨rfl,rfl,rfl,Y7 _,fun _ _ _=>rfl,.refl _,fun b c d j=>by simp[d]at j,.refl _ _,Y7 _,fun _ h=> .inr h⟩
theorem iW.trans{M u x:Mem}{N y A:Nm}{n n1 n2:Nat}{h h1 h2:AH}{X B D:bd}{w G I:World}
  (a:iW M N n h X w u y n1 h1 B G) (b:iW u y n1 h1 B G x A n2 h2 D I):iW M N n h X w x A n2 h2 D I where
 os:=b.os.trans a.os
 tape:=b.tape.trans a.tape
 output:=b.output.trans a.output
 size:=ZS a.size b.size
 iT:=fun k j F=>by
  rw[b.iT k (aa1 j a.size) (fun S=>?_),a.iT k j F];rcases a.jr k S with h3|h3
  .omega
  .exact F h3
 r6:=a.r6.trans b.r6
 kh:=fun k c h3 J=>by
  cases h5:u k with
  |some c'=>exact a.kh k c' h3 h5
  |none=>
   rcases b.kh k c h5 J with h6|h6
   .exact .inl (ZS a.size h6)
   .exact a.jr k h6
 nm:=⟨fun i d=>(b.nm.aK i (aa1 d a.ule)).trans (a.nm.aK i d),fun i d=>(b.nm.ext i (aa1 d a.ule)).trans (a.nm.ext i d)⟩
 ule:=ZS a.ule b.ule
 jr:=fun k j=>by
  rcases b.jr k j with h3|h3
  .exact .inl (ZS a.size h3)
  .exact a.jr k h3
theorem iW.frame{M S:Mem}{N Y:Nm}{n J:Nat}{h h':AH}{X:bd}{w w':World}(x:Ext M N (· <n) h w S Y (· <J) h' w')(hs:dV M N n h X w):
  iW M N n h X w S Y J h' X w'∧dV S Y J h' X w':=by
 have D: ∀b o e,X b=io (.obj o e)->b<w.heap.size:=fun b o e hb=>(hs.obj b o e hb).lt (hs.real b o e hb);have A:n<=J:=aa2 fun hh=>absurd (x.ule J hh) (abV _);refine⟨⟨x.os,x.tape,x.output,x.size,fun b hb hn=>x.iT b hb fun i o hi F he=>hn (.inl ⟨i,o,hi,F,he⟩),x.r6,fun b c I h2=>?_,x.nm,A,fun b hb=>?_⟩,hs.real,fun b o e hb=>?_,fun b o e hb=>?_,fun b o e hb i p hi F a0=>?_,fun b i e hb=>?_⟩
 .rcases x.kh b c I h2 with d|⟨i,o,d,B,u⟩
  .exact .inl d
  .exact .inr (.inl ⟨i,o,d,B,u⟩)
 .rcases hb with⟨i,o,d,B,u⟩|hb
  .rcases x.jr i o d B with h6|⟨j,p,h6,h7,h8⟩
   .exact .inl (u▸h6)
   .exact .inr (.inl ⟨j,p,h6,h7,h8.trans u⟩)
  .exact .inr (.inr hb)
 .refine OR.move (G:=fun _=>True) x.r6 (AO.all_true o) (fun p y _ hv=>hv.Hj x.r6) Z Z ?_ (hs.obj b o e hb);exact x.iT b (D b o e hb) (hs.apart b o e hb)
 .cases hM:S b with
  |none=>rfl
  |some c=>
   rcases x.kh b c (hs.fi b o e hb) hM with d|⟨i,p,d,B,u⟩
   .have:=D b o e hb;omega
   .exact absurd u (hs.apart b o e hb i p d B)
 .rcases x.jr i p hi F with d|⟨j,q,d,B,u⟩
  .have:=D b o e hb;omega
  .exact hs.apart b o e hb j q d B (u.trans a0)
 .obtain⟨I,h2,d⟩:=hs.out b i e hb;exact⟨aa1 I A,(x.nm.aK i I).trans h2,(x.nm.ext i I).trans d⟩
theorem iW.TJ{M B:Mem}{N D:Nm}{n G:Nat}{h F:AH}{J:bd}{w I:World}(x:iW M N n h bd.nil w B D G F J I):Ext M N (· <n) h w B D (· <G) F I:=by
 have d: ∀b,Xk N h bd.nil b-> ∃i o,h.get i=io o∧o.real=kw∧N.aK i=b:=fun b hb=>by
  rcases hb with hb|⟨o,e,hb⟩
  .exact hb
  .cases hb
 refine⟨x.os,x.tape,x.output,x.size,fun b hb Y=>x.iT b hb fun ho=>?_,x.r6,fun b c j u=>?_,x.nm,fun i y=>aa1 y x.ule,fun i o y A=>?_⟩
 .obtain⟨i,o,j,u,S⟩:=d b ho;exact Y i o j u S
 .exact(x.kh b c j u).imp id (d b)
 .exact(x.jr _ (.inl ⟨i,o,y,A,rfl⟩)).imp id (d _)
theorem dV.nil(M:Mem)(N:Nm)(n:Nat)(h:AH)(w:World):dV M N n h bd.nil w:=⟨nofun,nofun,nofun,nofun,nofun⟩
abbrev XQ:=Exit->AS->bd->Prop
def pK(nt:Nat)(M:Mem)(N:Nm)(s:AS)(X:bd)(w:World)(R:XQ):Exit->Act->World->Prop:=fun e x u=>
 ∃b d s' j,iW M N s.nx s.h X w b d s'.nx s'.h j u∧Fits b d s' nt x u∧dV b d s'.nx s'.h j u∧R e s' j
theorem pK.later{nt:Nat}{M b:Mem}{N d:Nm}{s s':AS}{X j:bd}{w u:World}{R:XQ}{e:Exit}{a:Act}{y:World}
  (x:iW M N s.nx s.h X w b d s'.nx s'.h j u) (h:pK nt b d s' j u R e a y):pK nt M N s X w R e a y:=by
 obtain⟨A,B,I,D,F,G⟩:=h;exact⟨A,B,I,D,x.trans F,G⟩
theorem pK.now{nt:Nat}{M:Mem}{N:Nm}{s:AS}{X:bd}{w:World}{R:XQ}{e:Exit}{a:Act}(hf:Fits M N s nt a w)(hs:dV M N s.nx s.h X w)(h:R e s X):pK nt M N s X w R e a w:=
 ⟨M,N,s,X,.refl _ _ _ _ _ _,hf,hs,h⟩
def AX(P:Program)(nt:Nat)(c:Code)(R:XQ)(s:AS)(X:bd):Prop:= ∀M N a w,Fits M N s nt a w->dV M N s.nx s.h X w->c.wp P (pK nt M N s X w R) a w
def ALX(P:Program)(nt:Nat)(all rest:List Oper)(R:XQ)(s:AS)(X:bd):Prop:= ∀M N a w,Fits M N s nt a w->dV M N s.nx s.h X w->wpList P all.toArray (pK nt M N s X w R) rest a w
def SLX(P:Program)(nt:Nat)(all rest:List Oper)(R:XQ)(s:AS)(X:bd):Prop:= ∀M N a w,Fits M N s nt a w->dV M N s.nx s.h X w->
 wpStill P all.toArray w (fun b=>pK nt M N s X w R .normal b w) rest a
inductive XI where
 |wB (all rest:List Oper)
 |code (c:Code)
 |aK (id:Nat)
 |ops (all rest:List Oper)
 |lp (R:AS->bd->Prop)
 |JN
def kx(P:Program)(nt:Nat):List XI->XQ->XQ
 | [],Q=>Q
 | .code c::k,Q=>fun e s X=>match e with| .normal=>AX P nt c (kx P nt k Q) s X|e=>kx P nt k Q e s X
 | .ops all rest::k,Q=>fun e s X=>match e with| .normal=>ALX P nt all rest (kx P nt k Q) s X|e=>kx P nt k Q e s X
 | .wB all rest::k,Q=>fun e s X=>match e with| .normal=>SLX P nt all rest (kx P nt k Q) s X|e=>kx P nt k Q e s X
 | .lp R::k,Q=>fun e s X=>match e with| .normal=>R s X|e=>kx P nt k Q e s X
 | .aK id::k,Q=>fun e s X=>match e with| .exit j=>if j=id then kx P nt k Q .normal s X else kx P nt k Q (.exit j) s X|e=>kx P nt k Q e s X
 | .JN::k,Q=>fun e s X=>match e with| .goto _=>False|e=>kx P nt k Q e s X
def GX(P:Program)(nt:Nat)(k:List XI)(Q:XQ)(s:AS)(X:bd):Prop:=kx P nt k Q .normal s X
section
variable {P:Program} {nt:Nat} {Q:XQ} {k:List XI} {s:AS} {X:bd}
theorem AX.then{c:Code}{R:XQ}(h:AX P nt c R s X){M:Mem}{N:Nm}{a:Act}{w:World}(hf:Fits M N s nt a w)(hs:dV M N s.nx s.h X w){Z:Exit->Act->World->Prop}
  (y: ∀e x b d j s' u,iW M N s.nx s.h X w d j s'.nx s'.h u b->Fits d j s' nt x b->dV d j s'.nx s'.h u b->R e s' u->Z e x b):c.wp P Z a w:=
 wp_mono (h M N a w hf hs) fun e x b ⟨d,j,s',u,h1,h2,h3,h4⟩=>y e x b d j s' u h1 h2 h3 h4
theorem HE{d:AQ}{k0:List KI}{c:Code}(h:GX P nt [.code c] (fun e t _=>kp P nt k0 d e t) s bd.nil):GO P nt (.code c::k0) d s:=by
 intro M N a w x;exact AX.then h x (.nil ..) fun e D F j u s' B A b _ y=>⟨j,u,s',A.TJ,b,y⟩
theorem bZ{c:Code}(h:GO P nt [.code c] (fun e u=>kx P nt k Q e u X) s):GX P nt (.code c::k) Q s X:=by
 intro M N a w A D;refine AW.then h A fun e G I d j s' F b B=>?_;obtain⟨x,y⟩:=iW.frame F D;exact⟨d,j,s',X,x,b,y,B⟩
theorem aJ{x y:Code}(h:GX P nt (.code x:: .code y::k) Q s X):GX P nt (.code (.seq x y)::k) Q s X:=by
 intro M N a w hf hs;refine wp_seq (AX.then h hf hs fun e a' w' G J s' Y F b d D=>?_);cases e with
 |normal=>exact AX.then D b d fun e a2 w2 I S s2 X2 B j A u=>⟨I,S,s2,X2,F.trans B,j,A,u⟩
 |_=>exact⟨G,J,s',Y,F,b,d,D⟩
theorem dQ(h:GX P nt k Q s X):GX P nt (.code .skip::k) Q s X:=fun _ _ _ _ b d=>wp_skip (.now b d h)
theorem gG{id:Nat}(h:kx P nt k Q (.exit id) s X):GX P nt (.code (.exit id)::k) Q s X:=fun _ _ _ _ b d=>wp_exit (.now b d h)
theorem jv{id:Nat}(h:GX P nt k Q s X):GX P nt (.aK id::k) Q s X:=h
theorem bS{id:Nat}{x:Code}(h:GX P nt (.code x:: .aK id::k) Q s X):GX P nt (.code (.block id x)::k) Q s X:=by
 intro M N a w G I;refine wp_block (AX.then h G I fun e J S y A s' B F b d u=>?_);cases e with
 |exit j=>
  simp only[kx]at u;simp only[Exit.inBlock];split
  .rename_i D;rw[am D]at u;exact⟨y,A,s',B,F,b,d,u⟩
  .rename_i D;rw[be D]at u;exact⟨y,A,s',B,F,b,d,u⟩
 |_=>exact⟨y,A,s',B,F,b,d,u⟩
theorem iL{id:Nat}{ops:Array Oper}(h:GX P nt (.ops ops.toList ops.toList::k) Q s X):GX P nt (.code (.region id ops lc)::k) Q s X:=by
 intro M N a w b d;refine wp_region_list ?_;have:=h M N a w b d;simpa using this
theorem fb{all:List Oper}(h:GX P nt k Q s X):GX P nt (.ops all []::k) Q s X:=fun _ _ _ _ b d=>wpList_nil (pK.now b d h)
theorem Gc{c:Operand}{x y:Code}{t:Bool}(hc:ev s.f c= .kb t)(h:GX P nt (.code (bif t then x else y)::k) Q s X):GX P nt (.code (.cond c x y)::k) Q s X:=by
 intro M N a w b d;have hb:a.eval c= .bool t:=by
  have:=aZ b.2.1 c;rw[hc]at this;generalize a.eval c=v at this;cases this;rfl
 refine wp_cond hb ?_;cases t
 .exact h M N a w b d
 .exact h M N a w b d
theorem dB{c:Operand}{x y:Code}{t:Bool}(hc:ev s.f c= .iv (.v (.bool t)))(h1:t=kw->GX P nt (.code x::k) Q s X)(h2:t=lc->GX P nt (.code y::k) Q s X):
  GX P nt (.code (.cond c x y)::k) Q s X:=by
 intro M N a w b j;refine wp_cond_split (b.bool hc) (fun d=>?_) (fun d=>?_)
 .exact h1 d M N a w b j
 .exact h2 d M N a w b j
theorem B5{o:Oper}{a:Act}{w:World}{K K':Act->World->Prop}{Q d:Exit->Act->World->Prop}(h: ∀a w,K a w->K' a w)(j: ∀e a w,e≠ .normal->Q e a w->d e a w)(hh:o.wp P a w K Q):o.wp P a w K' d:=by
 have u:LetsOut Q->LetsOut d:=fun⟨a,w,x⟩=>⟨a,w,j _ _ _ (by simp) x⟩
 unfold Oper.wp at*
 generalize(execOp a.eval o).run P w=r at*
 cases r with
 |ok n w'=>
  cases n<;>simp only[Oper.upon]at hh ⊢ <;>
   first
    |exact h _ _ hh
    |exact Calls.mono hh (fun e y b=>by cases e<;>first|exact h _ _ b|exact u b|exact j _ _ _ (by simp) b)
    |exact Rows.mono hh (fun _ _ b=>h _ _ b)
 |halt x w'=>cases x<;>simp only[Oper.upon]at hh ⊢ <;>exact j _ _ _ (by simp) hh
theorem sx{ops:Array Oper}{j u:Exit->Act->World->Prop}(d:List Oper)(h2: ∀a w,j .normal a w->wpList P ops u d a w)(b: ∀e a w,e≠ .normal->j e a w->u e a w): ∀(l:List Oper) (a:Act) (w:World),wpList P ops j l a w->wpList P ops u (l++d) a w
 | [],a,w,h=>h2 _ _ h
 |o::r,a,w,h=>by
  rw[aaC];rw[wpList]at h ⊢;split
  .rename_i x;rw[am x]at h;exact h.imp (B5 (sx d h2 b r) b) (fun⟨h3,a1,w1,h4⟩=>⟨h3,a1,w1,b _ _ _ (by simp) h4⟩)
  .rename_i x;rw[be x]at h;exact sx d h2 b r _ _ h
theorem Jj{all I d:List Oper}(h:GO P nt [.ops all I] (fun e u=>kx P nt (.ops all d::k) Q e u X) s):GX P nt (.ops all (I++d)::k) Q s X:=by
 intro M N a w hf S;refine sx d (fun y J D=>?_) (fun e y J Y D=>?_) I a w (h M N a w hf)
 .obtain⟨j,x,s',G,b,F⟩:=D;obtain⟨A,B⟩:=iW.frame G S;have:=F j x y J b B;exact gP (fun _ _ _=>pK.later A) d y J this
 .obtain⟨j,x,s',G,b,F⟩:=D;obtain⟨A,B⟩:=iW.frame G S;refine⟨j,x,s',X,A,b,B,?_⟩;cases e with
  |normal=>exact absurd Z Y
  |_=>exact F
theorem dV.drew{M:Mem}{N:Nm}{n:Nat}{h:AH}{X:bd}{w:World}(hs:dV M N n h X w):dV M N n h X {w with drawn:=w.drawn+1}:=
 ⟨hs.real,fun b o e hb=>OR.move (G:=fun _=>True) (.refl _) (AO.all_true o) (fun _ _ _ d=>d) Z Z Z (hs.obj b o e hb),hs.fi,hs.apart,hs.out⟩
theorem iW.drew{M:Mem}{N:Nm}{n:Nat}{h:AH}{X:bd}{w:World}:iW M N n h X w M N n h X {w with drawn:=w.drawn+1}:=
 ⟨rfl,rfl,rfl,Y7 _,fun _ _ _=>rfl,.refl _,fun b c d j=>by simp[d]at j,.refl _ _,Y7 _,fun _ h=> .inr h⟩
theorem bE{all rest:List Oper}(m:Nat)(h:GO P nt [.ops all (rest.take m)] (fun e u=>kx P nt (.ops all (rest.drop m)::k) Q e u X) s):GX P nt (.ops all rest::k) Q s X:=by
 have:=Jj h;rwa[abe]at this
def SX(nt:Nat)(s:AS)(X:bd)(T:AS->bd->Prop):Prop:= ∀M N a w,Fits M N s nt a w->dV M N s.nx s.h X w->
 ∃b d t Y,iW M N s.nx s.h X w b d t.nx t.h Y w∧Fits b d t nt a w∧dV b d t.nx t.h Y w∧T t Y
theorem Eu{c:Code}{T:AS->bd->Prop}(h:SX nt s X T)(J: ∀t Y,T t Y->GX P nt (.code c::k) Q t Y):GX P nt (.code c::k) Q s X:=by
 intro M N a w I S;obtain⟨M',N',t,Y,B,D,F,G⟩:=h M N a w I S;exact AX.then (J t Y G) D F fun e a2 w2 x y s2 A u b j d=>⟨x,y,s2,A,B.trans u,b,j,d⟩
theorem eF{all rest:List Oper}{T:AS->bd->Prop}(h:SX nt s X T)(B: ∀t Y,T t Y->GX P nt (.ops all rest::k) Q t Y):GX P nt (.ops all rest::k) Q s X:=by
 intro M N a w A D;obtain⟨b,d,t,Y,j,u,x,y⟩:=h M N a w A D;exact gP (fun _ _ _=>pK.later j) rest a w (B t Y y b d a w u x)
theorem SC{L:List Nat}{t:AS}(hw:Wk s.nx L s t):SX nt s X (fun x Y=>x=t∧Y=X):=by
 intro M N a w j u;obtain⟨b,d⟩:=iW.frame (hw.ext (.refl M N (· <s.nx) s.h w)) u;exact⟨M,_,t,X,b,hw.fits j,d,rfl,rfl⟩
theorem WB{body:Code}{σ:Type 1}(I:σ->AS)(J:σ->bd)(μ:σ->Nat)(i0:σ)(L0:List Nat)(h0:Wk s.nx L0 s (I i0))(y:J i0=X)(j0: ∀i,(J i).still)
  (A: ∀i,GX P nt (.code body:: .lp (fun t Y=> ∃j L,μ j<μ i∧Wk s.nx L t (I j)∧Y=J j)::k) Q (I i) (J i)):GX P nt (.code (.loop body)::k) Q s X:=by
 intro G S a0 w0 d0 g0
 let K:Act->World->Nat->Prop:=fun a w n=> ∃i M N,μ i=n∧iW G S s.nx s.h X w0 M N (I i).nx (I i).h (J i) w∧Fits M N (I i) nt a w∧dV M N (I i).nx (I i).h (J i) w
 have c0:K a0 w0 (μ i0):=by
  obtain⟨h1,h2⟩:=iW.frame (h0.ext (.refl G S (· <s.nx) s.h w0)) g0;exact⟨i0,G,S.comp (sg s.nx L0),rfl,by rw[y];exact h1,h0.fits d0,by rw[y];exact h2⟩
 refine wp_loop (fun a w=> ∃n,K a w n) (fun a w=>by classical exact if h: ∃n,K a w n then abw (dG h) else 0) ⟨_,c0⟩ fun a w b0=>?_;obtain⟨⟨i,M,N,x,hx,hf,hs⟩,e0⟩:=aa0 (dG b0);refine AX.then (A i) hf hs fun e a' w' M' N' s' X' D B u hr=>?_
 cases e with
 |normal=>
  obtain⟨j,L,hj,F,hY⟩:=hr
  have y:K a' w' (μ j):=⟨j,M',N'.comp (sg s.nx L),rfl,by
   have d:=hx.trans D;rw[hY]at d u;refine⟨d.os,d.tape,d.output,d.size,d.iT,d.r6,d.kh,⟨fun i x=>?_,fun i x=>?_⟩,by have:=F.nx;omega,fun b hb=>d.jr b ?_⟩
   .simp only[Nm.comp,gz x];exact d.nm.aK i x
   .simp only[Nm.comp,gz x];exact d.nm.ext i x
   .rcases hb with⟨i,o,h3,h4,h5⟩|hb
    .obtain⟨⟨o',g1,g2⟩,_⟩:=kG F.h i o h3;exact .inl ⟨_,o',g1,g2.real ((AO.cV _ o).trans h4),h5⟩
    .exact .inr hb,F.fits B,by
   rw[hY]at u;refine⟨u.real,u.obj,u.fi,fun b o e hb i p x f0=>?_,fun b i e hb=>?_⟩
   .obtain⟨⟨o',g1,g2⟩,_⟩:=kG F.h i p x;exact u.apart b o e hb _ o' g1 (g2.real ((AO.cV _ p).trans f0))
   .exact absurd hb (j0 j b i e)⟩
  refine⟨⟨_,y⟩,?_⟩;simp only[dif_pos b0,dif_pos (⟨_,y⟩: ∃n,K a' w' n)];rw[<-x];exact acb ((aa0 (dG (⟨_,y⟩: ∃n,K a' w' n))).2 _ y) hj
 |_=>exact⟨M',N',s',X',hx.trans D,B,u,hr⟩
theorem Kd{b e d:Nat}{o:AO}{p:PV}(hX:X b=io (.obj o e))(hp: ∀(M:Mem) (N:Nm) (U:Nat->Prop) (x:Value),U s.nx->N.aK s.nx=b->N.ext s.nx=e->VR M N U (s.f.get d) x->VR M N U p x):
  SX nt s X (fun t Y=>t=⟨(d,p)::s.f,(s.nx,io o)::s.h,s.nx+1⟩∧Y=X.put b (.out s.nx e)):=by
 intro M N a w hf hs;obtain⟨f,h,n⟩:=s
 let N':Nm:=⟨fun j=>if j=n then b else N.aK j,fun j=>if j=n then e else N.ext j⟩
 have A:N.agree N' (· <n):=⟨fun i F=>be (ab1 F),fun i F=>be (ab1 F)⟩
 have I:N'.aK n=b:=am Z;have a0:N'.ext n=e:=am Z;have hU: ∀i,i<n->i<n+1:=fun i F=>aaE F;have c0:=hs.real b o e hX
 have D: ∀i q,AH.get ((n,io o)::h) i=io q->(i=n∧q=o)∨(i<n∧h.get i=io q):=by
  intro i q F;rw[AH.aw]at F;split at F
  .rename_i b0;exact .inl ⟨b0,by simpa using F.symm⟩
  .exact .inr ⟨hf.1.used i q F,F⟩
 refine⟨M,N',⟨(d,p)::f,(n,io o)::h,n+1⟩,X.put b (.out n e),⟨rfl,rfl,rfl,Y7 _,fun _ _ _=>rfl,.refl _,fun c m J h2=>by simp[J]at h2,A,abK _,fun c B=> .inr ?_⟩,⟨⟨hf.1.fi,fun i q F=>?_,fun i q F hr=>?_,fun i q F=>?_,fun i j q r F hj hq hr he=>?_⟩,fun k=>?_,hf.2.2⟩,⟨fun c q g B=>?_,fun c q g B=>?_,fun c q g B=>?_,fun c q g B i r F hr=>?_,fun c i g B=>?_⟩,rfl,rfl⟩
 .rcases B with⟨i,q,J,h2,h3⟩|⟨q,g,J⟩
  .rcases D i q J with⟨rfl,rfl⟩|⟨S,h5⟩
   .rw[I]at h3;subst h3;exact .inr ⟨_,_,hX⟩
   .exact .inl ⟨i,q,h5,h2,by rw[<-h3];exact(A.aK i S).symm⟩
  .by_cases u:c=b
   .subst u;rw[bd.dx]at J;cases J
   .rw[bd.ly _ _ u]at J;exact .inr ⟨q,g,J⟩
 .rcases D i q F with⟨rfl,rfl⟩|⟨S,_⟩
  .exact aar _
  .exact hU i S
 .rcases D i q F with⟨rfl,rfl⟩|⟨S,h5⟩
  .rw[I];exact hs.fi _ _ _ hX
  .rw[A.aK i S];exact hf.1.fh i q h5 hr
 .rcases D i q F with⟨rfl,rfl⟩|⟨S,h5⟩
  .exact OR.move (G:=fun _=>True) (.refl _) (AO.all_true _) (fun p y _ hv=>hv.Hj (.refl _)) I a0 Z (hs.obj b _ e hX)
  .exact(hf.1.obj i q h5).mono (.refl _) A hU S Z
 .rcases D i q F with⟨rfl,rfl⟩|⟨S,h5⟩<;>rcases D j r hj with⟨h6,rfl⟩|⟨h6,h7⟩
  .exact h6.symm
  .rw[I,A.aK j h6]at he;exact absurd he.symm (hs.apart b _ e hX j r h7 hr)
  .subst h6;rw[I,A.aK i S]at he;exact absurd he (hs.apart b _ e hX i q h5 hq)
  .rw[A.aK i S,A.aK j h6]at he;exact hf.1.inj i j q r h5 h7 hq hr he
 .rw[AF.aw];split
  .rename_i hk;subst hk;exact hp M N' _ _ (aar _) I a0 ((hf.2.1 k).mono (.refl _) A hU)
  .exact(hf.2.1 k).mono (.refl _) A hU
 all_goals by_cases u:c=b
 .subst u;rw[bd.dx]at B;cases B
 .rw[bd.ly _ _ u]at B;exact hs.real c q g B
 .subst u;rw[bd.dx]at B;cases B
 .rw[bd.ly _ _ u]at B;exact hs.obj c q g B
 .subst u;rw[bd.dx]at B;cases B
 .rw[bd.ly _ _ u]at B;exact hs.fi c q g B
 .subst u;rw[bd.dx]at B;cases B
 .rw[bd.ly _ _ u]at B;rcases D i r F with⟨rfl,rfl⟩|⟨S,h5⟩
  .rw[I];exact fun e=>u e.symm
  .rw[A.aK i S];exact hs.apart c q g B i r h5 hr
 .subst u;rw[bd.dx]at B;cases B;exact⟨aar _,I,a0⟩
 .rw[bd.ly _ _ u]at B;obtain⟨J,h2,h3⟩:=hs.out c i g B;exact⟨hU i J,(A.aK i J).trans h2,(A.ext i J).trans h3⟩
theorem kr{b e d len cap sz:Nat}{o:AO}(hX:X b=io (.obj o e))(hd:s.f.get d= .iv (.v (.slice (io ⟨b,0,jp⟩) len cap)))(h0:0<len)(u:len<=cap)(hc:cap<=maxLen)(he:cap*sz=e):
  SX nt s X (fun t Y=>t=⟨(d,.sl s.nx 0 len sz)::s.f,(s.nx,io o)::s.h,s.nx+1⟩∧Y=X.put b (.out s.nx e)):=
 Kd hX fun M N U x hu hb hE j=>by
  rw[hd]at j;cases j with
  |iv _ _ hi=>cases hi with
   |v=>
    have:=VR.sl (M:=M) (N:=N) s.nx 0 len sz cap hu h0 u hc (by rw[hE,Zq];exact he);rw[hb,aa3]at this;exact this
theorem Is{b e d:Nat}{o:AO}(hX:X b=io (.obj o e))(hd:s.f.get d= .iv (.v (.map (io b)))):
  SX nt s X (fun t Y=>t=⟨(d,.mp s.nx)::s.f,(s.nx,io o)::s.h,s.nx+1⟩∧Y=X.put b (.out s.nx e)):=
 Kd hX fun M N U x hu hb hE j=>by
  rw[hd]at j;cases j with
  |iv _ _ hi=>cases hi with
   |v=>
    have:=VR.mp (M:=M) (N:=N) s.nx hu;rw[hb]at this;exact this
theorem Rel.drop{M:Mem}{N:Nm}{n:Nat}{h:AH}{w:World}(hr:Rel M N (· <n) h w)(i:Nat):Rel M N (· <n) ((i,jp)::h) w:=
 ⟨hr.fi,fun j o b=>hr.used j o (bF j o b).2,fun j o b d=>hr.fh j o (bF j o b).2 d,fun j o b=>hr.obj j o (bF j o b).2,fun j l o p b x y A u=>hr.inj j l o p (bF j o b).2 (bF l p x).2 y A u⟩
theorem GY{M:Mem}{N:Nm}{n:Nat}{h:AH}{w:World}(hr:Rel M N (· <n) h w)(hs:dV M N n h X w){i:Nat}{o:AO}(hi:h.get i=io o)(y:o.real=kw)(F:o.all PV.flat):
  iW M N n h X w M N n ((i,jp)::h) (X.put (N.aK i) (.obj o (N.ext i))) w∧dV M N n ((i,jp)::h) (X.put (N.aK i) (.obj o (N.ext i))) w:=by
 refine⟨⟨rfl,rfl,rfl,Y7 _,fun _ _ _=>rfl,.refl _,fun b c A B=>by simp[A]at B,.refl _ _,Y7 _,fun c u=> .inr ?_⟩,fun c q g u=>?_,fun c q g u=>?_,fun c q g u=>?_,fun c q g u j r I D=>?_,fun c j g u=>?_⟩
 .rcases u with⟨j,q,A,B,J⟩|⟨q,g,A⟩
  .exact .inl ⟨j,q,(bF j q A).2,B,J⟩
  .by_cases d:c=N.aK i
   .exact .inl ⟨i,o,hi,y,d.symm⟩
   .rw[bd.ly _ _ d]at A;exact .inr ⟨q,g,A⟩
 all_goals by_cases d:c=N.aK i
 .subst d;rw[bd.dx]at u;cases u;exact y
 .rw[bd.ly _ _ d]at u;exact hs.real c q g u
 .subst d;rw[bd.dx]at u;cases u;exact OR.move (G:=PV.flat) (N:=N) (i:=i) (.refl _) F (fun p x S Y=>Y.O0 S) Z Z Z (hr.obj i o hi)
 .rw[bd.ly _ _ d]at u;exact hs.obj c q g u
 .subst d;exact hr.fh i o hi y
 .rw[bd.ly _ _ d]at u;exact hs.fi c q g u
 .obtain⟨A,B⟩:=bF j r I;subst d;exact fun e=>A (hr.inj j i r o B hi D y e)
 .rw[bd.ly _ _ d]at u;exact hs.apart c q g u j r (bF j r I).2 D
 .subst d;rw[bd.dx]at u;cases u
 .rw[bd.ly _ _ d]at u;exact hs.out c j g u
theorem xv{b e i:Nat}{o:AO}(hX:X b=io (.out i e))(hi:s.h.get i=io o)(u:o.real=kw)(j:o.all PV.flat):
  SX nt s X (fun t Y=>t=⟨s.f,(i,jp)::s.h,s.nx⟩∧Y=X.put b (.obj o e)):=by
 intro M N a w d x;obtain⟨B,rfl,rfl⟩:=x.out b i e hX;obtain⟨y,A⟩:=GY d.1 x hi u j;exact⟨M,N,⟨s.f,(i,jp)::s.h,s.nx⟩,_,y,⟨d.1.drop i,d.2⟩,A,rfl,rfl⟩
theorem Ke{i d:Nat}{o:AO}{G:Nat->Nat->PV->Prop}(D:X.still)(hi:s.h.get i=io o)(A:o.real=kw)(B:o.all PV.flat)
  (hq: ∀(M:Mem) (N:Nm) (U:Nat->Prop) (x:Value),VR M N U (s.f.get d) x-> ∃q,G (N.aK i) (N.ext i) q∧VR M N U q x):
  SX nt s X (fun t Y=> ∃b e q,X b=jp∧G b e q∧t=⟨(d,q)::s.f,(i,jp)::s.h,s.nx⟩∧Y=X.put b (.obj o e)):=by
 intro M N a w u F;obtain⟨I,J⟩:=GY u.1 F hi A B;obtain⟨q,S,h5⟩:=hq M N _ _ (u.2.1 d);refine⟨M,N,⟨(d,q)::s.f,(i,jp)::s.h,s.nx⟩,_,I,⟨u.1.drop i,fun k=>?_,u.2.2⟩,J,N.aK i,N.ext i,q,?_,S,rfl,rfl⟩
 .rw[AF.aw];split
  .rename_i hk;subst hk;exact h5
  .exact u.2.1 k
 .cases hx:X (N.aK i) with
  |none=>rfl
  |some y=>
   cases y with
   |obj p g=>exact absurd Z (F.apart _ p g hx i o hi A)
   |out j g=>exact absurd hx (D _ _ _)
theorem re{i d len sz:Nat}{o:AO}(y:X.still)(hi:s.h.get i=io o)(u:o.real=kw)(j:o.all PV.flat)(hd:s.f.get d= .sl i 0 len sz)(h0:0<len):
  SX nt s X (fun t Y=> ∃b e a0,X b=jp∧len<=a0∧a0<=maxLen∧a0*sz=e∧t=⟨(d,.iv (.v (.slice (io ⟨b,0,jp⟩) len a0)))::s.f,(i,jp)::s.h,s.nx⟩∧Y=X.put b (.obj o e)):=by
 intro M N a w hf hs
 obtain⟨B,D,t,Y,F,I,J,b,e,q,S,⟨a0,h5,h6,h7,rfl⟩,h8,h9⟩:=Ke (G:=fun b e q=> ∃a0,len<=a0∧a0<=maxLen∧a0*sz=e∧q= .iv (.v (.slice (io ⟨b,0,jp⟩) len a0))) (d:=d) y hi u j (fun M N U x A=>by
  rw[hd]at A;cases A with
  |sl _ _ _ _ a0 hu h0 hl hc he=>exact⟨_,⟨a0,hl,hc,by rw[Zq]at he;exact he,rfl⟩,by rw[aa3];exact .iv _ _ (.v _)⟩
  |pV=>exact absurd h0 (abV _)) M N a w hf hs
 exact⟨B,D,t,Y,F,I,J,b,e,a0,S,h5,h6,h7,h8,h9⟩
theorem It{i d:Nat}{o:AO}(y:X.still)(hi:s.h.get i=io o)(u:o.real=kw)(j:o.all PV.flat)(hd:s.f.get d= .mp i):
  SX nt s X (fun t Y=> ∃b e,X b=jp∧t=⟨(d,.iv (.v (.map (io b))))::s.f,(i,jp)::s.h,s.nx⟩∧Y=X.put b (.obj o e)):=by
 intro M N a w hf hs
 obtain⟨B,D,t,Y,F,I,J,b,e,q,S,rfl,h8,h9⟩:=Ke (G:=fun b e q=>q= .iv (.v (.map (io b)))) (d:=d) y hi u j (fun M N U x A=>by
  rw[hd]at A;cases A with
  |mp _ hu=>exact⟨_,rfl,.iv _ _ (.v _)⟩) M N a w hf hs
 exact⟨B,D,t,Y,F,I,J,b,e,S,h8,h9⟩
inductive Up (X:bd):Value->IV->Prop
 | row (b len cap sz e:Nat) (es:List (List PV)) (el:Nat->List IV) (hX:X b=io (.obj (.row sz es) e)) (hn:len=es.length) (hl:len<=cap) (hc:cap<=maxLen) (hel: ∀k e,es[k]? =io e->e=(el k).map .iv):
   Up X (.slice (io ⟨b,0,jp⟩) len cap) (.dh sz len el)
 |map {V:Type} (b e:Nat) (kc:KC) (ev:V->IV) (z:V) (zv:Value) (dv:PV->V) (m:List (kc.K×V)) (hX:X b=io (.obj (.map kc ev z zv dv m) e)):Up X (.map (io b)) (.eE kc ev z zv m)
 |gK {V:Type} (b e:Nat) (kc:KC) (ev:V->IV) (z:V) (zv:Value) (hX:X b=io (.obj .gK e)) (hz: ∀M,IR M (ev z) zv):Up X (.map (io b)) (.eE kc ev z zv [])
 |Wl (y:Value):Up X y (.v y)
 |nil (sz:Nat) (el:Nat->List IV) (a:Option Addr) (cap:Nat):Up X (.slice a 0 cap) (.dh sz 0 el)
theorem Kv{M:Mem}{N:Nm}{n:Nat}{h:AH}{w:World}(hr:Rel M N (· <n) h w)(hs:dV M N n h X w):
  ∃u:Mem,M.le u∧iW M N n h X w u N n h bd.nil w∧Rel u N (· <n) h w∧ ∀y p,Up X y p->IR u p y:=by
 let u:Mem:=⟨fun b=>match X b with
  |some (.obj _ _)=>(match w.heap[b]? with|some (.cells c _ _)=>io (.cells c)|some (.map es G)=>io (.map es G)|_=>jp)
  |_=>M.fn b,fun b c hb=>by
   have:=M.Qw b c hb;cases d:X b with
   |none=>simpa using this
   |some y=>cases y with
    |obj o e=>exact absurd (this.symm.trans (hs.fi b o e d)) (by simp)
    |out i e=>simpa using this⟩
 have x: ∀b,(∀o e,X b≠io (.obj o e))->u b=M b:=fun b hb=>by
  show(match X b with|some (.obj _ _)=>_|_=>M.fn b)=M.fn b;cases d:X b with
  |none=>rfl
  |some y=>cases y with
   |obj o e=>exact absurd d (hb o e)
   |out i e=>rfl
 have D: ∀b o e,X b=io (.obj o e)->u b=(match w.heap[b]? with|some (.cells c _ _)=>io (MB.cells c)|some (.map es G)=>io (MB.map es G)|_=>jp):=fun b o e hb=>by
  show(match X b with|some (.obj _ _)=>_|_=>M.fn b)=_;rw[hb]
 have A:M.le u:=fun b c hb=>by
  rw[x b fun o e d=>absurd (hb.symm.trans (hs.fi b o e d)) (by simp)];exact hb
 refine⟨u,A,⟨rfl,rfl,rfl,Y7 _,fun _ _ _=>rfl,A,fun b c S F=>?_,.refl _ _,Y7 _,fun c I=> .inr ?_⟩,⟨fun b c hb=>?_,hr.used,fun i o hi c0=>?_,fun i o hi=>(hr.obj i o hi).mono A (.refl _ _) (fun _ h=>h) (hr.used i o hi) Z,hr.inj⟩,fun y p hu=>?_⟩
 .cases d:X b with
  |none=>rw[x b (by simp[d]),S]at F;cases F
  |some y=>cases y with
   |obj o e=>exact .inr (.inr ⟨o,e,d⟩)
   |out i e=>rw[x b (by simp[d]),S]at F;cases F
 .rcases I with I|⟨o,e,I⟩
  .exact .inl I
  .cases I
 .cases d:X b with
  |none=>rw[x b (by simp[d])]at hb;exact hr.fi b c hb
  |some y=>cases y with
   |out i e=>rw[x b (by simp[d])]at hb;exact hr.fi b c hb
   |obj o e=>
    rw[D b o e d]at hb;split at hb
    .rename_i hh;cases hb;exact⟨_,_,hh⟩
    .rename_i hh;cases hb;exact hh
    .cases hb
 .rw[x _ fun q e d=>hs.apart _ q e d i o hi c0 Z];exact hr.fh i o hi c0
 .cases hu with
  |Wl=>exact .v _
  |nil=>exact .ki _ _ _ _
  |gK b e kc ev z zv hX hz=>
   have S:=hs.obj b _ e hX;have F:u b=io (.map #[] 0):=by rw[D b _ e hX];rw[show w.heap[b]? =io (.map #[] 0) from S]
   exact .eE _ _ _ _ _ b #[] 0 F Z (by simp) (by simp) (hz u) (by simp) (by simp)
  |map b e kc ev z zv dv m hX=>
   obtain⟨ents,G,S,F,h3⟩:=hs.obj b _ e hX;have h4:u b=io (.map ents G):=by rw[D b _ e hX];rw[show w.heap[b]? =io (.map ents G) from S]
   have h5:=F.mono A;exact .eE _ _ _ _ _ b ents G h4 h5.size h5.key h5.val (h3.mono A) h5.inj h5.lt
  |row b len cap sz e es el hX hn hl I hel=>
   rcases hs.obj b _ e hX with h0|⟨h0,c,T,g1,g2,g3,g4,g5⟩
   .have:=hs.real b _ e hX;rw[h0]at this;cases this
   have h4:u b=io (.cells c):=by rw[D b _ e hX];rw[show w.heap[b]? =io (.cells c T (0,0)) from g1]
   have B: ∀o,u.cell b o=c[o]? :=fun o=>by simp only[Mem.cell,h4]
   have b0: ∀k,k<len-> ∃e,es[k]? =io e:=fun k J=>⟨_,Y3 (by omega)⟩
   have d0: ∀k j,k<len->j<sz->k*sz+j<c.size:=fun k j J hj=>by
    have:(k+1)*sz<=es.length*sz:=Zy _ (by omega);rw[aaf]at this;omega
   refine .dh _ _ _ _ _ _ hl I (fun k J=>?_) (fun k j J hj=>?_) (fun k j p J hp=>?_)
   .obtain⟨e,Y⟩:=b0 k J;have:=g4 _ e Y;rw[hel _ e Y]at this;simpa using this
   .rw[B,Zq];simp[d0 k j J hj]
   .obtain⟨e,Y⟩:=b0 k J;have h9:=g4 _ e Y;have a0:=hel _ e Y;have hj:j<sz:=by rw[<-h9,a0,Zx];exact(Y4.1 hp).1
    have:=g5 _ e j (.iv p) Y (by rw[a0,Y9,hp];rfl);rw[B,Zq];rw[Y0]at this;cases this with
    |iv _ _ h=>exact h.mono A
def Up1(X:bd)(p p':PV):Prop:=p'=p∨ ∃y q,p= .iv (.v y)∧p'= .iv q∧Up X y q
inductive Nv (X:bd):AO->AO->Prop
 | row (sz:Nat) (es es':List (List PV)) (hl:es'.length=es.length) (h: ∀(k:Nat) (e':List PV),es'[k]? =io e'-> ∃e,es[k]? =io e∧e'.length=e.length∧ ∀(j:Nat) (p':PV),e'[j]? =io p'-> ∃p,e[j]? =io p∧Up1 X p p'):
   Nv X (.row sz es) (.row sz es')
 | map {V V':Type} (kc:KC) (ev:V->IV) (z:V) (zv:Value) (dv:PV->V) (m:List (kc.K×V)) (ev':V'->IV) (z':V') (dv':PV->V') (m':List (kc.K×V')) (hl:m'.length=m.length)
   (h: ∀(j:Nat) (x':kc.K×V'),m'[j]? =io x'-> ∃x y,m[j]? =io x∧x'.1=x.1∧ev x.2= .v y∧Up X y (ev' x'.2)) (hz: ∀M,IR M (ev' z') zv):Nv X (.map kc ev z zv dv m) (.map kc ev' z' zv dv' m')
theorem Nv.or{M A:Mem}{N:Nm}{U:Nat->Prop}{w:World}{i:Nat}{o o':AO}(J:M.le A)(hu: ∀y p,Up X y p->IR A p y)(h:Nv X o o')(ho:OR M N U w i o):OR A N U w i o':=by
 have hv: ∀p D x,Up1 X p D->VR M N U p x->VR A N U D x:=by
  rintro p D x (rfl|⟨y,q,rfl,rfl,B⟩) hx
  .exact hx.mono J (.refl _ _) (fun _ h=>h)
  .cases hx with
   |iv _ _ hi=>cases hi with
    |v=>exact .iv _ _ (hu _ _ B)
 cases h with
 |row sz es es' hl h=>
  rcases ho with rfl|⟨h0,c,T,g1,g2,g3,g4,g5⟩
  .left;exact abl.1 hl
  .refine .inr ⟨h0,c,T,g1,g2,by rw[hl];exact g3,fun k F d=>?_,fun k F j D d S=>?_⟩
   .obtain⟨e,b,G,_⟩:=h k F d;rw[G];exact g4 k e b
   .obtain⟨e,b,_,B⟩:=h k F d;obtain⟨p,I,h5⟩:=B j D S;exact hv _ _ _ h5 (g5 k e j p b I)
 |map kc ev z zv dv m ev' z' dv' m' hl h hz=>
  obtain⟨ents,cl,g1,g2,g3⟩:=ho;refine⟨ents,cl,g1,⟨g2.size.trans hl.symm,fun j Y u=>?_,fun j Y u=>?_,g2.inj,g2.lt⟩,hz A⟩
  .obtain⟨x,y,b,G,_⟩:=h j Y u;rw[G];exact g2.key j x b
  .obtain⟨x,y,b,_,B,I⟩:=h j Y u;have:=g2.val j x b;rw[B]at this;generalize(ents.getD j em).val=v at this ⊢;cases this with
   |v=>exact hu _ _ I
theorem Nv.real{o o':AO}(h:Nv X o o'):o'.real=o.real:=by
 cases h with
 |row sz es es' hl h=>cases es<;>cases es'<;>first|rfl|simp at hl
 |map=>rfl
theorem BF{i:Nat}{o o':AO}(hi:s.h.get i=io o)(hu:Nv X o o'):SX nt s X (fun t Y=>t=⟨s.f,(i,io o')::s.h,s.nx⟩∧Y=bd.nil):=by
 intro M N a w A hs;obtain⟨I,G,y,B,J⟩:=Kv A.1 hs;have d: ∀j q,AH.get ((i,io o')::s.h) j=io q-> ∃x,s.h.get j=io x∧q.real=x.real∧(q=x∨(j=i∧q=o')):=by
  intro j q u;rw[AH.aw]at u;split at u
  .rename_i D;subst D;cases u;exact⟨o,hi,hu.real,.inr ⟨rfl,rfl⟩⟩
  .exact⟨q,u,rfl,.inl Z⟩
 refine⟨I,N,⟨s.f,(i,io o')::s.h,s.nx⟩,bd.nil,?_,⟨⟨B.fi,fun j q u=>?_,fun j q u F=>?_,fun j q u=>?_,fun j k q r u hk hq F S=>?_⟩,fun k=>(A.2.1 k).mono G (.refl _ _) (fun _ h=>h),A.2.2⟩,.nil ..,rfl,rfl⟩
 .exact⟨y.os,y.tape,y.output,y.size,y.iT,y.r6,y.kh,y.nm,y.ule,fun b hb=> .inr<|by
   rcases hb with⟨j,q,g1,g2,g3⟩|⟨q,g,g1⟩
   .obtain⟨x,g4,g5,_⟩:=d j q g1;exact .inl ⟨j,x,g4,g5▸g2,g3⟩
   .cases g1⟩
 .obtain⟨x,g4,_⟩:=d j q u;exact A.1.used j x g4
 .obtain⟨x,g4,g5,_⟩:=d j q u;exact B.fh j x g4 (g5▸F)
 .obtain⟨x,g4,_,rfl|⟨rfl,rfl⟩⟩:=d j q u
  .exact B.obj j _ g4
  .exact hu.or G J (A.1.obj j o hi)
 .obtain⟨x,g4,g5,_⟩:=d j q u;obtain⟨r',g6,g7,_⟩:=d k r hk;exact A.1.inj j k x r' g4 g6 (g5▸hq) (g7▸F) S
end
section
variable {P:Program}
section
variable {nt:Nat} {Q:XQ} {k0:List XI} {s:AS} {X:bd}
theorem GN{t:AS}(hh:t.h=s.h)(hn:t.nx=s.nx)(h: ∀M N a w,Fits M N s nt a w->dV M N s.nx s.h X w->FR M N (· <s.nx) t.f a.tmps):SX nt s X (fun j Y=>j=t∧Y=X):=by
 intro M N a w b d;obtain⟨f,u,n⟩:=t;simp only at hh hn;subst hh;subst hn;exact⟨M,N,⟨f,s.h,s.nx⟩,X,.refl _ _ _ _ _ _,⟨b.1,h M N a w b d,b.2.2⟩,d,rfl,rfl⟩
theorem SE{d:Nat}{p:PV}(b:aL (s.f.get d) p):SX nt s X (fun t Y=>t=⟨(d,p)::s.f,s.h,s.nx⟩∧Y=X):=
 GN Z Z fun M N a w j _ k=>by
  rw[AF.aw];split
  .rename_i u;subst u;exact b M N _ _ (j.2.1 k)
  .exact j.2.1 k
theorem Kf{b j e d:Nat}{p:PV}(hX:X b=io (.out j e))(hp: ∀(M:Mem) (N:Nm) (U:Nat->Prop) (x:Value),U j->N.aK j=b->N.ext j=e->VR M N U (s.f.get d) x->VR M N U p x):
  SX nt s X (fun t Y=>t=⟨(d,p)::s.f,s.h,s.nx⟩∧Y=X):=
 GN Z Z fun M N a w u F k=>by
  obtain⟨y,A,B⟩:=F.out b j e hX;rw[AF.aw];split
  .rename_i D;subst D;exact hp M N _ _ y A B (u.2.1 k)
  .exact u.2.1 k
theorem FH{M:Mem}{N:Nm}{n:Nat}{h:AH}{w:World}(hr:Rel M N (· <n) h w){i:Nat}{o o':AO}(hi:h.get i=io o)(A:o'.real=kw->o.real=kw)(ho:OR M N (· <n) w i o'):Rel M N (· <n) ((i,io o')::h) w:=by
 have b: ∀j q,AH.get ((i,io o')::h) j=io q->(j=i∧q=o')∨(j≠i∧h.get j=io q):=by
  intro j q u;rw[AH.aw]at u;split at u
  .rename_i y;exact .inl ⟨y,by simpa using u.symm⟩
  .rename_i y;exact .inr ⟨y,u⟩
 refine⟨hr.fi,fun j q u=>?_,fun j q u d=>?_,fun j q u=>?_,fun j k q r u G F d D=>?_⟩
 .rcases b j q u with⟨rfl,rfl⟩|⟨_,x⟩
  .exact hr.used j o hi
  .exact hr.used j q x
 .rcases b j q u with⟨rfl,rfl⟩|⟨_,x⟩
  .exact hr.fh j o hi (A d)
  .exact hr.fh j q x d
 .rcases b j q u with⟨rfl,rfl⟩|⟨_,x⟩
  .exact ho
  .exact hr.obj j q x
 .rcases b j q u with⟨rfl,rfl⟩|⟨g1,x⟩<;>rcases b k r G with⟨g2,B⟩|⟨g2,B⟩
  .exact g2.symm
  .exact hr.inj j k o r hi B (A F) d D
  .subst g2;subst B;exact hr.inj j k q o x hi F (A d) D
  .exact hr.inj j k q r x B F d D
theorem TN{i:Nat}{o o':AO}(hi:s.h.get i=io o)(A:o'.real=kw->o.real=kw)(ho: ∀M N w,dV M N s.nx s.h X w->OR M N (· <s.nx) w i o->OR M N (· <s.nx) w i o'):
  SX nt s X (fun t Y=>t=⟨s.f,(i,io o')::s.h,s.nx⟩∧Y=X):=by
 intro M N a w G x;have d: ∀j q,AH.get ((i,io o')::s.h) j=io q->q.real=kw-> ∃y,s.h.get j=io y∧y.real=kw:=by
  intro j q u B;rw[AH.aw]at u;split at u
  .rename_i I;subst I;cases u;exact⟨o,hi,A B⟩
  .exact⟨q,u,B⟩
 refine⟨M,N,⟨s.f,(i,io o')::s.h,s.nx⟩,X,⟨rfl,rfl,rfl,Y7 _,fun _ _ _=>rfl,.refl _,fun b c D F=>by simp[D]at F,.refl _ _,Y7 _,fun b hb=> .inr ?_⟩,
  ⟨FH G.1 hi A (ho M N w x (G.1.obj i o hi)),G.2⟩,⟨x.real,x.obj,x.fi,fun b p e hb j q u B=>?_,x.out⟩,rfl,rfl⟩
 .rcases hb with⟨j,q,D,F,J⟩|hb
  .obtain⟨y,g1,g2⟩:=d j q D F;exact .inl ⟨j,y,g1,g2,J⟩
  .exact .inr hb
 .obtain⟨y,g1,g2⟩:=d j q u B;exact x.apart b p e hb j y g1 g2
theorem xu{i:Nat}{o o':AO}(hi:s.h.get i=io o)(b:gi o o'):SX nt s X (fun t Y=>t=⟨s.f,(i,io o')::s.h,s.nx⟩∧Y=X):=
 TN hi b.1 fun M N w _ h=>b.2 M N _ w i h
end
end
section
variable {P:Program} {nt:Nat} {Q:XQ} {k0:List XI} {s:AS} {X:bd} {ty:Ty}
theorem F8{c:Code}{R j:AS->bd->Prop}(h: ∀t Y,R t Y->j t Y)(hg:GX P nt (.code c:: .lp R::k0) Q s X):GX P nt (.code c:: .lp j::k0) Q s X:=by
 intro M N a w B D;refine AX.then hg B D fun e G I x y s' A F b d u=>⟨x,y,s',A,F,b,d,?_⟩
 cases e with
 |normal=>exact h _ _ u
 |_=>exact u
theorem j5{body:Code}{σ:Type 1}(i0 n:Nat)(u:i0<=n)(I:Nat->σ->AS)(J:Nat->σ->bd->Prop)(A:σ)(B:List Nat)(G:J i0 A X)(h0:Wk s.nx B s (I i0 A))(y: ∀i x Y,J i x Y->Y.still)
  (b: ∀i x Y,i<=n->J i x Y->GX P nt (.code body:: .lp (fun t j=>i<n∧ ∃d L,J (i+1) d j∧Wk s.nx L t (I (i+1) d))::k0) Q (I i x) Y):GX P nt (.code (.loop body)::k0) Q s X:=by
 refine WB (σ:={p:Nat×σ×bd//p.1<=n∧J p.1 p.2.1 p.2.2}) (fun p=>I p.1.1 p.1.2.1) (fun p=>p.1.2.2) (fun p=>n-p.1.1) ⟨(i0,A,X),u,G⟩ B h0 Z (fun p=>y _ _ _ p.2.2) fun p=>?_;obtain⟨⟨i,x,Y⟩,D,F⟩:=p;refine F8 ?_ (b i x Y D F)
 rintro t j ⟨h3,d,L,h4,h5⟩;exact⟨⟨(i+1,d,j),h3,h4⟩,L,by show n-(i+1)<n-i;omega,h5,rfl⟩
end
section
variable {P:Program} {nt:Nat} {Q:XQ} {k:List XI} {s:AS} {X:bd}
def Xx(P:Program)(nt:Nat)(k:List XI)(Q:XQ)(X:bd)(n0:Nat)(t:AS):AQ:=fun e u=>(e= .normal∧ ∃L,Wk n0 L u t)∨(e≠ .normal∧kx P nt k Q e u X)
theorem fJ{n0:Nat}{t u:AS}(L:List Nat)(h:Wk n0 L u t):Xx P nt k Q X n0 t .normal u:= .inl ⟨rfl,L,h⟩
theorem fS{c:Code}(t:AS)(h1:GO P nt [.code c] (Xx P nt k Q X s.nx t) s)(h2:GX P nt k Q t X):GX P nt (.code c::k) Q s X:=by
 intro M N a w D x;refine AW.then h1 D fun e F G j B u A b d=>?_;rcases d with⟨rfl,L,y⟩|⟨_,d⟩
 .obtain⟨g1,g2⟩:=iW.frame (y.ext A) x;exact⟨j,_,t,X,g1,y.fits b,g2,h2⟩
 .obtain⟨g1,g2⟩:=iW.frame A x;exact⟨j,B,u,X,g1,b,g2,d⟩
theorem yn{c:Code}(n:Nat)(t:AS)(A:c=Kx (tQ n c) (pj n c))(h1:GO P nt ((tQ n c).map KI.code) (Xx P nt k Q X s.nx t) s)(h2:GX P nt (.code (pj n c)::k) Q t X):GX P nt (.code c::k) Q s X:=by
 intro M N a w hf hs;rw[A];have key: ∀(l:List Code) (u:AS) D G J B,Ext M N (· <s.nx) s.h w D G (· <u.nx) u.h B->Fits D G u nt J B->
   kp P nt (l.map KI.code) (Xx P nt k Q X s.nx t) .normal u->(Kx l (pj n c)).wp P (pK nt M N s X w (kx P nt k Q)) J B:=by
  intro l
  induction l with
  |nil=>
   intro u D G J B S y hk;rcases hk with⟨_,L,hw⟩|⟨he,_⟩
   .obtain⟨g1,g2⟩:=iW.frame (hw.ext S) hs;exact AX.then h2 (hw.fits y) g2 fun e a2 w2 F I Y X2 x b a0 j=>⟨F,I,Y,X2,g1.trans x,b,a0,j⟩
   .exact absurd Z he
  |cons d l ih=>
   intro u D G J B S y hk;refine wp_seq (AW.then hk y fun e a2 w2 F I Y x b j=>?_);cases e with
   |normal=>exact ih Y F I a2 w2 (S.trans x) b j
   |_=>
    rcases Cc (l:=l) (by simp) j with⟨he,_⟩|⟨_,hq⟩
    .cases he
    .obtain⟨g1,g2⟩:=iW.frame (S.trans x) hs;exact⟨F,I,Y,X,g1,b,g2,hq⟩
 exact key _ s M N a w (.refl _ _ _ _ _) hf h1
def bd.drop(X:bd)(b:Nat):bd:=fun c=>if c=b then jp else X c
theorem Iu(b:Nat):SX nt s X (fun t Y=>t=s∧Y=X.drop b):=by
 intro M N a w B u;have h: ∀c y,X.drop b c=io y->X c=io y:=fun c y j=>by
  unfold bd.drop at j;split at j
  .cases j
  .exact j
 refine⟨M,N,s,X.drop b,⟨rfl,rfl,rfl,Y7 _,fun _ _ _=>rfl,.refl _,fun c d x A=>by simp[x]at A,.refl _ _,Y7 _,fun c j=> .inr ?_⟩,B,⟨fun c o e j=>u.real c o e (h c _ j),fun c o e j=>u.obj c o e (h c _ j),fun c o e j=>u.fi c o e (h c _ j),fun c o e j=>u.apart c o e (h c _ j),fun c i e j=>u.out c i e (h c _ j)⟩,rfl,rfl⟩;rcases j with j|⟨o,e,j⟩
 .exact .inl j
 .exact .inr ⟨o,e,h c _ j⟩
end
structure BX where
 M:Mem
 N:Nm
 n:Nat
 h:AH
 X:bd
 w:World
def Xj(nt:Nat)(B:BX)(R:XQ):Exit->Act->World->Prop:=fun e x u=>
 ∃b d s' j,iW B.M B.N B.n B.h B.X B.w b d s'.nx s'.h j u∧Fits b d s' nt x u∧dV b d s'.nx s'.h j u∧R e s' j
def CV(P:Program)(nt:Nat)(all:List Oper)(todo pend:List (Nat×Oper))(R:XQ)(s:AS)(X:bd):Prop:=
 Region.noSelect all.toArray=kw->iu 0 all=kw->kf P nt all->(∀x∈todo,aS x.2=lc)-> ∀(B:BX) (b:Bs) M N listed a w fuel,iW B.M B.N B.n B.h B.X B.w M N s.nx s.h X w->dV M N s.nx s.h X w->
  oM P nt all todo pend b M N s listed a w->listed.toList.count lc<=fuel->wpAny P .any all.toArray (Xj nt B R) fuel listed a w
section
variable {P:Program} {ty:Ty} {nt:Nat} {all:List Oper} {todo pend:List (Nat×Oper)} {Q R:XQ} {k:List XI} {s:AS} {X:bd}
theorem HW(h:R .normal s X):CV P nt all [] pend R s X:=by
 intro A hd x Y B B0 M N listed a w b hB I
 induction b generalizing listed a with
 |zero=>
  intro j S;have d: ∀i,listed.getD i kw=kw:=fun i=>by
   cases hx:listed.getD i kw with
   |true=>rfl
   |false=>have:=oE hx;omega
  exact⟨xW d,M,N,s,X,hB,j.done d,I,h⟩
 |succ b ih=>
  intro j S;refine⟨fun hr=>⟨M,N,s,X,hB,j.done (mu j.size hd hr),I,h⟩,fun i u=>?_⟩;obtain⟨hu,o,G,_⟩:=mem_ready.1 u;have D:all[i]? =io o:=by simpa using G
  rcases j.JS i o D hu with hm|hm
  .cases hm
  .obtain⟨v,hv,y⟩:=j.take A x hm u;refine wpOp_of_stOp (K:=fun F=>F=a.put o.dst v) (fun F J=>?_) (hv.stOp G Z);subst J;exact ih _ _ y (by have:=dr hu;omega)
theorem yD{i:Nat}{o:Oper}{s':AS}(hin:(i,o)∈todo)(D:aS o=lc)(F: ∀x∈todo,waits o x.1=lc)(j:y9 all pend o=kw)(he:s'.h=s.h∧s'.nx=s.nx)
  (hy: ∀M N b w,Fits M N s nt b w-> ∃v,YieldsAt P all.toArray w o v b∧Fits M N s' nt (b.put o.dst v) w) (h:CV P nt all (todo.filter fun x=>!Zt x.1 i) ((i,o)::pend) R s' X):CV P nt all todo pend R s X:=by
 intro y hd A u B G M N listed a w d hB S J I;exact h y hd A (fun x Y=>u x (ZF.1 Y).1) B G M N listed a w d (by rw[he.1,he.2];exact hB) (by rw[he.1,he.2];exact S) (J.read y hin D F j he hy) I
theorem qL{T:AS->bd->Prop}(h:SX nt s X T)(hk: ∀t Y,T t Y->CV P nt all todo pend R t Y):CV P nt all todo pend R s X:=by
 intro I hd F A B J M N listed a w u hB hs d hc;obtain⟨b,hb,hr⟩:=d.ap;obtain⟨S,N',t,Y,h1,h2,h3,h4⟩:=h M N b w hb hs;obtain⟨bl,G,_⟩:=d.er;have D: ∀x∈todo,listed.getD x.1 kw=kw->False:=fun x j y=>by
  have:=(G x j y).alloc;rw[A x j]at this;cases this
 exact hk t Y h4 I hd F A B J S N' listed a w u (hB.trans h1) h3 ⟨d.size,d.tl,d.pl,d.dj,d.JS,d.pw,d.pp,d.pa,⟨bl,fun x j y=>(D x j y).elim,fun x j _ _ y=>(D x j y).elim⟩,b,h2,hr⟩ hc
theorem QH{j:Nat}{o:Oper}{T:AS->Prop}(hrd:fp todo=[(j,o)])(hg:cH nt all s.f o=io kw)(hpb:jI all pend o=kw)(hE:ph todo [j]=kw)(k0:OT P nt o s T)
  (h: ∀s',T s'->(∀x∈bn pend o,ji P nt all s' x.2)∧CV P nt all (todo.filter fun x=>!Zt x.1 j) (bn pend o) R s' X):CV P nt all todo pend R s X:=by
 have e0:(j,o)∈fp todo:=by rw[hrd];simp
 obtain⟨D,h4⟩:=ZF.1 e0;simp only[Z7,Zz,ZU]at h4;intro g0 hd Y f0 B B0 M N listed a w u hB hs
 induction u generalizing listed a w with
 |zero=>
  intro J hc;obtain⟨bl,c0,_⟩:=J.er;have q0:listed.getD j kw=lc:=by
   cases hl:listed.getD j kw with
   |false=>rfl
   |true=>have:=(c0 _ D hl).alloc;simp only at this;rw[h4.1]at this;cases this
  have:=oE q0;omega
 |succ u ih=>
  intro J hc;obtain⟨bl,c0,r0⟩:=J.er;have S: ∀x∈todo,aS x.2=lc->listed.getD x.1 kw=lc:=fun x A F=>by
   cases hl:listed.getD x.1 kw with
   |false=>rfl
   |true=>have:=(c0 x A hl).alloc;rw[F]at this;cases this
  refine⟨fun hr=>?_,fun i d0=>?_⟩
  .have:=mu J.size hd hr j;rw[S _ D h4.1]at this;cases this
  obtain⟨hu,q,hq,b0⟩:=mem_ready.1 d0;have j0:all[i]? =io q:=by simpa using hq
  rcases J.JS i q j0 hu with hm|hm
  .have n0:i=j:=by
    have:=Zr.1 hE _ hm;simp only[aal,ZQ,Zo,Z7]at this;rcases this with h1|h1|⟨y,hy,h0,h1⟩
    .simpa using h1
    .rw[f0 _ hm]at h1;cases h1
    .obtain⟨e,he,hb,o0⟩:=gT h1;have:=b0 e he hb;rw[o0,mU (S y hy h0)]at this;cases this
   subst n0;have p0:q=o:=by
    have:=J.tl _ D;simp only at this;rw[j0]at this;exact Z0 this
   subst p0;obtain⟨b,hb,a0,i0,hnew⟩:=J.eff g0 hd Y D (fun x A F=>by rw[f0 x A]at F;cases F) hpb d0 hu;unfold wpOp;simp only[hq];rw[am (by rw[i0];exact ey hg hb)];refine .inl (GB (K':=fun a' w'=> ∃G I s',Ext M N (· <s.nx) s.h w G I (· <s'.nx) s'.h w'∧Fits G I s' nt a' w'∧T s') a0 ?_ ?_ (k0 M N b w hb _ _ fun G I s' a' w' A hf hr=>⟨G,I,s',A,hf,hr⟩))
   .rintro d w' ⟨G,I,s',_,hf,_⟩;have:=hf.2.2.1;rw[lM]at this;cases this
   .rintro v w' ⟨G,I,s',A,hf,hr⟩;obtain⟨h5,h6⟩:=h s' hr;obtain⟨g1,g2⟩:=iW.frame A hs;exact h6 g0 hd Y (fun x A=>f0 x (ZF.1 A).1) B B0 G I _ _ w' u (hB.trans g1) g2 (hnew v G I s' w' A hf h5) (by have:=dr hu;omega)
  .obtain⟨v,hv,m0⟩:=J.take g0 Y hm d0;refine wpOp_of_stOp (K:=fun a'=>a'=a.put q.dst v) (fun a' ha=>?_) (hv.stOp hq Z);subst ha;exact ih _ _ _ hB hs m0 (by have:=dr hu;omega)
theorem LU{id:Nat}{ops:Array Oper}(hm:P.follows .mixedOrders=kw)(hns:vm ops.toList=kw)(hd:iu 0 ops.toList=kw)(d:ops.toList.all (fun o=>!aS o)=kw)(h:CV P nt ops.toList (ic 0 ops.toList) [] (kx P nt k Q) s X):GX P nt (.code (.region id ops kw)::k) Q s X:=by
 intro M N a w I S;refine wp_region_any hm ?_;have B:=I.drew;have d: ∀o∈ops.toList,aS o=lc:=fun o A=>by simpa using Zr.1 d o A
 have j: ∀x∈ic 0 ops.toList,ops.toList[x.1]? =io x.2:=fun x b=>by
  obtain⟨_,G⟩:=(jX _ 0 x.1 x.2).1 b;simpa using G
 have D: ∀i,i<ops.size->(aaP ops.size lc).getD i kw=lc:=fun i J=>by simp[Y0,J]
 have y: ∀x∈ic 0 ops.toList,(aaP ops.size lc).getD x.1 kw=kw->False:=fun x b u=>by
  have:x.1<ops.size:=by simpa using(Y4.1 (j x b)).1
  rw[D _ this]at u;cases u
 have:=h (Az hns) hd (fun i o A F=>by rw[d o (Zv A)]at F;cases F) (fun x b=>d _ (Zv (j x b))) ⟨M,N,s.nx,s.h,X,w⟩ ⟨M,N,s.nx,s.h,w⟩ M N (aaP ops.size lc) a {w with drawn:=w.drawn+1} ops.size iW.drew S.drew
  ⟨by simp,j,fun _ b=>(nomatch b),fun _ b=>(nomatch b),fun i o A _=> .inl ((jX _ 0 i o).2 ⟨Y8 _,by simpa using A⟩),aaL,fun _ b=>(nomatch b),fun _ b=>(nomatch b),
   ⟨fun _=>0,fun x b u=>(y x b u).elim,fun x b _ _ u=>(y x b u).elim⟩,⟨a,B,rfl,rfl,fun _ _ _=>rfl,fun _ b=>(nomatch b)⟩⟩ (by simp)
 rw[aay]at this;exact this
def S0(ty:Ty)(nt:Nat)(all:List Oper):Nat->List (Nat×Oper)->List (Nat×Oper)->AS->Prop->Prop×List (Nat×Oper)×List (Nat×Oper)×AS
 |0,todo,pend,s,C=>(C,todo,pend,s)
 |n+1,todo,pend,s,C=>match nr ty nt s all todo pend todo with
  |some (.read i o p C')=>match putDst nt o p s with
   |none=>(C,todo,pend,s)
   |some s'=>match B3 o.op with
    |true=>S0 ty nt all n (todo.filter fun x=>!Zt x.1 i) ((i,o)::pend) s' (C∧C')
    |false=>S0 ty nt all n (todo.filter fun x=>!Zt x.1 i) ((i,o)::pend) s' C
  |some (.skip i o)=>S0 ty nt all n (todo.filter fun x=>!Zt x.1 i) ((i,o)::pend) (iP o s) C
  |_=>(C,todo,pend,s)
theorem CF(u:cB P ty): ∀{n:Nat} {todo pend:List (Nat×Oper)} {s:AS} {C F:Prop} {j d:List (Nat×Oper)} {s':AS},S0 ty nt all n todo pend s C=(F,j,d,s')->F->C∧(CV P nt all j d R s' X->CV P nt all todo pend R s X)
 |0,todo,pend,s,C,F,j,d,s',h,hC=>by
  simp only[S0,Ze]at h;obtain⟨rfl,rfl,rfl,rfl⟩:=h;exact⟨hC,id⟩
 |n+1,todo,pend,s,C,F,j,d,s',h,hC=>by
  simp only[S0]at h;split at h
  .rename_i i o p C1 A;obtain⟨g1,G,I,g2,g3,g4⟩:=(qi (fun _ h=>h)).1 A;split at h
   .simp only[Ze]at h;obtain⟨rfl,rfl,rfl,rfl⟩:=h;exact⟨hC,id⟩
   .rename_i s1 Y;split at h
    .obtain⟨⟨B,h2⟩,D⟩:=CF u h hC;obtain⟨J,S⟩:=lZ u g4 h2 Y;exact⟨B,fun g=>yD g1 G I g3 J (fun M N b w y=>let ⟨x,f1,f2⟩:=S M N b w y;⟨x,.inl ⟨ey g2 y,.inl f1⟩,f2⟩) (D g)⟩
    .rename_i ho;obtain⟨B,D⟩:=CF u h hC;obtain⟨J,S⟩:=lZ u g4 (wW g4 ho) Y;exact⟨B,fun g=>yD g1 G I g3 J (fun M N b w y=>let ⟨x,f1,f2⟩:=S M N b w y;⟨x,.inl ⟨ey g2 y,.inl f1⟩,f2⟩) (D g)⟩
  .rename_i i o A;obtain⟨g1,G,I,g2,g3⟩:=(qi (fun _ h=>h)).2 A;obtain⟨B,D⟩:=CF u h hC;exact⟨B,fun g=>yD g1 G I g3 (jF o s) (fun _ _ _ _ y=>⟨undef,.inr ⟨ey g2 y,rfl⟩,y.skip o⟩) (D g)⟩
  .simp only[Ze]at h;obtain⟨rfl,rfl,rfl,rfl⟩:=h;exact⟨hC,id⟩
def Xu(ty:Ty)(nt:Nat)(s:AS)(o:Oper):Option (Prop×AS):=match lu ty s o.op with
 |some (p,C)=>(putDst nt o p s).map fun s'=>(C,s')
 |none=>match JQ ty s o.op with
  |some (p,s1)=>(putDst nt o p s1).map fun s'=>(True,s')
  |none=>match Vr ty s o.op with
   |some (C,p,s1)=>(putDst nt o p s1).map fun s'=>(C,s')
   |none=>jp
theorem UQ(b:cB P ty){o:Oper}{C:Prop}{s':AS}(h:Xu ty nt s o=io (C,s'))(hC:C):OT P nt o s (fun t=>t=s'):=by
 unfold Xu at h;split at h
 .rename_i p y A;obtain⟨x,d,j⟩:=Zb.1 h;cases j;exact u5 b A hC d
 .split at h
  .rename_i p s0 u;obtain⟨x,d,j⟩:=Zb.1 h;cases j;exact FZ b u d
  .split at h
   .rename_i y p s0 u;obtain⟨x,d,j⟩:=Zb.1 h;cases j;exact Fq b u hC d
   .cases h
theorem QF(j:cB P ty)(n:Nat){u:Prop}{d b:List (Nat×Oper)}{s':AS}(h:S0 ty nt all n todo pend s True=(u,d,b,s'))(hC:u)(g:CV P nt all d b R s' X):CV P nt all todo pend R s X:=(CF j h hC).2 g
theorem UT(b:cB P ty){j:Nat}{o:Oper}{C d:Prop}{s':AS}(hrd:fp todo=[(j,o)])(ho:Xu ty nt s o=io (C,s'))(hg:cH nt all s.f o=io kw)(hpb:jI all pend o=kw)(hE:ph todo [j]=kw)(hag:eB ty nt all s' (bn pend o)=io d)
  (hC:C) (hC2:d) (h:CV P nt all (todo.filter fun x=>!Zt x.1 j) (bn pend o) R s' X):CV P nt all todo pend R s X:=
 QH hrd hg hpb hE (UQ b ho hC) fun t u=>by subst u;exact⟨fz b hag hC2,h⟩
end
end
end Go.Al
namespace Go.Al
open Go
section
section
variable {P:Program} {ty:Ty} {nt:Nat} {s:AS}
theorem MH(B:cB P ty){o:Oper}{t u:TypeId}{x hi:Operand}(ho:o.op= .slice t x jp (io hi) jp){e G:cC}(ht:ty t=io e)(F:e.k= .bb (.slice u))(hu:ty u=io G)
  {n m sz:Nat} {el:Nat->List IV} {kc:IntKind} {Y:Int} (hx:ev s.f x= .iv (.dh sz n el)) (hh:ev s.f hi= .iv (.v (.int kc Y))) (J:Y=(m:Int)) (b0:m<=n):
  ∀M N a w,Fits M N s nt a w-> ∃x,(execOp a.eval o).run P w= .ok (.value x) w∧VR M N (· <s.nx) (.iv (.dh sz m el)) x:=by
 intro M N a w I;subst J;have A:P.underlying t=io (.slice u):=by
  have:=(B t _ ht).2.1;rw[F]at this;exact this.1
 have y:P.elem t=u:=by simp[Program.elem,A]
 have D:=aZ I.2.1 x;rw[hx]at D;generalize S:a.eval x=vx at D;cases D with
 |iv _ _ hir=>
  cases hir with
  |ki _ _ a0 cap=>
   obtain rfl:m=0:=by omega
   have d:=run_slice_h (P:=P) (w:=w) t a0 0 cap (by rw[y];exact A) kc ((0:Nat):Int) (by omega) (by omega);rw[y,bN (B u _ hu)]at d;refine⟨sliced a0 0 0 cap G.size,?_,?_⟩
   .simp only[execOp,ho,S,ZZ,abI,qv I hh];refine bJ ?_;rw[run_sliceAt_slice w t _ _ _ _ (by rw[y];exact A),d];rfl
   .exact .iv _ _ (.ki _ _ _ _)
  |dh _ _ _ b off cap hn hc hl hm hr=>
   have d:=run_slice_h (P:=P) (w:=w) t (io ⟨b,off,jp⟩) n cap (by rw[y];exact A) kc (m:Int) (by omega) (by omega);rw[y,bN (B u _ hu)]at d;refine⟨sliced (io ⟨b,off,jp⟩) 0 m cap G.size,?_,?_⟩
   .simp only[execOp,ho,S,ZZ,abI,qv I hh];refine bJ ?_;rw[run_sliceAt_slice w t _ _ _ _ (by rw[y];exact A),d];rfl
   .have h:=IR.dh sz m el b off cap (by omega) hc (fun k F=>hl k (by omega)) (fun k j F=>hm k j (by omega)) (fun k j p F=>hr k j p (by omega));exact .iv _ _ (by simpa[sliced,Addr.add]using h)
theorem UD(b:cB P ty){o:Oper}{t u:TypeId}{x i:Operand}(ho:o.op= .index t x i){e j:cC}{len:Nat}(I:ty t=io e)(F:e.k= .arr len u)(hu:ty u=io j)
  {cs:List PV} {kc:IntKind} {n:Nat} (S:ev s.f x= .agg cs) (hi:ev s.f i= .iv (.v (.int kc (n:Int)))) (hn:n<len) {p:PV} (G:jq j (cs.drop (n*j.size))=io p) {s':AS} (hp:putDst nt o p s=io s'):OT P nt o s (fun t=>t=s'):=by
 refine OT.value hp fun M N a w A=>?_
 have B:P.underlying t=io (.array len u):=by
  have:=(b t _ I).2.1;rw[F]at this;exact this
 have d:=aZ A.2.1 x;rw[S]at d;generalize J:a.eval x=v at d;cases d with
 |agg _ ys hl hr=>
  obtain⟨y,Y,D⟩:=jH (P:=P) (w:=w) (b u _ hu) hl hr G;refine⟨y,w,M,N,?_,.refl _ _ _ _ _,A,D⟩;simp only[execOp,ho,J,qv A hi];refine bJ ?_;simp[Instr.index,run_underlying B,asIntOf,hn,bN (b u _ hu),Y]
theorem Mb(j:cB P ty){Q:AQ}{k:List KI}{all rest:List Oper}{o:Oper}{t u:TypeId}{x i:Operand}(hg:o.guard=jp)(ho:o.op= .index t x i){e b:cC}{len:Nat}(d:ty t=io e)(y:e.k= .arr len u)(hu:ty u=io b)
  {cs:List PV} {kc:IntKind} {n:Nat} (B:ev s.f x= .agg cs) (hi:ev s.f i= .iv (.v (.int kc (n:Int)))) (hn:n<len) {p:PV} (A:jq b (cs.drop (n*b.size))=io p) {s':AS} (hp:putDst nt o p s=io s') (h:GO P nt (.ops all rest::k) Q s'):GO P nt (.ops all (o::rest)::k) Q s:=
 dJ hg (UD j ho d y hu B hi hn A hp) fun t d=>by subst d;exact h
end
section
variable {P:Program} {ty:Ty} {nt:Nat} {Q:AQ} {k:List KI} {s:AS}
theorem L9{all rest:List Oper}{o:Oper}{t e:TypeId}{x:Operand}{d sz n:Nat}{el:Nat->List IV}(hg:o.guard=jp)(ho:o.op= .binOp .eql t x (.const (.slice jp 0 0)) t)(hd:o.dst=io d)(A:Zk d nt=kw)(I:P.underlying t=io (.slice e))(J:ev s.f x= .iv (.dh sz n el))
  (h: ∀b:Bool,(b=kw->n=0)->GO P nt (.ops all rest::k) Q ⟨(d,pB b)::s.f,s.h,s.nx⟩):GO P nt (.ops all (o::rest)::k) Q s:=by
 refine dJ (R:=fun u=> ∃b:Bool,(b=kw->n=0)∧u=⟨(d,pB b)::s.f,s.h,s.nx⟩) hg (fun M N a w D K Z G=>?_) fun u ⟨b,hb,hu⟩=>by subst hu;exact h b hb
 have y:=aZ D.2.1 x;rw[J]at y;generalize B:a.eval x=v at y;have j: ∀(a0:Option Addr) (l c:Nat),v= .slice a0 l c->(execOp a.eval o).run P w= .ok (.value (.bool a0.isNone)) w:=fun a0 l c y=>by
  unfold execOp;rw[ho];simp only[B,y];exact bJ (Lib.run_eql_slice_nil w t e a0 l c 0 0 I)
 have b0: ∀(b:Bool),(b=kw->n=0)->(execOp a.eval o).run P w= .ok (.value (.bool b)) w->o.wp P a w K Z:=fun b hb F=>by
  unfold Oper.wp;rw[F];simp only[Oper.upon];rw[hd];exact G M N ⟨(d,pB b)::s.f,s.h,s.nx⟩ _ w (.refl _ _ _ _ _) (D.put d (pB b) (.bool b) (YY A) (.iv _ _ (.v _))) ⟨b,hb,rfl⟩
 cases y with
 |iv _ _ hi=>cases hi with
  |ki _ _ a0 cap=>exact b0 _ (fun _=>rfl) (j a0 0 cap rfl)
  |dh _ _ _ b off cap hn hc hl hm F=>exact b0 lc (fun h=>by cases h) (j _ n cap rfl)
theorem Qu(j:cB P ty){all rest:List Oper}{o:Oper}{t u:TypeId}{d:Nat}(hg:o.guard=jp)(ho:o.op= .buildSlice t 0 #[])(hd:o.dst=io d)(y:Zk d nt=kw){e I:cC}(ht:ty t=io e)(Y:e.k= .bb (.slice u))(hu:ty u=io I)
  (h: ∀b:Nat,GO P nt (.ops all rest::k) Q ⟨(d,.iv (.v (.slice (io ⟨b,0,jp⟩) 0 0)))::s.f,(s.nx,io (.row 1 []))::s.h,s.nx+1⟩):GO P nt (.ops all (o::rest)::k) Q s:=by
 refine dJ (R:=fun v=> ∃b:Nat,v=⟨(d,.iv (.v (.slice (io ⟨b,0,jp⟩) 0 0)))::s.f,(s.nx,io (.row 1 []))::s.h,s.nx+1⟩) hg (fun M N a w S K Z B=>?_) fun v ⟨b,hv⟩=>by subst hv;exact h b
 have F:P.underlying t=io (.slice u):=by
  have:=(j t _ ht).2.1;rw[Y]at this;exact this.1
 obtain⟨G,h1,h2,h8,J,x⟩:=S.1.alloc (.cells #[] u) (.row 1 []) 0 (fun G g1 g2 g3=> .inl rfl);have hr:(execOp a.eval o).run P w= .ok (.value (.slice (io ⟨w.heap.size,0,jp⟩) 0 0)) (w.alloc (.cells #[] u)):=by
  have D:=bN (w:=w) (j u I hu);simp[execOp,ho,Instr.buildSlice,Sem.run_bind,run_underlying F,Result.andThen_ok,D,newRow,Instr.fill,show abR 0= #[] from rfl]
 have A:=fc S J x;unfold Oper.wp;rw[hr];simp only[Oper.upon];rw[hd];exact B M G ⟨(d,.iv (.v (.slice (io ⟨w.heap.size,0,jp⟩) 0 0)))::s.f,(s.nx,io (.row 1 []))::s.h,s.nx+1⟩ _ _ J (Fits.put (s:=⟨s.f,(s.nx,io (.row 1 []))::s.h,s.nx+1⟩) A d _ _ (YY y) (.iv _ _ (.v _))) ⟨_,rfl⟩
theorem Qv(d0:cB P ty){all rest:List Oper}{o:Oper}{x y:Operand}{t u:TypeId}(hg:o.guard=jp)(ho:o.op= .call ⟨.builtin .append, #[x,y], #[t,t]⟩){e d:cC}(ht:ty t=io e)(hk:e.k= .bb (.slice u))(hu:ty u=io d)
  {b0 sz:Nat} {news:List (List PV)} {py:PV} (hx:ev s.f x= .iv (.v (.slice (io ⟨b0,0,jp⟩) 0 0))) (v0:d.size=sz) (hz:d.zero.cells.size=sz) (t0:0<sz)
  (s0:ev s.f y=py) (hy:Src s.h sz py news) (hm:news≠ []) (hb:news.length*d.bytes<=140737488355328) (d1:news.length<=140737488355328)
  {s':AS} (hp:putDst nt o (.sl s.nx 0 news.length sz) (newObj s (.row sz news))=io s') (h:GO P nt (.ops all rest::k) Q s'):GO P nt (.ops all (o::rest)::k) Q s:=by
 refine dJ hg (OT.value hp fun M N a w hf=>?_) fun v hv=>by subst hv;exact h
 subst v0;obtain⟨⟨ii,o0,p0,n0,q0⟩,_⟩:=d0 u _ hu;have w0:P.underlying t=io (.slice u):=by
  have:=(d0 t _ ht).2.1;rw[hk]at this;exact this.1
 have Y:=aZ hf.2.1 x;rw[hx]at Y;have f0:=aZ hf.2.1 y;rw[s0]at f0;obtain⟨D,ao,c,a1,F⟩:=hy.ok hf f0;have A: ∀v w',(Builtin.append_ #[t,t] o.type #[a.eval x,a.eval y]).run P w= .ok v w'->(execOp a.eval o).run P w= .ok (.value v) w':=by
  intro v w' h;simp only[execOp,ho,resolve];simp[invoke,builtin,h]
 rw[a1]at A;have a0: ∀G:List Value,G.length=news.flatten.length->G.length=news.length*ii.size:=fun G h=>by rw[h,mP D,p0]
 generalize a.eval x=vx at Y A;cases Y with
 |iv _ _ hi=>cases hi with
  |v=>
   obtain⟨b,b1,j0,I⟩:=F hm;subst j0;obtain⟨G,e0,x0,y0⟩:=wQ (s:=s) I;have j1:0<news.length:=List.length_pos_iff.2 hm;have J:=run_append_grow (P:=P) w t o.type u ii d.zero w0 o0 q0 ⟨b0,0,jp⟩ 0 0 [] (by simp) (fun j v hj=>by simp at hj) ⟨b,b1,jp⟩ news.length c G (a0 G e0) x0 (by omega) (by omega) (growslice_fits (by omega) (by rw[n0,Zq];exact hb));have S:G.length=news.length*d.size:=by rw[e0,mP D]
   have c0:=grownCap_ge w (0+news.length) 0 u;have k0:=grownCap_le_maxLen w (0+news.length) 0 u (by simp only[maxLen];omega);generalize grownCap w (0+news.length) 0 u=cap at*
   generalize i0:([]:List Value).toArray++G.toArray++Builtin.zeroCells d.zero.cells (cap-(0+news.length))=z at J;have B:z.size=cap*d.size:=by
    rw[<-i0,abh,abh,size_zeroCells,hz];simp only[List.size_toArray,S,aad,Zq] at*
    rw[<-aaf,Nat.add_sub_cancel' c0]
   obtain⟨N',h1,h2,h3,h4,h5⟩:=hf.1.drew.alloc (.cells z u) (.row d.size news) z.size (fun N' g1 g2 g3=>by
    refine .inr ⟨t0,z,u,by rw[g1];exact heap_alloc_new _ _,g2.symm,?_,fun k e he=>D _ e he,fun k e j p he hj=>?_⟩
    .rw[B];exact Zy _ (by omega)
    .have f1:j<d.size:=by rw[<-D _ e he];exact(Y4.1 hj).1
     have r0:k<news.length:=(Y4.1 he).1;have m0:=qD D _ e j p he hj;have i1:k*d.size+j<G.length:=by
      rw[S];have:(k+1)*d.size<=news.length*d.size:=Zy _ r0;rw[aaf]at this;omega
     have:=y0 _ p m0;have e1:z.getD (k*d.size+j) undef=G.getD (k*d.size+j) undef:=by
      rw[<-i0,Y0,Z4 (by simp;omega),YZ];simp
     rw[e1];exact this.mono (.refl _) g3 (fun i hi=>by omega))
   have g0:=(Ext.drew (M:=M) (N:=N) (U:=(· <s.nx)) (h:=s.h) (w:=w)).trans h4;refine⟨_,_,M,N',A _ _ J,g0,⟨h5,hf.2.1.ext g0,hf.2.2⟩,?_⟩;have:=VR.sl (M:=M) (N:=N') (U:=(· <s.nx+1)) s.nx 0 (0+news.length) d.size cap (by omega) (by omega) c0 k0 (by rw[h2,B];simp);rw[h1,aa3,show PV.sl s.nx 0 (0+news.length) d.size=PV.sl s.nx 0 news.length d.size by rw[Zq]]at this;exact(show(newObj s (.row d.size news)).nx=s.nx+1 from rfl)▸this
theorem Mi(G:cB P ty){all rest:List Oper}{o:Oper}{x y:Operand}{t u:TypeId}(hg:o.guard=jp)(ho:o.op= .call ⟨.builtin .append, #[x,y], #[t,t]⟩){e Y:cC}(ht:ty t=io e)(hk:e.k= .bb (.slice u))(hu:ty u=io Y)
  {S sz:Nat} (hx:ev s.f x= .iv (.v (.slice (io ⟨S,0,jp⟩) 0 0))) (d0:Y.size=sz)
  {el:Nat->List IV} (c0:ev s.f y= .iv (.dh sz 0 el)) {el2:Nat->List IV}
  {s':AS} (hp:putDst nt o (.iv (.dh sz 0 el2)) s=io s') (h:GO P nt (.ops all rest::k) Q s'):GO P nt (.ops all (o::rest)::k) Q s:=by
 refine dJ hg (OT.value hp fun M N a w hf=>?_) fun v hv=>by subst hv;exact h
 subst d0;obtain⟨⟨ii,a0,g0,f0,i0⟩,_⟩:=G u _ hu;have e0:P.underlying t=io (.slice u):=by
  have:=(G t _ ht).2.1;rw[hk]at this;exact this.1
 have A:=aZ hf.2.1 x;rw[hx]at A;have B:=aZ hf.2.1 y;rw[c0]at B;have d: ∀v D,(Builtin.append_ #[t,t] o.type #[a.eval x,a.eval y]).run P w= .ok v D->(execOp a.eval o).run P w= .ok (.value v) D:=by
  intro v D h;simp only[execOp,ho,resolve];simp[invoke,builtin,h]
 generalize a.eval x=vx at A d;generalize a.eval y=vy at B d;have j: ∀(F:Option Addr) (c:Nat),vx= .slice (io ⟨S,0,jp⟩) 0 0->vy= .slice F 0 c-> ∃v D I J,(execOp a.eval o).run P w= .ok (.value v) D∧Ext M N (· <s.nx) s.h w I J (· <s.nx) s.h D∧Fits I J s nt a D∧VR I J (· <s.nx) (.iv (.dh Y.size 0 el2)) v:=fun F c e1 e2=>by
  subst e1 e2;exact⟨_,w,M,N,d _ _ (lr (P:=P) (w:=w) t o.type u ii e0 a0 (io ⟨S,0,jp⟩) 0 0 (Y7 _) F c (.inr ⟨_,_,rfl⟩)),.refl _ _ _ _ _,hf,.iv _ _ (.ki _ _ _ _)⟩
 cases A with
 |iv _ _ hi=>cases hi with
  |v=>cases B with
   |iv _ _ hi=>cases hi with
    |ki _ _ F c=>exact j F c Z Z
    |dh _ _ _ b off cap=>exact j _ _ Z Z
end
end
end Go.Al
namespace Go.Proofs.YtflegjieadkonaaGreatDoor
open Go Go.Al Go.Proofs.Tryz
def ty2:cC:=⟨.bb (.int .i64),1,8,.int .i64 (0),lc⟩
theorem VE:ax prog 2 ty2:=⟨aq (by kernel_rfl),⟨underlying2,rfl⟩,fun h=>nomatch h⟩
def ty3:cC:=⟨.bb (.int .i64),1,8,.int .i64 (0),lc⟩
theorem VD:ax prog 3 ty3:=⟨aq (by kernel_rfl),⟨underlying3,rfl⟩,fun h=>nomatch h⟩
def ty4:cC:=⟨.bb (.bool),1,1,.bool lc,lc⟩
theorem VC:ax prog 4 ty4:=⟨aq (by kernel_rfl),⟨underlying4,rfl⟩,fun h=>nomatch h⟩
def ty5:cC:=⟨.bb (.int .u8),1,1,.int .u8 (0),lc⟩
theorem VB:ax prog 5 ty5:=⟨aq (by kernel_rfl),⟨underlying5,rfl⟩,fun h=>nomatch h⟩
def ty9:cC:=⟨.bb (.string),1,16,.string Y5,lc⟩
theorem VA:ax prog 9 ty9:=⟨aq (by kernel_rfl),⟨underlying9,rfl⟩,fun h=>nomatch h⟩
def V4:cC:=⟨.bb (.int .i32),1,4,.int .i32 (0),lc⟩
theorem TG:ax prog 21 V4:=⟨aq (by kernel_rfl),⟨underlying21,rfl⟩,fun h=>nomatch h⟩
def V3:cC:=⟨.bb (.slice 49),1,24,.slice jp 0 0,lc⟩
theorem TF:ax prog 22 V3:=⟨aq (by kernel_rfl),⟨underlying22,rfl⟩,fun h=>nomatch h⟩
def V2:cC:=⟨.bb (.slice 76),1,24,.slice jp 0 0,lc⟩
theorem TE:ax prog 23 V2:=⟨aq (by kernel_rfl),⟨underlying23,rfl⟩,fun h=>nomatch h⟩
def V1:cC:=⟨.dw [(0,22),(1,23)],2,48,.agg #[.slice jp 0 0,.slice jp 0 0],kw⟩
theorem TD:ax prog 25 V1:=⟨aq (by kernel_rfl),⟨_,underlying25,rfl⟩,fun _=>cQ underlying25 Tryz.stoodInHeld25 Tryz.eqGuardType25 (by decide)⟩
def V0:cC:=⟨.bb (.int .i64),1,8,.int .i64 (0),lc⟩
theorem TC:ax prog 33 V0:=⟨aq (by kernel_rfl),⟨underlying33,rfl⟩,fun h=>nomatch h⟩
def VZ:cC:=⟨.dw [(0,3),(1,3)],2,16,.agg #[.int .i64 (0),.int .i64 (0)],kw⟩
theorem TB:ax prog 35 VZ:=⟨aq (by kernel_rfl),⟨_,underlying35,rfl⟩,fun _=>cQ underlying35 Tryz.stoodInHeld35 Tryz.eqGuardType35 (by decide)⟩
def VY:cC:=⟨.dw [(0,33),(1,35)],3,24,.agg #[.int .i64 (0),.int .i64 (0),.int .i64 (0)],kw⟩
theorem TA:ax prog 37 VY:=⟨aq (by kernel_rfl),⟨_,underlying37,rfl⟩,fun _=>cQ underlying37 Tryz.stoodInHeld37 Tryz.eqGuardType37 (by decide)⟩
def VX:cC:=⟨.bb (.slice 3),1,24,.slice jp 0 0,lc⟩
theorem Tz:ax prog 47 VX:=⟨aq (by kernel_rfl),⟨underlying47,rfl⟩,fun h=>nomatch h⟩
def VW:cC:=⟨.dw [(0,9),(1,47),(2,35)],4,56,.agg #[.string Y5,.slice jp 0 0,.int .i64 (0),.int .i64 (0)],kw⟩
theorem Tx:ax prog 49 VW:=⟨aq (by kernel_rfl),⟨_,underlying49,rfl⟩,fun _=>cQ underlying49 Tryz.stoodInHeld49 Tryz.eqGuardType49 (by decide)⟩
def VV:cC:=⟨.bb (.slice 9),1,24,.slice jp 0 0,lc⟩
theorem Tw:ax prog 53 VV:=⟨aq (by kernel_rfl),⟨underlying53,rfl⟩,fun h=>nomatch h⟩
def VU:cC:=⟨.bb (.slice 119),1,24,.slice jp 0 0,lc⟩
theorem Tv:ax prog 60 VU:=⟨aq (by kernel_rfl),⟨underlying60,rfl⟩,fun h=>nomatch h⟩
def VT:cC:=⟨.dw [(0,3),(1,3),(2,53),(3,60)],4,64,.agg #[.int .i64 (0),.int .i64 (0),.slice jp 0 0,.slice jp 0 0],kw⟩
theorem Tu:ax prog 62 VT:=⟨aq (by kernel_rfl),⟨_,underlying62,rfl⟩,fun _=>cQ underlying62 Tryz.stoodInHeld62 Tryz.eqGuardType62 (by decide)⟩
def VS:cC:=⟨.bb (.slice 143),1,24,.slice jp 0 0,lc⟩
theorem Tt:ax prog 71 VS:=⟨aq (by kernel_rfl),⟨underlying71,rfl⟩,fun h=>nomatch h⟩
def VQ:cC:=⟨.dw [(0,9),(1,71)],2,40,.agg #[.string Y5,.slice jp 0 0],kw⟩
theorem Ts:ax prog 73 VQ:=⟨aq (by kernel_rfl),⟨_,underlying73,rfl⟩,fun _=>cQ underlying73 Tryz.stoodInHeld73 Tryz.eqGuardType73 (by decide)⟩
def VP:cC:=⟨.bb (.slice 105),1,24,.slice jp 0 0,lc⟩
theorem Tr:ax prog 74 VP:=⟨aq (by kernel_rfl),⟨underlying74,rfl⟩,fun h=>nomatch h⟩
def VO:cC:=⟨.dw [(0,73),(2,74),(3,35)],5,80,.agg #[.string Y5,.slice jp 0 0,.slice jp 0 0,.int .i64 (0),.int .i64 (0)],kw⟩
theorem Tq:ax prog 76 VO:=⟨aq (by kernel_rfl),⟨_,underlying76,rfl⟩,fun _=>cQ underlying76 Tryz.stoodInHeld76 Tryz.eqGuardType76 (by decide)⟩
def VN:cC:=⟨.bb (.map 9 88),1,8,.map jp,lc⟩
theorem Tp:ax prog 83 VN:=⟨aq (by kernel_rfl),⟨underlying83,rfl⟩,fun h=>nomatch h⟩
def VM:cC:=⟨.bb (.map 9 88),1,8,.map jp,lc⟩
theorem To:ax prog 84 VM:=⟨aq (by kernel_rfl),⟨underlying84,rfl⟩,fun h=>nomatch h⟩
def VL:cC:=⟨.bb (.map 9 3),1,8,.map jp,lc⟩
theorem Tn:ax prog 88 VL:=⟨aq (by kernel_rfl),⟨underlying88,rfl⟩,fun h=>nomatch h⟩
def VK:cC:=⟨.bb (.map 3 53),1,8,.map jp,lc⟩
theorem Tm:ax prog 91 VK:=⟨aq (by kernel_rfl),⟨underlying91,rfl⟩,fun h=>nomatch h⟩
def VI:cC:=⟨.bb (.map 3 3),1,8,.map jp,lc⟩
theorem Tl:ax prog 92 VI:=⟨aq (by kernel_rfl),⟨underlying92,rfl⟩,fun h=>nomatch h⟩
def VH:cC:=⟨.bb (.slice 47),1,24,.slice jp 0 0,lc⟩
theorem Tk:ax prog 94 VH:=⟨aq (by kernel_rfl),⟨underlying94,rfl⟩,fun h=>nomatch h⟩
def VG:cC:=⟨.dw [(0,3),(1,3),(2,9)],3,32,.agg #[.int .i64 (0),.int .i64 (0),.string Y5],kw⟩
theorem Ti:ax prog 98 VG:=⟨aq (by kernel_rfl),⟨_,underlying98,rfl⟩,fun _=>cQ underlying98 Tryz.stoodInHeld98 Tryz.eqGuardType98 (by decide)⟩
def VF:cC:=⟨.bb (.slice 101),1,24,.slice jp 0 0,lc⟩
theorem Th:ax prog 99 VF:=⟨aq (by kernel_rfl),⟨underlying99,rfl⟩,fun h=>nomatch h⟩
def SA:cC:=⟨.dw [(0,3),(1,9),(2,98),(5,3),(6,99)],7,88,.agg #[.int .i64 (0),.string Y5,.int .i64 (0),.int .i64 (0),.string Y5,.int .i64 (0),.slice jp 0 0],kw⟩
theorem OY:ax prog 101 SA:=⟨aq (by kernel_rfl),⟨_,underlying101,rfl⟩,fun _=>cQ underlying101 Tryz.stoodInHeld101 Tryz.eqGuardType101 (by decide)⟩
def Sz:cC:=⟨.dw [(0,3),(1,9),(2,101),(9,74)],10,136,.agg #[.int .i64 (0),.string Y5,.int .i64 (0),.string Y5,.int .i64 (0),.int .i64 (0),.string Y5,.int .i64 (0),.slice jp 0 0,.slice jp 0 0],kw⟩
theorem OX:ax prog 103 Sz:=⟨aq (by kernel_rfl),⟨_,underlying103,rfl⟩,fun _=>cQ underlying103 Tryz.stoodInHeld103 Tryz.eqGuardType103 (by decide)⟩
def Sy:cC:=⟨.dw [(0,3),(1,73),(3,3),(4,101),(11,101),(18,103),(28,35)],30,384,.agg #[.int .i64 (0),.string Y5,.slice jp 0 0,.int .i64 (0),.int .i64 (0),.string Y5,.int .i64 (0),.int .i64 (0),.string Y5,.int .i64 (0),.slice jp 0 0,.int .i64 (0),.string Y5,.int .i64 (0),.int .i64 (0),.string Y5,.int .i64 (0),.slice jp 0 0,.int .i64 (0),.string Y5,.int .i64 (0),.string Y5,.int .i64 (0),.int .i64 (0),.string Y5,.int .i64 (0),.slice jp 0 0,.slice jp 0 0,.int .i64 (0),.int .i64 (0)],kw⟩
theorem OW:ax prog 105 Sy:=⟨aq (by kernel_rfl),⟨_,underlying105,rfl⟩,fun _=>cQ underlying105 Tryz.stoodInHeld105 Tryz.eqGuardType105 (by decide)⟩
def Sx:cC:=⟨.bb (.slice 113),1,24,.slice jp 0 0,lc⟩
theorem OV:ax prog 110 Sx:=⟨aq (by kernel_rfl),⟨underlying110,rfl⟩,fun h=>nomatch h⟩
def Sv:cC:=⟨.bb (.slice 4),1,24,.slice jp 0 0,lc⟩
theorem OU:ax prog 113 Sv:=⟨aq (by kernel_rfl),⟨underlying113,rfl⟩,fun h=>nomatch h⟩
def Su:cC:=⟨.dw [(0,3),(1,3),(2,47),(3,9)],4,56,.agg #[.int .i64 (0),.int .i64 (0),.slice jp 0 0,.string Y5],kw⟩
theorem OS:ax prog 119 Su:=⟨aq (by kernel_rfl),⟨_,underlying119,rfl⟩,fun _=>cQ underlying119 Tryz.stoodInHeld119 Tryz.eqGuardType119 (by decide)⟩
def Ss:cC:=⟨.bb (.pointer 135),1,8,.pointer jp,lc⟩
theorem OQ:ax prog 124 Ss:=⟨aq (by kernel_rfl),⟨underlying124,rfl⟩,fun h=>nomatch h⟩
def Sr:cC:=⟨.bb (.map 9 3),1,8,.map jp,lc⟩
theorem OP:ax prog 133 Sr:=⟨aq (by kernel_rfl),⟨underlying133,rfl⟩,fun h=>nomatch h⟩
def Sq:cC:=⟨.dw [(0,76),(5,133),(6,91),(7,92)],8,104,.agg #[.string Y5,.slice jp 0 0,.slice jp 0 0,.int .i64 (0),.int .i64 (0),.map jp,.map jp,.map jp],kw⟩
theorem OO:ax prog 135 Sq:=⟨aq (by kernel_rfl),⟨_,underlying135,rfl⟩,fun _=>cQ underlying135 Tryz.stoodInHeld135 Tryz.eqGuardType135 (by decide)⟩
def Sp:cC:=⟨.dw [(0,3),(1,9),(2,98)],5,56,.agg #[.int .i64 (0),.string Y5,.int .i64 (0),.int .i64 (0),.string Y5],kw⟩
theorem ON:ax prog 143 Sp:=⟨aq (by kernel_rfl),⟨_,underlying143,rfl⟩,fun _=>cQ underlying143 Tryz.stoodInHeld143 Tryz.eqGuardType143 (by decide)⟩
def Sn:cC:=⟨.bb (.func #[9] #[3] lc),1,8,.nilFunc,lc⟩
theorem OL:ax prog 148 Sn:=⟨aq (by kernel_rfl),⟨underlying148,rfl⟩,fun h=>nomatch h⟩
def Sm:cC:=⟨.bb (.func #[37] #[4] lc),1,8,.nilFunc,lc⟩
theorem OK:ax prog 151 Sm:=⟨aq (by kernel_rfl),⟨underlying151,rfl⟩,fun h=>nomatch h⟩
def Sl:cC:=⟨.bb (.func #[105] #[4] lc),1,8,.nilFunc,lc⟩
theorem OJ:ax prog 155 Sl:=⟨aq (by kernel_rfl),⟨underlying155,rfl⟩,fun h=>nomatch h⟩
def Sk:cC:=⟨.bb (.slice 37),1,24,.slice jp 0 0,lc⟩
theorem OI:ax prog 156 Sk:=⟨aq (by kernel_rfl),⟨underlying156,rfl⟩,fun h=>nomatch h⟩
def Sj:cC:=⟨.bb (.map 9 3),1,8,.map jp,lc⟩
theorem OH:ax prog 164 Sj:=⟨aq (by kernel_rfl),⟨underlying164,rfl⟩,fun h=>nomatch h⟩
def Si:cC:=⟨.dw [(0,76),(5,164)],6,88,.agg #[.string Y5,.slice jp 0 0,.slice jp 0 0,.int .i64 (0),.int .i64 (0),.map jp],kw⟩
theorem OG:ax prog 166 Si:=⟨aq (by kernel_rfl),⟨_,underlying166,rfl⟩,fun _=>cQ underlying166 Tryz.stoodInHeld166 Tryz.eqGuardType166 (by decide)⟩
def Sh:cC:=⟨.bb (.pointer 166),1,8,.pointer jp,lc⟩
theorem OF:ax prog 167 Sh:=⟨aq (by kernel_rfl),⟨underlying167,rfl⟩,fun h=>nomatch h⟩
def Sg:cC:=⟨.bb (.slice 173),1,24,.slice jp 0 0,lc⟩
theorem OE:ax prog 169 Sg:=⟨aq (by kernel_rfl),⟨underlying169,rfl⟩,fun h=>nomatch h⟩
def Sf:cC:=⟨.bb (.func #[124,3] #[119,4] lc),1,8,.nilFunc,lc⟩
theorem OD:ax prog 171 Sf:=⟨aq (by kernel_rfl),⟨underlying171,rfl⟩,fun h=>nomatch h⟩
def Se:cC:=⟨.dw [(0,3),(1,171)],2,16,.agg #[.int .i64 (0),.nilFunc],kw⟩
theorem OC:ax prog 173 Se:=⟨aq (by kernel_rfl),⟨_,underlying173,rfl⟩,fun _=>cQ underlying173 Tryz.stoodInHeld173 Tryz.eqGuardType173 (by decide)⟩
def Sd:cC:=⟨.bb (.int .u64),1,8,.int .u64 (0),lc⟩
theorem OB:ax prog 179 Sd:=⟨aq (by kernel_rfl),⟨underlying179,rfl⟩,fun h=>nomatch h⟩
def Sc:cC:=⟨.bb (.map 9 49),1,8,.map jp,lc⟩
theorem OA:ax prog 181 Sc:=⟨aq (by kernel_rfl),⟨underlying181,rfl⟩,fun h=>nomatch h⟩
def Sb:cC:=⟨.bb (.func #[101] #[4] lc),1,8,.nilFunc,lc⟩
theorem Oz:ax prog 185 Sb:=⟨aq (by kernel_rfl),⟨underlying185,rfl⟩,fun h=>nomatch h⟩
def Sa:cC:=⟨.bb (.func #[103] #[4] lc),1,8,.nilFunc,lc⟩
theorem Oy:ax prog 186 Sa:=⟨aq (by kernel_rfl),⟨underlying186,rfl⟩,fun h=>nomatch h⟩
def R9:cC:=⟨.bb (.int .i64),1,8,.int .i64 (0),lc⟩
theorem Ox:ax prog 195 R9:=⟨aq (by kernel_rfl),⟨underlying195,rfl⟩,fun h=>nomatch h⟩
def R8:cC:=⟨.bb (.int .u32),1,4,.int .u32 (0),lc⟩
theorem Ow:ax prog 203 R8:=⟨aq (by kernel_rfl),⟨underlying203,rfl⟩,fun h=>nomatch h⟩
def R7:cC:=⟨.bb (.int .u64),1,8,.int .u64 (0),lc⟩
theorem Ov:ax prog 205 R7:=⟨aq (by kernel_rfl),⟨underlying205,rfl⟩,fun h=>nomatch h⟩
def R6:cC:=⟨.bb (.func #[3] #[4] lc),1,8,.nilFunc,lc⟩
theorem Ou:ax prog 207 R6:=⟨aq (by kernel_rfl),⟨underlying207,rfl⟩,fun h=>nomatch h⟩
def R5:cC:=⟨.bb (.slice 73),1,24,.slice jp 0 0,lc⟩
theorem Ot:ax prog 215 R5:=⟨aq (by kernel_rfl),⟨underlying215,rfl⟩,fun h=>nomatch h⟩
def R4:cC:=⟨.bb (.func #[73] #[4] lc),1,8,.nilFunc,lc⟩
theorem Oq:ax prog 217 R4:=⟨aq (by kernel_rfl),⟨underlying217,rfl⟩,fun h=>nomatch h⟩
def R3:cC:=⟨.dw [(0,33),(1,207)],2,16,.agg #[.int .i64 (0),.nilFunc],kw⟩
theorem Oo:ax prog 218 R3:=⟨aq (by kernel_rfl),⟨_,underlying218,rfl⟩,fun _=>cQ underlying218 Tryz.stoodInHeld218 Tryz.eqGuardType218 (by decide)⟩
def R2:cC:=⟨.bb (.pointer 257),1,8,.pointer jp,lc⟩
theorem On:ax prog 220 R2:=⟨aq (by kernel_rfl),⟨underlying220,rfl⟩,fun h=>nomatch h⟩
def R1:cC:=⟨.bb (.slice 218),1,24,.slice jp 0 0,lc⟩
theorem Om:ax prog 222 R1:=⟨aq (by kernel_rfl),⟨underlying222,rfl⟩,fun h=>nomatch h⟩
def R0:cC:=⟨.arr 2 101,14,176,.agg #[.int .i64 (0),.string Y5,.int .i64 (0),.int .i64 (0),.string Y5,.int .i64 (0),.slice jp 0 0,.int .i64 (0),.string Y5,.int .i64 (0),.int .i64 (0),.string Y5,.int .i64 (0),.slice jp 0 0],lc⟩
theorem Ol:ax prog 232 R0:=⟨aq (by kernel_rfl),underlying232,fun h=>nomatch h⟩
def RZ:cC:=⟨.bb (.int .u64),1,8,.int .u64 (0),lc⟩
theorem Oj:ax prog 233 RZ:=⟨aq (by kernel_rfl),⟨underlying233,rfl⟩,fun h=>nomatch h⟩
def RY:cC:=⟨.bb (.pointer 3),1,8,.pointer jp,lc⟩
theorem Oi:ax prog 237 RY:=⟨aq (by kernel_rfl),⟨underlying237,rfl⟩,fun h=>nomatch h⟩
def RX:cC:=⟨.bb (.pointer 247),1,8,.pointer jp,lc⟩
theorem Oh:ax prog 241 RX:=⟨aq (by kernel_rfl),⟨underlying241,rfl⟩,fun h=>nomatch h⟩
def RW:cC:=⟨.bb (.pointer 245),1,8,.pointer jp,lc⟩
theorem Og:ax prog 242 RW:=⟨aq (by kernel_rfl),⟨underlying242,rfl⟩,fun h=>nomatch h⟩
def RV:cC:=⟨.bb (.slice 5),1,24,.slice jp 0 0,lc⟩
theorem Of:ax prog 243 RV:=⟨aq (by kernel_rfl),⟨underlying243,rfl⟩,fun h=>nomatch h⟩
def RU:cC:=⟨.dw [(0,242),(1,243)],2,32,.agg #[.pointer jp,.slice jp 0 0],kw⟩
theorem Oe:ax prog 245 RU:=⟨aq (by kernel_rfl),⟨_,underlying245,rfl⟩,fun _=>cQ underlying245 Tryz.stoodInHeld245 Tryz.eqGuardType245 (by decide)⟩
def RT:cC:=⟨.dw [(0,245),(2,4),(3,3)],4,48,.agg #[.pointer jp,.slice jp 0 0,.bool lc,.int .i64 (0)],kw⟩
theorem Od:ax prog 247 RT:=⟨aq (by kernel_rfl),⟨_,underlying247,rfl⟩,fun _=>cQ underlying247 Tryz.stoodInHeld247 Tryz.eqGuardType247 (by decide)⟩
def RS:cC:=⟨.bb (.func #[143] #[4] lc),1,8,.nilFunc,lc⟩
theorem Oc:ax prog 252 RS:=⟨aq (by kernel_rfl),⟨underlying252,rfl⟩,fun h=>nomatch h⟩
def RR:cC:=⟨.bb (.map 263 263),1,8,.map jp,lc⟩
theorem Ob:ax prog 253 RR:=⟨aq (by kernel_rfl),⟨underlying253,rfl⟩,fun h=>nomatch h⟩
def RQ:cC:=⟨.bb (.map 263 3),1,8,.map jp,lc⟩
theorem Oa:ax prog 254 RQ:=⟨aq (by kernel_rfl),⟨underlying254,rfl⟩,fun h=>nomatch h⟩
def RP:cC:=⟨.bb (.slice 265),1,24,.slice jp 0 0,lc⟩
theorem N9:ax prog 255 RP:=⟨aq (by kernel_rfl),⟨underlying255,rfl⟩,fun h=>nomatch h⟩
def RO:cC:=⟨.dw [(0,167),(1,253),(2,255),(3,254)],4,48,.agg #[.pointer jp,.map jp,.slice jp 0 0,.map jp],kw⟩
theorem N8:ax prog 257 RO:=⟨aq (by kernel_rfl),⟨_,underlying257,rfl⟩,fun _=>cQ underlying257 Tryz.stoodInHeld257 Tryz.eqGuardType257 (by decide)⟩
def RN:cC:=⟨.dw [(0,9),(1,3)],2,24,.agg #[.string Y5,.int .i64 (0)],kw⟩
theorem N7:ax prog 263 RN:=⟨aq (by kernel_rfl),⟨_,underlying263,rfl⟩,fun _=>cQ underlying263 Tryz.stoodInHeld263 Tryz.eqGuardType263 (by decide)⟩
def RL:cC:=⟨.dw [(0,3),(1,263),(3,3),(4,3)],5,48,.agg #[.int .i64 (0),.string Y5,.int .i64 (0),.int .i64 (0),.int .i64 (0)],kw⟩
theorem N6:ax prog 265 RL:=⟨aq (by kernel_rfl),⟨_,underlying265,rfl⟩,fun _=>cQ underlying265 Tryz.stoodInHeld265 Tryz.eqGuardType265 (by decide)⟩
def RK:cC:=⟨.bb (.pointer 276),1,8,.pointer jp,lc⟩
theorem N5:ax prog 271 RK:=⟨aq (by kernel_rfl),⟨underlying271,rfl⟩,fun h=>nomatch h⟩
def RJ:cC:=⟨.bb (.slice 325),1,24,.slice jp 0 0,lc⟩
theorem N4:ax prog 273 RJ:=⟨aq (by kernel_rfl),⟨underlying273,rfl⟩,fun h=>nomatch h⟩
def RI:cC:=⟨.bb (.slice 278),1,24,.slice jp 0 0,lc⟩
theorem N3:ax prog 274 RI:=⟨aq (by kernel_rfl),⟨underlying274,rfl⟩,fun h=>nomatch h⟩
def RH:cC:=⟨.dw [(0,273),(1,47),(2,274),(3,53)],4,96,.agg #[.slice jp 0 0,.slice jp 0 0,.slice jp 0 0,.slice jp 0 0],kw⟩
theorem NZ:ax prog 276 RH:=⟨aq (by kernel_rfl),⟨_,underlying276,rfl⟩,fun _=>cQ underlying276 Tryz.stoodInHeld276 Tryz.eqGuardType276 (by decide)⟩
def RG:cC:=⟨.dw [(0,3),(1,3),(2,3),(3,3)],4,32,.agg #[.int .i64 (0),.int .i64 (0),.int .i64 (0),.int .i64 (0)],kw⟩
theorem NY:ax prog 278 RG:=⟨aq (by kernel_rfl),⟨_,underlying278,rfl⟩,fun _=>cQ underlying278 Tryz.stoodInHeld278 Tryz.eqGuardType278 (by decide)⟩
def RF:cC:=⟨.bb (.pointer 233),1,8,.pointer jp,lc⟩
theorem NX:ax prog 280 RF:=⟨aq (by kernel_rfl),⟨underlying280,rfl⟩,fun h=>nomatch h⟩
def RE:cC:=⟨.bb (.func #[21] #[4] lc),1,8,.nilFunc,lc⟩
theorem NW:ax prog 284 RE:=⟨aq (by kernel_rfl),⟨underlying284,rfl⟩,fun h=>nomatch h⟩
def RD:cC:=⟨.arr 7 9,7,112,.agg #[.string Y5,.string Y5,.string Y5,.string Y5,.string Y5,.string Y5,.string Y5],lc⟩
theorem NV:ax prog 289 RD:=⟨aq (by kernel_rfl),underlying289,fun h=>nomatch h⟩
def RC:cC:=⟨.bb (.pointer 5),1,8,.pointer jp,lc⟩
theorem NU:ax prog 306 RC:=⟨aq (by kernel_rfl),⟨underlying306,rfl⟩,fun h=>nomatch h⟩
def RB:cC:=⟨.arr 5 9,5,80,.agg #[.string Y5,.string Y5,.string Y5,.string Y5,.string Y5],lc⟩
theorem NT:ax prog 307 RB:=⟨aq (by kernel_rfl),underlying307,fun h=>nomatch h⟩
def RA:cC:=⟨.dw [(0,9),(1,4)],2,24,.agg #[.string Y5,.bool lc],kw⟩
theorem NS:ax prog 320 RA:=⟨aq (by kernel_rfl),⟨_,underlying320,rfl⟩,fun _=>cQ underlying320 Tryz.stoodInHeld320 Tryz.eqGuardType320 (by decide)⟩
def Rz:cC:=⟨.dw [(0,9),(1,3)],2,24,.agg #[.string Y5,.int .i64 (0)],kw⟩
theorem NR:ax prog 325 Rz:=⟨aq (by kernel_rfl),⟨_,underlying325,rfl⟩,fun _=>cQ underlying325 Tryz.stoodInHeld325 Tryz.eqGuardType325 (by decide)⟩
def Ry:cC:=⟨.bb (.unsafePointer),1,8,.pointer jp,lc⟩
theorem NQ:ax prog 327 Ry:=⟨aq (by kernel_rfl),⟨underlying327,rfl⟩,fun h=>nomatch h⟩
def Rx:cC:=⟨.arr 24 5,24,24,.agg (.replicate 24 (.int .u8 (0))),lc⟩
theorem NP:ax prog 337 Rx:=⟨aq (by kernel_rfl),underlying337,fun h=>nomatch h⟩
def Rw:cC:=⟨.arr 20 205,20,160,.agg (.replicate 20 (.int .u64 (0))),lc⟩
theorem NO:ax prog 343 Rw:=⟨aq (by kernel_rfl),underlying343,fun h=>nomatch h⟩
def Rv:cC:=⟨.arr 65 5,65,65,.agg (.replicate 65 (.int .u8 (0))),lc⟩
theorem NN:ax prog 344 Rv:=⟨aq (by kernel_rfl),underlying344,fun h=>nomatch h⟩
def Ru:cC:=⟨.arr 32 5,32,32,.agg (.replicate 32 (.int .u8 (0))),lc⟩
theorem NL:ax prog 345 Ru:=⟨aq (by kernel_rfl),underlying345,fun h=>nomatch h⟩
def Rt:cC:=⟨.arr 64 5,64,64,.agg (.replicate 64 (.int .u8 (0))),lc⟩
theorem NK:ax prog 346 Rt:=⟨aq (by kernel_rfl),underlying346,fun h=>nomatch h⟩
def J4:TT:=(.node (.node (.node (.node (.node (.node (.node .leaf 2 ty2 .leaf) 3 ty3 .leaf) 4 ty4 (.node (.node .leaf 5 ty5 .leaf) 9 ty9 .leaf)) 21 V4 (.node (.node (.node .leaf 22 V3 .leaf) 23 V2 .leaf) 25 V1 (.node (.node .leaf 33 V0 .leaf) 35 VZ .leaf))) 37 VY (.node (.node (.node (.node .leaf 47 VX .leaf) 49 VW .leaf) 53 VV (.node (.node .leaf 60 VU .leaf) 62 VT .leaf)) 71 VS (.node (.node (.node .leaf 73 VQ .leaf) 74 VP .leaf) 76 VO (.node (.node .leaf 83 VN .leaf) 84 VM .leaf)))) 88 VL (.node (.node (.node (.node (.node .leaf 91 VK .leaf) 92 VI .leaf) 94 VH (.node (.node .leaf 98 VG .leaf) 99 VF .leaf)) 101 SA (.node (.node (.node .leaf 103 Sz .leaf) 105 Sy .leaf) 110 Sx (.node (.node .leaf 113 Sv .leaf) 119 Su .leaf))) 124 Ss (.node (.node (.node (.node .leaf 133 Sr .leaf) 135 Sq .leaf) 143 Sp (.node (.node .leaf 148 Sn .leaf) 151 Sm .leaf)) 155 Sl (.node (.node (.node .leaf 156 Sk .leaf) 164 Sj .leaf) 166 Si (.node (.node .leaf 167 Sh .leaf) 169 Sg .leaf))))) 171 Sf (.node (.node (.node (.node (.node (.node .leaf 173 Se .leaf) 179 Sd .leaf) 181 Sc (.node (.node .leaf 185 Sb .leaf) 186 Sa .leaf)) 195 R9 (.node (.node (.node .leaf 203 R8 .leaf) 205 R7 .leaf) 207 R6 (.node (.node .leaf 215 R5 .leaf) 217 R4 .leaf))) 218 R3 (.node (.node (.node (.node .leaf 220 R2 .leaf) 222 R1 .leaf) 232 R0 (.node (.node .leaf 233 RZ .leaf) 237 RY .leaf)) 241 RX (.node (.node (.node .leaf 242 RW .leaf) 243 RV .leaf) 245 RU (.node (.node .leaf 247 RT .leaf) 252 RS .leaf)))) 253 RR (.node (.node (.node (.node (.node .leaf 254 RQ .leaf) 255 RP .leaf) 257 RO (.node (.node .leaf 263 RN .leaf) 265 RL .leaf)) 271 RK (.node (.node (.node .leaf 273 RJ .leaf) 274 RI .leaf) 276 RH (.node (.node .leaf 278 RG .leaf) 280 RF .leaf))) 284 RE (.node (.node (.node (.node .leaf 289 RD .leaf) 306 RC .leaf) 307 RB (.node (.node .leaf 320 RA .leaf) 325 Rz .leaf)) 327 Ry (.node (.node (.node .leaf 337 Rx .leaf) 343 Rw .leaf) 344 Rv (.node (.node .leaf 345 Ru .leaf) 346 Rt .leaf))))))
theorem Ft:J4.Xz (ax prog):=⟨OD,⟨Tn,⟨TA,⟨TG,⟨VC,⟨VD,⟨VE,ac,ac⟩,ac⟩,⟨VA,⟨VB,ac,ac⟩,ac⟩⟩,⟨TD,⟨TE,⟨TF,ac,ac⟩,ac⟩,⟨TB,⟨TC,ac,ac⟩,ac⟩⟩⟩,⟨Tt,⟨Tw,⟨Tx,⟨Tz,ac,ac⟩,ac⟩,⟨Tu,⟨Tv,ac,ac⟩,ac⟩⟩,⟨Tq,⟨Tr,⟨Ts,ac,ac⟩,ac⟩,⟨To,⟨Tp,ac,ac⟩,ac⟩⟩⟩⟩,⟨OQ,⟨OY,⟨Tk,⟨Tl,⟨Tm,ac,ac⟩,ac⟩,⟨Th,⟨Ti,ac,ac⟩,ac⟩⟩,⟨OV,⟨OW,⟨OX,ac,ac⟩,ac⟩,⟨OS,⟨OU,ac,ac⟩,ac⟩⟩⟩,⟨OJ,⟨ON,⟨OO,⟨OP,ac,ac⟩,ac⟩,⟨OK,⟨OL,ac,ac⟩,ac⟩⟩,⟨OG,⟨OH,⟨OI,ac,ac⟩,ac⟩,⟨OE,⟨OF,ac,ac⟩,ac⟩⟩⟩⟩⟩,⟨Ob,⟨Oo,⟨Ox,⟨OA,⟨OB,⟨OC,ac,ac⟩,ac⟩,⟨Oy,⟨Oz,ac,ac⟩,ac⟩⟩,⟨Ou,⟨Ov,⟨Ow,ac,ac⟩,ac⟩,⟨Oq,⟨Ot,ac,ac⟩,ac⟩⟩⟩,⟨Oh,⟨Ol,⟨Om,⟨On,ac,ac⟩,ac⟩,⟨Oi,⟨Oj,ac,ac⟩,ac⟩⟩,⟨Oe,⟨Of,⟨Og,ac,ac⟩,ac⟩,⟨Oc,⟨Od,ac,ac⟩,ac⟩⟩⟩⟩,⟨NW,⟨N5,⟨N8,⟨N9,⟨Oa,ac,ac⟩,ac⟩,⟨N6,⟨N7,ac,ac⟩,ac⟩⟩,⟨NZ,⟨N3,⟨N4,ac,ac⟩,ac⟩,⟨NX,⟨NY,ac,ac⟩,ac⟩⟩⟩,⟨NQ,⟨NT,⟨NU,⟨NV,ac,ac⟩,ac⟩,⟨NR,⟨NS,ac,ac⟩,ac⟩⟩,⟨NN,⟨NO,⟨NP,ac,ac⟩,ac⟩,⟨NK,⟨NL,ac,ac⟩,ac⟩⟩⟩⟩⟩⟩
def pC:Ty:=J4.find
theorem ab:cB prog pC:=TT.yz Ft
theorem cz:prog.follows .mixedOrders=kw:=rfl
theorem nV{Q:AQ}{nt:Nat}{k:List KI}{s:AS}{C:Prop}{b:Nat}{st:Stop}(h:b7 pC ⟨fun _=>jp,0,lc⟩ 400 nt k s True=io (C,b,st))(hC:C)(hg:gm prog b Q st):GO prog nt k Q s:=aR cz ab 400 h hC hg
theorem gA{Q:AQ}{nt:Nat}{k:List KI}{s:AS}{C:Prop}{b:Nat}{st:Stop}(h:b7 pC ⟨fun _=>jp,0,lc⟩ 400 nt k s True=io (C,b,st))(hg:gm prog b Q st)
  (hC:C:=by(repeat' (first|exact ac|exact rfl|exact aL.refl _|exact aL.bk (by assumption)|apply ZL))<;>first|omega|exact fL (fun _=>rfl) _|(simp only[Zs];omega)|(simp;done)|(simp;omega)):GO prog nt k Q s:=aR cz ab 400 h hC hg
theorem gM(N:Nat){Q:AQ}{nt:Nat}{k:List KI}{s:AS}{C:Prop}{b:Nat}{st:Stop}(h:b7 pC ⟨fun _=>jp,0,lc⟩ N nt k s True=io (C,b,st))(hg:gm prog b Q st)
  (hC:C:=by(repeat' (first|exact ac|exact rfl|exact aL.refl _|exact aL.bk (by assumption)|apply ZL))<;>first|omega|exact fL (fun _=>rfl) _|(simp only[Zs];omega)|(simp;done)|(simp;omega)):GO prog nt k Q s:=aR cz ab N h hC hg
theorem zp{nt:Nat}{Q:AQ}{k:List KI}{s:AS}{all rest:List Oper}{o:Oper}{c:Call}{g:FuncId}{args:List PV}{r:PV}{s':AS}(hc:Al.Pure prog g args r)(h:GO prog nt (.ops all rest::k) Q s')(ho:o.op= .call c:=by exact rfl)(hg:o.guard=jp:=by exact rfl)(ha:bY s.f c=io (g,args):=by exact rfl)(b:bq 0 args=kw:=by exact rfl)(hr:r.low 0=kw:=by exact rfl)(hp:putDst nt o r s=io s':=by exact rfl):GO prog nt (.ops all (o::rest)::k) Q s:=bj hc ho hg ha b hr hp h
theorem zL{ty:Ty}{j:List ResultVar}{e:Exit}{s:AS}{r d:PV}(b:aL d r)(he:e= .normal∨e= .ret:=by first|exact .inr Z|exact .inl Z)(h:lv ty s j=io d:=by exact rfl):Fl ty j r e s:=jx he h b
theorem zq{nt:Nat}{Q:AQ}{k:List KI}{s:AS}{all rest:List Oper}{o:Oper}{c:Call}{g:FuncId}{asv args:List PV}{os:List AO}{r:PV}{u:AH}{x:Nat}{s':AS}(L:List Nat)(hc:bV prog g args os r u x)(h:GO prog nt (.ops all rest::k) Q s')(ho:o.op= .call c:=by exact rfl)(hg:o.guard=jp:=by exact rfl)(ha:bY s.f c=io (g,asv):=by exact rfl)(hn:b4 L=kw:=by exact rfl)(y:L.all (fun j=>Zk j s.nx)=kw:=by exact rfl)(d:L.map s.h.get=os.map fun o=>io (o.db (sig L s.nx)):=by exact rfl)(b:asv=dL (sig L s.nx) args:=by exact rfl)(hp:putDst nt o (r.db (sig L s.nx)) (aO s L u x)=io s':=by exact rfl):GO prog nt (.ops all (o::rest)::k) Q s:=bI L hc ho hg ha hn y d b hp h
theorem zd{nt:Nat}{Q:AQ}{k:List KI}{s:AS}{all:List Oper}{todo pend:List (Nat×Oper)}{j:Nat}{o:Oper}{c:Call}{g:FuncId}{asv args:List PV}{os:List AO}{r:PV}{A:AH}{B:Nat}{s':AS}{y u:Prop}(L:List Nat)(hc:bV prog g args os r A B)(h:GO prog nt (.cW all (todo.filter fun x=>!Zt x.1 j) (bn pend o)::k) Q s')(hrd:fp todo=[(j,o)]:=by exact rfl)(ho:o.op= .call c:=by exact rfl)(ha:bY s.f c=io (g,asv):=by exact rfl)(hn:b4 L=kw:=by exact rfl)(D:L.all (fun j=>Zk j s.nx)=kw:=by exact rfl)(d:L.map s.h.get=os.map fun o=>io (o.db (sig L s.nx)):=by exact rfl)(b:asv=dL (sig L s.nx) args:=by exact rfl)(hp:putDst nt o (r.db (sig L s.nx)) (aO s L A B)=io s':=by exact rfl)(hg:cH nt all s.f o=io kw:=by exact rfl)(hpb:jI all pend o=kw:=by exact rfl)(hE:ph todo [j]=kw:=by exact rfl)(hag:tE pC nt all s todo pend=io y:=by exact rfl)(hCA:y:=by(repeat' (first|exact ac|exact rfl|exact aL.refl _|exact aL.bk (by assumption)|apply ZL))<;>first|omega|(simp only[Zs];omega)|(simp;done)|(simp;omega))(hag2:eB pC nt all s' (bn pend o)=io u:=by exact rfl)(hC2:u:=by(repeat' (first|exact ac|exact rfl|exact aL.refl _|exact aL.bk (by assumption)|apply ZL))<;>first|omega|(simp only[Zs];omega)|(simp;done)|(simp;omega)):GO prog nt (.cW all todo pend::k) Q s:=Cv ab L hc hrd ho ha hn D d b hp hg hpb hE hag hCA hag2 hC2 h
theorem n7{nt:Nat}{Q:AQ}{k:List KI}{s:AS}{all:List Oper}{todo pend:List (Nat×Oper)}{j:Nat}{o:Oper}{c:Call}{g:FuncId}{asv args:List PV}{r:PV}{s':AS}{u d:Prop}(hc:Al.Pure prog g args r)(h:GO prog nt (.cW all (todo.filter fun x=>!Zt x.1 j) (bn pend o)::k) Q s')(hrd:fp todo=[(j,o)]:=by exact rfl)(ho:o.op= .call c:=by exact rfl)(ha:bY s.f c=io (g,asv):=by exact rfl)(b:asv=dL (sig [] s.nx) args:=by exact rfl)(hp:putDst nt o (r.db (sig [] s.nx)) (aO s [] [] 0)=io s':=by exact rfl)(hg:cH nt all s.f o=io kw:=by exact rfl)(hpb:jI all pend o=kw:=by exact rfl)(hE:ph todo [j]=kw:=by exact rfl)(hag:tE pC nt all s todo pend=io u:=by exact rfl)(hCA:u:=by(repeat' (first|exact ac|exact rfl|exact aL.refl _|exact aL.bk (by assumption)|apply ZL))<;>first|omega|(simp only[Zs];omega)|(simp;done)|(simp;omega))(hag2:eB pC nt all s' (bn pend o)=io d:=by exact rfl)(hC2:d:=by(repeat' (first|exact ac|exact rfl|exact aL.refl _|exact aL.bk (by assumption)|apply ZL))<;>first|omega|(simp only[Zs];omega)|(simp;done)|(simp;omega)):GO prog nt (.cW all todo pend::k) Q s:=Cv ab [] hc.det hrd ho ha Z Z Z b hp hg hpb hE hag hCA hag2 hC2 h
theorem zW{n0:Nat}{L:List Nat}{s t:AS}(hh:n6 t.nx (sg n0 L) s.h t.h)(h1:Zt t.nx (n0+L.length)=kw:=by exact rfl)(h2:aaV n0 s.nx=kw:=by exact rfl)(h3:L.all (fun j=>Zk j s.nx)=kw:=by exact rfl)(hf:GD t.nx (sg n0 L) s.f t.f:=by repeat' (first|exact ac|exact aL.refl _|exact rfl|apply ZL))(b:b4 (en (sg n0 L) t.h)=kw:=by exact rfl):Wk n0 L s t:=wk h1 h2 h3 hf hh b
theorem zM{n0:Nat}{L:List Nat}{s t:AS}(hf:GD t.nx (sg n0 L) s.f t.f)(hh:n6 t.nx (sg n0 L) s.h t.h)(h1:Zt t.nx (n0+L.length)=kw:=by exact rfl)(h2:aaV n0 s.nx=kw:=by exact rfl)(h3:L.all (fun j=>Zk j s.nx)=kw:=by exact rfl)(b:b4 (en (sg n0 L) t.h)=kw:=by exact rfl):Wk n0 L s t:=wk h1 h2 h3 hf hh b
theorem zK{n i:Nat}{σ:Nat->Nat}{h r:AH}{cs:List PV}{T0:Option TypeId}{c:List IV}(hr:n6 n σ h r)(ho:h.get (σ i)=io (.cells cs T0):=by exact rfl)(he:cs=c.map .iv:=by exact rfl)(hi:Zk i n=kw:=by exact rfl):n6 n σ h ((i,io (an c))::r):=hC ho he hi hr
theorem zS{n i:Nat}{σ:Nat->Nat}{h r:AH}{α:Type}{sz:Nat}{es:List (List PV)}{l:List α}{f:α->List IV}(hr:n6 n σ h r)(ho:h.get (σ i)=io (.row sz es):=by exact rfl)(he:es=l.map fun x=>(f x).map .iv:=by exact rfl)(hi:Zk i n=kw:=by exact rfl):n6 n σ h ((i,io (aG sz l f))::r):=hR ho he hi hr
theorem zI{a b:Prop}(l:a)(r:b):a∧b:=⟨l,r⟩
theorem zO{n i:Nat}{σ:Nat->Nat}{h r:AH}{o:AO}(hr:n6 n σ h r)(he: ∃p,h.get (σ i)=io p∧gi p (o.db σ):=by exact⟨_,rfl,.of_eq Z⟩)(hi:i<n:=by exact YY Z)(b:o.low n:=by exact rfl):n6 n σ h ((i,io o)::r):=⟨he,hi,b,hr⟩
theorem zD{ty:Ty}{s:AS}{l:List ResultVar}{m:Nat}{r b:PV}{h:AH}{n:Nat}{e:Exit}(L:List Nat)(hr:lv ty s l=io b)(hw:Wk m L ⟨[(0,b)],s.h,s.nx⟩ ⟨[(0,r)],h,n⟩)(he:e= .normal∨e= .ret:=by first|exact .inr Z|exact .inl Z):CT ty l m r h n e s:=eU L he hr hw
theorem zU{ty:Ty}{j:List ResultVar}{nt:Nat}{k:List KI}{s s':AS}{e:Exit}{C:Prop}{b:Nat}{r d:PV}(h:b7 pC ⟨fun _=>jp,0,lc⟩ 400 nt k s True=io (C,b,.fin e s'))(hr:d=r:=by exact rfl)(he:e= .normal∨e= .ret:=by first|exact .inr Z|exact .inl Z)(h1:lv ty s' j=io d:=by exact rfl)(hC:C:=by(repeat' (first|exact ac|exact rfl|exact aL.refl _|exact aL.bk (by assumption)|apply ZL))<;>first|omega|exact fL (fun _=>rfl) _|(simp only[Zs];omega)|(simp;done)|(simp;omega)):GO prog nt k (Fl ty j r) s:=gA h (jx he h1 (.of_eq hr)) hC
theorem zC{n i:Nat}{σ:Nat->Nat}{h r:AH}{V:Type}{kc:KC}{ev:V->IV}{z:V}{j:Value}{b:PV->V}{m d:List (kc.K×V)}(hr:n6 n σ h r)(ho:h.get (σ i)=io (.map kc ev z j b m):=by exact rfl)(he:m=d:=by exact rfl)(hi:Zk i n=kw:=by exact rfl):n6 n σ h ((i,io (.map kc ev z j b d))::r):=hM ho he hi hr
theorem zJ{Q:AQ}{nt:Nat}{k:List KI}{s:AS}{C:Prop}{d:Nat}{st:Stop}{a b:Prop}(h:b7 pC ⟨fun _=>jp,0,lc⟩ 400 nt k s True=io (C,d,st))(e:gm prog d Q st=(a∧b))(l:a)(r:b)(hC:C:=by(repeat' (first|exact ac|exact rfl|exact aL.refl _|exact aL.bk (by assumption)|apply ZL))<;>first|omega|exact fL (fun _=>rfl) _|(simp only[Zs];omega)|(simp;done)|(simp;omega)):GO prog nt k Q s:=gA h (e.mpr ⟨l,r⟩) hC
theorem zE{Q:AQ}{nt:Nat}{k:List KI}{s:AS}{C:Prop}{d:Nat}{st:Stop}{a b:Prop}(h:b7 pC ⟨fun _=>jp,0,lc⟩ 400 nt k s True=io (C,d,st))(e:gm prog d Q st=(a∧b))(r:b)(l:a)(hC:C:=by(repeat' (first|exact ac|exact rfl|exact aL.refl _|exact aL.bk (by assumption)|apply ZL))<;>first|omega|exact fL (fun _=>rfl) _|(simp only[Zs];omega)|(simp;done)|(simp;omega)):GO prog nt k Q s:=gA h (e.mpr ⟨l,r⟩) hC
theorem zA{b:Bool}(h:(!b)=kw):b=lc:=by simpa using h
theorem zB{b:Bool}(h:(!b)=lc):b=kw:=by simpa using h
theorem zX{p:Prop}[Decidable p](h:(!decide p)=kw): ¬p:=by simpa using h
theorem zY{p:Prop}[Decidable p](h:(!decide p)=lc):p:=by simpa using h
theorem zT{p:Prop}[Decidable p](h:decide p=kw):p:=of_decide_eq_true h
theorem zF{p:Prop}[Decidable p](h:decide p=lc): ¬p:=of_decide_eq_false h
theorem zN{a b:Nat}(h:li ((a:Int)<(b:Int))=kw):a<b:=Int.ofNat_lt.1 (of_decide_eq_true h)
theorem zG{a b:Nat}(h:li ((a:Int)<(b:Int))=lc):b<=a:=aa2 fun hh=>absurd (Int.ofNat_lt.2 hh) (of_decide_eq_false h)
end Go.Proofs.YtflegjieadkonaaGreatDoor
namespace Go.Proofs.YtflegjieadkonaaGreatDoor
open Go Go.Al
abbrev aj:=ByteArray
structure tG where
 kind:Int
 num:Int
 sym:aj
 deriving Inhabited,DecidableEq
structure Term where
 kind:Int
 var:aj
 val:tG
 deriving Inhabited,DecidableEq
inductive Expr where
 |mk (kind:Int) (var:aj) (val:tG) (op:Int) (args:List Expr)
instance:Inhabited Expr:=⟨.mk 0 Y5 ⟨0,0,Y5⟩ 0 []⟩
def Expr.kind:Expr->Int| .mk k _ _ _ _=>k
def Expr.var:Expr->aj| .mk _ v _ _ _=>v
def Expr.val:Expr->tG| .mk _ _ v _ _=>v
def Expr.op:Expr->Int| .mk _ _ _ o _=>o
def Expr.args:Expr->List Expr| .mk _ _ _ _ a=>a
structure Atom where
 rel:aj
 ad:List Term
 deriving Inhabited,DecidableEq
structure Pos where
 line:Int
 zu:Int
 deriving Inhabited,DecidableEq
inductive Lit where
 |mk (kind:Int) (atom:Atom) (op:Int) (left right:Expr) (c7:Int) (a7:aj) (jR:Expr) (ar:List Lit) (at_:Pos)
instance:Inhabited Lit:=⟨.mk 0 em 0 em em 0 Y5 em [] ⟨0,0⟩⟩
def Lit.kind:Lit->Int| .mk k _ _ _ _ _ _ _ _ _=>k
def Lit.atom:Lit->Atom| .mk _ a _ _ _ _ _ _ _ _=>a
def Lit.op:Lit->Int| .mk _ _ o _ _ _ _ _ _ _=>o
def Lit.left:Lit->Expr| .mk _ _ _ l _ _ _ _ _ _=>l
def Lit.right:Lit->Expr| .mk _ _ _ _ r _ _ _ _ _=>r
def Lit.c7:Lit->Int| .mk _ _ _ _ _ f _ _ _ _=>f
def Lit.a7:Lit->aj| .mk _ _ _ _ _ _ v _ _ _=>v
def Lit.jR:Lit->Expr| .mk _ _ _ _ _ _ _ o _ _=>o
def Lit.ar:Lit->List Lit| .mk _ _ _ _ _ _ _ _ b _=>b
def Lit.at:Lit->Pos| .mk _ _ _ _ _ _ _ _ _ p=>p
structure eK where
 func:Int
 var:aj
 dY:Expr
 body:List Lit
 deriving Inhabited
def Lit.agg(l:Lit):eK:=⟨l.c7,l.a7,l.jR,l.ar⟩
structure ah where
 head:Atom
 body:List Lit
 at_:Pos
 deriving Inhabited
structure Decl where
 name:aj
 types:List Int
 at_:Pos
 deriving Inhabited
structure Prog where
 aD:List Decl
 rules:List ah
 deriving Inhabited
structure Fact where
 rel:aj
 args:List tG
 deriving Inhabited
def tG.c(v:tG):List IV:=[iI v.kind,iI v.num,iS v.sym]
def Term.c(t:Term):List IV:=[iI t.kind,iS t.var,iI t.val.kind,iI t.val.num,iS t.val.sym]
def cM(s:aj):List IV:=[iS s]
def ba(n:Int):List IV:=[iI n]
abbrev strs(l:List aj):IV:=cZ 1 l cM
def Atom.c(a:Atom):List IV:=[iS a.rel,cZ 5 a.ad Term.c]
mutual
def Expr.cr:Expr->List IV
 | .mk k v val op args=> [iI k,iS v,iI val.kind,iI val.num,iS val.sym,iI op,.dh 7 args.length (fun j=>(Expr.CH args).getD j [])]
def Expr.CH:List Expr->List (List IV)
 | []=> []
 |e::r=>e.cr::Expr.CH r
end
def Expr.c(e:Expr):List IV:=[iI e.kind,iS e.var,iI e.val.kind,iI e.val.num,iS e.val.sym,iI e.op,.dh 7 e.args.length (fun j=>(Expr.CH e.args).getD j [])]
def Expr.c1(e:Expr):List IV:=[iI e.kind,iS e.var,iI e.val.kind,iI e.val.num,iS e.val.sym,iI e.op,cZ 7 e.args Expr.c]
theorem Expr.MI(e:Expr):e.cr=e.c:=by cases e;rfl
theorem Expr.tw: ∀(l:List Expr) (k:Nat),k<l.length->(Expr.CH l).getD k []=(l.getD k em).c
 |e::r,0,_=>by simp[Expr.CH,Expr.MI]
 |e::r,k+1,h=>by simpa[Expr.CH]using Expr.tw r k (by simpa using h)
 | [],k,h=>by simp at h
theorem UP(e:Expr):oL (.dh 7 e.args.length (fun j=>(Expr.CH e.args).getD j [])) (cZ 7 e.args Expr.c):= .dh Z (Expr.tw e.args)
theorem HV(e:Expr):oL (cZ 7 e.args Expr.c) (.dh 7 e.args.length (fun j=>(Expr.CH e.args).getD j [])):= .dh Z (fun k b=>(Expr.tw e.args k b).symm)
mutual
def Lit.cr:Lit->List IV
 | .mk kind atom op left right c7 a7 jR ar at_=>
  iI kind::(atom.c++(iI op::(left.c++(right.c++(iI c7::iS a7::(jR.c++ [.dh 30 ar.length (fun j=>(Lit.CH ar).getD j []),iI at_.line,iI at_.zu]))))))
def Lit.CH:List Lit->List (List IV)
 | []=> []
 |e::r=>e.cr::Lit.CH r
end
def Lit.cw(l:Lit)(b:IV):List IV:=
 [iI l.kind,iS l.atom.rel,cZ 5 l.atom.ad Term.c,iI l.op,
  iI l.left.kind,iS l.left.var,iI l.left.val.kind,iI l.left.val.num,iS l.left.val.sym,iI l.left.op,.dh 7 l.left.args.length (fun j=>(Expr.CH l.left.args).getD j []),
  iI l.right.kind,iS l.right.var,iI l.right.val.kind,iI l.right.val.num,iS l.right.val.sym,iI l.right.op,.dh 7 l.right.args.length (fun j=>(Expr.CH l.right.args).getD j []),
  iI l.c7,iS l.a7,
  iI l.jR.kind,iS l.jR.var,iI l.jR.val.kind,iI l.jR.val.num,iS l.jR.val.sym,iI l.jR.op,.dh 7 l.jR.args.length (fun j=>(Expr.CH l.jR.args).getD j []),
  b,iI l.at.line,iI l.at.zu]
def E7(l:List Lit):IV:= .dh 30 l.length (fun j=>(Lit.CH l).getD j [])
def Lit.c(l:Lit):List IV:=l.cw (E7 l.ar)
abbrev lits(l:List Lit):IV:=cZ 30 l Lit.c
def Lit.c1(l:Lit):List IV:=l.cw (lits l.ar)
theorem Lit.MI(e:Lit):e.cr=e.c:=by cases e;rfl
theorem Lit.tw: ∀(l:List Lit) (k:Nat),k<l.length->(Lit.CH l).getD k []=(l.getD k em).c
 |e::r,0,_=>by simp[Lit.CH,Lit.MI]
 |e::r,k+1,h=>by simpa[Lit.CH]using Lit.tw r k (by simpa using h)
 | [],k,h=>by simp at h
theorem nS(l:List Lit):oL (E7 l) (lits l):= .dh Z (Lit.tw l)
theorem Lt(l:List Lit):oL (lits l) (E7 l):= .dh Z (fun k b=>(Lit.tw l k b).symm)
def eK.cw(a:eK)(b:IV):List IV:=[iI a.func,iS a.var,iI a.dY.kind,iS a.dY.var,iI a.dY.val.kind,iI a.dY.val.num,iS a.dY.val.sym,iI a.dY.op,.dh 7 a.dY.args.length (fun j=>(Expr.CH a.dY.args).getD j []),b]
def eK.c(a:eK):List IV:=a.cw (E7 a.body)
def eK.c1(a:eK):List IV:=a.cw (lits a.body)
def ah.c(r:ah):List IV:=[iS r.head.rel,cZ 5 r.head.ad Term.c,lits r.body,iI r.at_.line,iI r.at_.zu]
def Decl.c(r:Decl):List IV:=[iS r.name,cZ 1 r.types ba,iI r.at_.line,iI r.at_.zu]
def Prog.c(p:Prog):List IV:=[cZ 4 p.aD Decl.c,cZ 5 p.rules ah.c]
def Fact.c(f:Fact):List IV:=[iS f.rel,cZ 3 f.args tG.c]
theorem Expr.zr(e:Expr):aL (ag e.c) (ag e.c1):= .agg ⟨.refl _,.refl _,.refl _,.refl _,.refl _,.refl _,.iv (UP e),ac⟩
theorem Expr.LB(e:Expr):aL (ag e.c1) (ag e.c):= .agg ⟨.refl _,.refl _,.refl _,.refl _,.refl _,.refl _,.iv (HV e),ac⟩
theorem Lit.H0(l:Lit){b b':IV}(h:oL b b'):aL (ag (l.cw b)) (ag (l.cw b')):=
 .agg ⟨.refl _,.refl _,.refl _,.refl _,.refl _,.refl _,.refl _,.refl _,.refl _,.refl _,.refl _,.refl _,.refl _,.refl _,.refl _,.refl _,.refl _,.refl _,.refl _,.refl _,.refl _,.refl _,.refl _,.refl _,.refl _,.refl _,.refl _,.iv h,.refl _,.refl _,ac⟩
theorem Lit.zr(l:Lit):aL (ag l.c) (ag l.c1):=l.H0 (nS _)
theorem eK.H0(l:eK){b b':IV}(h:oL b b'):aL (ag (l.cw b)) (ag (l.cw b')):=
 .agg ⟨.refl _,.refl _,.refl _,.refl _,.refl _,.refl _,.refl _,.refl _,.refl _,.iv h,ac⟩
theorem eK.zr(l:eK):aL (ag l.c) (ag l.c1):=l.H0 (nS _)
theorem eK.LB(l:eK):aL (ag l.c1) (ag l.c):=l.H0 (Lt _)
mutual
def Expr.size:Expr->Nat
 | .mk _ _ _ _ args=>1+Expr.aA args
def Expr.aA:List Expr->Nat
 | []=>0
 |e::r=>e.size+Expr.aA r
end
mutual
def Lit.size:Lit->Nat
 | .mk _ a _ l r _ _ o b _=>2+a.ad.length+l.size+r.size+o.size+Lit.aA b
def Lit.aA:List Lit->Nat
 | []=>0
 |e::r=>e.size+Lit.aA r
end
theorem Expr.size_eq(e:Expr):e.size=1+Expr.aA e.args:=by cases e;rfl
theorem Lit.size_eq(l:Lit):l.size=2+l.atom.ad.length+l.left.size+l.right.size+l.jR.size+Lit.aA l.ar:=by cases l;rfl
theorem Expr.aI: ∀(l:List Expr) (k:Nat),k<l.length->(l.getD k em).size<=Expr.aA l
 |e::r,0,_=>by simp[Expr.aA]
 |e::r,k+1,h=>by
  have:=Expr.aI r k (by simpa using h);simp only[aap,Expr.aA];omega
 | [],k,h=>by simp at h
theorem Lit.aI: ∀(l:List Lit) (k:Nat),k<l.length->(l.getD k em).size<=Lit.aA l
 |e::r,0,_=>by simp[Lit.aA]
 |e::r,k+1,h=>by
  have:=Lit.aI r k (by simpa using h);simp only[aap,Lit.aA];omega
 | [],k,h=>by simp at h
theorem Expr.size_pos(e:Expr):1<=e.size:=by rw[e.size_eq];omega
theorem Lit.size_pos(e:Lit):2<=e.size:=by rw[e.size_eq];omega
theorem Expr.au: ∀(l:List Expr),l.length<=Expr.aA l
 | []=>Y7 _
 |e::r=>by have:=e.size_pos;have:=Expr.au r;simp only[ZA,Expr.aA];omega
theorem Lit.au: ∀(l:List Lit),l.length<=Lit.aA l
 | []=>Y7 _
 |e::r=>by have:=e.size_pos;have:=Lit.au r;simp only[ZA,Lit.aA];omega
def ah.size(r:ah):Nat:=r.head.ad.length+Lit.aA r.body
end Go.Proofs.YtflegjieadkonaaGreatDoor
namespace Go.Proofs.YtflegjieadkonaaGreatDoor
open Go Go.Al Go.Proofs.Tryz
def aE(l:List aj)(s:aj):Bool:=l.any fun x=>li (x=s)
theorem JE(l:List aj)(s:aj):Pure prog 212 [.iv (strs l),pS s] (pB (aE l s)):=by
 refine my (bH func212 Z (by decide)) ⟨_,_,Zh⟩ fun d=>?_;simp only[maxLen]at d;refine ae ab func212 Z (by decide) ntmps212 Z (by simp) Z ?_;refine aR cz ab 100 Z ac ?_;refine az 0 l.length (Y8 _) (fun i=>⟨[(0,.iv (strs l)),(1,pS s),(5,pI i)],[],0⟩) (fun i=>aE (l.take i) s=lc) [] Z (mZ Z Z (bv (bv (bv ac))) Z) fun i x u=>?_;refine aR cz ab 100 Z ac ?_;refine zI (fun b=>?_) (fun b=>?_)
 .have b:=ci b;refine aR cz ab 100 Z ⟨ac,by omega⟩ ?_;refine zI (fun j=>?_) (fun j=>?_)
  .refine aR cz ab 100 Z ac ?_;refine jx (.inr Z) Z (.of_eq ?_);rw[aE,iN b j]
  .refine aR cz ab 100 Z ⟨ac,by unfold jj;omega⟩ ?_;exact⟨b,(aW u b).2 j,[],mZ Z Z (bv (bv (bv ac))) Z⟩
 .have b:=co b;refine aR cz ab 100 Z ac ?_;refine jx (.inr Z) Z (.of_eq ?_);rw[aE,any_none u b]
def bW(s:aj)(a:List aj×Bool)(x:aj):List aj×Bool:=
 if(a.2||decide (x=s))=lc∧(!(Op.bytesLess x.toList s.toList||decide (x=s)))=kw then(a.1++ [s]++ [x],kw) else(a.1++ [x],a.2||decide (x=s))
def b6(l:List aj)(s:aj):List aj:=
 let r:=l.foldl (bW s) ([],lc)
 if r.2 then r.1 else r.1++ [s]
def iO(l:List aj)(s:aj)(i:Nat):List aj×Bool:=(l.take i).foldl (bW s) ([],lc)
theorem sA{l:List aj}{s:aj}{i:Nat}(h:i<l.length):iO l s (i+1)=bW s (iO l s i) (l.getD i em):=cI h
theorem sB{l:List aj}{s:aj}{i:Nat}(h:l.length<=i):b6 l s=if(iO l s i).2 then(iO l s i).1 else(iO l s i).1++ [s]:=by
 simp only[iO,l0 h];rfl
theorem By(s:aj)(a:List aj×Bool)(x:aj)(n:Nat)(h:a.1.length<=n+(if a.2 then 1 else 0)):(bW s a x).1.length<=(n+1)+(if(bW s a x).2 then 1 else 0):=by
 obtain⟨b,a2⟩:=a;simp only[bW];cases a2<;>cases hd:li (x=s)<;>simp only[aag,abx,aaz,if_false,if_true,aaD,aba,false_and,true_and,reduceCtorEq]at h ⊢ <;>(try split)<;>simp at h ⊢ <;>omega
theorem ra(l:List aj)(s:aj): ∀i,i<=l.length->(iO l s i).1.length<=i+(if(iO l s i).2 then 1 else 0)
 |0,_=>by simp[iO]
 |i+1,h=>by
  rw[sA (by omega)];exact By s _ _ i (ra l s i (by omega))
theorem Nt(l:List aj)(s:aj)(hb:l.length<=1000000000000):Pure prog 111 [.iv (strs l),pS s] (.iv (strs (b6 l s))):=by
 refine ae ab func111 Z (by decide) ntmps111 Z (by simp) Z ?_;refine aR cz ab 100 Z ac ?_;refine fU 5 1 Z ?_;refine az 0 l.length (Y8 _) (fun i=>⟨[(0,.iv (strs l)),(1,pS s),(5,.sl 1 0 (iO l s i).1.length 1),(6,pB (iO l s i).2),(7,pI i)],[(1,io (aG 1 (iO l s i).1 cM))],2⟩) (fun _=>True) [0] ac
  (zM (bv (bv (bv ⟨.rA Z,rfl,bv trivial⟩))) (zS trivial)) fun i D F=>?_
 have y:=ra l s i D;have B:(iO l s i).1.length<=i+1:=by split at y<;>omega
 refine aR cz ab 100 Z ac ?_;refine zI (fun j=>?_) (fun j=>?_)
 .have j:=ci j;have b:=sA (s:=s) j;simp only[bW]at b;refine aR cz ab 100 Z ⟨ac,by omega⟩ ?_;refine zI (fun d=>?_) (fun d=>?_)
  .have d:li (l.getD i em=s)=kw:=d;rw[d,aba,be (by simp)]at b;refine aR cz ab 300 Z ?_ ⟨j,ac,[3],zM (bv (bv ⟨.row (by rw[b];simp),rfl,.rA (by rw[b]),rfl,bv ac⟩)) (hR Z (by rw[b];simp;rfl) Z ac)⟩
   repeat' (first|exact ac|exact rfl|apply ZL)
   all_goals first|omega|(simp;omega)|simp
  .have d:li (l.getD i em=s)=lc:=d;rw[d,aaD,aaD]at b;refine aR cz ab 300 Z ac ?_;refine zI (fun A=>?_) (fun A=>?_)
   .have x:(iO l s i).2=lc:=by simpa using A
    refine aR cz ab 300 Z ?_ ?_
    .repeat' (first|exact ac|exact rfl|apply ZL)
     all_goals omega
    refine zI (fun u=>?_) (fun u=>?_)
    .have u:(!(Op.bytesLess (l.getD i em).toList s.toList||decide (l.getD i em=s)))=kw:=u;rw[d,aaD]at u;rw[am ⟨x,u⟩]at b;refine aR cz ab 300 Z ?_ ⟨j,ac,[5],zM (bv (bv ⟨.row (by rw[b];simp),rfl,.rA (by rw[b]),rfl,bv ac⟩)) (hR Z (by rw[b,Y6,Y6];rfl) Z ac)⟩
     repeat' (first|exact ac|exact rfl|apply ZL)
     all_goals first|omega|(simp;omega)|simp
    .have u:(!(Op.bytesLess (l.getD i em).toList s.toList||decide (l.getD i em=s)))=lc:=u;rw[d,aaD]at u;rw[be (by rw[u];simp)]at b;refine aR cz ab 300 Z ?_ ⟨j,ac,[3],zM (bv (bv ⟨.row (by rw[b];simp),rfl,.of_eq (by rw[b];rfl),rfl,bv ac⟩)) (hR Z (by rw[b];simp;rfl) Z ac)⟩
     repeat' (first|exact ac|exact rfl|apply ZL)
     all_goals first|omega|(simp;omega)|simp
   .have x:(iO l s i).2=kw:=by simpa using A
    rw[be (by rw[x];simp)]at b;refine aR cz ab 300 Z ?_ ⟨j,ac,[3],zM (bv (bv ⟨.row (by rw[b];simp),rfl,.of_eq (by rw[b];rfl),rfl,bv ac⟩)) (hR Z (by rw[b];simp;rfl) Z ac)⟩
    repeat' (first|exact ac|exact rfl|apply ZL)
    all_goals first|omega|(simp;omega)|simp
 .have j:=co j;have b:=sB (s:=s) j;refine aR cz ab 100 Z ac ?_;refine zI (fun d=>?_) (fun d=>?_)
  .have d:(iO l s i).2=lc:=by simpa using d
   rw[d,be (by simp)]at b;refine aR cz ab 300 Z ?_ (cx (.inr Z) Z Z (by rw[b];simp;rfl) (by rw[b];simp))
   repeat' (first|exact ac|exact rfl|apply ZL)
   all_goals first|omega|(simp;omega)|simp
  .have d:(iO l s i).2=kw:=by simpa using d
   rw[d,am Z]at b;refine aR cz ab 300 Z ac (cx (.inr Z) Z Z (by rw[b]) (by rw[b]))
theorem jA(l:List aj)(s:aj):(b6 l s).length<=l.length+1:=by
 have h:=ra l s l.length (Y7 _);rw[sB (Y7 _)];split
 .rename_i b;rw[b]at h;simpa using h
 .rename_i b;simp[b]at h;simp;omega
def cv(l m:List aj):List aj:=m.foldl b6 l
theorem eL: ∀(m l:List aj),(cv l m).length<=l.length+m.length
 | [],l=>by simp[cv]
 |x::r,l=>by
  have d:=jA l x;have b:=eL r (b6 l x);simp only[cv,Zw,ZA]at b ⊢;omega
theorem uS(l m:List aj)(i:Nat):(cv l (m.take i)).length<=l.length+m.length:=by
 have:=eL (m.take i) l;have b:(m.take i).length<=m.length:=by simp;omega
 omega
theorem Bz{l m:List aj}{i:Nat}(h:i<m.length):cv l (m.take (i+1))=b6 (cv l (m.take i)) (m.getD i em):=cI h
theorem U0(l m:List aj)(hb:l.length+m.length<=1000000000000):Pure prog 120 [.iv (strs l),.iv (strs m)] (.iv (strs (cv l m))):=by
 refine ae ab func120 Z (by decide) ntmps120 Z (by simp) Z ?_;refine aR cz ab 100 Z ac ?_;refine az 0 m.length (Y8 _) (fun i=>⟨[(0,.iv (strs (cv l (m.take i)))),(1,.iv (strs m)),(5,pI i)],[],0⟩) (fun _=>True) [] ac (mZ Z Z (bv (bv (bv ac))) Z) fun i j d=>?_;have u:=uS l m i;refine aR cz ab 100 Z ac ?_;refine zI (fun b=>?_) (fun b=>?_)
 .have b:=ci b;refine aR cz ab 100 Z ⟨ac,by omega⟩ (bj (Nt _ _ (by omega)) Z Z Z Z Z Z ?_);refine aR cz ab 100 Z ⟨ac,by unfold jj;omega⟩ ?_;exact⟨b,ac,[],mZ Z Z ⟨.of_eq (by rw[Bz b];rfl),rfl,bv (bv ac)⟩ Z⟩
 .have b:=co b;refine aR cz ab 100 Z ac (jx (.inr Z) Z (.of_eq ?_));rw[Za b];rfl
theorem X3(s:aj):Pure prog 111 [.iv (.v (.slice jp 0 0)),pS s] (.iv (strs (b6 [] s))):=(Nt [] s (by decide)).le ⟨.nil _ _,.refl _,ac⟩
def lh(a:List aj)(t:Term):List aj:=if t.kind=1 then b6 a t.var else a
def bg(a:Atom):List aj:=a.ad.foldl lh []
theorem Fu: ∀(l:List Term) (a:List aj),(l.foldl lh a).length<=a.length+l.length
 | [],a=>by simp
 |t::r,a=>by
  have h:=Fu r (lh a t);have b:(lh a t).length<=a.length+1:=by
   unfold lh;split
   .exact jA _ _
   .omega
  simp only[Zw,ZA];omega
theorem cY(a:Atom):(bg a).length<=a.ad.length:=by have:=Fu a.ad [];simpa[bg]using this
theorem QS(a:Atom)(hb:a.ad.length<=1000000000000):Pure prog 77 [ag a.c] (.iv (strs (bg a))):=by
 refine ae ab func77 Z (by decide) ntmps77 Z (by simp) Z ?_;refine aR cz ab 100 Z ac ?_;refine az 0 a.ad.length (Y8 _) (fun i=>⟨[(1,.ptr 0 0),(3,.iv (strs ((a.ad.take i).foldl lh []))),(4,pI i)],[(0,io (an a.c))],1⟩) (fun _=>True) [] ac
  (zM (bv ⟨.nil _ _,rfl,bv trivial⟩) (zK trivial)) fun i A y=>?_
 have x:=Fu (a.ad.take i) [];simp only[aad,ZP]at x;refine aR cz ab 100 Z ac ?_;refine zI (fun d=>?_) (fun d=>?_)
 .have d:=ci d;have u:=cI (g:=lh) (b:=[]) d;simp only[lh]at u;refine aR cz ab 100 Z ⟨ac,by omega⟩ ?_;refine zI (fun j=>?_) (fun j=>?_)
  .have j:(a.ad.getD i em).kind=1:=zT j;rw[am j]at u;refine aR cz ab 100 Z ⟨ac,by omega⟩ (bj (Nt _ _ (by omega)) Z Z Z Z Z Z ?_);refine aR cz ab 100 Z ⟨ac,by unfold jj;omega⟩ ?_;exact⟨d,ac,[],zM (bv ⟨.of_eq (by simp only[u];rfl),rfl,bv ac⟩) (zK ac)⟩
  .have j: ¬(a.ad.getD i em).kind=1:=zF j;rw[be j]at u;refine aR cz ab 100 Z ⟨ac,by unfold jj;omega⟩ ?_;exact⟨d,ac,[],zM (bv ⟨.of_eq (by simp only[u];rfl),rfl,bv ac⟩) (zK ac)⟩
 .have d:=co d;refine aR cz ab 100 Z ac (jx (.inr Z) Z (.of_eq ?_));rw[Za d];rfl
mutual
def aH:Expr->List aj
 | .mk k v _ _ args=>if k=1 then b6 [] v else if k=4 then gu [] args else[]
def gu(a:List aj):List Expr->List aj
 | []=>a
 |e::r=>gu (cv a (aH e)) r
end
theorem lR: ∀(l:List Expr) (a:List aj),gu a l=l.foldl (fun a e=>cv a (aH e)) a
 | [],_=>rfl
 |e::r,a=>by simp only[gu,Zw];exact lR r _
theorem wg(e:Expr):aH e=if e.kind=1 then b6 [] e.var else if e.kind=4 then e.args.foldl (fun a e=>cv a (aH e)) [] else[]:=by
 cases e with
 |mk k v val op args=>simp only[aH,Expr.kind,Expr.var,Expr.args,lR];rfl
mutual
theorem eT: ∀e:Expr,(aH e).length<=e.size
 | .mk k v _ _ args=>by
  simp only[aH,Expr.size];split
  .have:=jA [] v;simp at this;omega
  .split
   .have:=nX args [];simp at this;omega
   .simp
theorem nX: ∀(l:List Expr) (a:List aj),(gu a l).length<=a.length+Expr.aA l
 | [],a=>by simp[gu,Expr.aA]
 |e::r,a=>by
  have b:=nX r (cv a (aH e));have d:=eL (aH e) a;have j:=eT e;simp only[gu,Expr.aA];omega
end
theorem Lit.sP: ∀(l:List Lit) (i:Nat),Lit.aA (l.take i)<=Lit.aA l
 | [],i=>by simp
 |e::r,0=>by simp[Lit.aA]
 |e::r,i+1=>by have:=Lit.sP r i;simp only[aan,Lit.aA];omega
theorem Expr.b3: ∀(l:List Expr) (i:Nat),i<l.length->Expr.aA (l.take i)+(l.getD i em).size<=Expr.aA l
 |e::r,0,_=>by simp[Expr.aA]
 |e::r,i+1,h=>by have:=Expr.b3 r i (by simpa using h);simp only[aan,aap,Expr.aA];omega
 | [],i,h=>by simp at h
theorem Lit.b3: ∀(l:List Lit) (i:Nat),i<l.length->Lit.aA (l.take i)+(l.getD i em).size<=Lit.aA l
 |e::r,0,_=>by simp[Lit.aA]
 |e::r,i+1,h=>by have:=Lit.b3 r i (by simpa using h);simp only[aan,aap,Lit.aA];omega
 | [],i,h=>by simp at h
abbrev XN(a:List aj)(e:Expr):List aj:=cv a (aH e)
theorem MS: ∀(n:Nat) (e:Expr),e.size<=n->e.size<=1000000000000->Pure prog 141 [ag e.c] (.iv (strs (aH e)))
 |0,e,h,_=>by have:=e.size_pos;omega
 |n+1,e,h,hb=>by
  refine Pure.le (args:=[ag e.c1]) ?_ ⟨e.zr,ac⟩;have x:=wg e;refine ae ab func141 Z (by decide) ntmps141 Z (by simp) Z ?_;refine aR cz ab 100 Z ac ?_;refine zI (fun j=>?_) (fun j=>?_)
  .have j:e.kind=1:=zT j;rw[am j]at x;refine aR cz ab 100 Z ac (bj (X3 _) Z Z Z Z Z Z ?_);refine aR cz ab 100 Z ac (jx (.inr Z) Z (.of_eq ?_));rw[x];rfl
  have j: ¬e.kind=1:=zF j;rw[be j]at x;refine aR cz ab 100 Z ac ?_;refine zI (fun u=>?_) (fun u=>?_)
  .have u: ¬e.kind=4:=by simpa using u
   rw[be u]at x;refine aR cz ab 100 Z ac (jx (.inr Z) Z ?_);rw[x];exact .nil _ _
  have u:e.kind=4:=by simpa using u
  rw[am u]at x;have D:=e.size_eq;refine aR cz ab 100 Z ac ?_;refine az 0 e.args.length (Y8 _) (fun i=>⟨[(1,.ptr 0 0),(3,.iv (strs ((e.args.take i).foldl XN []))),(4,pI i)],[(0,io (an e.c1))],1⟩) (fun _=>True) [] ac
   (zM (bv ⟨.nil _ _,rfl,bv trivial⟩) (zK trivial)) fun i J I=>?_
  have A:=Expr.au e.args;refine aR cz ab 100 Z ac ?_;refine zI (fun d=>?_) (fun d=>?_)
  .have d:=ci d;have B:=cI (g:=XN) (b:=[]) d;have S:=Expr.b3 e.args i d;have y:=nX (e.args.take i) [];rw[lR]at y;have F:=eT (e.args.getD i em);have G:((e.args.take i).foldl XN []).length<=Expr.aA (e.args.take i):=by simpa using y
   refine aR cz ab 100 Z ⟨ac,by omega⟩ (bj (MS n (e.args.getD i em) (by omega) (by omega)) Z Z Z Z Z Z ?_);refine aR cz ab 100 Z ac (bj (U0 _ _ (by omega)) Z Z Z Z Z Z ?_);refine aR cz ab 100 Z ⟨ac,by unfold jj;omega⟩ ?_;exact⟨d,ac,[],zM (bv ⟨.of_eq (by simp only[B];rfl),rfl,bv ac⟩) (zK ac)⟩
  .have d:=co d;refine aR cz ab 100 Z ac (jx (.inr Z) Z (.of_eq ?_));rw[Za d,x];rfl
theorem E4(e:Expr)(hb:e.size<=1000000000000):Pure prog 141 [ag e.c] (.iv (strs (aH e))):=MS e.size e (Y7 _) hb
def cm(l:Lit):List aj:=if l.kind=1∨l.kind=2 then bg l.atom else if l.kind=3 then cv (aH l.left) (aH l.right) else[]
theorem gp(l:Lit):(cm l).length+2<=l.size:=by
 have b:=cY l.atom;have d:=eT l.left;have j:=eT l.right;have u:=eL (aH l.right) (aH l.left);rw[l.size_eq];unfold cm;split
 .omega
 .split
  .omega
  .simp;omega
theorem Xw(l:Lit)(hb:l.size<=1000000000000):Pure prog 119 [ag l.c] (.iv (strs (cm l))):=by
 have j:=l.size_eq;have u:=eT l.left;have x:=eT l.right;refine ae ab func119 Z (by decide) ntmps119 Z (by simp) Z ?_;refine aR cz ab 100 Z ac ?_;refine zI (fun k1=>?_) (fun k1=>?_)
 .have k1:l.kind=1:=zT k1;refine aR cz ab 100 Z ac (bj (QS l.atom (by omega)) Z Z Z Z Z Z ?_);refine aR cz ab 100 Z ac (jx (.inr Z) Z (.of_eq ?_));rw[cm,am (.inl k1)];rfl
 have k1: ¬l.kind=1:=zF k1;refine aR cz ab 100 Z ac ?_;refine zI (fun b=>?_) (fun b=>?_)
 .have b:l.kind=2:=zT b;refine aR cz ab 100 Z ac (bj (QS l.atom (by omega)) Z Z Z Z Z Z ?_);refine aR cz ab 100 Z ac (jx (.inr Z) Z (.of_eq ?_));rw[cm,am (.inr b)];rfl
 have b: ¬l.kind=2:=zF b;refine aR cz ab 100 Z ac ?_;refine zI (fun d=>?_) (fun d=>?_)
 .have d:l.kind=3:=zT d;refine aR cz ab 100 Z ac (bj (E4 l.left (by omega)) Z Z Z Z Z Z ?_);refine aR cz ab 100 Z ac (bj (E4 l.right (by omega)) Z Z Z Z Z Z ?_);refine aR cz ab 100 Z ac (bj (U0 _ _ (by omega)) Z Z Z Z Z Z ?_);refine aR cz ab 100 Z ac (jx (.inr Z) Z (.of_eq ?_));rw[cm,be (by simp[k1,b]),am d];rfl
 .have d: ¬l.kind=3:=zF d;refine aR cz ab 100 Z ac (jx (.inr Z) Z ?_);rw[cm,be (by simp[k1,b]),be d];exact .nil _ _
abbrev JP(a:List aj)(l:Lit):List aj:=cv a (cm l)
def aF(a:eK):List aj:=a.body.foldl JP (if a.func=1 then[] else aH a.dY)
theorem wV: ∀(l:List Lit) (a:List aj),(l.foldl JP a).length<=a.length+Lit.aA l
 | [],a=>by simp[Lit.aA]
 |e::r,a=>by
  have b:=wV r (JP a e);have d:(JP a e).length<=_:=eL (cm e) a;have j:=gp e;simp only[Zw,Lit.aA];omega
def eK.size(a:eK):Nat:=a.dY.size+Lit.aA a.body
theorem gr(a:eK):(aF a).length<=a.size:=by
 have h:=wV a.body (if a.func=1 then[] else aH a.dY);have d:=eT a.dY;unfold aF eK.size;split at h<;>rename_i b<;>simp[b]at h ⊢ <;>omega
theorem Vp(a:eK)(hb:a.size<=1000000000000):Pure prog 118 [ag a.c] (.iv (strs (aF a))):=by
 refine Pure.le (args:=[ag a.c1]) ?_ ⟨a.zr,ac⟩;have F:=eT a.dY;unfold eK.size at hb;refine ae ab func118 Z (by decide) ntmps118 Z (by simp) Z ?_;refine aR cz ab 100 Z ac ?_;refine zI (fun j=>?_) (fun j=>?_)
 .have j: ¬a.func=1:=by simpa using j
  have u:aF a=a.body.foldl JP (aH a.dY):=by unfold aF;rw[be j]
  refine aR cz ab 100 Z ac (bj (E4 a.dY (by omega)) Z Z Z Z Z Z ?_);refine aR cz ab 100 Z ac ?_;refine az 0 a.body.length (Y8 _) (fun i=>⟨[(1,.ptr 0 0),(3,.iv (strs ((a.body.take i).foldl JP (aH a.dY)))),(4,pI i)],[(0,io (an a.c1))],1⟩) (fun _=>True) [] ac
   (zW (zK trivial)) fun i G D=>?_
  have x:=Lit.au a.body;refine aR cz ab 100 Z ac ?_;refine zI (fun d=>?_) (fun d=>?_)
  .have d:=ci d;have y:=cI (g:=JP) (b:=aH a.dY) d;have I:=Lit.b3 a.body i d;have B:=wV (a.body.take i) (aH a.dY);have A:=gp (a.body.getD i em);refine aR cz ab 100 Z ⟨ac,by omega⟩ (bj (Xw (a.body.getD i em) (by omega)) Z Z Z Z Z Z ?_);refine aR cz ab 100 Z ac (bj (U0 _ _ (by omega)) Z Z Z Z Z Z ?_);refine aR cz ab 100 Z ⟨ac,by unfold jj;omega⟩ ?_;exact⟨d,ac,[],zM (bv ⟨.of_eq (by simp only[y];rfl),rfl,bv ac⟩) (zK ac)⟩
  .have d:=co d;refine aR cz ab 100 Z ac (jx (.inr Z) Z (.of_eq ?_));rw[Za d,u];rfl
 .have j:a.func=1:=by simpa using j
  have u:aF a=a.body.foldl JP []:=by unfold aF;rw[am j]
  refine aR cz ab 100 Z ac ?_;refine az 0 a.body.length (Y8 _) (fun i=>⟨[(1,.ptr 0 0),(3,.iv (strs ((a.body.take i).foldl JP []))),(4,pI i)],[(0,io (an a.c1))],1⟩) (fun _=>True) [] ac
   (zM (bv ⟨.nil _ _,rfl,bv trivial⟩) (zK trivial)) fun i G D=>?_
  have x:=Lit.au a.body;refine aR cz ab 100 Z ac ?_;refine zI (fun d=>?_) (fun d=>?_)
  .have d:=ci d;have y:=cI (g:=JP) (b:=[]) d;have I:=Lit.b3 a.body i d;have B:=wV (a.body.take i) [];have A:=gp (a.body.getD i em);simp only[aad]at B;refine aR cz ab 100 Z ⟨ac,by omega⟩ (bj (Xw (a.body.getD i em) (by omega)) Z Z Z Z Z Z ?_);refine aR cz ab 100 Z ac (bj (U0 _ _ (by omega)) Z Z Z Z Z Z ?_);refine aR cz ab 100 Z ⟨ac,by unfold jj;omega⟩ ?_;exact⟨d,ac,[],zM (bv ⟨.of_eq (by simp only[y];rfl),rfl,bv ac⟩) (zK ac)⟩
  .have d:=co d;refine aR cz ab 100 Z ac (jx (.inr Z) Z (.of_eq ?_));rw[Za d,u];rfl
end Go.Proofs.YtflegjieadkonaaGreatDoor
namespace Go.Proofs.YtflegjieadkonaaGreatDoor
open Go Go.Al
section
def Ba(n:Int):IV:= .v (.int .i64 n)
def Xv(p:PV):Int:=match p with
 | .iv (.v (.int _ n))=>n
 |_=>0
abbrev NM:=List ((KC.str).K×Int)
abbrev ct(m:NM):AO:= .map .str Ba 0 (.int .i64 0) Xv m
abbrev CU(m:NM):IV:= .eE .str Ba 0 (.int .i64 0) m
theorem ir: ∀M,IR M (Ba 0) (.int .i64 0):=fun _=> .v _
def bump(m:NM)(s:aj):NM:=cF .str m s (bU .str m s 0+1)
def aC(l:List aj):NM:=l.foldl bump []
theorem cS(l:List aj)(s:aj):aC (l++ [s])=bump (aC l) s:=by simp[aC]
section
variable {V:Type}
theorem kR{m:List ((KC.str).K×V)}{s t:aj}{v z:V}:bU .str (cF .str m s v) t z=if s=t then v else bU .str m t z:=by
 induction m with
 |nil=>simp only[cF,bU]
 |cons x r ih=>
  obtain⟨a,b⟩:=x;simp only[cF];by_cases h:a=s
  .rw[am h];simp only[bU];by_cases d:s=t
   .simp[d]
   .have: ¬a=t:=fun e=>d (h▸e)
    rw[be d,be d,be this]
  .rw[be h];simp only[bU,ih];by_cases d:a=t
   .have: ¬s=t:=fun e=>h (d.trans e.symm)
    simp[d,this]
   .simp[d]
theorem qx{m:List ((KC.str).K×V)}{t:aj}:ef .str m t=kw↔t∈m.map Zu:=by
 induction m with
 |nil=>simp[ef]
 |cons x r ih=>
  obtain⟨a,b⟩:=x;simp only[ef,Zm,Zj];by_cases h:a=t
  .simp[h]
  .have: ¬t=a:=fun e=>h e.symm
   simp[h,this,ih]
theorem pd{m:List ((KC.str).K×V)}{s:aj}{v:V}(h:s∈m.map Zu):(cF .str m s v).map Zu=m.map Zu:=by
 induction m with
 |nil=>simp at h
 |cons x r ih=>
  obtain⟨a,b⟩:=x;simp only[cF];by_cases d:a=s
  .rw[am d];simp[d]
  .have: ¬s=a:=fun e=>d e.symm
   rw[be d,Zm,ih (by simpa[this]using h)];rfl
theorem dW{m:List ((KC.str).K×V)}{s:aj}{v:V}(h:s∉m.map Zu):(cF .str m s v).map Zu=m.map Zu++ [s]:=by
 induction m with
 |nil=>simp[cF]
 |cons x r ih=>
  obtain⟨a,b⟩:=x;simp only[Zm,Zj,not_or]at h;have: ¬a=s:=fun e=>h.1 e.symm;simp only[cF,be this,Zm,ih h.2];rfl
theorem yd{m:List ((KC.str).K×V)}{t:aj}{z:V}(h:t∉m.map Zu):bU .str m t z=z:=by
 induction m with
 |nil=>rfl
 |cons x r ih=>
  obtain⟨a,b⟩:=x;simp only[Zm,Zj,not_or]at h;have: ¬a=t:=fun e=>h.1 e.symm;simp only[bU,be this];exact ih h.2
end
theorem tX{α:Type}{p:List α->Prop}(h0:p [])(h1: ∀l a,p l->p (l++ [a]))(l:List α):p l:=by
 have key: ∀r:List α,p r.reverse:=by
  intro r
  induction r with
  |nil=>exact h0
  |cons a r ih=>rw[List.reverse_cons];exact h1 _ _ ih
 simpa using key l.reverse
def rS(l:List aj)(t:aj):Nat:=(l.filter fun x=>li (x=t)).length
theorem EX(l m:List aj)(t:aj):rS (l++m) t=rS l t+rS m t:=by simp[rS]
theorem eW(l:List aj)(t:aj):rS l t<=l.length:=aae _ _
theorem oF{l:List aj}{t:aj}:0<rS l t↔t∈l:=by
 rw[rS,List.length_pos_iff_exists_mem];constructor
 .rintro⟨x,hx⟩;obtain⟨b,d⟩:=ZF.1 hx;exact(zT d)▸b
 .exact fun h=>⟨t,ZF.2 ⟨h,by simp⟩⟩
theorem rG{l:List aj}{t:aj}:rS l t=0↔t∉l:=by
 rw[<-oF];omega
theorem bB(l:List aj)(t:aj):bU .str (aC l) t 0=(rS l t:Int):=by
 induction l using tX with
 |h0=>rfl
 |h1 l s ih=>
  rw[cS,bump,kR,EX];by_cases h:s=t
  .subst h;rw[ih];simp[rS]
  .rw[be h,ih];simp[h,rS]
theorem ck(l:List aj):((aC l).map Zu).Nodup∧ ∀t:aj,t∈(aC l).map Zu↔t∈l:=by
 induction l using tX with
 |h0=>simp[aC]
 |h1 l s ih=>
  rw[cS,bump];obtain⟨h1,d⟩:=ih;by_cases h:s∈(aC l).map Zu
  .rw[pd h];refine⟨h1,fun t=>?_⟩;rw[d,Zf,Zd];exact⟨.inl,fun j=>j.elim id fun e=>e▸(d s).1 h⟩
  .rw[dW h];refine⟨?_,fun t=>by rw[Zf,d,Zf]⟩;rw[aaY];refine⟨h1,aam.2 ⟨aby,Z3⟩,fun a u b hb e=>?_⟩;rw[Zd]at hb;exact h ((e.trans hb)▸u)
def cJ(a:Atom):List aj:=a.ad.flatMap fun t=>if t.kind=1 then[t.var] else[]
theorem bG{α β:Type}[Inhabited α]{l:List α}{f:α->List β}{i:Nat}(h:i<l.length):(l.take (i+1)).flatMap f=(l.take i).flatMap f++f (l.getD i em):=by
 rw[bz h,aa7];simp
theorem tU: ∀l:List Term,(l.flatMap fun t=>if t.kind=1 then[t.var] else[]).length<=l.length
 | []=>by simp
 |t::r=>by
  have:=tU r;have b:(if t.kind=1 then[t.var] else[]).length<=1:=by split<;>simp
  rw[ZO,Y1,ZA];omega
theorem iD(a:Atom):(cJ a).length<=a.ad.length:=tU a.ad
theorem d88(occ:List aj)(a:Atom)(hb:occ.length+a.ad.length<=1000000000000):bV Tryz.prog 135 [.mp 0,ag a.c] [ct (aC occ)] (.bQ []) [(0,io (ct (aC (occ++cJ a))))] 1:=by
 refine aB ab Tryz.func135 Z (by decide) Tryz.ntmps135 Z (by simp) ?_;refine gA Z ?_;refine az 0 a.ad.length (Y8 _) (fun i=>⟨[(0,.mp 0),(3,.ptr 1 0),(7,.iv (cZ 5 a.ad Term.c)),(8,pI a.ad.length),(9,pI i)],[(0,io (ct (aC (occ++(a.ad.take i).flatMap fun t=>if t.kind=1 then[t.var] else[]))))],2⟩) (fun _=>True) [] ac
  (zW (hM Z (by simp) Z trivial)) fun i B _=>?_
 have y:=tU (a.ad.take i);simp only[ZP]at y;refine zJ Z Z (fun b=>?_) fun b=>?_
 .have b:=ci b;have j:=bG (f:=fun t:Term=>if t.kind=1 then[t.var] else[]) b;have A:=bB (occ++(a.ad.take i).flatMap fun t=>if t.kind=1 then[t.var] else[]) (a.ad.getD i em).var;have u:=eW (occ++(a.ad.take i).flatMap fun t=>if t.kind=1 then[t.var] else[]) (a.ad.getD i em).var;rw[Y1]at u;refine zJ Z Z (fun d=>?_) fun d=>?_
  .have d:(a.ad.getD i em).kind=1:=by simpa using d
   rw[am d]at j;refine gA Z ⟨b,ac,[],zW (hM Z (by rw[j,<-Zc,cS];rfl) Z ac)⟩
  .have d: ¬(a.ad.getD i em).kind=1:=by simpa using d
   rw[be d,ZE]at j;refine gA Z ⟨b,ac,[],zW (hM Z (by rw[j]) Z ac)⟩
 .have b:=co b;have x:a.ad.take i=a.ad:=Za b;refine gA Z (zD [] Z (zW (hM Z (by rw[x];rfl) Z ac)))
end
end Go.Proofs.YtflegjieadkonaaGreatDoor
namespace Go.Proofs.YtflegjieadkonaaGreatDoor
open Go Go.Al Go.Proofs.Tryz
mutual
def bC:Expr->List aj
 | .mk k v _ _ args=>if k=1 then[v] else if k=4 then jg args else[]
def jg:List Expr->List aj
 | []=> []
 |e::r=>bC e++jg r
end
theorem qI: ∀l:List Expr,jg l=l.flatMap bC
 | []=>rfl
 |e::r=>by simp only[jg,ZO,qI r]
theorem yB(e:Expr):bC e=if e.kind=1 then[e.var] else if e.kind=4 then e.args.flatMap bC else[]:=by
 cases e with
 |mk k v val op args=>simp only[bC,Expr.kind,Expr.var,Expr.args,qI];rfl
mutual
theorem jN: ∀e:Expr,(bC e).length<=e.size
 | .mk k v _ _ args=>by
  have:=pe args;simp only[bC,Expr.size];split
  .simp
  .split
   .omega
   .simp
theorem pe: ∀l:List Expr,(jg l).length<=Expr.aA l
 | []=>by simp[jg]
 |e::r=>by
  have b:=jN e;have d:=pe r;simp only[jg,Expr.aA,Y1];omega
end
theorem d135: ∀(n:Nat) (e:Expr) (occ:List aj),e.size<=n->occ.length+e.size<=1000000000000->bV prog 178 [.mp 0,ag e.c] [ct (aC occ)] (.bQ []) [(0,io (ct (aC (occ++bC e))))] 1
 |0,e,_,h,_=>by have:=e.size_pos;omega
 |n+1,e,occ,h,hb=>by
  refine bV.le (args:=[.mp 0,ag e.c1]) ?_ ⟨.refl _,e.zr,ac⟩;have u:=yB e;have F:=e.size_eq;have B:=bB occ e.var;have A:=eW occ e.var;refine aB ab func178 Z (by decide) ntmps178 Z (by simp) ?_;refine zJ Z Z (fun d=>?_) fun d=>?_
  .have d:e.kind=1:=by simpa using d
   rw[am d]at u;refine gA Z (zD [] Z (zW (hM Z (by rw[u,cS];rfl) Z ac)))
  have d: ¬e.kind=1:=by simpa using d
  rw[be d]at u;refine zJ Z Z (fun j=>?_) fun j=>?_
  .have j:e.kind=4:=by simpa using j
   rw[am j]at u;refine gA Z ?_;refine az 0 e.args.length (Y8 _) (fun i=>⟨[(0,.mp 0),(3,.ptr 1 0),(18,.iv (cZ 7 e.args Expr.c)),(19,pI e.args.length),(20,pI i)],[(0,io (ct (aC (occ++(e.args.take i).flatMap bC))))],2⟩) (fun _=>True) [] ac
    (zW (hM Z (by simp) Z trivial)) fun i I _=>?_
   have y:=Expr.au e.args;refine zJ Z Z (fun b=>?_) fun b=>?_
   .have b:=ci b;have D:=bG (f:=bC) b;have J:=Expr.b3 e.args i b;have G:=pe (e.args.take i);rw[qI]at G;refine gA Z (bI [0] (d135 n (e.args.getD i em) _ (by omega) (by rw[Y1];omega)) Z Z Z Z Z Z Z Z ?_);refine gA Z ⟨b,ac,[],zW (hM Z (by rw[D,Zc]) Z ac)⟩
   .have b:=co b;have x:e.args.take i=e.args:=Za b;refine gA Z (zD [] Z (zW (hM Z (by rw[u,x]) Z ac)))
  .have j: ¬e.kind=4:=by simpa using j
   rw[be j]at u;refine gA Z (zD [] Z (zW (hM Z (by rw[u,ZE]) Z ac)))
theorem MF(e:Expr)(occ:List aj)(hb:occ.length+e.size<=1000000000000):bV prog 178 [.mp 0,ag e.c] [ct (aC occ)] (.bQ []) [(0,io (ct (aC (occ++bC e))))] 1:=d135 e.size e occ (Y7 _) hb
def cf(l:Lit):List aj:=if l.kind=1∨l.kind=2 then cJ l.atom else if l.kind=3 then bC l.left++bC l.right else[]
theorem pb(l:Lit):(cf l).length+2<=l.size:=by
 have b:=iD l.atom;have d:=jN l.left;have j:=jN l.right;rw[l.size_eq];unfold cf;split
 .omega
 .split
  .rw[Y1];omega
  .simp;omega
theorem d89(l:Lit)(occ:List aj)(hb:occ.length+l.size<=1000000000000):bV prog 136 [.mp 0,ag l.c] [ct (aC occ)] (.bQ []) [(0,io (ct (aC (occ++cf l))))] 1:=by
 have x:=l.size_eq;have y:=jN l.left;refine aB ab func136 Z (by decide) ntmps136 Z (by simp) ?_;refine zJ Z Z (fun k1=>?_) fun k1=>?_
 .have k1:l.kind=1:=zT k1;have u:cf l=cJ l.atom:=am (.inl k1);refine gA Z (zq [0] (d88 occ l.atom (by omega)) ?_);refine gA Z (zD [] Z (zW (hM Z (by rw[u]) Z ac)))
 have k1: ¬l.kind=1:=zF k1;refine zJ Z Z (fun d=>?_) fun d=>?_
 .have d:l.kind=2:=zT d;have u:cf l=cJ l.atom:=am (.inr d);refine gA Z (zq [0] (d88 occ l.atom (by omega)) ?_);refine gA Z (zD [] Z (zW (hM Z (by rw[u]) Z ac)))
 have d: ¬l.kind=2:=zF d;have b:cf l=if l.kind=3 then bC l.left++bC l.right else[]:=be (by simp[k1,d]);refine zJ Z Z (fun j=>?_) fun j=>?_
 .have j:l.kind=3:=zT j;rw[am j]at b;refine gA Z (zq [0] (MF l.left occ (by omega)) ?_);refine gA Z (bI [0] (MF l.right _ (by rw[Y1];omega)) Z Z Z Z Z Z Z Z ?_);refine gA Z (zD [] Z (zW (hM Z (by rw[b,Zc]) Z ac)))
 .have j: ¬l.kind=3:=zF j;rw[be j]at b;refine gA Z (zD [] Z (zW (hM Z (by rw[b,ZE]) Z ac)))
def bc(a:eK):List aj:=(if a.func=1 then[] else bC a.dY)++a.body.flatMap cf
theorem nA: ∀l:List Lit,(l.flatMap cf).length<=Lit.aA l
 | []=>by simp
 |e::r=>by
  have b:=pb e;have d:=nA r;rw[ZO,Y1];simp only[Lit.aA];omega
theorem S4(e:Expr)(hb:e.size<=1000000000000):bV prog 178 [.mp 0,ag e.c] [.gK] (.bQ []) [(0,io (ct (aC (bC e))))] 1:=
 (MF e [] (by simpa using hb)).SR ⟨⟨id,fun M N U w j b=>⟨#[],0,b,⟨rfl,by simp[aC],by simp[aC],by simp,by simp⟩,ir M⟩⟩,ac⟩
theorem XT(a:Atom)(hb:a.ad.length<=1000000000000):bV prog 135 [.mp 0,ag a.c] [.gK] (.bQ []) [(0,io (ct (aC (cJ a))))] 1:=
 (d88 [] a (by simpa using hb)).SR ⟨⟨id,fun M N U w j b=>⟨#[],0,b,⟨rfl,by simp[aC],by simp[aC],by simp,by simp⟩,ir M⟩⟩,ac⟩
theorem d127(a:eK)(hb:a.size<=1000000000000):bV prog 196 [ag a.c] [] (.mp 0) [(0,io (ct (aC (bc a))))] 1:=by
 refine bV.le (args:=[ag a.c1]) ?_ ⟨a.zr,ac⟩;unfold eK.size at hb;have A:=jN a.dY;have y:=Lit.au a.body;refine aB ab func196 Z (by decide) ntmps196 Z (by simp) ?_;refine zJ Z Z (fun d=>?_) fun d=>?_
 .have d: ¬a.func=1:=by simpa using d
  have j:bc a=bC a.dY++a.body.flatMap cf:=by unfold bc;rw[be d]
  refine gA Z (zq [1] (S4 a.dY (by omega)) ?_);refine gA Z ?_;refine az 0 a.body.length (Y8 _) (fun i=>⟨[(3,.mp 1),(15,.iv (lits a.body)),(16,pI a.body.length),(17,pI i)],[(1,io (ct (aC (bC a.dY++(a.body.take i).flatMap cf))))],2⟩) (fun _=>True) [] ac
   (zW (hM Z (by simp) Z trivial)) fun i B _=>?_
  refine zJ Z Z (fun b=>?_) fun b=>?_
  .have b:=ci b;have x:=bG (f:=cf) b;have D:=Lit.b3 a.body i b;have F:=nA (a.body.take i);refine gA Z (bI [1] (d89 (a.body.getD i em) _ (by rw[Y1];omega)) Z Z Z Z Z Z Z Z ?_);refine gA Z ⟨b,ac,[],zW (hM Z (by rw[x,Zc]) Z ac)⟩
  .have b:=co b;have u:a.body.take i=a.body:=Za b;refine gA Z (zD [1] Z (zW (hM Z (by rw[u,j]) Z ac)))
 .have d:a.func=1:=by simpa using d
  have j:bc a=a.body.flatMap cf:=by unfold bc;rw[am d];rfl
  refine gA Z ?_;refine az 0 a.body.length (Y8 _) (fun i=>⟨[(3,.mp 1),(15,.iv (lits a.body)),(16,pI a.body.length),(17,pI i)],[(1,io (ct (aC ((a.body.take i).flatMap cf))))],2⟩) (fun _=>True) [] ac
   (zW (Ji Z ir Z trivial)) fun i B _=>?_
  refine zJ Z Z (fun b=>?_) fun b=>?_
  .have b:=ci b;have x:=bG (f:=cf) b;have D:=Lit.b3 a.body i b;have F:=nA (a.body.take i);refine gA Z (bI [1] (d89 (a.body.getD i em) _ (by omega)) Z Z Z Z Z Z Z Z ?_);refine gA Z ⟨b,ac,[],zW (hM Z (by rw[x]) Z ac)⟩
  .have b:=co b;have u:a.body.take i=a.body:=Za b;refine gA Z (zD [1] Z (zW (hM Z (by rw[u,j]) Z ac)))
def ins:List aj->aj->List aj
 | [],s=> [s]
 |x::r,s=>if x=s then x::r else if Op.bytesLess x.toList s.toList=kw then x::ins r s else s::x::r
theorem mO(s:aj): ∀(l a:List aj),l.foldl (bW s) (a,kw)=(a++l,kw)
 | [],a=>by simp
 |x::r,a=>by
  have:bW s (a,kw) x=(a++ [x],kw):=by simp[bW]
  rw[Zw,this,mO s r];simp
theorem A7(s:aj): ∀(l a:List aj),(if(l.foldl (bW s) (a,lc)).2 then(l.foldl (bW s) (a,lc)).1 else(l.foldl (bW s) (a,lc)).1++ [s])=a++ins l s
 | [],a=>by simp[ins]
 |x::r,a=>by
  by_cases b:x=s
  .have:bW s (a,lc) x=(a++ [x],kw):=by simp[bW,b]
   rw[Zw,this,mO];simp[ins,b]
  .cases h2:Op.bytesLess x.toList s.toList with
   |true=>
    have:bW s (a,lc) x=(a++ [x],lc):=by simp[bW,b,h2]
    rw[Zw,this,A7 s r];simp[ins,b,h2]
   |false=>
    have:bW s (a,lc) x=(a++ [s]++ [x],kw):=by simp[bW,b,h2]
    rw[Zw,this,mO];simp[ins,b,h2]
theorem q9(l:List aj)(s:aj):b6 l s=ins l s:=by
 have:=A7 s l [];simpa[b6]using this
theorem w4{x:aj}: ∀{l:List aj} {s:aj},x∈ins l s↔x∈l∨x=s
 | [],s=>by simp[ins]
 |y::r,s=>by
  simp only[ins];split
  .rename_i h;subst h;simp;exact fun h=> .inl h
  .split
   .simp[w4 (l:=r),or_assoc]
   .simp;constructor
    .rintro(h|h|h)
     .exact .inr h
     .exact .inl (.inl h)
     .exact .inl (.inr h)
    .rintro((h|h)|h)
     .exact .inr (.inl h)
     .exact .inr (.inr h)
     .exact .inl h
theorem cq{x s:aj}{l:List aj}:x∈b6 l s↔x∈l∨x=s:=by rw[q9];exact w4
theorem ie{x:aj}: ∀{m l:List aj},x∈cv l m↔x∈l∨x∈m
 | [],l=>by simp[cv]
 |y::r,l=>by
  have h:=ie (x:=x) (m:=r) (l:=b6 l y);simp only[cv,Zw]at h ⊢;rw[h,cq,Zj,or_assoc]
theorem aM{l:List aj}{s:aj}:aE l s=kw↔s∈l:=by
 simp[aE]
theorem dZ{l:List aj}{s:aj}:aE l s=lc↔s∉l:=by
 rw[<-aav,aM]
def lU(l m:List aj):Bool:=m.all fun x=>aE l x
theorem Nd{l m:List aj}:lU l m=kw↔ ∀x∈m,x∈l:=by simp[lU,aM]
theorem W8(l m:List aj):Pure prog 296 [.iv (strs l),.iv (strs m)] (pB (lU l m)):=by
 refine my (bH func296 Z (by decide)) ⟨_,_,Zg _ Zh⟩ fun d=>?_;simp only[maxLen]at d;refine ae ab func296 Z (by decide) ntmps296 Z (by simp) Z ?_;refine gA Z ?_;refine az 0 m.length (Y8 _) (fun i=>⟨[(0,.iv (strs l)),(1,.iv (strs m)),(5,pI i)],[],0⟩) (fun i=>(m.take i).all (fun x=>aE l x)=kw) [] Z (mZ Z Z (bv (bv (bv ac))) Z) fun i y u=>?_;refine zJ Z Z (fun b=>?_) fun b=>?_
 .have b:=ci b;refine gA Z (zp (JE l (m.getD i em)) ?_);refine zJ Z Z (fun j=>?_) fun j=>?_
  .refine gA Z (zL (.of_eq ?_));rw[lU,Fg b (by simpa using j)];try rfl
  .refine gA Z ?_;exact⟨b,(ld u b).2 (by simpa using j),[],mZ Z Z (bv (bv (bv ac))) Z⟩
 .have b:=co b;refine gA Z (zL (.of_eq ?_));rw[lU,Fh u b];try rfl
def vh(a:List aj)(l:Lit):List aj:=if l.kind=4 then b6 (cv a (cm l)) l.a7 else cv a (cm l)
theorem DV{a:List aj}{l:Lit}(h:l.kind=4):vh a l=b6 (cv a (cm l)) l.a7:=am h
theorem DW{a:List aj}{l:Lit}(h: ¬l.kind=4):vh a l=cv a (cm l):=be h
def outer(r:ah):List aj:=r.body.foldl vh (bg r.head)
theorem K6(a:List aj)(l:Lit):(vh a l).length+1<=a.length+l.size:=by
 have b:=eL (cm l) a;have d:=gp l;have j:=jA (cv a (cm l)) l.a7;unfold vh;split<;>omega
theorem nQ: ∀(l:List Lit) (a:List aj),(l.foldl vh a).length<=a.length+Lit.aA l
 | [],a=>by simp[Lit.aA]
 |e::r,a=>by
  have b:=nQ r (vh a e);have d:=K6 a e;simp only[Zw,Lit.aA];omega
theorem Ar(r:ah):(outer r).length<=r.size:=by
 have b:=nQ r.body (bg r.head);have d:=cY r.head;unfold outer ah.size;omega
theorem S7(r:ah)(hb:r.size<=1000000000000):Pure prog 87 [ag r.c] (.iv (strs (outer r))):=by
 have y:=cY r.head;have x:=Lit.au r.body;unfold ah.size at hb;refine ae ab func87 Z (by decide) ntmps87 Z (by simp) Z ?_;refine gA Z (zp (QS r.head (by omega)) ?_);refine gA Z ?_;refine az 0 r.body.length (Y8 _) (fun i=>⟨[(1,.ptr 0 0),(3,.iv (strs ((r.body.take i).foldl vh (bg r.head)))),(4,pI i)],[(0,io (an r.c))],1⟩) (fun _=>True) [] ac
  (zW (zK trivial)) fun i F D=>?_
 refine zJ Z Z (fun d=>?_) fun d=>?_
 .have d:=ci d;have u:=cI (g:=vh) (b:=bg r.head) d;have G:=Lit.b3 r.body i d;have I:=nQ (r.body.take i) (bg r.head);have A:=gp (r.body.getD i em);have B:=eL (cm (r.body.getD i em)) ((r.body.take i).foldl vh (bg r.head));refine gA Z (zp (Xw (r.body.getD i em) (by omega)) ?_);refine gA Z (bj (U0 _ _ (by omega)) Z Z Z Z Z Z ?_);refine zJ Z Z (fun j=>?_) fun j=>?_
  .have j:(r.body.getD i em).kind=4:=zT j;rw[DV j]at u;refine gA Z (bj (Nt _ _ (by omega)) Z Z Z Z Z Z ?_);refine gA Z ⟨d,ac,[],zM (bv ⟨.of_eq (by rw[u];rfl),rfl,bv ac⟩) (zK ac)⟩
  .have j: ¬(r.body.getD i em).kind=4:=zF j;rw[DW j]at u;refine gA Z ⟨d,ac,[],zM (bv ⟨.of_eq (by rw[u];rfl),rfl,bv ac⟩) (zK ac)⟩
 .have d:=co d;refine gA Z (zL (.of_eq ?_));rw[Za d];rfl
def fa(l:Lit):List aj:=cf l++if l.kind=4 then[l.a7] else[]
def ay(r:ah):List aj:=cJ r.head++r.body.flatMap fa
theorem F5(l:Lit):(fa l).length+1<=l.size:=by
 have:=pb l;unfold fa;rw[Y1];split<;>simp<;>omega
theorem qt: ∀l:List Lit,(l.flatMap fa).length<=Lit.aA l
 | []=>by simp
 |e::r=>by
  have b:=F5 e;have d:=qt r;rw[ZO,Y1];simp only[Lit.aA];omega
theorem oU(r:ah):(ay r).length<=r.size:=by
 have b:=qt r.body;have d:=iD r.head;unfold ay ah.size;rw[Y1];omega
def S8(r:ah):List IV:=[iS r.head.rel,cZ 5 r.head.ad Term.c,lits r.body,iI r.at_.line,iI r.at_.zu,CU (aC (ay r))]
abbrev da(r:ah):IV:= .mI (S8 r)
theorem c48(r:ah)(hb:r.size<=1000000000000):Pure prog 113 [ag r.c] (.iv (da r)):=by
 unfold ah.size at hb;have B:=iD r.head;have A:=Lit.au r.body;refine ae ab func113 Z (by decide) ntmps113 Z (by simp) Z ?_;refine gA Z (zd [1] (XT r.head (by omega)) ?_);refine gA Z ?_
 refine az 0 r.body.length (Y8 _) (fun i=>⟨[(3,.ptr 2 0),(18,.iv (lits r.body)),(19,pI r.body.length),(20,pI i)],
   [(1,io (ct (aC (cJ r.head++(r.body.take i).flatMap fa)))),(2,io (.cells [pS r.head.rel,.iv (cZ 5 r.head.ad Term.c),.iv (lits r.body),pI r.at_.line,pI r.at_.zu,.mp 1]))],3⟩) (fun _=>True) [] ac
  (zW (hM Z (by simp) Z (zO trivial))) fun i G _=>?_
 refine zJ Z Z (fun d=>?_) fun d=>?_
 .have d:=ci d;have u:=bG (f:=fa) d;have I:=Lit.b3 r.body i d;have J:=qt (r.body.take i);have F:=pb (r.body.getD i em);refine gA Z (Cv ab [1] (d89 (r.body.getD i em) _ (by rw[Y1];omega)) Z Z Z Z Z Z Z Z Z Z Z Z (by(repeat' (first|exact ac|exact rfl|exact aL.refl _|exact aL.bk (by assumption)|apply ZL))<;>first|omega|(simp only[Zs];omega)|(simp;done)|(simp;omega)) Z (by(repeat' (first|exact ac|exact rfl|exact aL.refl _|exact aL.bk (by assumption)|apply ZL))<;>first|omega|(simp only[Zs];omega)|(simp;done)|(simp;omega)) ?_);refine zJ Z Z (fun j=>?_) fun j=>?_
  .have j:(r.body.getD i em).kind=4:=zT j;have b:fa (r.body.getD i em)=cf (r.body.getD i em)++ [(r.body.getD i em).a7]:=by unfold fa;rw[am j]
   rw[b]at u;have D:=bB (cJ r.head++(r.body.take i).flatMap fa++cf (r.body.getD i em)) (r.body.getD i em).a7;have x:=eW (cJ r.head++(r.body.take i).flatMap fa++cf (r.body.getD i em)) (r.body.getD i em).a7;rw[Y1,Y1]at x;refine gA Z ⟨d,ac,[],zW (hM Z (by rw[u,<-Zc,<-Zc,cS];rfl) Z (zO ac))⟩
  .have j: ¬(r.body.getD i em).kind=4:=zF j;have b:fa (r.body.getD i em)=cf (r.body.getD i em):=by unfold fa;rw[be j,ZE]
   rw[b]at u;refine gA Z ⟨d,ac,[],zW (hM Z (by rw[u,<-Zc]) Z (zO ac))⟩
 .have d:=co d;have y:r.body.take i=r.body:=Za d;refine nV Z ac (rE (.inr Z) Z (.map 1 Z (.cells 2 _ Z (show _=List.map PV.iv (S8 r) by rw[y];rfl) (.done (.of_eq Z)))))
def aU(occ:List aj)(e:Expr):Bool:=(bC e).all fun x=>aE occ x
theorem ur{l:List aj}{j:Nat}{x:(KC.str).K×Int}(h:(aC l)[j]? =io x):x.1∈l:=
 ((ck l).2 x.1).1 (ZD.2 ⟨x,Zv h,rfl⟩)
theorem all_keys{l:List aj}{vs:List Nat}(h: ∀j,j<(aC l).length->j∈vs){p:aj->Prop}(hp: ∀j∈vs,∀x,(aC l)[j]? =io x->p x.1): ∀t∈l,p t:=by
 intro t d;obtain⟨x,u,rfl⟩:=ZD.1 (((ck l).2 t).2 d);obtain⟨j,b⟩:=ZY u;exact hp j (h j (Y4.1 b).1) x b
theorem d125(occ:List aj)(e:Expr)(hb:e.size<=1000000000000):bV prog 227 [.mp 0,ag e.c] [ct (aC occ)] (pB (aU occ e)) [(0,io (ct (aC occ)))] 1:=by
 refine aB ab func227 Z (by decide) ntmps227 Z (by simp) ?_;refine gA Z (zq [2] (S4 e hb) ?_);refine gA Z ?_;refine jw (aC (bC e)) (fun A=>⟨[(0,.mp 0),(12,.ptr 3 0)],[(0,io (ct (aC occ))),(3,io (.cD .str Ba (aC (bC e)) A jp))],4⟩) (fun A=> ∀j∈A,∀x,(aC (bC e))[j]? =io x->x.1∈occ) [] (by simp)
  (zW (zC (hI Z Z (.inl Z) Z trivial))) fun A G=>?_
 refine nV Z ac (fV Z Z Z Z Z (by decide) (fun d=>?_) fun j x D I=>?_)
 .refine gA Z (zD [] Z (zM ⟨.of_eq (by rw[show aU occ e=kw from Zr.2 fun t J=>aM.2 (all_keys d G t J)];rfl),rfl,ac⟩ (zC ac)))
 .have u:=bB occ x.1;refine zJ Z Z (fun b=>?_) fun b=>?_
  .have b:bU .str (aC occ) x.1 0=0:=zT b;have B:x.1∉occ:=rG.1 (by rw[u]at b;omega);refine gA Z (zD [] Z (zM ⟨.of_eq (by rw[show aU occ e=lc from aaN.2 ⟨x.1,ur D,by rw[dZ.2 B];simp⟩];rfl),rfl,ac⟩ (zC ac)))
  .have b: ¬bU .str (aC occ) x.1 0=0:=zF b;have B:x.1∈occ:=oF.1 (by rw[u]at b;omega);refine gA Z ?_
   exact⟨j,x,D,I,fun i hi y F=>by
    rcases Zj.1 hi with rfl|hi
    .rw[D]at F;cases F;exact B
    .exact G i hi y F,[],zW (zC (hI Z Z (.inr Z) Z ac))⟩
end Go.Proofs.YtflegjieadkonaaGreatDoor
