/-
  What the proofs of the claims need: part 2 of 7.
-/
import Derived.Test.YtflegjieadkonaaGreatDoorPart1
import Derived.Deep.Slices
import Derived.ReadAgain
import Derived.ChangeStays
import Derived.ChangeSame
import Derived.WideShapes
import Derived.RowKit
import Derived.Lib.AppendStr
import Derived.Laws.IdiomStrings
import Derived.Laws.BytesArg
import Derived.Laws.MakeOwn
import Derived.Laws.Slices
import Derived.StillTail
import Derived.Lib.SliceRun
import Derived.KernelRfl
import Derived.Test.YtflegjieadkonaaGreatDoorProg
open And renaming intro→ZU
open Array renaming getD_eq_getD_getElem?→Y7,getElem?_append_left→aac,getElem?_eq_getElem→Z4,getElem?_eq_some_iff→aaq,getElem?_map→abw,getElem?_modify→Z2,getElem?_push→abr,getElem?_setIfInBounds→ZT,getElem?_toList→aah,range→ab0,replicate→aaX,size_append→abp,toArray_toList→aaF
open Bool renaming and_eq_true→Zw,eq_false_iff→aaS,false_eq_true→aaG,false_or→aan,not_eq_true→aaC,not_eq_true'→aae,or_eq_false_iff→ZG,or_eq_true→aas,or_false→aaK,or_true→abi,true_or→abF
open ByteArray renaming empty→Zd
open Classical renaming choose→abE,choose_spec→aa8
open Int renaming toNat_natCast→Zx
open List.Nodup renaming length_le_of_subset→aaP
open List.Pairwise renaming nil→aaT
open List renaming all_eq_false→aaV,all_eq_true→ZA,any_eq_false→Z3,any_eq_true→ZZ,append_assoc→Zj,append_nil→ZL,cons_append→aaJ,drop_eq_nil_of_le→abx,eq_nil_of_length_eq_zero→ZY,ext_getElem?→aaU,flatMap_append→abf,flatMap_cons→ZX,foldl_append→aaE,foldl_cons→ZD,getD_cons_succ→aav,getD_eq_getElem?_getD→Y6,getElem?_append_left→Zp,getElem?_append_right→Zv,getElem?_drop→aap,getElem?_eq_getElem→Za,getElem?_eq_some_iff→Zb,getElem?_map→Zg,getElem?_of_mem→Z7,getElem?_range→aa7,getElem?_replicate→abe,getElem?_set→ZV,getElem?_take→Z6,getElem?_toArray→aar,getElem_mem→ZQ,length_append→Y8,length_cons→ZI,length_eq_zero_iff→aaZ,length_filter_le→aak,length_map→ZE,length_nil→aai,length_set→aaO,length_take→ZP,map_append→Ze,map_congr_left→aaB,map_cons→Zr,map_map→aa4,mem_append→Zm,mem_append_left→ZJ,mem_append_right→aaA,mem_cons→Zq,mem_cons_of_mem→Zn,mem_cons_self→Zo,mem_filter→ZM,mem_map→ZK,mem_of_find?_eq_some→abJ,mem_of_getElem?→ZC,mem_range→aam,mem_singleton→Zk,nil_append→aaN,nodup_append→aa6,nodup_cons→aat,nodup_nil→aab,not_mem_nil→abG,range→Zy,replicate→aa5,take_append_drop→abm,take_of_length_le→Zh,take_succ_cons→aau,take_succ_eq_append_getElem→abq
open Nat renaming add_assoc→aaI,add_mul→aal,add_zero→abg,beq→Zz,ble→aa2,ble_eq_true_of_le→ZO,blt→Zs,eq_of_beq_eq_true→Zt,le_of_ble_eq_true→Y5,le_of_not_lt→aba,le_refl→Zc,le_succ→abv,le_trans→Z1,lt_irrefl→ab5,lt_of_le_of_lt→acq,lt_of_lt_of_le→aa9,lt_or_ge→aag,lt_succ_of_lt→aaL,lt_succ_self→aax,mul_le_mul_right→ZF,mul_one→ab2,ne_of_lt→acb,strongRecOn→abR,succ_mul→aa3,zero_add→Zu,zero_le→Zf,zero_mul→abb
open Option renaming getD_some→aaw,map_eq_some_iff→Zi,map_none→abQ,map_some→Z8
open Option.some renaming inj→Z5,injEq→Y9
open Prod renaming fst→ZB
open Prod.mk renaming injEq→Zl
set_option maxRecDepth 100000
open Bool renaming false→lc,true→kw
open Decidable renaming decide→li
open Inhabited renaming default→em
open Option renaming none→jp,some→io
namespace Go.Al
theorem bv{a b:PV}{c:Bool}{X:Prop}(h:X)(h1:a=b:=by rfl)(h2:c=true:=by rfl):aK a b∧c=true∧X:=⟨by subst h1;exact fun _ _ _ _ h=>h,h2,h⟩
theorem ci{i n:Nat}(h:decide ((i:Int)<(n:Int))=true):i<n:=by simpa using h
theorem co{i n:Nat}(h:decide ((i:Int)<(n:Int))=false):n≤i:=by simpa using h
end Go.Al
namespace Go.Al
section
def BZ:Op->Bool
  | .binOp .add _ _ _ _=>kw
  | .binOp .sub _ _ _ _=>kw
  | .binOp .mul _ _ _ _=>kw
  | .binOp .rem _ _ _ _=>kw
  | .binOp .quo _ _ _ _=>kw
  | .indexAddr ..=>kw
  | .index ..=>kw
  | .slice ..=>kw
  |_=>lc
theorem w6{ty:Ty}{s:AS}{o:Op}{p:PV}{C:Prop}(h:lx ty s o=io (p,C))(ho:BZ o=lc):C:=by
  cases o with
  | binOp op t x y t'=>
    simp only[lx]at h;split at h
    · unfold H9 at h
      split at h
      · split at h<;>first|(cases h;done)|(simp only[Y9,Zl]at h;rw[<-h.2];trivial)
      · split at h<;>first|(cases h;done)|(simp only[Y9,Zl]at h;rw[<-h.2];trivial)
      · cases h
    unfold CI at h;split at h
    · split at h
      · unfold Hs at h
        split at h<;>first|(cases h;done)|(simp[BZ]at ho;done)|(simp only[Y9,Zl]at h;rw[<-h.2];trivial)
      · unfold GQ at h
        split at h<;>first
          |(cases h;done)
          |(split at h<;>first|(cases h;done)|(simp only[Y9,Zl]at h;rw[<-h.2];trivial))
    · unfold GI at h
      split at h<;>first|(cases h;done)|(simp[BZ]at ho;done)|(simp only[Y9,Zl]at h;rw[<-h.2];trivial)
    · split at h
      all_goals first
        |(cases h;done)
        | (unfold qW at h
           split at h
           · split at h<;>first|(cases h;done)|(simp only[Y9,Zl]at h;rw[<-h.2];trivial)
           · cases h)
    · split at h
      all_goals first
        |(cases h;done)
        | (unfold qW at h
           split at h
           · split at h<;>first|(cases h;done)|(simp only[Y9,Zl]at h;rw[<-h.2];trivial)
           · cases h)
    · cases h
  |indexAddr t x i=>simp[BZ]at ho
  |index t x i=>simp[BZ]at ho
  |slice t x lo hi mx=>simp[BZ]at ho
  | call c=>
    obtain⟨callee,args,d⟩:=c;cases callee with
    | builtin b=>
      cases b with
      | len=>
        simp only[lx]at h;split at h
        · split at h
          · split at h<;>first|(cases h;done)|(simp only[zu,Y9,Zl]at h;rw[<-h.2];trivial)
          · split at h<;>first|(cases h;done)|(simp only[zu,Y9,Zl]at h;rw[<-h.2];trivial)
          · split at h
            · simp only[Y9,Zl]at h;rw[<-h.2];trivial
            · split at h<;>first|(cases h;done)|(simp only[Y9,Zl]at h;rw[<-h.2];trivial)
            · cases h
          · cases h
        · cases h
      | max=>
        simp only[lx]at h;split at h
        · split at h<;>first|(cases h;done)|(simp only[Y9,Zl]at h;rw[<-h.2];trivial)
        · cases h
      | min=>
        simp only[lx]at h;split at h
        · split at h<;>first|(cases h;done)|(simp only[Y9,Zl]at h;rw[<-h.2];trivial)
        · cases h
      |_=>simp[lx]at h
    |_=>simp[lx]at h
  | unOp op t x=>
    cases op with
    |not=>simp only[lx]at h;split at h<;>first|(cases h;done)|(simp only[Y9,Zl]at h;rw[<-h.2];trivial)
    |_=>simp[lx]at h
  | lookup t x i ok=>
    have key: ∀{kc:KC} {V:Type} {e:V->IV} {z:V} {j:Value} {m:List (kc.K×V)},yh ty t ok kc e z j m (ev s.f i)=io (p,C)->C:=by
      intro kc V e z j m h;unfold yh at h;split at h
      · split at h
        · split at h
          · split at h<;>(simp only[Y9,Zl]at h;rw[<-h.2];trivial)
          · cases h
        · cases h
      · cases h
    simp only[lx]at h;split at h
    · exact key h
    · split at h
      · exact key h
      · cases h
    · cases h
  | _=>
    simp only[lx]at h
    repeat' (first|(cases h;done)|(simp only[force_eq,Y9,Zl]at h;rw[<-h.2];trivial)|split at h)
inductive Ni where
  |read (i:Nat) (o:Oper) (p:PV) (C:Prop)
  |skip (i:Nat) (o:Oper)
  |split (d:Nat) (t:Bool)
def nu(ty:Ty)(nt:Nat)(s:AS)(all:List Oper)(todo pend:List (Nat×Oper)):List (Nat×Oper)->Option Ni
  | []=>jp
  | (i,o)::r=>match todo.any (fun y=>waits o y.1)||aS o with
    |true=>nu ty nt s all todo pend r
    | false=>match cJ nt all s.f o with
      | some kw=>match lx ty s o.op with
        | some (p,C)=>match ze all pend o with
          |true=>io (.read i o p C)
          |false=>nu ty nt s all todo pend r
        |none=>nu ty nt s all todo pend r
      | some lc=>match ze all pend o with
        |true=>io (.skip i o)
        |false=>nu ty nt s all todo pend r
      | none=>match o.guard with
        | some (g,_)=>match guardOf all s.f g with
          |some (d,.iv (.v (.bool t)))=>io (.split d t)
          |_=>nu ty nt s all todo pend r
        |none=>nu ty nt s all todo pend r
def eD(ty:Ty)(nt:Nat)(all:List Oper)(s:AS):List (Nat×Oper)->Option Prop
  | []=>io True
  | (_,o)::r=>match eD ty nt all s r with
    |none=>jp
    | some R=>match cJ nt all s.f o with
      | some kw=>match lx ty s o.op with
        | some (p,C)=>match o.dst with
          |some d=>bif Zs d nt then io ((aK p (s.f.get d)∧C)∧R) else jp
          |none=>io (C∧R)
        |none=>jp
      | some lc=>match o.dst with
        |some d=>io (s.f.get d= .iv (.v (.tuple #[]))∧R)
        |none=>io R
      |none=>jp
def fw(todo:List (Nat×Oper)):List (Nat×Oper):=todo.filter fun x=>!(aS x.2||todo.any fun y=>waits x.2 y.1)
def tJ(ty:Ty)(nt:Nat)(all:List Oper)(s:AS)(todo pend:List (Nat×Oper)):Option Prop:=
  match todo.any fun y=>aS y.2 with
  |true=>eD ty nt all s pend
  |false=>io True
def q9(all:List Oper)(i:Nat)(o:Oper):Nat->List Oper->Bool
  |_,[]=>kw
  |k,q::r=>(Zz k i||((waits q i||!looks all q o)&&(match o.dst,q.dst with|some d,io e=>!Zz d e|_,_=>kw)))&&q9 all i o (k+1) r
def mW(ty:Ty)(nt:Nat)(all:List Oper):Nat->List Oper->Bool
  |_,[]=>kw
  | i,o::r=>(match o.op with
    | .alloc t=>match o.guard,o.dst,ty t with
      |none,io d,io _=>Zs d nt&&((o.after.toList.all fun e=>!Region.binds .any e)&&q9 all i o 0 all)
      |_,_,_=>lc
    |_=>kw)&&mW ty nt all (i+1) r
def DO(todo:List (Nat×Oper)):List (Nat×Oper)->Option (Nat×Oper)
  | []=>jp
  | (i,o)::r=>match aS o,CL todo i with
    |true,kw=>io (i,o)
    |_,_=>DO todo r
inductive Stop where
  |fin (e:Exit) (s:AS)
  |cond (c:Operand) (t:Bool) (x y:Code) (k:List KI) (s:AS)
  |guard (all rest:List Oper) (o:Oper) (d:Nat) (want t:Bool) (k:List KI) (s:AS)
  |op (all rest:List Oper) (o:Oper) (k:List KI) (s:AS)
  |loop (b:Code) (k:List KI) (s:AS)
  |draw (id:Nat) (ops:Array Oper) (k:List KI) (s:AS)
  |again (R:AS->Prop) (s:AS)
  |TL (all rest:List Oper) (o:Oper) (d:Nat) (want t:Bool) (k:List KI) (s:AS)
  |Ml (all:List Oper) (todo pend:List (Nat×Oper)) (d:Nat) (t:Bool) (k:List KI) (s:AS)
  |Mq (all:List Oper) (todo pend:List (Nat×Oper)) (k:List KI) (s:AS)
  |bad (why:Nat) (k:List KI) (s:AS)
  |out (k:List KI) (s:AS)
def qj(id:Nat):List KI->Option (List KI)
  | []=>jp
  | .aL j::k=>bif Zz id j then io k else qj id k
  | .code _::k=>qj id k
  | .ops _ _::k=>qj id k
  | .lp _::k=>qj id k
  | .wJ _ _::k=>qj id k
  | .cX _ _ _::k=>qj id k
  | .Ih _ _::k=>qj id k
  | .JK::k=>qj id k
  | .Qs ..::_=>jp
  | .Qt ..::_=>jp
def iQ:List KI->Option (List KI)
  | []=>jp
  | .aL _::k=>iQ k
  | .code _::k=>iQ k
  | .ops _ _::k=>iQ k
  | .lp _::k=>iQ k
  | .wJ _ _::k=>iQ k
  | .cX _ _ _::k=>iQ k
  | .Ih _ _::k=>iQ k
  | .JK::k=>iQ k
  |k=>io k
structure Y4 where
  nt:Nat
  res:List ResultVar
  body:Code
abbrev Xz:=Nat->Option Y4
def Nh(P:Program)(b:Xz):Prop:= ∀g e,b g=io e-> ∃fn,P.funcs[g]? =io fn∧fn.body=io e.body∧(fn.name== "runtime.NumGoroutine")=lc∧fn.ntmps=e.nt∧fn.results.toList=e.res
def E8{α:Type _}:Nat->List PV->(AF->α)->α
  |_,[],k=>k []
  |n,p::r,k=>yC p fun b=>E8 (n+1) r fun f=>k ((n,b)::f)
theorem y7{α:Type _}: ∀(l:List PV) (n:Nat) (k:AF->α),E8 n l k=k (q6 n l)
  | [],_,_=>rfl
  |p::r,n,k=>by simp only[E8,eM,y7 r,q6]
def callee(b:Xz)(s:AS):Op->Option (Y4×List PV)
  | .call c=>match bY s.f c with
    | some (g,asv)=>match b g with
      | some e=>match aa2 asv.length e.nt with
        |true=>io (e,asv)
        |false=>jp
      |none=>jp
    |none=>jp
  |_=>jp
structure Way where
  fns:Xz
  un:Nat
  cl:Bool
def b7(ty:Ty)(y:Way):Nat->Nat->List KI->AS->Prop->Option (Prop×Nat×Stop)
  |0,nt,k,s,C=>io (C,nt,.out k s)
  |_+1,nt,[],s,C=>io (C,nt,.fin .normal s)
  |n+1,nt,.aL _::k,s,C=>b7 ty y n nt k s C
  |_+1,nt,.lp R::_,s,C=>io (C,nt,.again R s)
  |n+1,nt,.JK::k,s,C=>b7 ty y n nt k s C
  |n+1,nt,.code (.scope b)::k,s,C=>b7 ty y n nt (.code b:: .JK::k) s C
  | n+1,nt,.Ih b m::k,s,C=>match m with
    |0=>io (C,nt,.bad 2 k s)
    |m+1=>b7 ty y n nt (.code b:: .Ih b m::k) s C
  | n+1,_,.Qs nt f res o all rest::k,s,C=>match res s with
    |none=>io (C,nt,.bad 3 k s)
    | some r=>match putDst nt o r ⟨f,s.h,s.nx⟩ with
      |none=>io (C,nt,.bad 4 k s)
      |some s'=>b7 ty y n nt (.ops all rest::k) s' C
  | n+1,_,.Qt nt f res j o all todo pend::k,s,C=>match res s with
    |none=>io (C,nt,.bad 5 k s)
    | some r=>match putDst nt o r ⟨f,s.h,s.nx⟩ with
      |none=>io (C,nt,.bad 6 k s)
      | some s'=>match eD ty nt all s' (bp pend o) with
        |none=>io (C,nt,.bad 7 k s)
        |some C''=>b7 ty y n nt (.cX all (todo.filter fun x=>!Zz x.1 j) (bp pend o)::k) s' (C∧C'')
  |n+1,nt,.code .skip::k,s,C=>b7 ty y n nt k s C
  |n+1,nt,.code (.label _)::k,s,C=>b7 ty y n nt k s C
  |n+1,nt,.code (.seq a b)::k,s,C=>b7 ty y n nt (.code a:: .code b::k) s C
  |n+1,nt,.code (.block id b)::k,s,C=>b7 ty y n nt (.code b:: .aL id::k) s C
  | n+1,nt,.code (.region id ops d)::k,s,C=>match d with
    |false=>b7 ty y n nt (.ops ops.toList ops.toList::k) s C
    | true=>match vt ops.toList,iw 0 ops.toList,mW ty nt ops.toList 0 ops.toList with
      |true,kw,kw=>b7 ty y n nt (.cX ops.toList (ig 0 ops.toList) []::k) s C
      |_,_,_=>io (C,nt,.draw id ops k s)
  |n+1,nt,.cX _ [] _::k,s,C=>b7 ty y n nt k s C
  | n+1,nt,.cX all (x::todo) pend::k,s,C=>match nu ty nt s all (x::todo) pend (x::todo) with
    | some (.read i o p C')=>match putDst nt o p s with
      |none=>io (C,nt,.bad 8 k s)
      | some s'=>match BZ o.op with
        |true=>b7 ty y n nt (.cX all ((x::todo).filter fun x=>!Zz x.1 i) ((i,o)::pend)::k) s' (C∧C')
        |false=>b7 ty y n nt (.cX all ((x::todo).filter fun x=>!Zz x.1 i) ((i,o)::pend)::k) s' C
    |some (.skip i o)=>b7 ty y n nt (.cX all ((x::todo).filter fun x=>!Zz x.1 i) ((i,o)::pend)::k) (iP o s) C
    | some (.split d _)=>match s.f.get d with
      | .iv (.v (.bool t'))=>match y.cl with
        |false=>io (C,nt,.Ml all (x::todo) pend d t' k s)
        | true=>match t' with
          |true=>b7 ty y n nt (.cX all (x::todo) pend::k) (setBool s (.tmp d) kw) C
          |false=>b7 ty y n nt (.cX all (x::todo) pend::k) (setBool s (.tmp d) lc) C
      |_=>io (C,nt,.bad 9 k s)
    | none=>match fw (x::todo) with
      | [(j,o)]=>match cJ nt all s.f o,jM all pend o,pj (x::todo) [j] with
        | some kw,kw,kw=>match tJ ty nt all s (x::todo) pend with
          |none=>io (C,nt,.bad 101 k s)
          | some CA=>match lx ty s o.op with
            | some (p,C')=>match putDst nt o p s with
              |none=>io (C,nt,.bad 102 k s)
              | some s'=>match eD ty nt all s' (bp pend o) with
                |none=>io (C,nt,.bad 103 k s)
                |some C''=>b7 ty y n nt (.cX all ((x::todo).filter fun x=>!Zz x.1 j) (bp pend o)::k) s' (C∧(CA∧C'∧C''))
            | none=>match JN ty s o.op with
              | none=>match callee y.fns s o.op with
                | none=>match Vn ty s o.op with
                  |none=>io (C,nt,.Mq all (x::todo) pend k s)
                  | some (C',p,s1)=>match putDst nt o p s1 with
                    |none=>io (C,nt,.bad 109 k s)
                    | some s'=>match eD ty nt all s' (bp pend o) with
                      |none=>io (C,nt,.bad 110 k s)
                      |some C''=>b7 ty y n nt (.cX all ((x::todo).filter fun x=>!Zz x.1 j) (bp pend o)::k) s' (C∧(CA∧C'∧C''))
                |some (e,asv)=>E8 0 asv fun f=>b7 ty y n e.nt (.code e.body:: .Qt nt s.f (ly ty · e.res) j o all (x::todo) pend::k) ⟨f,s.h,s.nx⟩ (C∧CA)
              | some (p,s1)=>match putDst nt o p s1 with
                |none=>io (C,nt,.bad 104 k s)
                | some s'=>match eD ty nt all s' (bp pend o) with
                  |none=>io (C,nt,.bad 105 k s)
                  |some C''=>b7 ty y n nt (.cX all ((x::todo).filter fun x=>!Zz x.1 j) (bp pend o)::k) s' (C∧(CA∧C''))
        |_,_,_=>io (C,nt,.Mq all (x::todo) pend k s)
      | []=>match DO (x::todo) (x::todo) with
        |none=>io (C,nt,.Mq all (x::todo) pend k s)
        | some (i,o)=>match o.op,o.dst with
          | .alloc t,io d=>match ty t with
            |none=>io (C,nt,.bad 106 k s)
            | some e=>force (c6 e.zero) fun A=>match eD ty nt all s pend,eD ty nt all (mX s d A) pend with
              |some C1,io C2=>b7 ty y n nt (.cX all ((x::todo).filter fun x=>!Zz x.1 i) pend::k) (mX s d A) (C∧(C1∧C2))
              |_,_=>io (C,nt,.bad 107 k s)
          |_,_=>io (C,nt,.bad 108 k s)
      |_=>io (C,nt,.Mq all (x::todo) pend k s)
  | n+1,nt,.code (.cond c u v)::k,s,C=>match ev s.f c with
    | .iv (.v (.bool t))=>match y.cl with
      |false=>io (C,nt,.cond c t u v k s)
      | true=>match t with
        |true=>b7 ty y n nt (.code u::k) s C
        |false=>b7 ty y n nt (.code v::k) s C
    | .kb kw=>b7 ty y n nt (.code u::k) s C
    | .kb lc=>b7 ty y n nt (.code v::k) s C
    |_=>io (C,nt,.bad 14 k s)
  | n+1,nt,.code .ret::k,s,C=>match iQ k with
    |some k'=>b7 ty y n nt k' s C
    |none=>io (C,nt,.fin .ret s)
  | n+1,nt,.code (.exit id)::k,s,C=>match qj id k with
    |some k'=>b7 ty y n nt k' s C
    |none=>io (C,nt,.bad 15 k s)
  | n+1,nt,.code (.loop b)::k,s,C=>match y.un with
    |0=>io (C,nt,.loop b k s)
    |u+1=>b7 ty y n nt (.code b:: .Ih b u::k) s C
  |_+1,nt,.code _::k,s,C=>io (C,nt,.bad 16 k s)
  |_+1,nt,.wJ _ _::k,s,C=>io (C,nt,.bad 17 k s)
  |n+1,nt,.ops _ []::k,s,C=>b7 ty y n nt k s C
  | n+1,nt,.ops all (o::r)::k,s,C=>match o.guard with
    | some (j,want)=>match guardOf all s.f j with
      | some (d,.iv (.v (.bool t)))=>bif Zs d nt then(match y.cl with
        |false=>io (C,nt,.guard all r o d want t k s)
        | true=>match t with
          |true=>b7 ty y n nt (.ops all (o::r)::k) (setBool s (.tmp d) kw) C
          |false=>b7 ty y n nt (.ops all (o::r)::k) (setBool s (.tmp d) lc) C) else io (C,nt,.bad 18 k s)
      | some (d,.kb t)=>bif Zs d nt then(match t,want,o with
        |true,kw,⟨a1,a2,a3,a4,a5,_⟩=>b7 ty y n nt (.ops all (⟨a1,a2,a3,a4,a5,jp⟩::r)::k) s C
        |false,lc,⟨a1,a2,a3,a4,a5,_⟩=>b7 ty y n nt (.ops all (⟨a1,a2,a3,a4,a5,jp⟩::r)::k) s C
        |_,_,o=>b7 ty y n nt (.ops all r::k) (iP o s) C) else io (C,nt,.bad 19 k s)
      |some (_,.iv (.v (.tuple _)))=>b7 ty y n nt (.ops all r::k) (iP o s) C
      |_=>io (C,nt,.bad 20 k s)
    | none=>match lx ty s o.op with
      | none=>match JN ty s o.op with
        | none=>match callee y.fns s o.op with
          | none=>match Vn ty s o.op with
            |none=>io (C,nt,.op all r o k s)
            | some (C',p,s1)=>match putDst nt o p s1 with
              |none=>io (C,nt,.bad 111 k s)
              |some s'=>b7 ty y n nt (.ops all r::k) s' (C∧C')
          |some (e,asv)=>E8 0 asv fun f=>b7 ty y n e.nt (.code e.body:: .Qs nt s.f (ly ty · e.res) o all r::k) ⟨f,s.h,s.nx⟩ C
        | some (p,s1)=>match putDst nt o p s1 with
          |none=>io (C,nt,.bad 21 k s)
          |some s'=>b7 ty y n nt (.ops all r::k) s' C
      | some (p,C')=>match putDst nt o p s with
        |none=>io (C,nt,.bad 22 k s)
        | some s'=>match BZ o.op with
          |true=>b7 ty y n nt (.ops all r::k) s' (C∧C')
          |false=>b7 ty y n nt (.ops all r::k) s' C
def gp(P:Program)(nt:Nat)(Q:AQ):Stop->Prop
  | .fin e s=>Q e s
  | .cond c t x y k s=>(t=kw->GO P nt (.code x::k) Q (setBool s c kw))∧(t=lc->GO P nt (.code y::k) Q (setBool s c lc))
  | .guard all r o d want t k s=>(t=want->GO P nt (.ops all ({o with guard:=jp}::r)::k) Q (setBool s (.tmp d) want))∧(t=!want->GO P nt (.ops all r::k) Q (iP o (setBool s (.tmp d) (!want))))
  | .op all r o k s=>GO P nt (.ops all (o::r)::k) Q s
  | .loop b k s=>GO P nt (.code (.loop b)::k) Q s
  | .draw id ops k s=>GO P nt (.code (.region id ops kw)::k) Q s
  | .again R s=>R s
  | .TL all r o d want t k s=>(t=want->GO P nt (.wJ all ({o with guard:=jp}::r)::k) Q (setBool s (.tmp d) want))∧(t=!want->GO P nt (.wJ all r::k) Q (iP o (setBool s (.tmp d) (!want))))
  | .Ml all todo pend d t k s=>(t=kw->GO P nt (.cX all todo pend::k) Q (setBool s (.tmp d) kw))∧(t=lc->GO P nt (.cX all todo pend::k) Q (setBool s (.tmp d) lc))
  | .Mq all todo pend k s=>GO P nt (.cX all todo pend::k) Q s
  | .bad _ _ _=>False
  | .out k s=>GO P nt k Q s
section
variable {P:Program} {ty:Ty} {nt:Nat} {Q:AQ}
theorem pc: ∀(k:List KI) {nt:Nat} {s:AS},iQ k=jp->Q .ret s->kp P nt k Q .ret s
  | [],_,_,_,h=>h
  | .code _::k,_,_,g,h=>pc k g h
  | .aL _::k,_,_,g,h=>pc k g h
  | .ops _ _::k,_,_,g,h=>pc k g h
  | .lp _::k,_,_,g,h=>pc k g h
  | .wJ _ _::k,_,_,g,h=>pc k g h
  | .cX _ _ _::k,_,_,g,h=>pc k g h
  | .Ih _ _::k,_,_,g,h=>pc k g h
  | .JK::k,_,_,g,h=>pc k g h
  | .Qs ..::_,_,_,g,_=>by simp[iQ]at g
  | .Qt ..::_,_,_,g,_=>by simp[iQ]at g
theorem eV: ∀(k:List KI) {nt:Nat} {s:AS} {b:List KI},iQ k=io b->GO P nt b Q s->kp P nt k Q .ret s
  | [],_,_,_,g,_=>by simp[iQ]at g
  | .code _::k,_,_,_,g,h=>eV k g h
  | .aL _::k,_,_,_,g,h=>eV k g h
  | .ops _ _::k,_,_,_,g,h=>eV k g h
  | .lp _::k,_,_,_,g,h=>eV k g h
  | .wJ _ _::k,_,_,_,g,h=>eV k g h
  | .cX _ _ _::k,_,_,_,g,h=>eV k g h
  | .Ih _ _::k,_,_,_,g,h=>eV k g h
  | .JK::k,_,_,_,g,h=>eV k g h
  | .Qs ..::_,_,_,_,g,h=>by
    simp only[iQ,Y9]at g;subst g;exact⟨.inr Z,h.2⟩
  | .Qt ..::_,_,_,_,g,h=>by
    simp only[iQ,Y9]at g;subst g;exact⟨.inr Z,h.2⟩
theorem dP{id:Nat}: ∀(k:List KI) {nt:Nat} {b:List KI} {s:AS},qj id k=io b->GO P nt b Q s->kp P nt k Q (.exit id) s
  | [],_,_,_,h,_=>by cases h
  | .code _::k,_,_,_,h,g=>dP k h g
  | .ops _ _::k,_,_,_,h,g=>dP k h g
  | .lp _::k,_,_,_,h,g=>dP k h g
  | .wJ _ _::k,_,_,_,h,g=>dP k h g
  | .cX _ _ _::k,_,_,_,h,g=>dP k h g
  | .Ih _ _::k,_,_,_,h,g=>dP k h g
  | .JK::k,_,_,_,h,g=>dP k h g
  | .Qs ..::_,_,_,_,h,_=>by cases h
  | .Qt ..::_,_,_,_,h,_=>by cases h
  | .aL j::k,nt,b,s,h,g=>by
    simp only[qj]at h;show if id=j then _ else _;cases hb:Zz id j with
    | true=>
      simp only[hb,cond_true,Y9]at h;subst h;rw[am (Zt hb)];exact g
    | false=>
      simp only[hb,cond_false]at h;rw[be (fun e=>by subst e;simp at hb)];exact dP k h g
theorem u9(j:cD P ty){s s':AS}{o:Oper}{p:PV}{C:Prop}(h:lx ty s o.op=io (p,C))(hC:C)(hp:putDst nt o p s=io s'):OT P nt o s (fun t=>t=s'):=by
  intro M N a w b K Z u;obtain⟨x,B,A⟩:=xS j b h hC;unfold Oper.wp;rw[B];simp only[Oper.upon];cases hd:o.dst with
  | none=>
    have:=fM hp hd;subst this;exact u M N s' _ w (.refl _ _ _ _ _) b rfl
  | some d=>
    obtain⟨y,rfl⟩:=fL hp hd;exact u M N {s with f:=(d,p)::s.f} _ w (.refl _ _ _ _ _) (b.put d p x y A) rfl
theorem l9(j:cD P ty){s s':AS}{o:Oper}{p:PV}{C:Prop}(h:lx ty s o.op=io (p,C))(hC:C)(hp:putDst nt o p s=io s'):
    (s'.h=s.h∧s'.nx=s.nx)∧ ∀M N a w,Fits M N s nt a w-> ∃x,(execOp a.eval o).run P w= .ok (.value x) w∧Fits M N s' nt (a.put o.dst x) w:=by
  cases hd:o.dst with
  | none=>
    have:=fM hp hd;subst this;exact⟨⟨rfl,rfl⟩,fun M N a w b=>let ⟨x,hx,_⟩:=xS j b h hC;⟨x,hx,b⟩⟩
  | some d=>
    obtain⟨u,rfl⟩:=fL hp hd;exact⟨⟨rfl,rfl⟩,fun M N a w b=>let ⟨x,hx,hv⟩:=xS j b h hC;⟨x,hx,b.put d p x u hv⟩⟩
theorem qk{s:AS}{all:List Oper}{todo pend:List (Nat×Oper)}: ∀{l:List (Nat×Oper)} {i:Nat} {o:Oper},(∀x∈l,x∈todo)->
    ((∀{p C},nu ty nt s all todo pend l=io (.read i o p C)->(i,o)∈todo∧aS o=lc∧(∀x∈todo,waits o x.1=lc)∧cJ nt all s.f o=io kw∧ze all pend o=kw∧lx ty s o.op=io (p,C))∧
     (nu ty nt s all todo pend l=io (.skip i o)->(i,o)∈todo∧aS o=lc∧(∀x∈todo,waits o x.1=lc)∧cJ nt all s.f o=io lc∧ze all pend o=kw))
  | [],i,o,_=>⟨fun h=>by simp[nu]at h,fun h=>by simp[nu]at h⟩
  | (j,q)::r,i,o,hl=>by
    have b:=qk (s:=s) (all:=all) (todo:=todo) (pend:=pend) (l:=r) (i:=i) (o:=o) (fun x D=>hl x (Zn _ D));have d:(todo.any (fun y=>waits q y.1)||aS q)=lc->aS q=lc∧ ∀x∈todo,waits q x.1=lc:=fun h=>by
      simp only[ZG,Z3]at h;exact⟨h.2,fun x D=>by simpa using h.1 x D⟩
    constructor
    · intro p C h
      simp only[nu]at h;split at h
      · exact b.1 h
      · rename_i u
        split at h
        · rename_i B
          split at h
          · rename_i F
            split at h
            · rename_i A
              simp only[Y9,Ni.read.injEq]at h;obtain⟨rfl,rfl,rfl,rfl⟩:=h;exact⟨hl _ (by simp),(d u).1,(d u).2,B,A,F⟩
            · exact b.1 h
          · exact b.1 h
        · split at h
          · cases h
          · exact b.1 h
        · split at h
          · split at h
            · cases h
            · exact b.1 h
          · exact b.1 h
    · intro h
      simp only[nu]at h;split at h
      · exact b.2 h
      · rename_i u
        split at h
        · split at h
          · split at h
            · cases h
            · exact b.2 h
          · exact b.2 h
        · rename_i B
          split at h
          · rename_i A
            simp only[Y9,Ni.skip.injEq]at h;obtain⟨rfl,rfl⟩:=h;exact⟨hl _ (by simp),(d u).1,(d u).2,B,A⟩
          · exact b.2 h
        · split at h
          · split at h
            · cases h
            · exact b.2 h
          · exact b.2 h
theorem Fe{s s1:AS}{o:Oper}{d:Nat}{p:PV}(hd:o.dst=io d)(hs:s1={s with f:=(d,p)::s.f})(hp:aK p (s.f.get d)){M:Mem}{N:Nm}{a:Act}{w:World}(hf:Fits M N s1 nt a w):Fits M N s nt a w:=by
  subst hs;refine⟨hf.1,fun k=>?_,hf.2.2⟩;have:=hf.2.1 k;rw[AF.ax]at this;split at this
  · rename_i b;subst b;exact hp _ _ _ _ this
  · exact this
theorem fD(u:cD P ty){all:List Oper}{s:AS}: ∀{l:List (Nat×Oper)} {C:Prop},eD ty nt all s l=io C->C-> ∀x∈l,ji P nt all s x.2
  | [],_,_,_,x,hx=>(nomatch hx)
  | (i,o)::r,C,h,hC,x,hx=>by
    simp only[eD]at h;split at h
    · cases h
    · rename_i R hR
      have key:R->(∀M N b w,Fits M N s nt b w-> ∃v,YieldsAt P all.toArray w o v b∧Fits M N s nt (b.put o.dst v) w)->ji P nt all s x.2:=by
        intro B hh;rcases Zq.1 hx with rfl|hx
        · exact hh
        · exact fD u hR B x hx
      split at h
      · rename_i y
        split at h
        · rename_i p S B
          split at h
          · rename_i d hd
            cases hb:Zs d nt with
            |false=>simp[hb]at h
            | true=>
              simp only[hb,cond_true,Y9]at h;subst h;obtain⟨⟨D,I⟩,J⟩:=hC;refine key J fun M N b w j=>?_;obtain⟨v,G,A⟩:=xS u j B I;refine⟨v,.inl ⟨eB y j,.inl G⟩,?_⟩;rw[hd];exact Fe hd Z D (j.put d p v (Y5 hb) A)
          · rename_i hd
            simp only[Y9]at h;subst h;refine key hC.2 fun M N b w j=>?_;obtain⟨v,G,A⟩:=xS u j B hC.1;exact⟨v,.inl ⟨eB y j,.inl G⟩,by rw[hd];exact j⟩
        · cases h
      · rename_i y
        have F: ∀d,o.dst=io d->s.f.get d= .iv (.v (.tuple #[]))-> ∀M N b w,Fits M N s nt b w-> ∃v,YieldsAt P all.toArray w o v b∧Fits M N s nt (b.put o.dst v) w:=fun d hd D M N b w j=>by
          refine⟨undef,.inr ⟨eB y j,rfl⟩,?_⟩;have:=j.skip o;unfold iP at this;rw[hd]at this ⊢;exact Fe hd Z (D▸aK.refl _) this
        split at h
        · rename_i d hd
          simp only[Y9]at h;subst h;exact key hC.2 (F d hd hC.1)
        · rename_i hd
          simp only[Y9]at h;subst h;exact key hC fun M N b w j=>⟨undef,.inr ⟨eB y j,rfl⟩,by rw[hd];exact j⟩
      · cases h
theorem HC{all:List Oper}{o:Oper}{r:List Oper}{d:Nat}{t:Bool}{k:List KI}{s:AS}{c:Bool}(hc:c=t)(u:s.f.get d= .iv (.v (.bool t)))(h:GO P nt (.ops all (o::r)::k) Q (setBool s (.tmp d) c)):GO P nt (.ops all (o::r)::k) Q s:=by
  subst hc;intro M N a w j;have b:=j.setBool (c:= .tmp d) u;exact AL.same (s:=s) h (lN _ _ _) b
theorem yA{c:Operand}{u v:Code}{t:Bool}{k:List KI}{s:AS}(hc:ev s.f c= .iv (.v (.bool t)))(h:GO P nt (.code (bif t then u else v)::k) Q s):GO P nt (.code (.cond c u v)::k) Q s:=by
  intro M N a w b;refine wp_cond (b.bool hc) ?_;cases t
  · exact h M N a w b
  · exact h M N a w b
theorem we{all:List Oper}{f:AF}{j d:Nat}{p:PV}(h:guardOf all f j=io (d,p)):f.get d=p:=by
  unfold guardOf at h;split at h
  · split at h
    · simp only[Y9,Zl]at h;rw[<-h.1];exact h.2
    · cases h
  · cases h
theorem DN{todo:List (Nat×Oper)}: ∀{l:List (Nat×Oper)} {i:Nat} {o:Oper},(∀x∈l,x∈todo)->DO todo l=io (i,o)->(i,o)∈todo∧CL todo i=kw
  | [],_,_,_,h=>by simp[DO]at h
  | (j,q)::r,i,o,hl,h=>by
    simp only[DO]at h;split at h
    · rename_i b
      simp only[Y9,Zl]at h;obtain⟨rfl,rfl⟩:=h;exact⟨hl _ (by simp),b⟩
    · exact DN (fun x d=>hl x (Zn _ d)) h
theorem wC{all:List Oper}{i:Nat}{o:Oper}: ∀{l:List Oper} {n:Nat},q9 all i o n l=kw-> ∀k q,l[k]? =io q->n+k≠i->(waits q i=kw∨looks all q o=lc)∧ ∀d,o.dst=io d->q.dst≠io d
  | [],_,_,k,q,hk,_=>by simp at hk
  | c::l,n,h,k,q,hk,hne=>by
    simp only[q9,Zw,aas,aae]at h;cases k with
    | zero=>
      simp at hk;subst hk;rcases h.1 with b|⟨b,x⟩
      · exact absurd (Zt b) (by simpa using hne)
      · refine⟨b,fun d j u=>?_⟩
        rw[j,u]at x;simp at x
    |succ k=>exact wC h.2 k q (by simpa using hk) (by omega)
theorem zQ(B:cD P ty){all:List Oper}(h:mW ty nt all 0 all=kw):ko P nt all:=by
  have key: ∀(l:List Oper) (n:Nat),mW ty nt all n l=kw-> ∀k o,l[k]? =io o->aS o=kw->
      o.guard=jp∧(∃d,o.dst=io d∧d<nt)∧(∃t v,o.op= .alloc t∧ ∀w,(zeroValue t).run P w= .ok v w)∧(∀k,waits o k=lc)∧q9 all (n+k) o 0 all=kw:=by
    intro l
    induction l with
    |nil=>intro n _ k o j;simp at j
    | cons c l ih=>
      intro n h k o j u;simp only[mW,Zw]at h;cases k with
      | zero=>
        simp at j;subst j;have b:=h.1;split at b
        · rename_i t A
          split at b
          · rename_i d e J hd x
            simp only[Zw]at b;refine⟨J,⟨d,hd,Y5 b.1⟩,⟨t,_,A,fun w=>en (B _ _ x)⟩,fun k=>?_,b.2.2⟩;unfold waits;refine Z3.2 fun e x=>?_;have:=ZA.1 b.2.1 e x;simp only[aae]at this;simp[this]
          · cases b
        · rename_i y
          unfold aS at u;split at u
          · rename_i t A;exact absurd A (y t)
          · cases u
      | succ k=>
        have:=ih (n+1) h.2 k o (by simpa using j) u;rw[show n+(k+1)=n+1+k by omega];exact this
  intro i o Y u;obtain⟨b,F,G,I,D⟩:=key all 0 h i o Y u;refine⟨b,F,G,I,fun k q j S=>?_⟩;rw[Zu]at D;exact wC D k q j (by omega)
theorem Bd{b:Xz}(d:Nh P b){s:AS}{o:Op}{e:Y4}{asv:List PV}(h:callee b s o=io (e,asv)):
    ∃g c fn,o= .call c∧bY s.f c=io (g,asv)∧asv.length<=e.nt∧P.funcs[g]? =io fn∧fn.body=io e.body∧(fn.name== "runtime.NumGoroutine")=lc∧fn.ntmps=e.nt∧fn.results.toList=e.res:=by
  unfold callee at h;split at h
  · rename_i c
    split at h
    · rename_i g j D
      split at h
      · rename_i G F
        split at h
        · rename_i hb
          simp only[Y9,Zl]at h;obtain⟨rfl,rfl⟩:=h;obtain⟨fn,u,x,y,A,B⟩:=d _ _ F;exact⟨g,c,fn,rfl,D,Y5 hb,u,x,y,A,B⟩
        · cases h
      · cases h
    · cases h
  · cases h
theorem T5(hm:P.follows .mixedOrders=kw)(B:cD P ty){y:Way}(s0:Nh P y.fns): ∀(n nt:Nat) (k:List KI) (s:AS) (C0 C:Prop) (G:Nat) (st:Stop),b7 ty y n nt k s C0=io (C,G,st)->(C->C0)∧(C->gp P G Q st->GO P nt k Q s):=by
  intro n
  induction n with
  | zero=>
    intro nt k s C0 C G st h;simp only[b7,Y9,Zl]at h;obtain⟨rfl,rfl,rfl⟩:=h;exact⟨fun h=>h,fun _ g=>g⟩
  | succ n ih=>
    intro nt k s C0 C G st h;have A: ∀{I:Nat} {k2:List KI} {s2:AS},b7 ty y n I k2 s2 C0=io (C,G,st)->(GO P I k2 Q s2->GO P nt k Q s)->(C->C0)∧(C->gp P G Q st->GO P nt k Q s):=
      fun h f=>have:=ih _ _ _ _ _ _ _ h;⟨this.1,fun hC g=>f (this.2 hC g)⟩
    have D: ∀{I:Nat} {k2:List KI} {s2:AS} {C1:Prop},b7 ty y n I k2 s2 (C0∧C1)=io (C,G,st)->(C1->GO P I k2 Q s2->GO P nt k Q s)->(C->C0)∧(C->gp P G Q st->GO P nt k Q s):=
      fun h f=>have:=ih _ _ _ _ _ _ _ h;⟨fun hC=>(this.1 hC).1,fun hC g=>f (this.1 hC).2 (this.2 hC g)⟩
    have here: ∀{r0:Stop},io (C0,nt,r0)=io (C,G,st)->(gp P nt Q r0->GO P nt k Q s)->(C->C0)∧(C->gp P G Q st->GO P nt k Q s):=by
      intro r0 h f;simp only[Y9,Zl]at h;obtain⟨rfl,rfl,rfl⟩:=h;exact⟨fun h=>h,fun _ g=>f g⟩
    have bad: ∀{I:Nat} {t0:Nat} {k2:List KI} {s2:AS},io (C0,I,Stop.bad t0 k2 s2)=io (C,G,st)->(C->C0)∧(C->gp P G Q st->GO P nt k Q s):=by
      intro I t0 k2 s2 h;simp only[Y9,Zl]at h;obtain⟨rfl,rfl,rfl⟩:=h;exact⟨fun h=>h,fun _ g=>g.elim⟩
    cases k with
    |nil=>simp only[b7]at h;exact here h fun g=>g
    | cons i k=>
      cases i with
      |lp R=>simp only[b7]at h;exact here h fun g=>g
      |aL id=>simp only[b7]at h;exact A h UE
      |JK=>simp only[b7]at h;exact A h fun g=>g
      | Ih b m=>
        simp only[b7]at h;split at h
        · exact bad h
        · exact A h go_round
      | Qs I f res o all rest=>
        simp only[b7]at h;split at h
        · exact bad h
        · rename_i r hr
          split at h
          · exact bad h
          · rename_i s' F
            exact A h fun g=>⟨.inl Z,r,s',hr,F,g⟩
      | Qt I f res j o all todo pend=>
        simp only[b7]at h;split at h
        · exact bad h
        · rename_i r hr
          split at h
          · exact bad h
          · rename_i s' F
            split at h
            · exact bad h
            · rename_i j0 S
              exact D h fun hC g=>⟨.inl Z,r,s',hr,F,fD B S hC,g⟩
      | code c=>
        cases c with
        |skip=>simp only[b7]at h;exact A h go_skip
        |scope b=>simp only[b7]at h;exact A h LX
        |label l=>simp only[b7]at h;exact A h LZ
        |seq a b=>simp only[b7]at h;exact A h Uz
        |block id b=>simp only[b7]at h;exact A h L7
        | region id ops d=>
          cases d with
          |false=>simp only[b7]at h;exact A h go_region
          | true=>
            simp only[b7]at h;split at h
            · rename_i h1 h2 h3
              exact A h (L6 hm (Az h1) h2 (zQ B h3))
            · exact here h fun g=>g
        | cond c u v=>
          simp only[b7]at h;split at h
          · rename_i t he
            split at h
            · exact here h fun g=>Qm he g.1 g.2
            · split at h
              · exact A h (yA he)
              · exact A h (yA he)
          · rename_i he
            exact A h (yz he)
          · rename_i he
            exact A h (yz he)
          · exact bad h
        | ret=>
          simp only[b7]at h;split at h
          · rename_i k' F
            exact A h fun g=>go_ret (eV k F g)
          · rename_i F
            exact here h fun g=>go_ret (pc k F g)
        | exit id=>
          simp only[b7]at h;split at h
          · rename_i k' F
            exact A h fun g=>Qk (dP k F g)
          · exact bad h
        | loop b=>
          simp only[b7]at h;split at h
          · exact here h fun g=>g
          · exact A h LW
        |_=>simp only[b7]at h;exact bad h
      |wJ all rest=>simp only[b7]at h;exact bad h
      | cX all todo pend=>
        cases todo with
        |nil=>simp only[b7]at h;exact A h Ex
        | cons x todo=>
          have d0: ∀{j:Nat} {o:Oper},fw (x::todo)=[(j,o)]->(j,o)∈(x::todo)∧aS o=lc∧ ∀y∈(x::todo),waits o y.1=lc:=by
            intro j o h1;have h2:(j,o)∈fw (x::todo):=by rw[h1];simp
            obtain⟨h3,h4⟩:=ZM.1 h2;simp only[aae,ZG,Z3]at h4;exact⟨h3,h4.1,fun y J=>by simpa using h4.2 y J⟩
          have Y: ∀{CA:Prop},tJ ty nt all s (x::todo) pend=io CA->CA-> ∀y∈(x::todo),aS y.2=kw-> ∀y∈pend,ji P nt all s y.2:=by
            intro CA h1 c0 y J e1;unfold tJ at h1;split at h1
            · exact fD B h1 c0
            · rename_i h2
              have:=Z3.1 h2 y J;rw[e1]at this;exact absurd Z this
          have b0: ∀{j:Nat} {o:Oper} {s':AS},fw (x::todo)=[(j,o)]->cJ nt all s.f o=io kw->jM all pend o=kw->pj (x::todo) [j]=kw->(∀y∈(x::todo),aS y.2=kw-> ∀y∈pend,ji P nt all s y.2)->OT P nt o s (fun t=>t=s')->
              (∀y∈bp pend o,ji P nt all s' y.2)->GO P nt (.cX all ((x::todo).filter fun x=>!Zz x.1 j) (bp pend o)::k) Q s'->GO P nt (.cX all (x::todo) pend::k) Q s:=by
            intro j o s' h1 h2 h3 h4 ha h5 h6 h7;obtain⟨a0,o0,q0⟩:=d0 h1;refine Cq h4 ⟨_,a0,o0⟩ ha fun j' o' hj _ hu=>?_;simp only[Zk]at hj;subst hj;have:=hu o a0;subst this;exact⟨o0,fun y J _=>q0 y J,h3,h2,_,h5,fun t ht=>by subst ht;exact⟨h6,h7⟩⟩
          simp only[b7]at h;split at h
          · rename_i i o p C' p0
            obtain⟨g1,ga,gb,g2,g3,g4⟩:=(qk (fun _ h=>h)).1 p0;split at h
            · exact bad h
            · rename_i s' F
              split at h
              · exact D h fun hC g=>yx g1 ga gb g2 g3 (l9 B g4 hC F).1 (l9 B g4 hC F).2 g
              · rename_i ho
                exact A h fun g=>yx g1 ga gb g2 g3 (l9 B g4 (w6 g4 ho) F).1 (l9 B g4 (w6 g4 ho) F).2 g
          · rename_i i o p0
            obtain⟨g1,ga,gb,g2,g3⟩:=(qk (fun _ h=>h)).2 p0;exact A h (L5 g1 ga gb g2 g3)
          · split at h
            · rename_i t' J
              split at h
              · exact here h fun g=>vH J g.1 g.2
              · split at h
                · exact A h fun g=>vH J (fun _=>g) (fun h=>by cases h)
                · exact A h fun g=>vH J (fun h=>by cases h) (fun _=>g)
            · exact bad h
          · split at h
            · rename_i j o i0
              split at h
              · rename_i e0 f0 g0
                split at h
                · exact bad h
                · rename_i CA c0
                  split at h
                  · rename_i p C' hr
                    split at h
                    · exact bad h
                    · rename_i s' F
                      split at h
                      · exact bad h
                      · rename_i j0 S
                        exact D h fun hC g=>b0 i0 e0 f0 g0 (Y c0 hC.1) (u9 B hr hC.2.1 F) (fD B S hC.2.2) g
                  · split at h
                    · split at h
                      · split at h
                        · exact here h fun g=>g
                        · rename_i C' p s1 k0
                          split at h
                          · exact bad h
                          · rename_i s' F
                            split at h
                            · exact bad h
                            · rename_i j0 S
                              exact D h fun hC g=>b0 i0 e0 f0 g0 (Y c0 hC.1) (Fj B k0 hC.2.1 F) (fD B S hC.2.2) g
                      · rename_i e v0 m0
                        rw[y7]at h;obtain⟨g,c,fn,ho,ha,he,h1,h2,h3,h4,h5⟩:=Bd s0 m0;obtain⟨a0,o0,q0⟩:=d0 i0;exact D h fun hC gg=>Ql B a0 g0 q0 (Y c0 hC) f0 e0 ho ha h1 h2 h3 h4 h5 he gg
                    · rename_i p s1 n0
                      split at h
                      · exact bad h
                      · rename_i s' F
                        split at h
                        · exact bad h
                        · rename_i j0 S
                          exact D h fun hC g=>b0 i0 e0 f0 g0 (Y c0 hC.1) (FQ B n0 F) (fD B S hC.2) g
              · exact here h fun g=>g
            · split at h
              · exact here h fun g=>g
              · rename_i i o d1
                split at h
                · rename_i t d b1 y0
                  split at h
                  · exact bad h
                  · rename_i e he
                    rw[force_eq]at h;split at h
                    · rename_i C1 C2 w0 x0
                      obtain⟨m1,m2⟩:=DN (fun _ h=>h) d1;exact D h fun hC g=>Ji m1 b1 (fun w=>en (B _ _ he)) y0 m2 (fD B w0 hC.1) (fD B x0 hC.2) g
                    · exact bad h
                · exact bad h
            · exact here h fun g=>g
      | ops all rest=>
        cases rest with
        |nil=>simp only[b7]at h;exact A h F8
        | cons o r=>
          simp only[b7]at h;split at h
          · rename_i j want hg
            split at h
            · rename_i d t J
              cases hb:Zs d nt with
              |false=>simp only[hb,cond_false]at h;exact bad h
              | true=>
                simp only[hb,cond_true]at h;split at h
                · exact here h fun g=>L3 hg J (Y5 hb) g.1 g.2
                · split at h
                  · exact A h (HC Z (we J))
                  · exact A h (HC Z (we J))
            · rename_i d t J
              cases hb:Zs d nt with
              |false=>simp only[hb,cond_false]at h;exact bad h
              | true=>
                simp only[hb,cond_true]at h;obtain⟨a1,a2,a3,a4,a5,a6⟩:=o;cases t<;>cases want<;>simp only at h
                all_goals exact A h fun g=>Ew hg J (Y5 hb) g
            · rename_i d vs J
              exact A h fun g=>Ev hg J g
            · exact bad h
          · rename_i hg
            split at h
            · split at h
              · split at h
                · split at h
                  · exact here h fun g=>g
                  · rename_i C' p s1 k0
                    split at h
                    · exact bad h
                    · rename_i s' F
                      exact D h fun hC g=>dK hg (Fj B k0 hC F) fun t ht=>by subst ht;exact g
                · rename_i e v0 m0
                  rw[y7]at h;obtain⟨g,c,fn,ho,ha,he,h1,h2,h3,h4,h5⟩:=Bd s0 m0;exact A h fun gg=>UB B hg ho ha h1 h2 h3 h4 h5 he gg
              · rename_i p s1 n0
                split at h
                · exact bad h
                · rename_i s' F
                  exact A h fun g=>dK hg (FQ B n0 F) fun t ht=>by subst ht;exact g
            · rename_i p C' hr
              split at h
              · exact bad h
              · rename_i s' F
                split at h
                · exact D h fun hC g=>dK hg (u9 B hr hC F) fun t ht=>by subst ht;exact g
                · rename_i ho
                  exact A h fun g=>dK hg (u9 B hr (w6 hr ho) F) fun t ht=>by subst ht;exact g
theorem Ur:Nh P (fun _=>jp):=fun _ _ h=>nomatch h
theorem aR(hm:P.follows .mixedOrders=kw)(d:cD P ty)(n:Nat){k:List KI}{s:AS}{C:Prop}{b:Nat}{st:Stop}(h:b7 ty ⟨fun _=>jp,0,lc⟩ n nt k s True=io (C,b,st))(hC:C)(hg:gp P b Q st):GO P nt k Q s:=
  (T5 hm d Ur n nt k s True C b st h).2 hC hg
end
mutual
def PV.low(n:Nat):PV->Bool
 | .iv _=>kw
 | .agg cs=>bq n cs
 | .bQ cs=>bq n cs
 | .ptr i _=>Zs i n
 | .dH i _ _ _=>Zs i n
 | .fE _ i=>Zs i n
 | .sl i _ _ _=>Zs i n
 | .mp i=>Zs i n
 | .du _ first caps=>match bq n first with
  |true=>bq n caps
  |false=>lc
 | .kb _=>kw
 | .any=>kw
def bq(n:Nat):List PV->Bool
 | []=>kw
 |p::r=>match PV.low n p with
  |true=>bq n r
  |false=>lc
end
theorem iC{n:Nat}: ∀{l:List PV},bq n l=kw-> ∀(j:Nat) (p:PV),l[j]? =io p->p.low n=kw
 | [],_,j,p,h=>by simp at h
 |c::l,hb,j,p,h=>by
  simp only[bq]at hb;split at hb
  .rename_i b;cases j with
   |zero=>simp at h;subst h;exact b
   |succ j=>exact iC hb j p (by simpa using h)
  .cases hb
def AO.low(n:Nat):AO->Prop
 | .cells cs _=>bq n cs=kw
 | .row _ es=> ∀(k:Nat) (e:List PV),es[k]? =io e->bq n e=kw
 | .bS _ _=>True
 | .gP=>True
 | .map ..=>True
 | .cF ..=>True
 | .eS _ _=>True
section
variable {M:Mem} {N:Nm} {U:Nat->Prop} {n:Nat}
theorem VR.down{p:PV}{x:Value}(h:VR M N U p x):p.low n=kw->VR M N (· <n) p x:=by
 induction h with
 |iv x y h=>exact fun _=> .iv x y h
 |agg cs ys hl hr ih=>exact fun hb=> .agg _ _ hl fun j p d=>ih j p d (iC hb j p d)
 |bQ cs ys hl hr ih=>exact fun hb=> .bQ _ _ hl fun j p d=>ih j p d (iC hb j p d)
 |ptr i off h=>exact fun hb=> .ptr i off (Y5 hb)
 |dH i sz k off h=>exact fun hb=> .dH i sz k off (Y5 hb)
 |fE z i h=>exact fun hb=> .fE z i (Y5 hb)
 |sl i off len sz cap h u hl hc he=>exact fun hb=> .sl i off len sz cap (Y5 hb) u hl hc he
 |pW i sz h=>exact fun hb=> .pW i sz (Y5 hb)
 |sle i sz cap h hc he=>exact fun hb=> .sle i sz cap (Y5 hb) hc he
 |mp i h=>exact fun hb=> .mp i (Y5 hb)
 |du fn first caps f' c' h1 h2 hr1 hr2 ih1 ih2=>
  intro hb;simp only[PV.low]at hb;split at hb
  .rename_i u;exact .du _ _ _ _ _ h1 h2 (fun j p d=>ih1 j p d (iC u j p d)) (fun j p d=>ih2 j p d (iC hb j p d))
  .cases hb
 |kb b=>exact fun _=> .kb b
 |any x=>exact fun _=> .any x
theorem OR.down{w:World}{i:Nat}{o:AO}(h:OR M N U w i o)(hb:o.low n):OR M N (· <n) w i o:=by
 cases o with
 |cells cs T0=>obtain⟨c,T,b,d,u,x,y⟩:=h;exact⟨c,T,b,d,u,fun j p B=>(x j p B).down (iC hb j p B),y⟩
 |row sz es=>
  rcases h with h|⟨F,c,T,b,d,u,x,y⟩
  .exact .inl h
  exact .inr ⟨F,c,T,b,d,u,x,fun k e j p A D=>(y k e j p A D).down (iC (hb k e A) j p D)⟩
 |bS l T=>exact h
 |gP=>exact h
 |map kc ev z zv dv m=>exact h
 |cF kc ev m l cu=>exact h
 |eS s p=>exact h
end
def Ri(n:Nat)(f:AF):AF->Prop
 | []=>True
 |(d,p)::r=>f.get d=p∧p.low n=kw∧Ri n f r
def Gy(n:Nat)(h:AH):AH->Prop
 | []=>True
 |(_,jp)::r=>Gy n h r
 |(i,io o)::r=>h.get i=io o∧i<n∧o.low n∧Gy n h r
structure Xj (s t:AS):Prop where
 nx:t.nx<=s.nx
 f:Ri t.nx s.f t.f
 h:Gy t.nx s.h t.h
theorem uV{n:Nat}{h:AH}: ∀{g:AH},Gy n h g-> ∀i o,g.get i=io o->h.get i=io o∧i<n∧o.low n
 | [],_,i,o,hi=>by simp[AH.get]at hi
 |(k,jp)::r,hw,i,o,hi=>by
  rw[AH.ax]at hi;split at hi
  .cases hi
  .exact uV (g:=r) hw i o hi
 |(k,io p)::r,hw,i,o,hi=>by
  obtain⟨b,d,j,u⟩:=hw;rw[AH.ax]at hi;split at hi
  .rename_i e;subst e;simp only[Y9]at hi;subst hi;exact⟨b,d,j⟩
  .exact uV u i o hi
theorem Xj.ext{s t:AS}(hw:Xj s t){M u:Mem}{N x:Nm}{n:Nat}{h:AH}{w y:World}(b:Ext M N (· <n) h w u x (· <s.nx) s.h y)(hn:n<=t.nx):Ext M N (· <n) h w u x (· <t.nx) t.h y:=
 ⟨b.os,b.tape,b.output,b.size,b.iT,b.sb,b.kr,b.nm,fun _ d=>aa9 d hn,fun i o d j=>b.jt i o (uV hw.h i o d).1 j⟩
theorem dG{p:Nat->Prop}(h: ∃n,p n): ∃n,p n∧ ∀m,p m->n<=m:=by
 obtain⟨n,u⟩:=h
 induction n using abR with
 |_ n ih=>
  by_cases j: ∃m,m<n∧p m
  .obtain⟨m,b,d⟩:=j;exact ih m b d
  .exact⟨n,u,fun m d=>aba fun b=>j ⟨m,b,d⟩⟩
section
variable {P:Program} {nt:Nat} {Q:AQ} {k:List KI} {s:AS}
end
section
variable {P:Program}
def Pure(P:Program)(k:FuncId)(args:List PV)(r:PV):Prop:=Fn P k args [] fun q h n=>q=r∧h=[]∧n=0
end
mutual
theorem PV.j5(σ:Nat->Nat): ∀p:PV,p.low 0=kw->p.dc σ=p
 | .iv _,_=>rfl
 | .agg cs,h=>by simp only[PV.dc];rw[iY σ cs (by simpa[PV.low]using h)]
 | .bQ cs,h=>by simp only[PV.dc];rw[iY σ cs (by simpa[PV.low]using h)]
 | .ptr i o,h=>by simp[PV.low,Zs]at h
 | .dH i _ _ o,h=>by simp[PV.low,Zs]at h
 | .fE _ i,h=>by simp[PV.low,Zs]at h
 | .sl i _ _ _,h=>by simp[PV.low,Zs]at h
 | .mp i,h=>by simp[PV.low,Zs]at h
 | .du fn a b,h=>by
  simp only[PV.low]at h;simp only[PV.dc];split at h
  .rename_i d;rw[iY σ a d,iY σ b h]
  .cases h
 | .kb _,_=>rfl
 | .any,_=>rfl
theorem iY(σ:Nat->Nat): ∀l:List PV,bq 0 l=kw->ep σ l=l
 | [],_=>rfl
 |p::r,h=>by
  simp only[bq]at h;split at h
  .rename_i b;simp only[ep];rw[PV.j5 σ p b,iY σ r h]
  .cases h
end
section
variable {P:Program} {nt:Nat} {Q:AQ} {k:List KI} {s:AS}
theorem bg{all rest:List Oper}{o:Oper}{c:Call}{g:FuncId}{args:List PV}{r:PV}{s':AS}(hc:Pure P g args r)(ho:o.op= .call c)(hg:o.guard=jp)(ha:bY s.f c=io (g,args))(b:bq 0 args=kw)
  (hr:r.low 0=kw) (hp:putDst nt o r s=io s') (h:GO P nt (.ops all rest::k) Q s'):GO P nt (.ops all (o::rest)::k) Q s:=by
 refine dK (R:=fun t=>t=s') hg ?_ (fun t d=>by subst d;exact h);refine nE ho ha hc (L:=[]) (by simp) (by simp) Z (iY _ _ b).symm ?_;rintro q j u ⟨rfl,rfl,rfl⟩;exact⟨s',by rw[PV.j5 _ _ hr];exact hp,rfl⟩
end
def fb(o q:AO):Prop:=(q.real=kw->o.real=kw)∧ ∀(M:Mem) (N:Nm) (U:Nat->Prop) (w:World) (i:Nat),OR M N U w i o->OR M N U w i q
theorem aK.of_eq{p q:PV}(h:p=q):aK p q:=h▸ .refl p
theorem aK.trans{p q r:PV}(a:aK p q)(b:aK q r):aK p r:=fun M N U x h=>b M N U x (a M N U x h)
theorem aK.any(p:PV):aK p .any:=fun _ _ _ _ _=> .any _
theorem n6.refl(p:IV):n6 p p:=fun _ _ h=>h
theorem n6.of_eq{p q:IV}(h:p=q):n6 p q:=h▸ .refl p
theorem fb.refl(o:AO):fb o o:=⟨id,fun _ _ _ _ _ h=>h⟩
theorem fb.of_eq{o q:AO}(h:o=q):fb o q:=h▸ .refl o
theorem fb.trans{o q r:AO}(a:fb o q)(b:fb q r):fb o r:=⟨fun h=>a.1 (b.1 h),fun M N U w i h=>b.2 M N U w i (a.2 M N U w i h)⟩
theorem aK.iv{p q:IV}(h:n6 p q):aK (.iv p) (.iv q):=fun M N U x b=>by
 cases b with
 |iv _ _ hi=>exact .iv _ _ (h M x hi)
theorem n6.nil(sz:Nat)(el:Nat->List IV):n6 (.v (.slice jp 0 0)) (.de sz 0 el):=fun M x h=>by
 cases h;exact .j8 _ _ _ _
theorem aK.nil(sz:Nat)(el:Nat->List IV):aK (.iv (.v (.slice jp 0 0))) (.iv (.de sz 0 el)):= .iv (.nil sz el)
theorem aK.kb(b:Bool):aK (.kb b) (.iv (.v (.bool b))):=fun M N U x h=>by
 cases h;exact .iv _ _ (.v _)
theorem n6.de{sz n y:Nat}{el d:Nat->List IV}(hn:n=y)(h: ∀k,k<n->el k=d k):n6 (.de sz n el) (.de sz y d):=by
 subst hn;intro M x B;cases B with
 |j8=>exact .j8 _ _ _ _
 |de _ _ _ b off cap hn hc hl hm hr=>
  exact .de _ _ _ _ _ _ hn hc (fun k u=>by rw[<-h k u];exact hl k u) hm (fun k j p u A=>hr k j p u (by rw[h k u];exact A))
theorem aK.de{sz n d:Nat}{el b:Nat->List IV}(hn:n=d)(h: ∀k,k<n->el k=b k):aK (.iv (.de sz n el)) (.iv (.de sz d b)):= .iv (.de hn h)
def lh:List PV->List PV->Prop
 | [],[]=>True
 |p::r,q::s=>aK p q∧lh r s
 |_,_=>False
theorem lh.length: ∀{a b:List PV},lh a b->a.length=b.length
 | [],[],_=>rfl
 |_::_,_::_,h=>congrArg (· +1) (lh.length h.2)
 | [],_::_,h=>h.elim
 |_::_,[],h=>h.elim
theorem lh.get: ∀{a b:List PV},lh a b-> ∀(j:Nat) (q:PV),b[j]? =io q-> ∃p,a[j]? =io p∧aK p q
 | [],[],_,j,q,h=>by simp at h
 |p::r,q0::s,hh,j,q,h=>by
  cases j with
  |zero=>simp at h;subst h;exact⟨p,rfl,hh.1⟩
  |succ j=>simpa using lh.get hh.2 j q (by simpa using h)
 | [],_::_,hh,_,_,_=>hh.elim
 |_::_,[],hh,_,_,_=>hh.elim
theorem aK.agg{a b:List PV}(h:lh a b):aK (.agg a) (.agg b):=fun M N U x u=>by
 cases u with
 |agg _ ys hl hr=>exact .agg _ _ (h.length▸hl) fun j q d=>let ⟨p,hp,hle⟩:=h.get j q d;hle M N U _ (hr j p hp)
theorem aK.bQ{a b:List PV}(h:lh a b):aK (.bQ a) (.bQ b):=fun M N U x u=>by
 cases u with
 |bQ _ ys hl hr=>exact .bQ _ _ (h.length▸hl) fun j q d=>let ⟨p,hp,hle⟩:=h.get j q d;hle M N U _ (hr j p hp)
theorem fb.cells{a b:List PV}{T0:Option TypeId}(h:lh a b):fb (.cells a T0) (.cells b T0):=⟨fun h=>h,fun M N U w i ⟨c,T,h1,h2,h3,h4,h5⟩=>
 ⟨c,T,h1,h2,h.length▸h3,fun j q d=>let ⟨p,hp,hle⟩:=h.get j q d;hle M N U _ (h4 j p hp),h5⟩⟩
theorem fb.Rk(a:List PV)(T0:Option TypeId):fb (.cells a T0) (.cells a):=⟨fun h=>h,fun M N U w i ⟨c,T,h1,h2,h3,h4,_⟩=>⟨c,T,h1,h2,h3,h4,.none _⟩⟩
theorem Fn.le{P:Program}{k:FuncId}{aa args:List PV}{os:List AO}{R:PV->AH->Nat->Prop}(h:Fn P k args os R)(b:lh aa args):Fn P k aa os R:=
 ⟨h.1,fun M N w A x u y=>h.2 M N w A x (by rw[<-b.length];exact u) fun j q d=>let ⟨p,hp,hpq⟩:=b.get j q d;hpq M N _ _ (y j p hp)⟩
theorem Pure.le{P:Program}{k:FuncId}{aa args:List PV}{r:PV}(h:Pure P k args r)(b:lh aa args):Pure P k aa r:=Fn.le h b
theorem Fn.mono{P:Program}{k:FuncId}{args:List PV}{os:List AO}{R b:PV->AH->Nat->Prop}(h:Fn P k args os R)(hR: ∀r h n,R r h n->b r h n):Fn P k args os b:=
 ⟨h.1,fun M N w y j d u=>(h.2 M N w y j d u).mono fun _ _ ⟨x,M',N',r,h',n',e,hh,rest⟩=>⟨x,M',N',r,h',n',e,hR _ _ _ hh,rest⟩⟩
def sg(n0:Nat)(L:List Nat)(i:Nat):Nat:=bif Zs i n0 then i else L.getD (i-n0) 0
theorem gE{n0:Nat}{L:List Nat}{i:Nat}(h:i<n0):sg n0 L i=i:=by
 have:Zs i n0=kw:=ZO h;simp[sg,this]
def Gx(n:Nat)(σ:Nat->Nat)(f:AF):AF->Prop
 | []=>True
 |(d,p)::r=>aK (f.get d) (p.dc σ)∧p.low n=kw∧Gx n σ f r
def n7(n:Nat)(σ:Nat->Nat)(h:AH):AH->Prop
 | []=>True
 |(_,jp)::r=>n7 n σ h r
 |(i,io o)::r=>(∃b,h.get (σ i)=io b∧fb b (o.dc σ))∧i<n∧o.low n∧n7 n σ h r
def ew(σ:Nat->Nat):AH->List Nat
 | []=> []
 |(_,jp)::r=>ew σ r
 |(i,io _)::r=>σ i::ew σ r
structure Wk (n0:Nat) (L:List Nat) (s t:AS):Prop where
 nx:t.nx=n0+L.length
 ns:n0<=s.nx
 lt: ∀j∈L,j<s.nx
 f:Gx t.nx (sg n0 L) s.f t.f
 h:n7 t.nx (sg n0 L) s.h t.h
 inj:(ew (sg n0 L) t.h).Nodup
theorem Gw{n:Nat}{σ:Nat->Nat}{f:AF}: ∀{g:AF},Gx n σ f g-> ∀d,g.get d= .any∨(aK (f.get d) ((g.get d).dc σ)∧(g.get d).low n=kw)
 | [],_,_=> .inl Z
 |(k,p)::r,h,d=>by
  obtain⟨b,j,u⟩:=h;rw[AF.ax];by_cases hd:d=k
  .subst hd;rw[am Z];exact .inr ⟨b,j⟩
  .rw[be hd];exact Gw u d
theorem kL{n:Nat}{σ:Nat->Nat}{h:AH}: ∀{g:AH},n7 n σ h g-> ∀i o,g.get i=io o->(∃b,h.get (σ i)=io b∧fb b (o.dc σ))∧i<n∧o.low n
 | [],_,i,o,hi=>by simp[AH.get]at hi
 |(k,jp)::r,hw,i,o,hi=>by
  rw[AH.ax]at hi;split at hi
  .cases hi
  .exact kL (g:=r) hw i o hi
 |(k,io p)::r,hw,i,o,hi=>by
  obtain⟨d,j,u,x⟩:=hw;rw[AH.ax]at hi;split at hi
  .rename_i e;subst e;simp only[Y9]at hi;subst hi;exact⟨d,j,u⟩
  .exact kL x i o hi
theorem lP{σ:Nat->Nat}: ∀{g:AH} {i:Nat} {o:AO},g.get i=io o->σ i∈ew σ g
 | [],i,o,h=>by simp[AH.get]at h
 |(k,jp)::r,i,o,h=>by
  rw[AH.ax]at h;split at h
  .cases h
  .exact lP (g:=r) h
 |(k,io p)::r,i,o,h=>by
  rw[AH.ax]at h;split at h
  .rename_i e;subst e;simp[ew]
  .exact Zn _ (lP h)
theorem oT{σ:Nat->Nat}: ∀{g:AH},(ew σ g).Nodup-> ∀i j o p,g.get i=io o->g.get j=io p->σ i=σ j->i=j
 | [],_,i,j,o,p,h,_,_=>by simp[AH.get]at h
 |(k,jp)::r,hn,i,j,o,p,hi,hj,he=>by
  rw[AH.ax]at hi hj;split at hi
  .cases hi
  .split at hj
   .cases hj
   .exact oT (g:=r) hn i j o p hi hj he
 |(k,io q)::r,hn,i,j,o,p,hi,hj,he=>by
  rw[AH.ax]at hi hj;simp only[ew,aat]at hn;split at hi
  .rename_i d;split at hj
   .rename_i b;rw[d,b]
   .subst d;exact absurd (he▸lP hj) hn.1
  .split at hj
   .rename_i b;subst b;exact absurd (he▸lP hi) hn.1
   .exact oT hn.2 i j o p hi hj he
section
variable {n0:Nat} {L:List Nat} {s t:AS} {M:Mem} {N:Nm} {w:World}
theorem fb.real{o q:AO}(h:fb o q)(b:q.real=kw):o.real=kw:=h.1 b
theorem Wk.fits(hw:Wk n0 L s t){nt:Nat}{a:Act}(hf:Fits M N s nt a w):Fits M (N.comp (sg n0 L)) t nt a w:=by
 refine⟨⟨hf.1.eW,fun i o b=>(kL hw.h i o b).2.1,fun i o b B=>?_,fun i o b=>?_,fun i j o p b F I J G=>?_⟩,fun d=>?_,hf.2.2⟩
 .obtain⟨⟨D,u,x⟩,A,y⟩:=kL hw.h i o b;exact hf.1.fo _ D u (x.real ((AO.cW _ o).trans B))
 .obtain⟨⟨D,u,x⟩,A,y⟩:=kL hw.h i o b;exact(OR.xx (x.2 M N _ w _ (hf.1.obj _ _ u))).down y
 .obtain⟨⟨D,u,x⟩,_⟩:=kL hw.h i o b;obtain⟨⟨S,A,y⟩,_⟩:=kL hw.h j p F;have:=hf.1.inj _ _ _ _ u A (x.real ((AO.cW _ o).trans I)) (y.real ((AO.cW _ p).trans J)) G;exact oT hw.inj i j o p b F this
 .rcases Gw hw.f d with h|⟨u,x⟩
  .rw[h];exact .any _
  .exact((u M N _ _ (hf.2.1 d)).xx Z).down x
theorem Wk.ext(hw:Wk n0 L s t){u:Mem}{x:Nm}{h0:AH}{y:World}(b:Ext u x (· <n0) h0 y M N (· <s.nx) s.h w):Ext u x (· <n0) h0 y M (N.comp (sg n0 L)) (· <t.nx) t.h w:=by
 refine⟨b.os,b.tape,b.output,b.size,b.iT,b.sb,b.kr,⟨fun i d=>?_,fun i d=>?_⟩,fun i d=>by have:=hw.nx;omega,fun i o d j=>?_⟩
 .simp only[Nm.comp,gE d];exact b.nm.aL i d
 .simp only[Nm.comp,gE d];exact b.nm.ext i d
 .obtain⟨⟨D,A,B⟩,_⟩:=kL hw.h i o d;exact b.jt _ D A (B.real ((AO.cW _ o).trans j))
end
theorem tp{P:Program}{nt:Nat}{Q:AQ}{k:List KI}{s:AS}{c:Code}{R d:AS->Prop}(h: ∀t,R t->d t)(hg:GO P nt (.code c:: .lp R::k) Q s):GO P nt (.code c:: .lp d::k) Q s:=by
 intro M N a w y;refine AW.then hg y fun e B D u x s' A b j=>⟨u,x,s',A,b,?_⟩
 cases e with
 |normal=>exact h _ j
 |_=>exact j
section
variable {P:Program} {nt:Nat} {Q:AQ} {k:List KI} {s:AS}
theorem fO{L:List Nat}{t:AS}{c:Code}(hw:Wk s.nx L s t)(h:GO P nt (.code c::k) Q t):GO P nt (.code c::k) Q s:=by
 intro M N a w y;exact AW.then h (hw.fits y) fun e a2 B u x A j b d=>⟨u,x,A,(hw.ext (.refl _ _ _ _ _)).trans j,b,d⟩
theorem oC{body:Code}{σ:Type}(I:σ->AS)(μ:σ->Nat)(i0:σ)(F:List Nat)(h0:Wk s.nx F s (I i0))
  (b: ∀i,GO P nt (.code body:: .lp (fun t=> ∃j L,μ j<μ i∧Wk s.nx L t (I j))::k) Q (I i)):GO P nt (.code (.loop body)::k) Q s:=by
 intro S N0 a0 w0 B
 let J:Act->World->Nat->Prop:=fun a w n=> ∃i M N,μ i=n∧Ext S N0 (· <s.nx) s.h w0 M N (· <(I i).nx) (I i).h w∧Fits M N (I i) nt a w
 have A:J a0 w0 (μ i0):=⟨i0,S,N0.comp (sg s.nx F),rfl,h0.ext (.refl _ _ _ _ _),h0.fits B⟩
 refine wp_loop (fun a w=> ∃n,J a w n) (fun a w=>by classical exact if h: ∃n,J a w n then abE (dG h) else 0) ⟨_,A⟩ fun a w b0=>?_;obtain⟨⟨i,M,N,hi,hx,hf⟩,c0⟩:=aa8 (dG b0);refine AW.then (b i) hf fun e y D G Y s' u d hr=>?_
 cases e with
 |normal=>
  obtain⟨j,L,hj,hw⟩:=hr;have x:J y D (μ j):=⟨j,G,Y.comp (sg s.nx L),rfl,hw.ext (hx.trans u),hw.fits d⟩
  refine⟨⟨_,x⟩,?_⟩;simp only[dif_pos b0,dif_pos (⟨_,x⟩: ∃n,J y D n)];rw[<-hi];exact acq ((aa8 (dG (⟨_,x⟩: ∃n,J y D n))).2 _ x) hj
 |_=>exact⟨G,Y,s',hx.trans u,d,hr⟩
end
section
variable {P:Program} {nt:Nat} {Q:AQ} {k:List KI} {s:AS}
theorem aw{body:Code}(i0 n:Nat)(d:i0<=n)(I:Nat->AS)(J:Nat->Prop)(j:List Nat)(y:J i0)(h0:Wk s.nx j s (I i0))
  (b: ∀i,i<=n->J i->GO P nt (.code body:: .lp (fun t=>i<n∧J (i+1)∧ ∃L,Wk s.nx L t (I (i+1)))::k) Q (I i)):GO P nt (.code (.loop body)::k) Q s:=by
 refine oC (σ:={i:Nat//i<=n∧J i}) (fun i=>I i.1) (fun i=>n-i.1) ⟨i0,d,y⟩ j h0 fun i=>?_;obtain⟨i,u,x⟩:=i;have:=b i u x;refine tp ?_ this
 rintro t ⟨h3,h4,L,h5⟩;exact⟨⟨i+1,h3,h4⟩,L,by show n-(i+1)<n-i;omega,h5⟩
end
theorem fY{P:Program}{nt:Nat}{Q:AQ}{k:List KI}{s:AS}{c:Code}(t sz:Nat)(A:s.f.get t= .iv (.v (.slice jp 0 0)))(h:GO P nt (.code c::k) Q (xu s t sz)):GO P nt (.code c::k) Q s:=by
 intro M N a w b;obtain⟨S,Y,sn⟩:=s;obtain⟨F,G⟩:=b.1.Nw sz;have d:Fits M N (xu ⟨S,Y,sn⟩ t sz) nt a w:=by
  refine⟨G,fun k=>?_,b.2.2⟩;simp only[xu];rw[AF.ax];split
  .rename_i u;subst u;have:=b.2.1 k;simp only at A this;rw[A]at this;generalize a.tmps.getD k undef=v at this;cases this with
   |iv _ _ h=>cases h with
    |v=>exact .pW _ _ (aax _)
  .exact(b.2.1 k).mono (.refl _) (.refl _ _) (fun i I=>aaL I)
 exact AW.then h d fun e a2 w2 B D J y j x=>⟨B,D,J,F.trans y,j,x⟩
mutual
def PV.eW(i sz:Nat)(el:Nat->List IV):PV->PV
 | .iv x=> .iv x
 | .agg cs=> .agg (pe i sz el cs)
 | .bQ cs=> .bQ (pe i sz el cs)
 | .sl j off len sz'=>bif Zz j i then .iv (.de sz len (fun k=>el (off+k))) else .sl j off len sz'
 | .ptr j o=> .ptr j o
 | .dH j a b c=> .dH j a b c
 | .fE z j=> .fE z j
 | .mp j=> .mp j
 | .du fn a b=> .du fn a b
 | .kb b=> .kb b
 | .any=> .any
def pe(i sz:Nat)(el:Nat->List IV):List PV->List PV
 | []=> []
 |p::r=>PV.eW i sz el p::pe i sz el r
end
theorem gf(i sz:Nat)(el:Nat->List IV): ∀l:List PV,pe i sz el l=l.map (PV.eW i sz el)
 | []=>rfl
 |p::r=>by simp[pe,gf i sz el r]
mutual
def PV.bX(i sz n:Nat):PV->Prop
 | .agg cs=>da i sz n cs
 | .bQ cs=>da i sz n cs
 | .sl j off len sz'=>if j=i then sz'=sz∧off+len<=n else True
 |_=>True
def da(i sz n:Nat):List PV->Prop
 | []=>True
 |p::r=>PV.bX i sz n p∧da i sz n r
end
theorem il{i sz n:Nat}: ∀{l:List PV},da i sz n l-> ∀(j:Nat) (p:PV),l[j]? =io p->p.bX i sz n
 | [],_,j,p,h=>by simp at h
 |c::l,hh,j,p,h=>by
  cases j with
  |zero=>simp at h;subst h;exact hh.1
  |succ j=>exact il hh.2 j p (by simpa using h)
theorem xi{M:Mem}{N:Nm}{n:Nat}{h:AH}{w:World}(hr:Rel M N (· <n) h w){i sz:Nat}{es:List (List PV)}(hi:h.get i=io (.row sz es)){el:Nat->List IV}
  (i0: ∀k e,es[k]? =io e->e=(el k).map .iv): ∃A,Ext M N (· <n) h w A N (· <n) ((i,jp)::h) w∧Rel A N (· <n) ((i,jp)::h) w∧
   ∀p x,VR M N (· <n) p x->p.bX i sz es.length->VR A N (· <n) (p.eW i sz el) x:=by
 have key: ∀A:Mem,M.le A->(∀a0 len b0 b,a0+len<=es.length->0<len->len<=b0->b0<=maxLen->b=N.aL i->IR A (.de sz len (fun k=>el (a0+k))) (.slice (io ⟨b,a0*sz,jp⟩) len b0))->
   ∀p x,VR M N (· <n) p x->p.bX i sz es.length->VR A N (· <n) (p.eW i sz el) x:=by
  intro A hM hs p x hx
  induction hx with
  |iv x y h=>exact fun _=> .iv _ _ (h.mono hM)
  |agg cs ys hl hr ih=>
   intro D;refine .agg _ _ (by simpa[gf]using hl) fun j q hq=>?_;rw[gf,Zg,Zi]at hq;obtain⟨q0,I,rfl⟩:=hq
   exact ih j q0 I (il (by simpa[PV.bX]using D) j q0 I)
  |bQ cs ys hl hr ih=>
   intro D;refine .bQ _ _ (by simpa[gf]using hl) fun j q hq=>?_;rw[gf,Zg,Zi]at hq;obtain⟨q0,I,rfl⟩:=hq
   exact ih j q0 I (il (by simpa[PV.bX]using D) j q0 I)
  |ptr i a0 h=>exact fun _=> .ptr _ _ h
  |dH i sz k a0 h=>exact fun _=> .dH _ _ _ _ h
  |fE z i h=>exact fun _=> .fE _ _ h
  |sl j a0 len sz' b0 h h0 hl hc Y=>
   intro D;simp only[PV.bX]at D;simp only[PV.eW];by_cases u:j=i
   .subst u;rw[am Z]at D;obtain⟨rfl,D⟩:=D;have:Zz j j=kw:=by simp
    rw[this,cond_true];exact .iv _ _ (hs a0 len b0 _ D h0 hl hc Z)
   .have:Zz j i=lc:=aaS.2 (fun e=>u (Zt e));rw[this,cond_false];exact .sl _ _ _ _ _ h h0 hl hc Y
  |pW j sz' h=>
   intro D;simp only[PV.eW];cases hb:Zz j i with
   |true=>exact .iv _ _ (.j8 _ _ _ _)
   |false=>exact .pW _ _ h
  |sle j sz' b0 h hc Y=>
   intro D;simp only[PV.eW];cases hb:Zz j i with
   |true=>exact .iv _ _ (.j8 _ _ _ _)
   |false=>exact .sle _ _ _ h hc Y
  |mp i h=>exact fun _=> .mp _ h
  |du fn first caps f' c' F S hr1 hr2 ih1 ih2=>exact fun _=> .du _ _ _ _ _ F S (fun j p u=>(hr1 j p u).mono hM (.refl _ _) (fun _ h=>h)) (fun j p u=>(hr2 j p u).mono hM (.refl _ _) (fun _ h=>h))
  |kb b=>exact fun _=> .kb _
  |any x=>exact fun _=> .any _
 rcases hr.obj i _ hi with h0|⟨h0,c,T,F,S,h3,h4,h5⟩
 .subst h0;exact⟨M,(Ext.refl _ _ _ _ _).del i,hr.del i,key M (.refl _) fun a0 len b0 b F S=>by simp at F;omega⟩
 .have d0:es≠ []∨es=[]:=by cases es<;>simp
  rcases d0 with d0|rfl;rotate_left
  .exact⟨M,(Ext.refl _ _ _ _ _).del i,hr.del i,key M (.refl _) fun a0 len b0 b F S=>by simp at F;omega⟩
  have J:(AO.row sz es).real=kw:=by cases es with
   |nil=>exact absurd Z d0
   |cons=>rfl
  have f0:=hr.fo i _ hi J
  let A:Mem:=M.set (N.aL i) (.cells c) f0
  have hM:M.le A:=fun b d hb=>by
   simp only[A,Mem.set];by_cases B:b=N.aL i
   .rw[B,f0]at hb;cases hb
   .rw[be B];exact hb
  have hnew: ∀b d,M b=jp->A b=io d->b=N.aL i:=fun b d F S=>by
   simp only[A,Mem.set]at S;by_cases B:b=N.aL i
   .exact B
   .rw[be B,F]at S;cases S
  refine⟨A,?_,?_,key A hM fun a0 len b0 b hb h6 h7 h8 j0=>?_⟩
  .exact⟨rfl,rfl,rfl,Zc _,fun _ _ _=>rfl,hM,fun b d F S=> .inr ⟨i,_,hi,J,(hnew b d F S).symm⟩,.refl _ _,fun _ h=>h,fun j o u J=> .inr ⟨j,o,(bD j o u).2,J,rfl⟩⟩
  .refine⟨fun b d hb=>?_,fun j o u=>hr.used j o (bD j o u).2,fun j o u c0=>?_,fun j o u=>?_,fun j k o p u hk=>hr.inj j k o p (bD j o u).2 (bD k p hk).2⟩
   .simp only[A,Mem.set]at hb;by_cases B:b=N.aL i
    .rw[am B]at hb;cases hb;exact⟨T,(0,0),by rw[B,F]⟩
    .rw[be B]at hb;exact hr.eW b d hb
   .obtain⟨g1,g2⟩:=bD j o u;simp only[A,Mem.set];rw[be fun e=>g1 (hr.inj j i o _ g2 hi c0 J e)];exact hr.fo j o g2 c0
   .obtain⟨g1,g2⟩:=bD j o u;exact(hr.obj j o g2).mono hM (.refl _ _) (fun _ h=>h) (hr.used j o g2) Z
  .subst j0;have G: ∀o,A.cell (N.aL i) o=c[o]? :=fun o=>by simp[Mem.cell,A,Mem.set]
   have k0: ∀k j,k<len->j<sz->a0*sz+k*sz+j<c.size:=by
    intro k j hk u;have:(a0+k+1)*sz<=es.length*sz:=ZF _ (by omega);rw[aal,aal]at this;omega
   have g0: ∀k,k<len-> ∃e,es[a0+k]? =io e:=fun k hk=>⟨_,Za (by omega)⟩
   refine .de _ _ _ _ _ _ h7 h8 (fun k hk=>?_) (fun k j hk u=>?_) (fun k j p hk D=>?_)
   .obtain⟨e,Y⟩:=g0 k hk;have:=h4 _ e Y;rw[i0 _ e Y]at this;simpa using this
   .rw[G];simp[k0 k j hk u]
   .obtain⟨e,Y⟩:=g0 k hk;have h9:=h4 _ e Y;have e0:=i0 _ e Y;have u:j<sz:=by rw[<-h9,e0,ZE];exact(Zb.1 D).1
    have:=h5 _ e j (.iv p) Y (by rw[e0,Zg,D];rfl);rw[G];have e2:a0*sz+k*sz+j=(a0+k)*sz+j:=by rw[aal]
    rw[e2];rw[Y7]at this;cases this with
    |iv _ _ h=>exact h.mono hM
def jC(h:AH)(n:Nat)(r:PV)(K:AH->PV->Prop):Prop:= ∀M N w,Rel M N (· <n) h w-> ∃b d j,Ext M N (· <n) h w b N (· <n) d w∧Rel b N (· <n) d w∧(∀x,VR M N (· <n) r x->VR b N (· <n) j x)∧K d j
theorem jC.done{h:AH}{n:Nat}{r:PV}{K:AH->PV->Prop}(b:K h r):jC h n r K:=fun M N w d=>⟨M,h,r,.refl _ _ _ _ _,d,fun _ h=>h,b⟩
theorem jC.row{h:AH}{n:Nat}{r:PV}{K:AH->PV->Prop}(i:Nat){sz:Nat}{es:List (List PV)}(el:Nat->List IV)(hi:h.get i=io (.row sz es))(b: ∀k e,es[k]? =io e->e=(el k).map .iv)
  (hin:r.bX i sz es.length) (D:jC ((i,jp)::h) n (r.eW i sz el) K):jC h n r K:=by
 intro M N w F;obtain⟨d,y,A,B⟩:=xi F hi b;obtain⟨j,u,I,g1,g2,g3,g4⟩:=D d N w A;exact⟨j,u,I,y.trans g1,g2,fun x G=>g3 x (B _ _ G hin),g4⟩
def Rf(ty:Ty)(l:List ResultVar)(m:Nat)(R:PV->AH->Nat->Prop):AQ:=fun e s=>
 (e= .normal∨e= .ret)∧ ∃j,ly ty s l=io j∧jC s.h s.nx j fun u x=> ∃r b d L,R r b d∧Wk m L ⟨[(0,x)],u,s.nx⟩ ⟨[(0,r)],b,d⟩
section
variable {P:Program}
theorem yD {ty:Ty} (S:cD P ty) {k:FuncId} {fn:Func} {c:Code} (hf:P.funcs[k]? =io fn) (hb:fn.body=io c) (hn:(fn.name== "runtime.NumGoroutine")=lc) {nt:Nat} (J:fn.ntmps=nt)
  {l:List ResultVar} (hl:fn.results.toList=l) {args:List PV} (I:args.length<=nt) {os:List AO} {R:PV->AH->Nat->Prop}
  (h:GO P nt [.code c] (Rf ty l os.length R) ⟨q6 0 args,fA 0 os,os.length⟩):Fn P k args os R:=by
 have key:Fn P k args os (fun r0 h0 n0=>jC h0 n0 r0 fun b Y=> ∃r B D L,R r B D∧Wk os.length L ⟨[(0,Y)],b,n0⟩ ⟨[(0,r)],B,D⟩):=by
  refine Gb S hf hb hn J hl I ?_;intro M N a w u;refine wp_mono (h M N a w u) fun e a' w' hp=>?_;obtain⟨F,A,s',h1,b,h3⟩:=hp;refine⟨F,A,s',h1,b,?_⟩;simp only[kp]at h3 ⊢;obtain⟨he,r,g1,g2⟩:=h3;exact⟨he,r,g1,g2⟩
 refine⟨key.1,fun M N w vs hr y hv=>(key.2 M N w vs hr y hv).mono ?_⟩;rintro e w' ⟨x,F,A,r0,h0,n0,rfl,hF,hx,hr',hvr⟩;obtain⟨M2,b,Y,g1,g2,g3,r,B,D,L,hR,hw⟩:=hF F A w' hr'
 have G:Fits M2 A ⟨[(0,Y)],b,n0⟩ 1 ⟨#[x],[]⟩ w':=⟨g2,fun d=>by
  rw[AF.ax];by_cases hd:d=0
  .subst hd;rw[am Z];exact g3 x hvr
  .rw[be hd];exact .any _,rfl,rfl⟩
 have j:=hw.fits G;refine⟨x,M2,_,r,B,D,rfl,hR,hw.ext (hx.trans g1),j.1,?_⟩;have:=j.2.1 0;exact this
def Ff(ty:Ty)(l:List ResultVar)(r:PV):AQ:=fun e s=>
 (e= .normal∨e= .ret)∧ ∃b,ly ty s l=io b∧jC s.h s.nx b fun _ d=>aK d r
theorem ae {ty:Ty} (x:cD P ty) {k:FuncId} {fn:Func} {c:Code} (hf:P.funcs[k]? =io fn) (hb:fn.body=io c) (hn:(fn.name== "runtime.NumGoroutine")=lc) {nt:Nat} (u:fn.ntmps=nt)
  {l:List ResultVar} (I:fn.results.toList=l) {args:List PV} (j:args.length<=nt) {r:PV} (hlow:r.low 0=kw)
  (h:GO P nt [.code c] (Ff ty l r) ⟨q6 0 args,[],0⟩):Pure P k args r:=by
 refine yD x hf hb hn u I j ?_;intro M N a w b;refine wp_mono (h M N a w b) fun e a' w' J=>?_;obtain⟨A,D,s',F,d,y⟩:=J;refine⟨A,D,s',F,d,?_⟩;simp only[kp]at y ⊢;obtain⟨G,r0,g1,g2⟩:=y;refine⟨G,r0,g1,fun M N w S=>?_⟩;obtain⟨B,d,r2,Y,q2,q3,q4⟩:=g2 M N w S;refine⟨B,d,r2,Y,q2,q3,r,[],0,[],⟨rfl,rfl,rfl⟩,rfl,Zf _,by simp,⟨?_,hlow,ac⟩,ac,aab⟩;rw[PV.j5 _ _ hlow];exact q4
theorem jz{ty:Ty}{l:List ResultVar}{r r0:PV}{e:Exit}{s:AS}(he:e= .normal∨e= .ret)(h:ly ty s l=io r0)(b:aK r0 r):Ff ty l r e s:=⟨he,r0,h,.done b⟩
end
section
variable {P:Program}
theorem Mh{k:FuncId}{args:List PV}{os:List AO}{R:PV->AH->Nat->Prop}(hc:oN P k){n:Nat}(hn: ∃sz el,PV.iv (.de sz n el)∈args)(h:n<=maxLen->Fn P k args os R):Fn P k args os R:=by
 refine⟨hc,fun M N w u A y d=>?_⟩;obtain⟨sz,el,hn⟩:=hn;obtain⟨j,x⟩:=Z7 hn;have:=d j _ x;have b:n<=maxLen:=by
  generalize u.getD j undef=v at this;cases this with
  |iv _ _ hi=>cases hi with
   |j8=>exact Zf _
   |de=>omega
 exact(h b).2 M N w u A y d
theorem mA{k:FuncId}{args:List PV}{r:PV}(hc:oN P k){n:Nat}(hn: ∃sz el,PV.iv (.de sz n el)∈args)(h:n<=maxLen->Pure P k args r):Pure P k args r:=Mh hc hn h
end
abbrev iI(n:Int):IV:= .v (.int .i64 n)
abbrev iS(s:ByteArray):IV:= .v (.string s)
abbrev pI(n:Int):PV:= .iv (iI n)
abbrev pS(s:ByteArray):PV:= .iv (iS s)
abbrev pB(b:Bool):PV:= .iv (.v (.bool b))
abbrev ag(l:List IV):PV:= .agg (l.map .iv)
abbrev cZ{α:Type}[Inhabited α](sz:Nat)(l:List α)(f:α->List IV):IV:= .de sz l.length (fun k=>f (l.getD k em))
def aE{α:Type}(sz:Nat)(l:List α)(f:α->List IV):AO:= .row sz (l.map fun x=>(f x).map .iv)
theorem uf(σ:Nat->Nat): ∀l:List IV,ep σ (l.map .iv)=l.map .iv
 | []=>rfl
 |x::r=>by simp only[Zr,ep,PV.dc,uf σ r]
theorem mf(n:Nat): ∀l:List IV,bq n (l.map .iv)=kw
 | []=>rfl
 |x::r=>by simp only[Zr,bq,PV.low,mf n r]
section
variable {α:Type} {sz:Nat} {l:List α} {f:α->List IV}
theorem bG(σ:Nat->Nat):(aE sz l f).dc σ=aE sz l f:=by
 simp only[aE,AO.dc,aa4];congr 1;exact aaB fun x _=>uf σ _
theorem cM(n:Nat):(aE sz l f).low n:=by
 intro k e b;rw[Zg,Zi]at b;obtain⟨x,_,rfl⟩:=b;exact mf n _
theorem Pr{es:List (List PV)}(σ:Nat->Nat)(h:es=l.map fun x=>(f x).map .iv):fb (.row sz es) ((aE sz l f).dc σ):=by
 rw[bG];exact .of_eq (by rw[h];rfl)
theorem eE[Inhabited α]{es:List (List PV)}(h:es=l.map fun x=>(f x).map .iv): ∀k e,es[k]? =io e->e=(f (l.getD k em)).map .iv:=by
 subst h;intro k e b;rw[Zg,Zi]at b;obtain⟨x,d,rfl⟩:=b;rw[Y6,d];rfl
theorem lL[Inhabited α](l:List α)(f:α->List IV):(Zy l.length).map (fun k=>(f (l.getD k em)).map PV.iv)=l.map fun x=>(f x).map .iv:=by
 apply aaU;intro k;rw[Zg,Zg];rcases aag k l.length with h|h
 .rw[aa7 h,Za h];simp[Y6,h]
 .simp[h]
theorem wD(h: ∀x,jA ((f x).map .iv)=kw)(l:List α):allOnes (l.map fun x=>(f x).map .iv)=kw:=by
 induction l with
 |nil=>rfl
 |cons x r ih=>simp only[Zr,allOnes,h x,ih]
theorem fQ[Inhabited α](h: ∀x,jA ((f x).map .iv)=kw)(l:List α):allOnes ((Zy l.length).map (fun k=>(f (l.getD k em)).map PV.iv))=kw:=by
 rw[lL];exact wD h l
end
def aj(l:List IV):AO:= .cells (l.map .iv)
theorem tF(σ:Nat->Nat)(l:List IV):(aj l).dc σ=aj l:=by
 simp only[aj,AO.dc,uf]
theorem Jy{cs:List PV}{T0:Option TypeId}{l:List IV}(σ:Nat->Nat)(h:cs=l.map .iv):fb (.cells cs T0) ((aj l).dc σ):=by
 rw[tF];exact .trans (.Rk cs T0) (.of_eq (by rw[h];rfl))
def b4:List Nat->Bool
 | []=>kw
 |x::r=>!r.elem x&&b4 r
theorem dC: ∀{l:List Nat},b4 l=kw->l.Nodup
 | [],_=>aab
 |x::r,h=>by
  simp only[b4,Zw,aae,List.elem_eq_mem,decide_eq_false_iff_not]at h;exact aat.2 ⟨h.1,dC h.2⟩
theorem wk{n0:Nat}{L:List Nat}{s t:AS}(h1:Zz t.nx (n0+L.length)=kw)(h2:aa2 n0 s.nx=kw)(h3:L.all (fun j=>Zs j s.nx)=kw)(hf:Gx t.nx (sg n0 L) s.f t.f)(hh:n7 t.nx (sg n0 L) s.h t.h)
  (b:b4 (ew (sg n0 L) t.h)=kw):Wk n0 L s t:=
 ⟨Zt h1,Y5 h2,fun j d=>Y5 (ZA.1 h3 j d),hf,hh,dC b⟩
theorem lJ{n0:Nat}{s t:AS}(h1:t.nx=n0)(h2:aa2 n0 s.nx=kw)(hf:Gx t.nx (sg n0 []) s.f t.f)(hh:t.h=[]):Wk n0 [] s t:=
 ⟨by simpa using h1,Y5 h2,by simp,hf,by rw[hh];trivial,by rw[hh];exact aab⟩
section
variable {n i:Nat} {σ:Nat->Nat} {h r:AH}
theorem hC{cs:List PV}{T0:Option TypeId}{c:List IV}(ho:h.get (σ i)=io (.cells cs T0))(he:cs=c.map .iv)(hi:Zs i n=kw)(hr:n7 n σ h r):n7 n σ h ((i,io (aj c))::r):=
 ⟨⟨_,ho,Jy σ he⟩,Y5 hi,mf n c,hr⟩
theorem hR{α:Type}{sz:Nat}{es:List (List PV)}{l:List α}{f:α->List IV}(ho:h.get (σ i)=io (.row sz es))(he:es=l.map fun x=>(f x).map .iv)(hi:Zs i n=kw)(hr:n7 n σ h r):n7 n σ h ((i,io (aE sz l f))::r):=
 ⟨⟨_,ho,Pr σ he⟩,Y5 hi,cM n,hr⟩
theorem hM{V:Type}{kc:KC}{ev:V->IV}{z:V}{j:Value}{b:PV->V}{m d:List (kc.K×V)}(ho:h.get (σ i)=io (.map kc ev z j b m))(he:m=d)(hi:Zs i n=kw)(hr:n7 n σ h r):n7 n σ h ((i,io (.map kc ev z j b d))::r):=
 ⟨⟨_,ho,.of_eq (by rw[he];rfl)⟩,Y5 hi,ac,hr⟩
theorem Jf{V:Type}{kc:KC}{ev:V->IV}{z:V}{b:Value}{d:PV->V}(ho:h.get (σ i)=io .gP)(x: ∀M,IR M (ev z) b)(hi:Zs i n=kw)(hr:n7 n σ h r):n7 n σ h ((i,io (.map kc ev z b d []))::r):=
 ⟨⟨_,ho,id,fun M N U w j u=>⟨#[],0,u,⟨rfl,by simp,by simp,by simp,by simp⟩,x M⟩⟩,Y5 hi,ac,hr⟩
theorem hI{V:Type}{kc:KC}{ev:V->IV}{m:List (kc.K×V)}{vs x:List Nat}{D d:Option (kc.K×V)}(ho:h.get (σ i)=io (.cF kc ev m vs D))(he:vs=x)(hc:d=D∨d=jp)(hi:Zs i n=kw)(hr:n7 n σ h r):n7 n σ h ((i,io (.cF kc ev m x d))::r):=by
 refine⟨⟨_,ho,id,fun M N U w j F=>?_⟩,Y5 hi,ac,hr⟩;subst he;rcases hc with rfl|rfl
 .exact F
 .rcases F with⟨y,A,_,B⟩|⟨b,ents,clock,u,y,A,G,B,I,J,S⟩
  .exact .inl ⟨y,A,rfl,B⟩
  .exact .inr ⟨b,ents,clock,u,y,A,G,B,I,J,by simp⟩
end
theorem cS{ty:Ty}{b:List ResultVar}{e:Exit}{s:AS}{α:Type}[Inhabited α]{i n sz:Nat}{es:List (List PV)}{L:List α}{f:α->List IV}(he:e= .normal∨e= .ret)(h:ly ty s b=io (.sl i 0 n sz))(hi:s.h.get i=io (.row sz es))
  (hes:es=L.map fun x=>(f x).map .iv) (hn:n=L.length):Ff ty b (.iv (cZ sz L f)) e s:=by
 refine⟨he,_,h,.row i (fun k=>f (L.getD k em)) hi (eE hes) ?_ (.done ?_)⟩
 .subst hes;subst hn;simp[PV.bX]
 .have:Zz i i=kw:=by simp
  simp only[PV.eW,this,cond_true,Zu];subst hn;exact .refl _
theorem aK.bk{b c:Bool}(h:b=c):aK (pB b) (.kb c):=fun _ _ _ _ d=>by
 subst h;cases d with
 |iv _ _ h=>cases h;exact .kb _
theorem aK.rC{b c:Bool}(h:b=c):aK (.kb b) (pB c):=h▸ .kb b
theorem aK.row{i n m sz:Nat}(h:n=m):aK (.sl i 0 n sz) (.sl i 0 m sz):= .of_eq (by rw[h])
section
variable {α:Type} [Inhabited α] {l:List α} {f:α->Bool} {i:Nat}
theorem aW(h:(l.take i).any f=lc)(hi:i<l.length):((l.take (i+1)).any f=lc↔f (l.getD i em)=lc):=by
 rw[abq hi,List.any_append,h,Y6,Za hi];simp
theorem iN(hi:i<l.length)(h:f (l.getD i em)=kw):l.any f=kw:=by
 rw[Y6,Za hi]at h;exact ZZ.2 ⟨_,ZQ hi,h⟩
omit [Inhabited α] in
theorem any_none(h:(l.take i).any f=lc)(hi:l.length<=i):l.any f=lc:=by
 rwa[Zh hi]at h
theorem lg(h:(l.take i).all f=kw)(hi:i<l.length):((l.take (i+1)).all f=kw↔f (l.getD i em)=kw):=by
 rw[abq hi,List.all_append,h,Y6,Za hi];simp
theorem E9(hi:i<l.length)(h:f (l.getD i em)=lc):l.all f=lc:=by
 rw[Y6,Za hi]at h;exact aaV.2 ⟨_,ZQ hi,by simpa using h⟩
omit [Inhabited α] in
theorem Fa(h:(l.take i).all f=kw)(hi:l.length<=i):l.all f=kw:=by
 rwa[Zh hi]at h
theorem ba(hi:i<l.length):l.take (i+1)=l.take i++ [l.getD i em]:=by
 rw[abq hi,Y6,Za hi];rfl
theorem cK{β:Type}{g:β->α->β}{b:β}(hi:i<l.length):(l.take (i+1)).foldl g b=g ((l.take i).foldl g b) (l.getD i em):=by
 rw[ba hi,aaE];rfl
omit [Inhabited α] in
theorem mb{β:Type}{g:β->α->β}{b:β}(hi:l.length<=i):(l.take i).foldl g b=l.foldl g b:=by rw[Zh hi]
end
theorem jy{P:Program}{nt:Nat}{Q:AQ}{k:List KI}{s:AS}{body:Code}{K:Type}(m:List K)(I:List Nat->AS)(J:List Nat->Prop)(A:List Nat)(S:J [])(h0:Wk s.nx A s (I []))
  (d: ∀vs:List Nat,J vs->GO P nt (.code body:: .lp (fun t=> ∃j x,m[j]? =io x∧j∉vs∧J (j::vs)∧ ∃L,Wk s.nx L t (I (j::vs)))::k) Q (I vs)):GO P nt (.code (.loop body)::k) Q s:=by
 refine oC (σ:={vs:List Nat//vs.Nodup∧(∀j∈vs,j<m.length)∧J vs}) (fun v=>I v.1) (fun v=>m.length-v.1.length) ⟨[],aab,by simp,S⟩ A h0 fun v=>?_;obtain⟨vs,B,D,F⟩:=v;refine tp ?_ (d vs F)
 rintro t ⟨j,x,g1,g2,g3,L,g4⟩;have G:j<m.length:=(Zb.1 g1).1;have b: ∀i∈j::vs,i<m.length:=by
  intro i hi;rcases Zq.1 hi with rfl|hi
  .exact G
  .exact D i hi
 have y:(j::vs).Nodup:=aat.2 ⟨g2,B⟩;have u:(j::vs).length<=m.length:=by
  have:=aaP y (l₂:=Zy m.length) (fun i hi=>aam.2 (b i hi));simpa using this
 refine⟨⟨j::vs,y,b,g3⟩,L,?_,g4⟩;show m.length-(j::vs).length<m.length-vs.length;simp only[ZI]at u ⊢;omega
def bW(P:Program)(k:FuncId)(args:List PV)(os:List AO)(r:PV)(h:AH)(n:Nat):Prop:=Fn P k args os fun q b d=>q=r∧b=h∧d=n
def uQ:List AO->List AO->Prop
 | [],[]=>True
 |p::r,q::s=>fb p q∧uQ r s
 |_,_=>False
theorem uQ.length: ∀{a b:List AO},uQ a b->a.length=b.length
 | [],[],_=>rfl
 |_::_,_::_,h=>congrArg (· +1) (uQ.length h.2)
 | [],_::_,h=>h.elim
 |_::_,[],h=>h.elim
theorem uQ.get: ∀{a b:List AO},uQ a b-> ∀(j:Nat) (q:AO),b[j]? =io q-> ∃p,a[j]? =io p∧fb p q
 | [],[],_,j,q,h=>by simp at h
 |p::r,q0::s,hh,j,q,h=>by
  cases j with
  |zero=>simp at h;subst h;exact⟨p,rfl,hh.1⟩
  |succ j=>simpa using uQ.get hh.2 j q (by simpa using h)
 | [],_::_,hh,_,_,_=>hh.elim
 |_::_,[],hh,_,_,_=>hh.elim
theorem Fn.SI{P:Program}{k:FuncId}{args:List PV}{os ps:List AO}{R:PV->AH->Nat->Prop}(h:Fn P k args os R)(G:uQ ps os):Fn P k args ps R:=by
 have I:=G.length;have d: ∀i o,(fA 0 os).get i=io o-> ∃p,(fA 0 ps).get i=io p∧fb p o:=by
  intro i o u;rw[vE,am (Zf _)]at u ⊢;exact G.get _ _ u
 refine⟨h.1,fun M N w vs D hl hv=>?_⟩;rw[I]at D hv ⊢;have Y:Rel M N (· <os.length) (fA 0 os) w:=by
  refine⟨D.eW,fun i o u=>?_,fun i o u a0=>?_,fun i o u=>?_,fun i j o p u hj J hp he=>?_⟩
  .obtain⟨p,y,A⟩:=d i o u;exact D.used i p y
  .obtain⟨p,y,A⟩:=d i o u;exact D.fo i p y (A.1 a0)
  .obtain⟨p,y,A⟩:=d i o u;exact A.2 _ _ _ _ _ (D.obj i p y)
  .obtain⟨o',y,A⟩:=d i o u;obtain⟨p',B,F⟩:=d j p hj;exact D.inj i j o' p' y B (A.1 J) (F.1 hp) he
 refine(h.2 M N w vs Y hl hv).mono ?_;rintro e w' ⟨x,M',N',r,h',n',rfl,hR,hx,hrr,hvr⟩;refine⟨x,M',N',r,h',n',rfl,hR,⟨hx.os,hx.tape,hx.output,hx.size,fun b hb hn=>hx.iT b hb fun i o u J=>?_,hx.sb,fun b c y A=>?_,hx.nm,hx.ule,fun i o u J=>?_⟩,hrr,hvr⟩
 .obtain⟨p,y,A⟩:=d i o u;exact hn i p y (A.1 J)
 .rcases hx.kr b c y A with B|⟨i,o,B,F,S⟩
  .exact .inl B
  .obtain⟨p,g1,g2⟩:=d i o B;exact .inr ⟨i,p,g1,g2.1 F,S⟩
 .rcases hx.jt i o u J with B|⟨j,q,B,F,S⟩
  .exact .inl B
  .obtain⟨p,g1,g2⟩:=d j q B;exact .inr ⟨j,p,g1,g2.1 F,S⟩
theorem bW.SI{P:Program}{k:FuncId}{args:List PV}{os d:List AO}{r:PV}{h:AH}{n:Nat}(hc:bW P k args os r h n)(b:uQ d os):bW P k args d r h n:=Fn.SI hc b
theorem bW.le{P:Program}{k:FuncId}{aa args:List PV}{os:List AO}{r:PV}{h:AH}{n:Nat}(hc:bW P k args os r h n)(b:lh aa args):bW P k aa os r h n:=Fn.le hc b
theorem Pure.det{P:Program}{k:FuncId}{args:List PV}{r:PV}(h:Pure P k args r):bW P k args [] r [] 0:=h
section
variable {P:Program} {ty:Ty} {nt:Nat} {Q:AQ} {k:List KI} {s:AS}
theorem Mp{o:Oper}{c:Call}{g:FuncId}{asv args:List PV}{os:List AO}{r:PV}{u:AH}{x:Nat}{s':AS}(L:List Nat)(hc:bW P g args os r u x)(ho:o.op= .call c)(ha:bY s.f c=io (g,asv))
  (hn:b4 L=kw) (A:L.all (fun j=>Zs j s.nx)=kw) (d:L.map s.h.get=os.map fun o=>io (o.dc (sig L s.nx))) (b:asv=ep (sig L s.nx) args) (hp:putDst nt o (r.dc (sig L s.nx)) (aO s L u x)=io s'):
  OT P nt o s (fun t=>t=s'):=
 nE ho ha hc (dC hn) (fun j y=>Y5 (ZA.1 A j y)) d b (by rintro q B n0 ⟨rfl,rfl,rfl⟩;exact⟨s',hp,rfl⟩)
theorem bM{all rest:List Oper}{o:Oper}{c:Call}{g:FuncId}{asv args:List PV}{os:List AO}{r:PV}{u:AH}{x:Nat}{s':AS}(L:List Nat)(hc:bW P g args os r u x)(ho:o.op= .call c)(hg:o.guard=jp)(ha:bY s.f c=io (g,asv))
  (hn:b4 L=kw) (y:L.all (fun j=>Zs j s.nx)=kw) (d:L.map s.h.get=os.map fun o=>io (o.dc (sig L s.nx))) (b:asv=ep (sig L s.nx) args) (hp:putDst nt o (r.dc (sig L s.nx)) (aO s L u x)=io s')
  (h:GO P nt (.ops all rest::k) Q s'):GO P nt (.ops all (o::rest)::k) Q s:=
 dK hg (Mp L hc ho ha hn y d b hp) fun t A=>by subst A;exact h
theorem yy(u:cD P ty){all:List Oper}{todo pend:List (Nat×Oper)}{j:Nat}{o:Oper}{s':AS}{I G:Prop}(hrd:fw todo=[(j,o)])(hg:cJ nt all s.f o=io kw)(hpb:jM all pend o=kw)(hE:pj todo [j]=kw)
  (hag:tJ ty nt all s todo pend=io I) (hCA:I) (B:OT P nt o s (fun t=>t=s')) (hag2:eD ty nt all s' (bp pend o)=io G) (hC2:G)
  (h:GO P nt (.cX all (todo.filter fun x=>!Zz x.1 j) (bp pend o)::k) Q s'):GO P nt (.cX all todo pend::k) Q s:=by
 have d:(j,o)∈fw todo:=by rw[hrd];simp
 obtain⟨J,A⟩:=ZM.1 d;simp only[aae,ZG,Z3]at A;have b: ∀y∈todo,aS y.2=kw-> ∀y∈pend,ji P nt all s y.2:=by
  intro y D F;unfold tJ at hag;split at hag
  .exact fD u hag hCA
  .rename_i Y;have:=Z3.1 Y y D;rw[F]at this;exact absurd Z this
 refine Cq hE ⟨_,J,A.1⟩ b fun j' o' S _ hu=>?_;simp only[Zk]at S;subst S;have:=hu o J;subst this;exact⟨A.1,fun y D _=>by simpa using A.2 y D,hpb,hg,_,B,fun t ht=>by subst ht;exact⟨fD u hag2 hC2,h⟩⟩
theorem Cr(u:cD P ty){all:List Oper}{todo pend:List (Nat×Oper)}{j:Nat}{o:Oper}{c:Call}{g:FuncId}{asv args:List PV}{os:List AO}{r:PV}{B:AH}{D:Nat}{s':AS}{A y:Prop}(L:List Nat)(hc:bW P g args os r B D)
  (hrd:fw todo=[(j,o)]) (ho:o.op= .call c) (ha:bY s.f c=io (g,asv))
  (hn:b4 L=kw) (F:L.all (fun j=>Zs j s.nx)=kw) (d:L.map s.h.get=os.map fun o=>io (o.dc (sig L s.nx))) (b:asv=ep (sig L s.nx) args) (hp:putDst nt o (r.dc (sig L s.nx)) (aO s L B D)=io s')
  (hg:cJ nt all s.f o=io kw) (hpb:jM all pend o=kw) (hE:pj todo [j]=kw)
  (hag:tJ ty nt all s todo pend=io A) (hCA:A) (hag2:eD ty nt all s' (bp pend o)=io y) (hC2:y)
  (h:GO P nt (.cX all (todo.filter fun x=>!Zz x.1 j) (bp pend o)::k) Q s'):GO P nt (.cX all todo pend::k) Q s:=
 yy u hrd hg hpb hE hag hCA (Mp L hc ho ha hn F d b hp) hag2 hC2 h
def CN(ty:Ty)(l:List ResultVar)(m:Nat)(r:PV)(h:AH)(n:Nat):AQ:=Rf ty l m fun q b d=>q=r∧b=h∧d=n
theorem aB (u:cD P ty) {g:FuncId} {fn:Func} {c:Code} (hf:P.funcs[g]? =io fn) (hb:fn.body=io c) (hn:(fn.name== "runtime.NumGoroutine")=lc) (j:fn.ntmps=nt)
  {l:List ResultVar} (x:fn.results.toList=l) {args:List PV} (d:args.length<=nt) {os:List AO} {r:PV} {h:AH} {n:Nat}
  (b:GO P nt [.code c] (CN ty l os.length r h n) ⟨q6 0 args,fA 0 os,os.length⟩):bW P g args os r h n:=yD u hf hb hn j x d b
theorem fp{l:List ResultVar}{m:Nat}{r r0:PV}{h:AH}{n:Nat}{e:Exit}(L:List Nat)(he:e= .normal∨e= .ret)(hr:ly ty s l=io r0)(hw:Wk m L ⟨[(0,r0)],s.h,s.nx⟩ ⟨[(0,r)],h,n⟩):CN ty l m r h n e s:=
 ⟨he,r0,hr,.done ⟨r,h,n,L,⟨rfl,rfl,rfl⟩,hw⟩⟩
end
theorem jC.map{h:AH}{n:Nat}{r:PV}{K:AH->PV->Prop}(i:Nat){kc:KC}{V:Type}{e:V->IV}{z:V}{b:Value}{u:PV->V}{m:List (kc.K×V)}(hi:h.get i=io (.map kc e z b u m))
  (F:jC ((i,jp)::h.gd i (.eI kc e z b m)) n (r.gd i (.eI kc e z b m)) K):jC h n r K:=by
 intro M N w G;obtain⟨d,A,B,_,D⟩:=qE G hi;obtain⟨j,y,J,g1,g2,g3,g4⟩:=F d N w B;exact⟨j,y,J,A.trans g1,g2,fun x I=>g3 x (D _ _ I),g4⟩
mutual
def PV.Jk(i:Nat)(l:List IV):PV->PV
 | .iv x=> .iv x
 | .agg cs=> .agg (EB i l cs)
 | .bQ cs=> .bQ (EB i l cs)
 | .ptr j o=>bif Zz j i then .iv (.mK (l.drop o)) else .ptr j o
 | .sl j off len sz'=> .sl j off len sz'
 | .dH j a b c=> .dH j a b c
 | .fE z j=> .fE z j
 | .mp j=> .mp j
 | .du fn a b=> .du fn a b
 | .kb b=> .kb b
 | .any=> .any
def EB(i:Nat)(l:List IV):List PV->List PV
 | []=> []
 |p::r=>PV.Jk i l p::EB i l r
end
theorem qF(i:Nat)(x:List IV): ∀l:List PV,EB i x l=l.map (PV.Jk i x)
 | []=>rfl
 |p::r=>by simp[EB,qF i x r]
theorem A1{M:Mem}{N:Nm}{n:Nat}{h:AH}{w:World}(hr:Rel M N (· <n) h w){i:Nat}{l:List IV}{cs:List PV}{T0:Option TypeId}(hi:h.get i=io (.cells cs T0))(b0:cs=l.map .iv):
  ∃B,Ext M N (· <n) h w B N (· <n) ((i,jp)::h) w∧Rel B N (· <n) ((i,jp)::h) w∧ ∀p x,VR M N (· <n) p x->VR B N (· <n) (p.Jk i l) x:=by
 subst b0;have Y:=hr.fo i _ hi Z;obtain⟨c,T,J,G,h3,h4,h5⟩:=hr.obj i _ hi
 let B:Mem:=M.set (N.aL i) (.cells c) Y
 have hM:M.le B:=fun b d hb=>by
  simp only[B,Mem.set];by_cases u:b=N.aL i
  .rw[u,Y]at hb;cases hb
  .rw[be u];exact hb
 have hnew: ∀b d,M b=jp->B b=io d->b=N.aL i:=fun b d J G=>by
  simp only[B,Mem.set]at G;by_cases u:b=N.aL i
  .exact u
  .rw[be u,J]at G;cases G
 have D: ∀o,B.cell (N.aL i) o=c[o]? :=fun o=>by simp[Mem.cell,B,Mem.set]
 refine⟨B,?_,?_,fun p x hx=>?_⟩
 .exact⟨rfl,rfl,rfl,Zc _,fun _ _ _=>rfl,hM,fun b d J G=> .inr ⟨i,_,hi,rfl,(hnew b d J G).symm⟩,.refl _ _,fun _ h=>h,fun j o A c0=> .inr ⟨j,o,(bD j o A).2,c0,rfl⟩⟩
 .refine⟨fun b d hb=>?_,fun j o A=>hr.used j o (bD j o A).2,fun j o A I=>?_,fun j o A=>?_,fun j k o p A hk=>hr.inj j k o p (bD j o A).2 (bD k p hk).2⟩
  .simp only[B,Mem.set]at hb;by_cases u:b=N.aL i
   .rw[am u]at hb;cases hb;exact⟨T,(0,0),by rw[u];exact J⟩
   .rw[be u]at hb;exact hr.eW b d hb
  .obtain⟨g1,g2⟩:=bD j o A;simp only[B,Mem.set];rw[be fun e=>g1 (hr.inj j i o _ g2 hi I Z e)];exact hr.fo j o g2 I
  .obtain⟨g1,g2⟩:=bD j o A;exact(hr.obj j o g2).mono hM (.refl _ _) (fun _ h=>h) (hr.used j o g2) Z
 .induction hx with
  |iv x y h=>exact .iv _ _ (h.mono hM)
  |agg cs ys hl _ ih=>
   refine .agg _ _ (by simpa[qF]using hl) fun j q F=>?_;rw[qF,Zg,Zi]at F;obtain⟨q0,S,rfl⟩:=F
   exact ih j q0 S
  |bQ cs ys hl _ ih=>
   refine .bQ _ _ (by simpa[qF]using hl) fun j q F=>?_;rw[qF,Zg,Zi]at F;obtain⟨q0,S,rfl⟩:=F
   exact ih j q0 S
  |ptr j off h=>
   simp only[PV.Jk];cases hb:Zz j i with
   |true=>
    have A:=Zt hb;subst A;have a0:l.length=c.size:=by simpa using h3
    refine .iv _ _ (.mK _ _ _ (fun k hk=>?_) fun k q F=>?_)
    .rw[List.length_drop]at hk;rw[D];simp[show off+k<c.size by omega]
    .rw[aap]at F;have d0:off+k<c.size:=by rw[<-a0];exact(Zb.1 F).1
     have:=h4 (off+k) (.iv q) (by rw[Zg,F];rfl);rw[D];rw[Y7]at this;cases this with
     |iv _ _ h=>exact h.mono hM
   |false=>exact .ptr _ _ h
  |dH i sz k off h=>exact .dH _ _ _ _ h
  |fE z i h=>exact .fE _ _ h
  |sl j off len sz' cap h h0 hl hc he=>exact .sl _ _ _ _ _ h h0 hl hc he
  |pW j sz' h=>exact .pW _ _ h
  |sle j sz' cap h hc he=>exact .sle _ _ _ h hc he
  |mp j h=>exact .mp _ h
  |du fn first caps f' c' J G hr1 hr2 _ _=>exact .du _ _ _ _ _ J G (fun j p A=>(hr1 j p A).mono hM (.refl _ _) (fun _ h=>h)) (fun j p A=>(hr2 j p A).mono hM (.refl _ _) (fun _ h=>h))
  |kb b=>exact .kb _
  |any x=>exact .any _
theorem jC.cells{h:AH}{n:Nat}{r:PV}{K:AH->PV->Prop}(i:Nat)(l:List IV){cs:List PV}{T0:Option TypeId}(hi:h.get i=io (.cells cs T0))(b:cs=l.map .iv)(D:jC ((i,jp)::h) n (r.Jk i l) K):jC h n r K:=by
 intro M N w F;obtain⟨d,y,A,B⟩:=A1 F hi b;obtain⟨j,u,I,g1,g2,g3,g4⟩:=D d N w A;exact⟨j,u,I,y.trans g1,g2,fun x G=>g3 x (B _ _ G),g4⟩
theorem kh{ty:Ty}{l:List ResultVar}{r r0:PV}{e:Exit}{s:AS}(he:e= .normal∨e= .ret)(h:ly ty s l=io r0)(b:jC s.h s.nx r0 fun _ d=>aK d r):Ff ty l r e s:=⟨he,r0,h,b⟩
section
variable {P:Program} {ty:Ty} {nt:Nat} {Q:AQ} {k:List KI} {s:AS}
theorem HD{all rest:List Oper}{o:Oper}{c:Call}{g:FuncId}{asv args:List PV}{os:List AO}{R:PV->AH->Nat->Prop}(L:List Nat)(hc:Fn P g args os R)(ho:o.op= .call c)(hg:o.guard=jp)(ha:bY s.f c=io (g,asv))
  (hn:b4 L=kw) (A:L.all (fun j=>Zs j s.nx)=kw) (d:L.map s.h.get=os.map fun o=>io (o.dc (sig L s.nx))) (b:asv=ep (sig L s.nx) args)
  (h: ∀r u x,R r u x-> ∃s',putDst nt o (r.dc (sig L s.nx)) (aO s L u x)=io s'∧GO P nt (.ops all rest::k) Q s'):GO P nt (.ops all (o::rest)::k) Q s:=
 dK (R:=fun t=>GO P nt (.ops all rest::k) Q t) hg (nE ho ha hc (dC hn) (fun j y=>Y5 (ZA.1 A j y)) d b h) fun t B=>B
theorem HL{R:PV->AH->Nat->Prop}{l:List ResultVar}{m:Nat}{r r0:PV}{h:AH}{n:Nat}{e:Exit}(L:List Nat)(he:e= .normal∨e= .ret)(hr:ly ty s l=io r0)(hR:R r h n)(hw:Wk m L ⟨[(0,r0)],s.h,s.nx⟩ ⟨[(0,r)],h,n⟩):Rf ty l m R e s:=
 ⟨he,r0,hr,.done ⟨r,h,n,L,hR,hw⟩⟩
end
theorem jg{P:Program}{nt:Nat}{Q:AQ}{k:List KI}{s:AS}{c:Code}(i j sz:Nat){cs:List PV}{T0:Option TypeId}(hi:s.h.get i=io (.cells cs T0))(hj:cs[j]? =io (.iv (.v (.slice jp 0 0))))
  (h:GO P nt (.code c::k) Q ⟨s.f,(i,io (.cells (cs.set j (.sl s.nx 0 0 sz)) T0))::(s.nx,io (.row sz []))::s.h,s.nx+1⟩):GO P nt (.code c::k) Q s:=by
 intro M N a w x;obtain⟨sf,S,u⟩:=s;obtain⟨h1,J⟩:=x.1.Nw sz;have B:i≠u:=fun e=>by have:=x.1.used i _ hi;simp only at this;omega
 have b:AH.get ((u,io (AO.row sz []))::S) i=io (.cells cs T0):=by
  rw[AH.ax,be B];exact hi
 obtain⟨G,T,e1,e2,e3,I,e5⟩:=J.obj i _ b
 obtain⟨g1,g2⟩:=J.write (i:=i) (o0:= .cells cs T0) b Z w (.cells (cs.set j (.sl u 0 0 sz)) T0) Z Z Z Z (fun _ _=>rfl) ⟨G,T,e1,e2,by rw[aaO];exact e3,fun k p d=>by
  rw[ZV]at d;split at d
  .rename_i hk;subst hk;split at d
   .cases d;have:=I j _ hj;generalize G.getD j undef=v at this ⊢;cases this with
    |iv _ _ h=>cases h with
     |v=>exact .pW _ _ (aax _)
   .cases d
  .exact I k p d,e5⟩
 have y:Fits M N ⟨sf,(i,io (.cells (cs.set j (.sl u 0 0 sz)) T0))::(u,io (.row sz []))::S,u+1⟩ nt a w:=
  ⟨g2,fun k=>(x.2.1 k).mono (.refl _) (.refl _ _) (fun i hi=>aaL hi),x.2.2⟩
 exact AW.then h y fun e a2 w2 Y N2 s2 F A D=>⟨Y,N2,s2,(h1.trans g1).trans F,A,D⟩
theorem jC.xQ{h:AH}{n:Nat}{r:PV}{K:AH->PV->Prop}{α:Type}[Inhabited α](i:Nat){sz:Nat}{es:List (List PV)}(L:List α)(f:α->List IV)(hi:h.get i=io (.row sz es))(hes:es=L.map fun x=>(f x).map .iv)
  (hin:r.bX i sz L.length) (b:jC ((i,jp)::h) n (r.eW i sz fun k=>f (L.getD k em)) K):jC h n r K:=
 .row i (fun k=>f (L.getD k em)) hi (eE hes) (by subst hes;simpa using hin) b
def AO.lU(i sz:Nat)(el:Nat->List IV):AO->AO
 | .cells cs T=> .cells (pe i sz el cs) T
 |o=>o
def AO.rR(i sz n:Nat):AO->Prop
 | .cells cs _=>da i sz n cs
 | .row _ es=> ∀(k:Nat) (e:List PV) (j:Nat) (p:PV),es[k]? =io e->e[j]? =io p-> ∃y,p= .iv y
 |_=>True
def AH.lU(i sz:Nat)(el:Nat->List IV):AH->AH
 | []=> []
 |(k,jp)::r=>(k,jp)::AH.lU i sz el r
 |(k,io o)::r=>(k,io (o.lU i sz el))::AH.lU i sz el r
def AH.rR(i sz n:Nat):AH->Prop
 | []=>True
 |(_,jp)::r=>AH.rR i sz n r
 |(_,io o)::r=>o.rR i sz n∧AH.rR i sz n r
def AF.lU(i sz:Nat)(el:Nat->List IV):AF->AF
 | []=> []
 |(d,p)::r=>(d,p.eW i sz el)::AF.lU i sz el r
def AF.rR(i sz n:Nat):AF->Prop
 | []=>True
 |(_,p)::r=>p.bX i sz n∧AF.rR i sz n r
theorem AH.mO(i sz:Nat)(el:Nat->List IV): ∀(h:AH) (j:Nat),(AH.lU i sz el h).get j=(h.get j).map (AO.lU i sz el)
 | [],_=>rfl
 |(k,jp)::r,j=>by
  simp only[AH.lU,AH.ax,AH.mO i sz el r j];split<;>rfl
 |(k,io o)::r,j=>by
  simp only[AH.lU,AH.ax,AH.mO i sz el r j];split<;>rfl
theorem AH.oV{i sz n:Nat}: ∀{h:AH} (_:h.rR i sz n) (j:Nat) (o:AO),h.get j=io o->o.rR i sz n
 | [],_,j,o,ho=>nomatch ho
 |(k,jp)::r,hh,j,o,ho=>by
  rw[AH.ax]at ho;split at ho
  .cases ho
  .exact AH.oV (h:=r) hh j o ho
 |(k,io q)::r,hh,j,o,ho=>by
  rw[AH.ax]at ho;split at ho
  .cases ho;exact hh.1
  .exact AH.oV (h:=r) hh.2 j o ho
theorem AF.mO(i sz:Nat)(el:Nat->List IV): ∀(f:AF) (d:Nat),(AF.lU i sz el f).get d=(f.get d).eW i sz el
 | [],_=>rfl
 |(k,p)::r,d=>by
  simp only[AF.lU,AF.ax,AF.mO i sz el r d];split<;>rfl
theorem AF.oV{i sz n:Nat}: ∀{f:AF} (_:f.rR i sz n) (d:Nat),(f.get d).bX i sz n
 | [],_,d=>trivial
 |(k,p)::r,h,d=>by
  rw[AF.ax];split
  .exact h.1
  .exact AF.oV (f:=r) h.2 d
theorem AO.vJ(i sz:Nat)(el:Nat->List IV)(o:AO):(o.lU i sz el).real=o.real:=by
 cases o<;>rfl
theorem rE{P:Program}{nt:Nat}{Q:AQ}{k:List KI}{s:AS}{c:Code}(i:Nat){sz:Nat}{es:List (List PV)}(el:Nat->List IV)(hi:s.h.get i=io (.row sz es))(G: ∀k e,es[k]? =io e->e=(el k).map .iv)
  (hf:s.f.rR i sz es.length) (hh:s.h.rR i sz es.length) (h:GO P nt (.code c::k) Q ⟨s.f.lU i sz el,(i,jp)::s.h.lU i sz el,s.nx⟩):GO P nt (.code c::k) Q s:=by
 intro M N a w b;obtain⟨F,u,A,h4⟩:=xi b.1 hi G;have hM:M.le F:=u.sb;have B: ∀j o,AH.get ((i,jp)::s.h.lU i sz el) j=io o-> ∃p,AH.get ((i,jp)::s.h) j=io p∧s.h.get j=io p∧o=p.lU i sz el:=by
  intro j o x;obtain⟨g1,g2⟩:=bD j o x;rw[AH.mO,Zi]at g2;obtain⟨p,g3,g4⟩:=g2;exact⟨p,by rw[AH.ax,be g1];exact g3,g3,g4.symm⟩
 have hE:Ext M N (· <s.nx) s.h w F N (· <s.nx) ((i,jp)::s.h.lU i sz el) w:=⟨u.os,u.tape,u.output,u.size,u.iT,u.sb,u.kr,u.nm,u.ule,fun j o x y=>by
  obtain⟨p,g1,_,rfl⟩:=B j o x;rw[AO.vJ]at y
  exact u.jt j p g1 y⟩
 have hR:Rel F N (· <s.nx) ((i,jp)::s.h.lU i sz el) w:=by
  refine⟨A.eW,fun j o x=>?_,fun j o x y=>?_,fun j o x=>?_,fun j k o p x hk ho hp=>?_⟩
  .obtain⟨p,g1,_,rfl⟩:=B j o x;exact A.used j p g1
  .obtain⟨p,g1,_,rfl⟩:=B j o x;rw[AO.vJ]at y;exact A.fo j p g1 y
  .obtain⟨p,g1,g2,rfl⟩:=B j o x;cases p with
   |cells cs T0=>
    obtain⟨c,T,q1,q2,q3,q4,q5⟩:=b.1.obj j _ g2;have S:=AH.oV hh j _ g2;refine⟨c,T,q1,q2,by simpa[gf]using q3,fun k q hq=>?_,q5⟩;rw[gf,Zg,Zi]at hq;obtain⟨q0,D,rfl⟩:=hq;exact h4 _ _ (q4 k q0 D) (il S k q0 D)
   |row=>exact A.obj j _ g1
   |bS=>exact A.obj j _ g1
   |gP=>exact A.obj j _ g1
   |map=>exact A.obj j _ g1
   |cF=>exact A.obj j _ g1
   |eS=>exact A.obj j _ g1
  .obtain⟨o',g1,_,rfl⟩:=B j o x;obtain⟨p',g2,_,rfl⟩:=B k p hk;rw[AO.vJ]at ho hp;exact A.inj j k o' p' g1 g2 ho hp
 have I:Fits F N ⟨s.f.lU i sz el,(i,jp)::s.h.lU i sz el,s.nx⟩ nt a w:=⟨hR,fun d=>by
  rw[AF.mO];exact h4 _ _ (b.2.1 d) (AF.oV hf d),b.2.2⟩
 exact AW.then h I fun e a2 w2 M2 N2 s2 a0 J Y=>⟨M2,N2,s2,hE.trans a0,J,Y⟩
def AO.im(i sz:Nat)(el:Nat->List IV):AO->AO
 | .cells cs T=> .cells (pe i sz el cs) T
 | .row s es=> .row s (es.map (pe i sz el))
 |o=>o
def AO.vn(i sz n:Nat):AO->Prop
 | .cells cs _=>da i sz n cs
 | .row _ es=> ∀e∈es,da i sz n e
 |_=>True
def AH.im(i sz:Nat)(el:Nat->List IV):AH->AH
 | []=> []
 |(k,jp)::r=>(k,jp)::AH.im i sz el r
 |(k,io o)::r=>(k,io (o.im i sz el))::AH.im i sz el r
def AH.vn(i sz n:Nat):AH->Prop
 | []=>True
 |(_,jp)::r=>AH.vn i sz n r
 |(_,io o)::r=>o.vn i sz n∧AH.vn i sz n r
theorem AH.kK(i sz:Nat)(el:Nat->List IV): ∀(h:AH) (j:Nat),(AH.im i sz el h).get j=(h.get j).map (AO.im i sz el)
 | [],_=>rfl
 |(k,jp)::r,j=>by
  simp only[AH.im,AH.ax,AH.kK i sz el r j];split<;>rfl
 |(k,io o)::r,j=>by
  simp only[AH.im,AH.ax,AH.kK i sz el r j];split<;>rfl
theorem AH.ou{i sz n:Nat}: ∀{h:AH} (_:h.vn i sz n) (j:Nat) (o:AO),h.get j=io o->o.vn i sz n
 | [],_,j,o,ho=>nomatch ho
 |(k,jp)::r,hh,j,o,ho=>by
  rw[AH.ax]at ho;split at ho
  .cases ho
  .exact AH.ou (h:=r) hh j o ho
 |(k,io q)::r,hh,j,o,ho=>by
  rw[AH.ax]at ho;split at ho
  .cases ho;exact hh.1
  .exact AH.ou (h:=r) hh.2 j o ho
theorem AO.mP(i sz:Nat)(el:Nat->List IV)(o:AO):(o.im i sz el).real=o.real:=by
 cases o with
 |row s es=>cases es<;>rfl
 |_=>rfl
theorem vg{M:Mem}{N:Nm}{n:Nat}{h:AH}{w:World}(hr:Rel M N (· <n) h w)(i:Nat){sz:Nat}{es:List (List PV)}(el:Nat->List IV)(hi:h.get i=io (.row sz es))(a0: ∀k e,es[k]? =io e->e=(el k).map .iv)
  (hh:h.vn i sz es.length): ∃A,M.le A∧Rel A N (· <n) ((i,jp)::h.im i sz el) w∧ ∀p x,VR M N (· <n) p x->p.bX i sz es.length->VR A N (· <n) (p.eW i sz el) x:=by
 obtain⟨A,h1,b,h4⟩:=xi hr hi a0;refine⟨A,h1.sb,?_,h4⟩;have D: ∀j o,AH.get ((i,jp)::h.im i sz el) j=io o-> ∃p,AH.get ((i,jp)::h) j=io p∧h.get j=io p∧o=p.im i sz el:=by
  intro j o u;obtain⟨g1,g2⟩:=bD j o u;rw[AH.kK,Zi]at g2;obtain⟨p,g3,g4⟩:=g2;exact⟨p,by rw[AH.ax,be g1];exact g3,g3,g4.symm⟩
 refine⟨b.eW,fun j o u=>?_,fun j o u J=>?_,fun j o u=>?_,fun j k o p u hk ho F=>?_⟩
 .obtain⟨p,g1,_,rfl⟩:=D j o u;exact b.used j p g1
 .obtain⟨p,g1,_,rfl⟩:=D j o u;rw[AO.mP]at J;exact b.fo j p g1 J
 .obtain⟨p,g1,g2,rfl⟩:=D j o u;cases p with
  |cells cs T0=>
   obtain⟨c,T,q1,q2,q3,q4,q5⟩:=hr.obj j _ g2;have y:=AH.ou hh j _ g2;refine⟨c,T,q1,q2,by simpa[gf]using q3,fun k q hq=>?_,q5⟩;rw[gf,Zg,Zi]at hq;obtain⟨Y,I,rfl⟩:=hq;exact h4 _ _ (q4 k Y I) (il y k Y I)
  |row s2 es2=>
   have y:=AH.ou hh j _ g2;rcases hr.obj j _ g2 with rfl|⟨Y,c,T,q1,q2,q3,q4,q5⟩
   .exact .inl Z
   .refine .inr ⟨Y,c,T,q1,q2,by simpa using q3,fun k e B=>?_,fun k e j2 p B F=>?_⟩
    .rw[Zg,Zi]at B;obtain⟨S,d,rfl⟩:=B;rw[gf,ZE];exact q4 k S d
    .rw[Zg,Zi]at B;obtain⟨S,d,rfl⟩:=B;rw[gf,Zg,Zi]at F;obtain⟨p0,G,rfl⟩:=F;exact h4 _ _ (q5 k S j2 p0 d G) (il (y S (ZC d)) j2 p0 G)
  |bS=>exact b.obj j _ g1
  |gP=>exact b.obj j _ g1
  |map=>exact b.obj j _ g1
  |cF=>exact b.obj j _ g1
  |eS=>exact b.obj j _ g1
 .obtain⟨o',g1,_,rfl⟩:=D j o u;obtain⟨p',g2,_,rfl⟩:=D k p hk;rw[AO.mP]at ho F;exact b.inj j k o' p' g1 g2 ho F
def Kt:List Code->Code->Code
 | [],r=>r
 |c::l,r=> .seq c (Kt l r)
def tV:Nat->Code->List Code
 |n+1,.seq a b=>a::tV n b
 |_,_=> []
def pn:Nat->Code->Code
 |n+1,.seq _ b=>pn n b
 |_,c=>c
theorem B9{P:Program}{nt:Nat}{R:AQ}: ∀{l:List Code} {e:Exit} {s:AS},e≠ .normal->kp P nt (l.map KI.code) R e s->R e s
 | [],_,_,_,h=>h
 |c::l,e,s,he,h=>by
  cases e with
  |normal=>exact absurd Z he
  |_=>exact B9 (l:=l) he h
mutual
def E3:PV->Bool
 | .iv (.v _)=>kw
 | .iv _=>lc
 | .agg cs=>wB cs
 | .bQ cs=>wB cs
 | .du _ _ _=>lc
 |_=>kw
def wB:List PV->Bool
 | []=>kw
 |p::r=>E3 p&&wB r
end
theorem mg: ∀{l:List PV},wB l=kw-> ∀(j:Nat) (p:PV),l[j]? =io p->E3 p=kw
 | [],_,j,p,h=>by simp at h
 |c::l,hh,j,p,h=>by
  simp only[wB,Zw]at hh;cases j with
  |zero=>simp at h;subst h;exact hh.1
  |succ j=>exact mg hh.2 j p (by simpa using h)
theorem uM{M u:Mem}{N:Nm}{U:Nat->Prop}{p:PV}{x:Value}(h:VR M N U p x):E3 p=kw->VR u N U p x:=by
 induction h with
 |iv x y h=>
  intro hb;cases h with
  |v=>exact .iv _ _ (.v _)
  |_=>cases hb
 |agg cs ys hl hr ih=>exact fun hb=> .agg _ _ hl fun j p d=>ih j p d (mg hb j p d)
 |bQ cs ys hl hr ih=>exact fun hb=> .bQ _ _ hl fun j p d=>ih j p d (mg hb j p d)
 |ptr i off h=>exact fun _=> .ptr _ _ h
 |dH i sz k off h=>exact fun _=> .dH _ _ _ _ h
 |fE z i h=>exact fun _=> .fE _ _ h
 |sl i off len sz cap h h0 hl hc he=>exact fun _=> .sl _ _ _ _ _ h h0 hl hc he
 |pW i sz h=>exact fun _=> .pW _ _ h
 |sle i sz cap h hc he=>exact fun _=> .sle _ _ _ h hc he
 |mp i h=>exact fun _=> .mp _ h
 |du=>intro hb;cases hb
 |kb b=>exact fun _=> .kb _
 |any=>exact fun _=> .any _
def MS:AO->Prop
 | .row _ es=> ∀e∈es,wB e=kw
 | .cells cs _=>wB cs=kw
 |_=>False
theorem MR{M D:Mem}{N:Nm}{U:Nat->Prop}{w:World}{i:Nat}{o:AO}(hb:MS o)(h:OR M N U w i o):OR D N U w i o:=by
 cases o with
 |row sz es=>
  rcases h with h|⟨F,c,T,d,u,x,y,A⟩
  .exact .inl h
  .exact .inr ⟨F,c,T,d,u,x,y,fun k e j p B b=>uM (A k e j p B b) (mg (hb e (ZC B)) j p b)⟩
 |cells cs T0=>
  obtain⟨c,T,d,u,x,y,A⟩:=h;exact⟨c,T,d,u,x,fun j p b=>uM (y j p b) (mg hb j p b),A⟩
 |_=>exact hb.elim
section
variable {P:Program} {nt:Nat} {Q:AQ} {k:List KI} {s:AS}
theorem MQ{o:Oper}{c:Call}{g:FuncId}{asv args:List PV}(ho:o.op= .call c)(ha:bY s.f c=io (g,asv)){r:PV}{h':AH}{n':Nat}(hc:bW P g args [] r h' n')
  (i0:args.length=asv.length) (hlow:bq 0 args=kw)
  (f0: ∀M N w,Rel M N (· <s.nx) s.h w-> ∃M1:Mem,M.le M1∧Rel M1 N (· <s.nx) [] w∧ ∀(j:Nat) (p:PV) (x:Value),args[j]? =io p->(∀q,asv[j]? =io q->VR M N (· <s.nx) q x)->VR M1 N (· <s.nx) p x)
  (e0:E3 (r.dc (sig [] s.nx))=kw) (d0: ∀j o,(s8 (sig [] s.nx) h').get j=io o->MS o)
  {s':AS} (hp:putDst nt o (r.dc (sig [] s.nx)) (aO s [] h' n')=io s'):OT P nt o s (fun t=>t=s'):=by
 intro M N a w y K Z hk;obtain⟨vs,a0,hl,hv⟩:=EJ y ho ha hc.1;unfold Oper.wp;rw[a0];simp only[Oper.upon];obtain⟨M1,m0,j0,k0⟩:=f0 M N w y.1
 have S:=Fn.calls (s:=⟨s.f,[],s.nx⟩) (L:=[]) hc aab (by simp) rfl (M:=M1) (N:=N) (w:=w) j0 (vs:=vs) (by omega) (fun j p B=>by
  rw[PV.j5 _ _ (iC hlow j p B)]
  exact k0 j p _ B fun q hq=>hv j q hq)
 refine S.mono ?_;rintro e w' ⟨x,M',N',r',h2,n2,rfl,⟨rfl,rfl,rfl⟩,hx,hr,hvr⟩;have D:N.agree N' (· <s.nx):=hx.nm;have G: ∀i,i<s.nx->i<s.nx+(n2-0):=fun i Y=>hx.ule i Y;have F: ∀b,b<w.heap.size->w'.heap[b]? =w.heap[b]? :=fun b hb=>hx.iT b hb fun i o Y=>(nomatch Y)
 have g0:(aO ⟨s.f,[],s.nx⟩ [] h2 n2).h=s8 (sig [] s.nx) h2:=by simp[aO,EL]
 have A: ∀j o,(aO s [] h2 n2).h.get j=io o->(s8 (sig [] s.nx) h2).get j=io o∨s.h.get j=io o:=by
  intro j o B;simp only[aO,EL,aaN]at B;rw[AH.get_append]at B;split at B
  .exact .inl B
  .exact .inr B
 rw[g0]at hr hx;have hnew: ∀j o,(s8 (sig [] s.nx) h2).get j=io o->o.real=kw->w.heap.size<=N'.aL j:=by
  intro j o B u;rcases hx.jt j o B u with h|⟨i,p,Y,_⟩
  .exact h
  .exact nomatch Y
 have hR:Rel M N' (· <s.nx+(n2-0)) (aO s [] h2 n2).h w':=by
  refine⟨fun b d hb=>(y.1.eW b d hb).mono (F b (y.1.eW b d hb).lt),fun j o B=>?_,fun j o B u=>?_,fun j o B=>?_,fun i j o p Y B I J e=>?_⟩
  .rcases A j o B with h|h
   .exact hr.used j o h
   .exact G j (y.1.used j o h)
  .rcases A j o B with h|h
   .have:=hnew j o h u;cases hm:M (N'.aL j) with
    |none=>rfl
    |some d=>have:=(y.1.eW _ d hm).lt;omega
   .rw[D.aL j (y.1.used j o h)];exact y.1.fo j o h u
  .rcases A j o B with h|h
   .exact MR (d0 j o h) (hr.obj j o h)
   .cases u:o.real with
    |true=>exact(y.1.obj j o h).mono (.refl _) D G (y.1.used j o h) (F _ ((y.1.obj j o h).lt u))
    |false=>
     cases o with
     |row sz es=>cases es with
      |nil=>exact .inl rfl
      |cons=>cases u
     |bS l T=>cases l with
      |nil=>exact .inl rfl
      |cons=>cases u
     |_=>cases u
  .rcases A i o Y with h1|h1<;>rcases A j p B with h2'|h2'
   .exact hr.inj i j o p h1 h2' I J e
   .have:=hnew i o h1 I;rw[e,D.aL j (y.1.used j p h2')]at this;have:=(y.1.obj j p h2').lt J;omega
   .have:=hnew j p h2' J;rw[<-e,D.aL i (y.1.used i o h1)]at this;have:=(y.1.obj i o h1).lt I;omega
   .rw[D.aL i (y.1.used i o h1),D.aL j (y.1.used j p h2')]at e;exact y.1.inj i j o p h1 h2' I J e
 have hX:Ext M N (· <s.nx) s.h w M N' (· <s.nx+(n2-0)) (aO s [] h2 n2).h w':=
  ⟨hx.os,hx.tape,hx.output,hx.size,fun b hb _=>F b hb,.refl _,fun b d g1 g2=>absurd (g1.symm.trans g2) (by simp),D,G,fun j o B u=>by
   rcases A j o B with h|h
   .exact .inl (hnew j o h u)
   .exact .inr ⟨j,o,h,u,(D.aL j (y.1.used j o h)).symm⟩⟩
 have c0:Fits M N' (aO s [] h2 n2) nt a w':=⟨hR,y.2.1.ext hX,y.2.2⟩
 have b0:VR M N' (· <(aO s [] h2 n2).nx) (r'.dc (sig [] s.nx)) x:=uM hvr e0;show K (a.put o.dst x) w';cases hd:o.dst with
 |none=>
  have:=fM hp hd;subst this;exact hk M N' _ _ w' hX c0 rfl
 |some d=>
  obtain⟨h1,rfl⟩:=fL hp hd;exact hk M N' {aO s [] h2 n2 with f:=(d,r'.dc (sig [] s.nx))::(aO s [] h2 n2).f} _ w' hX (c0.put d _ x h1 b0) rfl
theorem L8{all rest:List Oper}{o:Oper}{c:Call}{g:FuncId}{asv args:List PV}{r:PV}{u:AH}{D:Nat}{s':AS}(hc:bW P g args [] r u D)(ho:o.op= .call c)(hg:o.guard=jp)(ha:bY s.f c=io (g,asv))
  (b:args.length=asv.length) (hlow:bq 0 args=kw)
  (B: ∀M N w,Rel M N (· <s.nx) s.h w-> ∃d:Mem,M.le d∧Rel d N (· <s.nx) [] w∧ ∀(j:Nat) (p:PV) (x:Value),args[j]? =io p->(∀q,asv[j]? =io q->VR M N (· <s.nx) q x)->VR d N (· <s.nx) p x)
  (A:E3 (r.dc (sig [] s.nx))=kw) (y: ∀j o,(s8 (sig [] s.nx) u).get j=io o->MS o) (hp:putDst nt o (r.dc (sig [] s.nx)) (aO s [] u D)=io s')
  (h:GO P nt (.ops all rest::k) Q s'):GO P nt (.ops all (o::rest)::k) Q s:=
 dK hg (MQ ho ha hc b hlow B A y hp) fun t F=>by subst F;exact h
end
section
variable {P:Program} {ty:Ty} {nt:Nat} {Q:AQ} {k:List KI} {s:AS}
theorem Dh(p0:cD P ty){o:Oper}{t:TypeId}{a x:Operand}(ho:o.op= .store t a x)(hd:o.dst=jp){e:cE}(he:ty t=io e)(o0:e.size=1){i sz q off:Nat}{es:List (List PV)}{row:List PV}{v:PV}
  (ha:ev s.f a= .dH i sz q off) (hi:s.h.get i=io (.row sz es)) (Y:es[q]? =io row) (b0:Zs off sz=kw) (hx:ev s.f x=v) (r0:v.cells=io [v]) (c0:v.one=kw):
  OT P nt o s (fun u=>u=⟨s.f,(i,io (.row sz (es.set q (row.set off v))))::s.h,s.nx⟩):=by
 have hp:putDst nt o .any ⟨s.f,(i,io (.row sz (es.set q (row.set off v))))::s.h,s.nx⟩=io ⟨s.f,(i,io (.row sz (es.set q (row.set off v))))::s.h,s.nx⟩:=by simp only[putDst,hd]
 refine OT.skip hp fun M N b w S=>?_;have hu:=a7 S.2.1 a;have hy:=a7 S.2.1 x;rw[ha]at hu;rw[hx]at hy;have e0:off<sz:=Y5 b0;generalize q0:b.eval a=u at hu;generalize s0:b.eval x=y at hy
 have key: ∃w',(Instr.storeAt t u y).run P w= .ok () w'∧Ext M N (· <s.nx) s.h w M N (· <s.nx) ((i,io (.row sz (es.set q (row.set off v))))::s.h) w'∧Fits M N ⟨s.f,(i,io (.row sz (es.set q (row.set off v))))::s.h,s.nx⟩ nt b w':=by
  cases hu with
  |dH _ _ _ _ hU=>
   obtain⟨hl,hv⟩:=qT hy r0;obtain⟨B,d⟩: ∃B,y.cells= #[B]:=by
    have:y.cells.size=1:=by simpa using hl.symm
    exact Array.size_eq_one_iff.1 this
   rcases S.1.obj i _ hi with h0|⟨h0,c,T,g1,g2,g3,g4,g5⟩
   .rw[h0]at Y;cases Y
   have j0:q<es.length:=(Zb.1 Y).1;have m0:=g4 q row Y;have a0:(q+1)*sz<=es.length*sz:=ZF _ j0;have v0:q*sz+off+1<=c.size:=by rw[aa3]at a0;omega
   have G: ∀z∈y.cells.toList,z.oneCell'=kw:=by
    intro z hz;rw[d]at hz;simp only[Zk]at hz;have:=(hv 0 v Z).one c0;rw[d]at this;subst hz;exact this
   have D:=run_storeCells_at P (N.aL i) (q*sz+off) T y.cells.toList 0 c w g1 (by simp[d];omega) G;have hC:(c.toList.take (q*sz+off+0)++y.cells.toList++c.toList.drop (q*sz+off+0+y.cells.toList.length))=c.toList.set (q*sz+off) B:=by
    rw[List.set_eq_take_append_cons_drop,am (by simp;omega),d];simp
   rw[hC]at D;refine⟨w.setRow (N.aL i) (c.toList.set (q*sz+off) B).toArray,?_,?_⟩
   .have I:=bL (w:=w) (p0 t e he);have n0:y.cells.size=e.size:=by rw[d,o0];rfl
    simp only[Instr.storeAt,Instr.sureAddr,pure_bind,storeVar,Sem.run_bind,I,Result.andThen_ok,n0,ne_eq,not_true_eq_false,if_false,D]
   .have d0:=setRow_heap w (N.aL i) c (c.toList.set (q*sz+off) B).toArray T (0,0) g1;have i0: ∀b,b≠N.aL i->(w.setRow (N.aL i) (c.toList.set (q*sz+off) B).toArray).heap[b]? =w.heap[b]? :=by
     intro b hb;simp only[World.setRow,Z2];rw[be (fun e=>hb e.symm)]
    have k0:(AO.row sz es).real=kw:=by cases es with
     |nil=>cases Y
     |cons=>rfl
    have:=S.1.write hi k0 (w.setRow (N.aL i) (c.toList.set (q*sz+off) B).toArray) (.row sz (es.set q (row.set off v))) Z Z Z (by simp) i0
     (.inr ⟨h0,_,T,d0,by simp;exact g2,by simpa using g3,fun J e2 j=>?_,fun J e2 j2 p2 j A=>?_⟩)
    .exact⟨this.1,this.2,S.2.1,S.2.2⟩
    .rw[ZV]at j;split at j
     .cases j;rw[aaO];exact m0
     .exact g4 J e2 j
    .have f0: ∀m,(c.toList.set (q*sz+off) B).toArray.getD m undef=if q*sz+off=m then B else c.getD m undef:=by
      intro m;rw[Y7,Y7,aar,ZV];split
      .rename_i e;subst e;rw[am (by simp;omega)];rfl
      .simp
     rw[f0];rw[ZV]at j;split at j
     .rename_i F;subst F;cases j;rw[ZV]at A;split at A
      .rename_i hj;subst hj;rw[am (by omega)]at A;cases A;rw[am Z];have:=hv 0 v Z;rw[d]at this;exact this
      .rename_i hj;rw[be (by omega)];exact g5 _ row j2 p2 Y A
     .rename_i F;have t0:j2<sz:=by rw[<-g4 J e2 j];exact(Zb.1 A).1
      rw[be ?_]
      .exact g5 J e2 j2 p2 j A
      .intro e;rcases Nat.lt_trichotomy q J with g0|heq|hgt
       .have:(q+1)*sz<=J*sz:=ZF _ g0;rw[aa3]at this;omega
       .exact F heq
       .have:(J+1)*sz<=q*sz:=ZF _ hgt;rw[aa3]at this;omega
 obtain⟨w',h1,j,A⟩:=key;refine⟨w',M,N,?_,j,A⟩;simp only[execOp,ho];simp[q0,s0,h1]
theorem Et(y:cD P ty){all rest:List Oper}{o:Oper}{t:TypeId}{a x:Operand}(ho:o.op= .store t a x)(hd:o.dst=jp)(hg:o.guard=jp){e:cE}(he:ty t=io e)(j:e.size=1){i sz q off:Nat}{es:List (List PV)}{row:List PV}{v:PV}
  (ha:ev s.f a= .dH i sz q off) (hi:s.h.get i=io (.row sz es)) (B:es[q]? =io row) (b:Zs off sz=kw) (D:ev s.f x=v) (A:v.cells=io [v]) (d:v.one=kw)
  {s':AS} (hs:(⟨s.f,(i,io (.row sz (es.set q (row.set off v))))::s.h,s.nx⟩:AS)=s') (h:GO P nt (.ops all rest::k) Q s'):GO P nt (.ops all (o::rest)::k) Q s:=
 dK hg (Dh y ho hd he j ha hi B b D A d) fun u hu=>by subst hu;subst hs;exact h
end
end
end Go.Al
namespace Go.Al
open Go.ChangeShapes Go.WideShapes Go.RowKit
section
def A2(W:World)(b:Nat):Option MB:=match W.heap[b]? with
 |some (.cells c _ _)=>io (.cells c)
 |some (.map es cl)=>io (.map es cl)
 |_=>jp
def pL(W:World):Prop:= ∀b c,Ux b=io c-> ∃T d,W.heap[b]? =io (.cells c T d)
def Mem.rS(W:World)(h:pL W):Mem:=⟨A2 W,fun b c hb=>by obtain⟨T,d,e⟩:=h b c hb;simp[A2,e]⟩
def Wo:Nm:=⟨fun _=>0,fun _=>0⟩
theorem Px(W:World)(h:pL W):Rel (Mem.rS W h) Wo (· <0) [] W:=by
 refine⟨fun b c hb=>?_,fun i o u=>by simp[AH.get]at u,fun i o u=>by simp[AH.get]at u,fun i o u=>by simp[AH.get]at u,fun i j o p u=>by simp[AH.get]at u⟩;have d:A2 W b=io c:=hb;unfold A2 at d;split at d
 .rename_i y T x e;obtain rfl:=Z5 d;exact⟨T,x,e⟩
 .rename_i es A e;obtain rfl:=Z5 d;exact e
 .cases d
theorem EX{W:World}{h:pL W}{b o:Nat}{v:Value}(hc:W.cell? ⟨b,o,jp⟩=io v):(Mem.rS W h).cell b o=io v:=by
 show(match A2 W b with|some (.cells c)=>c[o]? |_=>jp)=io v;unfold World.cell? at hc;unfold A2;split at hc
 .rename_i c T d e;simp only at e;rw[e];simpa using hc
 .cases hc
def CR(M:Mem)(l:List IV)(cs:List Value):Prop:=l.length=cs.length∧ ∀j p,l[j]? =io p->IR M p (cs.getD j undef)
theorem CR.nil(M:Mem):CR M [] []:=⟨rfl,fun j p h=>by simp at h⟩
theorem CR.one{M:Mem}{p:IV}{v:Value}(h:IR M p v):CR M [p] [v]:=⟨rfl,fun j q b=>by
 cases j with
 |zero=>simp at b;subst b;simpa using h
 |succ j=>simp at b⟩
theorem CR.append{M:Mem}{l u:List IV}{cs b:List Value}(h:CR M l cs)(k:CR M u b):CR M (l++u) (cs++b):=by
 refine⟨by simp[h.1,k.1],fun j p d=>?_⟩;rcases aag j l.length with hj|hj
 .rw[Zp hj]at d;have:=h.2 j p d;rw[Y6]at this ⊢;rwa[Zp (by rw[<-h.1];exact hj)]
 .rw[Zv hj]at d;have:=k.2 _ p d;rw[Y6]at this ⊢;rw[Zv (by rw[<-h.1];exact hj),<-h.1];exact this
theorem CR.fm{M:Mem}{l r:List IV}{cs:List Value}{o n o':Nat}(h:CR M l ((cs.drop o).take n))(e:o'=o+n)(k:CR M r (cs.drop o')):CR M (l++r) (cs.drop o):=by
 subst e;have:=h.append k;rwa[<-List.drop_drop,abm]at this
theorem CR.end_{M:Mem}{cs:List Value}{o:Nat}(h:cs.length=o):CR M [] (cs.drop o):=by
 rw[abx (by omega)];exact .nil M
theorem CR.agg{M:Mem}{N:Nm}{U:Nat->Prop}{l:List IV}{ys:Array Value}(h:CR M l ys.toList):VR M N U (ag l) (.agg ys):=by
 refine .agg _ _ (by simpa using h.1) fun j p b=>?_;rw[Zg,Zi]at b;obtain⟨q,d,rfl⟩:=b;have:=h.2 j q d;exact .iv _ _ (by simpa[Y7,Y6]using this)
theorem CR.le{M:Mem}{l d:List IV}{cs:List Value}(h:CR M l cs)(x:l.length=d.length)(b: ∀(j:Nat) (p q:IV),l[j]? =io p->d[j]? =io q->n6 p q):CR M d cs:=by
 refine⟨x▸h.1,fun j q y=>?_⟩;have u:j<l.length:=by rw[x];exact(Zb.1 y).1
 exact b j _ q (Za u) y M _ (h.2 j _ (Za u))
theorem CR.xd{M:Mem}{p q:IV}{cs:List Value}(h:CR M [p] cs)(b:n6 p q):CR M [q] cs:=
 h.le Z fun j x y d u=>by
  cases j with
  |zero=>simp at d u;subst d;subst u;exact b
  |succ j=>simp at d
section
variable {H:Type} {enc:TypeId×Value->H} {P:Program} {W:World} {hT:pL W} {sp:Nat->Bool} {held:Bool}
def Rd(enc:TypeId×Value->H)(P:Program)(W:World)(hT:pL W)(sp:Nat->Bool)(held:Bool)(t:TypeId){α:Type}(c:α->List IV)(Q:α->DataW H->Prop)(n:Nat):Prop:=
 ∀m,m<=n-> ∀b y,DataW.trod enc P W 0 sp held m t b=io y-> ∃x,CR (Mem.rS W hT) (c x) b∧Q x y.1
theorem Rd.mono{t:TypeId}{α:Type}{c:α->List IV}{Q:α->DataW H->Prop}{n m:Nat}(h:Rd enc P W hT sp held t c Q n)(hm:m<=n):Rd enc P W hT sp held t c Q m:=fun k b=>h k (Z1 b hm)
theorem js{t:TypeId}{k:IntKind}(b:P.underlying t=io (.int k))(n:Nat):Rd enc P W hT sp held t (fun z=> [.v (.int k z)]) (fun z d=>d= .lit (.int k z)∧(Lit.int k z).wf=kw) n:=by
 intro m _ u y h;cases m with
 |zero=>simp[DataW.trod]at h
 |succ m=>
  unfold DataW.trod at h;rw[b]at h;split at h<;>simp_all;obtain⟨⟨rfl,j⟩,rfl⟩:=h;exact⟨_,.one (.v _),rfl,j⟩
theorem jL{t:TypeId}(b:P.underlying t=io .string)(n:Nat):Rd enc P W hT sp held t (fun s=> [.v (.string s)]) (fun s d=>d= .lit (.string s.data.toList)∧s.size<=maxLen) n:=by
 intro m _ u y h;cases m with
 |zero=>simp[DataW.trod]at h
 |succ m=>
  unfold DataW.trod at h;rw[b]at h;split at h<;>simp_all;rename_i s;obtain⟨j,rfl⟩:=h;exact⟨s,.one (.v _),rfl,j⟩
def QL{α:Type}(Q:α->DataW H->Prop)(l:List α)(d:DataW H):Prop:=
 ∃el:List (DataW H),(d= .nil∧el=[]∨ ∃sp,d= .slice el sp)∧l.length=el.length∧ ∀(i:Nat) (x:α) (e:DataW H),l[i]? =io x->el[i]? =io e->Q x e
theorem iZ{α:Type}[Inhabited α]{t e:TypeId}{sz:Nat}{c:α->List IV}{Q:α->DataW H->Prop}{n:Nat}(ht:P.underlying t=io (.slice e))(hc:P.cellsOf e=sz)(B:0<sz)(hl: ∀x,(c x).length=sz)
  (he:Rd enc P W hT sp held e c Q n):Rd enc P W hT sp held t (fun l:List α=> [cZ sz l c]) (QL Q) (n+1):=by
 intro m hm cs y h;rcases DataW.trod_slice ht h with⟨rfl,rfl⟩|⟨a,len,f0,u,rest,k,rfl,rfl,rfl,_,h1,h2,h3,h4,_⟩
 .exact⟨[],.one (.j8 ..),[],.inl ⟨rfl,rfl⟩,rfl,fun i x e h=>by simp at h⟩
 have key: ∀i,i<len-> ∃x,(∃d,W.cells? 0 (a.add (i*sz)) sz=io d∧CR (Mem.rS W hT) (c x) d)∧ ∃y,u[i]? =io y∧Q x y.1:=by
  intro i D;have h5:=h4 i D;rw[hc,Za (by omega)]at h5;obtain⟨d,h6,h7⟩:=Option.bind_eq_some_iff.1 h5;obtain⟨x,h8,h9⟩:=he k (by omega) _ _ h7;exact⟨x,⟨d,h6,h8⟩,_,Za (by omega),h9⟩
 obtain⟨f,hf⟩:=Deep.choose_lt key;refine⟨(Zy len).map f,.one ?_,u.map (·.1),.inr ⟨_,rfl⟩,by simp[h3],fun i x e hx a0=>?_⟩
 .cases len with
  |zero=>exact .j8 ..
  |succ len=>
   have i0: ∀i,i<len+1-> ∀j,j<sz->W.cell? ((a.add (i*sz)).add j)=((c (f i))[j]?).bind fun _=>(W.cell? ((a.add (i*sz)).add j)):=by
    intro i D j A;rw[Za (by rw[hl];exact A)];rfl
   have b: ∀i,i<len+1-> ∀j,j<sz-> ∃v,W.cell? ⟨a.block,a.off+i*sz+j,jp⟩=io v∧(∀p,(c (f i))[j]? =io p->IR (Mem.rS W hT) p v)∧a.spot=jp:=by
    intro i D j A;obtain⟨⟨d,h6,h8⟩,_⟩:=hf i D;obtain⟨_,h9,G⟩:=World.cells?_some h6;have I:=G j A;rw[Za (by omega)]at I;have hs: ∀j,j<sz->(a.add (i*sz+j)).spot=jp:=fun j A=>by
     have J:=G j A;rw[Za (by omega),Deep.add_add]at J;exact World.cell?_spot J
    have S:a.add (i*sz+j)=⟨a.block,a.off+i*sz+j,jp⟩:=by
     have:=hs j A;unfold Addr.add at this ⊢;split
     .rename_i h0;rw[am h0]at this;cases a;simp_all
     .rw[aaI]
    refine⟨d[j]'(by omega),?_,fun p hp=>?_,?_⟩
    .rw[<-S,<-Deep.add_add];exact I
    .have:=h8.2 j p hp;rwa[Y6,Za (by omega)]at this
    .obtain⟨⟨g0,g6,_⟩,_⟩:=hf 0 (by omega);obtain⟨_,g9,d0⟩:=World.cells?_some g6;have c0:=d0 0 B;rw[Za (by omega),Deep.add_add]at c0;have:=World.cell?_spot c0;simpa[Addr.add]using this
   have ha:io a=io (⟨a.block,a.off,jp⟩:Addr):=by
    obtain⟨_,_,_,hs⟩:=b 0 (by omega) 0 B;cases a;simp_all
   rw[ha];have b0:((Zy (len+1)).map f).length=len+1:=by simp
   have Y: ∀k,k<len+1->((Zy (len+1)).map f).getD k em=f k:=fun k F=>by
    simp[Y6,aa7 F]
   unfold cZ;rw[b0];refine .de _ _ _ _ _ _ h1 h2 (fun k _=>hl _) (fun k j F A=>?_) (fun k j p F hp=>?_)
   .obtain⟨v,hv,_⟩:=b k F j A;rw[EX hv];rfl
   .rw[Y k F]at hp;have A:j<sz:=by rw[<-hl (f k)];exact(Zb.1 hp).1
    obtain⟨v,hv,e0,_⟩:=b k F j A;rw[EX hv];exact e0 p hp
 .have D:i<len:=by simpa using(Zb.1 hx).1
  obtain⟨_,y,hy,hq⟩:=hf i D;rw[Zg,hy]at a0;rw[Zg,aa7 D]at hx;simp at a0 hx;subst a0;subst hx;exact hq
theorem n8{n:Nat}{b:Array Field}{cs:List Value}{xs:List (DataW H×List MemPlace)}(hf: ∀(i:Nat) (f:Field),b[i]? =io f->DataW.trod enc P W 0 sp held n f.type ((cs.drop f.offset).take (P.cellsOf f.type))=xs[i]?)
  (i:Nat) {f:Field} (h1:b[i]? =io f) {t o sz:Nat} (h2:f.type=t) (h3:f.offset=o) (d:P.cellsOf t=sz) {x:DataW H×List MemPlace} (j:xs[i]? =io x):DataW.trod enc P W 0 sp held n t ((cs.drop o).take sz)=io x:=by
 subst h2;subst h3;subst d;rw[hf i f h1,j]
end
section
variable {H:Type} {enc:TypeId×Value->H} {P:Program} {W W':World} {T:TypeId->Prop}
theorem IB{W W':World}(d: ∀b,b<W.heap.size->W'.heap[b]? =W.heap[b]?){p:MemPlace}(hp:p.block<W.heap.size):W.sameAt W' p:=by
 cases p with
 |cell b o=>exact World.cell?_of_block (a:=⟨b,o,jp⟩) (d b hp)
 |map b=>exact d b hp
theorem r5(K:Kids P T)(B: ∀{t e},T t->P.underlying t=io (.slice e)->0<P.cellsOf e)(A: ∀b,b<W.heap.size->W'.heap[b]? =W.heap[b]?){sp:Nat->Bool}:
  ∀{ts:List TypeId} {vs:List Value} {y:List (DataW H)} {u:List MemPlace},(∀t∈ts,T t)->DataW.TrodAll enc P W 0 (fun _=>kw) kw ts vs y u->(∀p∈u,p.block<W.heap.size)->(∀p∈u,sp p.block=kw)->
   DataW.TrodAll enc P W' 0 sp kw ts vs y u
 | [],vs,y,u,_,h,_,_=>by
  obtain⟨rfl,rfl,rfl⟩:=trodAll_nil h;exact trodAll_mk0
 |t::ts,vs,y,u,hT,h,hlt,hsp=>by
  obtain⟨v,J,d,D,p,q,rfl,rfl,rfl,⟨n,F⟩,G⟩:=trodAll_cons h;refine⟨p,q,⟨n,DataW.trod_stays K B (fun h=>by cases h) (hT t (by simp)) F (fun x j=>IB A (hlt x (ZJ _ j))) (fun x j=>hsp x (ZJ _ j))⟩,?_,rfl⟩;exact r5 K B A (fun t I=>hT t (Zn _ I)) G (fun x j=>hlt x (aaA _ j)) (fun x j=>hsp x (aaA _ j))
theorem Qe{W W':World}(j:W'.os=W.os)(d:W'.output=W.output)(u: ∀b,b<W.heap.size->W'.heap[b]? =W.heap[b]?)(may:MemPlace->Prop):W.keptBut W' may:=by
 refine World.keptBut_mono (fun p x=>(x:False).elim) (World.keptBut_none_iff.2 ⟨j,d,u⟩)
theorem BV{f:Func}{s:ChangeSpec}{x G y again:Bool}{args:Array Value}{v:Value}{B gs:List (DataW H)}{d:List MemPlace}
  (K:Kids P T) (hz: ∀{t e},T t->P.underlying t=io (.slice e)->0<P.cellsOf e) (d0: ∀t∈f.params.toList,T t) (A:s.vars=[])
  (hW:DataW.Whole enc P f.params.toList s.vars x W args.toList B gs d) (i0:W'.os=W.os) (Y:W'.output=W.output) (hk: ∀b,b<W.heap.size->W'.heap[b]? =W.heap[b]?)
  (F: ∀(b:Nat) (sp:Nat->Bool) (hd:Bool),DataW.TrodAll enc P W' b sp hd f.resultTypes.toList (v.resultList f.resultTypes.size) (s.fn H (B++gs)).results [])
  (I:(s.fn H (B++gs)).args=B) (k0:(s.fn H (B++gs)).vars=[])
  (g0: ∀(j:Nat) (t:TypeId) (r:Value),f.resultTypes[j]? =io t->(v.resultList f.resultTypes.size)[j]? =io r->Value.okWide P W' .any 0 t r):
  s.post enc P f x G y again W args v W':=by
 have J: ∀p∈d,p.block<W.heap.size:=fun p S=>by simpa using hW.lt p S
 have D: ∀p∈d,(fun b=>li (b<W.heap.size)) p.block=kw:=fun p S=>by simpa using hW.lt p S
 obtain⟨pa,pv,hA,hV,rfl,e0,f0⟩:=id hW;rw[A]at hV;obtain⟨rfl,rfl⟩:gs=[]∧pv=[]:=by
  cases gs with
  |nil=>exact⟨rfl,hV⟩
  |cons _ _=>exact hV.elim
 rw[ZL]at J D;have u: ∀sp:Nat->Bool,(∀p∈pa,sp p.block=kw)->DataW.TrodAll enc P W' 0 sp kw f.params.toList args.toList (s.fn H (B++ [])).args pa:=fun sp j0=>by
  rw[I];exact r5 K hz hk d0 hA J j0
 have b0: ∀sp:Nat->Bool,DataW.TrodVars enc P W' sp s.vars (s.fn H (B++ [])).vars []:=fun sp=>by
  rw[k0,A];rfl
 refine⟨B,[],pa++ [],[],pa,[],hW,F _ _ _,u _ D,b0 _,?_,fun _=>⟨g0,_,_,([]++pa)++ [],⟨[]++pa,[],trodAll_append (u _ (fun _ _=>rfl)) (F _ _ _),b0 _,rfl,?_,?_⟩,?_⟩⟩
 .exact Qe i0 Y hk _
 .intro b c0 S;have a0:MemPlace.cell b c0∈pa:=by simpa using S
  have hb:=J _ a0;have:=e0 b c0 (by simpa using a0);rw[<-this];simp only[World.frozen?];rw[hk b hb]
 .intro ha;have:=f0 ha;simpa using this
 .intro p S _;simpa using S
end
section
variable {P:Program} {ty:Ty} {nt:Nat} {s:AS} {Q:AQ} {k:List KI}
def yO(c:UInt8):List IV:=[.v (.int .u8 (c.toNat:Int))]
theorem u6(w:World)(t u F e:TypeId)(i:TypeInfo)(I:P.underlying t=io (.slice e))(hu:P.underlying u=io .string)(hi:P.info? e=io i)(D:i.size=1)(T:TypeId)
  (g d x:Nat) (j:Array Value) (hg:w.heap[g]? =io (.cells j T (0,0))) (b:ByteArray)
  (y:d+b.size<=x) (A:d+b.size<=j.size):
  (Builtin.append_ #[t,u] F #[.slice (io ⟨g,0,jp⟩) d x,.string b]).run P w=
   .ok (.slice (io ⟨g,0,jp⟩) (d+b.size) x) (w.setRow g (j.toList.take d++Lib.strCells b++j.toList.drop (d+b.size)).toArray):=by
 have G:=Lib.run_firstCells_string (P:=P) w 1 b;have B:=run_storeCells_at P g d T (Lib.strCells b) 0 j w hg (by simpa[Lib.strCells_length]using A) (Lib.strCells_oneCell b);simp only[abg,Lib.strCells_length]at B;simp[Builtin.append_,run_underlying I,run_underlying hu,sizeOf,typeInfo,hi,D,Builtin.lenOf,y,G,Addr.add_lit,B]
theorem oq(w:World)(t u B e:TypeId)(i:TypeInfo)(D:P.underlying t=io (.slice e))(hu:P.underlying u=io .string)(hi:P.info? e=io i)(y:Option Addr)(j d:Nat)(x:j<=d)(b:ByteArray)(hb:b.size=0)(hs:y=jp∨ ∃b o,y=io ⟨b,o,jp⟩):
  (Builtin.append_ #[t,u] B #[.slice y j d,.string b]).run P w= .ok (.slice y j d) w:=by
 have A:=Lib.run_firstCells_string (P:=P) w i.size b;have F:Lib.strCells b=[]:=ZY (by rw[Lib.strCells_length];exact hb);rw[hb,F]at A;rcases hs with rfl|⟨g,o,rfl⟩
 .simp[Builtin.append_,run_underlying D,run_underlying hu,sizeOf,typeInfo,hi,Builtin.lenOf,hb,x,A]
 .simp[Builtin.append_,run_underlying D,run_underlying hu,sizeOf,typeInfo,hi,Builtin.lenOf,hb,x,A,storeCells]
def wK(s:AS)(i:Nat)(l:List UInt8)(u:TypeId):AS:=⟨s.f,(s.nx,io (.bS l u))::(i,jp)::s.h,s.nx+1⟩
theorem uc{i:Nat}{l:List UInt8}{u:TypeId}{M b:Mem}{N d:Nm}{a:Act}{w j:World}(hf:Fits M N s nt a w)(x:Ext M N (· <s.nx) s.h w b d (· <s.nx+1) ((s.nx,io (.bS l u))::(i,jp)::s.h) j)
  (hr:Rel b d (· <s.nx+1) ((s.nx,io (.bS l u))::(i,jp)::s.h) j):
  Ext M N (· <s.nx) s.h w b d (· <(wK s i l u).nx) (wK s i l u).h j∧Fits b d (wK s i l u) nt a j:=
 ⟨x,hr,hf.2.1.ext x,hf.2.2⟩
theorem Rel.Rj{M:Mem}{N:Nm}{w:World}{n:Nat}{h:AH}(hr:Rel M N (· <n) h w)(T:TypeId):Ext M N (· <n) h w M N (· <n+1) ((n,io (.bS [] T))::h) w∧Rel M N (· <n+1) ((n,io (.bS [] T))::h) w:=by
 have d: ∀i p,AH.get ((n,io (.bS [] T))::h) i=io p->(i=n∧p= .bS [] T)∨(i<n∧h.get i=io p):=by
  intro i p u;rw[AH.ax]at u;split at u
  .rename_i D;exact .inl ⟨D,by simpa using u.symm⟩
  .exact .inr ⟨hr.used i p u,u⟩
 refine⟨⟨rfl,rfl,rfl,Zc _,fun _ _ _=>rfl,.refl _,fun b c A y=>by simp[A]at y,.refl _ _,fun i u=>by omega,fun i p u x=>?_⟩,⟨hr.eW,fun i p u=>?_,fun i p u x=>?_,fun i p u=>?_,fun i j p q u J F G B=>?_⟩⟩
 .rcases d i p u with⟨rfl,rfl⟩|⟨A,y⟩
  .cases x
  .exact .inr ⟨i,p,y,x,rfl⟩
 .rcases d i p u with⟨rfl,rfl⟩|⟨A,y⟩<;>omega
 .rcases d i p u with⟨rfl,rfl⟩|⟨A,y⟩
  .cases x
  .exact hr.fo i p y x
 .rcases d i p u with⟨rfl,rfl⟩|⟨A,y⟩
  .exact .inl Z
  .exact(hr.obj i p y).mono (.refl _) (.refl _ _) (fun i u=>by omega) A Z
 .rcases d i p u with⟨rfl,rfl⟩|⟨A,y⟩<;>rcases d j q J with⟨rfl,rfl⟩|⟨S,I⟩
  .rfl
  .cases F
  .cases G
  .exact hr.inj i j p q y I F G B
theorem O6(w0:cD P ty){o:Oper}{x y:Operand}{t tu u:TypeId}(ho:o.op= .call ⟨.builtin .append, #[x,y], #[t,tu]⟩){e et eu:cE}(ht:ty t=io e)(hk:e.k= .bc (.slice u))(s1:ty tu=io et)(m1:et.k= .bc .string)(hu:ty u=io eu)
  {i len:Nat} {l:List UInt8} {b:ByteArray} (hx:ev s.f x= .sl i 0 len 1) (hi:s.h.get i=io (.bS l u)) (B:l.length=len) (r1:eu.size=1) (j1:eu.bytes=1) (hz:eu.zero= .int .u8 0)
  (o1:ev s.f y= .iv (.v (.string b))) (x1:len+b.size<=140737488355328)
  {s':AS} (hp:putDst nt o (.sl s.nx 0 (len+b.size) 1) (wK s i (l++b.data.toList) u)=io s'):OT P nt o s (fun t=>t=s'):=by
 refine OT.value hp fun M N a w I=>?_;obtain⟨⟨ii,f0,q0,p0,r0⟩,_⟩:=w0 u _ hu;rw[r1]at q0;rw[j1]at p0;rw[hz]at r0
 have j0:P.underlying t=io (.slice u):=by
  have:=(w0 t _ ht).2.1;rw[hk]at this;exact this.1
 have i0:P.underlying tu=io .string:=by
  have:=(w0 tu _ s1).2.1;rw[m1]at this;exact this.1
 have x0:=a7 I.2.1 x;rw[hx]at x0;have y0:=a7 I.2.1 y;rw[o1]at y0;have v1:a.eval y= .string b:=by
  generalize a.eval y=v at y0;cases y0 with
  |iv _ _ h=>cases h;rfl
 have d: ∀v w',(Builtin.append_ #[t,tu] o.type #[a.eval x,a.eval y]).run P w= .ok v w'->(execOp a.eval o).run P w= .ok (.value v) w':=by
  intro v w' h;simp only[execOp,ho,resolve];simp[invoke,builtin,h]
 rw[v1]at d;have y1:i<s.nx:=I.1.used i _ hi;have k0:s.nx≠i:=by omega
 have n1:=I.1.obj i _ hi;have Y:b.data.toList.length=b.size:=by simp
 have e0: ∀(j:Nat) (x:UInt8),b.data.toList[j]? =io x->(Lib.strCells b).getD j undef= .int .u8 (x.toNat:Int):=by
  intro j x hx;simp only[Lib.strCells,Y6,Zg,hx,Z8,aaw]
 have b0: ∀z:Array Value,(∀(j:Nat) (x:UInt8),l[j]? =io x->z.getD j undef= .int .u8 (x.toNat:Int))->(∀j,j<b.size->z.getD (len+j) undef=(Lib.strCells b).getD j undef)->
   ∀(j:Nat) (x:UInt8),(l++b.data.toList)[j]? =io x->z.getD j undef= .int .u8 (x.toNat:Int):=by
  intro z h1 h2 j x D;rcases aag j l.length with hk|hk
  .rw[Zp hk]at D;exact h1 j x D
  .rw[Zv hk]at D;have s0:j-l.length<b.size:=by rw[<-Y];exact(Zb.1 D).1
   have:=h2 _ s0;rw[e0 _ _ D,show len+(j-l.length)=j by omega]at this;exact this
 have S: ∀(F:List Value) (a0:Nat),F.length=len->(∀(j:Nat) (x:UInt8),l[j]? =io x->F.getD j undef= .int .u8 (x.toNat:Int))->len+b.size<=a0->a0<=maxLen->0<len+b.size->
   ∀z:Array Value,z=F.toArray++(Lib.strCells b).toArray++Builtin.zeroCells (Value.int .u8 0).cells (a0-(len+b.size))->
   ∃M' J,Ext M N (· <s.nx) s.h w M' J (· <(wK s i (l++b.data.toList) u).nx) (wK s i (l++b.data.toList) u).h (w.drew.alloc (.cells z u))∧Fits M' J (wK s i (l++b.data.toList) u) nt a (w.drew.alloc (.cells z u))∧
    VR M' J (· <(wK s i (l++b.data.toList) u).nx) (.sl s.nx 0 (len+b.size) 1) (.slice (io ⟨w.heap.size,0,jp⟩) (len+b.size) a0):=by
  intro F a0 d1 t1 n0 l1 t0 z a1;have w1:(Value.int IntKind.u8 0).cells.size=1:=rfl;have G:z.size=a0:=by
   rw[a1,abp,abp,size_zeroCells,w1];simp only[List.size_toArray,d1,Lib.strCells_length];omega
  obtain⟨J,h1,h2,h3,h4,h5⟩:=I.1.drew.alloc (.cells z u) (.bS (l++b.data.toList) u) z.size (fun J g1 g2 g3=>by
   refine .inr ⟨z,by rw[g1];exact heap_alloc_new _ _,g2.symm,by rw[G,Y8,B,Y];omega,b0 z (fun j x D=>?_) (fun j D=>?_)⟩
   .have z1:=(Zb.1 D).1;have e1:z.getD j undef=F.getD j undef:=by
     rw[a1,Y7,Array.append_assoc,aac (by simp;omega),Y6];simp
    rw[e1];exact t1 j x D
   .rw[a1,Y7,aac (by simp[Lib.strCells_length];omega),Array.getElem?_append_right (by simp;omega),Y6]
    simp[d1])
  have p1:=(h5.del i).swap (Ne.symm k0);have u1:=(((Ext.drew (M:=M) (N:=N) (U:=(· <s.nx)) (h:=s.h) (w:=w)).trans h4).del i).swap (Ne.symm k0);obtain⟨g1,g2⟩:=uc I u1 p1;refine⟨M,J,g1,g2,?_⟩;have:=VR.sl (M:=M) (N:=J) (U:=(· <s.nx+1)) s.nx 0 (len+b.size) 1 a0 (by omega) t0 n0 l1 (by rw[h2,G];simp);rw[h1,abb]at this;exact this
 generalize a.eval x=vx at x0 d;cases x0 with
 |pW _ _ hU=>
  have he:l=[]:=ZY B;subst he;by_cases hm:b.size=0
  .have m0:b.data.toList=[]:=ZY (by rw[Y];exact hm);have A:=oq (P:=P) w t tu o.type u ii j0 i0 f0 jp 0 0 (Zc _) b hm (.inl Z);obtain⟨h1,h2⟩:=I.1.Rj u;obtain⟨g1,g2⟩:=uc (i:=i) (l:=[]) (u:=u) I ((h1.del i).swap (Ne.symm k0)) ((h2.del i).swap (Ne.symm k0));rw[m0,hm];exact⟨_,w,M,N,d _ _ A,g1,g2,.pW _ _ (by simp only[wK];omega)⟩
  .have A:=run_append_nil_string (P:=P) w t tu o.type u ii (.int .u8 0) j0 i0 f0 r0 b (by omega) (by omega) (by rw[p0];omega);have e1:(b.data.map fun b=>Value.int .u8 b.toNat)=(Lib.strCells b).toArray:=by
    apply Array.ext';simp[Lib.strCells]
   rw[e1]at A;obtain⟨M',J,g1,g2,g3⟩:=S [] (grownCap w b.size 0 u) Z (by simp) (by simpa using grownCap_ge w b.size 0 u) (grownCap_le_maxLen w _ _ _ (by simp only[maxLen];omega)) (by omega) _ Z;simp only[Zu,aaN,Array.empty_append] at*
   exact⟨_,_,M',J,d _ _ A,by simpa using g1,by simpa using g2,by simpa using g3⟩
 |sl _ _ _ _ a0 hU h0 hl hc hext=>
  rcases n1 with rfl|⟨cur,q1,q2,q3,q4⟩
  .simp at B;omega
  have c0:(AO.bS l u).real=kw:=by cases l with
   |nil=>simp at B;omega
   |cons=>rfl
  rw[abb]at d;have o0:cur.size=a0:=by rw[q2,<-hext];omega
  by_cases hm:b.size=0
  .have m0:b.data.toList=[]:=ZY (by rw[Y];exact hm);have A:=oq (P:=P) w t tu o.type u ii j0 i0 f0 (io ⟨N.aL i,0,jp⟩) len a0 hl b hm (.inr ⟨_,_,rfl⟩)
   obtain⟨h1,h2⟩:=I.1.move hi c0 w (.bS (l++ []) u) Z Z Z Z (fun _ _=>rfl) (by
    rw[ZL]
    exact .inr ⟨cur,by simpa using q1,by simpa using q2,q3,q4⟩)
   obtain⟨g1,g2⟩:=uc (i:=i) I h1 h2;rw[m0,hm];refine⟨_,w,M,_,d _ _ A,g1,g2,?_⟩;have:=VR.sl (M:=M) (N:=N.with s.nx (N.aL i) (N.ext i)) (U:=(· <s.nx+1)) s.nx 0 len 1 a0 (by omega) h0 hl hc (by simpa using hext);simpa[wK]using this
  .by_cases d0:len+b.size<=a0
   .have A:=u6 (P:=P) w t tu o.type u ii j0 i0 f0 q0 u (N.aL i) len a0 cur q1 b d0 (by omega);generalize hL:(cur.toList.take len++Lib.strCells b++cur.toList.drop (len+b.size)).toArray=L at A;have b1:L.size=cur.size:=by rw[<-hL];simp[Lib.strCells_length];omega
    have v0:=setRow_heap w (N.aL i) cur L u (0,0) q1;have i1: ∀j,j<len->L.getD j undef=cur.getD j undef:=by
     intro j D;rw[<-hL,Y7,Y7];simp only[aar];rw[Zj,Zp (by simp;omega),Z6,am D,aah]
    have f1: ∀j,j<b.size->L.getD (len+j) undef=(Lib.strCells b).getD j undef:=by
     intro j D;rw[<-hL,Y7,Y6];simp only[aar];rw[Zp (by simp[Lib.strCells_length];omega),Zv (by simp;omega)];congr 2;simp;omega
    obtain⟨h1,h2⟩:=I.1.move hi c0 (w.setRow (N.aL i) L) (.bS (l++b.data.toList) u) Z Z Z (by simp) (fun b hb=>by
      simp only[World.setRow,Z2]
      rw[be (fun e=>hb e.symm)]) (by
     refine .inr ⟨L,by simpa using v0,by rw[b1];simpa using q2,by rw[b1,o0,Y8,B,Y];omega,b0 L (fun j x D=>?_) f1⟩;rw[i1 j (by rw[<-B];exact(Zb.1 D).1)]
     exact q4 j x D)
    obtain⟨g1,g2⟩:=uc (i:=i) I h1 h2;refine⟨_,_,M,_,d _ _ A,g1,g2,?_⟩;have:=VR.sl (M:=M) (N:=N.with s.nx (N.aL i) (N.ext i)) (U:=(· <s.nx+1)) s.nx 0 (len+b.size) 1 a0 (by omega) (by omega) d0 hc (by simpa using hext);simpa[wK]using this
   .have g0: ∀(j:Nat) (v:Value),(cur.toList.take len)[j]? =io v->w.cell? ((⟨N.aL i,0,jp⟩:Addr).add j)=io v:=by
     intro j v hv;rw[Z6]at hv;split at hv
     .rw[iF,Zu];simp only[World.cell?,q1];simpa using hv
     .cases hv
    have A:=Lib.run_append_grow_string (P:=P) w t tu o.type u ii (.int .u8 0) j0 i0 f0 r0 ⟨N.aL i,0,jp⟩ len a0 (cur.toList.take len) (by rw[q0];simp;omega) g0 b (by omega) (by omega)
     (by rw[p0];exact growslice_fits (by omega) (by omega))
    obtain⟨M',J,g1,g2,g3⟩:=S (cur.toList.take len) (grownCap w (len+b.size) a0 u) (by simp;omega) (fun j x D=>by
      have:=q4 j x D;have s0:j<len:=by rw[<-B];exact(Zb.1 D).1
      rw[Y6,Z6,am s0,aah]
      rw[Y7]at this;exact this) (grownCap_ge w _ _ _) (grownCap_le_maxLen w _ _ _ (by simp only[maxLen];omega)) (by omega) _ Z
    exact⟨_,_,M',J,d _ _ A,g1,g2,g3⟩
theorem Qi(Y:cD P ty){all rest:List Oper}{o:Oper}{x y:Operand}{t tu u d:Nat}{e et A:cE}{i len:Nat}{l:List UInt8}{b:ByteArray}(ho:o.op= .call ⟨.builtin .append, #[x,y], #[t,tu]⟩)(hg:o.guard=jp)(J:ty t=io e)(hk:e.k= .bc (.slice u))(S:ty tu=io et)(F:et.k= .bc .string)(hu:ty u=io A)
  (hx:ev s.f x= .sl i 0 len 1) (hi:s.h.get i=io (.bS l u)) (I:A.size=1) (D:A.bytes=1) (hz:A.zero= .int .u8 0)
  (G:ev s.f y= .iv (.v (.string b))) (hd:o.dst=io d) (hlt:Zs d nt=kw) (j:l.length=len) (B:len+b.size<=140737488355328)
  (h:GO P nt (.ops all rest::k) Q ⟨(d,.sl s.nx 0 (l++b.data.toList).length 1)::s.f,(s.nx,io (.bS (l++b.data.toList) u))::(i,jp)::s.h,s.nx+1⟩):GO P nt (.ops all (o::rest)::k) Q s:=by
 have e:(l++b.data.toList).length=len+b.size:=by rw[Y8,j];simp
 rw[e]at h
 exact dK hg (O6 Y ho J hk S F hu hx hi j I D hz G B (s':=⟨(d,.sl s.nx 0 (len+b.size) 1)::s.f,(s.nx,io (.bS (l++b.data.toList) u))::(i,jp)::s.h,s.nx+1⟩) (by
  simp only[putDst,wK,hd,hlt,cond_true,eM])) fun t J=>by subst J;exact h
theorem Kq{o:Oper}{I:Operand}(ho:o.op= .next I kw){i:Nat}(J:ev s.f I= .ptr i 0){b:ByteArray}{a0:Nat}(hi:s.h.get i=io (.eS b a0)){d:Nat}(hd:o.dst=io d)(hlt:Zs d nt=kw):
  OT P nt o s (fun t=>(b.size<=a0∧t=⟨(d,.bQ [.kb lc])::s.f,s.h,s.nx⟩)∨
   (a0<b.size∧t=⟨(d,.bQ [.kb kw,.iv (.v (.int .i64 (a0:Nat))),.iv (.v (.int .i32 (Utf8.decode b a0).1))])::s.f,(i,io (.eS b (a0+(Utf8.decode b a0).2)))::s.h,s.nx⟩)):=by
 intro M N a w G K Z Y;have S:=a7 G.2.1 I;rw[J]at S;have A:w.heap[N.aL i]? =io (.stringIter b a0):=G.1.obj i _ hi;have B:N.aL i<w.heap.size:=(aaq.1 A).1;have D:d<nt:=Y5 hlt;have F:a.eval I= .pointer (io ⟨N.aL i,0,jp⟩):=by
  generalize a.eval I=y at S;cases S;rfl
 unfold Oper.wp;by_cases u:a0<b.size
 .have x:(execOp a.eval o).run P w= .ok (.value (.tuple #[.bool kw,.int .i64 (a0:Nat),.int .i32 (Utf8.decode b a0).1])) {w with heap:=w.heap.setIfInBounds (N.aL i) (.stringIter b (a0+(Utf8.decode b a0).2))}:=by
   simp only[execOp,ho,F];simp[Instr.next,getObj,setObj,Sem.run,A,u,Result.andThen,goInt]
  rw[x];simp only[Oper.upon]
  obtain⟨q1,q2⟩:=G.1.write hi rfl {w with heap:=w.heap.setIfInBounds (N.aL i) (.stringIter b (a0+(Utf8.decode b a0).2))} (.eS b (a0+(Utf8.decode b a0).2)) rfl rfl rfl (by simp) (fun c hc=>by
   show(w.heap.setIfInBounds _ _)[c]? =_
   rw[ZT,be (fun e=>hc e.symm)]) (by
   show(w.heap.setIfInBounds _ _)[_]? =_
   rw[ZT,am rfl,am B])
  refine Y M N _ _ _ q1 ?_ (.inr ⟨u,rfl⟩);rw[hd];refine Fits.put (s:=⟨s.f,(i,io (.eS b (a0+(Utf8.decode b a0).2)))::s.h,s.nx⟩) ⟨q2,G.2⟩ d _ _ D (.bQ _ _ rfl fun q p u=>?_)
  match q with
  |0=>simp at u;subst u;exact .kb _
  |1=>simp at u;subst u;exact .iv _ _ (.v _)
  |2=>simp at u;subst u;exact .iv _ _ (.v _)
  |q+3=>simp at u
 .have x:(execOp a.eval o).run P w= .ok (.value (.tuple #[.bool lc])) w:=by
   simp only[execOp,ho,F];simp[Instr.next,getObj,Sem.run,A,u,Result.andThen]
  rw[x];simp only[Oper.upon];refine Y M N ⟨(d,.bQ [.kb lc])::s.f,s.h,s.nx⟩ _ w (.refl _ _ _ _ _) ?_ (.inl ⟨by omega,rfl⟩);rw[hd]
  exact G.put d _ _ D (.bQ _ _ rfl fun j p u=>by
    match j with
    |0=>simp at u;subst u;exact .kb _
    |j+1=>simp at u)
theorem oB{all rest:List Oper}{o:Oper}{u:Operand}{i:Nat}{b:ByteArray}{a0 d:Nat}(ho:o.op= .next u kw)(hg:o.guard=jp)(j:ev s.f u= .ptr i 0)(hi:s.h.get i=io (.eS b a0))(hd:o.dst=io d)(hlt:Zs d nt=kw)
  (h1:b.size<=a0->GO P nt (.ops all rest::k) Q ⟨(d,.bQ [.kb lc])::s.f,s.h,s.nx⟩)
  (h2:a0<b.size->GO P nt (.ops all rest::k) Q ⟨(d,.bQ [.kb kw,.iv (.v (.int .i64 (a0:Nat))),.iv (.v (.int .i32 (Utf8.decode b a0).1))])::s.f,(i,io (.eS b (a0+(Utf8.decode b a0).2)))::s.h,s.nx⟩):
  GO P nt (.ops all (o::rest)::k) Q s:=by
 refine dK hg (Kq ho j hi hd hlt) fun t x=>?_;rcases x with⟨g1,rfl⟩|⟨g1,rfl⟩
 .exact h1 g1
 .exact h2 g1
theorem AV(B:cD P ty){all rest:List Oper}{o:Oper}{x:Operand}{t d:Nat}{b:ByteArray}{e:cE}(ho:o.op= .range t x)(hg:o.guard=jp)(A:ty t=io e)(S:e.k= .bc .string)(Y:ev s.f x= .iv (.v (.string b)))(hd:o.dst=io d)(hlt:Zs d nt=kw)
  (h:GO P nt (.ops all rest::k) Q ⟨(d,.ptr s.nx 0)::s.f,(s.nx,io (.eS b 0))::s.h,s.nx+1⟩):GO P nt (.ops all (o::rest)::k) Q s:=by
 have D:P.underlying t=io .string:=by
  have:=(B t _ A).2.1;rw[S]at this;exact this.1
 refine dK (R:=fun t=>t=⟨(d,.ptr s.nx 0)::s.f,(s.nx,io (.eS b 0))::s.h,s.nx+1⟩) hg (OT.value (s1:=newObj s (.eS b 0)) (p:= .ptr s.nx 0) (by cases s;simp only[putDst,newObj,hd,hlt,cond_true,eM]) fun M N a w y=>?_) fun t A=>by subst A;exact h
 have j:=a7 y.2.1 x;rw[Y]at j;have F:a.eval x= .string b:=by
  generalize a.eval x=v at j;cases j with
  |iv _ _ h=>cases h;rfl
 obtain⟨u,I,h2,h3,G,J⟩:=y.1.alloc (.stringIter b 0) (.eS b 0) 0 (fun u g1 g2 g3=>by
  show(w.alloc _).heap[u.aL s.nx]? =_
  rw[g1];exact heap_alloc_new w _)
 refine⟨.pointer (io ⟨w.heap.size,0,jp⟩),_,M,u,?_,G,fh y G J,?_⟩
 .simp only[execOp,ho,F];simp[Instr.range,run_underlying D]
 .have:=VR.ptr (M:=M) (N:=u) (U:=(· <s.nx+1)) s.nx 0 (by omega);rw[I]at this;exact this
end
section
variable {P:Program} {ty:Ty} {nt:Nat} {s:AS} {Q:AQ} {k:List KI}
theorem Jh(a0:cD P ty){all rest:List Oper}{o:Oper}{x:Operand}{t t' u d:Nat}{b:ByteArray}{et c0 eu:cE}(ho:o.op= .convert t t' x)(hg:o.guard=jp)(ht:ty t=io et)(hk:et.k= .bc .string)(k0:ty t'=io c0)(g0:c0.k= .bc (.slice u))(hu:ty u=io eu)(i0:eu.k= .bc (.int .u8))
  (hx:ev s.f x= .iv (.v (.string b))) (hd:o.dst=io d) (hlt:Zs d nt=kw) (hb:b.size<=1000000)
  (h:GO P nt (.ops all rest::k) Q ⟨(d,.iv (.de 1 b.data.toList.length fun k=>yO (b.data.toList.getD k em)))::s.f,s.h,s.nx⟩):GO P nt (.ops all (o::rest)::k) Q s:=by
 have hs:P.underlying t=io .string:=by have:=(a0 t _ ht).2.1;rw[hk]at this;exact this.1
 have j0:P.underlying t'=io (.slice u):=by have:=(a0 t' _ k0).2.1;rw[g0]at this;exact this.1
 have m0:P.underlying u=io (.int .u8):=by have:=(a0 u _ hu).2.1;rw[i0]at this;exact this.1
 refine dK (R:=fun t=>t=⟨(d,.iv (.de 1 b.data.toList.length fun k=>yO (b.data.toList.getD k em)))::s.f,s.h,s.nx⟩) hg (OT.value (s1:=s) (p:= .iv (.de 1 b.data.toList.length fun k=>yO (b.data.toList.getD k em))) (by cases s;simp only[putDst,hd,hlt,cond_true,eM]) fun M N a w D=>?_) fun t ht=>by subst ht;exact h
 have b0:=a7 D.2.1 x;rw[hx]at b0;have n0:a.eval x= .string b:=by
  generalize a.eval x=v at b0;cases b0 with
  |iv _ _ h=>cases h;rfl
 have J:=Go.run_bytes_of_string (P:=P) w t t' u b hs j0 m0;generalize hC:bytesRow b (grownCap w b.size 0 u)=C at J;have B:M w.heap.size=jp:=by
  cases hm:M w.heap.size with
  |none=>rfl
  |some c=>exact absurd (D.1.eW _ _ hm).lt (ab5 _)
 have F: ∀c,c<w.heap.size->(w.drew.alloc (.cells C u (C.size,C.size+1))).heap[c]? =w.heap[c]? :=fun c A=>by
  show(w.heap.push _)[c]? =_;rw[abr,be (by omega)]
 have hnew:(w.drew.alloc (.cells C u (C.size,C.size+1))).heap[w.heap.size]? =io (.cells C u (C.size,C.size+1)):=by
  show(w.heap.push _)[w.heap.size]? =_;simp
 have d0: ∀j,j<b.data.toList.length->C[j]? =io (.int .u8 ((b.data.toList.getD j em).toNat:Int)):=by
  intro j hj;have S:j<b.data.size:=by simpa using hj
  rw[<-hC];simp only[bytesRow];rw[aac (by simpa using S)];simp[Y6];exact⟨b.data[j],Z4 S,by rw[Z4 S];rfl⟩
 have G:=grownCap_ge w b.size 0 u;refine⟨.slice (io ⟨w.heap.size,0,jp⟩) b.size (grownCap w b.size 0 u),w.drew.alloc (.cells C u (C.size,C.size+1)),M.set w.heap.size (.cells C) B,N,?_,?_,?_,?_⟩
 .simp only[execOp,ho,n0];rw[Sem.run_bind,J];rfl
 .have q1:M.le (M.set w.heap.size (.cells C) B):=fun c e A=>by
   simp only[Mem.set];rw[be fun e2=>by rw[e2,B]at A;cases A];exact A
  have q2: ∀c e,M c=jp->(M.set w.heap.size (.cells C) B) c=io e->w.heap.size<=c∨ ∃i o,s.h.get i=io o∧o.real=kw∧N.aL i=c:=fun c e h1 h2=>by
   simp only[Mem.set]at h2;by_cases he:c=w.heap.size
   .exact .inl (by omega)
   .rw[be he,h1]at h2;cases h2
  exact⟨rfl,rfl,rfl,(by show w.heap.size<=(w.heap.push _).size;simp),fun c A _=>F c A,q1,q2,.refl _ _,fun _ h=>h,fun i o I y=> .inr ⟨i,o,I,y,rfl⟩⟩
 .have e0:M.le (M.set w.heap.size (.cells C) B):=fun c e A=>by
   simp only[Mem.set];rw[be fun e2=>by rw[e2,B]at A;cases A];exact A
  refine⟨⟨fun c e A=>?_,D.1.used,fun i o I y=>?_,fun i o I=>?_,D.1.inj⟩,fun i=>(D.2.1 i).mono e0 (.refl _ _) fun _ h=>h,D.2.2⟩
  .simp only[Mem.set]at A;by_cases he:c=w.heap.size
   .rw[am he]at A;cases A;exact⟨u,(C.size,C.size+1),by rw[he];exact hnew⟩
   .rw[be he]at A;exact(D.1.eW c e A).mono (F c (D.1.eW c e A).lt)
  .simp only[Mem.set];have:=D.1.lt I y;rw[be (by omega)];exact D.1.fo i o I y
  .cases y:o.real with
   |true=>exact(D.1.obj i o I).mono e0 (.refl _ _) (fun _ h=>h) (D.1.used i o I) (F _ (D.1.lt I y))
   |false=>
    cases o with
    |row sz es=>cases es with
     |nil=>exact .inl Z
     |cons=>cases y
    |bS l T=>cases l with
     |nil=>exact .inl Z
     |cons=>cases y
    |_=>cases y
 .have f0:b.data.toList.length=b.size:=by simp
  rw[<-f0]at G ⊢;by_cases h0:b.data.toList.length=0
  .rw[h0];exact .iv _ _ (.j8 _ _ _ _)
  .refine .iv _ _ (.de _ _ _ _ _ _ (by omega) (grownCap_le_maxLen w _ _ _ (by simp only[maxLen];omega)) (fun _ _=>rfl) (fun k j hk hj=>?_) (fun k j p hk hp=>?_))
   .have Y:j=0:=by omega
    subst Y;have:=d0 k hk;simp only[Mem.cell,Mem.set,if_true,Zu,ab2,abg,this,Option.isSome_some]
   .have Y:j=0:=by
     have:=(Zb.1 hp).1;simp[yO]at this;exact this
    subst Y;cases hp;have:=d0 k hk;simp only[Mem.cell,Mem.set,if_true,Zu,ab2,abg,this,aaw];exact .v _
theorem Qn(B:cD P ty)(l:List UInt8){all rest:List Oper}{o:Oper}{x:Operand}{t D u d i n:Nat}{es:List (List PV)}{et G eu:cE}(ho:o.op= .convert t D x)(hg:o.guard=jp)(ht:ty t=io et)(hk:et.k= .bc (.slice u))(f0:ty D=io G)(c0:G.k= .bc .string)(hu:ty u=io eu)(d0:eu.k= .bc (.int .u8))
  (hx:ev s.f x= .sl i 0 n 1) (hi:s.h.get i=io (.row 1 es)) (hd:o.dst=io d) (hlt:Zs d nt=kw) (hes:es=l.map fun x=>(yO x).map .iv) (hn:n=l.length)
  (h:GO P nt (.ops all rest::k) Q ⟨(d,.iv (.v (.string ⟨l.toArray⟩)))::s.f,s.h,s.nx⟩):GO P nt (.ops all (o::rest)::k) Q s:=by
 have hs:P.underlying D=io .string:=by have:=(B D _ f0).2.1;rw[c0]at this;exact this.1
 have Y:P.underlying t=io (.slice u):=by have:=(B t _ ht).2.1;rw[hk]at this;exact this.1
 have a0:P.underlying u=io (.int .u8):=by have:=(B u _ hu).2.1;rw[d0]at this;exact this.1
 subst hn;subst hes;refine dK (R:=fun t=>t=⟨(d,.iv (.v (.string ⟨l.toArray⟩)))::s.f,s.h,s.nx⟩) hg (OT.value (s1:=s) (p:= .iv (.v (.string ⟨l.toArray⟩))) (by cases s;simp only[putDst,hd,hlt,cond_true,eM]) fun M N a w hf=>?_) fun t ht=>by subst ht;exact h
 have b:=a7 hf.2.1 x;rw[hx]at b;have S:(convert t D (a.eval x)).run P w= .ok (.string ⟨l.toArray⟩) w:=by
  generalize a.eval x=v at b;cases hor:l with
  |nil=>
   rw[hor]at b;generalize F:PV.sl i 0 ([]:List UInt8).length 1=q at b;cases b with
   |sl _ _ _ _ _ _ h0=>cases F;simp at h0
   |pW _ _ _=>
    have:=run_convert_bytes_nil (P:=P) w t u Y a0 0 0 D hs;exact this
   |_=>cases F
  |cons x0 r0=>
   rw[<-hor];have J:0<l.length:=by rw[hor];simp
   generalize e0:l.length=n at b J;generalize F:PV.sl i 0 n 1=q at b;cases b with
   |sl _ _ _ _ cap hU h0 hl hc he=>
    cases F;rcases hf.1.obj i _ hi with A|⟨_,c,T,q1,q2,q3,q4,q5⟩
    .rw[hor]at A;cases A
    rw[abb,<-e0];refine run_convert_bytes_back (P:=P) w t D u ⟨N.aL i,0,jp⟩ cap l Y a0 hs fun j hj=>?_;rw[iF,Zu];have I:j<c.size:=by rw[ZE]at q3;omega
    have:=q5 j [.iv (.v (.int .u8 (l[j].toNat:Int)))] 0 _ (by rw[Zg,Za hj];rfl) Z;rw[ab2,abg,Y7,Z4 I,aaw]at this;simp only[World.cell?,q1];generalize b0:c[j]=y at this;cases this with
    |iv _ _ h=>cases h;simp[I,b0]
   |pW _ _ _=>cases F;omega
   |_=>cases F
 exact⟨_,w,M,N,by simp only[execOp,ho];exact bH S,.refl _ _ _ _ _,hf,.iv _ _ (.v _)⟩
theorem xg(u:cD P ty){all rest:List Oper}{o:Oper}{x:Operand}{t y d:Nat}{q J:IntKind}{n:Int}{G j:cE}(ho:o.op= .convert t y x)(hg:o.guard=jp)(B:ty t=io G)(Y:G.k= .bc (.int q))(D:ty y=io j)(A:j.k= .bc .string)
  (hx:ev s.f x= .iv (.v (.int J n))) (hd:o.dst=io d) (hlt:Zs d nt=kw)
  (h:GO P nt (.ops all rest::k) Q ⟨(d,.iv (.v (.string (Utf8.encode n))))::s.f,s.h,s.nx⟩):GO P nt (.ops all (o::rest)::k) Q s:=by
 have hs:P.underlying y=io .string:=by have:=(u y _ D).2.1;rw[A]at this;exact this.1
 have S:P.underlying t=io (.int q):=by have:=(u t _ B).2.1;rw[Y]at this;exact this.1
 refine dK (R:=fun t=>t=⟨(d,.iv (.v (.string (Utf8.encode n))))::s.f,s.h,s.nx⟩) hg (OT.value (s1:=s) (p:= .iv (.v (.string (Utf8.encode n)))) (by cases s;simp only[putDst,hd,hlt,cond_true,eM]) fun M N a w I=>?_) fun t B=>by subst B;exact h
 have b:=a7 I.2.1 x;rw[hx]at b;have F:a.eval x= .int J n:=by
  generalize a.eval x=v at b;cases b with
  |iv _ _ h=>cases h;rfl
 refine⟨_,w,M,N,?_,.refl _ _ _ _ _,I,.iv _ _ (.v _)⟩;simp only[execOp,ho,F];refine bH ?_;simp[convert,run_underlying S,run_underlying hs,Conv.intToString]
end
section
variable {P:Program} {ty:Ty} {nt:Nat} {s:AS}
theorem qx{M:Mem}{N:Nm}{a:Act}{w:World}(hf:Fits M N s nt a w){x:Operand}{k:IntKind}{n:Int}(h:ev s.f x= .iv (.v (.int k n))):a.eval x= .int k n:=by
 have b:=a7 hf.2.1 x;rw[h]at b;generalize a.eval x=v at b;cases b with
 |iv _ _ b=>cases b with
  |v=>rfl
theorem Wp(D:cD P ty){o:Oper}{t u:TypeId}{l c:Operand}(ho:o.op= .makeSlice t l c){e b:cE}(ht:ty t=io e)(hk:e.k= .bc (.slice u))(hu:ty u=io b)
  {n m sz:Nat} {kl kc:IntKind} {ml nc:Int} (hl:ev s.f l= .iv (.v (.int kl ml))) (hc:ev s.f c= .iv (.v (.int kc nc))) (g0:ml=(m:Int)) (i0:nc=(n:Int)) (hn:0<n) (p0:n<=100000000000) (hb:b.bytes*n<=281474976710656) (m0:b.size=sz) (F:b.zero.cells.size=sz) (k0:0<sz)
  {z:List PV} (hz:z=c6 b.zero) {p:PV} (B:(m=0∧p= .sl s.nx 1 0 sz)∨(m=n∧p= .sl s.nx 0 n sz))
  {s':AS} (hp:putDst nt o p (newObj s (.row sz (aa5 n z)))=io s'):OT P nt o s (fun t=>t=s'):=by
 refine OT.value hp fun M N a w J=>?_;subst hz m0 g0 i0;obtain⟨⟨ii,a0,b0,Y,c0⟩,_⟩:=D u _ hu
 have n0:P.underlying t=io (.slice u):=by
  have:=(D t _ ht).2.1;rw[hk]at this;exact this.1
 have o0:m<=n:=by rcases B with⟨h,_⟩|⟨h,_⟩<;>omega
 have A:=run_make w t u ii b.zero n0 a0 c0 kl kc (m:Int) (n:Int) (by omega) (by omega) (by rw[Y];omega) (by omega);rw[Zx,Zx,b0]at A;have G:(c6 b.zero).length=b.size:=by rw[(gq (M:=M) (N:=N) (U:=(· <s.nx)) b.zero).1,F]
 have y: ∀(k:Nat) (e:List PV),(aa5 n (c6 b.zero))[k]? =io e->k<n∧e=c6 b.zero:=by
  intro k e d;rw[abe]at d;split at d
  .exact⟨by assumption,by simpa using d.symm⟩
  .cases d
 obtain⟨I,h1,h2,h8,h9,S⟩:=J.1.alloc (.cells (madeCells b.zero.cells (n*b.size)) u) (.row b.size (aa5 n (c6 b.zero))) (n*b.size) (fun I g1 g2 g3=>
  .inr ⟨k0,_,u,by rw[g1];exact heap_alloc_new w _,by rw[size_madeCells,g2],by rw[size_madeCells,List.length_replicate];exact Zc _,fun k e d=>by rw[(y k e d).2,G],fun k e j p d hj=>by
   obtain⟨e0,rfl⟩:=y k e d;have d0:j<b.size:=by rw[<-G];exact(Zb.1 hj).1
   have f0:k*b.size+j<n*b.size:=by
    have:(k+1)*b.size<=n*b.size:=ZF _ e0;rw[aal]at this;omega
   have h7:(madeCells b.zero.cells (n*b.size)).getD (k*b.size+j) undef=b.zero.cells.getD j undef:=by
    have hx:(ab0 (n*b.size))[k*b.size+j]? =io (k*b.size+j):=by simp[f0]
    have hm:(k*b.size+j) % b.zero.cells.size=j:=by rw[F,Nat.add_comm,Nat.add_mul_mod_self_right,Nat.mod_eq_of_lt d0]
    rw[madeCells,Y7,abw,hx];simp only[Z8,aaw,hm];rw[Y7,getElem!_pos b.zero.cells j (by omega),Z4 (by omega)];rfl
   rw[h7];exact(gq b.zero).2 j p hj⟩)
 refine⟨.slice (io ⟨w.heap.size,0,jp⟩) m n,_,M,I,?_,h9,fh J h9 S,?_⟩
 .simp only[execOp,ho,qx J hl,qx J hc];rw[Sem.run_bind,A];rfl
 .have j0:(newObj s (.row b.size (aa5 n (c6 b.zero)))).nx=s.nx+1:=by cases s;rfl
  rw[j0];have x:n<=maxLen:=by simp only[maxLen];omega
  rcases B with⟨rfl,rfl⟩|⟨rfl,rfl⟩
  .have:=VR.sle (M:=M) (N:=I) (U:=(· <s.nx+1)) s.nx b.size n (by omega) x (by rw[h2]);rw[h1]at this;exact this
  .have:=VR.sl (M:=M) (N:=I) (U:=(· <s.nx+1)) s.nx 0 m b.size m (by omega) hn (Zc _) x (by rw[h2,Zu]);rw[h1,abb]at this;exact this
theorem Uu(d:cD P ty){o:Oper}{t u:TypeId}{l c:Operand}(ho:o.op= .makeSlice t l c){e x:cE}(ht:ty t=io e)(hk:e.k= .bc (.slice u))(hu:ty u=io x)
  {sz:Nat} (el:Nat->List IV) {Y kc:IntKind} {ml nc:Int} (hl:ev s.f l= .iv (.v (.int Y ml))) (hc:ev s.f c= .iv (.v (.int kc nc))) (D:ml=0) (F:nc=0)
  {s':AS} (hp:putDst nt o (.iv (.de sz 0 el)) (newObj s (.row sz []))=io s'):OT P nt o s (fun t=>t=s'):=by
 refine OT.value hp fun M N a w j=>?_;subst D F;obtain⟨⟨S,A,b0,a0,B⟩,_⟩:=d u _ hu
 have G:P.underlying t=io (.slice u):=by
  have:=(d t _ ht).2.1;rw[hk]at this;exact this.1
 have b:=run_make w t u S x.zero G A B Y kc 0 0 (by omega) (by omega) (by omega) (by omega);obtain⟨I,h1,h2,h8,J,y⟩:=j.1.alloc (.cells (madeCells x.zero.cells ((0:Int).toNat*S.size)) u) (.row sz []) 0 (fun I g1 g2 g3=> .inl Z);refine⟨.slice (io ⟨w.heap.size,0,jp⟩) 0 0,_,M,I,?_,J,fh j J y,.iv _ _ (.j8 _ _ _ _)⟩;simp only[execOp,ho,qx j hl,qx j hc];rw[Sem.run_bind,b];rfl
theorem UR(A:cD P ty){o:Oper}{t u:TypeId}{x hi:Operand}(ho:o.op= .slice t x jp (io hi) jp){e G:cE}(ht:ty t=io e)(J:e.k= .bc (.slice u))(hu:ty u=io G)
  {i n m sz:Nat} {kc:IntKind} {I:Int} (hx:ev s.f x= .sl i 0 n sz) (hh:ev s.f hi= .iv (.v (.int kc I))) (D:I=(m:Int)) (Y:m<=n) (hn:0<n)
  {p:PV} (F:(m=0∧p= .sl i 1 0 sz)∨(0<m∧p= .sl i 0 m sz)) {s':AS} (hp:putDst nt o p s=io s'):OT P nt o s (fun t=>t=s'):=by
 refine OT.value hp fun M N a w B=>?_;subst D
 have j:P.underlying t=io (.slice u):=by
  have:=(A t _ ht).2.1;rw[J]at this;exact this.1
 have d:P.elem t=u:=by simp[Program.elem,j]
 have y:=a7 B.2.1 x;rw[hx]at y;generalize hv:a.eval x=vx at y;cases y with
 |pW=>omega
 |sl _ _ _ _ cap hU h0 hl hc hext=>
  have b:=run_slice_h (P:=P) (w:=w) t (io ⟨N.aL i,0*sz,jp⟩) n cap (by rw[d];exact j) kc (m:Int) (by omega) (by omega);rw[d,bL (A u _ hu)]at b;refine⟨sliced (io ⟨N.aL i,0*sz,jp⟩) 0 m cap G.size,w,M,N,?_,.refl _ _ _ _ _,B,?_⟩
  .simp only[execOp,ho,hv,Z8,abQ,qx B hh];refine bH ?_;rw[run_sliceAt_slice w t _ _ _ _ (by rw[d];exact j),b];rfl
  .rcases F with⟨rfl,rfl⟩|⟨S,rfl⟩
   .have:=VR.sle (M:=M) (N:=N) (U:=(· <s.nx)) i sz cap hU hc (by rw[<-hext,Zu]);simpa[sliced,Addr.add]using this
   .have:=VR.sl (M:=M) (N:=N) (U:=(· <s.nx)) i 0 m sz cap hU S (by omega) hc hext;simpa[sliced,Addr.add]using this
theorem QY(i0:cD P ty){o:Oper}{x y:Operand}{t u:TypeId}(ho:o.op= .call ⟨.builtin .append, #[x,y], #[t,t]⟩){e A:cE}(ht:ty t=io e)(hk:e.k= .bc (.slice u))(hu:ty u=io A)
  {i sz:Nat} {es news:List (List PV)} {py:PV} (hx:ev s.f x= .sl i 1 0 sz) (hi:s.h.get i=io (.row sz es)) (w0:A.size=sz) (a0:news.length<=es.length) (hm:0<news.length)
  (v0:ev s.f y=py) (hy:Src s.h sz py news) (d0: ∀e∈news,jA e=kw)
  {s':AS} (hp:putDst nt o (.sl s.nx 0 news.length sz) (uO s i sz [] news)=io s'):OT P nt o s (fun t=>t=s'):=by
 refine OT.value hp fun M N a w hf=>?_;subst w0;obtain⟨⟨ii,q0,c0,d1,e1⟩,_⟩:=i0 u _ hu
 have x0:P.underlying t=io (.slice u):=by
  have:=(i0 t _ ht).2.1;rw[hk]at this;exact this.1
 have f0:=a7 hf.2.1 x;rw[hx]at f0;have m0:=a7 hf.2.1 y;rw[v0]at m0;obtain⟨G,ao,c,a1,S⟩:=hy.ok hf m0;have B: ∀v w',(Builtin.append_ #[t,t] o.type #[a.eval x,a.eval y]).run P w= .ok v w'->(execOp a.eval o).run P w= .ok (.value v) w':=by
  intro v w' h;simp only[execOp,ho,resolve];simp[invoke,builtin,h]
 rw[a1]at B;have I:(AO.row A.size es).real=kw:=by cases es with
  |nil=>exact absurd a0 (by simp only[aai];omega)
  |cons=>rfl
 rcases hf.1.obj i _ hi with rfl|⟨hsz0,cur,T,q1,q2,q3,q4,q5⟩
 .cases I
 generalize a.eval x=vx at f0 B;cases f0 with
 |sl _ _ _ _ _ _ h0=>exact absurd h0 (ab5 _)
 |sle _ _ cap hU hc hext=>
  have F:cur.size=cap*A.size:=by rw[q2,<-hext]
  have d:news.length<=cap:=by
   have:es.length*A.size<=cap*A.size:=by rw[<-F];exact q3
   have:=Nat.le_of_mul_le_mul_right this hsz0;omega
  obtain⟨b2,b1,o0,Y⟩:=S (List.ne_nil_of_length_pos hm);subst o0;obtain⟨vs,j0,y0,k0⟩:=wX (s:=s) Y;have J:vs.length=news.length*A.size:=by rw[j0,mR G]
  have p0:vs.length<=cur.size:=by rw[J,F];exact ZF _ d
  have b0: ∀v∈vs,v.oneCell'=kw:=by
   intro v hv;obtain⟨j,hj⟩:=Z7 hv;have r0:j<news.flatten.length:=by rw[<-j0];exact(Zb.1 hj).1
   have hp:=Za r0;obtain⟨k,e,i',h1,h2,_⟩:=qH G j _ hp;have:=(k0 j _ hp).one (oK (d0 e (ZC h1)) i' _ h2);rw[Y6,hj]at this;exact this
  have D:=ot (P:=P) (w:=w) t o.type u ii x0 q0 T (N.aL i) 0 cap cur q1 ⟨b2,b1,jp⟩ news.length c vs (by rw[J,c0]) y0 b0 (by omega) (by rw[c0];omega);rw[c0]at D;generalize hL:(cur.toList.take (0*A.size)++vs++cur.toList.drop (0*A.size+vs.length)).toArray=L at D;rw[Zu]at D;have g0:L.size=cur.size:=by rw[<-hL];simp;omega
  have e0:=setRow_heap w (N.aL i) cur L T (0,0) q1;have n0: ∀j,j<vs.length->L.getD j undef=vs.getD j undef:=by
   intro j hj;rw[<-hL,Y7,Y6];simp only[aar];rw[Zp (by simp;omega),Zv (by simp)];simp
  obtain⟨h1,h2⟩:=hf.1.move hi I (w.setRow (N.aL i) L) (.row A.size ([]++news)) Z Z Z (by simp) (fun b hb=>by
    simp only[World.setRow,Z2]
    rw[be (fun e=>hb e.symm)]) (by
   refine .inr ⟨hsz0,L,T,by simpa using e0,by rw[g0];simpa using q2,by rw[g0,F];exact ZF _ d,fun k e he=>G _ e he,fun k e j p he hj=>?_⟩;have f1:j<A.size:=by rw[<-G _ e he];exact(Zb.1 hj).1
   have s0:k<news.length:=(Zb.1 he).1;have t0:k*A.size+j<vs.length:=by
    rw[J];have:(k+1)*A.size<=news.length*A.size:=ZF _ s0;rw[aal]at this;omega
   rw[n0 _ t0]
   exact(k0 _ p (qG G _ e j p he hj)).mono (.refl _) (N.gU _ _ _) (fun i hi=>by omega))
  obtain⟨g1,g2⟩:=q8 (es:=[]) (news:=news) (i:=i) hf h1 h2;refine⟨_,_,M,_,B _ _ D,g1,g2,?_⟩;have:=VR.sl (M:=M) (N:=N.with s.nx (N.aL i) (N.ext i)) (U:=(· <s.nx+1)) s.nx 0 news.length A.size cap (by omega) hm d hc (by simpa using hext);rw[nH];simpa using this
section
variable {Q:AQ} {k:List KI} {all rest:List Oper} {o:Oper} {s':AS}
theorem Eu(D:cD P ty){t u:TypeId}{l c:Operand}(n m:Nat)(hg:o.guard=jp)(ho:o.op= .makeSlice t l c){e b:cE}(B:ty t=io e)(J:e.k= .bc (.slice u))(hu:ty u=io b)
  {kl kc:IntKind} {G I:Int} (S:ev s.f l= .iv (.v (.int kl G))) (hc:ev s.f c= .iv (.v (.int kc I))) (d:G=(m:Int)) (x:I=(n:Int)) (hn:0<n) (j:n<=100000000000) (hb:b.bytes*n<=281474976710656) (F:b.zero.cells.size=b.size) (A:0<b.size)
  {z:List PV} (Y:z=c6 b.zero) {p:PV} (y:(m=0∧p= .sl s.nx 1 0 b.size)∨(m=n∧p= .sl s.nx 0 n b.size))
  (hp:putDst nt o p (newObj s (.row b.size (aa5 n z)))=io s') (h:GO P nt (.ops all rest::k) Q s'):GO P nt (.ops all (o::rest)::k) Q s:=
 dK hg (Wp D ho B J hu S hc d x hn j hb Z F A Y y hp) fun t B=>by subst B;exact h
theorem F9(x:cD P ty){t u:TypeId}{l c:Operand}(sz:Nat)(el:Nat->List IV)(hg:o.guard=jp)(ho:o.op= .makeSlice t l c){e B:cE}(j:ty t=io e)(D:e.k= .bc (.slice u))(hu:ty u=io B)
  {G kc:IntKind} {y A:Int} (F:ev s.f l= .iv (.v (.int G y))) (hc:ev s.f c= .iv (.v (.int kc A))) (b:y=0) (d:A=0)
  (hp:putDst nt o (.iv (.de sz 0 el)) (newObj s (.row sz []))=io s') (h:GO P nt (.ops all rest::k) Q s'):GO P nt (.ops all (o::rest)::k) Q s:=
 dK hg (Uu x ho j D hu el F hc b d hp) fun t j=>by subst j;exact h
theorem HE(A:cD P ty){t u:TypeId}{x hi:Operand}{i n sz:Nat}(m:Nat)(hg:o.guard=jp)(ho:o.op= .slice t x jp (io hi) jp){e D:cE}(y:ty t=io e)(F:e.k= .bc (.slice u))(hu:ty u=io D)
  {kc:IntKind} {B:Int} (G:ev s.f x= .sl i 0 n sz) (hh:ev s.f hi= .iv (.v (.int kc B))) (b:B=(m:Int)) (d:m<=n) (hn:0<n)
  {p:PV} (j:(m=0∧p= .sl i 1 0 sz)∨(0<m∧p= .sl i 0 m sz)) (hp:putDst nt o p s=io s') (h:GO P nt (.ops all rest::k) Q s'):GO P nt (.ops all (o::rest)::k) Q s:=
 dK hg (UR A ho y F hu G hh b d hn j hp) fun t y=>by subst y;exact h
theorem Cs(D:cD P ty){x y:Operand}{t u:TypeId}(hg:o.guard=jp)(ho:o.op= .call ⟨.builtin .append, #[x,y], #[t,t]⟩){e d:cE}(B:ty t=io e)(G:e.k= .bc (.slice u))(hu:ty u=io d)
  {i:Nat} {es news:List (List PV)} {F:PV} (I:ev s.f x= .sl i 1 0 d.size) (hi:s.h.get i=io (.row d.size es))
  (A:ev s.f y=F) (J:TJ s.h d.size F=io news) (b:news.length<=es.length) (hm:0<news.length) (j: ∀e∈news,jA e=kw)
  (hp:putDst nt o (.sl s.nx 0 news.length d.size) (uO s i d.size [] news)=io s') (h:GO P nt (.ops all rest::k) Q s'):GO P nt (.ops all (o::rest)::k) Q s:=
 dK hg (QY D ho B G hu I hi Z b hm A (GJ J) j hp) fun t B=>by subst B;exact h
end
section
variable {Q:AQ} {k:List KI} {all rest:List Oper} {o:Oper} {s':AS}
end
end
theorem fb.take{sz n:Nat}{es:List (List PV)}:fb (.row sz es) (.row sz (es.take n)):=by
 refine⟨fun h=>?_,fun M N U w i h=>?_⟩
 .cases es with
  |nil=>rw[List.take_nil]at h;exact h
  |cons=>rfl
 .rcases h with h|⟨d,c,T,u,x,y,A,B⟩
  .exact .inl (by rw[h,List.take_nil])
  .refine .inr ⟨d,c,T,u,x,Z1 (ZF _ (by rw[ZP];omega)) y,fun k e b=>?_,fun k e j p b D=>?_⟩
   .rw[Z6]at b;split at b
    .exact A k e b
    .cases b
   .rw[Z6]at b;split at b
    .exact B k e j p b D
    .cases b
theorem uz{P:Program}{nt:Nat}{Q:AQ}{k:List KI}{s:AS}{body:Code}{σ:Type}(i0 n:Nat)(j:i0<=n)(I:Nat->σ->AS)(J:Nat->σ->Prop)(u:σ)(y:List Nat)(D:J i0 u)(h0:Wk s.nx y s (I i0 u))
  (b: ∀i x,i<=n->J i x->GO P nt (.code body:: .lp (fun t=>i<n∧ ∃d L,J (i+1) d∧Wk s.nx L t (I (i+1) d))::k) Q (I i x)):GO P nt (.code (.loop body)::k) Q s:=by
 refine oC (σ:={p:Nat×σ//p.1<=n∧J p.1 p.2}) (fun p=>I p.1.1 p.1.2) (fun p=>n-p.1.1) ⟨(i0,u),j,D⟩ y h0 fun p=>?_;obtain⟨⟨i,x⟩,A,B⟩:=p;refine tp ?_ (b i x A B)
 rintro t ⟨h3,d,L,h4,h5⟩;exact⟨⟨(i+1,d),h3,h4⟩,L,by show n-(i+1)<n-i;omega,h5⟩
theorem SM{P:Program}{nt:Nat}{Q:AQ}{k:List KI}{s:AS}{all rest:List Oper}(d:Nat){p:PV}(j:aK (s.f.get d) p)(h:GO P nt (.ops all rest::k) Q ⟨(d,p)::s.f,s.h,s.nx⟩):GO P nt (.ops all rest::k) Q s:=by
 intro M N a w b;refine h M N a w ⟨b.1,fun e=>?_,b.2.2⟩;rw[AF.ax];split
 .rename_i u;subst u;exact j M N _ _ (b.2.1 e)
 .exact b.2.1 e
theorem Qj{P:Program}{ty:Ty}{nt:Nat}{Q:AQ}{k:List KI}{s:AS}(d:cD P ty){all rest:List Oper}{o:Oper}{t:TypeId}{x i:Operand}(p:PV)(ho:o.op= .lookup t x i lc)(hg:o.guard=jp)
  {kc:KC} {V:Type} {e:V->IV} {z:V} {j:Value} {m:List (kc.K×V)} (B:ev s.f x= .iv (.eI kc e z j m)) {q:PV} (y:yh ty t lc kc e z j m (ev s.f i)=io (q,True)) (A:q=p)
  {s':AS} (hp:putDst nt o p s=io s') (h:GO P nt (.ops all rest::k) Q s'):GO P nt (.ops all (o::rest)::k) Q s:=by
 have b:lx ty s o.op=io (p,True):=by
  rw[ho,<-A];simp only[lx,B];exact y
 exact dK hg (u9 d b ac hp) fun u hu=>by subst hu;exact h
section
variable {P:Program} {ty:Ty} {nt:Nat} {s:AS}
theorem Kg{o:Oper}{p:PV}{s':AS}(hp:putDst nt o p s=io s')(h: ∀M N a w,Fits M N s nt a w-> ∃x,(execOp a.eval o).run P w= .ok (.value x) w∧VR M N (· <s.nx) p x):
  (s'.h=s.h∧s'.nx=s.nx)∧ ∀M N a w,Fits M N s nt a w-> ∃x,(execOp a.eval o).run P w= .ok (.value x) w∧Fits M N s' nt (a.put o.dst x) w:=by
 cases hd:o.dst with
 |none=>
  have:=fM hp hd;subst this;exact⟨⟨rfl,rfl⟩,fun M N a w b=>let ⟨x,hx,_⟩:=h M N a w b;⟨x,hx,b⟩⟩
 |some d=>
  obtain⟨j,rfl⟩:=fL hp hd;exact⟨⟨rfl,rfl⟩,fun M N a w b=>let ⟨x,hx,hv⟩:=h M N a w b;⟨x,hx,b.put d p x j hv⟩⟩
theorem UD{Q:AQ}{k:List KI}{all:List Oper}{todo pend:List (Nat×Oper)}{o:Oper}{s':AS}{p:PV}(i:Nat)(hin:todo.find? (fun x=>Zz x.1 i)=io (i,o))(d:aS o=lc)(j:todo.all (fun x=>!waits o x.1)=kw)(hg:cJ nt all s.f o=io kw)(b:ze all pend o=kw)
  (hp:putDst nt o p s=io s') (u: ∀M N a w,Fits M N s nt a w-> ∃x,(execOp a.eval o).run P w= .ok (.value x) w∧VR M N (· <s.nx) p x)
  (h:GO P nt (.cX all (todo.filter fun x=>!Zz x.1 i) ((i,o)::pend)::k) Q s'):GO P nt (.cX all todo pend::k) Q s:=
 have g:=Kg hp u
 yx (abJ hin) d (fun x y=>by simpa using ZA.1 j x y) hg b g.1 g.2 h
end
section
variable {P:Program} {ty:Ty} {nt:Nat} {Q:AQ} {k:List KI} {s:AS}
theorem Fs(q0:cD P ty){o:Oper}{t:TypeId}{a x:Operand}(ho:o.op= .store t a x)(hd:o.dst=jp){i sz q:Nat}{e:cE}(he:ty t=io e)(x0:e.size=sz){es:List (List PV)}{xs:List PV}
  (ha:ev s.f a= .dH i sz q 0) (hi:s.h.get i=io (.row sz es)) (hq:q<es.length) (t0:(ev s.f x).cells=io xs) (e0:xs.length=sz) (b0:jA xs=kw):
  OT P nt o s (fun u=>u=⟨s.f,(i,io (.row sz (es.set q xs)))::s.h,s.nx⟩):=by
 have hp:putDst nt o .any ⟨s.f,(i,io (.row sz (es.set q xs)))::s.h,s.nx⟩=io ⟨s.f,(i,io (.row sz (es.set q xs)))::s.h,s.nx⟩:=by simp only[putDst,hd]
 refine OT.skip hp fun M N b w I=>?_;have hu:=a7 I.2.1 a;have hy:=a7 I.2.1 x;rw[ha]at hu;generalize r0:b.eval a=u at hu;generalize v0:b.eval x=y at hy
 have key: ∃w',(Instr.storeAt t u y).run P w= .ok () w'∧Ext M N (· <s.nx) s.h w M N (· <s.nx) ((i,io (.row sz (es.set q xs)))::s.h) w'∧Fits M N ⟨s.f,(i,io (.row sz (es.set q xs)))::s.h,s.nx⟩ nt b w':=by
  cases hu with
  |dH _ _ _ _ hU=>
   obtain⟨hl,hv⟩:=qT hy t0;have y0:y.cells.size=sz:=by omega
   rcases I.1.obj i _ hi with h0|⟨h0,c,T,g1,g2,g3,g4,g5⟩
   .rw[h0]at hq;simp at hq
   have a0:(q+1)*sz<=es.length*sz:=ZF _ hq;have w0:q*sz+sz<=c.size:=by rw[aa3]at a0;omega
   have B: ∀z∈y.cells.toList,z.oneCell'=kw:=by
    intro v s0;obtain⟨j,hj⟩:=Z7 s0;have j0:j<y.cells.toList.length:=(Zb.1 hj).1;have Y:xs[j]? =io (xs[j]'(by simp at j0;omega)):=Za _;have:=(hv j _ Y).one (oK b0 j _ Y);rw[Y7]at this;have g0:y.cells[j]? =io v:=by simpa using hj
    rw[g0]at this;exact this
   have d0:=run_storeCells_at P (N.aL i) (q*sz) T y.cells.toList 0 c w g1 (by simp;omega) B;refine⟨w.setRow (N.aL i) (c.toList.take (q*sz+0)++y.cells.toList++c.toList.drop (q*sz+0+y.cells.toList.length)).toArray,?_,?_⟩
   .have D:=bL (w:=w) (q0 t e he);have p0:y.cells.size=e.size:=by omega
    simp only[Instr.storeAt,Instr.sureAddr,pure_bind,storeVar,Sem.run_bind,D,Result.andThen_ok,p0,ne_eq,not_true_eq_false,if_false];exact d0
   .have c0:=setRow_heap w (N.aL i) c (c.toList.take (q*sz+0)++y.cells.toList++c.toList.drop (q*sz+0+y.cells.toList.length)).toArray T (0,0) g1;have n0: ∀b,b≠N.aL i->(w.setRow (N.aL i) (c.toList.take (q*sz+0)++y.cells.toList++c.toList.drop (q*sz+0+y.cells.toList.length)).toArray).heap[b]? =w.heap[b]? :=by
     intro b hb;simp only[World.setRow,Z2];rw[be (fun e=>hb e.symm)]
    have o0:(AO.row sz es).real=kw:=by cases es with
     |nil=>simp at hq
     |cons=>rfl
    have f0: ∀m,(c.toList.take (q*sz+0)++y.cells.toList++c.toList.drop (q*sz+0+y.cells.toList.length)).toArray.getD m undef=if q*sz<=m∧m<q*sz+sz then y.cells.getD (m-q*sz) undef else c.getD m undef:=by
     intro m;rw[Y7,Y7,Y7];have k0:y.cells.toList.length=sz:=by simp;omega
     split
     .rename_i hm;have e1:(c.toList.take (q*sz+0)++y.cells.toList++c.toList.drop (q*sz+0+y.cells.toList.length)).toArray[m]? =y.cells[m-q*sz]? :=by
       simp only[aar];rw[Zp (by simp;omega),Zv (by simp;omega)];simp only[ZP,Array.length_toList,aah];congr 1;omega
      rw[e1]
     .rename_i hm;have e1:(c.toList.take (q*sz+0)++y.cells.toList++c.toList.drop (q*sz+0+y.cells.toList.length)).toArray[m]? =c[m]? :=by
       simp only[aar];rcases aag m (q*sz) with k1|k1
       .rw[Zj,Zp (by simp;omega),Z6,am (by omega),aah]
       .rw[Zv (by simp;omega),aap,aah];congr 1;simp;omega
      rw[e1]
    have:=I.1.write hi o0 (w.setRow (N.aL i) (c.toList.take (q*sz+0)++y.cells.toList++c.toList.drop (q*sz+0+y.cells.toList.length)).toArray) (.row sz (es.set q xs)) Z Z Z (by simp) n0
     (.inr ⟨h0,_,T,c0,by simp;omega,by simp;omega,fun F S d=>?_,fun F S J p2 d G=>?_⟩)
    .exact⟨this.1,this.2,I.2.1,I.2.2⟩
    .rw[ZV]at d;split at d
     .cases d;exact e0
     .exact g4 F S d
    .rw[f0];rw[ZV]at d;split at d
     .rename_i A;subst A;cases d;have i0:J<sz:=by rw[<-e0];exact(Zb.1 G).1
      rw[am (by omega),show q*sz+J-q*sz=J by omega];exact hv J p2 G
     .rename_i A;have i0:J<sz:=by rw[<-g4 F S d];exact(Zb.1 G).1
      rw[be ?_]
      .exact g5 F S J p2 d G
      .intro⟨e1,S⟩;rcases Nat.lt_trichotomy q F with m0|heq|hgt
       .have:(q+1)*sz<=F*sz:=ZF _ m0;rw[aa3]at this;omega
       .exact A heq
       .have:(F+1)*sz<=q*sz:=ZF _ hgt;rw[aa3]at this;omega
 obtain⟨w',h1,d,G⟩:=key;refine⟨w',M,N,?_,d,G⟩;simp only[execOp,ho];simp[r0,v0,h1]
theorem kJ(j:cD P ty){all rest:List Oper}{o:Oper}{t:TypeId}{a x:Operand}(ho:o.op= .store t a x)(hd:o.dst=jp)(hg:o.guard=jp){i sz q:Nat}{e:cE}(he:ty t=io e)(d:e.size=sz){es:List (List PV)}{xs:List PV}
  (ha:ev s.f a= .dH i sz q 0) (hi:s.h.get i=io (.row sz es)) (B:q<es.length) (A:(ev s.f x).cells=io xs) (y:xs.length=sz) (b:jA xs=kw)
  {s':AS} (hs:(⟨s.f,(i,io (.row sz (es.set q xs)))::s.h,s.nx⟩:AS)=s') (h:GO P nt (.ops all rest::k) Q s'):GO P nt (.ops all (o::rest)::k) Q s:=
 dK hg (Fs j ho hd he d ha hi B A y b) fun u hu=>by subst hu;subst hs;exact h
end
theorem qA{P:Program}{nt:Nat}{Q:AQ}{k:List KI}{s:AS}{c:Code}(i:Nat){sz:Nat}{es:List (List PV)}(el:Nat->List IV)(hi:s.h.get i=io (.row sz es))(a0: ∀k e,es[k]? =io e->e=(el k).map .iv)
  (hf:s.f.rR i sz es.length) (hh:s.h.vn i sz es.length) (h:GO P nt (.code c::k) Q ⟨s.f.lU i sz el,(i,jp)::s.h.im i sz el,s.nx⟩):GO P nt (.code c::k) Q s:=by
 intro M N a w b;obtain⟨M',y,A,h4⟩:=xi b.1 hi a0;have F: ∀j o,AH.get ((i,jp)::s.h.im i sz el) j=io o-> ∃p,AH.get ((i,jp)::s.h) j=io p∧s.h.get j=io p∧o=p.im i sz el:=by
  intro j o u;obtain⟨g1,g2⟩:=bD j o u;rw[AH.kK,Zi]at g2;obtain⟨p,g3,g4⟩:=g2;exact⟨p,by rw[AH.ax,be g1];exact g3,g3,g4.symm⟩
 have hE:Ext M N (· <s.nx) s.h w M' N (· <s.nx) ((i,jp)::s.h.im i sz el) w:=⟨y.os,y.tape,y.output,y.size,y.iT,y.sb,y.kr,y.nm,y.ule,fun j o u x=>by
  obtain⟨p,g1,_,rfl⟩:=F j o u;rw[AO.mP]at x
  exact y.jt j p g1 x⟩
 have hR:Rel M' N (· <s.nx) ((i,jp)::s.h.im i sz el) w:=by
  refine⟨A.eW,fun j o u=>?_,fun j o u x=>?_,fun j o u=>?_,fun j k o p u hk ho I=>?_⟩
  .obtain⟨p,g1,_,rfl⟩:=F j o u;exact A.used j p g1
  .obtain⟨p,g1,_,rfl⟩:=F j o u;rw[AO.mP]at x;exact A.fo j p g1 x
  .obtain⟨p,g1,g2,rfl⟩:=F j o u;cases p with
   |cells cs T0=>
    obtain⟨c,T,q1,q2,q3,q4,q5⟩:=b.1.obj j _ g2;have D:=AH.ou hh j _ g2;refine⟨c,T,q1,q2,by simpa[gf]using q3,fun k q hq=>?_,q5⟩;rw[gf,Zg,Zi]at hq;obtain⟨q0,S,rfl⟩:=hq;exact h4 _ _ (q4 k q0 S) (il D k q0 S)
   |row s2 es2=>
    have D:=AH.ou hh j _ g2;rcases b.1.obj j _ g2 with rfl|⟨q0,c,T,q1,q2,q3,q4,q5⟩
    .exact .inl Z
    .refine .inr ⟨q0,c,T,q1,q2,by simpa using q3,fun k e G=>?_,fun k e j2 p G I=>?_⟩
     .rw[Zg,Zi]at G;obtain⟨Y,B,rfl⟩:=G;rw[gf,ZE];exact q4 k Y B
     .rw[Zg,Zi]at G;obtain⟨Y,B,rfl⟩:=G;rw[gf,Zg,Zi]at I;obtain⟨p0,J,rfl⟩:=I;exact h4 _ _ (q5 k Y j2 p0 B J) (il (D Y (ZC B)) j2 p0 J)
   |bS=>exact A.obj j _ g1
   |gP=>exact A.obj j _ g1
   |map=>exact A.obj j _ g1
   |cF=>exact A.obj j _ g1
   |eS=>exact A.obj j _ g1
  .obtain⟨o',g1,_,rfl⟩:=F j o u;obtain⟨p',g2,_,rfl⟩:=F k p hk;rw[AO.mP]at ho I;exact A.inj j k o' p' g1 g2 ho I
 have b0:Fits M' N ⟨s.f.lU i sz el,(i,jp)::s.h.im i sz el,s.nx⟩ nt a w:=⟨hR,fun d=>by
  rw[AF.mO];exact h4 _ _ (b.2.1 d) (AF.oV hf d),b.2.2⟩
 exact AW.then h b0 fun e a2 w2 M2 N2 s2 f0 c0 d0=>⟨M2,N2,s2,hE.trans f0,c0,d0⟩
def Vf{σ:Type}(P:Program)(nt:Nat)(k:List KI)(Q:AQ)(n0:Nat)(t:σ->AS):AQ:=fun e u=>(e= .normal∧ ∃i L,Wk n0 L u (t i))∨(e≠ .normal∧kp P nt k Q e u)
theorem go_cut{P:Program}{nt:Nat}{Q:AQ}{k:List KI}{s:AS}{c:Code}{σ:Type}(n:Nat)(t:σ->AS)(y:c=Kt (tV n c) (pn n c))
  (h1:GO P nt ((tV n c).map KI.code) (Vf P nt k Q s.nx t) s) (h2: ∀i,GO P nt (.code (pn n c)::k) Q (t i)):GO P nt (.code c::k) Q s:=by
 intro M N a w hf;rw[y];have key: ∀(l:List Code) (u:AS) B F I A,Ext M N (· <s.nx) s.h w B F (· <u.nx) u.h A->Fits B F u nt I A->
   kp P nt (l.map KI.code) (Vf P nt k Q s.nx t) .normal u->(Kt l (pn n c)).wp P (pN nt M N s w (kp P nt k Q)) I A:=by
  intro l
  induction l with
  |nil=>
   intro u B F I A J x hk;rcases hk with⟨_,i,L,hw⟩|⟨Y,_⟩
   .exact AW.then (h2 i) (hw.fits x) fun e a2 w2 D G S j b d=>⟨D,G,S,(hw.ext J).trans j,b,d⟩
   .exact absurd Z Y
  |cons c l ih=>
   intro u B F I A J x hk;refine wp_seq (AW.then hk x fun e a2 w2 D G S j b d=>?_);cases e with
   |normal=>exact ih S D G a2 w2 (J.trans j) b d
   |_=>
    rcases B9 (l:=l) (by simp) d with⟨Y,_⟩|⟨_,hq⟩
    .cases Y
    .exact⟨D,G,S,J.trans j,b,hq⟩
 exact key _ s M N a w (.refl _ _ _ _ _) hf h1
theorem gB{P:Program}{nt:Nat}{k:List KI}{Q:AQ}{n0:Nat}{σ:Type}{t:σ->AS}{u:AS}(i:σ)(L:List Nat)(h:Wk n0 L u (t i)):Vf P nt k Q n0 t .normal u:= .inl ⟨rfl,i,L,h⟩
section
variable {P:Program} {ty:Ty} {nt:Nat} {Q:AQ} {k:List KI} {s:AS}
theorem bB(d:cD P ty){all rest:List Oper}{o:Oper}{t:TypeId}{a:Operand}(ho:o.op= .load t a)(hg:o.guard=jp){e:cE}(he:ty t=io e){i sz q off:Nat}{es:List (List PV)}{row:List PV}{v:PV}
  (ha:ev s.f a= .dH i sz q off) (hi:s.h.get i=io (.row sz es)) (j:es[q]? =io row) (hr:jr e (row.drop off)=io v)
  {s':AS} (hp:putDst nt o v s=io s') (h:GO P nt (.ops all rest::k) Q s'):GO P nt (.ops all (o::rest)::k) Q s:=by
 have hb:behind s.h (.dH i sz q off)=io (row.drop off):=by
  simp only[behind,hi,j,Nat.beq_refl]
 have b:lx ty s o.op=io (v,True):=by
  rw[ho];simp only[lx,he,ha,hb,hr]
 exact dK hg (u9 d b ac hp) fun u hu=>by subst hu;exact h
theorem jj{α:Type}[Inhabited α]{l:List α}{f:α->List IV}{i:Nat}(h:i<l.length):(l.map fun x=>(f x).map PV.iv)[0+i]? =io ((f (l.getD i em)).map .iv):=by
 rw[Zu,Zg,Za h,Y6,Za h];rfl
end
def Nm.one(b e:Nat):Nm:=⟨fun _=>b,fun _=>e⟩
inductive SB:Type 1 where
 |obj (o:AO) (e:Nat)
 |out (i e:Nat)
abbrev bf:=Nat->Option SB
def bf.nil:bf:=fun _=>jp
def bf.put(X:bf)(b:Nat)(x:SB):bf:=fun c=>if c=b then io x else X c
def bf.still(X:bf):Prop:= ∀b i e,X b≠io (.out i e)
theorem bf.dz(X:bf)(b:Nat)(x:SB):X.put b x b=io x:=by simp[bf.put]
theorem bf.lA(X:bf){b c:Nat}(x:SB)(h:c≠b):X.put b x c=X c:=by simp[bf.put,h]
theorem bf.G9(X:bf)(b:Nat)(x y:SB):(X.put b x).put b y=X.put b y:=by
 funext c;simp only[bf.put];split<;>rfl
structure dV (M:Mem) (N:Nm) (n:Nat) (h:AH) (X:bf) (w:World):Prop where
 real: ∀b o e,X b=io (.obj o e)->o.real=kw
 obj: ∀b o e,X b=io (.obj o e)->OR M (Nm.one b e) (fun _=>False) w 0 o
 eW: ∀b o e,X b=io (.obj o e)->M b=jp
 apart: ∀b o e,X b=io (.obj o e)-> ∀i p,h.get i=io p->p.real=kw->N.aL i≠b
 out: ∀b i e,X b=io (.out i e)->i<n∧N.aL i=b∧N.ext i=e
def AO.all(G:PV->Prop):AO->Prop
 | .cells cs _=> ∀p∈cs,G p
 | .row _ es=> ∀e∈es,∀p∈e,G p
 |_=>True
theorem AO.all_true(o:AO):o.all fun _=>True:=by cases o<;>simp[AO.all]
theorem OR.move{M J:Mem}{N B:Nm}{U U':Nat->Prop}{w I:World}{i F:Nat}{o:AO}{G:PV->Prop}(hM:M.le J)(hG:o.all G)(hV: ∀p x,G p->VR M N U p x->VR J B U' p x)
  (hb:B.aL F=N.aL i) (he:B.ext F=N.ext i) (hw:I.heap[N.aL i]? =w.heap[N.aL i]?) (h:OR M N U w i o):OR J B U' I F o:=by
 cases o with
 |cells cs T0=>
  obtain⟨c,T,d,u,y,A,Y⟩:=h;exact⟨c,T,by rw[hb,hw,d],by rw[he,u],y,fun j p D=>hV _ _ (hG p (ZC D)) (A j p D),Y⟩
 |row sz es=>
  rcases h with h|⟨h0,c,T,d,u,y,A,Y⟩
  .exact .inl h
  exact .inr ⟨h0,c,T,by rw[hb,hw,d],by rw[he,u],y,A,fun k e j p hk D=>hV _ _ (hG e (ZC hk) p (ZC D)) (Y k e j p hk D)⟩
 |bS l T=>
  rcases h with h|⟨c,d,u,y,A⟩
  .exact .inl h
  exact .inr ⟨c,by rw[hb,hw,d],by rw[he,u],y,A⟩
 |gP=>show I.heap[B.aL F]? =_;rw[hb,hw];exact h
 |map kc ev z zv dv m=>
  obtain⟨e,S,d,u,y⟩:=h;exact⟨e,S,by rw[hb,hw,d],u.mono hM,y.mono hM⟩
 |cF kc ev m l cu=>
  rcases h with⟨d,u,y,A⟩|⟨b,e,S,se,d,u,y,A⟩
  .exact .inl ⟨d,u,y,by rw[hb,hw,A]⟩
  .exact .inr ⟨b,e,S,se,by rw[hb,hw,d],hM _ _ u,y.mono hM,A⟩
 |eS s p=>show I.heap[B.aL F]? =_;rw[hb,hw];exact h
theorem VR.Hd{M b:Mem}{N d:Nm}{j:Nat->Prop}(hM:M.le b){p:PV}{x:Value}(h:VR M N (fun _=>False) p x):VR b d j p x:=
 h.mono hM ⟨fun _ h=>h.elim,fun _ h=>h.elim⟩ (fun _ h=>h.elim)
def PV.flat:PV->Prop
 | .iv _=>True
 | .kb _=>True
 | .any=>True
 |_=>False
theorem VR.OV{M:Mem}{N d:Nm}{U j:Nat->Prop}{p:PV}{x:Value}(hp:p.flat)(h:VR M N U p x):VR M d j p x:=by
 cases h with
 |iv x y h=>exact .iv _ _ h
 |kb b=>exact .kb _
 |any x=>exact .any _
 |_=>exact hp.elim
def Xl(N:Nm)(h:AH)(X:bf)(b:Nat):Prop:=(∃i o,h.get i=io o∧o.real=kw∧N.aL i=b)∨ ∃o e,X b=io (.obj o e)
structure iW (M:Mem) (N:Nm) (n:Nat) (h:AH) (X:bf) (w:World) (M':Mem) (N':Nm) (n':Nat) (h':AH) (X':bf) (w':World):Prop where
 os:w'.os=w.os
 tape:w'.tape=w.tape
 output:w'.output=w.output
 size:w.heap.size<=w'.heap.size
 iT: ∀b,b<w.heap.size-> ¬Xl N h X b->w'.heap[b]? =w.heap[b]?
 sb:M.le M'
 kr: ∀b c,M b=jp->M' b=io c->w.heap.size<=b∨Xl N h X b
 nm:N.agree N' (· <n)
 ule:n<=n'
 jt: ∀b,Xl N' h' X' b->w.heap.size<=b∨Xl N h X b
theorem iW.refl(M:Mem)(N:Nm)(n:Nat)(h:AH)(X:bf)(w:World):iW M N n h X w M N n h X w:=
 ⟨rfl,rfl,rfl,Zc _,fun _ _ _=>rfl,.refl _,fun b c d j=>by simp[d]at j,.refl _ _,Zc _,fun _ h=> .inr h⟩
theorem iW.trans{M u x:Mem}{N y A:Nm}{n n1 n2:Nat}{h h1 h2:AH}{X B D:bf}{w G I:World}
  (a:iW M N n h X w u y n1 h1 B G) (b:iW u y n1 h1 B G x A n2 h2 D I):iW M N n h X w x A n2 h2 D I where
 os:=b.os.trans a.os
 tape:=b.tape.trans a.tape
 output:=b.output.trans a.output
 size:=Z1 a.size b.size
 iT:=fun k j F=>by
  rw[b.iT k (aa9 j a.size) (fun S=>?_),a.iT k j F];rcases a.jt k S with h3|h3
  .omega
  .exact F h3
 sb:=a.sb.trans b.sb
 kr:=fun k c h3 J=>by
  cases h5:u k with
  |some c'=>exact a.kr k c' h3 h5
  |none=>
   rcases b.kr k c h5 J with h6|h6
   .exact .inl (Z1 a.size h6)
   .exact a.jt k h6
 nm:=⟨fun i d=>(b.nm.aL i (aa9 d a.ule)).trans (a.nm.aL i d),fun i d=>(b.nm.ext i (aa9 d a.ule)).trans (a.nm.ext i d)⟩
 ule:=Z1 a.ule b.ule
 jt:=fun k j=>by
  rcases b.jt k j with h3|h3
  .exact .inl (Z1 a.size h3)
  .exact a.jt k h3
theorem iW.frame{M S:Mem}{N Y:Nm}{n J:Nat}{h h':AH}{X:bf}{w w':World}(x:Ext M N (· <n) h w S Y (· <J) h' w')(hs:dV M N n h X w):
  iW M N n h X w S Y J h' X w'∧dV S Y J h' X w':=by
 have D: ∀b o e,X b=io (.obj o e)->b<w.heap.size:=fun b o e hb=>(hs.obj b o e hb).lt (hs.real b o e hb);have A:n<=J:=aba fun hh=>absurd (x.ule J hh) (ab5 _);refine⟨⟨x.os,x.tape,x.output,x.size,fun b hb hn=>x.iT b hb fun i o hi F he=>hn (.inl ⟨i,o,hi,F,he⟩),x.sb,fun b c I h2=>?_,x.nm,A,fun b hb=>?_⟩,hs.real,fun b o e hb=>?_,fun b o e hb=>?_,fun b o e hb i p hi F a0=>?_,fun b i e hb=>?_⟩
 .rcases x.kr b c I h2 with d|⟨i,o,d,B,u⟩
  .exact .inl d
  .exact .inr (.inl ⟨i,o,d,B,u⟩)
 .rcases hb with⟨i,o,d,B,u⟩|hb
  .rcases x.jt i o d B with h6|⟨j,p,h6,h7,h8⟩
   .exact .inl (u▸h6)
   .exact .inr (.inl ⟨j,p,h6,h7,h8.trans u⟩)
  .exact .inr (.inr hb)
 .refine OR.move (G:=fun _=>True) x.sb (AO.all_true o) (fun p y _ hv=>hv.Hd x.sb) Z Z ?_ (hs.obj b o e hb);exact x.iT b (D b o e hb) (hs.apart b o e hb)
 .cases hM:S b with
  |none=>rfl
  |some c=>
   rcases x.kr b c (hs.eW b o e hb) hM with d|⟨i,p,d,B,u⟩
   .have:=D b o e hb;omega
   .exact absurd u (hs.apart b o e hb i p d B)
 .rcases x.jt i p hi F with d|⟨j,q,d,B,u⟩
  .have:=D b o e hb;omega
  .exact hs.apart b o e hb j q d B (u.trans a0)
 .obtain⟨I,h2,d⟩:=hs.out b i e hb;exact⟨aa9 I A,(x.nm.aL i I).trans h2,(x.nm.ext i I).trans d⟩
theorem iW.TD{M B:Mem}{N D:Nm}{n G:Nat}{h F:AH}{J:bf}{w I:World}(x:iW M N n h bf.nil w B D G F J I):Ext M N (· <n) h w B D (· <G) F I:=by
 have d: ∀b,Xl N h bf.nil b-> ∃i o,h.get i=io o∧o.real=kw∧N.aL i=b:=fun b hb=>by
  rcases hb with hb|⟨o,e,hb⟩
  .exact hb
  .cases hb
 refine⟨x.os,x.tape,x.output,x.size,fun b hb Y=>x.iT b hb fun ho=>?_,x.sb,fun b c j u=>?_,x.nm,fun i y=>aa9 y x.ule,fun i o y A=>?_⟩
 .obtain⟨i,o,j,u,S⟩:=d b ho;exact Y i o j u S
 .exact(x.kr b c j u).imp id (d b)
 .exact(x.jt _ (.inl ⟨i,o,y,A,rfl⟩)).imp id (d _)
theorem dV.nil(M:Mem)(N:Nm)(n:Nat)(h:AH)(w:World):dV M N n h bf.nil w:=⟨nofun,nofun,nofun,nofun,nofun⟩
abbrev XQ:=Exit->AS->bf->Prop
def pM(nt:Nat)(M:Mem)(N:Nm)(s:AS)(X:bf)(w:World)(R:XQ):Exit->Act->World->Prop:=fun e x u=>
 ∃b d s' j,iW M N s.nx s.h X w b d s'.nx s'.h j u∧Fits b d s' nt x u∧dV b d s'.nx s'.h j u∧R e s' j
theorem pM.later{nt:Nat}{M b:Mem}{N d:Nm}{s s':AS}{X j:bf}{w u:World}{R:XQ}{e:Exit}{a:Act}{y:World}
  (x:iW M N s.nx s.h X w b d s'.nx s'.h j u) (h:pM nt b d s' j u R e a y):pM nt M N s X w R e a y:=by
 obtain⟨A,B,I,D,F,G⟩:=h;exact⟨A,B,I,D,x.trans F,G⟩
theorem pM.now{nt:Nat}{M:Mem}{N:Nm}{s:AS}{X:bf}{w:World}{R:XQ}{e:Exit}{a:Act}(hf:Fits M N s nt a w)(hs:dV M N s.nx s.h X w)(h:R e s X):pM nt M N s X w R e a w:=
 ⟨M,N,s,X,.refl _ _ _ _ _ _,hf,hs,h⟩
def AX(P:Program)(nt:Nat)(c:Code)(R:XQ)(s:AS)(X:bf):Prop:= ∀M N a w,Fits M N s nt a w->dV M N s.nx s.h X w->c.wp P (pM nt M N s X w R) a w
def ALX(P:Program)(nt:Nat)(all rest:List Oper)(R:XQ)(s:AS)(X:bf):Prop:= ∀M N a w,Fits M N s nt a w->dV M N s.nx s.h X w->wpList P all.toArray (pM nt M N s X w R) rest a w
def SLX(P:Program)(nt:Nat)(all rest:List Oper)(R:XQ)(s:AS)(X:bf):Prop:= ∀M N a w,Fits M N s nt a w->dV M N s.nx s.h X w->
 wpStill P all.toArray w (fun b=>pM nt M N s X w R .normal b w) rest a
inductive XI where
 |wJ (all rest:List Oper)
 |code (c:Code)
 |aL (id:Nat)
 |ops (all rest:List Oper)
 |lp (R:AS->bf->Prop)
 |JK
def kx(P:Program)(nt:Nat):List XI->XQ->XQ
 | [],Q=>Q
 | .code c::k,Q=>fun e s X=>match e with| .normal=>AX P nt c (kx P nt k Q) s X|e=>kx P nt k Q e s X
 | .ops all rest::k,Q=>fun e s X=>match e with| .normal=>ALX P nt all rest (kx P nt k Q) s X|e=>kx P nt k Q e s X
 | .wJ all rest::k,Q=>fun e s X=>match e with| .normal=>SLX P nt all rest (kx P nt k Q) s X|e=>kx P nt k Q e s X
 | .lp R::k,Q=>fun e s X=>match e with| .normal=>R s X|e=>kx P nt k Q e s X
 | .aL id::k,Q=>fun e s X=>match e with| .exit j=>if j=id then kx P nt k Q .normal s X else kx P nt k Q (.exit j) s X|e=>kx P nt k Q e s X
 | .JK::k,Q=>fun e s X=>match e with| .goto _=>False|e=>kx P nt k Q e s X
def GX(P:Program)(nt:Nat)(k:List XI)(Q:XQ)(s:AS)(X:bf):Prop:=kx P nt k Q .normal s X
section
variable {P:Program} {nt:Nat} {Q:XQ} {k:List XI} {s:AS} {X:bf}
theorem AX.then{c:Code}{R:XQ}(h:AX P nt c R s X){M:Mem}{N:Nm}{a:Act}{w:World}(hf:Fits M N s nt a w)(hs:dV M N s.nx s.h X w){Z:Exit->Act->World->Prop}
  (y: ∀e x b d j s' u,iW M N s.nx s.h X w d j s'.nx s'.h u b->Fits d j s' nt x b->dV d j s'.nx s'.h u b->R e s' u->Z e x b):c.wp P Z a w:=
 wp_mono (h M N a w hf hs) fun e x b ⟨d,j,s',u,h1,h2,h3,h4⟩=>y e x b d j s' u h1 h2 h3 h4
theorem Hx{d:AQ}{k0:List KI}{c:Code}(h:GX P nt [.code c] (fun e t _=>kp P nt k0 d e t) s bf.nil):GO P nt (.code c::k0) d s:=by
 intro M N a w x;exact AX.then h x (.nil ..) fun e D F j u s' B A b _ y=>⟨j,u,s',A.TD,b,y⟩
theorem bZ{c:Code}(h:GO P nt [.code c] (fun e u=>kx P nt k Q e u X) s):GX P nt (.code c::k) Q s X:=by
 intro M N a w A D;refine AW.then h A fun e G I d j s' F b B=>?_;obtain⟨x,y⟩:=iW.frame F D;exact⟨d,j,s',X,x,b,y,B⟩
theorem aJ{x y:Code}(h:GX P nt (.code x:: .code y::k) Q s X):GX P nt (.code (.seq x y)::k) Q s X:=by
 intro M N a w hf hs;refine wp_seq (AX.then h hf hs fun e a' w' G J s' Y F b d D=>?_);cases e with
 |normal=>exact AX.then D b d fun e a2 w2 I S s2 X2 B j A u=>⟨I,S,s2,X2,F.trans B,j,A,u⟩
 |_=>exact⟨G,J,s',Y,F,b,d,D⟩
theorem dQ(h:GX P nt k Q s X):GX P nt (.code .skip::k) Q s X:=fun _ _ _ _ b d=>wp_skip (.now b d h)
theorem gJ{id:Nat}(h:kx P nt k Q (.exit id) s X):GX P nt (.code (.exit id)::k) Q s X:=fun _ _ _ _ b d=>wp_exit (.now b d h)
theorem jx{id:Nat}(h:GX P nt k Q s X):GX P nt (.aL id::k) Q s X:=h
theorem bR{id:Nat}{x:Code}(h:GX P nt (.code x:: .aL id::k) Q s X):GX P nt (.code (.block id x)::k) Q s X:=by
 intro M N a w G I;refine wp_block (AX.then h G I fun e J S y A s' B F b d u=>?_);cases e with
 |exit j=>
  simp only[kx]at u;simp only[Exit.inBlock];split
  .rename_i D;rw[am D]at u;exact⟨y,A,s',B,F,b,d,u⟩
  .rename_i D;rw[be D]at u;exact⟨y,A,s',B,F,b,d,u⟩
 |_=>exact⟨y,A,s',B,F,b,d,u⟩
theorem iL{id:Nat}{ops:Array Oper}(h:GX P nt (.ops ops.toList ops.toList::k) Q s X):GX P nt (.code (.region id ops lc)::k) Q s X:=by
 intro M N a w b d;refine wp_region_list ?_;have:=h M N a w b d;simpa using this
theorem fg{all:List Oper}(h:GX P nt k Q s X):GX P nt (.ops all []::k) Q s X:=fun _ _ _ _ b d=>wpList_nil (pM.now b d h)
theorem F6{c:Operand}{x y:Code}{t:Bool}(hc:ev s.f c= .kb t)(h:GX P nt (.code (bif t then x else y)::k) Q s X):GX P nt (.code (.cond c x y)::k) Q s X:=by
 intro M N a w b d;have hb:a.eval c= .bool t:=by
  have:=a7 b.2.1 c;rw[hc]at this;generalize a.eval c=v at this;cases this;rfl
 refine wp_cond hb ?_;cases t
 .exact h M N a w b d
 .exact h M N a w b d
theorem dD{c:Operand}{x y:Code}{t:Bool}(hc:ev s.f c= .iv (.v (.bool t)))(h1:t=kw->GX P nt (.code x::k) Q s X)(h2:t=lc->GX P nt (.code y::k) Q s X):
  GX P nt (.code (.cond c x y)::k) Q s X:=by
 intro M N a w b j;refine wp_cond_split (b.bool hc) (fun d=>?_) (fun d=>?_)
 .exact h1 d M N a w b j
 .exact h2 d M N a w b j
theorem B2{o:Oper}{a:Act}{w:World}{K K':Act->World->Prop}{Q d:Exit->Act->World->Prop}(h: ∀a w,K a w->K' a w)(j: ∀e a w,e≠ .normal->Q e a w->d e a w)(hh:o.wp P a w K Q):o.wp P a w K' d:=by
 have u:LetsOut Q->LetsOut d:=fun⟨a,w,x⟩=>⟨a,w,j _ _ _ (by simp) x⟩
 unfold Oper.wp at*
 generalize(execOp a.eval o).run P w=r at*
 cases r with
 |ok n w'=>
  cases n<;>simp only[Oper.upon]at hh ⊢ <;>
   first
    |exact h _ _ hh
    |exact Calls.mono hh (fun e y b=>by cases e<;>first|exact h _ _ b|exact u b|exact j _ _ _ (by simp) b)
    |exact Rows.mono hh (fun _ _ b=>h _ _ b)
 |halt x w'=>cases x<;>simp only[Oper.upon]at hh ⊢ <;>exact j _ _ _ (by simp) hh
theorem sF{ops:Array Oper}{j u:Exit->Act->World->Prop}(d:List Oper)(h2: ∀a w,j .normal a w->wpList P ops u d a w)(b: ∀e a w,e≠ .normal->j e a w->u e a w): ∀(l:List Oper) (a:Act) (w:World),wpList P ops j l a w->wpList P ops u (l++d) a w
 | [],a,w,h=>h2 _ _ h
 |o::r,a,w,h=>by
  rw[aaJ];rw[wpList]at h ⊢;split
  .rename_i x;rw[am x]at h;exact h.imp (B2 (sF d h2 b r) b) (fun⟨h3,a1,w1,h4⟩=>⟨h3,a1,w1,b _ _ _ (by simp) h4⟩)
  .rename_i x;rw[be x]at h;exact sF d h2 b r _ _ h
theorem Jg{all I d:List Oper}(h:GO P nt [.ops all I] (fun e u=>kx P nt (.ops all d::k) Q e u X) s):GX P nt (.ops all (I++d)::k) Q s X:=by
 intro M N a w hf S;refine sF d (fun y J D=>?_) (fun e y J Y D=>?_) I a w (h M N a w hf)
 .obtain⟨j,x,s',G,b,F⟩:=D;obtain⟨A,B⟩:=iW.frame G S;have:=F j x y J b B;exact gT (fun _ _ _=>pM.later A) d y J this
 .obtain⟨j,x,s',G,b,F⟩:=D;obtain⟨A,B⟩:=iW.frame G S;refine⟨j,x,s',X,A,b,B,?_⟩;cases e with
  |normal=>exact absurd Z Y
  |_=>exact F
theorem dV.drew{M:Mem}{N:Nm}{n:Nat}{h:AH}{X:bf}{w:World}(hs:dV M N n h X w):dV M N n h X {w with drawn:=w.drawn+1}:=
 ⟨hs.real,fun b o e hb=>OR.move (G:=fun _=>True) (.refl _) (AO.all_true o) (fun _ _ _ d=>d) Z Z Z (hs.obj b o e hb),hs.eW,hs.apart,hs.out⟩
theorem iW.drew{M:Mem}{N:Nm}{n:Nat}{h:AH}{X:bf}{w:World}:iW M N n h X w M N n h X {w with drawn:=w.drawn+1}:=
 ⟨rfl,rfl,rfl,Zc _,fun _ _ _=>rfl,.refl _,fun b c d j=>by simp[d]at j,.refl _ _,Zc _,fun _ h=> .inr h⟩
theorem bC{all rest:List Oper}(m:Nat)(h:GO P nt [.ops all (rest.take m)] (fun e u=>kx P nt (.ops all (rest.drop m)::k) Q e u X) s):GX P nt (.ops all rest::k) Q s X:=by
 have:=Jg h;rwa[abm]at this
def SX(nt:Nat)(s:AS)(X:bf)(T:AS->bf->Prop):Prop:= ∀M N a w,Fits M N s nt a w->dV M N s.nx s.h X w->
 ∃b d t Y,iW M N s.nx s.h X w b d t.nx t.h Y w∧Fits b d t nt a w∧dV b d t.nx t.h Y w∧T t Y
theorem Eo{c:Code}{T:AS->bf->Prop}(h:SX nt s X T)(J: ∀t Y,T t Y->GX P nt (.code c::k) Q t Y):GX P nt (.code c::k) Q s X:=by
 intro M N a w I S;obtain⟨M',N',t,Y,B,D,F,G⟩:=h M N a w I S;exact AX.then (J t Y G) D F fun e a2 w2 x y s2 A u b j d=>⟨x,y,s2,A,B.trans u,b,j,d⟩
theorem eJ{all rest:List Oper}{T:AS->bf->Prop}(h:SX nt s X T)(B: ∀t Y,T t Y->GX P nt (.ops all rest::k) Q t Y):GX P nt (.ops all rest::k) Q s X:=by
 intro M N a w A D;obtain⟨b,d,t,Y,j,u,x,y⟩:=h M N a w A D;exact gT (fun _ _ _=>pM.later j) rest a w (B t Y y b d a w u x)
theorem Sr{L:List Nat}{t:AS}(hw:Wk s.nx L s t):SX nt s X (fun x Y=>x=t∧Y=X):=by
 intro M N a w j u;obtain⟨b,d⟩:=iW.frame (hw.ext (.refl M N (· <s.nx) s.h w)) u;exact⟨M,_,t,X,b,hw.fits j,d,rfl,rfl⟩
theorem WB{body:Code}{σ:Type 1}(I:σ->AS)(J:σ->bf)(μ:σ->Nat)(i0:σ)(L0:List Nat)(h0:Wk s.nx L0 s (I i0))(y:J i0=X)(j0: ∀i,(J i).still)
  (A: ∀i,GX P nt (.code body:: .lp (fun t Y=> ∃j L,μ j<μ i∧Wk s.nx L t (I j)∧Y=J j)::k) Q (I i) (J i)):GX P nt (.code (.loop body)::k) Q s X:=by
 intro G S a0 w0 d0 g0
 let K:Act->World->Nat->Prop:=fun a w n=> ∃i M N,μ i=n∧iW G S s.nx s.h X w0 M N (I i).nx (I i).h (J i) w∧Fits M N (I i) nt a w∧dV M N (I i).nx (I i).h (J i) w
 have c0:K a0 w0 (μ i0):=by
  obtain⟨h1,h2⟩:=iW.frame (h0.ext (.refl G S (· <s.nx) s.h w0)) g0;exact⟨i0,G,S.comp (sg s.nx L0),rfl,by rw[y];exact h1,h0.fits d0,by rw[y];exact h2⟩
 refine wp_loop (fun a w=> ∃n,K a w n) (fun a w=>by classical exact if h: ∃n,K a w n then abE (dG h) else 0) ⟨_,c0⟩ fun a w b0=>?_;obtain⟨⟨i,M,N,x,hx,hf,hs⟩,e0⟩:=aa8 (dG b0);refine AX.then (A i) hf hs fun e a' w' M' N' s' X' D B u hr=>?_
 cases e with
 |normal=>
  obtain⟨j,L,hj,F,hY⟩:=hr
  have y:K a' w' (μ j):=⟨j,M',N'.comp (sg s.nx L),rfl,by
   have d:=hx.trans D;rw[hY]at d u;refine⟨d.os,d.tape,d.output,d.size,d.iT,d.sb,d.kr,⟨fun i x=>?_,fun i x=>?_⟩,by have:=F.nx;omega,fun b hb=>d.jt b ?_⟩
   .simp only[Nm.comp,gE x];exact d.nm.aL i x
   .simp only[Nm.comp,gE x];exact d.nm.ext i x
   .rcases hb with⟨i,o,h3,h4,h5⟩|hb
    .obtain⟨⟨o',g1,g2⟩,_⟩:=kL F.h i o h3;exact .inl ⟨_,o',g1,g2.real ((AO.cW _ o).trans h4),h5⟩
    .exact .inr hb,F.fits B,by
   rw[hY]at u;refine⟨u.real,u.obj,u.eW,fun b o e hb i p x f0=>?_,fun b i e hb=>?_⟩
   .obtain⟨⟨o',g1,g2⟩,_⟩:=kL F.h i p x;exact u.apart b o e hb _ o' g1 (g2.real ((AO.cW _ p).trans f0))
   .exact absurd hb (j0 j b i e)⟩
  refine⟨⟨_,y⟩,?_⟩;simp only[dif_pos b0,dif_pos (⟨_,y⟩: ∃n,K a' w' n)];rw[<-x];exact acq ((aa8 (dG (⟨_,y⟩: ∃n,K a' w' n))).2 _ y) hj
 |_=>exact⟨M',N',s',X',hx.trans D,B,u,hr⟩
theorem Ka{b e d:Nat}{o:AO}{p:PV}(hX:X b=io (.obj o e))(hp: ∀(M:Mem) (N:Nm) (U:Nat->Prop) (x:Value),U s.nx->N.aL s.nx=b->N.ext s.nx=e->VR M N U (s.f.get d) x->VR M N U p x):
  SX nt s X (fun t Y=>t=⟨(d,p)::s.f,(s.nx,io o)::s.h,s.nx+1⟩∧Y=X.put b (.out s.nx e)):=by
 intro M N a w hf hs;obtain⟨f,h,n⟩:=s
 let N':Nm:=⟨fun j=>if j=n then b else N.aL j,fun j=>if j=n then e else N.ext j⟩
 have A:N.agree N' (· <n):=⟨fun i F=>be (acb F),fun i F=>be (acb F)⟩
 have I:N'.aL n=b:=am Z;have a0:N'.ext n=e:=am Z;have hU: ∀i,i<n->i<n+1:=fun i F=>aaL F;have c0:=hs.real b o e hX
 have D: ∀i q,AH.get ((n,io o)::h) i=io q->(i=n∧q=o)∨(i<n∧h.get i=io q):=by
  intro i q F;rw[AH.ax]at F;split at F
  .rename_i b0;exact .inl ⟨b0,by simpa using F.symm⟩
  .exact .inr ⟨hf.1.used i q F,F⟩
 refine⟨M,N',⟨(d,p)::f,(n,io o)::h,n+1⟩,X.put b (.out n e),⟨rfl,rfl,rfl,Zc _,fun _ _ _=>rfl,.refl _,fun c m J h2=>by simp[J]at h2,A,abv _,fun c B=> .inr ?_⟩,⟨⟨hf.1.eW,fun i q F=>?_,fun i q F hr=>?_,fun i q F=>?_,fun i j q r F hj hq hr he=>?_⟩,fun k=>?_,hf.2.2⟩,⟨fun c q g B=>?_,fun c q g B=>?_,fun c q g B=>?_,fun c q g B i r F hr=>?_,fun c i g B=>?_⟩,rfl,rfl⟩
 .rcases B with⟨i,q,J,h2,h3⟩|⟨q,g,J⟩
  .rcases D i q J with⟨rfl,rfl⟩|⟨S,h5⟩
   .rw[I]at h3;subst h3;exact .inr ⟨_,_,hX⟩
   .exact .inl ⟨i,q,h5,h2,by rw[<-h3];exact(A.aL i S).symm⟩
  .by_cases u:c=b
   .subst u;rw[bf.dz]at J;cases J
   .rw[bf.lA _ _ u]at J;exact .inr ⟨q,g,J⟩
 .rcases D i q F with⟨rfl,rfl⟩|⟨S,_⟩
  .exact aax _
  .exact hU i S
 .rcases D i q F with⟨rfl,rfl⟩|⟨S,h5⟩
  .rw[I];exact hs.eW _ _ _ hX
  .rw[A.aL i S];exact hf.1.fo i q h5 hr
 .rcases D i q F with⟨rfl,rfl⟩|⟨S,h5⟩
  .exact OR.move (G:=fun _=>True) (.refl _) (AO.all_true _) (fun p y _ hv=>hv.Hd (.refl _)) I a0 Z (hs.obj b _ e hX)
  .exact(hf.1.obj i q h5).mono (.refl _) A hU S Z
 .rcases D i q F with⟨rfl,rfl⟩|⟨S,h5⟩<;>rcases D j r hj with⟨h6,rfl⟩|⟨h6,h7⟩
  .exact h6.symm
  .rw[I,A.aL j h6]at he;exact absurd he.symm (hs.apart b _ e hX j r h7 hr)
  .subst h6;rw[I,A.aL i S]at he;exact absurd he (hs.apart b _ e hX i q h5 hq)
  .rw[A.aL i S,A.aL j h6]at he;exact hf.1.inj i j q r h5 h7 hq hr he
 .rw[AF.ax];split
  .rename_i hk;subst hk;exact hp M N' _ _ (aax _) I a0 ((hf.2.1 k).mono (.refl _) A hU)
  .exact(hf.2.1 k).mono (.refl _) A hU
 all_goals by_cases u:c=b
 .subst u;rw[bf.dz]at B;cases B
 .rw[bf.lA _ _ u]at B;exact hs.real c q g B
 .subst u;rw[bf.dz]at B;cases B
 .rw[bf.lA _ _ u]at B;exact hs.obj c q g B
 .subst u;rw[bf.dz]at B;cases B
 .rw[bf.lA _ _ u]at B;exact hs.eW c q g B
 .subst u;rw[bf.dz]at B;cases B
 .rw[bf.lA _ _ u]at B;rcases D i r F with⟨rfl,rfl⟩|⟨S,h5⟩
  .rw[I];exact fun e=>u e.symm
  .rw[A.aL i S];exact hs.apart c q g B i r h5 hr
 .subst u;rw[bf.dz]at B;cases B;exact⟨aax _,I,a0⟩
 .rw[bf.lA _ _ u]at B;obtain⟨J,h2,h3⟩:=hs.out c i g B;exact⟨hU i J,(A.aL i J).trans h2,(A.ext i J).trans h3⟩
theorem kA{b e d len cap sz:Nat}{o:AO}(hX:X b=io (.obj o e))(hd:s.f.get d= .iv (.v (.slice (io ⟨b,0,jp⟩) len cap)))(h0:0<len)(u:len<=cap)(hc:cap<=maxLen)(he:cap*sz=e):
  SX nt s X (fun t Y=>t=⟨(d,.sl s.nx 0 len sz)::s.f,(s.nx,io o)::s.h,s.nx+1⟩∧Y=X.put b (.out s.nx e)):=
 Ka hX fun M N U x hu hb hE j=>by
  rw[hd]at j;cases j with
  |iv _ _ hi=>cases hi with
   |v=>
    have:=VR.sl (M:=M) (N:=N) s.nx 0 len sz cap hu h0 u hc (by rw[hE,Zu];exact he);rw[hb,abb]at this;exact this
theorem Io{b e d:Nat}{o:AO}(hX:X b=io (.obj o e))(hd:s.f.get d= .iv (.v (.map (io b)))):
  SX nt s X (fun t Y=>t=⟨(d,.mp s.nx)::s.f,(s.nx,io o)::s.h,s.nx+1⟩∧Y=X.put b (.out s.nx e)):=
 Ka hX fun M N U x hu hb hE j=>by
  rw[hd]at j;cases j with
  |iv _ _ hi=>cases hi with
   |v=>
    have:=VR.mp (M:=M) (N:=N) s.nx hu;rw[hb]at this;exact this
theorem Rel.drop{M:Mem}{N:Nm}{n:Nat}{h:AH}{w:World}(hr:Rel M N (· <n) h w)(i:Nat):Rel M N (· <n) ((i,jp)::h) w:=
 ⟨hr.eW,fun j o b=>hr.used j o (bD j o b).2,fun j o b d=>hr.fo j o (bD j o b).2 d,fun j o b=>hr.obj j o (bD j o b).2,fun j l o p b x y A u=>hr.inj j l o p (bD j o b).2 (bD l p x).2 y A u⟩
theorem GP{M:Mem}{N:Nm}{n:Nat}{h:AH}{w:World}(hr:Rel M N (· <n) h w)(hs:dV M N n h X w){i:Nat}{o:AO}(hi:h.get i=io o)(y:o.real=kw)(F:o.all PV.flat):
  iW M N n h X w M N n ((i,jp)::h) (X.put (N.aL i) (.obj o (N.ext i))) w∧dV M N n ((i,jp)::h) (X.put (N.aL i) (.obj o (N.ext i))) w:=by
 refine⟨⟨rfl,rfl,rfl,Zc _,fun _ _ _=>rfl,.refl _,fun b c A B=>by simp[A]at B,.refl _ _,Zc _,fun c u=> .inr ?_⟩,fun c q g u=>?_,fun c q g u=>?_,fun c q g u=>?_,fun c q g u j r I D=>?_,fun c j g u=>?_⟩
 .rcases u with⟨j,q,A,B,J⟩|⟨q,g,A⟩
  .exact .inl ⟨j,q,(bD j q A).2,B,J⟩
  .by_cases d:c=N.aL i
   .exact .inl ⟨i,o,hi,y,d.symm⟩
   .rw[bf.lA _ _ d]at A;exact .inr ⟨q,g,A⟩
 all_goals by_cases d:c=N.aL i
 .subst d;rw[bf.dz]at u;cases u;exact y
 .rw[bf.lA _ _ d]at u;exact hs.real c q g u
 .subst d;rw[bf.dz]at u;cases u;exact OR.move (G:=PV.flat) (N:=N) (i:=i) (.refl _) F (fun p x S Y=>Y.OV S) Z Z Z (hr.obj i o hi)
 .rw[bf.lA _ _ d]at u;exact hs.obj c q g u
 .subst d;exact hr.fo i o hi y
 .rw[bf.lA _ _ d]at u;exact hs.eW c q g u
 .obtain⟨A,B⟩:=bD j r I;subst d;exact fun e=>A (hr.inj j i r o B hi D y e)
 .rw[bf.lA _ _ d]at u;exact hs.apart c q g u j r (bD j r I).2 D
 .subst d;rw[bf.dz]at u;cases u
 .rw[bf.lA _ _ d]at u;exact hs.out c j g u
theorem xC{b e i:Nat}{o:AO}(hX:X b=io (.out i e))(hi:s.h.get i=io o)(u:o.real=kw)(j:o.all PV.flat):
  SX nt s X (fun t Y=>t=⟨s.f,(i,jp)::s.h,s.nx⟩∧Y=X.put b (.obj o e)):=by
 intro M N a w d x;obtain⟨B,rfl,rfl⟩:=x.out b i e hX;obtain⟨y,A⟩:=GP d.1 x hi u j;exact⟨M,N,⟨s.f,(i,jp)::s.h,s.nx⟩,_,y,⟨d.1.drop i,d.2⟩,A,rfl,rfl⟩
theorem Kb{i d:Nat}{o:AO}{G:Nat->Nat->PV->Prop}(D:X.still)(hi:s.h.get i=io o)(A:o.real=kw)(B:o.all PV.flat)
  (hq: ∀(M:Mem) (N:Nm) (U:Nat->Prop) (x:Value),VR M N U (s.f.get d) x-> ∃q,G (N.aL i) (N.ext i) q∧VR M N U q x):
  SX nt s X (fun t Y=> ∃b e q,X b=jp∧G b e q∧t=⟨(d,q)::s.f,(i,jp)::s.h,s.nx⟩∧Y=X.put b (.obj o e)):=by
 intro M N a w u F;obtain⟨I,J⟩:=GP u.1 F hi A B;obtain⟨q,S,h5⟩:=hq M N _ _ (u.2.1 d);refine⟨M,N,⟨(d,q)::s.f,(i,jp)::s.h,s.nx⟩,_,I,⟨u.1.drop i,fun k=>?_,u.2.2⟩,J,N.aL i,N.ext i,q,?_,S,rfl,rfl⟩
 .rw[AF.ax];split
  .rename_i hk;subst hk;exact h5
  .exact u.2.1 k
 .cases hx:X (N.aL i) with
  |none=>rfl
  |some y=>
   cases y with
   |obj p g=>exact absurd Z (F.apart _ p g hx i o hi A)
   |out j g=>exact absurd hx (D _ _ _)
theorem rj{i d len sz:Nat}{o:AO}(y:X.still)(hi:s.h.get i=io o)(u:o.real=kw)(j:o.all PV.flat)(hd:s.f.get d= .sl i 0 len sz)(h0:0<len):
  SX nt s X (fun t Y=> ∃b e a0,X b=jp∧len<=a0∧a0<=maxLen∧a0*sz=e∧t=⟨(d,.iv (.v (.slice (io ⟨b,0,jp⟩) len a0)))::s.f,(i,jp)::s.h,s.nx⟩∧Y=X.put b (.obj o e)):=by
 intro M N a w hf hs
 obtain⟨B,D,t,Y,F,I,J,b,e,q,S,⟨a0,h5,h6,h7,rfl⟩,h8,h9⟩:=Kb (G:=fun b e q=> ∃a0,len<=a0∧a0<=maxLen∧a0*sz=e∧q= .iv (.v (.slice (io ⟨b,0,jp⟩) len a0))) (d:=d) y hi u j (fun M N U x A=>by
  rw[hd]at A;cases A with
  |sl _ _ _ _ a0 hu h0 hl hc he=>exact⟨_,⟨a0,hl,hc,by rw[Zu]at he;exact he,rfl⟩,by rw[abb];exact .iv _ _ (.v _)⟩
  |pW=>exact absurd h0 (ab5 _)) M N a w hf hs
 exact⟨B,D,t,Y,F,I,J,b,e,a0,S,h5,h6,h7,h8,h9⟩
theorem Ip{i d:Nat}{o:AO}(y:X.still)(hi:s.h.get i=io o)(u:o.real=kw)(j:o.all PV.flat)(hd:s.f.get d= .mp i):
  SX nt s X (fun t Y=> ∃b e,X b=jp∧t=⟨(d,.iv (.v (.map (io b))))::s.f,(i,jp)::s.h,s.nx⟩∧Y=X.put b (.obj o e)):=by
 intro M N a w hf hs
 obtain⟨B,D,t,Y,F,I,J,b,e,q,S,rfl,h8,h9⟩:=Kb (G:=fun b e q=>q= .iv (.v (.map (io b)))) (d:=d) y hi u j (fun M N U x A=>by
  rw[hd]at A;cases A with
  |mp _ hu=>exact⟨_,rfl,.iv _ _ (.v _)⟩) M N a w hf hs
 exact⟨B,D,t,Y,F,I,J,b,e,S,h8,h9⟩
inductive Up (X:bf):Value->IV->Prop
 | row (b len cap sz e:Nat) (es:List (List PV)) (el:Nat->List IV) (hX:X b=io (.obj (.row sz es) e)) (hn:len=es.length) (hl:len<=cap) (hc:cap<=maxLen) (hel: ∀k e,es[k]? =io e->e=(el k).map .iv):
   Up X (.slice (io ⟨b,0,jp⟩) len cap) (.de sz len el)
 |map {V:Type} (b e:Nat) (kc:KC) (ev:V->IV) (z:V) (zv:Value) (dv:PV->V) (m:List (kc.K×V)) (hX:X b=io (.obj (.map kc ev z zv dv m) e)):Up X (.map (io b)) (.eI kc ev z zv m)
 |gP {V:Type} (b e:Nat) (kc:KC) (ev:V->IV) (z:V) (zv:Value) (hX:X b=io (.obj .gP e)) (hz: ∀M,IR M (ev z) zv):Up X (.map (io b)) (.eI kc ev z zv [])
 |Wj (y:Value):Up X y (.v y)
 |nil (sz:Nat) (el:Nat->List IV) (a:Option Addr) (cap:Nat):Up X (.slice a 0 cap) (.de sz 0 el)
theorem Kr{M:Mem}{N:Nm}{n:Nat}{h:AH}{w:World}(hr:Rel M N (· <n) h w)(hs:dV M N n h X w):
  ∃u:Mem,M.le u∧iW M N n h X w u N n h bf.nil w∧Rel u N (· <n) h w∧ ∀y p,Up X y p->IR u p y:=by
 let u:Mem:=⟨fun b=>match X b with
  |some (.obj _ _)=>(match w.heap[b]? with|some (.cells c _ _)=>io (.cells c)|some (.map es G)=>io (.map es G)|_=>jp)
  |_=>M.fn b,fun b c hb=>by
   have:=M.Qq b c hb;cases d:X b with
   |none=>simpa using this
   |some y=>cases y with
    |obj o e=>exact absurd (this.symm.trans (hs.eW b o e d)) (by simp)
    |out i e=>simpa using this⟩
 have x: ∀b,(∀o e,X b≠io (.obj o e))->u b=M b:=fun b hb=>by
  show(match X b with|some (.obj _ _)=>_|_=>M.fn b)=M.fn b;cases d:X b with
  |none=>rfl
  |some y=>cases y with
   |obj o e=>exact absurd d (hb o e)
   |out i e=>rfl
 have D: ∀b o e,X b=io (.obj o e)->u b=(match w.heap[b]? with|some (.cells c _ _)=>io (MB.cells c)|some (.map es G)=>io (MB.map es G)|_=>jp):=fun b o e hb=>by
  show(match X b with|some (.obj _ _)=>_|_=>M.fn b)=_;rw[hb]
 have A:M.le u:=fun b c hb=>by
  rw[x b fun o e d=>absurd (hb.symm.trans (hs.eW b o e d)) (by simp)];exact hb
 refine⟨u,A,⟨rfl,rfl,rfl,Zc _,fun _ _ _=>rfl,A,fun b c S F=>?_,.refl _ _,Zc _,fun c I=> .inr ?_⟩,⟨fun b c hb=>?_,hr.used,fun i o hi c0=>?_,fun i o hi=>(hr.obj i o hi).mono A (.refl _ _) (fun _ h=>h) (hr.used i o hi) Z,hr.inj⟩,fun y p hu=>?_⟩
 .cases d:X b with
  |none=>rw[x b (by simp[d]),S]at F;cases F
  |some y=>cases y with
   |obj o e=>exact .inr (.inr ⟨o,e,d⟩)
   |out i e=>rw[x b (by simp[d]),S]at F;cases F
 .rcases I with I|⟨o,e,I⟩
  .exact .inl I
  .cases I
 .cases d:X b with
  |none=>rw[x b (by simp[d])]at hb;exact hr.eW b c hb
  |some y=>cases y with
   |out i e=>rw[x b (by simp[d])]at hb;exact hr.eW b c hb
   |obj o e=>
    rw[D b o e d]at hb;split at hb
    .rename_i hh;cases hb;exact⟨_,_,hh⟩
    .rename_i hh;cases hb;exact hh
    .cases hb
 .rw[x _ fun q e d=>hs.apart _ q e d i o hi c0 Z];exact hr.fo i o hi c0
 .cases hu with
  |Wj=>exact .v _
  |nil=>exact .j8 _ _ _ _
  |gP b e kc ev z zv hX hz=>
   have S:=hs.obj b _ e hX;have F:u b=io (.map #[] 0):=by rw[D b _ e hX];rw[show w.heap[b]? =io (.map #[] 0) from S]
   exact .eI _ _ _ _ _ b #[] 0 F Z (by simp) (by simp) (hz u) (by simp) (by simp)
  |map b e kc ev z zv dv m hX=>
   obtain⟨ents,G,S,F,h3⟩:=hs.obj b _ e hX;have h4:u b=io (.map ents G):=by rw[D b _ e hX];rw[show w.heap[b]? =io (.map ents G) from S]
   have h5:=F.mono A;exact .eI _ _ _ _ _ b ents G h4 h5.size h5.key h5.val (h3.mono A) h5.inj h5.lt
  |row b len cap sz e es el hX hn hl I hel=>
   rcases hs.obj b _ e hX with h0|⟨h0,c,T,g1,g2,g3,g4,g5⟩
   .have:=hs.real b _ e hX;rw[h0]at this;cases this
   have h4:u b=io (.cells c):=by rw[D b _ e hX];rw[show w.heap[b]? =io (.cells c T (0,0)) from g1]
   have B: ∀o,u.cell b o=c[o]? :=fun o=>by simp only[Mem.cell,h4]
   have b0: ∀k,k<len-> ∃e,es[k]? =io e:=fun k J=>⟨_,Za (by omega)⟩
   have d0: ∀k j,k<len->j<sz->k*sz+j<c.size:=fun k j J hj=>by
    have:(k+1)*sz<=es.length*sz:=ZF _ (by omega);rw[aal]at this;omega
   refine .de _ _ _ _ _ _ hl I (fun k J=>?_) (fun k j J hj=>?_) (fun k j p J hp=>?_)
   .obtain⟨e,Y⟩:=b0 k J;have:=g4 _ e Y;rw[hel _ e Y]at this;simpa using this
   .rw[B,Zu];simp[d0 k j J hj]
   .obtain⟨e,Y⟩:=b0 k J;have h9:=g4 _ e Y;have a0:=hel _ e Y;have hj:j<sz:=by rw[<-h9,a0,ZE];exact(Zb.1 hp).1
    have:=g5 _ e j (.iv p) Y (by rw[a0,Zg,hp];rfl);rw[B,Zu];rw[Y7]at this;cases this with
    |iv _ _ h=>exact h.mono A
def Up1(X:bf)(p p':PV):Prop:=p'=p∨ ∃y q,p= .iv (.v y)∧p'= .iv q∧Up X y q
inductive Np (X:bf):AO->AO->Prop
 | row (sz:Nat) (es es':List (List PV)) (hl:es'.length=es.length) (h: ∀(k:Nat) (e':List PV),es'[k]? =io e'-> ∃e,es[k]? =io e∧e'.length=e.length∧ ∀(j:Nat) (p':PV),e'[j]? =io p'-> ∃p,e[j]? =io p∧Up1 X p p'):
   Np X (.row sz es) (.row sz es')
 | map {V V':Type} (kc:KC) (ev:V->IV) (z:V) (zv:Value) (dv:PV->V) (m:List (kc.K×V)) (ev':V'->IV) (z':V') (dv':PV->V') (m':List (kc.K×V')) (hl:m'.length=m.length)
   (h: ∀(j:Nat) (x':kc.K×V'),m'[j]? =io x'-> ∃x y,m[j]? =io x∧x'.1=x.1∧ev x.2= .v y∧Up X y (ev' x'.2)) (hz: ∀M,IR M (ev' z') zv):Np X (.map kc ev z zv dv m) (.map kc ev' z' zv dv' m')
theorem Np.or{M A:Mem}{N:Nm}{U:Nat->Prop}{w:World}{i:Nat}{o o':AO}(J:M.le A)(hu: ∀y p,Up X y p->IR A p y)(h:Np X o o')(ho:OR M N U w i o):OR A N U w i o':=by
 have hv: ∀p D x,Up1 X p D->VR M N U p x->VR A N U D x:=by
  rintro p D x (rfl|⟨y,q,rfl,rfl,B⟩) hx
  .exact hx.mono J (.refl _ _) (fun _ h=>h)
  .cases hx with
   |iv _ _ hi=>cases hi with
    |v=>exact .iv _ _ (hu _ _ B)
 cases h with
 |row sz es es' hl h=>
  rcases ho with rfl|⟨h0,c,T,g1,g2,g3,g4,g5⟩
  .left;exact aaZ.1 hl
  .refine .inr ⟨h0,c,T,g1,g2,by rw[hl];exact g3,fun k F d=>?_,fun k F j D d S=>?_⟩
   .obtain⟨e,b,G,_⟩:=h k F d;rw[G];exact g4 k e b
   .obtain⟨e,b,_,B⟩:=h k F d;obtain⟨p,I,h5⟩:=B j D S;exact hv _ _ _ h5 (g5 k e j p b I)
 |map kc ev z zv dv m ev' z' dv' m' hl h hz=>
  obtain⟨ents,cl,g1,g2,g3⟩:=ho;refine⟨ents,cl,g1,⟨g2.size.trans hl.symm,fun j Y u=>?_,fun j Y u=>?_,g2.inj,g2.lt⟩,hz A⟩
  .obtain⟨x,y,b,G,_⟩:=h j Y u;rw[G];exact g2.key j x b
  .obtain⟨x,y,b,_,B,I⟩:=h j Y u;have:=g2.val j x b;rw[B]at this;generalize(ents.getD j em).val=v at this ⊢;cases this with
   |v=>exact hu _ _ I
theorem Np.real{o o':AO}(h:Np X o o'):o'.real=o.real:=by
 cases h with
 |row sz es es' hl h=>cases es<;>cases es'<;>first|rfl|simp at hl
 |map=>rfl
theorem BC{i:Nat}{o o':AO}(hi:s.h.get i=io o)(hu:Np X o o'):SX nt s X (fun t Y=>t=⟨s.f,(i,io o')::s.h,s.nx⟩∧Y=bf.nil):=by
 intro M N a w A hs;obtain⟨I,G,y,B,J⟩:=Kr A.1 hs;have d: ∀j q,AH.get ((i,io o')::s.h) j=io q-> ∃x,s.h.get j=io x∧q.real=x.real∧(q=x∨(j=i∧q=o')):=by
  intro j q u;rw[AH.ax]at u;split at u
  .rename_i D;subst D;cases u;exact⟨o,hi,hu.real,.inr ⟨rfl,rfl⟩⟩
  .exact⟨q,u,rfl,.inl Z⟩
 refine⟨I,N,⟨s.f,(i,io o')::s.h,s.nx⟩,bf.nil,?_,⟨⟨B.eW,fun j q u=>?_,fun j q u F=>?_,fun j q u=>?_,fun j k q r u hk hq F S=>?_⟩,fun k=>(A.2.1 k).mono G (.refl _ _) (fun _ h=>h),A.2.2⟩,.nil ..,rfl,rfl⟩
 .exact⟨y.os,y.tape,y.output,y.size,y.iT,y.sb,y.kr,y.nm,y.ule,fun b hb=> .inr<|by
   rcases hb with⟨j,q,g1,g2,g3⟩|⟨q,g,g1⟩
   .obtain⟨x,g4,g5,_⟩:=d j q g1;exact .inl ⟨j,x,g4,g5▸g2,g3⟩
   .cases g1⟩
 .obtain⟨x,g4,_⟩:=d j q u;exact A.1.used j x g4
 .obtain⟨x,g4,g5,_⟩:=d j q u;exact B.fo j x g4 (g5▸F)
 .obtain⟨x,g4,_,rfl|⟨rfl,rfl⟩⟩:=d j q u
  .exact B.obj j _ g4
  .exact hu.or G J (A.1.obj j o hi)
 .obtain⟨x,g4,g5,_⟩:=d j q u;obtain⟨r',g6,g7,_⟩:=d k r hk;exact A.1.inj j k x r' g4 g6 (g5▸hq) (g7▸F) S
end
section
variable {P:Program}
section
variable {nt:Nat} {Q:XQ} {k0:List XI} {s:AS} {X:bf}
theorem GF{t:AS}(hh:t.h=s.h)(hn:t.nx=s.nx)(h: ∀M N a w,Fits M N s nt a w->dV M N s.nx s.h X w->FR M N (· <s.nx) t.f a.tmps):SX nt s X (fun j Y=>j=t∧Y=X):=by
 intro M N a w b d;obtain⟨f,u,n⟩:=t;simp only at hh hn;subst hh;subst hn;exact⟨M,N,⟨f,s.h,s.nx⟩,X,.refl _ _ _ _ _ _,⟨b.1,h M N a w b d,b.2.2⟩,d,rfl,rfl⟩
theorem Ss{d:Nat}{p:PV}(b:aK (s.f.get d) p):SX nt s X (fun t Y=>t=⟨(d,p)::s.f,s.h,s.nx⟩∧Y=X):=
 GF Z Z fun M N a w j _ k=>by
  rw[AF.ax];split
  .rename_i u;subst u;exact b M N _ _ (j.2.1 k)
  .exact j.2.1 k
theorem Kc{b j e d:Nat}{p:PV}(hX:X b=io (.out j e))(hp: ∀(M:Mem) (N:Nm) (U:Nat->Prop) (x:Value),U j->N.aL j=b->N.ext j=e->VR M N U (s.f.get d) x->VR M N U p x):
  SX nt s X (fun t Y=>t=⟨(d,p)::s.f,s.h,s.nx⟩∧Y=X):=
 GF Z Z fun M N a w u F k=>by
  obtain⟨y,A,B⟩:=F.out b j e hX;rw[AF.ax];split
  .rename_i D;subst D;exact hp M N _ _ y A B (u.2.1 k)
  .exact u.2.1 k
theorem FA{M:Mem}{N:Nm}{n:Nat}{h:AH}{w:World}(hr:Rel M N (· <n) h w){i:Nat}{o o':AO}(hi:h.get i=io o)(A:o'.real=kw->o.real=kw)(ho:OR M N (· <n) w i o'):Rel M N (· <n) ((i,io o')::h) w:=by
 have b: ∀j q,AH.get ((i,io o')::h) j=io q->(j=i∧q=o')∨(j≠i∧h.get j=io q):=by
  intro j q u;rw[AH.ax]at u;split at u
  .rename_i y;exact .inl ⟨y,by simpa using u.symm⟩
  .rename_i y;exact .inr ⟨y,u⟩
 refine⟨hr.eW,fun j q u=>?_,fun j q u d=>?_,fun j q u=>?_,fun j k q r u G F d D=>?_⟩
 .rcases b j q u with⟨rfl,rfl⟩|⟨_,x⟩
  .exact hr.used j o hi
  .exact hr.used j q x
 .rcases b j q u with⟨rfl,rfl⟩|⟨_,x⟩
  .exact hr.fo j o hi (A d)
  .exact hr.fo j q x d
 .rcases b j q u with⟨rfl,rfl⟩|⟨_,x⟩
  .exact ho
  .exact hr.obj j q x
 .rcases b j q u with⟨rfl,rfl⟩|⟨g1,x⟩<;>rcases b k r G with⟨g2,B⟩|⟨g2,B⟩
  .exact g2.symm
  .exact hr.inj j k o r hi B (A F) d D
  .subst g2;subst B;exact hr.inj j k q o x hi F (A d) D
  .exact hr.inj j k q r x B F d D
theorem TG{i:Nat}{o o':AO}(hi:s.h.get i=io o)(A:o'.real=kw->o.real=kw)(ho: ∀M N w,dV M N s.nx s.h X w->OR M N (· <s.nx) w i o->OR M N (· <s.nx) w i o'):
  SX nt s X (fun t Y=>t=⟨s.f,(i,io o')::s.h,s.nx⟩∧Y=X):=by
 intro M N a w G x;have d: ∀j q,AH.get ((i,io o')::s.h) j=io q->q.real=kw-> ∃y,s.h.get j=io y∧y.real=kw:=by
  intro j q u B;rw[AH.ax]at u;split at u
  .rename_i I;subst I;cases u;exact⟨o,hi,A B⟩
  .exact⟨q,u,B⟩
 refine⟨M,N,⟨s.f,(i,io o')::s.h,s.nx⟩,X,⟨rfl,rfl,rfl,Zc _,fun _ _ _=>rfl,.refl _,fun b c D F=>by simp[D]at F,.refl _ _,Zc _,fun b hb=> .inr ?_⟩,
  ⟨FA G.1 hi A (ho M N w x (G.1.obj i o hi)),G.2⟩,⟨x.real,x.obj,x.eW,fun b p e hb j q u B=>?_,x.out⟩,rfl,rfl⟩
 .rcases hb with⟨j,q,D,F,J⟩|hb
  .obtain⟨y,g1,g2⟩:=d j q D F;exact .inl ⟨j,y,g1,g2,J⟩
  .exact .inr hb
 .obtain⟨y,g1,g2⟩:=d j q u B;exact x.apart b p e hb j y g1 g2
theorem xB{i:Nat}{o o':AO}(hi:s.h.get i=io o)(b:fb o o'):SX nt s X (fun t Y=>t=⟨s.f,(i,io o')::s.h,s.nx⟩∧Y=X):=
 TG hi b.1 fun M N w _ h=>b.2 M N _ w i h
end
end
section
variable {P:Program} {nt:Nat} {Q:XQ} {k0:List XI} {s:AS} {X:bf} {ty:Ty}
theorem F1{c:Code}{R j:AS->bf->Prop}(h: ∀t Y,R t Y->j t Y)(hg:GX P nt (.code c:: .lp R::k0) Q s X):GX P nt (.code c:: .lp j::k0) Q s X:=by
 intro M N a w B D;refine AX.then hg B D fun e G I x y s' A F b d u=>⟨x,y,s',A,F,b,d,?_⟩
 cases e with
 |normal=>exact h _ _ u
 |_=>exact u
theorem ke{body:Code}{σ:Type 1}(i0 n:Nat)(u:i0<=n)(I:Nat->σ->AS)(J:Nat->σ->bf->Prop)(A:σ)(B:List Nat)(G:J i0 A X)(h0:Wk s.nx B s (I i0 A))(y: ∀i x Y,J i x Y->Y.still)
  (b: ∀i x Y,i<=n->J i x Y->GX P nt (.code body:: .lp (fun t j=>i<n∧ ∃d L,J (i+1) d j∧Wk s.nx L t (I (i+1) d))::k0) Q (I i x) Y):GX P nt (.code (.loop body)::k0) Q s X:=by
 refine WB (σ:={p:Nat×σ×bf//p.1<=n∧J p.1 p.2.1 p.2.2}) (fun p=>I p.1.1 p.1.2.1) (fun p=>p.1.2.2) (fun p=>n-p.1.1) ⟨(i0,A,X),u,G⟩ B h0 Z (fun p=>y _ _ _ p.2.2) fun p=>?_;obtain⟨⟨i,x,Y⟩,D,F⟩:=p;refine F1 ?_ (b i x Y D F)
 rintro t j ⟨h3,d,L,h4,h5⟩;exact⟨⟨(i+1,d,j),h3,h4⟩,L,by show n-(i+1)<n-i;omega,h5,rfl⟩
end
section
variable {P:Program} {nt:Nat} {Q:XQ} {k:List XI} {s:AS} {X:bf}
def Xy(P:Program)(nt:Nat)(k:List XI)(Q:XQ)(X:bf)(n0:Nat)(t:AS):AQ:=fun e u=>(e= .normal∧ ∃L,Wk n0 L u t)∨(e≠ .normal∧kx P nt k Q e u X)
theorem fN{n0:Nat}{t u:AS}(L:List Nat)(h:Wk n0 L u t):Xy P nt k Q X n0 t .normal u:= .inl ⟨rfl,L,h⟩
theorem fX{c:Code}(t:AS)(h1:GO P nt [.code c] (Xy P nt k Q X s.nx t) s)(h2:GX P nt k Q t X):GX P nt (.code c::k) Q s X:=by
 intro M N a w D x;refine AW.then h1 D fun e F G j B u A b d=>?_;rcases d with⟨rfl,L,y⟩|⟨_,d⟩
 .obtain⟨g1,g2⟩:=iW.frame (y.ext A) x;exact⟨j,_,t,X,g1,y.fits b,g2,h2⟩
 .obtain⟨g1,g2⟩:=iW.frame A x;exact⟨j,B,u,X,g1,b,g2,d⟩
theorem yt{c:Code}(n:Nat)(t:AS)(A:c=Kt (tV n c) (pn n c))(h1:GO P nt ((tV n c).map KI.code) (Xy P nt k Q X s.nx t) s)(h2:GX P nt (.code (pn n c)::k) Q t X):GX P nt (.code c::k) Q s X:=by
 intro M N a w hf hs;rw[A];have key: ∀(l:List Code) (u:AS) D G J B,Ext M N (· <s.nx) s.h w D G (· <u.nx) u.h B->Fits D G u nt J B->
   kp P nt (l.map KI.code) (Xy P nt k Q X s.nx t) .normal u->(Kt l (pn n c)).wp P (pM nt M N s X w (kx P nt k Q)) J B:=by
  intro l
  induction l with
  |nil=>
   intro u D G J B S y hk;rcases hk with⟨_,L,hw⟩|⟨he,_⟩
   .obtain⟨g1,g2⟩:=iW.frame (hw.ext S) hs;exact AX.then h2 (hw.fits y) g2 fun e a2 w2 F I Y X2 x b a0 j=>⟨F,I,Y,X2,g1.trans x,b,a0,j⟩
   .exact absurd Z he
  |cons d l ih=>
   intro u D G J B S y hk;refine wp_seq (AW.then hk y fun e a2 w2 F I Y x b j=>?_);cases e with
   |normal=>exact ih Y F I a2 w2 (S.trans x) b j
   |_=>
    rcases B9 (l:=l) (by simp) j with⟨he,_⟩|⟨_,hq⟩
    .cases he
    .obtain⟨g1,g2⟩:=iW.frame (S.trans x) hs;exact⟨F,I,Y,X,g1,b,g2,hq⟩
 exact key _ s M N a w (.refl _ _ _ _ _) hf h1
def bf.drop(X:bf)(b:Nat):bf:=fun c=>if c=b then jp else X c
theorem Iq(b:Nat):SX nt s X (fun t Y=>t=s∧Y=X.drop b):=by
 intro M N a w B u;have h: ∀c y,X.drop b c=io y->X c=io y:=fun c y j=>by
  unfold bf.drop at j;split at j
  .cases j
  .exact j
 refine⟨M,N,s,X.drop b,⟨rfl,rfl,rfl,Zc _,fun _ _ _=>rfl,.refl _,fun c d x A=>by simp[x]at A,.refl _ _,Zc _,fun c j=> .inr ?_⟩,B,⟨fun c o e j=>u.real c o e (h c _ j),fun c o e j=>u.obj c o e (h c _ j),fun c o e j=>u.eW c o e (h c _ j),fun c o e j=>u.apart c o e (h c _ j),fun c i e j=>u.out c i e (h c _ j)⟩,rfl,rfl⟩;rcases j with j|⟨o,e,j⟩
 .exact .inl j
 .exact .inr ⟨o,e,h c _ j⟩
end
structure BX where
 M:Mem
 N:Nm
 n:Nat
 h:AH
 X:bf
 w:World
def Xk(nt:Nat)(B:BX)(R:XQ):Exit->Act->World->Prop:=fun e x u=>
 ∃b d s' j,iW B.M B.N B.n B.h B.X B.w b d s'.nx s'.h j u∧Fits b d s' nt x u∧dV b d s'.nx s'.h j u∧R e s' j
def CQ(P:Program)(nt:Nat)(all:List Oper)(todo pend:List (Nat×Oper))(R:XQ)(s:AS)(X:bf):Prop:=
 Region.noSelect all.toArray=kw->iw 0 all=kw->ko P nt all->(∀x∈todo,aS x.2=lc)-> ∀(B:BX) (b:Bs) M N listed a w fuel,iW B.M B.N B.n B.h B.X B.w M N s.nx s.h X w->dV M N s.nx s.h X w->
  oM P nt all todo pend b M N s listed a w->listed.toList.count lc<=fuel->wpAny P .any all.toArray (Xk nt B R) fuel listed a w
section
variable {P:Program} {ty:Ty} {nt:Nat} {all:List Oper} {todo pend:List (Nat×Oper)} {Q R:XQ} {k:List XI} {s:AS} {X:bf}
theorem HQ(h:R .normal s X):CQ P nt all [] pend R s X:=by
 intro A hd x Y B B0 M N listed a w b hB I
 induction b generalizing listed a with
 |zero=>
  intro j S;have d: ∀i,listed.getD i kw=kw:=fun i=>by
   cases hx:listed.getD i kw with
   |true=>rfl
   |false=>have:=oG hx;omega
  exact⟨x8 d,M,N,s,X,hB,j.done d,I,h⟩
 |succ b ih=>
  intro j S;refine⟨fun hr=>⟨M,N,s,X,hB,j.done (my j.size hd hr),I,h⟩,fun i u=>?_⟩;obtain⟨hu,o,G,_⟩:=mem_ready.1 u;have D:all[i]? =io o:=by simpa using G
  rcases j.JP i o D hu with hm|hm
  .cases hm
  .obtain⟨v,hv,y⟩:=j.take A x hm u;refine wpOp_of_stOp (K:=fun F=>F=a.put o.dst v) (fun F J=>?_) (hv.stOp G Z);subst J;exact ih _ _ y (by have:=dt hu;omega)
theorem yI{i:Nat}{o:Oper}{s':AS}(hin:(i,o)∈todo)(D:aS o=lc)(F: ∀x∈todo,waits o x.1=lc)(j:ze all pend o=kw)(he:s'.h=s.h∧s'.nx=s.nx)
  (hy: ∀M N b w,Fits M N s nt b w-> ∃v,YieldsAt P all.toArray w o v b∧Fits M N s' nt (b.put o.dst v) w) (h:CQ P nt all (todo.filter fun x=>!Zz x.1 i) ((i,o)::pend) R s' X):CQ P nt all todo pend R s X:=by
 intro y hd A u B G M N listed a w d hB S J I;exact h y hd A (fun x Y=>u x (ZM.1 Y).1) B G M N listed a w d (by rw[he.1,he.2];exact hB) (by rw[he.1,he.2];exact S) (J.read y hin D F j he hy) I
theorem qO{T:AS->bf->Prop}(h:SX nt s X T)(hk: ∀t Y,T t Y->CQ P nt all todo pend R t Y):CQ P nt all todo pend R s X:=by
 intro I hd F A B J M N listed a w u hB hs d hc;obtain⟨b,hb,hr⟩:=d.ap;obtain⟨S,N',t,Y,h1,h2,h3,h4⟩:=h M N b w hb hs;obtain⟨bl,G,_⟩:=d.er;have D: ∀x∈todo,listed.getD x.1 kw=kw->False:=fun x j y=>by
  have:=(G x j y).alloc;rw[A x j]at this;cases this
 exact hk t Y h4 I hd F A B J S N' listed a w u (hB.trans h1) h3 ⟨d.size,d.tl,d.pl,d.dj,d.JP,d.pw,d.pp,d.pa,⟨bl,fun x j y=>(D x j y).elim,fun x j _ _ y=>(D x j y).elim⟩,b,h2,hr⟩ hc
theorem Qw{j:Nat}{o:Oper}{T:AS->Prop}(hrd:fw todo=[(j,o)])(hg:cJ nt all s.f o=io kw)(hpb:jM all pend o=kw)(hE:pj todo [j]=kw)(k0:OT P nt o s T)
  (h: ∀s',T s'->(∀x∈bp pend o,ji P nt all s' x.2)∧CQ P nt all (todo.filter fun x=>!Zz x.1 j) (bp pend o) R s' X):CQ P nt all todo pend R s X:=by
 have e0:(j,o)∈fw todo:=by rw[hrd];simp
 obtain⟨D,h4⟩:=ZM.1 e0;simp only[aae,ZG,Z3]at h4;intro g0 hd Y f0 B B0 M N listed a w u hB hs
 induction u generalizing listed a w with
 |zero=>
  intro J hc;obtain⟨bl,c0,_⟩:=J.er;have q0:listed.getD j kw=lc:=by
   cases hl:listed.getD j kw with
   |false=>rfl
   |true=>have:=(c0 _ D hl).alloc;simp only at this;rw[h4.1]at this;cases this
  have:=oG q0;omega
 |succ u ih=>
  intro J hc;obtain⟨bl,c0,r0⟩:=J.er;have S: ∀x∈todo,aS x.2=lc->listed.getD x.1 kw=lc:=fun x A F=>by
   cases hl:listed.getD x.1 kw with
   |false=>rfl
   |true=>have:=(c0 x A hl).alloc;rw[F]at this;cases this
  refine⟨fun hr=>?_,fun i d0=>?_⟩
  .have:=my J.size hd hr j;rw[S _ D h4.1]at this;cases this
  obtain⟨hu,q,hq,b0⟩:=mem_ready.1 d0;have j0:all[i]? =io q:=by simpa using hq
  rcases J.JP i q j0 hu with hm|hm
  .have n0:i=j:=by
    have:=ZA.1 hE _ hm;simp only[aas,ZZ,Zw,aae]at this;rcases this with h1|h1|⟨y,hy,h0,h1⟩
    .simpa using h1
    .rw[f0 _ hm]at h1;cases h1
    .obtain⟨e,he,hb,o0⟩:=gW h1;have:=b0 e he hb;rw[o0,mV (S y hy h0)]at this;cases this
   subst n0;have p0:q=o:=by
    have:=J.tl _ D;simp only at this;rw[j0]at this;exact Z5 this
   subst p0;obtain⟨b,hb,a0,i0,hnew⟩:=J.eff g0 hd Y D (fun x A F=>by rw[f0 x A]at F;cases F) hpb d0 hu;unfold wpOp;simp only[hq];rw[am (by rw[i0];exact eB hg hb)];refine .inl (Gv (K':=fun a' w'=> ∃G I s',Ext M N (· <s.nx) s.h w G I (· <s'.nx) s'.h w'∧Fits G I s' nt a' w'∧T s') a0 ?_ ?_ (k0 M N b w hb _ _ fun G I s' a' w' A hf hr=>⟨G,I,s',A,hf,hr⟩))
   .rintro d w' ⟨G,I,s',_,hf,_⟩;have:=hf.2.2.1;rw[lQ]at this;cases this
   .rintro v w' ⟨G,I,s',A,hf,hr⟩;obtain⟨h5,h6⟩:=h s' hr;obtain⟨g1,g2⟩:=iW.frame A hs;exact h6 g0 hd Y (fun x A=>f0 x (ZM.1 A).1) B B0 G I _ _ w' u (hB.trans g1) g2 (hnew v G I s' w' A hf h5) (by have:=dt hu;omega)
  .obtain⟨v,hv,m0⟩:=J.take g0 Y hm d0;refine wpOp_of_stOp (K:=fun a'=>a'=a.put q.dst v) (fun a' ha=>?_) (hv.stOp hq Z);subst ha;exact ih _ _ _ hB hs m0 (by have:=dt hu;omega)
theorem LK{id:Nat}{ops:Array Oper}(hm:P.follows .mixedOrders=kw)(hns:vt ops.toList=kw)(hd:iw 0 ops.toList=kw)(d:ops.toList.all (fun o=>!aS o)=kw)(h:CQ P nt ops.toList (ig 0 ops.toList) [] (kx P nt k Q) s X):GX P nt (.code (.region id ops kw)::k) Q s X:=by
 intro M N a w I S;refine wp_region_any hm ?_;have B:=I.drew;have d: ∀o∈ops.toList,aS o=lc:=fun o A=>by simpa using ZA.1 d o A
 have j: ∀x∈ig 0 ops.toList,ops.toList[x.1]? =io x.2:=fun x b=>by
  obtain⟨_,G⟩:=(j6 _ 0 x.1 x.2).1 b;simpa using G
 have D: ∀i,i<ops.size->(aaX ops.size lc).getD i kw=lc:=fun i J=>by simp[Y7,J]
 have y: ∀x∈ig 0 ops.toList,(aaX ops.size lc).getD x.1 kw=kw->False:=fun x b u=>by
  have:x.1<ops.size:=by simpa using(Zb.1 (j x b)).1
  rw[D _ this]at u;cases u
 have:=h (Az hns) hd (fun i o A F=>by rw[d o (ZC A)]at F;cases F) (fun x b=>d _ (ZC (j x b))) ⟨M,N,s.nx,s.h,X,w⟩ ⟨M,N,s.nx,s.h,w⟩ M N (aaX ops.size lc) a {w with drawn:=w.drawn+1} ops.size iW.drew S.drew
  ⟨by simp,j,fun _ b=>(nomatch b),fun _ b=>(nomatch b),fun i o A _=> .inl ((j6 _ 0 i o).2 ⟨Zf _,by simpa using A⟩),aaT,fun _ b=>(nomatch b),fun _ b=>(nomatch b),
   ⟨fun _=>0,fun x b u=>(y x b u).elim,fun x b _ _ u=>(y x b u).elim⟩,⟨a,B,rfl,rfl,fun _ _ _=>rfl,fun _ b=>(nomatch b)⟩⟩ (by simp)
 rw[aaF]at this;exact this
def SQ(ty:Ty)(nt:Nat)(all:List Oper):Nat->List (Nat×Oper)->List (Nat×Oper)->AS->Prop->Prop×List (Nat×Oper)×List (Nat×Oper)×AS
 |0,todo,pend,s,C=>(C,todo,pend,s)
 |n+1,todo,pend,s,C=>match nu ty nt s all todo pend todo with
  |some (.read i o p C')=>match putDst nt o p s with
   |none=>(C,todo,pend,s)
   |some s'=>match BZ o.op with
    |true=>SQ ty nt all n (todo.filter fun x=>!Zz x.1 i) ((i,o)::pend) s' (C∧C')
    |false=>SQ ty nt all n (todo.filter fun x=>!Zz x.1 i) ((i,o)::pend) s' C
  |some (.skip i o)=>SQ ty nt all n (todo.filter fun x=>!Zz x.1 i) ((i,o)::pend) (iP o s) C
  |_=>(C,todo,pend,s)
theorem Cz(u:cD P ty): ∀{n:Nat} {todo pend:List (Nat×Oper)} {s:AS} {C F:Prop} {j d:List (Nat×Oper)} {s':AS},SQ ty nt all n todo pend s C=(F,j,d,s')->F->C∧(CQ P nt all j d R s' X->CQ P nt all todo pend R s X)
 |0,todo,pend,s,C,F,j,d,s',h,hC=>by
  simp only[SQ,Zl]at h;obtain⟨rfl,rfl,rfl,rfl⟩:=h;exact⟨hC,id⟩
 |n+1,todo,pend,s,C,F,j,d,s',h,hC=>by
  simp only[SQ]at h;split at h
  .rename_i i o p C1 A;obtain⟨g1,G,I,g2,g3,g4⟩:=(qk (fun _ h=>h)).1 A;split at h
   .simp only[Zl]at h;obtain⟨rfl,rfl,rfl,rfl⟩:=h;exact⟨hC,id⟩
   .rename_i s1 Y;split at h
    .obtain⟨⟨B,h2⟩,D⟩:=Cz u h hC;obtain⟨J,S⟩:=l9 u g4 h2 Y;exact⟨B,fun g=>yI g1 G I g3 J (fun M N b w y=>let ⟨x,f1,f2⟩:=S M N b w y;⟨x,.inl ⟨eB g2 y,.inl f1⟩,f2⟩) (D g)⟩
    .rename_i ho;obtain⟨B,D⟩:=Cz u h hC;obtain⟨J,S⟩:=l9 u g4 (w6 g4 ho) Y;exact⟨B,fun g=>yI g1 G I g3 J (fun M N b w y=>let ⟨x,f1,f2⟩:=S M N b w y;⟨x,.inl ⟨eB g2 y,.inl f1⟩,f2⟩) (D g)⟩
  .rename_i i o A;obtain⟨g1,G,I,g2,g3⟩:=(qk (fun _ h=>h)).2 A;obtain⟨B,D⟩:=Cz u h hC;exact⟨B,fun g=>yI g1 G I g3 (jI o s) (fun _ _ _ _ y=>⟨undef,.inr ⟨eB g2 y,rfl⟩,y.skip o⟩) (D g)⟩
  .simp only[Zl]at h;obtain⟨rfl,rfl,rfl,rfl⟩:=h;exact⟨hC,id⟩
def Xv(ty:Ty)(nt:Nat)(s:AS)(o:Oper):Option (Prop×AS):=match lx ty s o.op with
 |some (p,C)=>(putDst nt o p s).map fun s'=>(C,s')
 |none=>match JN ty s o.op with
  |some (p,s1)=>(putDst nt o p s1).map fun s'=>(True,s')
  |none=>match Vn ty s o.op with
   |some (C,p,s1)=>(putDst nt o p s1).map fun s'=>(C,s')
   |none=>jp
theorem UJ(b:cD P ty){o:Oper}{C:Prop}{s':AS}(h:Xv ty nt s o=io (C,s'))(hC:C):OT P nt o s (fun t=>t=s'):=by
 unfold Xv at h;split at h
 .rename_i p y A;obtain⟨x,d,j⟩:=Zi.1 h;cases j;exact u9 b A hC d
 .split at h
  .rename_i p s0 u;obtain⟨x,d,j⟩:=Zi.1 h;cases j;exact FQ b u d
  .split at h
   .rename_i y p s0 u;obtain⟨x,d,j⟩:=Zi.1 h;cases j;exact Fj b u hC d
   .cases h
theorem Qv(j:cD P ty)(n:Nat){u:Prop}{d b:List (Nat×Oper)}{s':AS}(h:SQ ty nt all n todo pend s True=(u,d,b,s'))(hC:u)(g:CQ P nt all d b R s' X):CQ P nt all todo pend R s X:=(Cz j h hC).2 g
theorem UN(b:cD P ty){j:Nat}{o:Oper}{C d:Prop}{s':AS}(hrd:fw todo=[(j,o)])(ho:Xv ty nt s o=io (C,s'))(hg:cJ nt all s.f o=io kw)(hpb:jM all pend o=kw)(hE:pj todo [j]=kw)(hag:eD ty nt all s' (bp pend o)=io d)
  (hC:C) (hC2:d) (h:CQ P nt all (todo.filter fun x=>!Zz x.1 j) (bp pend o) R s' X):CQ P nt all todo pend R s X:=
 Qw hrd hg hpb hE (UJ b ho hC) fun t u=>by subst u;exact⟨fD b hag hC2,h⟩
end
end
end Go.Al
namespace Go.Al
open Go
section
section
variable {P:Program} {ty:Ty} {nt:Nat} {s:AS}
theorem My(B:cD P ty){o:Oper}{t u:TypeId}{x hi:Operand}(ho:o.op= .slice t x jp (io hi) jp){e G:cE}(ht:ty t=io e)(F:e.k= .bc (.slice u))(hu:ty u=io G)
  {n m sz:Nat} {el:Nat->List IV} {kc:IntKind} {Y:Int} (hx:ev s.f x= .iv (.de sz n el)) (hh:ev s.f hi= .iv (.v (.int kc Y))) (J:Y=(m:Int)) (b0:m<=n):
  ∀M N a w,Fits M N s nt a w-> ∃x,(execOp a.eval o).run P w= .ok (.value x) w∧VR M N (· <s.nx) (.iv (.de sz m el)) x:=by
 intro M N a w I;subst J;have A:P.underlying t=io (.slice u):=by
  have:=(B t _ ht).2.1;rw[F]at this;exact this.1
 have y:P.elem t=u:=by simp[Program.elem,A]
 have D:=a7 I.2.1 x;rw[hx]at D;generalize S:a.eval x=vx at D;cases D with
 |iv _ _ hir=>
  cases hir with
  |j8 _ _ a0 cap=>
   obtain rfl:m=0:=by omega
   have d:=run_slice_h (P:=P) (w:=w) t a0 0 cap (by rw[y];exact A) kc ((0:Nat):Int) (by omega) (by omega);rw[y,bL (B u _ hu)]at d;refine⟨sliced a0 0 0 cap G.size,?_,?_⟩
   .simp only[execOp,ho,S,Z8,abQ,qx I hh];refine bH ?_;rw[run_sliceAt_slice w t _ _ _ _ (by rw[y];exact A),d];rfl
   .exact .iv _ _ (.j8 _ _ _ _)
  |de _ _ _ b off cap hn hc hl hm hr=>
   have d:=run_slice_h (P:=P) (w:=w) t (io ⟨b,off,jp⟩) n cap (by rw[y];exact A) kc (m:Int) (by omega) (by omega);rw[y,bL (B u _ hu)]at d;refine⟨sliced (io ⟨b,off,jp⟩) 0 m cap G.size,?_,?_⟩
   .simp only[execOp,ho,S,Z8,abQ,qx I hh];refine bH ?_;rw[run_sliceAt_slice w t _ _ _ _ (by rw[y];exact A),d];rfl
   .have h:=IR.de sz m el b off cap (by omega) hc (fun k F=>hl k (by omega)) (fun k j F=>hm k j (by omega)) (fun k j p F=>hr k j p (by omega));exact .iv _ _ (by simpa[sliced,Addr.add]using h)
theorem Uw(b:cD P ty){o:Oper}{t u:TypeId}{x i:Operand}(ho:o.op= .index t x i){e j:cE}{len:Nat}(I:ty t=io e)(F:e.k= .arr len u)(hu:ty u=io j)
  {cs:List PV} {kc:IntKind} {n:Nat} (S:ev s.f x= .agg cs) (hi:ev s.f i= .iv (.v (.int kc (n:Int)))) (hn:n<len) {p:PV} (G:jr j (cs.drop (n*j.size))=io p) {s':AS} (hp:putDst nt o p s=io s'):OT P nt o s (fun t=>t=s'):=by
 refine OT.value hp fun M N a w A=>?_
 have B:P.underlying t=io (.array len u):=by
  have:=(b t _ I).2.1;rw[F]at this;exact this
 have d:=a7 A.2.1 x;rw[S]at d;generalize J:a.eval x=v at d;cases d with
 |agg _ ys hl hr=>
  obtain⟨y,Y,D⟩:=jK (P:=P) (w:=w) (b u _ hu) hl hr G;refine⟨y,w,M,N,?_,.refl _ _ _ _ _,A,D⟩;simp only[execOp,ho,J,qx A hi];refine bH ?_;simp[Instr.index,run_underlying B,asIntOf,hn,bL (b u _ hu),Y]
theorem L1(j:cD P ty){Q:AQ}{k:List KI}{all rest:List Oper}{o:Oper}{t u:TypeId}{x i:Operand}(hg:o.guard=jp)(ho:o.op= .index t x i){e b:cE}{len:Nat}(d:ty t=io e)(y:e.k= .arr len u)(hu:ty u=io b)
  {cs:List PV} {kc:IntKind} {n:Nat} (B:ev s.f x= .agg cs) (hi:ev s.f i= .iv (.v (.int kc (n:Int)))) (hn:n<len) {p:PV} (A:jr b (cs.drop (n*b.size))=io p) {s':AS} (hp:putDst nt o p s=io s') (h:GO P nt (.ops all rest::k) Q s'):GO P nt (.ops all (o::rest)::k) Q s:=
 dK hg (Uw j ho d y hu B hi hn A hp) fun t d=>by subst d;exact h
end
section
variable {P:Program} {ty:Ty} {nt:Nat} {Q:AQ} {k:List KI} {s:AS}
theorem LY{all rest:List Oper}{o:Oper}{t e:TypeId}{x:Operand}{d sz n:Nat}{el:Nat->List IV}(hg:o.guard=jp)(ho:o.op= .binOp .eql t x (.const (.slice jp 0 0)) t)(hd:o.dst=io d)(A:Zs d nt=kw)(I:P.underlying t=io (.slice e))(J:ev s.f x= .iv (.de sz n el))
  (h: ∀b:Bool,(b=kw->n=0)->GO P nt (.ops all rest::k) Q ⟨(d,pB b)::s.f,s.h,s.nx⟩):GO P nt (.ops all (o::rest)::k) Q s:=by
 refine dK (R:=fun u=> ∃b:Bool,(b=kw->n=0)∧u=⟨(d,pB b)::s.f,s.h,s.nx⟩) hg (fun M N a w D K Z G=>?_) fun u ⟨b,hb,hu⟩=>by subst hu;exact h b hb
 have y:=a7 D.2.1 x;rw[J]at y;generalize B:a.eval x=v at y;have j: ∀(a0:Option Addr) (l c:Nat),v= .slice a0 l c->(execOp a.eval o).run P w= .ok (.value (.bool a0.isNone)) w:=fun a0 l c y=>by
  unfold execOp;rw[ho];simp only[B,y];exact bH (Lib.run_eql_slice_nil w t e a0 l c 0 0 I)
 have b0: ∀(b:Bool),(b=kw->n=0)->(execOp a.eval o).run P w= .ok (.value (.bool b)) w->o.wp P a w K Z:=fun b hb F=>by
  unfold Oper.wp;rw[F];simp only[Oper.upon];rw[hd];exact G M N ⟨(d,pB b)::s.f,s.h,s.nx⟩ _ w (.refl _ _ _ _ _) (D.put d (pB b) (.bool b) (Y5 A) (.iv _ _ (.v _))) ⟨b,hb,rfl⟩
 cases y with
 |iv _ _ hi=>cases hi with
  |j8 _ _ a0 cap=>exact b0 _ (fun _=>rfl) (j a0 0 cap rfl)
  |de _ _ _ b off cap hn hc hl hm F=>exact b0 lc (fun h=>by cases h) (j _ n cap rfl)
theorem Qo(j:cD P ty){all rest:List Oper}{o:Oper}{t u:TypeId}{d:Nat}(hg:o.guard=jp)(ho:o.op= .buildSlice t 0 #[])(hd:o.dst=io d)(y:Zs d nt=kw){e I:cE}(ht:ty t=io e)(Y:e.k= .bc (.slice u))(hu:ty u=io I)
  (h: ∀b:Nat,GO P nt (.ops all rest::k) Q ⟨(d,.iv (.v (.slice (io ⟨b,0,jp⟩) 0 0)))::s.f,(s.nx,io (.row 1 []))::s.h,s.nx+1⟩):GO P nt (.ops all (o::rest)::k) Q s:=by
 refine dK (R:=fun v=> ∃b:Nat,v=⟨(d,.iv (.v (.slice (io ⟨b,0,jp⟩) 0 0)))::s.f,(s.nx,io (.row 1 []))::s.h,s.nx+1⟩) hg (fun M N a w S K Z B=>?_) fun v ⟨b,hv⟩=>by subst hv;exact h b
 have F:P.underlying t=io (.slice u):=by
  have:=(j t _ ht).2.1;rw[Y]at this;exact this.1
 obtain⟨G,h1,h2,h8,J,x⟩:=S.1.alloc (.cells #[] u) (.row 1 []) 0 (fun G g1 g2 g3=> .inl rfl);have hr:(execOp a.eval o).run P w= .ok (.value (.slice (io ⟨w.heap.size,0,jp⟩) 0 0)) (w.alloc (.cells #[] u)):=by
  have D:=bL (w:=w) (j u I hu);simp[execOp,ho,Instr.buildSlice,Sem.run_bind,run_underlying F,Result.andThen_ok,D,newRow,Instr.fill,show ab0 0= #[] from rfl]
 have A:=fh S J x;unfold Oper.wp;rw[hr];simp only[Oper.upon];rw[hd];exact B M G ⟨(d,.iv (.v (.slice (io ⟨w.heap.size,0,jp⟩) 0 0)))::s.f,(s.nx,io (.row 1 []))::s.h,s.nx+1⟩ _ _ J (Fits.put (s:=⟨s.f,(s.nx,io (.row 1 []))::s.h,s.nx+1⟩) A d _ _ (Y5 y) (.iv _ _ (.v _))) ⟨_,rfl⟩
theorem Qp(d0:cD P ty){all rest:List Oper}{o:Oper}{x y:Operand}{t u:TypeId}(hg:o.guard=jp)(ho:o.op= .call ⟨.builtin .append, #[x,y], #[t,t]⟩){e d:cE}(ht:ty t=io e)(hk:e.k= .bc (.slice u))(hu:ty u=io d)
  {b0 sz:Nat} {news:List (List PV)} {py:PV} (hx:ev s.f x= .iv (.v (.slice (io ⟨b0,0,jp⟩) 0 0))) (v0:d.size=sz) (hz:d.zero.cells.size=sz) (t0:0<sz)
  (s0:ev s.f y=py) (hy:Src s.h sz py news) (hm:news≠ []) (hb:news.length*d.bytes<=140737488355328) (d1:news.length<=140737488355328)
  {s':AS} (hp:putDst nt o (.sl s.nx 0 news.length sz) (newObj s (.row sz news))=io s') (h:GO P nt (.ops all rest::k) Q s'):GO P nt (.ops all (o::rest)::k) Q s:=by
 refine dK hg (OT.value hp fun M N a w hf=>?_) fun v hv=>by subst hv;exact h
 subst v0;obtain⟨⟨ii,o0,p0,n0,q0⟩,_⟩:=d0 u _ hu;have w0:P.underlying t=io (.slice u):=by
  have:=(d0 t _ ht).2.1;rw[hk]at this;exact this.1
 have Y:=a7 hf.2.1 x;rw[hx]at Y;have f0:=a7 hf.2.1 y;rw[s0]at f0;obtain⟨D,ao,c,a1,F⟩:=hy.ok hf f0;have A: ∀v w',(Builtin.append_ #[t,t] o.type #[a.eval x,a.eval y]).run P w= .ok v w'->(execOp a.eval o).run P w= .ok (.value v) w':=by
  intro v w' h;simp only[execOp,ho,resolve];simp[invoke,builtin,h]
 rw[a1]at A;have a0: ∀G:List Value,G.length=news.flatten.length->G.length=news.length*ii.size:=fun G h=>by rw[h,mR D,p0]
 generalize a.eval x=vx at Y A;cases Y with
 |iv _ _ hi=>cases hi with
  |v=>
   obtain⟨b,b1,j0,I⟩:=F hm;subst j0;obtain⟨G,e0,x0,y0⟩:=wX (s:=s) I;have j1:0<news.length:=List.length_pos_iff.2 hm;have J:=run_append_grow (P:=P) w t o.type u ii d.zero w0 o0 q0 ⟨b0,0,jp⟩ 0 0 [] (by simp) (fun j v hj=>by simp at hj) ⟨b,b1,jp⟩ news.length c G (a0 G e0) x0 (by omega) (by omega) (growslice_fits (by omega) (by rw[n0,Zu];exact hb));have S:G.length=news.length*d.size:=by rw[e0,mR D]
   have c0:=grownCap_ge w (0+news.length) 0 u;have k0:=grownCap_le_maxLen w (0+news.length) 0 u (by simp only[maxLen];omega);generalize grownCap w (0+news.length) 0 u=cap at*
   generalize i0:([]:List Value).toArray++G.toArray++Builtin.zeroCells d.zero.cells (cap-(0+news.length))=z at J;have B:z.size=cap*d.size:=by
    rw[<-i0,abp,abp,size_zeroCells,hz];simp only[List.size_toArray,S,aai,Zu] at*
    rw[<-aal,Nat.add_sub_cancel' c0]
   obtain⟨N',h1,h2,h3,h4,h5⟩:=hf.1.drew.alloc (.cells z u) (.row d.size news) z.size (fun N' g1 g2 g3=>by
    refine .inr ⟨t0,z,u,by rw[g1];exact heap_alloc_new _ _,g2.symm,?_,fun k e he=>D _ e he,fun k e j p he hj=>?_⟩
    .rw[B];exact ZF _ (by omega)
    .have f1:j<d.size:=by rw[<-D _ e he];exact(Zb.1 hj).1
     have r0:k<news.length:=(Zb.1 he).1;have m0:=qG D _ e j p he hj;have i1:k*d.size+j<G.length:=by
      rw[S];have:(k+1)*d.size<=news.length*d.size:=ZF _ r0;rw[aal]at this;omega
     have:=y0 _ p m0;have e1:z.getD (k*d.size+j) undef=G.getD (k*d.size+j) undef:=by
      rw[<-i0,Y7,aac (by simp;omega),Y6];simp
     rw[e1];exact this.mono (.refl _) g3 (fun i hi=>by omega))
   have g0:=(Ext.drew (M:=M) (N:=N) (U:=(· <s.nx)) (h:=s.h) (w:=w)).trans h4;refine⟨_,_,M,N',A _ _ J,g0,⟨h5,hf.2.1.ext g0,hf.2.2⟩,?_⟩;have:=VR.sl (M:=M) (N:=N') (U:=(· <s.nx+1)) s.nx 0 (0+news.length) d.size cap (by omega) (by omega) c0 k0 (by rw[h2,B];simp);rw[h1,abb,show PV.sl s.nx 0 (0+news.length) d.size=PV.sl s.nx 0 news.length d.size by rw[Zu]]at this;exact(show(newObj s (.row d.size news)).nx=s.nx+1 from rfl)▸this
theorem L9(G:cD P ty){all rest:List Oper}{o:Oper}{x y:Operand}{t u:TypeId}(hg:o.guard=jp)(ho:o.op= .call ⟨.builtin .append, #[x,y], #[t,t]⟩){e Y:cE}(ht:ty t=io e)(hk:e.k= .bc (.slice u))(hu:ty u=io Y)
  {S sz:Nat} (hx:ev s.f x= .iv (.v (.slice (io ⟨S,0,jp⟩) 0 0))) (d0:Y.size=sz)
  {el:Nat->List IV} (c0:ev s.f y= .iv (.de sz 0 el)) {el2:Nat->List IV}
  {s':AS} (hp:putDst nt o (.iv (.de sz 0 el2)) s=io s') (h:GO P nt (.ops all rest::k) Q s'):GO P nt (.ops all (o::rest)::k) Q s:=by
 refine dK hg (OT.value hp fun M N a w hf=>?_) fun v hv=>by subst hv;exact h
 subst d0;obtain⟨⟨ii,a0,g0,f0,i0⟩,_⟩:=G u _ hu;have e0:P.underlying t=io (.slice u):=by
  have:=(G t _ ht).2.1;rw[hk]at this;exact this.1
 have A:=a7 hf.2.1 x;rw[hx]at A;have B:=a7 hf.2.1 y;rw[c0]at B;have d: ∀v D,(Builtin.append_ #[t,t] o.type #[a.eval x,a.eval y]).run P w= .ok v D->(execOp a.eval o).run P w= .ok (.value v) D:=by
  intro v D h;simp only[execOp,ho,resolve];simp[invoke,builtin,h]
 generalize a.eval x=vx at A d;generalize a.eval y=vy at B d;have j: ∀(F:Option Addr) (c:Nat),vx= .slice (io ⟨S,0,jp⟩) 0 0->vy= .slice F 0 c-> ∃v D I J,(execOp a.eval o).run P w= .ok (.value v) D∧Ext M N (· <s.nx) s.h w I J (· <s.nx) s.h D∧Fits I J s nt a D∧VR I J (· <s.nx) (.iv (.de Y.size 0 el2)) v:=fun F c e1 e2=>by
  subst e1 e2;exact⟨_,w,M,N,d _ _ (lv (P:=P) (w:=w) t o.type u ii e0 a0 (io ⟨S,0,jp⟩) 0 0 (Zc _) F c (.inr ⟨_,_,rfl⟩)),.refl _ _ _ _ _,hf,.iv _ _ (.j8 _ _ _ _)⟩
 cases A with
 |iv _ _ hi=>cases hi with
  |v=>cases B with
   |iv _ _ hi=>cases hi with
    |j8 _ _ F c=>exact j F c Z Z
    |de _ _ _ b off cap=>exact j _ _ Z Z
end
end
end Go.Al
namespace Go.Proofs.YtflegjieadkonaaGreatDoor
open Go Go.Al Go.Proofs.Tryz
def ty2:cE:=⟨.bc (.int .i64),1,8,.int .i64 (0),lc⟩
theorem VB:ay prog 2 ty2:=⟨aq (by kernel_rfl),⟨underlying2,rfl⟩,fun h=>nomatch h⟩
def ty3:cE:=⟨.bc (.int .i64),1,8,.int .i64 (0),lc⟩
theorem VA:ay prog 3 ty3:=⟨aq (by kernel_rfl),⟨underlying3,rfl⟩,fun h=>nomatch h⟩
def ty4:cE:=⟨.bc (.bool),1,1,.bool lc,lc⟩
theorem Vz:ay prog 4 ty4:=⟨aq (by kernel_rfl),⟨underlying4,rfl⟩,fun h=>nomatch h⟩
def ty5:cE:=⟨.bc (.int .u8),1,1,.int .u8 (0),lc⟩
theorem Vy:ay prog 5 ty5:=⟨aq (by kernel_rfl),⟨underlying5,rfl⟩,fun h=>nomatch h⟩
def ty9:cE:=⟨.bc (.string),1,16,.string Zd,lc⟩
theorem Vx:ay prog 9 ty9:=⟨aq (by kernel_rfl),⟨underlying9,rfl⟩,fun h=>nomatch h⟩
def V1:cE:=⟨.bc (.int .i32),1,4,.int .i32 (0),lc⟩
theorem TA:ay prog 21 V1:=⟨aq (by kernel_rfl),⟨underlying21,rfl⟩,fun h=>nomatch h⟩
def V0:cE:=⟨.bc (.slice 49),1,24,.slice jp 0 0,lc⟩
theorem Tz:ay prog 22 V0:=⟨aq (by kernel_rfl),⟨underlying22,rfl⟩,fun h=>nomatch h⟩
def VZ:cE:=⟨.bc (.slice 76),1,24,.slice jp 0 0,lc⟩
theorem Tx:ay prog 23 VZ:=⟨aq (by kernel_rfl),⟨underlying23,rfl⟩,fun h=>nomatch h⟩
def VY:cE:=⟨.dy [(0,22),(1,23)],2,48,.agg #[.slice jp 0 0,.slice jp 0 0],kw⟩
theorem Tw:ay prog 25 VY:=⟨aq (by kernel_rfl),⟨_,underlying25,rfl⟩,fun _=>cR underlying25 Tryz.stoodInHeld25 Tryz.eqGuardType25 (by decide)⟩
def VX:cE:=⟨.bc (.int .i64),1,8,.int .i64 (0),lc⟩
theorem Tv:ay prog 33 VX:=⟨aq (by kernel_rfl),⟨underlying33,rfl⟩,fun h=>nomatch h⟩
def VW:cE:=⟨.dy [(0,3),(1,3)],2,16,.agg #[.int .i64 (0),.int .i64 (0)],kw⟩
theorem Tu:ay prog 35 VW:=⟨aq (by kernel_rfl),⟨_,underlying35,rfl⟩,fun _=>cR underlying35 Tryz.stoodInHeld35 Tryz.eqGuardType35 (by decide)⟩
def VV:cE:=⟨.dy [(0,33),(1,35)],3,24,.agg #[.int .i64 (0),.int .i64 (0),.int .i64 (0)],kw⟩
theorem Tt:ay prog 37 VV:=⟨aq (by kernel_rfl),⟨_,underlying37,rfl⟩,fun _=>cR underlying37 Tryz.stoodInHeld37 Tryz.eqGuardType37 (by decide)⟩
def VU:cE:=⟨.bc (.slice 3),1,24,.slice jp 0 0,lc⟩
theorem Ts:ay prog 47 VU:=⟨aq (by kernel_rfl),⟨underlying47,rfl⟩,fun h=>nomatch h⟩
def VT:cE:=⟨.dy [(0,9),(1,47),(2,35)],4,56,.agg #[.string Zd,.slice jp 0 0,.int .i64 (0),.int .i64 (0)],kw⟩
theorem Tr:ay prog 49 VT:=⟨aq (by kernel_rfl),⟨_,underlying49,rfl⟩,fun _=>cR underlying49 Tryz.stoodInHeld49 Tryz.eqGuardType49 (by decide)⟩
def VS:cE:=⟨.bc (.slice 9),1,24,.slice jp 0 0,lc⟩
theorem Tq:ay prog 53 VS:=⟨aq (by kernel_rfl),⟨underlying53,rfl⟩,fun h=>nomatch h⟩
def VQ:cE:=⟨.bc (.slice 119),1,24,.slice jp 0 0,lc⟩
theorem Tp:ay prog 60 VQ:=⟨aq (by kernel_rfl),⟨underlying60,rfl⟩,fun h=>nomatch h⟩
def VP:cE:=⟨.dy [(0,3),(1,3),(2,53),(3,60)],4,64,.agg #[.int .i64 (0),.int .i64 (0),.slice jp 0 0,.slice jp 0 0],kw⟩
theorem To:ay prog 62 VP:=⟨aq (by kernel_rfl),⟨_,underlying62,rfl⟩,fun _=>cR underlying62 Tryz.stoodInHeld62 Tryz.eqGuardType62 (by decide)⟩
def VO:cE:=⟨.bc (.slice 143),1,24,.slice jp 0 0,lc⟩
theorem Tn:ay prog 71 VO:=⟨aq (by kernel_rfl),⟨underlying71,rfl⟩,fun h=>nomatch h⟩
def VN:cE:=⟨.dy [(0,9),(1,71)],2,40,.agg #[.string Zd,.slice jp 0 0],kw⟩
theorem Tm:ay prog 73 VN:=⟨aq (by kernel_rfl),⟨_,underlying73,rfl⟩,fun _=>cR underlying73 Tryz.stoodInHeld73 Tryz.eqGuardType73 (by decide)⟩
def VM:cE:=⟨.bc (.slice 105),1,24,.slice jp 0 0,lc⟩
theorem Tl:ay prog 74 VM:=⟨aq (by kernel_rfl),⟨underlying74,rfl⟩,fun h=>nomatch h⟩
def VL:cE:=⟨.dy [(0,73),(2,74),(3,35)],5,80,.agg #[.string Zd,.slice jp 0 0,.slice jp 0 0,.int .i64 (0),.int .i64 (0)],kw⟩
theorem Tk:ay prog 76 VL:=⟨aq (by kernel_rfl),⟨_,underlying76,rfl⟩,fun _=>cR underlying76 Tryz.stoodInHeld76 Tryz.eqGuardType76 (by decide)⟩
def VK:cE:=⟨.bc (.map 9 88),1,8,.map jp,lc⟩
theorem Ti:ay prog 83 VK:=⟨aq (by kernel_rfl),⟨underlying83,rfl⟩,fun h=>nomatch h⟩
def VI:cE:=⟨.bc (.map 9 88),1,8,.map jp,lc⟩
theorem Th:ay prog 84 VI:=⟨aq (by kernel_rfl),⟨underlying84,rfl⟩,fun h=>nomatch h⟩
def VH:cE:=⟨.bc (.map 9 3),1,8,.map jp,lc⟩
theorem Tg:ay prog 88 VH:=⟨aq (by kernel_rfl),⟨underlying88,rfl⟩,fun h=>nomatch h⟩
def VG:cE:=⟨.bc (.map 3 53),1,8,.map jp,lc⟩
theorem Tf:ay prog 91 VG:=⟨aq (by kernel_rfl),⟨underlying91,rfl⟩,fun h=>nomatch h⟩
def VF:cE:=⟨.bc (.map 3 3),1,8,.map jp,lc⟩
theorem Te:ay prog 92 VF:=⟨aq (by kernel_rfl),⟨underlying92,rfl⟩,fun h=>nomatch h⟩
def VE:cE:=⟨.bc (.slice 47),1,24,.slice jp 0 0,lc⟩
theorem Td:ay prog 94 VE:=⟨aq (by kernel_rfl),⟨underlying94,rfl⟩,fun h=>nomatch h⟩
def VD:cE:=⟨.dy [(0,3),(1,3),(2,9)],3,32,.agg #[.int .i64 (0),.int .i64 (0),.string Zd],kw⟩
theorem Tc:ay prog 98 VD:=⟨aq (by kernel_rfl),⟨_,underlying98,rfl⟩,fun _=>cR underlying98 Tryz.stoodInHeld98 Tryz.eqGuardType98 (by decide)⟩
def VC:cE:=⟨.bc (.slice 101),1,24,.slice jp 0 0,lc⟩
theorem Tb:ay prog 99 VC:=⟨aq (by kernel_rfl),⟨underlying99,rfl⟩,fun h=>nomatch h⟩
def Sq:cE:=⟨.dy [(0,3),(1,9),(2,98),(5,3),(6,99)],7,88,.agg #[.int .i64 (0),.string Zd,.int .i64 (0),.int .i64 (0),.string Zd,.int .i64 (0),.slice jp 0 0],kw⟩
theorem OS:ay prog 101 Sq:=⟨aq (by kernel_rfl),⟨_,underlying101,rfl⟩,fun _=>cR underlying101 Tryz.stoodInHeld101 Tryz.eqGuardType101 (by decide)⟩
def Sp:cE:=⟨.dy [(0,3),(1,9),(2,101),(9,74)],10,136,.agg #[.int .i64 (0),.string Zd,.int .i64 (0),.string Zd,.int .i64 (0),.int .i64 (0),.string Zd,.int .i64 (0),.slice jp 0 0,.slice jp 0 0],kw⟩
theorem OQ:ay prog 103 Sp:=⟨aq (by kernel_rfl),⟨_,underlying103,rfl⟩,fun _=>cR underlying103 Tryz.stoodInHeld103 Tryz.eqGuardType103 (by decide)⟩
def Sn:cE:=⟨.dy [(0,3),(1,73),(3,3),(4,101),(11,101),(18,103),(28,35)],30,384,.agg #[.int .i64 (0),.string Zd,.slice jp 0 0,.int .i64 (0),.int .i64 (0),.string Zd,.int .i64 (0),.int .i64 (0),.string Zd,.int .i64 (0),.slice jp 0 0,.int .i64 (0),.string Zd,.int .i64 (0),.int .i64 (0),.string Zd,.int .i64 (0),.slice jp 0 0,.int .i64 (0),.string Zd,.int .i64 (0),.string Zd,.int .i64 (0),.int .i64 (0),.string Zd,.int .i64 (0),.slice jp 0 0,.slice jp 0 0,.int .i64 (0),.int .i64 (0)],kw⟩
theorem OP:ay prog 105 Sn:=⟨aq (by kernel_rfl),⟨_,underlying105,rfl⟩,fun _=>cR underlying105 Tryz.stoodInHeld105 Tryz.eqGuardType105 (by decide)⟩
def Sm:cE:=⟨.bc (.slice 113),1,24,.slice jp 0 0,lc⟩
theorem OO:ay prog 110 Sm:=⟨aq (by kernel_rfl),⟨underlying110,rfl⟩,fun h=>nomatch h⟩
def Sl:cE:=⟨.bc (.slice 4),1,24,.slice jp 0 0,lc⟩
theorem ON:ay prog 113 Sl:=⟨aq (by kernel_rfl),⟨underlying113,rfl⟩,fun h=>nomatch h⟩
def Sk:cE:=⟨.dy [(0,3),(1,3),(2,47),(3,9)],4,56,.agg #[.int .i64 (0),.int .i64 (0),.slice jp 0 0,.string Zd],kw⟩
theorem OL:ay prog 119 Sk:=⟨aq (by kernel_rfl),⟨_,underlying119,rfl⟩,fun _=>cR underlying119 Tryz.stoodInHeld119 Tryz.eqGuardType119 (by decide)⟩
def Sj:cE:=⟨.bc (.pointer 135),1,8,.pointer jp,lc⟩
theorem OK:ay prog 124 Sj:=⟨aq (by kernel_rfl),⟨underlying124,rfl⟩,fun h=>nomatch h⟩
def Si:cE:=⟨.bc (.map 9 3),1,8,.map jp,lc⟩
theorem OJ:ay prog 133 Si:=⟨aq (by kernel_rfl),⟨underlying133,rfl⟩,fun h=>nomatch h⟩
def Sh:cE:=⟨.dy [(0,76),(5,133),(6,91),(7,92)],8,104,.agg #[.string Zd,.slice jp 0 0,.slice jp 0 0,.int .i64 (0),.int .i64 (0),.map jp,.map jp,.map jp],kw⟩
theorem OI:ay prog 135 Sh:=⟨aq (by kernel_rfl),⟨_,underlying135,rfl⟩,fun _=>cR underlying135 Tryz.stoodInHeld135 Tryz.eqGuardType135 (by decide)⟩
def Sg:cE:=⟨.dy [(0,3),(1,9),(2,98)],5,56,.agg #[.int .i64 (0),.string Zd,.int .i64 (0),.int .i64 (0),.string Zd],kw⟩
theorem OH:ay prog 143 Sg:=⟨aq (by kernel_rfl),⟨_,underlying143,rfl⟩,fun _=>cR underlying143 Tryz.stoodInHeld143 Tryz.eqGuardType143 (by decide)⟩
def Sf:cE:=⟨.bc (.func #[9] #[3] lc),1,8,.nilFunc,lc⟩
theorem OG:ay prog 148 Sf:=⟨aq (by kernel_rfl),⟨underlying148,rfl⟩,fun h=>nomatch h⟩
def Se:cE:=⟨.bc (.func #[37] #[4] lc),1,8,.nilFunc,lc⟩
theorem OF:ay prog 151 Se:=⟨aq (by kernel_rfl),⟨underlying151,rfl⟩,fun h=>nomatch h⟩
def Sd:cE:=⟨.bc (.func #[105] #[4] lc),1,8,.nilFunc,lc⟩
theorem OE:ay prog 155 Sd:=⟨aq (by kernel_rfl),⟨underlying155,rfl⟩,fun h=>nomatch h⟩
def Sc:cE:=⟨.bc (.slice 37),1,24,.slice jp 0 0,lc⟩
theorem OD:ay prog 156 Sc:=⟨aq (by kernel_rfl),⟨underlying156,rfl⟩,fun h=>nomatch h⟩
def Sb:cE:=⟨.bc (.map 9 3),1,8,.map jp,lc⟩
theorem OC:ay prog 164 Sb:=⟨aq (by kernel_rfl),⟨underlying164,rfl⟩,fun h=>nomatch h⟩
def Sa:cE:=⟨.dy [(0,76),(5,164)],6,88,.agg #[.string Zd,.slice jp 0 0,.slice jp 0 0,.int .i64 (0),.int .i64 (0),.map jp],kw⟩
theorem OB:ay prog 166 Sa:=⟨aq (by kernel_rfl),⟨_,underlying166,rfl⟩,fun _=>cR underlying166 Tryz.stoodInHeld166 Tryz.eqGuardType166 (by decide)⟩
def R9:cE:=⟨.bc (.pointer 166),1,8,.pointer jp,lc⟩
theorem OA:ay prog 167 R9:=⟨aq (by kernel_rfl),⟨underlying167,rfl⟩,fun h=>nomatch h⟩
def R8:cE:=⟨.bc (.slice 173),1,24,.slice jp 0 0,lc⟩
theorem Oz:ay prog 169 R8:=⟨aq (by kernel_rfl),⟨underlying169,rfl⟩,fun h=>nomatch h⟩
def R7:cE:=⟨.bc (.func #[124,3] #[119,4] lc),1,8,.nilFunc,lc⟩
theorem Oy:ay prog 171 R7:=⟨aq (by kernel_rfl),⟨underlying171,rfl⟩,fun h=>nomatch h⟩
def R6:cE:=⟨.dy [(0,3),(1,171)],2,16,.agg #[.int .i64 (0),.nilFunc],kw⟩
theorem Ox:ay prog 173 R6:=⟨aq (by kernel_rfl),⟨_,underlying173,rfl⟩,fun _=>cR underlying173 Tryz.stoodInHeld173 Tryz.eqGuardType173 (by decide)⟩
def R5:cE:=⟨.bc (.int .u64),1,8,.int .u64 (0),lc⟩
theorem Ow:ay prog 179 R5:=⟨aq (by kernel_rfl),⟨underlying179,rfl⟩,fun h=>nomatch h⟩
def R4:cE:=⟨.bc (.map 9 49),1,8,.map jp,lc⟩
theorem Ov:ay prog 181 R4:=⟨aq (by kernel_rfl),⟨underlying181,rfl⟩,fun h=>nomatch h⟩
def R3:cE:=⟨.bc (.func #[101] #[4] lc),1,8,.nilFunc,lc⟩
theorem Ou:ay prog 185 R3:=⟨aq (by kernel_rfl),⟨underlying185,rfl⟩,fun h=>nomatch h⟩
def R2:cE:=⟨.bc (.func #[103] #[4] lc),1,8,.nilFunc,lc⟩
theorem Ot:ay prog 186 R2:=⟨aq (by kernel_rfl),⟨underlying186,rfl⟩,fun h=>nomatch h⟩
def R1:cE:=⟨.bc (.int .i64),1,8,.int .i64 (0),lc⟩
theorem Oq:ay prog 195 R1:=⟨aq (by kernel_rfl),⟨underlying195,rfl⟩,fun h=>nomatch h⟩
def R0:cE:=⟨.bc (.int .u32),1,4,.int .u32 (0),lc⟩
theorem Oo:ay prog 203 R0:=⟨aq (by kernel_rfl),⟨underlying203,rfl⟩,fun h=>nomatch h⟩
def RZ:cE:=⟨.bc (.int .u64),1,8,.int .u64 (0),lc⟩
theorem On:ay prog 205 RZ:=⟨aq (by kernel_rfl),⟨underlying205,rfl⟩,fun h=>nomatch h⟩
def RY:cE:=⟨.bc (.func #[3] #[4] lc),1,8,.nilFunc,lc⟩
theorem Om:ay prog 207 RY:=⟨aq (by kernel_rfl),⟨underlying207,rfl⟩,fun h=>nomatch h⟩
def RX:cE:=⟨.bc (.slice 73),1,24,.slice jp 0 0,lc⟩
theorem Ol:ay prog 215 RX:=⟨aq (by kernel_rfl),⟨underlying215,rfl⟩,fun h=>nomatch h⟩
def RW:cE:=⟨.bc (.func #[73] #[4] lc),1,8,.nilFunc,lc⟩
theorem Oj:ay prog 217 RW:=⟨aq (by kernel_rfl),⟨underlying217,rfl⟩,fun h=>nomatch h⟩
def RV:cE:=⟨.dy [(0,33),(1,207)],2,16,.agg #[.int .i64 (0),.nilFunc],kw⟩
theorem Oi:ay prog 218 RV:=⟨aq (by kernel_rfl),⟨_,underlying218,rfl⟩,fun _=>cR underlying218 Tryz.stoodInHeld218 Tryz.eqGuardType218 (by decide)⟩
def RU:cE:=⟨.bc (.pointer 257),1,8,.pointer jp,lc⟩
theorem Oh:ay prog 220 RU:=⟨aq (by kernel_rfl),⟨underlying220,rfl⟩,fun h=>nomatch h⟩
def RT:cE:=⟨.bc (.slice 218),1,24,.slice jp 0 0,lc⟩
theorem Og:ay prog 222 RT:=⟨aq (by kernel_rfl),⟨underlying222,rfl⟩,fun h=>nomatch h⟩
def RS:cE:=⟨.arr 2 101,14,176,.agg #[.int .i64 (0),.string Zd,.int .i64 (0),.int .i64 (0),.string Zd,.int .i64 (0),.slice jp 0 0,.int .i64 (0),.string Zd,.int .i64 (0),.int .i64 (0),.string Zd,.int .i64 (0),.slice jp 0 0],lc⟩
theorem Of:ay prog 232 RS:=⟨aq (by kernel_rfl),underlying232,fun h=>nomatch h⟩
def RR:cE:=⟨.bc (.int .u64),1,8,.int .u64 (0),lc⟩
theorem Oe:ay prog 233 RR:=⟨aq (by kernel_rfl),⟨underlying233,rfl⟩,fun h=>nomatch h⟩
def RQ:cE:=⟨.bc (.pointer 3),1,8,.pointer jp,lc⟩
theorem Od:ay prog 237 RQ:=⟨aq (by kernel_rfl),⟨underlying237,rfl⟩,fun h=>nomatch h⟩
def RP:cE:=⟨.bc (.pointer 247),1,8,.pointer jp,lc⟩
theorem Oc:ay prog 241 RP:=⟨aq (by kernel_rfl),⟨underlying241,rfl⟩,fun h=>nomatch h⟩
def RO:cE:=⟨.bc (.pointer 245),1,8,.pointer jp,lc⟩
theorem Ob:ay prog 242 RO:=⟨aq (by kernel_rfl),⟨underlying242,rfl⟩,fun h=>nomatch h⟩
def RN:cE:=⟨.bc (.slice 5),1,24,.slice jp 0 0,lc⟩
theorem Oa:ay prog 243 RN:=⟨aq (by kernel_rfl),⟨underlying243,rfl⟩,fun h=>nomatch h⟩
def RL:cE:=⟨.dy [(0,242),(1,243)],2,32,.agg #[.pointer jp,.slice jp 0 0],kw⟩
theorem N9:ay prog 245 RL:=⟨aq (by kernel_rfl),⟨_,underlying245,rfl⟩,fun _=>cR underlying245 Tryz.stoodInHeld245 Tryz.eqGuardType245 (by decide)⟩
def RK:cE:=⟨.dy [(0,245),(2,4),(3,3)],4,48,.agg #[.pointer jp,.slice jp 0 0,.bool lc,.int .i64 (0)],kw⟩
theorem N8:ay prog 247 RK:=⟨aq (by kernel_rfl),⟨_,underlying247,rfl⟩,fun _=>cR underlying247 Tryz.stoodInHeld247 Tryz.eqGuardType247 (by decide)⟩
def RJ:cE:=⟨.bc (.func #[143] #[4] lc),1,8,.nilFunc,lc⟩
theorem N7:ay prog 252 RJ:=⟨aq (by kernel_rfl),⟨underlying252,rfl⟩,fun h=>nomatch h⟩
def RI:cE:=⟨.bc (.map 263 263),1,8,.map jp,lc⟩
theorem N6:ay prog 253 RI:=⟨aq (by kernel_rfl),⟨underlying253,rfl⟩,fun h=>nomatch h⟩
def RH:cE:=⟨.bc (.map 263 3),1,8,.map jp,lc⟩
theorem N5:ay prog 254 RH:=⟨aq (by kernel_rfl),⟨underlying254,rfl⟩,fun h=>nomatch h⟩
def RG:cE:=⟨.bc (.slice 265),1,24,.slice jp 0 0,lc⟩
theorem N4:ay prog 255 RG:=⟨aq (by kernel_rfl),⟨underlying255,rfl⟩,fun h=>nomatch h⟩
def RF:cE:=⟨.dy [(0,167),(1,253),(2,255),(3,254)],4,48,.agg #[.pointer jp,.map jp,.slice jp 0 0,.map jp],kw⟩
theorem N3:ay prog 257 RF:=⟨aq (by kernel_rfl),⟨_,underlying257,rfl⟩,fun _=>cR underlying257 Tryz.stoodInHeld257 Tryz.eqGuardType257 (by decide)⟩
def RE:cE:=⟨.dy [(0,9),(1,3)],2,24,.agg #[.string Zd,.int .i64 (0)],kw⟩
theorem NZ:ay prog 263 RE:=⟨aq (by kernel_rfl),⟨_,underlying263,rfl⟩,fun _=>cR underlying263 Tryz.stoodInHeld263 Tryz.eqGuardType263 (by decide)⟩
def RD:cE:=⟨.dy [(0,3),(1,263),(3,3),(4,3)],5,48,.agg #[.int .i64 (0),.string Zd,.int .i64 (0),.int .i64 (0),.int .i64 (0)],kw⟩
theorem NY:ay prog 265 RD:=⟨aq (by kernel_rfl),⟨_,underlying265,rfl⟩,fun _=>cR underlying265 Tryz.stoodInHeld265 Tryz.eqGuardType265 (by decide)⟩
def RC:cE:=⟨.bc (.pointer 276),1,8,.pointer jp,lc⟩
theorem NX:ay prog 271 RC:=⟨aq (by kernel_rfl),⟨underlying271,rfl⟩,fun h=>nomatch h⟩
def RB:cE:=⟨.bc (.slice 325),1,24,.slice jp 0 0,lc⟩
theorem NW:ay prog 273 RB:=⟨aq (by kernel_rfl),⟨underlying273,rfl⟩,fun h=>nomatch h⟩
def RA:cE:=⟨.bc (.slice 278),1,24,.slice jp 0 0,lc⟩
theorem NV:ay prog 274 RA:=⟨aq (by kernel_rfl),⟨underlying274,rfl⟩,fun h=>nomatch h⟩
def Rz:cE:=⟨.dy [(0,273),(1,47),(2,274),(3,53)],4,96,.agg #[.slice jp 0 0,.slice jp 0 0,.slice jp 0 0,.slice jp 0 0],kw⟩
theorem NU:ay prog 276 Rz:=⟨aq (by kernel_rfl),⟨_,underlying276,rfl⟩,fun _=>cR underlying276 Tryz.stoodInHeld276 Tryz.eqGuardType276 (by decide)⟩
def Ry:cE:=⟨.dy [(0,3),(1,3),(2,3),(3,3)],4,32,.agg #[.int .i64 (0),.int .i64 (0),.int .i64 (0),.int .i64 (0)],kw⟩
theorem NT:ay prog 278 Ry:=⟨aq (by kernel_rfl),⟨_,underlying278,rfl⟩,fun _=>cR underlying278 Tryz.stoodInHeld278 Tryz.eqGuardType278 (by decide)⟩
def Rx:cE:=⟨.bc (.pointer 233),1,8,.pointer jp,lc⟩
theorem NS:ay prog 280 Rx:=⟨aq (by kernel_rfl),⟨underlying280,rfl⟩,fun h=>nomatch h⟩
def Rw:cE:=⟨.bc (.func #[21] #[4] lc),1,8,.nilFunc,lc⟩
theorem NR:ay prog 284 Rw:=⟨aq (by kernel_rfl),⟨underlying284,rfl⟩,fun h=>nomatch h⟩
def Rv:cE:=⟨.arr 7 9,7,112,.agg #[.string Zd,.string Zd,.string Zd,.string Zd,.string Zd,.string Zd,.string Zd],lc⟩
theorem NQ:ay prog 289 Rv:=⟨aq (by kernel_rfl),underlying289,fun h=>nomatch h⟩
def Ru:cE:=⟨.bc (.pointer 5),1,8,.pointer jp,lc⟩
theorem NP:ay prog 306 Ru:=⟨aq (by kernel_rfl),⟨underlying306,rfl⟩,fun h=>nomatch h⟩
def Rt:cE:=⟨.arr 5 9,5,80,.agg #[.string Zd,.string Zd,.string Zd,.string Zd,.string Zd],lc⟩
theorem NO:ay prog 307 Rt:=⟨aq (by kernel_rfl),underlying307,fun h=>nomatch h⟩
def Rs:cE:=⟨.dy [(0,9),(1,4)],2,24,.agg #[.string Zd,.bool lc],kw⟩
theorem NN:ay prog 320 Rs:=⟨aq (by kernel_rfl),⟨_,underlying320,rfl⟩,fun _=>cR underlying320 Tryz.stoodInHeld320 Tryz.eqGuardType320 (by decide)⟩
def Rr:cE:=⟨.dy [(0,9),(1,3)],2,24,.agg #[.string Zd,.int .i64 (0)],kw⟩
theorem NL:ay prog 325 Rr:=⟨aq (by kernel_rfl),⟨_,underlying325,rfl⟩,fun _=>cR underlying325 Tryz.stoodInHeld325 Tryz.eqGuardType325 (by decide)⟩
def Rq:cE:=⟨.bc (.unsafePointer),1,8,.pointer jp,lc⟩
theorem NK:ay prog 327 Rq:=⟨aq (by kernel_rfl),⟨underlying327,rfl⟩,fun h=>nomatch h⟩
def Rp:cE:=⟨.arr 24 5,24,24,.agg (.replicate 24 (.int .u8 (0))),lc⟩
theorem NJ:ay prog 337 Rp:=⟨aq (by kernel_rfl),underlying337,fun h=>nomatch h⟩
def Ro:cE:=⟨.arr 20 205,20,160,.agg (.replicate 20 (.int .u64 (0))),lc⟩
theorem NI:ay prog 343 Ro:=⟨aq (by kernel_rfl),underlying343,fun h=>nomatch h⟩
def Rn:cE:=⟨.arr 65 5,65,65,.agg (.replicate 65 (.int .u8 (0))),lc⟩
theorem NH:ay prog 344 Rn:=⟨aq (by kernel_rfl),underlying344,fun h=>nomatch h⟩
def Rm:cE:=⟨.arr 32 5,32,32,.agg (.replicate 32 (.int .u8 (0))),lc⟩
theorem NF:ay prog 345 Rm:=⟨aq (by kernel_rfl),underlying345,fun h=>nomatch h⟩
def Rl:cE:=⟨.arr 64 5,64,64,.agg (.replicate 64 (.int .u8 (0))),lc⟩
theorem ND:ay prog 346 Rl:=⟨aq (by kernel_rfl),underlying346,fun h=>nomatch h⟩
def J1:TT:=(.node (.node (.node (.node (.node (.node (.node .leaf 2 ty2 .leaf) 3 ty3 .leaf) 4 ty4 (.node (.node .leaf 5 ty5 .leaf) 9 ty9 .leaf)) 21 V1 (.node (.node (.node .leaf 22 V0 .leaf) 23 VZ .leaf) 25 VY (.node (.node .leaf 33 VX .leaf) 35 VW .leaf))) 37 VV (.node (.node (.node (.node .leaf 47 VU .leaf) 49 VT .leaf) 53 VS (.node (.node .leaf 60 VQ .leaf) 62 VP .leaf)) 71 VO (.node (.node (.node .leaf 73 VN .leaf) 74 VM .leaf) 76 VL (.node (.node .leaf 83 VK .leaf) 84 VI .leaf)))) 88 VH (.node (.node (.node (.node (.node .leaf 91 VG .leaf) 92 VF .leaf) 94 VE (.node (.node .leaf 98 VD .leaf) 99 VC .leaf)) 101 Sq (.node (.node (.node .leaf 103 Sp .leaf) 105 Sn .leaf) 110 Sm (.node (.node .leaf 113 Sl .leaf) 119 Sk .leaf))) 124 Sj (.node (.node (.node (.node .leaf 133 Si .leaf) 135 Sh .leaf) 143 Sg (.node (.node .leaf 148 Sf .leaf) 151 Se .leaf)) 155 Sd (.node (.node (.node .leaf 156 Sc .leaf) 164 Sb .leaf) 166 Sa (.node (.node .leaf 167 R9 .leaf) 169 R8 .leaf))))) 171 R7 (.node (.node (.node (.node (.node (.node .leaf 173 R6 .leaf) 179 R5 .leaf) 181 R4 (.node (.node .leaf 185 R3 .leaf) 186 R2 .leaf)) 195 R1 (.node (.node (.node .leaf 203 R0 .leaf) 205 RZ .leaf) 207 RY (.node (.node .leaf 215 RX .leaf) 217 RW .leaf))) 218 RV (.node (.node (.node (.node .leaf 220 RU .leaf) 222 RT .leaf) 232 RS (.node (.node .leaf 233 RR .leaf) 237 RQ .leaf)) 241 RP (.node (.node (.node .leaf 242 RO .leaf) 243 RN .leaf) 245 RL (.node (.node .leaf 247 RK .leaf) 252 RJ .leaf)))) 253 RI (.node (.node (.node (.node (.node .leaf 254 RH .leaf) 255 RG .leaf) 257 RF (.node (.node .leaf 263 RE .leaf) 265 RD .leaf)) 271 RC (.node (.node (.node .leaf 273 RB .leaf) 274 RA .leaf) 276 Rz (.node (.node .leaf 278 Ry .leaf) 280 Rx .leaf))) 284 Rw (.node (.node (.node (.node .leaf 289 Rv .leaf) 306 Ru .leaf) 307 Rt (.node (.node .leaf 320 Rs .leaf) 325 Rr .leaf)) 327 Rq (.node (.node (.node .leaf 337 Rp .leaf) 343 Ro .leaf) 344 Rn (.node (.node .leaf 345 Rm .leaf) 346 Rl .leaf))))))
theorem Fl:J1.XA (ay prog):=⟨Oy,⟨Tg,⟨Tt,⟨TA,⟨Vz,⟨VA,⟨VB,ac,ac⟩,ac⟩,⟨Vx,⟨Vy,ac,ac⟩,ac⟩⟩,⟨Tw,⟨Tx,⟨Tz,ac,ac⟩,ac⟩,⟨Tu,⟨Tv,ac,ac⟩,ac⟩⟩⟩,⟨Tn,⟨Tq,⟨Tr,⟨Ts,ac,ac⟩,ac⟩,⟨To,⟨Tp,ac,ac⟩,ac⟩⟩,⟨Tk,⟨Tl,⟨Tm,ac,ac⟩,ac⟩,⟨Th,⟨Ti,ac,ac⟩,ac⟩⟩⟩⟩,⟨OK,⟨OS,⟨Td,⟨Te,⟨Tf,ac,ac⟩,ac⟩,⟨Tb,⟨Tc,ac,ac⟩,ac⟩⟩,⟨OO,⟨OP,⟨OQ,ac,ac⟩,ac⟩,⟨OL,⟨ON,ac,ac⟩,ac⟩⟩⟩,⟨OE,⟨OH,⟨OI,⟨OJ,ac,ac⟩,ac⟩,⟨OF,⟨OG,ac,ac⟩,ac⟩⟩,⟨OB,⟨OC,⟨OD,ac,ac⟩,ac⟩,⟨Oz,⟨OA,ac,ac⟩,ac⟩⟩⟩⟩⟩,⟨N6,⟨Oi,⟨Oq,⟨Ov,⟨Ow,⟨Ox,ac,ac⟩,ac⟩,⟨Ot,⟨Ou,ac,ac⟩,ac⟩⟩,⟨Om,⟨On,⟨Oo,ac,ac⟩,ac⟩,⟨Oj,⟨Ol,ac,ac⟩,ac⟩⟩⟩,⟨Oc,⟨Of,⟨Og,⟨Oh,ac,ac⟩,ac⟩,⟨Od,⟨Oe,ac,ac⟩,ac⟩⟩,⟨N9,⟨Oa,⟨Ob,ac,ac⟩,ac⟩,⟨N7,⟨N8,ac,ac⟩,ac⟩⟩⟩⟩,⟨NR,⟨NX,⟨N3,⟨N4,⟨N5,ac,ac⟩,ac⟩,⟨NY,⟨NZ,ac,ac⟩,ac⟩⟩,⟨NU,⟨NV,⟨NW,ac,ac⟩,ac⟩,⟨NS,⟨NT,ac,ac⟩,ac⟩⟩⟩,⟨NK,⟨NO,⟨NP,⟨NQ,ac,ac⟩,ac⟩,⟨NL,⟨NN,ac,ac⟩,ac⟩⟩,⟨NH,⟨NI,⟨NJ,ac,ac⟩,ac⟩,⟨ND,⟨NF,ac,ac⟩,ac⟩⟩⟩⟩⟩⟩
def pC:Ty:=J1.find
theorem ab:cD prog pC:=TT.yE Fl
theorem cB:prog.follows .mixedOrders=kw:=rfl
theorem nV{Q:AQ}{nt:Nat}{k:List KI}{s:AS}{C:Prop}{b:Nat}{st:Stop}(h:b7 pC ⟨fun _=>jp,0,lc⟩ 400 nt k s True=io (C,b,st))(hC:C)(hg:gp prog b Q st):GO prog nt k Q s:=aR cB ab 400 h hC hg
theorem gA{Q:AQ}{nt:Nat}{k:List KI}{s:AS}{C:Prop}{b:Nat}{st:Stop}(h:b7 pC ⟨fun _=>jp,0,lc⟩ 400 nt k s True=io (C,b,st))(hg:gp prog b Q st)
  (hC:C:=by(repeat' (first|exact ac|exact rfl|exact aK.refl _|exact aK.bk (by assumption)|apply ZU))<;>first|omega|exact fQ (fun _=>rfl) _|(simp only[Zx];omega)|(simp;done)|(simp;omega)):GO prog nt k Q s:=aR cB ab 400 h hC hg
theorem gM(N:Nat){Q:AQ}{nt:Nat}{k:List KI}{s:AS}{C:Prop}{b:Nat}{st:Stop}(h:b7 pC ⟨fun _=>jp,0,lc⟩ N nt k s True=io (C,b,st))(hg:gp prog b Q st)
  (hC:C:=by(repeat' (first|exact ac|exact rfl|exact aK.refl _|exact aK.bk (by assumption)|apply ZU))<;>first|omega|exact fQ (fun _=>rfl) _|(simp only[Zx];omega)|(simp;done)|(simp;omega)):GO prog nt k Q s:=aR cB ab N h hC hg
theorem zp{nt:Nat}{Q:AQ}{k:List KI}{s:AS}{all rest:List Oper}{o:Oper}{c:Call}{g:FuncId}{args:List PV}{r:PV}{s':AS}(hc:Al.Pure prog g args r)(h:GO prog nt (.ops all rest::k) Q s')(ho:o.op= .call c:=by exact rfl)(hg:o.guard=jp:=by exact rfl)(ha:bY s.f c=io (g,args):=by exact rfl)(b:bq 0 args=kw:=by exact rfl)(hr:r.low 0=kw:=by exact rfl)(hp:putDst nt o r s=io s':=by exact rfl):GO prog nt (.ops all (o::rest)::k) Q s:=bg hc ho hg ha b hr hp h
theorem zL{ty:Ty}{d:List ResultVar}{e:Exit}{s:AS}{r r0:PV}(b:aK r0 r)(he:e= .normal∨e= .ret:=by first|exact .inr Z|exact .inl Z)(h:ly ty s d=io r0:=by exact rfl):Ff ty d r e s:=jz he h b
theorem zq{nt:Nat}{Q:AQ}{k:List KI}{s:AS}{all rest:List Oper}{o:Oper}{c:Call}{g:FuncId}{asv args:List PV}{os:List AO}{r:PV}{u:AH}{x:Nat}{s':AS}(L:List Nat)(hc:bW prog g args os r u x)(h:GO prog nt (.ops all rest::k) Q s')(ho:o.op= .call c:=by exact rfl)(hg:o.guard=jp:=by exact rfl)(ha:bY s.f c=io (g,asv):=by exact rfl)(hn:b4 L=kw:=by exact rfl)(y:L.all (fun j=>Zs j s.nx)=kw:=by exact rfl)(d:L.map s.h.get=os.map fun o=>io (o.dc (sig L s.nx)):=by exact rfl)(b:asv=ep (sig L s.nx) args:=by exact rfl)(hp:putDst nt o (r.dc (sig L s.nx)) (aO s L u x)=io s':=by exact rfl):GO prog nt (.ops all (o::rest)::k) Q s:=bM L hc ho hg ha hn y d b hp h
theorem zd{nt:Nat}{Q:AQ}{k:List KI}{s:AS}{all:List Oper}{todo pend:List (Nat×Oper)}{j:Nat}{o:Oper}{c:Call}{g:FuncId}{asv args:List PV}{os:List AO}{r:PV}{A:AH}{B:Nat}{s':AS}{y u:Prop}(L:List Nat)(hc:bW prog g args os r A B)(h:GO prog nt (.cX all (todo.filter fun x=>!Zz x.1 j) (bp pend o)::k) Q s')(hrd:fw todo=[(j,o)]:=by exact rfl)(ho:o.op= .call c:=by exact rfl)(ha:bY s.f c=io (g,asv):=by exact rfl)(hn:b4 L=kw:=by exact rfl)(D:L.all (fun j=>Zs j s.nx)=kw:=by exact rfl)(d:L.map s.h.get=os.map fun o=>io (o.dc (sig L s.nx)):=by exact rfl)(b:asv=ep (sig L s.nx) args:=by exact rfl)(hp:putDst nt o (r.dc (sig L s.nx)) (aO s L A B)=io s':=by exact rfl)(hg:cJ nt all s.f o=io kw:=by exact rfl)(hpb:jM all pend o=kw:=by exact rfl)(hE:pj todo [j]=kw:=by exact rfl)(hag:tJ pC nt all s todo pend=io y:=by exact rfl)(hCA:y:=by(repeat' (first|exact ac|exact rfl|exact aK.refl _|exact aK.bk (by assumption)|apply ZU))<;>first|omega|(simp only[Zx];omega)|(simp;done)|(simp;omega))(hag2:eD pC nt all s' (bp pend o)=io u:=by exact rfl)(hC2:u:=by(repeat' (first|exact ac|exact rfl|exact aK.refl _|exact aK.bk (by assumption)|apply ZU))<;>first|omega|(simp only[Zx];omega)|(simp;done)|(simp;omega)):GO prog nt (.cX all todo pend::k) Q s:=Cr ab L hc hrd ho ha hn D d b hp hg hpb hE hag hCA hag2 hC2 h
theorem n9{nt:Nat}{Q:AQ}{k:List KI}{s:AS}{all:List Oper}{todo pend:List (Nat×Oper)}{j:Nat}{o:Oper}{c:Call}{g:FuncId}{asv args:List PV}{r:PV}{s':AS}{u d:Prop}(hc:Al.Pure prog g args r)(h:GO prog nt (.cX all (todo.filter fun x=>!Zz x.1 j) (bp pend o)::k) Q s')(hrd:fw todo=[(j,o)]:=by exact rfl)(ho:o.op= .call c:=by exact rfl)(ha:bY s.f c=io (g,asv):=by exact rfl)(b:asv=ep (sig [] s.nx) args:=by exact rfl)(hp:putDst nt o (r.dc (sig [] s.nx)) (aO s [] [] 0)=io s':=by exact rfl)(hg:cJ nt all s.f o=io kw:=by exact rfl)(hpb:jM all pend o=kw:=by exact rfl)(hE:pj todo [j]=kw:=by exact rfl)(hag:tJ pC nt all s todo pend=io u:=by exact rfl)(hCA:u:=by(repeat' (first|exact ac|exact rfl|exact aK.refl _|exact aK.bk (by assumption)|apply ZU))<;>first|omega|(simp only[Zx];omega)|(simp;done)|(simp;omega))(hag2:eD pC nt all s' (bp pend o)=io d:=by exact rfl)(hC2:d:=by(repeat' (first|exact ac|exact rfl|exact aK.refl _|exact aK.bk (by assumption)|apply ZU))<;>first|omega|(simp only[Zx];omega)|(simp;done)|(simp;omega)):GO prog nt (.cX all todo pend::k) Q s:=Cr ab [] hc.det hrd ho ha Z Z Z b hp hg hpb hE hag hCA hag2 hC2 h
theorem zW{n0:Nat}{L:List Nat}{s t:AS}(hh:n7 t.nx (sg n0 L) s.h t.h)(h1:Zz t.nx (n0+L.length)=kw:=by exact rfl)(h2:aa2 n0 s.nx=kw:=by exact rfl)(h3:L.all (fun j=>Zs j s.nx)=kw:=by exact rfl)(hf:Gx t.nx (sg n0 L) s.f t.f:=by repeat' (first|exact ac|exact aK.refl _|exact rfl|apply ZU))(b:b4 (ew (sg n0 L) t.h)=kw:=by exact rfl):Wk n0 L s t:=wk h1 h2 h3 hf hh b
theorem zM{n0:Nat}{L:List Nat}{s t:AS}(hf:Gx t.nx (sg n0 L) s.f t.f)(hh:n7 t.nx (sg n0 L) s.h t.h)(h1:Zz t.nx (n0+L.length)=kw:=by exact rfl)(h2:aa2 n0 s.nx=kw:=by exact rfl)(h3:L.all (fun j=>Zs j s.nx)=kw:=by exact rfl)(b:b4 (ew (sg n0 L) t.h)=kw:=by exact rfl):Wk n0 L s t:=wk h1 h2 h3 hf hh b
theorem zK{n i:Nat}{σ:Nat->Nat}{h r:AH}{cs:List PV}{T0:Option TypeId}{c:List IV}(hr:n7 n σ h r)(ho:h.get (σ i)=io (.cells cs T0):=by exact rfl)(he:cs=c.map .iv:=by exact rfl)(hi:Zs i n=kw:=by exact rfl):n7 n σ h ((i,io (aj c))::r):=hC ho he hi hr
theorem zS{n i:Nat}{σ:Nat->Nat}{h r:AH}{α:Type}{sz:Nat}{es:List (List PV)}{l:List α}{f:α->List IV}(hr:n7 n σ h r)(ho:h.get (σ i)=io (.row sz es):=by exact rfl)(he:es=l.map fun x=>(f x).map .iv:=by exact rfl)(hi:Zs i n=kw:=by exact rfl):n7 n σ h ((i,io (aE sz l f))::r):=hR ho he hi hr
theorem zI{a b:Prop}(l:a)(r:b):a∧b:=⟨l,r⟩
theorem zO{n i:Nat}{σ:Nat->Nat}{h r:AH}{o:AO}(hr:n7 n σ h r)(he: ∃p,h.get (σ i)=io p∧fb p (o.dc σ):=by exact⟨_,rfl,.of_eq Z⟩)(hi:i<n:=by exact Y5 Z)(b:o.low n:=by exact rfl):n7 n σ h ((i,io o)::r):=⟨he,hi,b,hr⟩
theorem zD{ty:Ty}{s:AS}{l:List ResultVar}{m:Nat}{r r0:PV}{h:AH}{n:Nat}{e:Exit}(L:List Nat)(hr:ly ty s l=io r0)(hw:Wk m L ⟨[(0,r0)],s.h,s.nx⟩ ⟨[(0,r)],h,n⟩)(he:e= .normal∨e= .ret:=by first|exact .inr Z|exact .inl Z):CN ty l m r h n e s:=fp L he hr hw
theorem zU{ty:Ty}{d:List ResultVar}{nt:Nat}{k:List KI}{s s':AS}{e:Exit}{C:Prop}{b:Nat}{r r0:PV}(h:b7 pC ⟨fun _=>jp,0,lc⟩ 400 nt k s True=io (C,b,.fin e s'))(hr:r0=r:=by exact rfl)(he:e= .normal∨e= .ret:=by first|exact .inr Z|exact .inl Z)(h1:ly ty s' d=io r0:=by exact rfl)(hC:C:=by(repeat' (first|exact ac|exact rfl|exact aK.refl _|exact aK.bk (by assumption)|apply ZU))<;>first|omega|exact fQ (fun _=>rfl) _|(simp only[Zx];omega)|(simp;done)|(simp;omega)):GO prog nt k (Ff ty d r) s:=gA h (jz he h1 (.of_eq hr)) hC
theorem zC{n i:Nat}{σ:Nat->Nat}{h r:AH}{V:Type}{kc:KC}{ev:V->IV}{z:V}{j:Value}{b:PV->V}{m d:List (kc.K×V)}(hr:n7 n σ h r)(ho:h.get (σ i)=io (.map kc ev z j b m):=by exact rfl)(he:m=d:=by exact rfl)(hi:Zs i n=kw:=by exact rfl):n7 n σ h ((i,io (.map kc ev z j b d))::r):=hM ho he hi hr
theorem zJ{Q:AQ}{nt:Nat}{k:List KI}{s:AS}{C:Prop}{d:Nat}{st:Stop}{a b:Prop}(h:b7 pC ⟨fun _=>jp,0,lc⟩ 400 nt k s True=io (C,d,st))(e:gp prog d Q st=(a∧b))(l:a)(r:b)(hC:C:=by(repeat' (first|exact ac|exact rfl|exact aK.refl _|exact aK.bk (by assumption)|apply ZU))<;>first|omega|exact fQ (fun _=>rfl) _|(simp only[Zx];omega)|(simp;done)|(simp;omega)):GO prog nt k Q s:=gA h (e.mpr ⟨l,r⟩) hC
theorem zE{Q:AQ}{nt:Nat}{k:List KI}{s:AS}{C:Prop}{d:Nat}{st:Stop}{a b:Prop}(h:b7 pC ⟨fun _=>jp,0,lc⟩ 400 nt k s True=io (C,d,st))(e:gp prog d Q st=(a∧b))(r:b)(l:a)(hC:C:=by(repeat' (first|exact ac|exact rfl|exact aK.refl _|exact aK.bk (by assumption)|apply ZU))<;>first|omega|exact fQ (fun _=>rfl) _|(simp only[Zx];omega)|(simp;done)|(simp;omega)):GO prog nt k Q s:=gA h (e.mpr ⟨l,r⟩) hC
theorem zA{b:Bool}(h:(!b)=kw):b=lc:=by simpa using h
theorem zB{b:Bool}(h:(!b)=lc):b=kw:=by simpa using h
theorem zX{p:Prop}[Decidable p](h:(!decide p)=kw): ¬p:=by simpa using h
theorem zY{p:Prop}[Decidable p](h:(!decide p)=lc):p:=by simpa using h
theorem zT{p:Prop}[Decidable p](h:decide p=kw):p:=of_decide_eq_true h
theorem zF{p:Prop}[Decidable p](h:decide p=lc): ¬p:=of_decide_eq_false h
theorem zN{a b:Nat}(h:li ((a:Int)<(b:Int))=kw):a<b:=Int.ofNat_lt.1 (of_decide_eq_true h)
theorem zG{a b:Nat}(h:li ((a:Int)<(b:Int))=lc):b<=a:=aba fun hh=>absurd (Int.ofNat_lt.2 hh) (of_decide_eq_false h)
end Go.Proofs.YtflegjieadkonaaGreatDoor
namespace Go.Proofs.YtflegjieadkonaaGreatDoor
open Go Go.Al
abbrev ak:=ByteArray
structure tK where
 kind:Int
 num:Int
 sym:ak
 deriving Inhabited,DecidableEq
structure Term where
 kind:Int
 var:ak
 val:tK
 deriving Inhabited,DecidableEq
inductive Expr where
 |mk (kind:Int) (var:ak) (val:tK) (op:Int) (args:List Expr)
instance:Inhabited Expr:=⟨.mk 0 Zd ⟨0,0,Zd⟩ 0 []⟩
def Expr.kind:Expr->Int| .mk k _ _ _ _=>k
def Expr.var:Expr->ak| .mk _ v _ _ _=>v
def Expr.val:Expr->tK| .mk _ _ v _ _=>v
def Expr.op:Expr->Int| .mk _ _ _ o _=>o
def Expr.args:Expr->List Expr| .mk _ _ _ _ a=>a
structure Atom where
 rel:ak
 ad:List Term
 deriving Inhabited,DecidableEq
structure Pos where
 line:Int
 zy:Int
 deriving Inhabited,DecidableEq
inductive Lit where
 |mk (kind:Int) (atom:Atom) (op:Int) (left right:Expr) (c7:Int) (a8:ak) (jT:Expr) (ar:List Lit) (at_:Pos)
instance:Inhabited Lit:=⟨.mk 0 em 0 em em 0 Zd em [] ⟨0,0⟩⟩
def Lit.kind:Lit->Int| .mk k _ _ _ _ _ _ _ _ _=>k
def Lit.atom:Lit->Atom| .mk _ a _ _ _ _ _ _ _ _=>a
def Lit.op:Lit->Int| .mk _ _ o _ _ _ _ _ _ _=>o
def Lit.left:Lit->Expr| .mk _ _ _ l _ _ _ _ _ _=>l
def Lit.right:Lit->Expr| .mk _ _ _ _ r _ _ _ _ _=>r
def Lit.c7:Lit->Int| .mk _ _ _ _ _ f _ _ _ _=>f
def Lit.a8:Lit->ak| .mk _ _ _ _ _ _ v _ _ _=>v
def Lit.jT:Lit->Expr| .mk _ _ _ _ _ _ _ o _ _=>o
def Lit.ar:Lit->List Lit| .mk _ _ _ _ _ _ _ _ b _=>b
def Lit.at:Lit->Pos| .mk _ _ _ _ _ _ _ _ _ p=>p
structure eO where
 func:Int
 var:ak
 dZ:Expr
 body:List Lit
 deriving Inhabited
def Lit.agg(l:Lit):eO:=⟨l.c7,l.a8,l.jT,l.ar⟩
structure ah where
 head:Atom
 body:List Lit
 at_:Pos
 deriving Inhabited
structure Decl where
 name:ak
 types:List Int
 at_:Pos
 deriving Inhabited
structure Prog where
 aD:List Decl
 rules:List ah
 deriving Inhabited
structure Fact where
 rel:ak
 args:List tK
 deriving Inhabited
def tK.c(v:tK):List IV:=[iI v.kind,iI v.num,iS v.sym]
def Term.c(t:Term):List IV:=[iI t.kind,iS t.var,iI t.val.kind,iI t.val.num,iS t.val.sym]
def cz(s:ak):List IV:=[iS s]
def aY(n:Int):List IV:=[iI n]
abbrev strs(l:List ak):IV:=cZ 1 l cz
def Atom.c(a:Atom):List IV:=[iS a.rel,cZ 5 a.ad Term.c]
mutual
def Expr.cr:Expr->List IV
 | .mk k v val op args=> [iI k,iS v,iI val.kind,iI val.num,iS val.sym,iI op,.de 7 args.length (fun j=>(Expr.CC args).getD j [])]
def Expr.CC:List Expr->List (List IV)
 | []=> []
 |e::r=>e.cr::Expr.CC r
end
def Expr.c(e:Expr):List IV:=[iI e.kind,iS e.var,iI e.val.kind,iI e.val.num,iS e.val.sym,iI e.op,.de 7 e.args.length (fun j=>(Expr.CC e.args).getD j [])]
def Expr.c1(e:Expr):List IV:=[iI e.kind,iS e.var,iI e.val.kind,iI e.val.num,iS e.val.sym,iI e.op,cZ 7 e.args Expr.c]
theorem Expr.Mz(e:Expr):e.cr=e.c:=by cases e;rfl
theorem Expr.tC: ∀(l:List Expr) (k:Nat),k<l.length->(Expr.CC l).getD k []=(l.getD k em).c
 |e::r,0,_=>by simp[Expr.CC,Expr.Mz]
 |e::r,k+1,h=>by simpa[Expr.CC]using Expr.tC r k (by simpa using h)
 | [],k,h=>by simp at h
theorem UI(e:Expr):n6 (.de 7 e.args.length (fun j=>(Expr.CC e.args).getD j [])) (cZ 7 e.args Expr.c):= .de Z (Expr.tC e.args)
theorem HP(e:Expr):n6 (cZ 7 e.args Expr.c) (.de 7 e.args.length (fun j=>(Expr.CC e.args).getD j [])):= .de Z (fun k b=>(Expr.tC e.args k b).symm)
mutual
def Lit.cr:Lit->List IV
 | .mk kind atom op left right c7 a8 jT ar at_=>
  iI kind::(atom.c++(iI op::(left.c++(right.c++(iI c7::iS a8::(jT.c++ [.de 30 ar.length (fun j=>(Lit.CC ar).getD j []),iI at_.line,iI at_.zy]))))))
def Lit.CC:List Lit->List (List IV)
 | []=> []
 |e::r=>e.cr::Lit.CC r
end
def Lit.cw(l:Lit)(b:IV):List IV:=
 [iI l.kind,iS l.atom.rel,cZ 5 l.atom.ad Term.c,iI l.op,
  iI l.left.kind,iS l.left.var,iI l.left.val.kind,iI l.left.val.num,iS l.left.val.sym,iI l.left.op,.de 7 l.left.args.length (fun j=>(Expr.CC l.left.args).getD j []),
  iI l.right.kind,iS l.right.var,iI l.right.val.kind,iI l.right.val.num,iS l.right.val.sym,iI l.right.op,.de 7 l.right.args.length (fun j=>(Expr.CC l.right.args).getD j []),
  iI l.c7,iS l.a8,
  iI l.jT.kind,iS l.jT.var,iI l.jT.val.kind,iI l.jT.val.num,iS l.jT.val.sym,iI l.jT.op,.de 7 l.jT.args.length (fun j=>(Expr.CC l.jT.args).getD j []),
  b,iI l.at.line,iI l.at.zy]
def uL(l:List Lit):IV:= .de 30 l.length (fun j=>(Lit.CC l).getD j [])
def Lit.c(l:Lit):List IV:=l.cw (uL l.ar)
abbrev lits(l:List Lit):IV:=cZ 30 l Lit.c
def Lit.c1(l:Lit):List IV:=l.cw (lits l.ar)
theorem Lit.Mz(e:Lit):e.cr=e.c:=by cases e;rfl
theorem Lit.tC: ∀(l:List Lit) (k:Nat),k<l.length->(Lit.CC l).getD k []=(l.getD k em).c
 |e::r,0,_=>by simp[Lit.CC,Lit.Mz]
 |e::r,k+1,h=>by simpa[Lit.CC]using Lit.tC r k (by simpa using h)
 | [],k,h=>by simp at h
theorem kG(l:List Lit):n6 (uL l) (lits l):= .de Z (Lit.tC l)
theorem FX(l:List Lit):n6 (lits l) (uL l):= .de Z (fun k b=>(Lit.tC l k b).symm)
def eO.cw(a:eO)(b:IV):List IV:=[iI a.func,iS a.var,iI a.dZ.kind,iS a.dZ.var,iI a.dZ.val.kind,iI a.dZ.val.num,iS a.dZ.val.sym,iI a.dZ.op,.de 7 a.dZ.args.length (fun j=>(Expr.CC a.dZ.args).getD j []),b]
def eO.c(a:eO):List IV:=a.cw (uL a.body)
def eO.c1(a:eO):List IV:=a.cw (lits a.body)
def ah.c(r:ah):List IV:=[iS r.head.rel,cZ 5 r.head.ad Term.c,lits r.body,iI r.at_.line,iI r.at_.zy]
def Decl.c(r:Decl):List IV:=[iS r.name,cZ 1 r.types aY,iI r.at_.line,iI r.at_.zy]
def Prog.c(p:Prog):List IV:=[cZ 4 p.aD Decl.c,cZ 5 p.rules ah.c]
def Fact.c(f:Fact):List IV:=[iS f.rel,cZ 3 f.args tK.c]
theorem Expr.xd(e:Expr):aK (ag e.c) (ag e.c1):= .agg ⟨.refl _,.refl _,.refl _,.refl _,.refl _,.refl _,.iv (UI e),ac⟩
theorem Expr.Jb(e:Expr):aK (ag e.c1) (ag e.c):= .agg ⟨.refl _,.refl _,.refl _,.refl _,.refl _,.refl _,.iv (HP e),ac⟩
theorem Lit.HU(l:Lit){b b':IV}(h:n6 b b'):aK (ag (l.cw b)) (ag (l.cw b')):=
 .agg ⟨.refl _,.refl _,.refl _,.refl _,.refl _,.refl _,.refl _,.refl _,.refl _,.refl _,.refl _,.refl _,.refl _,.refl _,.refl _,.refl _,.refl _,.refl _,.refl _,.refl _,.refl _,.refl _,.refl _,.refl _,.refl _,.refl _,.refl _,.iv h,.refl _,.refl _,ac⟩
theorem Lit.xd(l:Lit):aK (ag l.c) (ag l.c1):=l.HU (kG _)
theorem eO.HU(l:eO){b b':IV}(h:n6 b b'):aK (ag (l.cw b)) (ag (l.cw b')):=
 .agg ⟨.refl _,.refl _,.refl _,.refl _,.refl _,.refl _,.refl _,.refl _,.refl _,.iv h,ac⟩
theorem eO.xd(l:eO):aK (ag l.c) (ag l.c1):=l.HU (kG _)
theorem eO.Jb(l:eO):aK (ag l.c1) (ag l.c):=l.HU (FX _)
mutual
def Expr.size:Expr->Nat
 | .mk _ _ _ _ args=>1+Expr.az args
def Expr.az:List Expr->Nat
 | []=>0
 |e::r=>e.size+Expr.az r
end
mutual
def Lit.size:Lit->Nat
 | .mk _ a _ l r _ _ o b _=>2+a.ad.length+l.size+r.size+o.size+Lit.az b
def Lit.az:List Lit->Nat
 | []=>0
 |e::r=>e.size+Lit.az r
end
theorem Expr.size_eq(e:Expr):e.size=1+Expr.az e.args:=by cases e;rfl
theorem Lit.size_eq(l:Lit):l.size=2+l.atom.ad.length+l.left.size+l.right.size+l.jT.size+Lit.az l.ar:=by cases l;rfl
theorem Expr.aF: ∀(l:List Expr) (k:Nat),k<l.length->(l.getD k em).size<=Expr.az l
 |e::r,0,_=>by simp[Expr.az]
 |e::r,k+1,h=>by
  have:=Expr.aF r k (by simpa using h);simp only[aav,Expr.az];omega
 | [],k,h=>by simp at h
theorem Lit.aF: ∀(l:List Lit) (k:Nat),k<l.length->(l.getD k em).size<=Lit.az l
 |e::r,0,_=>by simp[Lit.az]
 |e::r,k+1,h=>by
  have:=Lit.aF r k (by simpa using h);simp only[aav,Lit.az];omega
 | [],k,h=>by simp at h
theorem Expr.size_pos(e:Expr):1<=e.size:=by rw[e.size_eq];omega
theorem Lit.size_pos(e:Lit):2<=e.size:=by rw[e.size_eq];omega
theorem Expr.au: ∀(l:List Expr),l.length<=Expr.az l
 | []=>Zc _
 |e::r=>by have:=e.size_pos;have:=Expr.au r;simp only[ZI,Expr.az];omega
theorem Lit.au: ∀(l:List Lit),l.length<=Lit.az l
 | []=>Zc _
 |e::r=>by have:=e.size_pos;have:=Lit.au r;simp only[ZI,Lit.az];omega
def ah.size(r:ah):Nat:=r.head.ad.length+Lit.az r.body
end Go.Proofs.YtflegjieadkonaaGreatDoor
namespace Go.Proofs.YtflegjieadkonaaGreatDoor
open Go Go.Al Go.Proofs.Tryz
def aH(l:List ak)(s:ak):Bool:=l.any fun x=>li (x=s)
theorem JB(l:List ak)(s:ak):Pure prog 212 [.iv (strs l),pS s] (pB (aH l s)):=by
 refine mA (bF func212 Z (by decide)) ⟨_,_,Zo⟩ fun d=>?_;simp only[maxLen]at d;refine ae ab func212 Z (by decide) ntmps212 Z (by simp) Z ?_;refine aR cB ab 100 Z ac ?_;refine aw 0 l.length (Zf _) (fun i=>⟨[(0,.iv (strs l)),(1,pS s),(5,pI i)],[],0⟩) (fun i=>aH (l.take i) s=lc) [] Z (lJ Z Z (bv (bv (bv ac))) Z) fun i x u=>?_;refine aR cB ab 100 Z ac ?_;refine zI (fun b=>?_) (fun b=>?_)
 .have b:=ci b;refine aR cB ab 100 Z ⟨ac,by omega⟩ ?_;refine zI (fun j=>?_) (fun j=>?_)
  .refine aR cB ab 100 Z ac ?_;refine jz (.inr Z) Z (.of_eq ?_);rw[aH,iN b j]
  .refine aR cB ab 100 Z ⟨ac,by unfold jk;omega⟩ ?_;exact⟨b,(aW u b).2 j,[],lJ Z Z (bv (bv (bv ac))) Z⟩
 .have b:=co b;refine aR cB ab 100 Z ac ?_;refine jz (.inr Z) Z (.of_eq ?_);rw[aH,any_none u b]
def bV(s:ak)(a:List ak×Bool)(x:ak):List ak×Bool:=
 if(a.2||decide (x=s))=lc∧(!(Op.bytesLess x.toList s.toList||decide (x=s)))=kw then(a.1++ [s]++ [x],kw) else(a.1++ [x],a.2||decide (x=s))
def b6(l:List ak)(s:ak):List ak:=
 let r:=l.foldl (bV s) ([],lc)
 if r.2 then r.1 else r.1++ [s]
def iO(l:List ak)(s:ak)(i:Nat):List ak×Bool:=(l.take i).foldl (bV s) ([],lc)
theorem sH{l:List ak}{s:ak}{i:Nat}(h:i<l.length):iO l s (i+1)=bV s (iO l s i) (l.getD i em):=cK h
theorem sI{l:List ak}{s:ak}{i:Nat}(h:l.length<=i):b6 l s=if(iO l s i).2 then(iO l s i).1 else(iO l s i).1++ [s]:=by
 simp only[iO,mb h];rfl
theorem Bv(s:ak)(a:List ak×Bool)(x:ak)(n:Nat)(h:a.1.length<=n+(if a.2 then 1 else 0)):(bV s a x).1.length<=(n+1)+(if(bV s a x).2 then 1 else 0):=by
 obtain⟨b,a2⟩:=a;simp only[bV];cases a2<;>cases hd:li (x=s)<;>simp only[aan,abF,aaG,if_false,if_true,aaK,abi,false_and,true_and,reduceCtorEq]at h ⊢ <;>(try split)<;>simp at h ⊢ <;>omega
theorem rf(l:List ak)(s:ak): ∀i,i<=l.length->(iO l s i).1.length<=i+(if(iO l s i).2 then 1 else 0)
 |0,_=>by simp[iO]
 |i+1,h=>by
  rw[sH (by omega)];exact Bv s _ _ i (rf l s i (by omega))
theorem Nn(l:List ak)(s:ak)(hb:l.length<=1000000000000):Pure prog 111 [.iv (strs l),pS s] (.iv (strs (b6 l s))):=by
 refine ae ab func111 Z (by decide) ntmps111 Z (by simp) Z ?_;refine aR cB ab 100 Z ac ?_;refine fY 5 1 Z ?_;refine aw 0 l.length (Zf _) (fun i=>⟨[(0,.iv (strs l)),(1,pS s),(5,.sl 1 0 (iO l s i).1.length 1),(6,pB (iO l s i).2),(7,pI i)],[(1,io (aE 1 (iO l s i).1 cz))],2⟩) (fun _=>True) [0] ac
  (zM (bv (bv (bv ⟨.rC Z,rfl,bv trivial⟩))) (zS trivial)) fun i D F=>?_
 have y:=rf l s i D;have B:(iO l s i).1.length<=i+1:=by split at y<;>omega
 refine aR cB ab 100 Z ac ?_;refine zI (fun j=>?_) (fun j=>?_)
 .have j:=ci j;have b:=sH (s:=s) j;simp only[bV]at b;refine aR cB ab 100 Z ⟨ac,by omega⟩ ?_;refine zI (fun d=>?_) (fun d=>?_)
  .have d:li (l.getD i em=s)=kw:=d;rw[d,abi,be (by simp)]at b;refine aR cB ab 300 Z ?_ ⟨j,ac,[3],zM (bv (bv ⟨.row (by rw[b];simp),rfl,.rC (by rw[b]),rfl,bv ac⟩)) (hR Z (by rw[b];simp;rfl) Z ac)⟩
   repeat' (first|exact ac|exact rfl|apply ZU)
   all_goals first|omega|(simp;omega)|simp
  .have d:li (l.getD i em=s)=lc:=d;rw[d,aaK,aaK]at b;refine aR cB ab 300 Z ac ?_;refine zI (fun A=>?_) (fun A=>?_)
   .have x:(iO l s i).2=lc:=by simpa using A
    refine aR cB ab 300 Z ?_ ?_
    .repeat' (first|exact ac|exact rfl|apply ZU)
     all_goals omega
    refine zI (fun u=>?_) (fun u=>?_)
    .have u:(!(Op.bytesLess (l.getD i em).toList s.toList||decide (l.getD i em=s)))=kw:=u;rw[d,aaK]at u;rw[am ⟨x,u⟩]at b;refine aR cB ab 300 Z ?_ ⟨j,ac,[5],zM (bv (bv ⟨.row (by rw[b];simp),rfl,.rC (by rw[b]),rfl,bv ac⟩)) (hR Z (by rw[b,Ze,Ze];rfl) Z ac)⟩
     repeat' (first|exact ac|exact rfl|apply ZU)
     all_goals first|omega|(simp;omega)|simp
    .have u:(!(Op.bytesLess (l.getD i em).toList s.toList||decide (l.getD i em=s)))=lc:=u;rw[d,aaK]at u;rw[be (by rw[u];simp)]at b;refine aR cB ab 300 Z ?_ ⟨j,ac,[3],zM (bv (bv ⟨.row (by rw[b];simp),rfl,.of_eq (by rw[b];rfl),rfl,bv ac⟩)) (hR Z (by rw[b];simp;rfl) Z ac)⟩
     repeat' (first|exact ac|exact rfl|apply ZU)
     all_goals first|omega|(simp;omega)|simp
   .have x:(iO l s i).2=kw:=by simpa using A
    rw[be (by rw[x];simp)]at b;refine aR cB ab 300 Z ?_ ⟨j,ac,[3],zM (bv (bv ⟨.row (by rw[b];simp),rfl,.of_eq (by rw[b];rfl),rfl,bv ac⟩)) (hR Z (by rw[b];simp;rfl) Z ac)⟩
    repeat' (first|exact ac|exact rfl|apply ZU)
    all_goals first|omega|(simp;omega)|simp
 .have j:=co j;have b:=sI (s:=s) j;refine aR cB ab 100 Z ac ?_;refine zI (fun d=>?_) (fun d=>?_)
  .have d:(iO l s i).2=lc:=by simpa using d
   rw[d,be (by simp)]at b;refine aR cB ab 300 Z ?_ (cS (.inr Z) Z Z (by rw[b];simp;rfl) (by rw[b];simp))
   repeat' (first|exact ac|exact rfl|apply ZU)
   all_goals first|omega|(simp;omega)|simp
  .have d:(iO l s i).2=kw:=by simpa using d
   rw[d,am Z]at b;refine aR cB ab 300 Z ac (cS (.inr Z) Z Z (by rw[b]) (by rw[b]))
theorem jD(l:List ak)(s:ak):(b6 l s).length<=l.length+1:=by
 have h:=rf l s l.length (Zc _);rw[sI (Zc _)];split
 .rename_i b;rw[b]at h;simpa using h
 .rename_i b;simp[b]at h;simp;omega
def cy(l m:List ak):List ak:=m.foldl b6 l
theorem eP: ∀(m l:List ak),(cy l m).length<=l.length+m.length
 | [],l=>by simp[cy]
 |x::r,l=>by
  have d:=jD l x;have b:=eP r (b6 l x);simp only[cy,ZD,ZI]at b ⊢;omega
theorem uU(l m:List ak)(i:Nat):(cy l (m.take i)).length<=l.length+m.length:=by
 have:=eP (m.take i) l;have b:(m.take i).length<=m.length:=by simp;omega
 omega
theorem Bw{l m:List ak}{i:Nat}(h:i<m.length):cy l (m.take (i+1))=b6 (cy l (m.take i)) (m.getD i em):=cK h
theorem UU(l m:List ak)(hb:l.length+m.length<=1000000000000):Pure prog 120 [.iv (strs l),.iv (strs m)] (.iv (strs (cy l m))):=by
 refine ae ab func120 Z (by decide) ntmps120 Z (by simp) Z ?_;refine aR cB ab 100 Z ac ?_;refine aw 0 m.length (Zf _) (fun i=>⟨[(0,.iv (strs (cy l (m.take i)))),(1,.iv (strs m)),(5,pI i)],[],0⟩) (fun _=>True) [] ac (lJ Z Z (bv (bv (bv ac))) Z) fun i j d=>?_;have u:=uU l m i;refine aR cB ab 100 Z ac ?_;refine zI (fun b=>?_) (fun b=>?_)
 .have b:=ci b;refine aR cB ab 100 Z ⟨ac,by omega⟩ (bg (Nn _ _ (by omega)) Z Z Z Z Z Z ?_);refine aR cB ab 100 Z ⟨ac,by unfold jk;omega⟩ ?_;exact⟨b,ac,[],lJ Z Z ⟨.of_eq (by rw[Bw b];rfl),rfl,bv (bv ac)⟩ Z⟩
 .have b:=co b;refine aR cB ab 100 Z ac (jz (.inr Z) Z (.of_eq ?_));rw[Zh b];rfl
theorem X4(s:ak):Pure prog 111 [.iv (.v (.slice jp 0 0)),pS s] (.iv (strs (b6 [] s))):=(Nn [] s (by decide)).le ⟨.nil _ _,.refl _,ac⟩
def lk(a:List ak)(t:Term):List ak:=if t.kind=1 then b6 a t.var else a
def bn(a:Atom):List ak:=a.ad.foldl lk []
theorem Fm: ∀(l:List Term) (a:List ak),(l.foldl lk a).length<=a.length+l.length
 | [],a=>by simp
 |t::r,a=>by
  have h:=Fm r (lk a t);have b:(lk a t).length<=a.length+1:=by
   unfold lk;split
   .exact jD _ _
   .omega
  simp only[ZD,ZI];omega
theorem dw(a:Atom):(bn a).length<=a.ad.length:=by have:=Fm a.ad [];simpa[bn]using this
theorem S0(a:Atom)(hb:a.ad.length<=1000000000000):Pure prog 77 [ag a.c] (.iv (strs (bn a))):=by
 refine ae ab func77 Z (by decide) ntmps77 Z (by simp) Z ?_;refine aR cB ab 100 Z ac ?_;refine aw 0 a.ad.length (Zf _) (fun i=>⟨[(1,.ptr 0 0),(3,.iv (strs ((a.ad.take i).foldl lk []))),(4,pI i)],[(0,io (aj a.c))],1⟩) (fun _=>True) [] ac
  (zM (bv ⟨.nil _ _,rfl,bv trivial⟩) (zK trivial)) fun i A y=>?_
 have x:=Fm (a.ad.take i) [];simp only[aai,ZP]at x;refine aR cB ab 100 Z ac ?_;refine zI (fun d=>?_) (fun d=>?_)
 .have d:=ci d;have u:=cK (g:=lk) (b:=[]) d;simp only[lk]at u;refine aR cB ab 100 Z ⟨ac,by omega⟩ ?_;refine zI (fun j=>?_) (fun j=>?_)
  .have j:(a.ad.getD i em).kind=1:=zT j;rw[am j]at u;refine aR cB ab 100 Z ⟨ac,by omega⟩ (bg (Nn _ _ (by omega)) Z Z Z Z Z Z ?_);refine aR cB ab 100 Z ⟨ac,by unfold jk;omega⟩ ?_;exact⟨d,ac,[],zM (bv ⟨.of_eq (by simp only[u];rfl),rfl,bv ac⟩) (zK ac)⟩
  .have j: ¬(a.ad.getD i em).kind=1:=zF j;rw[be j]at u;refine aR cB ab 100 Z ⟨ac,by unfold jk;omega⟩ ?_;exact⟨d,ac,[],zM (bv ⟨.of_eq (by simp only[u];rfl),rfl,bv ac⟩) (zK ac)⟩
 .have d:=co d;refine aR cB ab 100 Z ac (jz (.inr Z) Z (.of_eq ?_));rw[Zh d];rfl
mutual
def aI:Expr->List ak
 | .mk k v _ _ args=>if k=1 then b6 [] v else if k=4 then gx [] args else[]
def gx(a:List ak):List Expr->List ak
 | []=>a
 |e::r=>gx (cy a (aI e)) r
end
theorem lV: ∀(l:List Expr) (a:List ak),gx a l=l.foldl (fun a e=>cy a (aI e)) a
 | [],_=>rfl
 |e::r,a=>by simp only[gx,ZD];exact lV r _
theorem wm(e:Expr):aI e=if e.kind=1 then b6 [] e.var else if e.kind=4 then e.args.foldl (fun a e=>cy a (aI e)) [] else[]:=by
 cases e with
 |mk k v val op args=>simp only[aI,Expr.kind,Expr.var,Expr.args,lV];rfl
mutual
theorem eZ: ∀e:Expr,(aI e).length<=e.size
 | .mk k v _ _ args=>by
  simp only[aI,Expr.size];split
  .have:=jD [] v;simp at this;omega
  .split
   .have:=nX args [];simp at this;omega
   .simp
theorem nX: ∀(l:List Expr) (a:List ak),(gx a l).length<=a.length+Expr.az l
 | [],a=>by simp[gx,Expr.az]
 |e::r,a=>by
  have b:=nX r (cy a (aI e));have d:=eP (aI e) a;have j:=eZ e;simp only[gx,Expr.az];omega
end
theorem Lit.sU: ∀(l:List Lit) (i:Nat),Lit.az (l.take i)<=Lit.az l
 | [],i=>by simp
 |e::r,0=>by simp[Lit.az]
 |e::r,i+1=>by have:=Lit.sU r i;simp only[aau,Lit.az];omega
theorem Expr.b3: ∀(l:List Expr) (i:Nat),i<l.length->Expr.az (l.take i)+(l.getD i em).size<=Expr.az l
 |e::r,0,_=>by simp[Expr.az]
 |e::r,i+1,h=>by have:=Expr.b3 r i (by simpa using h);simp only[aau,aav,Expr.az];omega
 | [],i,h=>by simp at h
theorem Lit.b3: ∀(l:List Lit) (i:Nat),i<l.length->Lit.az (l.take i)+(l.getD i em).size<=Lit.az l
 |e::r,0,_=>by simp[Lit.az]
 |e::r,i+1,h=>by have:=Lit.b3 r i (by simpa using h);simp only[aau,aav,Lit.az];omega
 | [],i,h=>by simp at h
abbrev XO(a:List ak)(e:Expr):List ak:=cy a (aI e)
theorem ML: ∀(n:Nat) (e:Expr),e.size<=n->e.size<=1000000000000->Pure prog 141 [ag e.c] (.iv (strs (aI e)))
 |0,e,h,_=>by have:=e.size_pos;omega
 |n+1,e,h,hb=>by
  refine Pure.le (args:=[ag e.c1]) ?_ ⟨e.xd,ac⟩;have x:=wm e;refine ae ab func141 Z (by decide) ntmps141 Z (by simp) Z ?_;refine aR cB ab 100 Z ac ?_;refine zI (fun j=>?_) (fun j=>?_)
  .have j:e.kind=1:=zT j;rw[am j]at x;refine aR cB ab 100 Z ac (bg (X4 _) Z Z Z Z Z Z ?_);refine aR cB ab 100 Z ac (jz (.inr Z) Z (.of_eq ?_));rw[x];rfl
  have j: ¬e.kind=1:=zF j;rw[be j]at x;refine aR cB ab 100 Z ac ?_;refine zI (fun u=>?_) (fun u=>?_)
  .have u: ¬e.kind=4:=by simpa using u
   rw[be u]at x;refine aR cB ab 100 Z ac (jz (.inr Z) Z ?_);rw[x];exact .nil _ _
  have u:e.kind=4:=by simpa using u
  rw[am u]at x;have D:=e.size_eq;refine aR cB ab 100 Z ac ?_;refine aw 0 e.args.length (Zf _) (fun i=>⟨[(1,.ptr 0 0),(3,.iv (strs ((e.args.take i).foldl XO []))),(4,pI i)],[(0,io (aj e.c1))],1⟩) (fun _=>True) [] ac
   (zM (bv ⟨.nil _ _,rfl,bv trivial⟩) (zK trivial)) fun i J I=>?_
  have A:=Expr.au e.args;refine aR cB ab 100 Z ac ?_;refine zI (fun d=>?_) (fun d=>?_)
  .have d:=ci d;have B:=cK (g:=XO) (b:=[]) d;have S:=Expr.b3 e.args i d;have y:=nX (e.args.take i) [];rw[lV]at y;have F:=eZ (e.args.getD i em);have G:((e.args.take i).foldl XO []).length<=Expr.az (e.args.take i):=by simpa using y
   refine aR cB ab 100 Z ⟨ac,by omega⟩ (bg (ML n (e.args.getD i em) (by omega) (by omega)) Z Z Z Z Z Z ?_);refine aR cB ab 100 Z ac (bg (UU _ _ (by omega)) Z Z Z Z Z Z ?_);refine aR cB ab 100 Z ⟨ac,by unfold jk;omega⟩ ?_;exact⟨d,ac,[],zM (bv ⟨.of_eq (by simp only[B];rfl),rfl,bv ac⟩) (zK ac)⟩
  .have d:=co d;refine aR cB ab 100 Z ac (jz (.inr Z) Z (.of_eq ?_));rw[Zh d,x];rfl
theorem EZ(e:Expr)(hb:e.size<=1000000000000):Pure prog 141 [ag e.c] (.iv (strs (aI e))):=ML e.size e (Zc _) hb
def cq(l:Lit):List ak:=if l.kind=1∨l.kind=2 then bn l.atom else if l.kind=3 then cy (aI l.left) (aI l.right) else[]
theorem gr(l:Lit):(cq l).length+2<=l.size:=by
 have b:=dw l.atom;have d:=eZ l.left;have j:=eZ l.right;have u:=eP (aI l.right) (aI l.left);rw[l.size_eq];unfold cq;split
 .omega
 .split
  .omega
  .simp;omega
theorem Xx(l:Lit)(hb:l.size<=1000000000000):Pure prog 119 [ag l.c] (.iv (strs (cq l))):=by
 have j:=l.size_eq;have u:=eZ l.left;have x:=eZ l.right;refine ae ab func119 Z (by decide) ntmps119 Z (by simp) Z ?_;refine aR cB ab 100 Z ac ?_;refine zI (fun k1=>?_) (fun k1=>?_)
 .have k1:l.kind=1:=zT k1;refine aR cB ab 100 Z ac (bg (S0 l.atom (by omega)) Z Z Z Z Z Z ?_);refine aR cB ab 100 Z ac (jz (.inr Z) Z (.of_eq ?_));rw[cq,am (.inl k1)];rfl
 have k1: ¬l.kind=1:=zF k1;refine aR cB ab 100 Z ac ?_;refine zI (fun b=>?_) (fun b=>?_)
 .have b:l.kind=2:=zT b;refine aR cB ab 100 Z ac (bg (S0 l.atom (by omega)) Z Z Z Z Z Z ?_);refine aR cB ab 100 Z ac (jz (.inr Z) Z (.of_eq ?_));rw[cq,am (.inr b)];rfl
 have b: ¬l.kind=2:=zF b;refine aR cB ab 100 Z ac ?_;refine zI (fun d=>?_) (fun d=>?_)
 .have d:l.kind=3:=zT d;refine aR cB ab 100 Z ac (bg (EZ l.left (by omega)) Z Z Z Z Z Z ?_);refine aR cB ab 100 Z ac (bg (EZ l.right (by omega)) Z Z Z Z Z Z ?_);refine aR cB ab 100 Z ac (bg (UU _ _ (by omega)) Z Z Z Z Z Z ?_);refine aR cB ab 100 Z ac (jz (.inr Z) Z (.of_eq ?_));rw[cq,be (by simp[k1,b]),am d];rfl
 .have d: ¬l.kind=3:=zF d;refine aR cB ab 100 Z ac (jz (.inr Z) Z ?_);rw[cq,be (by simp[k1,b]),be d];exact .nil _ _
abbrev JM(a:List ak)(l:Lit):List ak:=cy a (cq l)
def aG(a:eO):List ak:=a.body.foldl JM (if a.func=1 then[] else aI a.dZ)
theorem w5: ∀(l:List Lit) (a:List ak),(l.foldl JM a).length<=a.length+Lit.az l
 | [],a=>by simp[Lit.az]
 |e::r,a=>by
  have b:=w5 r (JM a e);have d:(JM a e).length<=_:=eP (cq e) a;have j:=gr e;simp only[ZD,Lit.az];omega
def eO.size(a:eO):Nat:=a.dZ.size+Lit.az a.body
theorem gv(a:eO):(aG a).length<=a.size:=by
 have h:=w5 a.body (if a.func=1 then[] else aI a.dZ);have d:=eZ a.dZ;unfold aG eO.size;split at h<;>rename_i b<;>simp[b]at h ⊢ <;>omega
theorem Vl(a:eO)(hb:a.size<=1000000000000):Pure prog 118 [ag a.c] (.iv (strs (aG a))):=by
 refine Pure.le (args:=[ag a.c1]) ?_ ⟨a.xd,ac⟩;have F:=eZ a.dZ;unfold eO.size at hb;refine ae ab func118 Z (by decide) ntmps118 Z (by simp) Z ?_;refine aR cB ab 100 Z ac ?_;refine zI (fun j=>?_) (fun j=>?_)
 .have j: ¬a.func=1:=by simpa using j
  have u:aG a=a.body.foldl JM (aI a.dZ):=by unfold aG;rw[be j]
  refine aR cB ab 100 Z ac (bg (EZ a.dZ (by omega)) Z Z Z Z Z Z ?_);refine aR cB ab 100 Z ac ?_;refine aw 0 a.body.length (Zf _) (fun i=>⟨[(1,.ptr 0 0),(3,.iv (strs ((a.body.take i).foldl JM (aI a.dZ)))),(4,pI i)],[(0,io (aj a.c1))],1⟩) (fun _=>True) [] ac
   (zW (zK trivial)) fun i G D=>?_
  have x:=Lit.au a.body;refine aR cB ab 100 Z ac ?_;refine zI (fun d=>?_) (fun d=>?_)
  .have d:=ci d;have y:=cK (g:=JM) (b:=aI a.dZ) d;have I:=Lit.b3 a.body i d;have B:=w5 (a.body.take i) (aI a.dZ);have A:=gr (a.body.getD i em);refine aR cB ab 100 Z ⟨ac,by omega⟩ (bg (Xx (a.body.getD i em) (by omega)) Z Z Z Z Z Z ?_);refine aR cB ab 100 Z ac (bg (UU _ _ (by omega)) Z Z Z Z Z Z ?_);refine aR cB ab 100 Z ⟨ac,by unfold jk;omega⟩ ?_;exact⟨d,ac,[],zM (bv ⟨.of_eq (by simp only[y];rfl),rfl,bv ac⟩) (zK ac)⟩
  .have d:=co d;refine aR cB ab 100 Z ac (jz (.inr Z) Z (.of_eq ?_));rw[Zh d,u];rfl
 .have j:a.func=1:=by simpa using j
  have u:aG a=a.body.foldl JM []:=by unfold aG;rw[am j]
  refine aR cB ab 100 Z ac ?_;refine aw 0 a.body.length (Zf _) (fun i=>⟨[(1,.ptr 0 0),(3,.iv (strs ((a.body.take i).foldl JM []))),(4,pI i)],[(0,io (aj a.c1))],1⟩) (fun _=>True) [] ac
   (zM (bv ⟨.nil _ _,rfl,bv trivial⟩) (zK trivial)) fun i G D=>?_
  have x:=Lit.au a.body;refine aR cB ab 100 Z ac ?_;refine zI (fun d=>?_) (fun d=>?_)
  .have d:=ci d;have y:=cK (g:=JM) (b:=[]) d;have I:=Lit.b3 a.body i d;have B:=w5 (a.body.take i) [];have A:=gr (a.body.getD i em);simp only[aai]at B;refine aR cB ab 100 Z ⟨ac,by omega⟩ (bg (Xx (a.body.getD i em) (by omega)) Z Z Z Z Z Z ?_);refine aR cB ab 100 Z ac (bg (UU _ _ (by omega)) Z Z Z Z Z Z ?_);refine aR cB ab 100 Z ⟨ac,by unfold jk;omega⟩ ?_;exact⟨d,ac,[],zM (bv ⟨.of_eq (by simp only[y];rfl),rfl,bv ac⟩) (zK ac)⟩
  .have d:=co d;refine aR cB ab 100 Z ac (jz (.inr Z) Z (.of_eq ?_));rw[Zh d,u];rfl
end Go.Proofs.YtflegjieadkonaaGreatDoor
namespace Go.Proofs.YtflegjieadkonaaGreatDoor
open Go Go.Al
section
def A8(n:Int):IV:= .v (.int .i64 n)
def Xw(p:PV):Int:=match p with
 | .iv (.v (.int _ n))=>n
 |_=>0
abbrev NM:=List ((KC.str).K×Int)
abbrev cx(m:NM):AO:= .map .str A8 0 (.int .i64 0) Xw m
abbrev CO(m:NM):IV:= .eI .str A8 0 (.int .i64 0) m
theorem iu: ∀M,IR M (A8 0) (.int .i64 0):=fun _=> .v _
def bump(m:NM)(s:ak):NM:=cH .str m s (bU .str m s 0+1)
def aC(l:List ak):NM:=l.foldl bump []
theorem cU(l:List ak)(s:ak):aC (l++ [s])=bump (aC l) s:=by simp[aC]
section
variable {V:Type}
theorem kV{m:List ((KC.str).K×V)}{s t:ak}{v z:V}:bU .str (cH .str m s v) t z=if s=t then v else bU .str m t z:=by
 induction m with
 |nil=>simp only[cH,bU]
 |cons x r ih=>
  obtain⟨a,b⟩:=x;simp only[cH];by_cases h:a=s
  .rw[am h];simp only[bU];by_cases d:s=t
   .simp[d]
   .have: ¬a=t:=fun e=>d (h▸e)
    rw[be d,be d,be this]
  .rw[be h];simp only[bU,ih];by_cases d:a=t
   .have: ¬s=t:=fun e=>h (d.trans e.symm)
    simp[d,this]
   .simp[d]
theorem qz{m:List ((KC.str).K×V)}{t:ak}:eh .str m t=kw↔t∈m.map ZB:=by
 induction m with
 |nil=>simp[eh]
 |cons x r ih=>
  obtain⟨a,b⟩:=x;simp only[eh,Zr,Zq];by_cases h:a=t
  .simp[h]
  .have: ¬t=a:=fun e=>h e.symm
   simp[h,this,ih]
theorem pd{m:List ((KC.str).K×V)}{s:ak}{v:V}(h:s∈m.map ZB):(cH .str m s v).map ZB=m.map ZB:=by
 induction m with
 |nil=>simp at h
 |cons x r ih=>
  obtain⟨a,b⟩:=x;simp only[cH];by_cases d:a=s
  .rw[am d];simp[d]
  .have: ¬s=a:=fun e=>d e.symm
   rw[be d,Zr,ih (by simpa[this]using h)];rfl
theorem dW{m:List ((KC.str).K×V)}{s:ak}{v:V}(h:s∉m.map ZB):(cH .str m s v).map ZB=m.map ZB++ [s]:=by
 induction m with
 |nil=>simp[cH]
 |cons x r ih=>
  obtain⟨a,b⟩:=x;simp only[Zr,Zq,not_or]at h;have: ¬a=s:=fun e=>h.1 e.symm;simp only[cH,be this,Zr,ih h.2];rfl
theorem yi{m:List ((KC.str).K×V)}{t:ak}{z:V}(h:t∉m.map ZB):bU .str m t z=z:=by
 induction m with
 |nil=>rfl
 |cons x r ih=>
  obtain⟨a,b⟩:=x;simp only[Zr,Zq,not_or]at h;have: ¬a=t:=fun e=>h.1 e.symm;simp only[bU,be this];exact ih h.2
end
theorem tY{α:Type}{p:List α->Prop}(h0:p [])(h1: ∀l a,p l->p (l++ [a]))(l:List α):p l:=by
 have key: ∀r:List α,p r.reverse:=by
  intro r
  induction r with
  |nil=>exact h0
  |cons a r ih=>rw[List.reverse_cons];exact h1 _ _ ih
 simpa using key l.reverse
def rW(l:List ak)(t:ak):Nat:=(l.filter fun x=>li (x=t)).length
theorem ES(l m:List ak)(t:ak):rW (l++m) t=rW l t+rW m t:=by simp[rW]
theorem fa(l:List ak)(t:ak):rW l t<=l.length:=aak _ _
theorem oH{l:List ak}{t:ak}:0<rW l t↔t∈l:=by
 rw[rW,List.length_pos_iff_exists_mem];constructor
 .rintro⟨x,hx⟩;obtain⟨b,d⟩:=ZM.1 hx;exact(zT d)▸b
 .exact fun h=>⟨t,ZM.2 ⟨h,by simp⟩⟩
theorem rJ{l:List ak}{t:ak}:rW l t=0↔t∉l:=by
 rw[<-oH];omega
theorem bz(l:List ak)(t:ak):bU .str (aC l) t 0=(rW l t:Int):=by
 induction l using tY with
 |h0=>rfl
 |h1 l s ih=>
  rw[cU,bump,kV,ES];by_cases h:s=t
  .subst h;rw[ih];simp[rW]
  .rw[be h,ih];simp[h,rW]
theorem cm(l:List ak):((aC l).map ZB).Nodup∧ ∀t:ak,t∈(aC l).map ZB↔t∈l:=by
 induction l using tY with
 |h0=>simp[aC]
 |h1 l s ih=>
  rw[cU,bump];obtain⟨h1,d⟩:=ih;by_cases h:s∈(aC l).map ZB
  .rw[pd h];refine⟨h1,fun t=>?_⟩;rw[d,Zm,Zk];exact⟨.inl,fun j=>j.elim id fun e=>e▸(d s).1 h⟩
  .rw[dW h];refine⟨?_,fun t=>by rw[Zm,d,Zm]⟩;rw[aa6];refine⟨h1,aat.2 ⟨abG,aab⟩,fun a u b hb e=>?_⟩;rw[Zk]at hb;exact h ((e.trans hb)▸u)
def cL(a:Atom):List ak:=a.ad.flatMap fun t=>if t.kind=1 then[t.var] else[]
theorem bE{α β:Type}[Inhabited α]{l:List α}{f:α->List β}{i:Nat}(h:i<l.length):(l.take (i+1)).flatMap f=(l.take i).flatMap f++f (l.getD i em):=by
 rw[ba h,abf];simp
theorem tX: ∀l:List Term,(l.flatMap fun t=>if t.kind=1 then[t.var] else[]).length<=l.length
 | []=>by simp
 |t::r=>by
  have:=tX r;have b:(if t.kind=1 then[t.var] else[]).length<=1:=by split<;>simp
  rw[ZX,Y8,ZI];omega
theorem iE(a:Atom):(cL a).length<=a.ad.length:=tX a.ad
theorem d88(occ:List ak)(a:Atom)(hb:occ.length+a.ad.length<=1000000000000):bW Tryz.prog 135 [.mp 0,ag a.c] [cx (aC occ)] (.bQ []) [(0,io (cx (aC (occ++cL a))))] 1:=by
 refine aB ab Tryz.func135 Z (by decide) Tryz.ntmps135 Z (by simp) ?_;refine gA Z ?_;refine aw 0 a.ad.length (Zf _) (fun i=>⟨[(0,.mp 0),(3,.ptr 1 0),(7,.iv (cZ 5 a.ad Term.c)),(8,pI a.ad.length),(9,pI i)],[(0,io (cx (aC (occ++(a.ad.take i).flatMap fun t=>if t.kind=1 then[t.var] else[]))))],2⟩) (fun _=>True) [] ac
  (zW (hM Z (by simp) Z trivial)) fun i B _=>?_
 have y:=tX (a.ad.take i);simp only[ZP]at y;refine zJ Z Z (fun b=>?_) fun b=>?_
 .have b:=ci b;have j:=bE (f:=fun t:Term=>if t.kind=1 then[t.var] else[]) b;have A:=bz (occ++(a.ad.take i).flatMap fun t=>if t.kind=1 then[t.var] else[]) (a.ad.getD i em).var;have u:=fa (occ++(a.ad.take i).flatMap fun t=>if t.kind=1 then[t.var] else[]) (a.ad.getD i em).var;rw[Y8]at u;refine zJ Z Z (fun d=>?_) fun d=>?_
  .have d:(a.ad.getD i em).kind=1:=by simpa using d
   rw[am d]at j;refine gA Z ⟨b,ac,[],zW (hM Z (by rw[j,<-Zj,cU];rfl) Z ac)⟩
  .have d: ¬(a.ad.getD i em).kind=1:=by simpa using d
   rw[be d,ZL]at j;refine gA Z ⟨b,ac,[],zW (hM Z (by rw[j]) Z ac)⟩
 .have b:=co b;have x:a.ad.take i=a.ad:=Zh b;refine gA Z (zD [] Z (zW (hM Z (by rw[x];rfl) Z ac)))
end
end Go.Proofs.YtflegjieadkonaaGreatDoor
namespace Go.Proofs.YtflegjieadkonaaGreatDoor
open Go Go.Al Go.Proofs.Tryz
mutual
def bA:Expr->List ak
 | .mk k v _ _ args=>if k=1 then[v] else if k=4 then jh args else[]
def jh:List Expr->List ak
 | []=> []
 |e::r=>bA e++jh r
end
theorem qL: ∀l:List Expr,jh l=l.flatMap bA
 | []=>rfl
 |e::r=>by simp only[jh,ZX,qL r]
theorem yG(e:Expr):bA e=if e.kind=1 then[e.var] else if e.kind=4 then e.args.flatMap bA else[]:=by
 cases e with
 |mk k v val op args=>simp only[bA,Expr.kind,Expr.var,Expr.args,qL];rfl
mutual
theorem jR: ∀e:Expr,(bA e).length<=e.size
 | .mk k v _ _ args=>by
  have:=pf args;simp only[bA,Expr.size];split
  .simp
  .split
   .omega
   .simp
theorem pf: ∀l:List Expr,(jh l).length<=Expr.az l
 | []=>by simp[jh]
 |e::r=>by
  have b:=jR e;have d:=pf r;simp only[jh,Expr.az,Y8];omega
end
theorem d135: ∀(n:Nat) (e:Expr) (occ:List ak),e.size<=n->occ.length+e.size<=1000000000000->bW prog 178 [.mp 0,ag e.c] [cx (aC occ)] (.bQ []) [(0,io (cx (aC (occ++bA e))))] 1
 |0,e,_,h,_=>by have:=e.size_pos;omega
 |n+1,e,occ,h,hb=>by
  refine bW.le (args:=[.mp 0,ag e.c1]) ?_ ⟨.refl _,e.xd,ac⟩;have u:=yG e;have F:=e.size_eq;have B:=bz occ e.var;have A:=fa occ e.var;refine aB ab func178 Z (by decide) ntmps178 Z (by simp) ?_;refine zJ Z Z (fun d=>?_) fun d=>?_
  .have d:e.kind=1:=by simpa using d
   rw[am d]at u;refine gA Z (zD [] Z (zW (hM Z (by rw[u,cU];rfl) Z ac)))
  have d: ¬e.kind=1:=by simpa using d
  rw[be d]at u;refine zJ Z Z (fun j=>?_) fun j=>?_
  .have j:e.kind=4:=by simpa using j
   rw[am j]at u;refine gA Z ?_;refine aw 0 e.args.length (Zf _) (fun i=>⟨[(0,.mp 0),(3,.ptr 1 0),(18,.iv (cZ 7 e.args Expr.c)),(19,pI e.args.length),(20,pI i)],[(0,io (cx (aC (occ++(e.args.take i).flatMap bA))))],2⟩) (fun _=>True) [] ac
    (zW (hM Z (by simp) Z trivial)) fun i I _=>?_
   have y:=Expr.au e.args;refine zJ Z Z (fun b=>?_) fun b=>?_
   .have b:=ci b;have D:=bE (f:=bA) b;have J:=Expr.b3 e.args i b;have G:=pf (e.args.take i);rw[qL]at G;refine gA Z (bM [0] (d135 n (e.args.getD i em) _ (by omega) (by rw[Y8];omega)) Z Z Z Z Z Z Z Z ?_);refine gA Z ⟨b,ac,[],zW (hM Z (by rw[D,Zj]) Z ac)⟩
   .have b:=co b;have x:e.args.take i=e.args:=Zh b;refine gA Z (zD [] Z (zW (hM Z (by rw[u,x]) Z ac)))
  .have j: ¬e.kind=4:=by simpa using j
   rw[be j]at u;refine gA Z (zD [] Z (zW (hM Z (by rw[u,ZL]) Z ac)))
theorem Mw(e:Expr)(occ:List ak)(hb:occ.length+e.size<=1000000000000):bW prog 178 [.mp 0,ag e.c] [cx (aC occ)] (.bQ []) [(0,io (cx (aC (occ++bA e))))] 1:=d135 e.size e occ (Zc _) hb
def cf(l:Lit):List ak:=if l.kind=1∨l.kind=2 then cL l.atom else if l.kind=3 then bA l.left++bA l.right else[]
theorem pb(l:Lit):(cf l).length+2<=l.size:=by
 have b:=iE l.atom;have d:=jR l.left;have j:=jR l.right;rw[l.size_eq];unfold cf;split
 .omega
 .split
  .rw[Y8];omega
  .simp;omega
theorem d89(l:Lit)(occ:List ak)(hb:occ.length+l.size<=1000000000000):bW prog 136 [.mp 0,ag l.c] [cx (aC occ)] (.bQ []) [(0,io (cx (aC (occ++cf l))))] 1:=by
 have x:=l.size_eq;have y:=jR l.left;refine aB ab func136 Z (by decide) ntmps136 Z (by simp) ?_;refine zJ Z Z (fun k1=>?_) fun k1=>?_
 .have k1:l.kind=1:=zT k1;have u:cf l=cL l.atom:=am (.inl k1);refine gA Z (zq [0] (d88 occ l.atom (by omega)) ?_);refine gA Z (zD [] Z (zW (hM Z (by rw[u]) Z ac)))
 have k1: ¬l.kind=1:=zF k1;refine zJ Z Z (fun d=>?_) fun d=>?_
 .have d:l.kind=2:=zT d;have u:cf l=cL l.atom:=am (.inr d);refine gA Z (zq [0] (d88 occ l.atom (by omega)) ?_);refine gA Z (zD [] Z (zW (hM Z (by rw[u]) Z ac)))
 have d: ¬l.kind=2:=zF d;have b:cf l=if l.kind=3 then bA l.left++bA l.right else[]:=be (by simp[k1,d]);refine zJ Z Z (fun j=>?_) fun j=>?_
 .have j:l.kind=3:=zT j;rw[am j]at b;refine gA Z (zq [0] (Mw l.left occ (by omega)) ?_);refine gA Z (bM [0] (Mw l.right _ (by rw[Y8];omega)) Z Z Z Z Z Z Z Z ?_);refine gA Z (zD [] Z (zW (hM Z (by rw[b,Zj]) Z ac)))
 .have j: ¬l.kind=3:=zF j;rw[be j]at b;refine gA Z (zD [] Z (zW (hM Z (by rw[b,ZL]) Z ac)))
def bd(a:eO):List ak:=(if a.func=1 then[] else bA a.dZ)++a.body.flatMap cf
theorem nB: ∀l:List Lit,(l.flatMap cf).length<=Lit.az l
 | []=>by simp
 |e::r=>by
  have b:=pb e;have d:=nB r;rw[ZX,Y8];simp only[Lit.az];omega
theorem SV(e:Expr)(hb:e.size<=1000000000000):bW prog 178 [.mp 0,ag e.c] [.gP] (.bQ []) [(0,io (cx (aC (bA e))))] 1:=
 (Mw e [] (by simpa using hb)).SI ⟨⟨id,fun M N U w j b=>⟨#[],0,b,⟨rfl,by simp[aC],by simp[aC],by simp,by simp⟩,iu M⟩⟩,ac⟩
theorem XU(a:Atom)(hb:a.ad.length<=1000000000000):bW prog 135 [.mp 0,ag a.c] [.gP] (.bQ []) [(0,io (cx (aC (cL a))))] 1:=
 (d88 [] a (by simpa using hb)).SI ⟨⟨id,fun M N U w j b=>⟨#[],0,b,⟨rfl,by simp[aC],by simp[aC],by simp,by simp⟩,iu M⟩⟩,ac⟩
theorem d127(a:eO)(hb:a.size<=1000000000000):bW prog 196 [ag a.c] [] (.mp 0) [(0,io (cx (aC (bd a))))] 1:=by
 refine bW.le (args:=[ag a.c1]) ?_ ⟨a.xd,ac⟩;unfold eO.size at hb;have A:=jR a.dZ;have y:=Lit.au a.body;refine aB ab func196 Z (by decide) ntmps196 Z (by simp) ?_;refine zJ Z Z (fun d=>?_) fun d=>?_
 .have d: ¬a.func=1:=by simpa using d
  have j:bd a=bA a.dZ++a.body.flatMap cf:=by unfold bd;rw[be d]
  refine gA Z (zq [1] (SV a.dZ (by omega)) ?_);refine gA Z ?_;refine aw 0 a.body.length (Zf _) (fun i=>⟨[(3,.mp 1),(15,.iv (lits a.body)),(16,pI a.body.length),(17,pI i)],[(1,io (cx (aC (bA a.dZ++(a.body.take i).flatMap cf))))],2⟩) (fun _=>True) [] ac
   (zW (hM Z (by simp) Z trivial)) fun i B _=>?_
  refine zJ Z Z (fun b=>?_) fun b=>?_
  .have b:=ci b;have x:=bE (f:=cf) b;have D:=Lit.b3 a.body i b;have F:=nB (a.body.take i);refine gA Z (bM [1] (d89 (a.body.getD i em) _ (by rw[Y8];omega)) Z Z Z Z Z Z Z Z ?_);refine gA Z ⟨b,ac,[],zW (hM Z (by rw[x,Zj]) Z ac)⟩
  .have b:=co b;have u:a.body.take i=a.body:=Zh b;refine gA Z (zD [1] Z (zW (hM Z (by rw[u,j]) Z ac)))
 .have d:a.func=1:=by simpa using d
  have j:bd a=a.body.flatMap cf:=by unfold bd;rw[am d];rfl
  refine gA Z ?_;refine aw 0 a.body.length (Zf _) (fun i=>⟨[(3,.mp 1),(15,.iv (lits a.body)),(16,pI a.body.length),(17,pI i)],[(1,io (cx (aC ((a.body.take i).flatMap cf))))],2⟩) (fun _=>True) [] ac
   (zW (Jf Z iu Z trivial)) fun i B _=>?_
  refine zJ Z Z (fun b=>?_) fun b=>?_
  .have b:=ci b;have x:=bE (f:=cf) b;have D:=Lit.b3 a.body i b;have F:=nB (a.body.take i);refine gA Z (bM [1] (d89 (a.body.getD i em) _ (by omega)) Z Z Z Z Z Z Z Z ?_);refine gA Z ⟨b,ac,[],zW (hM Z (by rw[x]) Z ac)⟩
  .have b:=co b;have u:a.body.take i=a.body:=Zh b;refine gA Z (zD [1] Z (zW (hM Z (by rw[u,j]) Z ac)))
def ins:List ak->ak->List ak
 | [],s=> [s]
 |x::r,s=>if x=s then x::r else if Op.bytesLess x.toList s.toList=kw then x::ins r s else s::x::r
theorem mQ(s:ak): ∀(l a:List ak),l.foldl (bV s) (a,kw)=(a++l,kw)
 | [],a=>by simp
 |x::r,a=>by
  have:bV s (a,kw) x=(a++ [x],kw):=by simp[bV]
  rw[ZD,this,mQ s r];simp
theorem A5(s:ak): ∀(l a:List ak),(if(l.foldl (bV s) (a,lc)).2 then(l.foldl (bV s) (a,lc)).1 else(l.foldl (bV s) (a,lc)).1++ [s])=a++ins l s
 | [],a=>by simp[ins]
 |x::r,a=>by
  by_cases b:x=s
  .have:bV s (a,lc) x=(a++ [x],kw):=by simp[bV,b]
   rw[ZD,this,mQ];simp[ins,b]
  .cases h2:Op.bytesLess x.toList s.toList with
   |true=>
    have:bV s (a,lc) x=(a++ [x],lc):=by simp[bV,b,h2]
    rw[ZD,this,A5 s r];simp[ins,b,h2]
   |false=>
    have:bV s (a,lc) x=(a++ [s]++ [x],kw):=by simp[bV,b,h2]
    rw[ZD,this,mQ];simp[ins,b,h2]
theorem re(l:List ak)(s:ak):b6 l s=ins l s:=by
 have:=A5 s l [];simpa[b6]using this
theorem xa{x:ak}: ∀{l:List ak} {s:ak},x∈ins l s↔x∈l∨x=s
 | [],s=>by simp[ins]
 |y::r,s=>by
  simp only[ins];split
  .rename_i h;subst h;simp;exact fun h=> .inl h
  .split
   .simp[xa (l:=r),or_assoc]
   .simp;constructor
    .rintro(h|h|h)
     .exact .inr h
     .exact .inl (.inl h)
     .exact .inl (.inr h)
    .rintro((h|h)|h)
     .exact .inr (.inl h)
     .exact .inr (.inr h)
     .exact .inl h
theorem ct{x s:ak}{l:List ak}:x∈b6 l s↔x∈l∨x=s:=by rw[re];exact xa
theorem ij{x:ak}: ∀{m l:List ak},x∈cy l m↔x∈l∨x∈m
 | [],l=>by simp[cy]
 |y::r,l=>by
  have h:=ij (x:=x) (m:=r) (l:=b6 l y);simp only[cy,ZD]at h ⊢;rw[h,ct,Zq,or_assoc]
theorem aM{l:List ak}{s:ak}:aH l s=kw↔s∈l:=by
 simp[aH]
theorem ef{l:List ak}{s:ak}:aH l s=lc↔s∉l:=by
 rw[<-aaC,aM]
def lY(l m:List ak):Bool:=m.all fun x=>aH l x
theorem M7{l m:List ak}:lY l m=kw↔ ∀x∈m,x∈l:=by simp[lY,aM]
theorem W9(l m:List ak):Pure prog 296 [.iv (strs l),.iv (strs m)] (pB (lY l m)):=by
 refine mA (bF func296 Z (by decide)) ⟨_,_,Zn _ Zo⟩ fun d=>?_;simp only[maxLen]at d;refine ae ab func296 Z (by decide) ntmps296 Z (by simp) Z ?_;refine gA Z ?_;refine aw 0 m.length (Zf _) (fun i=>⟨[(0,.iv (strs l)),(1,.iv (strs m)),(5,pI i)],[],0⟩) (fun i=>(m.take i).all (fun x=>aH l x)=kw) [] Z (lJ Z Z (bv (bv (bv ac))) Z) fun i y u=>?_;refine zJ Z Z (fun b=>?_) fun b=>?_
 .have b:=ci b;refine gA Z (zp (JB l (m.getD i em)) ?_);refine zJ Z Z (fun j=>?_) fun j=>?_
  .refine gA Z (zL (.of_eq ?_));rw[lY,E9 b (by simpa using j)];try rfl
  .refine gA Z ?_;exact⟨b,(lg u b).2 (by simpa using j),[],lJ Z Z (bv (bv (bv ac))) Z⟩
 .have b:=co b;refine gA Z (zL (.of_eq ?_));rw[lY,Fa u b];try rfl
def vm(a:List ak)(l:Lit):List ak:=if l.kind=4 then b6 (cy a (cq l)) l.a8 else cy a (cq l)
theorem DR{a:List ak}{l:Lit}(h:l.kind=4):vm a l=b6 (cy a (cq l)) l.a8:=am h
theorem DS{a:List ak}{l:Lit}(h: ¬l.kind=4):vm a l=cy a (cq l):=be h
def outer(r:ah):List ak:=r.body.foldl vm (bn r.head)
theorem KZ(a:List ak)(l:Lit):(vm a l).length+1<=a.length+l.size:=by
 have b:=eP (cq l) a;have d:=gr l;have j:=jD (cy a (cq l)) l.a8;unfold vm;split<;>omega
theorem nR: ∀(l:List Lit) (a:List ak),(l.foldl vm a).length<=a.length+Lit.az l
 | [],a=>by simp[Lit.az]
 |e::r,a=>by
  have b:=nR r (vm a e);have d:=KZ a e;simp only[ZD,Lit.az];omega
theorem Ar(r:ah):(outer r).length<=r.size:=by
 have b:=nR r.body (bn r.head);have d:=dw r.head;unfold outer ah.size;omega
theorem S1(r:ah)(hb:r.size<=1000000000000):Pure prog 87 [ag r.c] (.iv (strs (outer r))):=by
 have y:=dw r.head;have x:=Lit.au r.body;unfold ah.size at hb;refine ae ab func87 Z (by decide) ntmps87 Z (by simp) Z ?_;refine gA Z (zp (S0 r.head (by omega)) ?_);refine gA Z ?_;refine aw 0 r.body.length (Zf _) (fun i=>⟨[(1,.ptr 0 0),(3,.iv (strs ((r.body.take i).foldl vm (bn r.head)))),(4,pI i)],[(0,io (aj r.c))],1⟩) (fun _=>True) [] ac
  (zW (zK trivial)) fun i F D=>?_
 refine zJ Z Z (fun d=>?_) fun d=>?_
 .have d:=ci d;have u:=cK (g:=vm) (b:=bn r.head) d;have G:=Lit.b3 r.body i d;have I:=nR (r.body.take i) (bn r.head);have A:=gr (r.body.getD i em);have B:=eP (cq (r.body.getD i em)) ((r.body.take i).foldl vm (bn r.head));refine gA Z (zp (Xx (r.body.getD i em) (by omega)) ?_);refine gA Z (bg (UU _ _ (by omega)) Z Z Z Z Z Z ?_);refine zJ Z Z (fun j=>?_) fun j=>?_
  .have j:(r.body.getD i em).kind=4:=zT j;rw[DR j]at u;refine gA Z (bg (Nn _ _ (by omega)) Z Z Z Z Z Z ?_);refine gA Z ⟨d,ac,[],zM (bv ⟨.of_eq (by rw[u];rfl),rfl,bv ac⟩) (zK ac)⟩
  .have j: ¬(r.body.getD i em).kind=4:=zF j;rw[DS j]at u;refine gA Z ⟨d,ac,[],zM (bv ⟨.of_eq (by rw[u];rfl),rfl,bv ac⟩) (zK ac)⟩
 .have d:=co d;refine gA Z (zL (.of_eq ?_));rw[Zh d];rfl
def ff(l:Lit):List ak:=cf l++if l.kind=4 then[l.a8] else[]
def aA(r:ah):List ak:=cL r.head++r.body.flatMap ff
theorem FY(l:Lit):(ff l).length+1<=l.size:=by
 have:=pb l;unfold ff;rw[Y8];split<;>simp<;>omega
theorem qv: ∀l:List Lit,(l.flatMap ff).length<=Lit.az l
 | []=>by simp
 |e::r=>by
  have b:=FY e;have d:=qv r;rw[ZX,Y8];simp only[Lit.az];omega
theorem oU(r:ah):(aA r).length<=r.size:=by
 have b:=qv r.body;have d:=iE r.head;unfold aA ah.size;rw[Y8];omega
def S3(r:ah):List IV:=[iS r.head.rel,cZ 5 r.head.ad Term.c,lits r.body,iI r.at_.line,iI r.at_.zy,CO (aC (aA r))]
abbrev db(r:ah):IV:= .mK (S3 r)
theorem c48(r:ah)(hb:r.size<=1000000000000):Pure prog 113 [ag r.c] (.iv (db r)):=by
 unfold ah.size at hb;have B:=iE r.head;have A:=Lit.au r.body;refine ae ab func113 Z (by decide) ntmps113 Z (by simp) Z ?_;refine gA Z (zd [1] (XU r.head (by omega)) ?_);refine gA Z ?_
 refine aw 0 r.body.length (Zf _) (fun i=>⟨[(3,.ptr 2 0),(18,.iv (lits r.body)),(19,pI r.body.length),(20,pI i)],
   [(1,io (cx (aC (cL r.head++(r.body.take i).flatMap ff)))),(2,io (.cells [pS r.head.rel,.iv (cZ 5 r.head.ad Term.c),.iv (lits r.body),pI r.at_.line,pI r.at_.zy,.mp 1]))],3⟩) (fun _=>True) [] ac
  (zW (hM Z (by simp) Z (zO trivial))) fun i G _=>?_
 refine zJ Z Z (fun d=>?_) fun d=>?_
 .have d:=ci d;have u:=bE (f:=ff) d;have I:=Lit.b3 r.body i d;have J:=qv (r.body.take i);have F:=pb (r.body.getD i em);refine gA Z (Cr ab [1] (d89 (r.body.getD i em) _ (by rw[Y8];omega)) Z Z Z Z Z Z Z Z Z Z Z Z (by(repeat' (first|exact ac|exact rfl|exact aK.refl _|exact aK.bk (by assumption)|apply ZU))<;>first|omega|(simp only[Zx];omega)|(simp;done)|(simp;omega)) Z (by(repeat' (first|exact ac|exact rfl|exact aK.refl _|exact aK.bk (by assumption)|apply ZU))<;>first|omega|(simp only[Zx];omega)|(simp;done)|(simp;omega)) ?_);refine zJ Z Z (fun j=>?_) fun j=>?_
  .have j:(r.body.getD i em).kind=4:=zT j;have b:ff (r.body.getD i em)=cf (r.body.getD i em)++ [(r.body.getD i em).a8]:=by unfold ff;rw[am j]
   rw[b]at u;have D:=bz (cL r.head++(r.body.take i).flatMap ff++cf (r.body.getD i em)) (r.body.getD i em).a8;have x:=fa (cL r.head++(r.body.take i).flatMap ff++cf (r.body.getD i em)) (r.body.getD i em).a8;rw[Y8,Y8]at x;refine gA Z ⟨d,ac,[],zW (hM Z (by rw[u,<-Zj,<-Zj,cU];rfl) Z (zO ac))⟩
  .have j: ¬(r.body.getD i em).kind=4:=zF j;have b:ff (r.body.getD i em)=cf (r.body.getD i em):=by unfold ff;rw[be j,ZL]
   rw[b]at u;refine gA Z ⟨d,ac,[],zW (hM Z (by rw[u,<-Zj]) Z (zO ac))⟩
 .have d:=co d;have y:r.body.take i=r.body:=Zh d;refine nV Z ac (kh (.inr Z) Z (.map 1 Z (.cells 2 _ Z (show _=List.map PV.iv (S3 r) by rw[y];rfl) (.done (.of_eq Z)))))
def aU(occ:List ak)(e:Expr):Bool:=(bA e).all fun x=>aH occ x
theorem uv{l:List ak}{j:Nat}{x:(KC.str).K×Int}(h:(aC l)[j]? =io x):x.1∈l:=
 ((cm l).2 x.1).1 (ZK.2 ⟨x,ZC h,rfl⟩)
theorem all_keys{l:List ak}{vs:List Nat}(h: ∀j,j<(aC l).length->j∈vs){p:ak->Prop}(hp: ∀j∈vs,∀x,(aC l)[j]? =io x->p x.1): ∀t∈l,p t:=by
 intro t d;obtain⟨x,u,rfl⟩:=ZK.1 (((cm l).2 t).2 d);obtain⟨j,b⟩:=Z7 u;exact hp j (h j (Zb.1 b).1) x b
theorem d125(occ:List ak)(e:Expr)(hb:e.size<=1000000000000):bW prog 227 [.mp 0,ag e.c] [cx (aC occ)] (pB (aU occ e)) [(0,io (cx (aC occ)))] 1:=by
 refine aB ab func227 Z (by decide) ntmps227 Z (by simp) ?_;refine gA Z (zq [2] (SV e hb) ?_);refine gA Z ?_;refine jy (aC (bA e)) (fun A=>⟨[(0,.mp 0),(12,.ptr 3 0)],[(0,io (cx (aC occ))),(3,io (.cF .str A8 (aC (bA e)) A jp))],4⟩) (fun A=> ∀j∈A,∀x,(aC (bA e))[j]? =io x->x.1∈occ) [] (by simp)
  (zW (zC (hI Z Z (.inl Z) Z trivial))) fun A G=>?_
 refine nV Z ac (fZ Z Z Z Z Z (by decide) (fun d=>?_) fun j x D I=>?_)
 .refine gA Z (zD [] Z (zM ⟨.of_eq (by rw[show aU occ e=kw from ZA.2 fun t J=>aM.2 (all_keys d G t J)];rfl),rfl,ac⟩ (zC ac)))
 .have u:=bz occ x.1;refine zJ Z Z (fun b=>?_) fun b=>?_
  .have b:bU .str (aC occ) x.1 0=0:=zT b;have B:x.1∉occ:=rJ.1 (by rw[u]at b;omega);refine gA Z (zD [] Z (zM ⟨.of_eq (by rw[show aU occ e=lc from aaV.2 ⟨x.1,uv D,by rw[ef.2 B];simp⟩];rfl),rfl,ac⟩ (zC ac)))
  .have b: ¬bU .str (aC occ) x.1 0=0:=zF b;have B:x.1∈occ:=oH.1 (by rw[u]at b;omega);refine gA Z ?_
   exact⟨j,x,D,I,fun i hi y F=>by
    rcases Zq.1 hi with rfl|hi
    .rw[D]at F;cases F;exact B
    .exact G i hi y F,[],zW (zC (hI Z Z (.inr Z) Z ac))⟩
end Go.Proofs.YtflegjieadkonaaGreatDoor
