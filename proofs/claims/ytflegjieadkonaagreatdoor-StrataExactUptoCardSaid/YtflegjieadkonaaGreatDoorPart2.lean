/-
  What the proofs of the claims need: part 2 of 7.
-/
import Derived.Test.YtflegjieadkonaaGreatDoorPart1
import Derived.Deep.Slices
import Derived.ReadAgain
import Derived.ChangeStays
import Derived.ChangeSame
import Derived.WideShapes
import Derived.RowKit
import Derived.Lib.AppendStr
import Derived.Laws.IdiomStrings
import Derived.Laws.BytesArg
import Derived.Laws.MakeOwn
import Derived.Laws.Slices
import Derived.StillTail
import Derived.KernelRfl
import Derived.Test.YtflegjieadkonaaGreatDoorProg
open And renaming intro→YW
open Array renaming getD_eq_getD_getElem?→Yf,getElem?_append_left→Zr,getElem?_eq_getElem→Zb,getElem?_eq_some_iff→Zy,getElem?_map→aaD,getElem?_modify→Za,getElem?_push→aaB,getElem?_setIfInBounds→Y2,getElem?_toList→Zn,range→abv,replicate→aab,size_append→aaX,toArray_toList→ZT
open Bool renaming and_eq_true→YB,eq_false_iff→Zq,false_eq_true→ZH,false_or→Zt,not_eq_true→ZQ,not_eq_true'→Y1,or_eq_false_iff→Y6,or_eq_true→Y3,or_false→Z9,or_true→aaA,true_and→Zc,true_or→aaK
open ByteArray renaming empty→Yp
open Classical renaming choose→aaJ,choose_spec→aan
open Int renaming toNat_natCast→YK
open List.Nodup renaming length_le_of_subset→Zl
open List.Pairwise renaming nil→Z6
open List renaming all_append→aaT,all_eq_false→Z1,all_eq_true→YG,any_eq_false→Y5,any_eq_true→Y8,append_assoc→Yu,append_nil→Y0,cons_append→ZO,eq_nil_of_length_eq_zero→ZU,ext_getElem?→ZS,filter_append→aaq,filter_cons→ZD,flatMap_append→aai,flatMap_cons→Zk,foldl_append→Z7,foldl_cons→YN,getD_cons_succ→ZE,getD_eq_getElem?_getD→Ye,getElem?_append_left→YA,getElem?_append_right→YF,getElem?_drop→Zw,getElem?_eq_getElem→Yi,getElem?_eq_some_iff→Yj,getElem?_map→Yo,getElem?_of_mem→Y9,getElem?_range→ZL,getElem?_replicate→aad,getElem?_set→Y4,getElem?_take→Zi,getElem?_toArray→ZB,getElem_mem→YZ,length_append→Yg,length_cons→YT,length_eq_zero_iff→ZP,length_filter_le→Ze,length_map→YH,length_nil→ZM,length_set→aac,length_take→YV,map_append→Yk,map_congr_left→ZC,map_cons→Yz,map_map→Z4,mem_append→Ys,mem_append_left→YQ,mem_append_right→ZK,mem_cons→Yx,mem_cons_of_mem→Yt,mem_cons_self→Yy,mem_filter→YO,mem_map→YP,mem_of_getElem?→YL,mem_range→YM,mem_singleton→Yr,nil_append→aaj,nodup_append→Z2,nodup_cons→Zo,nodup_nil→Zd,not_mem_nil→aaL,range→Yv,replicate→ZW,take_of_length_le→Yn,take_succ_cons→ZF,take_succ_eq_append_getElem→aaz
open Nat renaming add_assoc→ZR,add_mul→Zz,add_zero→aaw,beq→YJ,ble→aaf,ble_eq_true_of_le→YX,blt→YD,eq_of_beq_eq_true→YE,le_of_ble_eq_true→Yd,le_of_not_lt→aap,le_refl→Ym,le_succ→aaH,le_trans→YR,lt_irrefl→abc,lt_of_le_of_lt→abC,lt_of_lt_of_le→aao,lt_or_ge→Zj,lt_succ_of_lt→aag,lt_succ_self→ZY,mul_le_mul_right→YS,mul_one→aba,ne_of_lt→abj,succ_mul→aav,zero_add→YC,zero_le→Yl,zero_mul→aas
open Option renaming getD_some→ZG,map_eq_some_iff→Yq,map_none→abn,map_some→Zg
open Option.some renaming inj→Zh,injEq→Yh
open Prod renaming fst→YI
open Prod.mk renaming injEq→Yw
set_option maxRecDepth 100000
open Bool renaming false→li,true→lc
open Decidable renaming decide→lw
open Inhabited renaming default→io
open Option renaming none→kw,some→jp
namespace Go.Al
theorem bv{a b:PV}{c:Bool}{X:Prop}(h:X)(h1:a=b:=by rfl)(h2:c=true:=by rfl):aG a b∧c=true∧X:=⟨by subst h1;exact fun _ _ _ _ h=>h,h2,h⟩
theorem ci{i n:Nat}(h:decide ((i:Int)<(n:Int))=true):i<n:=by simpa using h
theorem co{i n:Nat}(h:decide ((i:Int)<(n:Int))=false):n≤i:=by simpa using h
end Go.Al
namespace Go.Al
section
def BK:Op->Bool
  | .binOp .add _ _ _ _=>lc
  | .binOp .sub _ _ _ _=>lc
  | .binOp .mul _ _ _ _=>lc
  | .binOp .rem _ _ _ _=>lc
  | .binOp .quo _ _ _ _=>lc
  | .indexAddr ..=>lc
  | .index ..=>lc
  | .slice ..=>lc
  |_=>li
theorem wU{ty:Ty}{s:AS}{o:Op}{p:PV}{C:Prop}(h:lu ty s o=jp (p,C))(ho:BK o=li):C:=by
  cases o with
  | binOp op t x y t'=>
    simp only[lu]at h;split at h
    · unfold HX at h
      split at h
      · split at h<;>first|(cases h;done)|(simp only[Yh,Yw]at h;rw[<-h.2];trivial)
      · split at h<;>first|(cases h;done)|(simp only[Yh,Yw]at h;rw[<-h.2];trivial)
      · cases h
    unfold Cp at h;split at h
    · split at h
      · unfold Hm at h
        split at h<;>first|(cases h;done)|(simp[BK]at ho;done)|(simp only[Yh,Yw]at h;rw[<-h.2];trivial)
      · unfold GD at h
        split at h<;>first
          |(cases h;done)
          |(split at h<;>first|(cases h;done)|(simp only[Yh,Yw]at h;rw[<-h.2];trivial))
    · unfold Gz at h
      split at h<;>first|(cases h;done)|(simp[BK]at ho;done)|(simp only[Yh,Yw]at h;rw[<-h.2];trivial)
    · split at h
      all_goals first
        |(cases h;done)
        | (unfold qP at h
           split at h
           · split at h<;>first|(cases h;done)|(simp only[Yh,Yw]at h;rw[<-h.2];trivial)
           · cases h)
    · split at h
      all_goals first
        |(cases h;done)
        | (unfold qP at h
           split at h
           · split at h<;>first|(cases h;done)|(simp only[Yh,Yw]at h;rw[<-h.2];trivial)
           · cases h)
    · cases h
  |indexAddr t x i=>simp[BK]at ho
  |index t x i=>simp[BK]at ho
  |slice t x lo hi mx=>simp[BK]at ho
  | call c=>
    obtain⟨callee,args,d⟩:=c;cases callee with
    | builtin b=>
      cases b with
      | len=>
        simp only[lu]at h;split at h
        · split at h
          · split at h<;>first|(cases h;done)|(simp only[zf,Yh,Yw]at h;rw[<-h.2];trivial)
          · split at h<;>first|(cases h;done)|(simp only[zf,Yh,Yw]at h;rw[<-h.2];trivial)
          · split at h
            · simp only[Yh,Yw]at h;rw[<-h.2];trivial
            · split at h<;>first|(cases h;done)|(simp only[Yh,Yw]at h;rw[<-h.2];trivial)
            · cases h
          · cases h
        · cases h
      | max=>
        simp only[lu]at h;split at h
        · split at h<;>first|(cases h;done)|(simp only[Yh,Yw]at h;rw[<-h.2];trivial)
        · cases h
      | min=>
        simp only[lu]at h;split at h
        · split at h<;>first|(cases h;done)|(simp only[Yh,Yw]at h;rw[<-h.2];trivial)
        · cases h
      |_=>simp[lu]at h
    |_=>simp[lu]at h
  | unOp op t x=>
    cases op with
    |not=>simp only[lu]at h;split at h<;>first|(cases h;done)|(simp only[Yh,Yw]at h;rw[<-h.2];trivial)
    |_=>simp[lu]at h
  | lookup t x i ok=>
    have key: ∀{kc:KC} {V:Type} {e:V->IV} {z:V} {j:Value} {m:List (kc.K×V)},xY ty t ok kc e z j m (ev s.f i)=jp (p,C)->C:=by
      intro kc V e z j m h;unfold xY at h;split at h
      · split at h
        · split at h
          · split at h<;>(simp only[Yh,Yw]at h;rw[<-h.2];trivial)
          · cases h
        · cases h
      · cases h
    simp only[lu]at h;split at h
    · exact key h
    · split at h
      · exact key h
      · cases h
    · cases h
  | _=>
    simp only[lu]at h
    repeat' (first|(cases h;done)|(simp only[force_eq,Yh,Yw]at h;rw[<-h.2];trivial)|split at h)
inductive M6 where
  |read (i:Nat) (o:Oper) (p:PV) (C:Prop)
  |skip (i:Nat) (o:Oper)
  |split (d:Nat) (t:Bool)
def ny(ty:Ty)(nt:Nat)(s:AS)(all:List Oper)(todo pend:List (Nat×Oper)):List (Nat×Oper)->Option M6
  | []=>kw
  | (i,o)::r=>match todo.any (fun y=>waits o y.1)||aU o with
    |true=>ny ty nt s all todo pend r
    | false=>match cE nt all s.f o with
      | some lc=>match lu ty s o.op with
        | some (p,C)=>match zl all pend o with
          |true=>jp (.read i o p C)
          |false=>ny ty nt s all todo pend r
        |none=>ny ty nt s all todo pend r
      | some li=>match zl all pend o with
        |true=>jp (.skip i o)
        |false=>ny ty nt s all todo pend r
      | none=>match o.guard with
        | some (g,_)=>match guardOf all s.f g with
          |some (d,.iv (.v (.bool t)))=>jp (.split d t)
          |_=>ny ty nt s all todo pend r
        |none=>ny ty nt s all todo pend r
def dK(ty:Ty)(nt:Nat)(all:List Oper)(s:AS):List (Nat×Oper)->Option Prop
  | []=>jp True
  | (_,o)::r=>match dK ty nt all s r with
    |none=>kw
    | some R=>match cE nt all s.f o with
      | some lc=>match lu ty s o.op with
        | some (p,C)=>match o.dst with
          |some d=>bif YD d nt then jp ((aG p (s.f.get d)∧C)∧R) else kw
          |none=>jp (C∧R)
        |none=>kw
      | some li=>match o.dst with
        |some d=>jp (s.f.get d= .iv (.v (.tuple #[]))∧R)
        |none=>jp R
      |none=>kw
def eJ(todo:List (Nat×Oper)):List (Nat×Oper):=todo.filter fun x=>!(aU x.2||todo.any fun y=>waits x.2 y.1)
def qW(ty:Ty)(nt:Nat)(all:List Oper)(s:AS)(todo pend:List (Nat×Oper)):Option Prop:=
  match todo.any fun y=>aU y.2 with
  |true=>dK ty nt all s pend
  |false=>jp True
def qU(all:List Oper)(i:Nat)(o:Oper):Nat->List Oper->Bool
  |_,[]=>lc
  |k,q::r=>(YJ k i||((waits q i||!looks all q o)&&(match o.dst,q.dst with|some d,jp e=>!YJ d e|_,_=>lc)))&&qU all i o (k+1) r
def mY(ty:Ty)(nt:Nat)(all:List Oper):Nat->List Oper->Bool
  |_,[]=>lc
  | i,o::r=>(match o.op with
    | .alloc t=>match o.guard,o.dst,ty t with
      |none,jp d,jp _=>YD d nt&&((o.after.toList.all fun e=>!Region.binds .any e)&&qU all i o 0 all)
      |_,_,_=>li
    |_=>lc)&&mY ty nt all (i+1) r
def Dv(todo:List (Nat×Oper)):List (Nat×Oper)->Option (Nat×Oper)
  | []=>kw
  | (i,o)::r=>match aU o,Cr todo i with
    |true,lc=>jp (i,o)
    |_,_=>Dv todo r
inductive Stop where
  |fin (e:Exit) (s:AS)
  |cond (c:Operand) (t:Bool) (x y:Code) (k:List KI) (s:AS)
  |guard (all rest:List Oper) (o:Oper) (d:Nat) (want t:Bool) (k:List KI) (s:AS)
  |op (all rest:List Oper) (o:Oper) (k:List KI) (s:AS)
  |loop (b:Code) (k:List KI) (s:AS)
  |draw (id:Nat) (ops:Array Oper) (k:List KI) (s:AS)
  |again (R:AS->Prop) (s:AS)
  |S9 (all rest:List Oper) (o:Oper) (d:Nat) (want t:Bool) (k:List KI) (s:AS)
  |Mf (all:List Oper) (todo pend:List (Nat×Oper)) (d:Nat) (t:Bool) (k:List KI) (s:AS)
  |Ml (all:List Oper) (todo pend:List (Nat×Oper)) (k:List KI) (s:AS)
  |bad (why:Nat) (k:List KI) (s:AS)
  |out (k:List KI) (s:AS)
def p7(id:Nat):List KI->Option (List KI)
  | []=>kw
  | .aI j::k=>bif YJ id j then jp k else p7 id k
  | .code _::k=>p7 id k
  | .ops _ _::k=>p7 id k
  | .lp _::k=>p7 id k
  | .wz _ _::k=>p7 id k
  | .cP _ _ _::k=>p7 id k
  | .H5 _ _::k=>p7 id k
  | .JA::k=>p7 id k
  | .P2 ..::_=>kw
  | .P3 ..::_=>kw
def iN:List KI->Option (List KI)
  | []=>kw
  | .aI _::k=>iN k
  | .code _::k=>iN k
  | .ops _ _::k=>iN k
  | .lp _::k=>iN k
  | .wz _ _::k=>iN k
  | .cP _ _ _::k=>iN k
  | .H5 _ _::k=>iN k
  | .JA::k=>iN k
  |k=>jp k
structure Yc where
  nt:Nat
  res:List ResultVar
  body:Code
abbrev WH:=Nat->Option Yc
def M5(P:Program)(b:WH):Prop:= ∀g e,b g=jp e-> ∃fn,P.funcs[g]? =jp fn∧fn.body=jp e.body∧(fn.name== "runtime.NumGoroutine")=li∧fn.ntmps=e.nt∧fn.results.toList=e.res
def EP{α:Type _}:Nat->List PV->(AF->α)->α
  |_,[],k=>k []
  |n,p::r,k=>yr p fun b=>EP (n+1) r fun f=>k ((n,b)::f)
theorem yV{α:Type _}: ∀(l:List PV) (n:Nat) (k:AF->α),EP n l k=k (qS n l)
  | [],_,_=>rfl
  |p::r,n,k=>by simp only[EP,eO,yV r,qS]
def callee(b:WH)(s:AS):Op->Option (Yc×List PV)
  | .call c=>match bP s.f c with
    | some (g,asv)=>match b g with
      | some e=>match aaf asv.length e.nt with
        |true=>jp (e,asv)
        |false=>kw
      |none=>kw
    |none=>kw
  |_=>kw
structure Way where
  fns:WH
  un:Nat
  cl:Bool
def b4(ty:Ty)(y:Way):Nat->Nat->List KI->AS->Prop->Option (Prop×Nat×Stop)
  |0,nt,k,s,C=>jp (C,nt,.out k s)
  |_+1,nt,[],s,C=>jp (C,nt,.fin .normal s)
  |n+1,nt,.aI _::k,s,C=>b4 ty y n nt k s C
  |_+1,nt,.lp R::_,s,C=>jp (C,nt,.again R s)
  |n+1,nt,.JA::k,s,C=>b4 ty y n nt k s C
  |n+1,nt,.code (.scope b)::k,s,C=>b4 ty y n nt (.code b:: .JA::k) s C
  | n+1,nt,.H5 b m::k,s,C=>match m with
    |0=>jp (C,nt,.bad 2 k s)
    |m+1=>b4 ty y n nt (.code b:: .H5 b m::k) s C
  | n+1,_,.P2 nt f res o all rest::k,s,C=>match res s with
    |none=>jp (C,nt,.bad 3 k s)
    | some r=>match putDst nt o r ⟨f,s.h,s.nx⟩ with
      |none=>jp (C,nt,.bad 4 k s)
      |some s'=>b4 ty y n nt (.ops all rest::k) s' C
  | n+1,_,.P3 nt f res j o all todo pend::k,s,C=>match res s with
    |none=>jp (C,nt,.bad 5 k s)
    | some r=>match putDst nt o r ⟨f,s.h,s.nx⟩ with
      |none=>jp (C,nt,.bad 6 k s)
      | some s'=>match dK ty nt all s' (bg pend o) with
        |none=>jp (C,nt,.bad 7 k s)
        |some C''=>b4 ty y n nt (.cP all (todo.filter fun x=>!YJ x.1 j) (bg pend o)::k) s' (C∧C'')
  |n+1,nt,.code .skip::k,s,C=>b4 ty y n nt k s C
  |n+1,nt,.code (.label _)::k,s,C=>b4 ty y n nt k s C
  |n+1,nt,.code (.seq a b)::k,s,C=>b4 ty y n nt (.code a:: .code b::k) s C
  |n+1,nt,.code (.block id b)::k,s,C=>b4 ty y n nt (.code b:: .aI id::k) s C
  | n+1,nt,.code (.region id ops d)::k,s,C=>match d with
    |false=>b4 ty y n nt (.ops ops.toList ops.toList::k) s C
    | true=>match vj ops.toList,ij 0 ops.toList,mY ty nt ops.toList 0 ops.toList with
      |true,lc,lc=>b4 ty y n nt (.cP ops.toList (gX 0 ops.toList) []::k) s C
      |_,_,_=>jp (C,nt,.draw id ops k s)
  |n+1,nt,.cP _ [] _::k,s,C=>b4 ty y n nt k s C
  | n+1,nt,.cP all (x::todo) pend::k,s,C=>match ny ty nt s all (x::todo) pend (x::todo) with
    | some (.read i o p C')=>match putDst nt o p s with
      |none=>jp (C,nt,.bad 8 k s)
      | some s'=>match BK o.op with
        |true=>b4 ty y n nt (.cP all ((x::todo).filter fun x=>!YJ x.1 i) ((i,o)::pend)::k) s' (C∧C')
        |false=>b4 ty y n nt (.cP all ((x::todo).filter fun x=>!YJ x.1 i) ((i,o)::pend)::k) s' C
    |some (.skip i o)=>b4 ty y n nt (.cP all ((x::todo).filter fun x=>!YJ x.1 i) ((i,o)::pend)::k) (iM o s) C
    | some (.split d _)=>match s.f.get d with
      | .iv (.v (.bool t'))=>match y.cl with
        |false=>jp (C,nt,.Mf all (x::todo) pend d t' k s)
        | true=>match t' with
          |true=>b4 ty y n nt (.cP all (x::todo) pend::k) (setBool s (.tmp d) lc) C
          |false=>b4 ty y n nt (.cP all (x::todo) pend::k) (setBool s (.tmp d) li) C
      |_=>jp (C,nt,.bad 9 k s)
    | none=>match eJ (x::todo) with
      | [(j,o)]=>match cE nt all s.f o,iW all pend o,oA (x::todo) [j] with
        | some lc,lc,lc=>match qW ty nt all s (x::todo) pend with
          |none=>jp (C,nt,.bad 101 k s)
          | some CA=>match lu ty s o.op with
            | some (p,C')=>match putDst nt o p s with
              |none=>jp (C,nt,.bad 102 k s)
              | some s'=>match dK ty nt all s' (bg pend o) with
                |none=>jp (C,nt,.bad 103 k s)
                |some C''=>b4 ty y n nt (.cP all ((x::todo).filter fun x=>!YJ x.1 j) (bg pend o)::k) s' (C∧(CA∧C'∧C''))
            | none=>match JD ty s o.op with
              | none=>match callee y.fns s o.op with
                | none=>match Ut ty s o.op with
                  |none=>jp (C,nt,.Ml all (x::todo) pend k s)
                  | some (C',p,s1)=>match putDst nt o p s1 with
                    |none=>jp (C,nt,.bad 109 k s)
                    | some s'=>match dK ty nt all s' (bg pend o) with
                      |none=>jp (C,nt,.bad 110 k s)
                      |some C''=>b4 ty y n nt (.cP all ((x::todo).filter fun x=>!YJ x.1 j) (bg pend o)::k) s' (C∧(CA∧C'∧C''))
                |some (e,asv)=>EP 0 asv fun f=>b4 ty y n e.nt (.code e.body:: .P3 nt s.f (lv ty · e.res) j o all (x::todo) pend::k) ⟨f,s.h,s.nx⟩ (C∧CA)
              | some (p,s1)=>match putDst nt o p s1 with
                |none=>jp (C,nt,.bad 104 k s)
                | some s'=>match dK ty nt all s' (bg pend o) with
                  |none=>jp (C,nt,.bad 105 k s)
                  |some C''=>b4 ty y n nt (.cP all ((x::todo).filter fun x=>!YJ x.1 j) (bg pend o)::k) s' (C∧(CA∧C''))
        |_,_,_=>jp (C,nt,.Ml all (x::todo) pend k s)
      | []=>match Dv (x::todo) (x::todo) with
        |none=>jp (C,nt,.Ml all (x::todo) pend k s)
        | some (i,o)=>match o.op,o.dst with
          | .alloc t,jp d=>match ty t with
            |none=>jp (C,nt,.bad 106 k s)
            | some e=>force (c4 e.zero) fun A=>match dK ty nt all s pend,dK ty nt all (mZ s d A) pend with
              |some C1,jp C2=>b4 ty y n nt (.cP all ((x::todo).filter fun x=>!YJ x.1 i) pend::k) (mZ s d A) (C∧(C1∧C2))
              |_,_=>jp (C,nt,.bad 107 k s)
          |_,_=>jp (C,nt,.bad 108 k s)
      |_=>jp (C,nt,.Ml all (x::todo) pend k s)
  | n+1,nt,.code (.cond c u v)::k,s,C=>match ev s.f c with
    | .iv (.v (.bool t))=>match y.cl with
      |false=>jp (C,nt,.cond c t u v k s)
      | true=>match t with
        |true=>b4 ty y n nt (.code u::k) s C
        |false=>b4 ty y n nt (.code v::k) s C
    | .kb lc=>b4 ty y n nt (.code u::k) s C
    | .kb li=>b4 ty y n nt (.code v::k) s C
    |_=>jp (C,nt,.bad 14 k s)
  | n+1,nt,.code .ret::k,s,C=>match iN k with
    |some k'=>b4 ty y n nt k' s C
    |none=>jp (C,nt,.fin .ret s)
  | n+1,nt,.code (.exit id)::k,s,C=>match p7 id k with
    |some k'=>b4 ty y n nt k' s C
    |none=>jp (C,nt,.bad 15 k s)
  | n+1,nt,.code (.loop b)::k,s,C=>match y.un with
    |0=>jp (C,nt,.loop b k s)
    |u+1=>b4 ty y n nt (.code b:: .H5 b u::k) s C
  |_+1,nt,.code _::k,s,C=>jp (C,nt,.bad 16 k s)
  |_+1,nt,.wz _ _::k,s,C=>jp (C,nt,.bad 17 k s)
  |n+1,nt,.ops _ []::k,s,C=>b4 ty y n nt k s C
  | n+1,nt,.ops all (o::r)::k,s,C=>match o.guard with
    | some (j,want)=>match guardOf all s.f j with
      | some (d,.iv (.v (.bool t)))=>bif YD d nt then(match y.cl with
        |false=>jp (C,nt,.guard all r o d want t k s)
        | true=>match t with
          |true=>b4 ty y n nt (.ops all (o::r)::k) (setBool s (.tmp d) lc) C
          |false=>b4 ty y n nt (.ops all (o::r)::k) (setBool s (.tmp d) li) C) else jp (C,nt,.bad 18 k s)
      | some (d,.kb t)=>bif YD d nt then(match t,want,o with
        |true,lc,⟨a1,a2,a3,a4,a5,_⟩=>b4 ty y n nt (.ops all (⟨a1,a2,a3,a4,a5,kw⟩::r)::k) s C
        |false,li,⟨a1,a2,a3,a4,a5,_⟩=>b4 ty y n nt (.ops all (⟨a1,a2,a3,a4,a5,kw⟩::r)::k) s C
        |_,_,o=>b4 ty y n nt (.ops all r::k) (iM o s) C) else jp (C,nt,.bad 19 k s)
      |some (_,.iv (.v (.tuple _)))=>b4 ty y n nt (.ops all r::k) (iM o s) C
      |_=>jp (C,nt,.bad 20 k s)
    | none=>match lu ty s o.op with
      | none=>match JD ty s o.op with
        | none=>match callee y.fns s o.op with
          | none=>match Ut ty s o.op with
            |none=>jp (C,nt,.op all r o k s)
            | some (C',p,s1)=>match putDst nt o p s1 with
              |none=>jp (C,nt,.bad 111 k s)
              |some s'=>b4 ty y n nt (.ops all r::k) s' (C∧C')
          |some (e,asv)=>EP 0 asv fun f=>b4 ty y n e.nt (.code e.body:: .P2 nt s.f (lv ty · e.res) o all r::k) ⟨f,s.h,s.nx⟩ C
        | some (p,s1)=>match putDst nt o p s1 with
          |none=>jp (C,nt,.bad 21 k s)
          |some s'=>b4 ty y n nt (.ops all r::k) s' C
      | some (p,C')=>match putDst nt o p s with
        |none=>jp (C,nt,.bad 22 k s)
        | some s'=>match BK o.op with
          |true=>b4 ty y n nt (.ops all r::k) s' (C∧C')
          |false=>b4 ty y n nt (.ops all r::k) s' C
def gh(P:Program)(nt:Nat)(Q:AQ):Stop->Prop
  | .fin e s=>Q e s
  | .cond c t x y k s=>(t=lc->GO P nt (.code x::k) Q (setBool s c lc))∧(t=li->GO P nt (.code y::k) Q (setBool s c li))
  | .guard all r o d want t k s=>(t=want->GO P nt (.ops all ({o with guard:=kw}::r)::k) Q (setBool s (.tmp d) want))∧(t=!want->GO P nt (.ops all r::k) Q (iM o (setBool s (.tmp d) (!want))))
  | .op all r o k s=>GO P nt (.ops all (o::r)::k) Q s
  | .loop b k s=>GO P nt (.code (.loop b)::k) Q s
  | .draw id ops k s=>GO P nt (.code (.region id ops lc)::k) Q s
  | .again R s=>R s
  | .S9 all r o d want t k s=>(t=want->GO P nt (.wz all ({o with guard:=kw}::r)::k) Q (setBool s (.tmp d) want))∧(t=!want->GO P nt (.wz all r::k) Q (iM o (setBool s (.tmp d) (!want))))
  | .Mf all todo pend d t k s=>(t=lc->GO P nt (.cP all todo pend::k) Q (setBool s (.tmp d) lc))∧(t=li->GO P nt (.cP all todo pend::k) Q (setBool s (.tmp d) li))
  | .Ml all todo pend k s=>GO P nt (.cP all todo pend::k) Q s
  | .bad _ _ _=>False
  | .out k s=>GO P nt k Q s
section
variable {P:Program} {ty:Ty} {nt:Nat} {Q:AQ}
theorem pb: ∀(k:List KI) {nt:Nat} {s:AS},iN k=kw->Q .ret s->kp P nt k Q .ret s
  | [],_,_,_,h=>h
  | .code _::k,_,_,g,h=>pb k g h
  | .aI _::k,_,_,g,h=>pb k g h
  | .ops _ _::k,_,_,g,h=>pb k g h
  | .lp _::k,_,_,g,h=>pb k g h
  | .wz _ _::k,_,_,g,h=>pb k g h
  | .cP _ _ _::k,_,_,g,h=>pb k g h
  | .H5 _ _::k,_,_,g,h=>pb k g h
  | .JA::k,_,_,g,h=>pb k g h
  | .P2 ..::_,_,_,g,_=>by simp[iN]at g
  | .P3 ..::_,_,_,g,_=>by simp[iN]at g
theorem eU: ∀(k:List KI) {nt:Nat} {s:AS} {b:List KI},iN k=jp b->GO P nt b Q s->kp P nt k Q .ret s
  | [],_,_,_,g,_=>by simp[iN]at g
  | .code _::k,_,_,_,g,h=>eU k g h
  | .aI _::k,_,_,_,g,h=>eU k g h
  | .ops _ _::k,_,_,_,g,h=>eU k g h
  | .lp _::k,_,_,_,g,h=>eU k g h
  | .wz _ _::k,_,_,_,g,h=>eU k g h
  | .cP _ _ _::k,_,_,_,g,h=>eU k g h
  | .H5 _ _::k,_,_,_,g,h=>eU k g h
  | .JA::k,_,_,_,g,h=>eU k g h
  | .P2 ..::_,_,_,_,g,h=>by
    simp only[iN,Yh]at g;subst g;exact⟨.inr Z,h.2⟩
  | .P3 ..::_,_,_,_,g,h=>by
    simp only[iN,Yh]at g;subst g;exact⟨.inr Z,h.2⟩
theorem dS{id:Nat}: ∀(k:List KI) {nt:Nat} {b:List KI} {s:AS},p7 id k=jp b->GO P nt b Q s->kp P nt k Q (.exit id) s
  | [],_,_,_,h,_=>by cases h
  | .code _::k,_,_,_,h,g=>dS k h g
  | .ops _ _::k,_,_,_,h,g=>dS k h g
  | .lp _::k,_,_,_,h,g=>dS k h g
  | .wz _ _::k,_,_,_,h,g=>dS k h g
  | .cP _ _ _::k,_,_,_,h,g=>dS k h g
  | .H5 _ _::k,_,_,_,h,g=>dS k h g
  | .JA::k,_,_,_,h,g=>dS k h g
  | .P2 ..::_,_,_,_,h,_=>by cases h
  | .P3 ..::_,_,_,_,h,_=>by cases h
  | .aI j::k,nt,b,s,h,g=>by
    simp only[p7]at h;show if id=j then _ else _;cases hb:YJ id j with
    | true=>
      simp only[hb,cond_true,Yh]at h;subst h;rw[am (YE hb)];exact g
    | false=>
      simp only[hb,cond_false]at h;rw[be (fun e=>by subst e;simp at hb)];exact dS k h g
theorem uZ(j:cC P ty){s s':AS}{o:Oper}{p:PV}{C:Prop}(h:lu ty s o.op=jp (p,C))(hC:C)(hp:putDst nt o p s=jp s'):OT P nt o s (fun t=>t=s'):=by
  intro M N a w b K Z u;obtain⟨x,B,A⟩:=xJ j b h hC;unfold Oper.wp;rw[B];simp only[Oper.upon];cases hd:o.dst with
  | none=>
    have:=gP hp hd;subst this;exact u M N s' _ w (.refl _ _ _ _ _) b rfl
  | some d=>
    obtain⟨y,rfl⟩:=gL hp hd;exact u M N {s with f:=(d,p)::s.f} _ w (.refl _ _ _ _ _) (b.put d p x y A) rfl
theorem l5(j:cC P ty){s s':AS}{o:Oper}{p:PV}{C:Prop}(h:lu ty s o.op=jp (p,C))(hC:C)(hp:putDst nt o p s=jp s'):
    (s'.h=s.h∧s'.nx=s.nx)∧ ∀M N a w,Fits M N s nt a w-> ∃x,(execOp a.eval o).run P w= .ok (.value x) w∧Fits M N s' nt (a.put o.dst x) w:=by
  cases hd:o.dst with
  | none=>
    have:=gP hp hd;subst this;exact⟨⟨rfl,rfl⟩,fun M N a w b=>let ⟨x,hx,_⟩:=xJ j b h hC;⟨x,hx,b⟩⟩
  | some d=>
    obtain⟨u,rfl⟩:=gL hp hd;exact⟨⟨rfl,rfl⟩,fun M N a w b=>let ⟨x,hx,hv⟩:=xJ j b h hC;⟨x,hx,b.put d p x u hv⟩⟩
theorem p8{s:AS}{all:List Oper}{todo pend:List (Nat×Oper)}: ∀{l:List (Nat×Oper)} {i:Nat} {o:Oper},(∀x∈l,x∈todo)->
    ((∀{p C},ny ty nt s all todo pend l=jp (.read i o p C)->(i,o)∈todo∧aU o=li∧(∀x∈todo,waits o x.1=li)∧cE nt all s.f o=jp lc∧zl all pend o=lc∧lu ty s o.op=jp (p,C))∧
     (ny ty nt s all todo pend l=jp (.skip i o)->(i,o)∈todo∧aU o=li∧(∀x∈todo,waits o x.1=li)∧cE nt all s.f o=jp li∧zl all pend o=lc))
  | [],i,o,_=>⟨fun h=>by simp[ny]at h,fun h=>by simp[ny]at h⟩
  | (j,q)::r,i,o,hl=>by
    have b:=p8 (s:=s) (all:=all) (todo:=todo) (pend:=pend) (l:=r) (i:=i) (o:=o) (fun x D=>hl x (Yt _ D));have d:(todo.any (fun y=>waits q y.1)||aU q)=li->aU q=li∧ ∀x∈todo,waits q x.1=li:=fun h=>by
      simp only[Y6,Y5]at h;exact⟨h.2,fun x D=>by simpa using h.1 x D⟩
    constructor
    · intro p C h
      simp only[ny]at h;split at h
      · exact b.1 h
      · rename_i u
        split at h
        · rename_i B
          split at h
          · rename_i F
            split at h
            · rename_i A
              simp only[Yh,M6.read.injEq]at h;obtain⟨rfl,rfl,rfl,rfl⟩:=h;exact⟨hl _ (by simp),(d u).1,(d u).2,B,A,F⟩
            · exact b.1 h
          · exact b.1 h
        · split at h
          · cases h
          · exact b.1 h
        · split at h
          · split at h
            · cases h
            · exact b.1 h
          · exact b.1 h
    · intro h
      simp only[ny]at h;split at h
      · exact b.2 h
      · rename_i u
        split at h
        · split at h
          · split at h
            · cases h
            · exact b.2 h
          · exact b.2 h
        · rename_i B
          split at h
          · rename_i A
            simp only[Yh,M6.skip.injEq]at h;obtain⟨rfl,rfl⟩:=h;exact⟨hl _ (by simp),(d u).1,(d u).2,B,A⟩
          · exact b.2 h
        · split at h
          · split at h
            · cases h
            · exact b.2 h
          · exact b.2 h
theorem EV{s s1:AS}{o:Oper}{d:Nat}{p:PV}(hd:o.dst=jp d)(hs:s1={s with f:=(d,p)::s.f})(hp:aG p (s.f.get d)){M:Mem}{N:Nm}{a:Act}{w:World}(hf:Fits M N s1 nt a w):Fits M N s nt a w:=by
  subst hs;refine⟨hf.1,fun k=>?_,hf.2.2⟩;have:=hf.2.1 k;rw[AF.aw]at this;split at this
  · rename_i b;subst b;exact hp _ _ _ _ this
  · exact this
theorem ep(u:cC P ty){all:List Oper}{s:AS}: ∀{l:List (Nat×Oper)} {C:Prop},dK ty nt all s l=jp C->C-> ∀x∈l,iL P nt all s x.2
  | [],_,_,_,x,hx=>(nomatch hx)
  | (i,o)::r,C,h,hC,x,hx=>by
    simp only[dK]at h;split at h
    · cases h
    · rename_i R hR
      have key:R->(∀M N b w,Fits M N s nt b w-> ∃v,YieldsAt P all.toArray w o v b∧Fits M N s nt (b.put o.dst v) w)->iL P nt all s x.2:=by
        intro B hh;rcases Yx.1 hx with rfl|hx
        · exact hh
        · exact ep u hR B x hx
      split at h
      · rename_i y
        split at h
        · rename_i p S B
          split at h
          · rename_i d hd
            cases hb:YD d nt with
            |false=>simp[hb]at h
            | true=>
              simp only[hb,cond_true,Yh]at h;subst h;obtain⟨⟨D,I⟩,J⟩:=hC;refine key J fun M N b w j=>?_;obtain⟨v,G,A⟩:=xJ u j B I;refine⟨v,.inl ⟨eE y j,.inl G⟩,?_⟩;rw[hd];exact EV hd Z D (j.put d p v (Yd hb) A)
          · rename_i hd
            simp only[Yh]at h;subst h;refine key hC.2 fun M N b w j=>?_;obtain⟨v,G,A⟩:=xJ u j B hC.1;exact⟨v,.inl ⟨eE y j,.inl G⟩,by rw[hd];exact j⟩
        · cases h
      · rename_i y
        have F: ∀d,o.dst=jp d->s.f.get d= .iv (.v (.tuple #[]))-> ∀M N b w,Fits M N s nt b w-> ∃v,YieldsAt P all.toArray w o v b∧Fits M N s nt (b.put o.dst v) w:=fun d hd D M N b w j=>by
          refine⟨undef,.inr ⟨eE y j,rfl⟩,?_⟩;have:=j.skip o;unfold iM at this;rw[hd]at this ⊢;exact EV hd Z (D▸aG.refl _) this
        split at h
        · rename_i d hd
          simp only[Yh]at h;subst h;exact key hC.2 (F d hd hC.1)
        · rename_i hd
          simp only[Yh]at h;subst h;exact key hC fun M N b w j=>⟨undef,.inr ⟨eE y j,rfl⟩,by rw[hd];exact j⟩
      · cases h
theorem Hv{all:List Oper}{o:Oper}{r:List Oper}{d:Nat}{t:Bool}{k:List KI}{s:AS}{c:Bool}(hc:c=t)(u:s.f.get d= .iv (.v (.bool t)))(h:GO P nt (.ops all (o::r)::k) Q (setBool s (.tmp d) c)):GO P nt (.ops all (o::r)::k) Q s:=by
  subst hc;intro M N a w j;have b:=j.setBool (c:= .tmp d) u;exact AL.same (s:=s) h (lM _ _ _) b
theorem yp{c:Operand}{u v:Code}{t:Bool}{k:List KI}{s:AS}(hc:ev s.f c= .iv (.v (.bool t)))(h:GO P nt (.code (bif t then u else v)::k) Q s):GO P nt (.code (.cond c u v)::k) Q s:=by
  intro M N a w b;refine wp_cond (b.bool hc) ?_;cases t
  · exact h M N a w b
  · exact h M N a w b
theorem vW{all:List Oper}{f:AF}{j d:Nat}{p:PV}(h:guardOf all f j=jp (d,p)):f.get d=p:=by
  unfold guardOf at h;split at h
  · split at h
    · simp only[Yh,Yw]at h;rw[<-h.1];exact h.2
    · cases h
  · cases h
theorem Du{todo:List (Nat×Oper)}: ∀{l:List (Nat×Oper)} {i:Nat} {o:Oper},(∀x∈l,x∈todo)->Dv todo l=jp (i,o)->(i,o)∈todo∧Cr todo i=lc
  | [],_,_,_,h=>by simp[Dv]at h
  | (j,q)::r,i,o,hl,h=>by
    simp only[Dv]at h;split at h
    · rename_i b
      simp only[Yh,Yw]at h;obtain⟨rfl,rfl⟩:=h;exact⟨hl _ (by simp),b⟩
    · exact Du (fun x d=>hl x (Yt _ d)) h
theorem wo{all:List Oper}{i:Nat}{o:Oper}: ∀{l:List Oper} {n:Nat},qU all i o n l=lc-> ∀k q,l[k]? =jp q->n+k≠i->(waits q i=lc∨looks all q o=li)∧ ∀d,o.dst=jp d->q.dst≠jp d
  | [],_,_,k,q,hk,_=>by simp at hk
  | c::l,n,h,k,q,hk,hne=>by
    simp only[qU,YB,Y3,Y1]at h;cases k with
    | zero=>
      simp at hk;subst hk;rcases h.1 with b|⟨b,x⟩
      · exact absurd (YE b) (by simpa using hne)
      · refine⟨b,fun d j u=>?_⟩
        rw[j,u]at x;simp at x
    |succ k=>exact wo h.2 k q (by simpa using hk) (by omega)
theorem zk(B:cC P ty){all:List Oper}(h:mY ty nt all 0 all=lc):kj P nt all:=by
  have key: ∀(l:List Oper) (n:Nat),mY ty nt all n l=lc-> ∀k o,l[k]? =jp o->aU o=lc->
      o.guard=kw∧(∃d,o.dst=jp d∧d<nt)∧(∃t v,o.op= .alloc t∧ ∀w,(zeroValue t).run P w= .ok v w)∧(∀k,waits o k=li)∧qU all (n+k) o 0 all=lc:=by
    intro l
    induction l with
    |nil=>intro n _ k o j;simp at j
    | cons c l ih=>
      intro n h k o j u;simp only[mY,YB]at h;cases k with
      | zero=>
        simp at j;subst j;have b:=h.1;split at b
        · rename_i t A
          split at b
          · rename_i d e I hd x
            simp only[YB]at b;refine⟨I,⟨d,hd,Yd b.1⟩,⟨t,_,A,fun w=>eA (B _ _ x)⟩,fun k=>?_,b.2.2⟩;unfold waits;refine Y5.2 fun e x=>?_;have:=YG.1 b.2.1 e x;simp only[Y1]at this;simp[this]
          · cases b
        · rename_i y
          unfold aU at u;split at u
          · rename_i t A;exact absurd A (y t)
          · cases u
      | succ k=>
        have:=ih (n+1) h.2 k o (by simpa using j) u;rw[show n+(k+1)=n+1+k by omega];exact this
  intro i o S u;obtain⟨b,D,F,G,C⟩:=key all 0 h i o S u;refine⟨b,D,F,G,fun k q j J=>?_⟩;rw[YC]at C;exact wo C k q j (by omega)
theorem A3{b:WH}(d:M5 P b){s:AS}{o:Op}{e:Yc}{asv:List PV}(h:callee b s o=jp (e,asv)):
    ∃g c fn,o= .call c∧bP s.f c=jp (g,asv)∧asv.length<=e.nt∧P.funcs[g]? =jp fn∧fn.body=jp e.body∧(fn.name== "runtime.NumGoroutine")=li∧fn.ntmps=e.nt∧fn.results.toList=e.res:=by
  unfold callee at h;split at h
  · rename_i c
    split at h
    · rename_i g j C
      split at h
      · rename_i F D
        split at h
        · rename_i hb
          simp only[Yh,Yw]at h;obtain⟨rfl,rfl⟩:=h;obtain⟨fn,u,x,y,A,B⟩:=d _ _ D;exact⟨g,c,fn,rfl,C,Yd hb,u,x,y,A,B⟩
        · cases h
      · cases h
    · cases h
  · cases h
theorem Te(hm:P.follows .mixedOrders=lc)(B:cC P ty){y:Way}(s0:M5 P y.fns): ∀(n nt:Nat) (k:List KI) (s:AS) (C0 C:Prop) (G:Nat) (st:Stop),b4 ty y n nt k s C0=jp (C,G,st)->(C->C0)∧(C->gh P G Q st->GO P nt k Q s):=by
  intro n
  induction n with
  | zero=>
    intro nt k s C0 C G st h;simp only[b4,Yh,Yw]at h;obtain⟨rfl,rfl,rfl⟩:=h;exact⟨fun h=>h,fun _ g=>g⟩
  | succ n ih=>
    intro nt k s C0 C G st h;have A: ∀{I:Nat} {k2:List KI} {s2:AS},b4 ty y n I k2 s2 C0=jp (C,G,st)->(GO P I k2 Q s2->GO P nt k Q s)->(C->C0)∧(C->gh P G Q st->GO P nt k Q s):=
      fun h f=>have:=ih _ _ _ _ _ _ _ h;⟨this.1,fun hC g=>f (this.2 hC g)⟩
    have D: ∀{I:Nat} {k2:List KI} {s2:AS} {C1:Prop},b4 ty y n I k2 s2 (C0∧C1)=jp (C,G,st)->(C1->GO P I k2 Q s2->GO P nt k Q s)->(C->C0)∧(C->gh P G Q st->GO P nt k Q s):=
      fun h f=>have:=ih _ _ _ _ _ _ _ h;⟨fun hC=>(this.1 hC).1,fun hC g=>f (this.1 hC).2 (this.2 hC g)⟩
    have here: ∀{r0:Stop},jp (C0,nt,r0)=jp (C,G,st)->(gh P nt Q r0->GO P nt k Q s)->(C->C0)∧(C->gh P G Q st->GO P nt k Q s):=by
      intro r0 h f;simp only[Yh,Yw]at h;obtain⟨rfl,rfl,rfl⟩:=h;exact⟨fun h=>h,fun _ g=>f g⟩
    have bad: ∀{I:Nat} {t0:Nat} {k2:List KI} {s2:AS},jp (C0,I,Stop.bad t0 k2 s2)=jp (C,G,st)->(C->C0)∧(C->gh P G Q st->GO P nt k Q s):=by
      intro I t0 k2 s2 h;simp only[Yh,Yw]at h;obtain⟨rfl,rfl,rfl⟩:=h;exact⟨fun h=>h,fun _ g=>g.elim⟩
    cases k with
    |nil=>simp only[b4]at h;exact here h fun g=>g
    | cons i k=>
      cases i with
      |lp R=>simp only[b4]at h;exact here h fun g=>g
      |aI id=>simp only[b4]at h;exact A h TG
      |JA=>simp only[b4]at h;exact A h fun g=>g
      | H5 b m=>
        simp only[b4]at h;split at h
        · exact bad h
        · exact A h go_round
      | P2 I f res o all rest=>
        simp only[b4]at h;split at h
        · exact bad h
        · rename_i r hr
          split at h
          · exact bad h
          · rename_i s' F
            exact A h fun g=>⟨.inl Z,r,s',hr,F,g⟩
      | P3 I f res j o all todo pend=>
        simp only[b4]at h;split at h
        · exact bad h
        · rename_i r hr
          split at h
          · exact bad h
          · rename_i s' F
            split at h
            · exact bad h
            · rename_i j0 S
              exact D h fun hC g=>⟨.inl Z,r,s',hr,F,ep B S hC,g⟩
      | code c=>
        cases c with
        |skip=>simp only[b4]at h;exact A h go_skip
        |scope b=>simp only[b4]at h;exact A h LP
        |label l=>simp only[b4]at h;exact A h LR
        |seq a b=>simp only[b4]at h;exact A h TC
        |block id b=>simp only[b4]at h;exact A h LW
        | region id ops d=>
          cases d with
          |false=>simp only[b4]at h;exact A h go_region
          | true=>
            simp only[b4]at h;split at h
            · rename_i h1 h2 h3
              exact A h (LV hm (Ai h1) h2 (zk B h3))
            · exact here h fun g=>g
        | cond c u v=>
          simp only[b4]at h;split at h
          · rename_i t he
            split at h
            · exact here h fun g=>PY he g.1 g.2
            · split at h
              · exact A h (yp he)
              · exact A h (yp he)
          · rename_i he
            exact A h (yo he)
          · rename_i he
            exact A h (yo he)
          · exact bad h
        | ret=>
          simp only[b4]at h;split at h
          · rename_i k' F
            exact A h fun g=>go_ret (eU k F g)
          · rename_i F
            exact here h fun g=>go_ret (pb k F g)
        | exit id=>
          simp only[b4]at h;split at h
          · rename_i k' F
            exact A h fun g=>PW (dS k F g)
          · exact bad h
        | loop b=>
          simp only[b4]at h;split at h
          · exact here h fun g=>g
          · exact A h LO
        |_=>simp only[b4]at h;exact bad h
      |wz all rest=>simp only[b4]at h;exact bad h
      | cP all todo pend=>
        cases todo with
        |nil=>simp only[b4]at h;exact A h Ej
        | cons x todo=>
          have d0: ∀{j:Nat} {o:Oper},eJ (x::todo)=[(j,o)]->(j,o)∈(x::todo)∧aU o=li∧ ∀y∈(x::todo),waits o y.1=li:=by
            intro j o h1;have h2:(j,o)∈eJ (x::todo):=by rw[h1];simp
            obtain⟨h3,h4⟩:=YO.1 h2;simp only[Y1,Y6,Y5]at h4;exact⟨h3,h4.1,fun y J=>by simpa using h4.2 y J⟩
          have Y: ∀{CA:Prop},qW ty nt all s (x::todo) pend=jp CA->CA-> ∀y∈(x::todo),aU y.2=lc-> ∀y∈pend,iL P nt all s y.2:=by
            intro CA h1 c0 y J d1;unfold qW at h1;split at h1
            · exact ep B h1 c0
            · rename_i h2
              have:=Y5.1 h2 y J;rw[d1]at this;exact absurd Z this
          have b0: ∀{j:Nat} {o:Oper} {s':AS},eJ (x::todo)=[(j,o)]->cE nt all s.f o=jp lc->iW all pend o=lc->oA (x::todo) [j]=lc->(∀y∈(x::todo),aU y.2=lc-> ∀y∈pend,iL P nt all s y.2)->OT P nt o s (fun t=>t=s')->
              (∀y∈bg pend o,iL P nt all s' y.2)->GO P nt (.cP all ((x::todo).filter fun x=>!YJ x.1 j) (bg pend o)::k) Q s'->GO P nt (.cP all (x::todo) pend::k) Q s:=by
            intro j o s' h1 h2 h3 h4 ha h5 h6 h7;obtain⟨a0,o0,q0⟩:=d0 h1;refine xb h4 ⟨_,a0,o0⟩ ha fun j' o' hj _ hu=>?_;simp only[Yr]at hj;subst hj;have:=hu o a0;subst this;exact⟨o0,fun y J _=>q0 y J,h3,h2,_,h5,fun t ht=>by subst ht;exact⟨h6,h7⟩⟩
          simp only[b4]at h;split at h
          · rename_i i o p C' p0
            obtain⟨g1,ga,gb,g2,g3,g4⟩:=(p8 (fun _ h=>h)).1 p0;split at h
            · exact bad h
            · rename_i s' F
              split at h
              · exact D h fun hC g=>Ei g1 ga gb g2 g3 (l5 B g4 hC F).1 (l5 B g4 hC F).2 g
              · rename_i ho
                exact A h fun g=>Ei g1 ga gb g2 g3 (l5 B g4 (wU g4 ho) F).1 (l5 B g4 (wU g4 ho) F).2 g
          · rename_i i o p0
            obtain⟨g1,ga,gb,g2,g3⟩:=(p8 (fun _ h=>h)).2 p0;exact A h (LU g1 ga gb g2 g3)
          · split at h
            · rename_i t' J
              split at h
              · exact here h fun g=>vu J g.1 g.2
              · split at h
                · exact A h fun g=>vu J (fun _=>g) (fun h=>by cases h)
                · exact A h fun g=>vu J (fun h=>by cases h) (fun _=>g)
            · exact bad h
          · split at h
            · rename_i j o i0
              split at h
              · rename_i e0 f0 g0
                split at h
                · exact bad h
                · rename_i CA c0
                  split at h
                  · rename_i p C' hr
                    split at h
                    · exact bad h
                    · rename_i s' F
                      split at h
                      · exact bad h
                      · rename_i j0 S
                        exact D h fun hC g=>b0 i0 e0 f0 g0 (Y c0 hC.1) (uZ B hr hC.2.1 F) (ep B S hC.2.2) g
                  · split at h
                    · split at h
                      · split at h
                        · exact here h fun g=>g
                        · rename_i C' p s1 k0
                          split at h
                          · exact bad h
                          · rename_i s' F
                            split at h
                            · exact bad h
                            · rename_i j0 S
                              exact D h fun hC g=>b0 i0 e0 f0 g0 (Y c0 hC.1) (E1 B k0 hC.2.1 F) (ep B S hC.2.2) g
                      · rename_i e v0 m0
                        rw[yV]at h;obtain⟨g,c,fn,ho,ha,he,h1,h2,h3,h4,h5⟩:=A3 s0 m0;obtain⟨a0,o0,q0⟩:=d0 i0;exact D h fun hC gg=>PX B a0 g0 q0 (Y c0 hC) f0 e0 ho ha h1 h2 h3 h4 h5 he gg
                    · rename_i p s1 n0
                      split at h
                      · exact bad h
                      · rename_i s' F
                        split at h
                        · exact bad h
                        · rename_i j0 S
                          exact D h fun hC g=>b0 i0 e0 f0 g0 (Y c0 hC.1) (FF B n0 F) (ep B S hC.2) g
              · exact here h fun g=>g
            · split at h
              · exact here h fun g=>g
              · rename_i i o b1
                split at h
                · rename_i t d z0 y0
                  split at h
                  · exact bad h
                  · rename_i e he
                    rw[force_eq]at h;split at h
                    · rename_i C1 C2 w0 x0
                      obtain⟨m1,m2⟩:=Du (fun _ h=>h) b1;exact D h fun hC g=>I6 m1 z0 (fun w=>eA (B _ _ he)) y0 m2 (ep B w0 hC.1) (ep B x0 hC.2) g
                    · exact bad h
                · exact bad h
            · exact here h fun g=>g
      | ops all rest=>
        cases rest with
        |nil=>simp only[b4]at h;exact A h F0
        | cons o r=>
          simp only[b4]at h;split at h
          · rename_i j want hg
            split at h
            · rename_i d t J
              cases hb:YD d nt with
              |false=>simp only[hb,cond_false]at h;exact bad h
              | true=>
                simp only[hb,cond_true]at h;split at h
                · exact here h fun g=>LS hg J (Yd hb) g.1 g.2
                · split at h
                  · exact A h (Hv Z (vW J))
                  · exact A h (Hv Z (vW J))
            · rename_i d t J
              cases hb:YD d nt with
              |false=>simp only[hb,cond_false]at h;exact bad h
              | true=>
                simp only[hb,cond_true]at h;obtain⟨a1,a2,a3,a4,a5,a6⟩:=o;cases t<;>cases want<;>simp only at h
                all_goals exact A h fun g=>Eg hg J (Yd hb) g
            · rename_i d vs J
              exact A h fun g=>Ef hg J g
            · exact bad h
          · rename_i hg
            split at h
            · split at h
              · split at h
                · split at h
                  · exact here h fun g=>g
                  · rename_i C' p s1 k0
                    split at h
                    · exact bad h
                    · rename_i s' F
                      exact D h fun hC g=>eH hg (E1 B k0 hC F) fun t ht=>by subst ht;exact g
                · rename_i e v0 m0
                  rw[yV]at h;obtain⟨g,c,fn,ho,ha,he,h1,h2,h3,h4,h5⟩:=A3 s0 m0;exact A h fun gg=>TD B hg ho ha h1 h2 h3 h4 h5 he gg
              · rename_i p s1 n0
                split at h
                · exact bad h
                · rename_i s' F
                  exact A h fun g=>eH hg (FF B n0 F) fun t ht=>by subst ht;exact g
            · rename_i p C' hr
              split at h
              · exact bad h
              · rename_i s' F
                split at h
                · exact D h fun hC g=>eH hg (uZ B hr hC F) fun t ht=>by subst ht;exact g
                · rename_i ho
                  exact A h fun g=>eH hg (uZ B hr (wU hr ho) F) fun t ht=>by subst ht;exact g
theorem Tt:M5 P (fun _=>kw):=fun _ _ h=>nomatch h
theorem aQ(hm:P.follows .mixedOrders=lc)(d:cC P ty)(n:Nat){k:List KI}{s:AS}{C:Prop}{b:Nat}{st:Stop}(h:b4 ty ⟨fun _=>kw,0,li⟩ n nt k s True=jp (C,b,st))(hC:C)(hg:gh P b Q st):GO P nt k Q s:=
  (Te hm d Tt n nt k s True C b st h).2 hC hg
end
mutual
def PV.low(n:Nat):PV->Bool
 | .iv _=>lc
 | .agg cs=>bq n cs
 | .bX cs=>bq n cs
 | .ptr i _=>YD i n
 | .dJ i _ _ _=>YD i n
 | .fE _ i=>YD i n
 | .sl i _ _ _=>YD i n
 | .mp i=>YD i n
 | .dx _ first caps=>match bq n first with
  |true=>bq n caps
  |false=>li
 | .kb _=>lc
 | .any=>lc
def bq(n:Nat):List PV->Bool
 | []=>lc
 |p::r=>match PV.low n p with
  |true=>bq n r
  |false=>li
end
theorem il{n:Nat}: ∀{l:List PV},bq n l=lc-> ∀(j:Nat) (p:PV),l[j]? =jp p->p.low n=lc
 | [],_,j,p,h=>by simp at h
 |c::l,hb,j,p,h=>by
  simp only[bq]at hb;split at hb
  .rename_i b;cases j with
   |zero=>simp at h;subst h;exact b
   |succ j=>exact il hb j p (by simpa using h)
  .cases hb
def AO.low(n:Nat):AO->Prop
 | .cells cs _=>bq n cs=lc
 | .row _ es=> ∀(k:Nat) (e:List PV),es[k]? =jp e->bq n e=lc
 | .bM _ _=>True
 | .gn=>True
 | .map ..=>True
 | .b3 ..=>True
 | .eT _ _=>True
section
variable {M:Mem} {N:Nm} {U:Nat->Prop} {n:Nat}
theorem VR.down{p:PV}{x:Value}(h:VR M N U p x):p.low n=lc->VR M N (· <n) p x:=by
 induction h with
 |iv x y h=>exact fun _=> .iv x y h
 |agg cs ys hl hr ih=>exact fun hb=> .agg _ _ hl fun j p d=>ih j p d (il hb j p d)
 |bX cs ys hl hr ih=>exact fun hb=> .bX _ _ hl fun j p d=>ih j p d (il hb j p d)
 |ptr i off h=>exact fun hb=> .ptr i off (Yd hb)
 |dJ i sz k off h=>exact fun hb=> .dJ i sz k off (Yd hb)
 |fE z i h=>exact fun hb=> .fE z i (Yd hb)
 |sl i off len sz cap h u hl hc he=>exact fun hb=> .sl i off len sz cap (Yd hb) u hl hc he
 |pQ i sz h=>exact fun hb=> .pQ i sz (Yd hb)
 |sle i sz cap h hc he=>exact fun hb=> .sle i sz cap (Yd hb) hc he
 |mp i h=>exact fun hb=> .mp i (Yd hb)
 |dx fn first caps f' c' h1 h2 hr1 hr2 ih1 ih2=>
  intro hb;simp only[PV.low]at hb;split at hb
  .rename_i u;exact .dx _ _ _ _ _ h1 h2 (fun j p d=>ih1 j p d (il u j p d)) (fun j p d=>ih2 j p d (il hb j p d))
  .cases hb
 |kb b=>exact fun _=> .kb b
 |any x=>exact fun _=> .any x
theorem OR.down{w:World}{i:Nat}{o:AO}(h:OR M N U w i o)(hb:o.low n):OR M N (· <n) w i o:=by
 cases o with
 |cells cs T0=>obtain⟨c,T,b,d,u,x,y⟩:=h;exact⟨c,T,b,d,u,fun j p B=>(x j p B).down (il hb j p B),y⟩
 |row sz es=>
  rcases h with h|⟨D,c,T,b,d,u,x,y⟩
  .exact .inl h
  exact .inr ⟨D,c,T,b,d,u,x,fun k e j p A C=>(y k e j p A C).down (il (hb k e A) j p C)⟩
 |bM l T=>exact h
 |gn=>exact h
 |map kc ev z zv dv m=>exact h
 |b3 kc ev m l cu=>exact h
 |eT s p=>exact h
end
def QI(n:Nat)(f:AF):AF->Prop
 | []=>True
 |(d,p)::r=>f.get d=p∧p.low n=lc∧QI n f r
def Gq(n:Nat)(h:AH):AH->Prop
 | []=>True
 |(_,kw)::r=>Gq n h r
 |(i,jp o)::r=>h.get i=jp o∧i<n∧o.low n∧Gq n h r
structure Wq (s t:AS):Prop where
 nx:t.nx<=s.nx
 f:QI t.nx s.f t.f
 h:Gq t.nx s.h t.h
theorem uR{n:Nat}{h:AH}: ∀{g:AH},Gq n h g-> ∀i o,g.get i=jp o->h.get i=jp o∧i<n∧o.low n
 | [],_,i,o,hi=>by simp[AH.get]at hi
 |(k,kw)::r,hw,i,o,hi=>by
  rw[AH.aw]at hi;split at hi
  .cases hi
  .exact uR (g:=r) hw i o hi
 |(k,jp p)::r,hw,i,o,hi=>by
  obtain⟨b,d,j,u⟩:=hw;rw[AH.aw]at hi;split at hi
  .rename_i e;subst e;simp only[Yh]at hi;subst hi;exact⟨b,d,j⟩
  .exact uR u i o hi
theorem Wq.ext{s t:AS}(hw:Wq s t){M u:Mem}{N x:Nm}{n:Nat}{h:AH}{w y:World}(b:Ext M N (· <n) h w u x (· <s.nx) s.h y)(hn:n<=t.nx):Ext M N (· <n) h w u x (· <t.nx) t.h y:=
 ⟨b.os,b.tape,b.output,b.size,b.jO,b.r6,b.kn,b.nm,fun _ d=>aao d hn,fun i o d j=>b.jq i o (uR hw.h i o d).1 j⟩
theorem dI{p:Nat->Prop}(h: ∃n,p n): ∃n,p n∧ ∀m,p m->n<=m:=by
 obtain⟨n,u⟩:=h
 induction n using Nat.strongRecOn with
 |_ n ih=>
  by_cases j: ∃m,m<n∧p m
  .obtain⟨m,b,d⟩:=j;exact ih m b d
  .exact⟨n,u,fun m d=>aap fun b=>j ⟨m,b,d⟩⟩
section
variable {P:Program} {nt:Nat} {Q:AQ} {k:List KI} {s:AS}
end
section
variable {P:Program}
def Pure(P:Program)(k:FuncId)(args:List PV)(r:PV):Prop:=Fn P k args [] fun q h n=>q=r∧h=[]∧n=0
end
mutual
theorem PV.jU(σ:Nat->Nat): ∀p:PV,p.low 0=lc->p.c6 σ=p
 | .iv _,_=>rfl
 | .agg cs,h=>by simp only[PV.c6];rw[iU σ cs (by simpa[PV.low]using h)]
 | .bX cs,h=>by simp only[PV.c6];rw[iU σ cs (by simpa[PV.low]using h)]
 | .ptr i o,h=>by simp[PV.low,YD]at h
 | .dJ i _ _ o,h=>by simp[PV.low,YD]at h
 | .fE _ i,h=>by simp[PV.low,YD]at h
 | .sl i _ _ _,h=>by simp[PV.low,YD]at h
 | .mp i,h=>by simp[PV.low,YD]at h
 | .dx fn a b,h=>by
  simp only[PV.low]at h;simp only[PV.c6];split at h
  .rename_i d;rw[iU σ a d,iU σ b h]
  .cases h
 | .kb _,_=>rfl
 | .any,_=>rfl
theorem iU(σ:Nat->Nat): ∀l:List PV,bq 0 l=lc->dZ σ l=l
 | [],_=>rfl
 |p::r,h=>by
  simp only[bq]at h;split at h
  .rename_i b;simp only[dZ];rw[PV.jU σ p b,iU σ r h]
  .cases h
end
section
variable {P:Program} {nt:Nat} {Q:AQ} {k:List KI} {s:AS}
theorem bn{all rest:List Oper}{o:Oper}{c:Call}{g:FuncId}{args:List PV}{r:PV}{s':AS}(hc:Pure P g args r)(ho:o.op= .call c)(hg:o.guard=kw)(ha:bP s.f c=jp (g,args))(b:bq 0 args=lc)
  (hr:r.low 0=lc) (hp:putDst nt o r s=jp s') (h:GO P nt (.ops all rest::k) Q s'):GO P nt (.ops all (o::rest)::k) Q s:=by
 refine eH (R:=fun t=>t=s') hg ?_ (fun t d=>by subst d;exact h);refine lW ho ha hc (L:=[]) (by simp) (by simp) Z (iU _ _ b).symm ?_;rintro q j u ⟨rfl,rfl,rfl⟩;exact⟨s',by rw[PV.jU _ _ hr];exact hp,rfl⟩
end
def gi(o q:AO):Prop:=(q.real=lc->o.real=lc)∧ ∀(M:Mem) (N:Nm) (U:Nat->Prop) (w:World) (i:Nat),OR M N U w i o->OR M N U w i q
theorem aG.of_eq{p q:PV}(h:p=q):aG p q:=h▸ .refl p
theorem aG.trans{p q r:PV}(a:aG p q)(b:aG q r):aG p r:=fun M N U x h=>b M N U x (a M N U x h)
theorem aG.any(p:PV):aG p .any:=fun _ _ _ _ _=> .any _
theorem nT.refl(p:IV):nT p p:=fun _ _ h=>h
theorem nT.of_eq{p q:IV}(h:p=q):nT p q:=h▸ .refl p
theorem gi.refl(o:AO):gi o o:=⟨id,fun _ _ _ _ _ h=>h⟩
theorem gi.of_eq{o q:AO}(h:o=q):gi o q:=h▸ .refl o
theorem gi.trans{o q r:AO}(a:gi o q)(b:gi q r):gi o r:=⟨fun h=>a.1 (b.1 h),fun M N U w i h=>b.2 M N U w i (a.2 M N U w i h)⟩
theorem aG.iv{p q:IV}(h:nT p q):aG (.iv p) (.iv q):=fun M N U x b=>by
 cases b with
 |iv _ _ hi=>exact .iv _ _ (h M x hi)
theorem nT.nil(sz:Nat)(el:Nat->List IV):nT (.v (.slice kw 0 0)) (.dp sz 0 el):=fun M x h=>by
 cases h;exact .lz _ _ _ _
theorem aG.nil(sz:Nat)(el:Nat->List IV):aG (.iv (.v (.slice kw 0 0))) (.iv (.dp sz 0 el)):= .iv (.nil sz el)
theorem aG.kb(b:Bool):aG (.kb b) (.iv (.v (.bool b))):=fun M N U x h=>by
 cases h;exact .iv _ _ (.v _)
theorem nT.dp{sz n y:Nat}{el d:Nat->List IV}(hn:n=y)(h: ∀k,k<n->el k=d k):nT (.dp sz n el) (.dp sz y d):=by
 subst hn;intro M x B;cases B with
 |lz=>exact .lz _ _ _ _
 |dp _ _ _ b off cap hn hc hl hm hr=>
  exact .dp _ _ _ _ _ _ hn hc (fun k u=>by rw[<-h k u];exact hl k u) hm (fun k j p u A=>hr k j p u (by rw[h k u];exact A))
theorem aG.dp{sz n d:Nat}{el b:Nat->List IV}(hn:n=d)(h: ∀k,k<n->el k=b k):aG (.iv (.dp sz n el)) (.iv (.dp sz d b)):= .iv (.dp hn h)
def ni:List PV->List PV->Prop
 | [],[]=>True
 |p::r,q::s=>aG p q∧ni r s
 |_,_=>False
theorem ni.length: ∀{a b:List PV},ni a b->a.length=b.length
 | [],[],_=>rfl
 |_::_,_::_,h=>congrArg (· +1) (ni.length h.2)
 | [],_::_,h=>h.elim
 |_::_,[],h=>h.elim
theorem ni.get: ∀{a b:List PV},ni a b-> ∀(j:Nat) (q:PV),b[j]? =jp q-> ∃p,a[j]? =jp p∧aG p q
 | [],[],_,j,q,h=>by simp at h
 |p::r,q0::s,hh,j,q,h=>by
  cases j with
  |zero=>simp at h;subst h;exact⟨p,rfl,hh.1⟩
  |succ j=>simpa using ni.get hh.2 j q (by simpa using h)
 | [],_::_,hh,_,_,_=>hh.elim
 |_::_,[],hh,_,_,_=>hh.elim
theorem aG.agg{a b:List PV}(h:ni a b):aG (.agg a) (.agg b):=fun M N U x u=>by
 cases u with
 |agg _ ys hl hr=>exact .agg _ _ (h.length▸hl) fun j q d=>let ⟨p,hp,hle⟩:=h.get j q d;hle M N U _ (hr j p hp)
theorem aG.bX{a b:List PV}(h:ni a b):aG (.bX a) (.bX b):=fun M N U x u=>by
 cases u with
 |bX _ ys hl hr=>exact .bX _ _ (h.length▸hl) fun j q d=>let ⟨p,hp,hle⟩:=h.get j q d;hle M N U _ (hr j p hp)
theorem gi.cells{a b:List PV}{T0:Option TypeId}(h:ni a b):gi (.cells a T0) (.cells b T0):=⟨fun h=>h,fun M N U w i ⟨c,T,h1,h2,h3,h4,h5⟩=>
 ⟨c,T,h1,h2,h.length▸h3,fun j q d=>let ⟨p,hp,hle⟩:=h.get j q d;hle M N U _ (h4 j p hp),h5⟩⟩
theorem gi.QK(a:List PV)(T0:Option TypeId):gi (.cells a T0) (.cells a):=⟨fun h=>h,fun M N U w i ⟨c,T,h1,h2,h3,h4,_⟩=>⟨c,T,h1,h2,h3,h4,.none _⟩⟩
theorem Fn.le{P:Program}{k:FuncId}{aa args:List PV}{os:List AO}{R:PV->AH->Nat->Prop}(h:Fn P k args os R)(b:ni aa args):Fn P k aa os R:=
 ⟨h.1,fun M N w A x u y=>h.2 M N w A x (by rw[<-b.length];exact u) fun j q d=>let ⟨p,hp,hpq⟩:=b.get j q d;hpq M N _ _ (y j p hp)⟩
theorem Pure.le{P:Program}{k:FuncId}{aa args:List PV}{r:PV}(h:Pure P k args r)(b:ni aa args):Pure P k aa r:=Fn.le h b
def sg(n0:Nat)(L:List Nat)(i:Nat):Nat:=bif YD i n0 then i else L.getD (i-n0) 0
theorem gr{n0:Nat}{L:List Nat}{i:Nat}(h:i<n0):sg n0 L i=i:=by
 have:YD i n0=lc:=YX h;simp[sg,this]
def Gp(n:Nat)(σ:Nat->Nat)(f:AF):AF->Prop
 | []=>True
 |(d,p)::r=>aG (f.get d) (p.c6 σ)∧p.low n=lc∧Gp n σ f r
def qY(n:Nat)(σ:Nat->Nat)(h:AH):AH->Prop
 | []=>True
 |(_,kw)::r=>qY n σ h r
 |(i,jp o)::r=>(∃b,h.get (σ i)=jp b∧gi b (o.c6 σ))∧i<n∧o.low n∧qY n σ h r
def eB(σ:Nat->Nat):AH->List Nat
 | []=> []
 |(_,kw)::r=>eB σ r
 |(i,jp _)::r=>σ i::eB σ r
structure Wk (n0:Nat) (L:List Nat) (s t:AS):Prop where
 nx:t.nx=n0+L.length
 ns:n0<=s.nx
 lt: ∀j∈L,j<s.nx
 f:Gp t.nx (sg n0 L) s.f t.f
 h:qY t.nx (sg n0 L) s.h t.h
 inj:(eB (sg n0 L) t.h).Nodup
theorem Gn{n:Nat}{σ:Nat->Nat}{f:AF}: ∀{g:AF},Gp n σ f g-> ∀d,g.get d= .any∨(aG (f.get d) ((g.get d).c6 σ)∧(g.get d).low n=lc)
 | [],_,_=> .inl Z
 |(k,p)::r,h,d=>by
  obtain⟨b,j,u⟩:=h;rw[AF.aw];by_cases hd:d=k
  .subst hd;rw[am Z];exact .inr ⟨b,j⟩
  .rw[be hd];exact Gn u d
theorem kM{n:Nat}{σ:Nat->Nat}{h:AH}: ∀{g:AH},qY n σ h g-> ∀i o,g.get i=jp o->(∃b,h.get (σ i)=jp b∧gi b (o.c6 σ))∧i<n∧o.low n
 | [],_,i,o,hi=>by simp[AH.get]at hi
 |(k,kw)::r,hw,i,o,hi=>by
  rw[AH.aw]at hi;split at hi
  .cases hi
  .exact kM (g:=r) hw i o hi
 |(k,jp p)::r,hw,i,o,hi=>by
  obtain⟨d,j,u,x⟩:=hw;rw[AH.aw]at hi;split at hi
  .rename_i e;subst e;simp only[Yh]at hi;subst hi;exact⟨d,j,u⟩
  .exact kM x i o hi
theorem lP{σ:Nat->Nat}: ∀{g:AH} {i:Nat} {o:AO},g.get i=jp o->σ i∈eB σ g
 | [],i,o,h=>by simp[AH.get]at h
 |(k,kw)::r,i,o,h=>by
  rw[AH.aw]at h;split at h
  .cases h
  .exact lP (g:=r) h
 |(k,jp p)::r,i,o,h=>by
  rw[AH.aw]at h;split at h
  .rename_i e;subst e;simp[eB]
  .exact Yt _ (lP h)
theorem oR{σ:Nat->Nat}: ∀{g:AH},(eB σ g).Nodup-> ∀i j o p,g.get i=jp o->g.get j=jp p->σ i=σ j->i=j
 | [],_,i,j,o,p,h,_,_=>by simp[AH.get]at h
 |(k,kw)::r,hn,i,j,o,p,hi,hj,he=>by
  rw[AH.aw]at hi hj;split at hi
  .cases hi
  .split at hj
   .cases hj
   .exact oR (g:=r) hn i j o p hi hj he
 |(k,jp q)::r,hn,i,j,o,p,hi,hj,he=>by
  rw[AH.aw]at hi hj;simp only[eB,Zo]at hn;split at hi
  .rename_i d;split at hj
   .rename_i b;rw[d,b]
   .subst d;exact absurd (he▸lP hj) hn.1
  .split at hj
   .rename_i b;subst b;exact absurd (he▸lP hi) hn.1
   .exact oR hn.2 i j o p hi hj he
section
variable {n0:Nat} {L:List Nat} {s t:AS} {M:Mem} {N:Nm} {w:World}
theorem gi.real{o q:AO}(h:gi o q)(b:q.real=lc):o.real=lc:=h.1 b
theorem Wk.fits(hw:Wk n0 L s t){nt:Nat}{a:Act}(hf:Fits M N s nt a w):Fits M (N.comp (sg n0 L)) t nt a w:=by
 refine⟨⟨hf.1.dT,fun i o b=>(kM hw.h i o b).2.1,fun i o b B=>?_,fun i o b=>?_,fun i j o p b D G I F=>?_⟩,fun d=>?_,hf.2.2⟩
 .obtain⟨⟨C,u,x⟩,A,y⟩:=kM hw.h i o b;exact hf.1.fk _ C u (x.real ((AO.cS _ o).trans B))
 .obtain⟨⟨C,u,x⟩,A,y⟩:=kM hw.h i o b;exact(OR.xu (x.2 M N _ w _ (hf.1.obj _ _ u))).down y
 .obtain⟨⟨C,u,x⟩,_⟩:=kM hw.h i o b;obtain⟨⟨J,A,y⟩,_⟩:=kM hw.h j p D;have:=hf.1.inj _ _ _ _ u A (x.real ((AO.cS _ o).trans G)) (y.real ((AO.cS _ p).trans I)) F;exact oR hw.inj i j o p b D this
 .rcases Gn hw.f d with h|⟨u,x⟩
  .rw[h];exact .any _
  .exact((u M N _ _ (hf.2.1 d)).xu Z).down x
theorem Wk.ext(hw:Wk n0 L s t){u:Mem}{x:Nm}{h0:AH}{y:World}(b:Ext u x (· <n0) h0 y M N (· <s.nx) s.h w):Ext u x (· <n0) h0 y M (N.comp (sg n0 L)) (· <t.nx) t.h w:=by
 refine⟨b.os,b.tape,b.output,b.size,b.jO,b.r6,b.kn,⟨fun i d=>?_,fun i d=>?_⟩,fun i d=>by have:=hw.nx;omega,fun i o d j=>?_⟩
 .simp only[Nm.comp,gr d];exact b.nm.aI i d
 .simp only[Nm.comp,gr d];exact b.nm.ext i d
 .obtain⟨⟨C,A,B⟩,_⟩:=kM hw.h i o d;exact b.jq _ C A (B.real ((AO.cS _ o).trans j))
end
theorem tk{P:Program}{nt:Nat}{Q:AQ}{k:List KI}{s:AS}{c:Code}{R d:AS->Prop}(h: ∀t,R t->d t)(hg:GO P nt (.code c:: .lp R::k) Q s):GO P nt (.code c:: .lp d::k) Q s:=by
 intro M N a w y;refine AW.then hg y fun e B C u x s' A b j=>⟨u,x,s',A,b,?_⟩
 cases e with
 |normal=>exact h _ j
 |_=>exact j
section
variable {P:Program} {nt:Nat} {Q:AQ} {k:List KI} {s:AS}
theorem lG{L:List Nat}{t:AS}{c:Code}(hw:Wk s.nx L s t)(h:GO P nt (.code c::k) Q t):GO P nt (.code c::k) Q s:=by
 intro M N a w y;exact AW.then h (hw.fits y) fun e a2 B u x A j b d=>⟨u,x,A,(hw.ext (.refl _ _ _ _ _)).trans j,b,d⟩
theorem ow{body:Code}{σ:Type}(I:σ->AS)(μ:σ->Nat)(i0:σ)(D:List Nat)(h0:Wk s.nx D s (I i0))
  (b: ∀i,GO P nt (.code body:: .lp (fun t=> ∃j L,μ j<μ i∧Wk s.nx L t (I j))::k) Q (I i)):GO P nt (.code (.loop body)::k) Q s:=by
 intro G Y a0 w0 B
 let J:Act->World->Nat->Prop:=fun a w n=> ∃i M N,μ i=n∧Ext G Y (· <s.nx) s.h w0 M N (· <(I i).nx) (I i).h w∧Fits M N (I i) nt a w
 have A:J a0 w0 (μ i0):=⟨i0,G,Y.comp (sg s.nx D),rfl,h0.ext (.refl _ _ _ _ _),h0.fits B⟩
 refine wp_loop (fun a w=> ∃n,J a w n) (fun a w=>by classical exact if h: ∃n,J a w n then aaJ (dI h) else 0) ⟨_,A⟩ fun a w b0=>?_;obtain⟨⟨i,M,N,hi,hx,hf⟩,c0⟩:=aan (dI b0);refine AW.then (b i) hf fun e y C F S s' u d hr=>?_
 cases e with
 |normal=>
  obtain⟨j,L,hj,hw⟩:=hr;have x:J y C (μ j):=⟨j,F,S.comp (sg s.nx L),rfl,hw.ext (hx.trans u),hw.fits d⟩
  refine⟨⟨_,x⟩,?_⟩;simp only[dif_pos b0,dif_pos (⟨_,x⟩: ∃n,J y C n)];rw[<-hi];exact abC ((aan (dI (⟨_,x⟩: ∃n,J y C n))).2 _ x) hj
 |_=>exact⟨F,S,s',hx.trans u,d,hr⟩
end
section
variable {P:Program} {nt:Nat} {Q:AQ} {k:List KI} {s:AS}
theorem ar{body:Code}(i0 n:Nat)(d:i0<=n)(I:Nat->AS)(J:Nat->Prop)(j:List Nat)(y:J i0)(h0:Wk s.nx j s (I i0))
  (b: ∀i,i<=n->J i->GO P nt (.code body:: .lp (fun t=>i<n∧J (i+1)∧ ∃L,Wk s.nx L t (I (i+1)))::k) Q (I i)):GO P nt (.code (.loop body)::k) Q s:=by
 refine ow (σ:={i:Nat//i<=n∧J i}) (fun i=>I i.1) (fun i=>n-i.1) ⟨i0,d,y⟩ j h0 fun i=>?_;obtain⟨i,u,x⟩:=i;have:=b i u x;refine tk ?_ this
 rintro t ⟨h3,h4,L,h5⟩;exact⟨⟨i+1,h3,h4⟩,L,by show n-(i+1)<n-i;omega,h5⟩
end
theorem dF{P:Program}{nt:Nat}{Q:AQ}{k:List KI}{s:AS}{c:Code}(t sz:Nat)(A:s.f.get t= .iv (.v (.slice kw 0 0)))(h:GO P nt (.code c::k) Q (xp s t sz)):GO P nt (.code c::k) Q s:=by
 intro M N a w b;obtain⟨J,S,Y⟩:=s;obtain⟨D,F⟩:=b.1.Nj sz;have d:Fits M N (xp ⟨J,S,Y⟩ t sz) nt a w:=by
  refine⟨F,fun k=>?_,b.2.2⟩;simp only[xp];rw[AF.aw];split
  .rename_i u;subst u;have:=b.2.1 k;simp only at A this;rw[A]at this;generalize a.tmps.getD k undef=v at this;cases this with
   |iv _ _ h=>cases h with
    |v=>exact .pQ _ _ (ZY _)
  .exact(b.2.1 k).mono (.refl _) (.refl _ _) (fun i G=>aag G)
 exact AW.then h d fun e a2 w2 B C I y j x=>⟨B,C,I,D.trans y,j,x⟩
mutual
def PV.dT(i sz:Nat)(el:Nat->List IV):PV->PV
 | .iv x=> .iv x
 | .agg cs=> .agg (oy i sz el cs)
 | .bX cs=> .bX (oy i sz el cs)
 | .sl j off len sz'=>bif YJ j i then .iv (.dp sz len (fun k=>el (off+k))) else .sl j off len sz'
 | .ptr j o=> .ptr j o
 | .dJ j a b c=> .dJ j a b c
 | .fE z j=> .fE z j
 | .mp j=> .mp j
 | .dx fn a b=> .dx fn a b
 | .kb b=> .kb b
 | .any=> .any
def oy(i sz:Nat)(el:Nat->List IV):List PV->List PV
 | []=> []
 |p::r=>PV.dT i sz el p::oy i sz el r
end
theorem fQ(i sz:Nat)(el:Nat->List IV): ∀l:List PV,oy i sz el l=l.map (PV.dT i sz el)
 | []=>rfl
 |p::r=>by simp[oy,fQ i sz el r]
mutual
def PV.bG(i sz n:Nat):PV->Prop
 | .agg cs=>dC i sz n cs
 | .bX cs=>dC i sz n cs
 | .sl j off len sz'=>if j=i then sz'=sz∧off+len<=n else True
 |_=>True
def dC(i sz n:Nat):List PV->Prop
 | []=>True
 |p::r=>PV.bG i sz n p∧dC i sz n r
end
theorem hP{i sz n:Nat}: ∀{l:List PV},dC i sz n l-> ∀(j:Nat) (p:PV),l[j]? =jp p->p.bG i sz n
 | [],_,j,p,h=>by simp at h
 |c::l,hh,j,p,h=>by
  cases j with
  |zero=>simp at h;subst h;exact hh.1
  |succ j=>exact hP hh.2 j p (by simpa using h)
theorem xd{M:Mem}{N:Nm}{n:Nat}{h:AH}{w:World}(hr:Rel M N (· <n) h w){i sz:Nat}{es:List (List PV)}(hi:h.get i=jp (.row sz es)){el:Nat->List IV}
  (i0: ∀k e,es[k]? =jp e->e=(el k).map .iv): ∃A,Ext M N (· <n) h w A N (· <n) ((i,kw)::h) w∧Rel A N (· <n) ((i,kw)::h) w∧
   ∀p x,VR M N (· <n) p x->p.bG i sz es.length->VR A N (· <n) (p.dT i sz el) x:=by
 have key: ∀A:Mem,M.le A->(∀a0 len b0 b,a0+len<=es.length->0<len->len<=b0->b0<=maxLen->b=N.aI i->IR A (.dp sz len (fun k=>el (a0+k))) (.slice (jp ⟨b,a0*sz,kw⟩) len b0))->
   ∀p x,VR M N (· <n) p x->p.bG i sz es.length->VR A N (· <n) (p.dT i sz el) x:=by
  intro A hM hs p x hx
  induction hx with
  |iv x y h=>exact fun _=> .iv _ _ (h.mono hM)
  |agg cs ys hl hr ih=>
   intro C;refine .agg _ _ (by simpa[fQ]using hl) fun j q hq=>?_;rw[fQ,Yo,Yq]at hq;obtain⟨q0,G,rfl⟩:=hq
   exact ih j q0 G (hP (by simpa[PV.bG]using C) j q0 G)
  |bX cs ys hl hr ih=>
   intro C;refine .bX _ _ (by simpa[fQ]using hl) fun j q hq=>?_;rw[fQ,Yo,Yq]at hq;obtain⟨q0,G,rfl⟩:=hq
   exact ih j q0 G (hP (by simpa[PV.bG]using C) j q0 G)
  |ptr i a0 h=>exact fun _=> .ptr _ _ h
  |dJ i sz k a0 h=>exact fun _=> .dJ _ _ _ _ h
  |fE z i h=>exact fun _=> .fE _ _ h
  |sl j a0 len sz' b0 h h0 hl hc S=>
   intro C;simp only[PV.bG]at C;simp only[PV.dT];by_cases u:j=i
   .subst u;rw[am Z]at C;obtain⟨rfl,C⟩:=C;have:YJ j j=lc:=by simp
    rw[this,cond_true];exact .iv _ _ (hs a0 len b0 _ C h0 hl hc Z)
   .have:YJ j i=li:=Zq.2 (fun e=>u (YE e));rw[this,cond_false];exact .sl _ _ _ _ _ h h0 hl hc S
  |pQ j sz' h=>
   intro C;simp only[PV.dT];cases hb:YJ j i with
   |true=>exact .iv _ _ (.lz _ _ _ _)
   |false=>exact .pQ _ _ h
  |sle j sz' b0 h hc S=>
   intro C;simp only[PV.dT];cases hb:YJ j i with
   |true=>exact .iv _ _ (.lz _ _ _ _)
   |false=>exact .sle _ _ _ h hc S
  |mp i h=>exact fun _=> .mp _ h
  |dx fn first caps f' c' D J hr1 hr2 ih1 ih2=>exact fun _=> .dx _ _ _ _ _ D J (fun j p u=>(hr1 j p u).mono hM (.refl _ _) (fun _ h=>h)) (fun j p u=>(hr2 j p u).mono hM (.refl _ _) (fun _ h=>h))
  |kb b=>exact fun _=> .kb _
  |any x=>exact fun _=> .any _
 rcases hr.obj i _ hi with h0|⟨h0,c,T,D,J,h3,h4,h5⟩
 .subst h0;exact⟨M,(Ext.refl _ _ _ _ _).del i,hr.del i,key M (.refl _) fun a0 len b0 b D J=>by simp at D;omega⟩
 .have d0:es≠ []∨es=[]:=by cases es<;>simp
  rcases d0 with d0|rfl;rotate_left
  .exact⟨M,(Ext.refl _ _ _ _ _).del i,hr.del i,key M (.refl _) fun a0 len b0 b D J=>by simp at D;omega⟩
  have I:(AO.row sz es).real=lc:=by cases es with
   |nil=>exact absurd Z d0
   |cons=>rfl
  have f0:=hr.fk i _ hi I
  let A:Mem:=M.set (N.aI i) (.cells c) f0
  have hM:M.le A:=fun b d hb=>by
   simp only[A,Mem.set];by_cases B:b=N.aI i
   .rw[B,f0]at hb;cases hb
   .rw[be B];exact hb
  have hnew: ∀b d,M b=kw->A b=jp d->b=N.aI i:=fun b d D J=>by
   simp only[A,Mem.set]at J;by_cases B:b=N.aI i
   .exact B
   .rw[be B,D]at J;cases J
  refine⟨A,?_,?_,key A hM fun a0 len b0 b hb h6 h7 h8 j0=>?_⟩
  .exact⟨rfl,rfl,rfl,Ym _,fun _ _ _=>rfl,hM,fun b d D J=> .inr ⟨i,_,hi,I,(hnew b d D J).symm⟩,.refl _ _,fun _ h=>h,fun j o u I=> .inr ⟨j,o,(bD j o u).2,I,rfl⟩⟩
  .refine⟨fun b d hb=>?_,fun j o u=>hr.used j o (bD j o u).2,fun j o u c0=>?_,fun j o u=>?_,fun j k o p u Y=>hr.inj j k o p (bD j o u).2 (bD k p Y).2⟩
   .simp only[A,Mem.set]at hb;by_cases B:b=N.aI i
    .rw[am B]at hb;cases hb;exact⟨T,(0,0),by rw[B,D]⟩
    .rw[be B]at hb;exact hr.dT b d hb
   .obtain⟨g1,g2⟩:=bD j o u;simp only[A,Mem.set];rw[be fun e=>g1 (hr.inj j i o _ g2 hi c0 I e)];exact hr.fk j o g2 c0
   .obtain⟨g1,g2⟩:=bD j o u;exact(hr.obj j o g2).mono hM (.refl _ _) (fun _ h=>h) (hr.used j o g2) Z
  .subst j0;have F: ∀o,A.cell (N.aI i) o=c[o]? :=fun o=>by simp[Mem.cell,A,Mem.set]
   have k0: ∀k j,k<len->j<sz->a0*sz+k*sz+j<c.size:=by
    intro k j Y u;have:(a0+k+1)*sz<=es.length*sz:=YS _ (by omega);rw[Zz,Zz]at this;omega
   have g0: ∀k,k<len-> ∃e,es[a0+k]? =jp e:=fun k Y=>⟨_,Yi (by omega)⟩
   refine .dp _ _ _ _ _ _ h7 h8 (fun k Y=>?_) (fun k j Y u=>?_) (fun k j p Y C=>?_)
   .obtain⟨e,S⟩:=g0 k Y;have:=h4 _ e S;rw[i0 _ e S]at this;simpa using this
   .rw[F];simp[k0 k j Y u]
   .obtain⟨e,S⟩:=g0 k Y;have h9:=h4 _ e S;have e0:=i0 _ e S;have u:j<sz:=by rw[<-h9,e0,YH];exact(Yj.1 C).1
    have:=h5 _ e j (.iv p) S (by rw[e0,Yo,C];rfl);rw[F];have e2:a0*sz+k*sz+j=(a0+k)*sz+j:=by rw[Zz]
    rw[e2];rw[Yf]at this;cases this with
    |iv _ _ h=>exact h.mono hM
def iR(h:AH)(n:Nat)(r:PV)(K:AH->PV->Prop):Prop:= ∀M N w,Rel M N (· <n) h w-> ∃b d j,Ext M N (· <n) h w b N (· <n) d w∧Rel b N (· <n) d w∧(∀x,VR M N (· <n) r x->VR b N (· <n) j x)∧K d j
theorem iR.done{h:AH}{n:Nat}{r:PV}{K:AH->PV->Prop}(b:K h r):iR h n r K:=fun M N w d=>⟨M,h,r,.refl _ _ _ _ _,d,fun _ h=>h,b⟩
theorem iR.row{h:AH}{n:Nat}{r:PV}{K:AH->PV->Prop}(i:Nat){sz:Nat}{es:List (List PV)}(el:Nat->List IV)(hi:h.get i=jp (.row sz es))(b: ∀k e,es[k]? =jp e->e=(el k).map .iv)
  (hin:r.bG i sz es.length) (C:iR ((i,kw)::h) n (r.dT i sz el) K):iR h n r K:=by
 intro M N w D;obtain⟨d,y,A,B⟩:=xd D hi b;obtain⟨j,u,G,g1,g2,g3,g4⟩:=C d N w A;exact⟨j,u,G,y.trans g1,g2,fun x F=>g3 x (B _ _ F hin),g4⟩
def QF(ty:Ty)(l:List ResultVar)(m:Nat)(R:PV->AH->Nat->Prop):AQ:=fun e s=>
 (e= .normal∨e= .ret)∧ ∃j,lv ty s l=jp j∧iR s.h s.nx j fun u x=> ∃r b d L,R r b d∧Wk m L ⟨[(0,x)],u,s.nx⟩ ⟨[(0,r)],b,d⟩
section
variable {P:Program}
theorem yt {ty:Ty} (J:cC P ty) {k:FuncId} {fn:Func} {c:Code} (hf:P.funcs[k]? =jp fn) (hb:fn.body=jp c) (hn:(fn.name== "runtime.NumGoroutine")=li) {nt:Nat} (I:fn.ntmps=nt)
  {l:List ResultVar} (hl:fn.results.toList=l) {args:List PV} (G:args.length<=nt) {os:List AO} {R:PV->AH->Nat->Prop}
  (h:GO P nt [.code c] (QF ty l os.length R) ⟨qS 0 args,fA 0 os,os.length⟩):Fn P k args os R:=by
 have key:Fn P k args os (fun r0 h0 n0=>iR h0 n0 r0 fun b S=> ∃r B C L,R r B C∧Wk os.length L ⟨[(0,S)],b,n0⟩ ⟨[(0,r)],B,C⟩):=by
  refine F5 J hf hb hn I hl G ?_;intro M N a w u;refine wp_mono (h M N a w u) fun e a' Y hp=>?_;obtain⟨D,A,s',h1,b,h3⟩:=hp;refine⟨D,A,s',h1,b,?_⟩;simp only[kp]at h3 ⊢;obtain⟨he,r,g1,g2⟩:=h3;exact⟨he,r,g1,g2⟩
 refine⟨key.1,fun M N w vs hr y hv=>(key.2 M N w vs hr y hv).mono ?_⟩;rintro e Y ⟨x,D,A,r0,h0,n0,rfl,hF,hx,hr',hvr⟩;obtain⟨M2,b,S,g1,g2,g3,r,B,C,L,hR,hw⟩:=hF D A Y hr'
 have F:Fits M2 A ⟨[(0,S)],b,n0⟩ 1 ⟨#[x],[]⟩ Y:=⟨g2,fun d=>by
  rw[AF.aw];by_cases hd:d=0
  .subst hd;rw[am Z];exact g3 x hvr
  .rw[be hd];exact .any _,rfl,rfl⟩
 have j:=hw.fits F;refine⟨x,M2,_,r,B,C,rfl,hR,hw.ext (hx.trans g1),j.1,?_⟩;have:=j.2.1 0;exact this
def EW(ty:Ty)(l:List ResultVar)(r:PV):AQ:=fun e s=>
 (e= .normal∨e= .ret)∧ ∃b,lv ty s l=jp b∧iR s.h s.nx b fun _ d=>aG d r
theorem ad {ty:Ty} (x:cC P ty) {k:FuncId} {fn:Func} {c:Code} (hf:P.funcs[k]? =jp fn) (hb:fn.body=jp c) (hn:(fn.name== "runtime.NumGoroutine")=li) {nt:Nat} (u:fn.ntmps=nt)
  {l:List ResultVar} (G:fn.results.toList=l) {args:List PV} (j:args.length<=nt) {r:PV} (hlow:r.low 0=lc)
  (h:GO P nt [.code c] (EW ty l r) ⟨qS 0 args,[],0⟩):Pure P k args r:=by
 refine yt x hf hb hn u G j ?_;intro M N a w b;refine wp_mono (h M N a w b) fun e a' w' I=>?_;obtain⟨A,C,s',D,d,y⟩:=I;refine⟨A,C,s',D,d,?_⟩;simp only[kp]at y ⊢;obtain⟨F,r0,g1,g2⟩:=y;refine⟨F,r0,g1,fun M N w J=>?_⟩;obtain⟨B,d,r2,S,Y,q3,q4⟩:=g2 M N w J;refine⟨B,d,r2,S,Y,q3,r,[],0,[],⟨rfl,rfl,rfl⟩,rfl,Yl _,by simp,⟨?_,hlow,ac⟩,ac,Zd⟩;rw[PV.jU _ _ hlow];exact q4
theorem jv{ty:Ty}{l:List ResultVar}{r r0:PV}{e:Exit}{s:AS}(he:e= .normal∨e= .ret)(h:lv ty s l=jp r0)(b:aG r0 r):EW ty l r e s:=⟨he,r0,h,.done b⟩
end
section
variable {P:Program}
theorem L6{k:FuncId}{args:List PV}{os:List AO}{R:PV->AH->Nat->Prop}(hc:oL P k){n:Nat}(hn: ∃sz el,PV.iv (.dp sz n el)∈args)(h:n<=maxLen->Fn P k args os R):Fn P k args os R:=by
 refine⟨hc,fun M N w u A y d=>?_⟩;obtain⟨sz,el,hn⟩:=hn;obtain⟨j,x⟩:=Y9 hn;have:=d j _ x;have b:n<=maxLen:=by
  generalize u.getD j undef=v at this;cases this with
  |iv _ _ hi=>cases hi with
   |lz=>exact Yl _
   |dp=>omega
 exact(h b).2 M N w u A y d
theorem p6{k:FuncId}{args:List PV}{r:PV}(hc:oL P k){n:Nat}(hn: ∃sz el,PV.iv (.dp sz n el)∈args)(h:n<=maxLen->Pure P k args r):Pure P k args r:=L6 hc hn h
end
abbrev iI(n:Int):IV:= .v (.int .i64 n)
abbrev iS(s:ByteArray):IV:= .v (.string s)
abbrev pI(n:Int):PV:= .iv (iI n)
abbrev pS(s:ByteArray):PV:= .iv (iS s)
abbrev pB(b:Bool):PV:= .iv (.v (.bool b))
abbrev ag(l:List IV):PV:= .agg (l.map .iv)
abbrev cT{α:Type}[Inhabited α](sz:Nat)(l:List α)(f:α->List IV):IV:= .dp sz l.length (fun k=>f (l.getD k io))
def aC{α:Type}(sz:Nat)(l:List α)(f:α->List IV):AO:= .row sz (l.map fun x=>(f x).map .iv)
theorem rj(σ:Nat->Nat): ∀l:List IV,dZ σ (l.map .iv)=l.map .iv
 | []=>rfl
 |x::r=>by simp only[Yz,dZ,PV.c6,rj σ r]
theorem oF(n:Nat): ∀l:List IV,bq n (l.map .iv)=lc
 | []=>rfl
 |x::r=>by simp only[Yz,bq,PV.low,oF n r]
section
variable {α:Type} {sz:Nat} {l:List α} {f:α->List IV}
theorem bA(σ:Nat->Nat):(aC sz l f).c6 σ=aC sz l f:=by
 simp only[aC,AO.c6,Z4];congr 1;exact ZC fun x _=>rj σ _
theorem cH(n:Nat):(aC sz l f).low n:=by
 intro k e b;rw[Yo,Yq]at b;obtain⟨x,_,rfl⟩:=b;exact oF n _
theorem OY{es:List (List PV)}(σ:Nat->Nat)(h:es=l.map fun x=>(f x).map .iv):gi (.row sz es) ((aC sz l f).c6 σ):=by
 rw[bA];exact .of_eq (by rw[h];rfl)
theorem cL[Inhabited α]{es:List (List PV)}(h:es=l.map fun x=>(f x).map .iv): ∀k e,es[k]? =jp e->e=(f (l.getD k io)).map .iv:=by
 subst h;intro k e b;rw[Yo,Yq]at b;obtain⟨x,d,rfl⟩:=b;rw[Ye,d];rfl
theorem oO[Inhabited α](l:List α)(f:α->List IV):(Yv l.length).map (fun k=>(f (l.getD k io)).map PV.iv)=l.map fun x=>(f x).map .iv:=by
 apply ZS;intro k;rw[Yo,Yo];rcases Zj k l.length with h|h
 .rw[ZL h,Yi h];simp[Ye,h]
 .simp[h]
theorem wq(h: ∀x,jw ((f x).map .iv)=lc)(l:List α):allOnes (l.map fun x=>(f x).map .iv)=lc:=by
 induction l with
 |nil=>rfl
 |cons x r ih=>simp only[Yz,allOnes,h x,ih]
theorem fL[Inhabited α](h: ∀x,jw ((f x).map .iv)=lc)(l:List α):allOnes ((Yv l.length).map (fun k=>(f (l.getD k io)).map PV.iv))=lc:=by
 rw[oO];exact wq h l
end
def ak(l:List IV):AO:= .cells (l.map .iv)
theorem tB(σ:Nat->Nat)(l:List IV):(ak l).c6 σ=ak l:=by
 simp only[ak,AO.c6,rj]
theorem Jq{cs:List PV}{T0:Option TypeId}{l:List IV}(σ:Nat->Nat)(h:cs=l.map .iv):gi (.cells cs T0) ((ak l).c6 σ):=by
 rw[tB];exact .trans (.QK cs T0) (.of_eq (by rw[h];rfl))
def bT:List Nat->Bool
 | []=>lc
 |x::r=>!r.elem x&&bT r
theorem dh: ∀{l:List Nat},bT l=lc->l.Nodup
 | [],_=>Zd
 |x::r,h=>by
  simp only[bT,YB,Y1,List.elem_eq_mem,decide_eq_false_iff_not]at h;exact Zo.2 ⟨h.1,dh h.2⟩
theorem wk{n0:Nat}{L:List Nat}{s t:AS}(h1:YJ t.nx (n0+L.length)=lc)(h2:aaf n0 s.nx=lc)(h3:L.all (fun j=>YD j s.nx)=lc)(hf:Gp t.nx (sg n0 L) s.f t.f)(hh:qY t.nx (sg n0 L) s.h t.h)
  (b:bT (eB (sg n0 L) t.h)=lc):Wk n0 L s t:=
 ⟨YE h1,Yd h2,fun j d=>Yd (YG.1 h3 j d),hf,hh,dh b⟩
theorem kT{n0:Nat}{s t:AS}(h1:t.nx=n0)(h2:aaf n0 s.nx=lc)(hf:Gp t.nx (sg n0 []) s.f t.f)(hh:t.h=[]):Wk n0 [] s t:=
 ⟨by simpa using h1,Yd h2,by simp,hf,by rw[hh];trivial,by rw[hh];exact Zd⟩
section
variable {n i:Nat} {σ:Nat->Nat} {h r:AH}
theorem hC{cs:List PV}{T0:Option TypeId}{c:List IV}(ho:h.get (σ i)=jp (.cells cs T0))(he:cs=c.map .iv)(hi:YD i n=lc)(hr:qY n σ h r):qY n σ h ((i,jp (ak c))::r):=
 ⟨⟨_,ho,Jq σ he⟩,Yd hi,oF n c,hr⟩
theorem hR{α:Type}{sz:Nat}{es:List (List PV)}{l:List α}{f:α->List IV}(ho:h.get (σ i)=jp (.row sz es))(he:es=l.map fun x=>(f x).map .iv)(hi:YD i n=lc)(hr:qY n σ h r):qY n σ h ((i,jp (aC sz l f))::r):=
 ⟨⟨_,ho,OY σ he⟩,Yd hi,cH n,hr⟩
theorem hM{V:Type}{kc:KC}{ev:V->IV}{z:V}{j:Value}{b:PV->V}{m d:List (kc.K×V)}(ho:h.get (σ i)=jp (.map kc ev z j b m))(he:m=d)(hi:YD i n=lc)(hr:qY n σ h r):qY n σ h ((i,jp (.map kc ev z j b d))::r):=
 ⟨⟨_,ho,.of_eq (by rw[he];rfl)⟩,Yd hi,ac,hr⟩
theorem LD{V:Type}{kc:KC}{ev:V->IV}{z:V}{b:Value}{d:PV->V}(ho:h.get (σ i)=jp .gn)(x: ∀M,IR M (ev z) b)(hi:YD i n=lc)(hr:qY n σ h r):qY n σ h ((i,jp (.map kc ev z b d []))::r):=
 ⟨⟨_,ho,id,fun M N U w j u=>⟨#[],0,u,⟨rfl,by simp,by simp,by simp,by simp⟩,x M⟩⟩,Yd hi,ac,hr⟩
theorem hI{V:Type}{kc:KC}{ev:V->IV}{m:List (kc.K×V)}{vs x:List Nat}{C d:Option (kc.K×V)}(ho:h.get (σ i)=jp (.b3 kc ev m vs C))(he:vs=x)(hc:d=C∨d=kw)(hi:YD i n=lc)(hr:qY n σ h r):qY n σ h ((i,jp (.b3 kc ev m x d))::r):=by
 refine⟨⟨_,ho,id,fun M N U w j D=>?_⟩,Yd hi,ac,hr⟩;subst he;rcases hc with rfl|rfl
 .exact D
 .rcases D with⟨y,A,_,B⟩|⟨b,ents,clock,u,y,A,F,B,G,I,J⟩
  .exact .inl ⟨y,A,rfl,B⟩
  .exact .inr ⟨b,ents,clock,u,y,A,F,B,G,I,by simp⟩
end
theorem cG{ty:Ty}{b:List ResultVar}{e:Exit}{s:AS}{α:Type}[Inhabited α]{i n sz:Nat}{es:List (List PV)}{L:List α}{f:α->List IV}(he:e= .normal∨e= .ret)(h:lv ty s b=jp (.sl i 0 n sz))(hi:s.h.get i=jp (.row sz es))
  (hes:es=L.map fun x=>(f x).map .iv) (hn:n=L.length):EW ty b (.iv (cT sz L f)) e s:=by
 refine⟨he,_,h,.row i (fun k=>f (L.getD k io)) hi (cL hes) ?_ (.done ?_)⟩
 .subst hes;subst hn;simp[PV.bG]
 .have:YJ i i=lc:=by simp
  simp only[PV.dT,this,cond_true,YC];subst hn;exact .refl _
theorem aG.bk{b c:Bool}(h:b=c):aG (pB b) (.kb c):=fun _ _ _ _ d=>by
 subst h;cases d with
 |iv _ _ h=>cases h;exact .kb _
theorem aG.rK{b c:Bool}(h:b=c):aG (.kb b) (pB c):=h▸ .kb b
theorem aG.row{i n m sz:Nat}(h:n=m):aG (.sl i 0 n sz) (.sl i 0 m sz):= .of_eq (by rw[h])
section
variable {α:Type} [Inhabited α] {l:List α} {f:α->Bool} {i:Nat}
theorem a7(h:(l.take i).any f=li)(hi:i<l.length):((l.take (i+1)).any f=li↔f (l.getD i io)=li):=by
 rw[aaz hi,List.any_append,h,Ye,Yi hi];simp
theorem ji(hi:i<l.length)(h:f (l.getD i io)=lc):l.any f=lc:=by
 rw[Ye,Yi hi]at h;exact Y8.2 ⟨_,YZ hi,h⟩
omit [Inhabited α] in
theorem any_none(h:(l.take i).any f=li)(hi:l.length<=i):l.any f=li:=by
 rwa[Yn hi]at h
theorem oH(h:(l.take i).all f=lc)(hi:i<l.length):((l.take (i+1)).all f=lc↔f (l.getD i io)=lc):=by
 rw[aaz hi,aaT,h,Ye,Yi hi];simp
theorem ER(hi:i<l.length)(h:f (l.getD i io)=li):l.all f=li:=by
 rw[Ye,Yi hi]at h;exact Z1.2 ⟨_,YZ hi,by simpa using h⟩
omit [Inhabited α] in
theorem ES(h:(l.take i).all f=lc)(hi:l.length<=i):l.all f=lc:=by
 rwa[Yn hi]at h
theorem aK(hi:i<l.length):l.take (i+1)=l.take i++ [l.getD i io]:=by
 rw[aaz hi,Ye,Yi hi];rfl
theorem cF{β:Type}{g:β->α->β}{b:β}(hi:i<l.length):(l.take (i+1)).foldl g b=g ((l.take i).foldl g b) (l.getD i io):=by
 rw[aK hi,Z7];rfl
omit [Inhabited α] in
theorem ma{β:Type}{g:β->α->β}{b:β}(hi:l.length<=i):(l.take i).foldl g b=l.foldl g b:=by rw[Yn hi]
end
theorem ib{P:Program}{nt:Nat}{Q:AQ}{k:List KI}{s:AS}{body:Code}{K:Type}(m:List K)(I:List Nat->AS)(J:List Nat->Prop)(A:List Nat)(G:J [])(h0:Wk s.nx A s (I []))
  (d: ∀vs:List Nat,J vs->GO P nt (.code body:: .lp (fun t=> ∃j x,m[j]? =jp x∧j∉vs∧J (j::vs)∧ ∃L,Wk s.nx L t (I (j::vs)))::k) Q (I vs)):GO P nt (.code (.loop body)::k) Q s:=by
 refine ow (σ:={vs:List Nat//vs.Nodup∧(∀j∈vs,j<m.length)∧J vs}) (fun v=>I v.1) (fun v=>m.length-v.1.length) ⟨[],Zd,by simp,G⟩ A h0 fun v=>?_;obtain⟨vs,B,C,D⟩:=v;refine tk ?_ (d vs D)
 rintro t ⟨j,x,g1,g2,g3,L,g4⟩;have F:j<m.length:=(Yj.1 g1).1;have b: ∀i∈j::vs,i<m.length:=by
  intro i hi;rcases Yx.1 hi with rfl|hi
  .exact F
  .exact C i hi
 have y:(j::vs).Nodup:=Zo.2 ⟨g2,B⟩;have u:(j::vs).length<=m.length:=by
  have:=Zl y (l₂:=Yv m.length) (fun i hi=>YM.2 (b i hi));simpa using this
 refine⟨⟨j::vs,y,b,g3⟩,L,?_,g4⟩;show m.length-(j::vs).length<m.length-vs.length;simp only[YT]at u ⊢;omega
def cj(P:Program)(k:FuncId)(args:List PV)(os:List AO)(r:PV)(h:AH)(n:Nat):Prop:=Fn P k args os fun q b d=>q=r∧b=h∧d=n
def uM:List AO->List AO->Prop
 | [],[]=>True
 |p::r,q::s=>gi p q∧uM r s
 |_,_=>False
theorem uM.length: ∀{a b:List AO},uM a b->a.length=b.length
 | [],[],_=>rfl
 |_::_,_::_,h=>congrArg (· +1) (uM.length h.2)
 | [],_::_,h=>h.elim
 |_::_,[],h=>h.elim
theorem uM.get: ∀{a b:List AO},uM a b-> ∀(j:Nat) (q:AO),b[j]? =jp q-> ∃p,a[j]? =jp p∧gi p q
 | [],[],_,j,q,h=>by simp at h
 |p::r,q0::s,hh,j,q,h=>by
  cases j with
  |zero=>simp at h;subst h;exact⟨p,rfl,hh.1⟩
  |succ j=>simpa using uM.get hh.2 j q (by simpa using h)
 | [],_::_,hh,_,_,_=>hh.elim
 |_::_,[],hh,_,_,_=>hh.elim
theorem Fn.R3{P:Program}{k:FuncId}{args:List PV}{os ps:List AO}{R:PV->AH->Nat->Prop}(h:Fn P k args os R)(F:uM ps os):Fn P k args ps R:=by
 have G:=F.length;have d: ∀i o,(fA 0 os).get i=jp o-> ∃p,(fA 0 ps).get i=jp p∧gi p o:=by
  intro i o u;rw[vp,am (Yl _)]at u ⊢;exact F.get _ _ u
 refine⟨h.1,fun M N w vs C hl hv=>?_⟩;rw[G]at C hv ⊢;have S:Rel M N (· <os.length) (fA 0 os) w:=by
  refine⟨C.dT,fun i o u=>?_,fun i o u Y=>?_,fun i o u=>?_,fun i j o p u hj I hp he=>?_⟩
  .obtain⟨p,y,A⟩:=d i o u;exact C.used i p y
  .obtain⟨p,y,A⟩:=d i o u;exact C.fk i p y (A.1 Y)
  .obtain⟨p,y,A⟩:=d i o u;exact A.2 _ _ _ _ _ (C.obj i p y)
  .obtain⟨o',y,A⟩:=d i o u;obtain⟨p',B,D⟩:=d j p hj;exact C.inj i j o' p' y B (A.1 I) (D.1 hp) he
 refine(h.2 M N w vs S hl hv).mono ?_;rintro e w' ⟨x,M',N',r,h',n',rfl,hR,hx,hrr,hvr⟩;refine⟨x,M',N',r,h',n',rfl,hR,⟨hx.os,hx.tape,hx.output,hx.size,fun b hb hn=>hx.jO b hb fun i o u I=>?_,hx.r6,fun b c y A=>?_,hx.nm,hx.ule,fun i o u I=>?_⟩,hrr,hvr⟩
 .obtain⟨p,y,A⟩:=d i o u;exact hn i p y (A.1 I)
 .rcases hx.kn b c y A with B|⟨i,o,B,D,J⟩
  .exact .inl B
  .obtain⟨p,g1,g2⟩:=d i o B;exact .inr ⟨i,p,g1,g2.1 D,J⟩
 .rcases hx.jq i o u I with B|⟨j,q,B,D,J⟩
  .exact .inl B
  .obtain⟨p,g1,g2⟩:=d j q B;exact .inr ⟨j,p,g1,g2.1 D,J⟩
theorem cj.R3{P:Program}{k:FuncId}{args:List PV}{os d:List AO}{r:PV}{h:AH}{n:Nat}(hc:cj P k args os r h n)(b:uM d os):cj P k args d r h n:=Fn.R3 hc b
theorem cj.le{P:Program}{k:FuncId}{aa args:List PV}{os:List AO}{r:PV}{h:AH}{n:Nat}(hc:cj P k args os r h n)(b:ni aa args):cj P k aa os r h n:=Fn.le hc b
theorem Pure.W3{P:Program}{k:FuncId}{args:List PV}{r:PV}(h:Pure P k args r):cj P k args [] r [] 0:=h
section
variable {P:Program} {ty:Ty} {nt:Nat} {Q:AQ} {k:List KI} {s:AS}
theorem Mk{o:Oper}{c:Call}{g:FuncId}{asv args:List PV}{os:List AO}{r:PV}{u:AH}{x:Nat}{s':AS}(L:List Nat)(hc:cj P g args os r u x)(ho:o.op= .call c)(ha:bP s.f c=jp (g,asv))
  (hn:bT L=lc) (A:L.all (fun j=>YD j s.nx)=lc) (d:L.map s.h.get=os.map fun o=>jp (o.c6 (sig L s.nx))) (b:asv=dZ (sig L s.nx) args) (hp:putDst nt o (r.c6 (sig L s.nx)) (aL s L u x)=jp s'):
  OT P nt o s (fun t=>t=s'):=
 lW ho ha hc (dh hn) (fun j y=>Yd (YG.1 A j y)) d b (by rintro q B n0 ⟨rfl,rfl,rfl⟩;exact⟨s',hp,rfl⟩)
theorem iO{all rest:List Oper}{o:Oper}{c:Call}{g:FuncId}{asv args:List PV}{os:List AO}{r:PV}{u:AH}{x:Nat}{s':AS}(L:List Nat)(hc:cj P g args os r u x)(ho:o.op= .call c)(hg:o.guard=kw)(ha:bP s.f c=jp (g,asv))
  (hn:bT L=lc) (y:L.all (fun j=>YD j s.nx)=lc) (d:L.map s.h.get=os.map fun o=>jp (o.c6 (sig L s.nx))) (b:asv=dZ (sig L s.nx) args) (hp:putDst nt o (r.c6 (sig L s.nx)) (aL s L u x)=jp s')
  (h:GO P nt (.ops all rest::k) Q s'):GO P nt (.ops all (o::rest)::k) Q s:=
 eH hg (Mk L hc ho ha hn y d b hp) fun t A=>by subst A;exact h
theorem yn(u:cC P ty){all:List Oper}{todo pend:List (Nat×Oper)}{j:Nat}{o:Oper}{s':AS}{G F:Prop}(hrd:eJ todo=[(j,o)])(hg:cE nt all s.f o=jp lc)(hpb:iW all pend o=lc)(hE:oA todo [j]=lc)
  (hag:qW ty nt all s todo pend=jp G) (hCA:G) (B:OT P nt o s (fun t=>t=s')) (hag2:dK ty nt all s' (bg pend o)=jp F) (hC2:F)
  (h:GO P nt (.cP all (todo.filter fun x=>!YJ x.1 j) (bg pend o)::k) Q s'):GO P nt (.cP all todo pend::k) Q s:=by
 have d:(j,o)∈eJ todo:=by rw[hrd];simp
 obtain⟨I,A⟩:=YO.1 d;simp only[Y1,Y6,Y5]at A;have b: ∀y∈todo,aU y.2=lc-> ∀y∈pend,iL P nt all s y.2:=by
  intro y C D;unfold qW at hag;split at hag
  .exact ep u hag hCA
  .rename_i S;have:=Y5.1 S y C;rw[D]at this;exact absurd Z this
 refine xb hE ⟨_,I,A.1⟩ b fun j' o' J _ hu=>?_;simp only[Yr]at J;subst J;have:=hu o I;subst this;exact⟨A.1,fun y C _=>by simpa using A.2 y C,hpb,hg,_,B,fun t Y=>by subst Y;exact⟨ep u hag2 hC2,h⟩⟩
theorem xc(u:cC P ty){all:List Oper}{todo pend:List (Nat×Oper)}{j:Nat}{o:Oper}{c:Call}{g:FuncId}{asv args:List PV}{os:List AO}{r:PV}{B:AH}{C:Nat}{s':AS}{A y:Prop}(L:List Nat)(hc:cj P g args os r B C)
  (hrd:eJ todo=[(j,o)]) (ho:o.op= .call c) (ha:bP s.f c=jp (g,asv))
  (hn:bT L=lc) (D:L.all (fun j=>YD j s.nx)=lc) (d:L.map s.h.get=os.map fun o=>jp (o.c6 (sig L s.nx))) (b:asv=dZ (sig L s.nx) args) (hp:putDst nt o (r.c6 (sig L s.nx)) (aL s L B C)=jp s')
  (hg:cE nt all s.f o=jp lc) (hpb:iW all pend o=lc) (hE:oA todo [j]=lc)
  (hag:qW ty nt all s todo pend=jp A) (hCA:A) (hag2:dK ty nt all s' (bg pend o)=jp y) (hC2:y)
  (h:GO P nt (.cP all (todo.filter fun x=>!YJ x.1 j) (bg pend o)::k) Q s'):GO P nt (.cP all todo pend::k) Q s:=
 yn u hrd hg hpb hE hag hCA (Mk L hc ho ha hn D d b hp) hag2 hC2 h
def Ct(ty:Ty)(l:List ResultVar)(m:Nat)(r:PV)(h:AH)(n:Nat):AQ:=QF ty l m fun q b d=>q=r∧b=h∧d=n
theorem aE (u:cC P ty) {g:FuncId} {fn:Func} {c:Code} (hf:P.funcs[g]? =jp fn) (hb:fn.body=jp c) (hn:(fn.name== "runtime.NumGoroutine")=li) (j:fn.ntmps=nt)
  {l:List ResultVar} (x:fn.results.toList=l) {args:List PV} (d:args.length<=nt) {os:List AO} {r:PV} {h:AH} {n:Nat}
  (b:GO P nt [.code c] (Ct ty l os.length r h n) ⟨qS 0 args,fA 0 os,os.length⟩):cj P g args os r h n:=yt u hf hb hn j x d b
theorem fp{l:List ResultVar}{m:Nat}{r r0:PV}{h:AH}{n:Nat}{e:Exit}(L:List Nat)(he:e= .normal∨e= .ret)(hr:lv ty s l=jp r0)(hw:Wk m L ⟨[(0,r0)],s.h,s.nx⟩ ⟨[(0,r)],h,n⟩):Ct ty l m r h n e s:=
 ⟨he,r0,hr,.done ⟨r,h,n,L,⟨rfl,rfl,rfl⟩,hw⟩⟩
end
theorem iR.map{h:AH}{n:Nat}{r:PV}{K:AH->PV->Prop}(i:Nat){kc:KC}{V:Type}{e:V->IV}{z:V}{b:Value}{u:PV->V}{m:List (kc.K×V)}(hi:h.get i=jp (.map kc e z b u m))
  (D:iR ((i,kw)::h.ie i (.fF kc e z b m)) n (r.ie i (.fF kc e z b m)) K):iR h n r K:=by
 intro M N w F;obtain⟨d,A,B,_,C⟩:=uy F hi;obtain⟨j,y,I,g1,g2,g3,g4⟩:=D d N w B;exact⟨j,y,I,A.trans g1,g2,fun x G=>g3 x (C _ _ G),g4⟩
mutual
def PV.I8(i:Nat)(l:List IV):PV->PV
 | .iv x=> .iv x
 | .agg cs=> .agg (Em i l cs)
 | .bX cs=> .bX (Em i l cs)
 | .ptr j o=>bif YJ j i then .iv (.mL (l.drop o)) else .ptr j o
 | .sl j off len sz'=> .sl j off len sz'
 | .dJ j a b c=> .dJ j a b c
 | .fE z j=> .fE z j
 | .mp j=> .mp j
 | .dx fn a b=> .dx fn a b
 | .kb b=> .kb b
 | .any=> .any
def Em(i:Nat)(l:List IV):List PV->List PV
 | []=> []
 |p::r=>PV.I8 i l p::Em i l r
end
theorem qx(i:Nat)(x:List IV): ∀l:List PV,Em i x l=l.map (PV.I8 i x)
 | []=>rfl
 |p::r=>by simp[Em,qx i x r]
theorem AJ{M:Mem}{N:Nm}{n:Nat}{h:AH}{w:World}(hr:Rel M N (· <n) h w){i:Nat}{l:List IV}{cs:List PV}{T0:Option TypeId}(hi:h.get i=jp (.cells cs T0))(a0:cs=l.map .iv):
  ∃B,Ext M N (· <n) h w B N (· <n) ((i,kw)::h) w∧Rel B N (· <n) ((i,kw)::h) w∧ ∀p x,VR M N (· <n) p x->VR B N (· <n) (p.I8 i l) x:=by
 subst a0;have S:=hr.fk i _ hi Z;obtain⟨c,T,I,F,h3,h4,h5⟩:=hr.obj i _ hi
 let B:Mem:=M.set (N.aI i) (.cells c) S
 have hM:M.le B:=fun b d hb=>by
  simp only[B,Mem.set];by_cases u:b=N.aI i
  .rw[u,S]at hb;cases hb
  .rw[be u];exact hb
 have hnew: ∀b d,M b=kw->B b=jp d->b=N.aI i:=fun b d I F=>by
  simp only[B,Mem.set]at F;by_cases u:b=N.aI i
  .exact u
  .rw[be u,I]at F;cases F
 have C: ∀o,B.cell (N.aI i) o=c[o]? :=fun o=>by simp[Mem.cell,B,Mem.set]
 refine⟨B,?_,?_,fun p x hx=>?_⟩
 .exact⟨rfl,rfl,rfl,Ym _,fun _ _ _=>rfl,hM,fun b d I F=> .inr ⟨i,_,hi,rfl,(hnew b d I F).symm⟩,.refl _ _,fun _ h=>h,fun j o A b0=> .inr ⟨j,o,(bD j o A).2,b0,rfl⟩⟩
 .refine⟨fun b d hb=>?_,fun j o A=>hr.used j o (bD j o A).2,fun j o A G=>?_,fun j o A=>?_,fun j k o p A hk=>hr.inj j k o p (bD j o A).2 (bD k p hk).2⟩
  .simp only[B,Mem.set]at hb;by_cases u:b=N.aI i
   .rw[am u]at hb;cases hb;exact⟨T,(0,0),by rw[u];exact I⟩
   .rw[be u]at hb;exact hr.dT b d hb
  .obtain⟨g1,g2⟩:=bD j o A;simp only[B,Mem.set];rw[be fun e=>g1 (hr.inj j i o _ g2 hi G Z e)];exact hr.fk j o g2 G
  .obtain⟨g1,g2⟩:=bD j o A;exact(hr.obj j o g2).mono hM (.refl _ _) (fun _ h=>h) (hr.used j o g2) Z
 .induction hx with
  |iv x y h=>exact .iv _ _ (h.mono hM)
  |agg cs ys hl _ ih=>
   refine .agg _ _ (by simpa[qx]using hl) fun j q D=>?_;rw[qx,Yo,Yq]at D;obtain⟨q0,J,rfl⟩:=D
   exact ih j q0 J
  |bX cs ys hl _ ih=>
   refine .bX _ _ (by simpa[qx]using hl) fun j q D=>?_;rw[qx,Yo,Yq]at D;obtain⟨q0,J,rfl⟩:=D
   exact ih j q0 J
  |ptr j off h=>
   simp only[PV.I8];cases hb:YJ j i with
   |true=>
    have A:=YE hb;subst A;have Y:l.length=c.size:=by simpa using h3
    refine .iv _ _ (.mL _ _ _ (fun k hk=>?_) fun k q D=>?_)
    .rw[List.length_drop]at hk;rw[C];simp[show off+k<c.size by omega]
    .rw[Zw]at D;have c0:off+k<c.size:=by rw[<-Y];exact(Yj.1 D).1
     have:=h4 (off+k) (.iv q) (by rw[Yo,D];rfl);rw[C];rw[Yf]at this;cases this with
     |iv _ _ h=>exact h.mono hM
   |false=>exact .ptr _ _ h
  |dJ i sz k off h=>exact .dJ _ _ _ _ h
  |fE z i h=>exact .fE _ _ h
  |sl j off len sz' cap h h0 hl hc he=>exact .sl _ _ _ _ _ h h0 hl hc he
  |pQ j sz' h=>exact .pQ _ _ h
  |sle j sz' cap h hc he=>exact .sle _ _ _ h hc he
  |mp j h=>exact .mp _ h
  |dx fn first caps f' c' I F hr1 hr2 _ _=>exact .dx _ _ _ _ _ I F (fun j p A=>(hr1 j p A).mono hM (.refl _ _) (fun _ h=>h)) (fun j p A=>(hr2 j p A).mono hM (.refl _ _) (fun _ h=>h))
  |kb b=>exact .kb _
  |any x=>exact .any _
theorem iR.cells{h:AH}{n:Nat}{r:PV}{K:AH->PV->Prop}(i:Nat)(l:List IV){cs:List PV}{T0:Option TypeId}(hi:h.get i=jp (.cells cs T0))(b:cs=l.map .iv)(C:iR ((i,kw)::h) n (r.I8 i l) K):iR h n r K:=by
 intro M N w D;obtain⟨d,y,A,B⟩:=AJ D hi b;obtain⟨j,u,G,g1,g2,g3,g4⟩:=C d N w A;exact⟨j,u,G,y.trans g1,g2,fun x F=>g3 x (B _ _ F),g4⟩
theorem kf{ty:Ty}{l:List ResultVar}{r r0:PV}{e:Exit}{s:AS}(he:e= .normal∨e= .ret)(h:lv ty s l=jp r0)(b:iR s.h s.nx r0 fun _ d=>aG d r):EW ty l r e s:=⟨he,r0,h,b⟩
section
variable {P:Program} {ty:Ty} {nt:Nat} {Q:AQ} {k:List KI} {s:AS}
theorem Eh{all rest:List Oper}{o:Oper}{c:Call}{g:FuncId}{asv args:List PV}{os:List AO}{R:PV->AH->Nat->Prop}(L:List Nat)(hc:Fn P g args os R)(ho:o.op= .call c)(hg:o.guard=kw)(ha:bP s.f c=jp (g,asv))
  (hn:bT L=lc) (A:L.all (fun j=>YD j s.nx)=lc) (d:L.map s.h.get=os.map fun o=>jp (o.c6 (sig L s.nx))) (b:asv=dZ (sig L s.nx) args)
  (h: ∀r u x,R r u x-> ∃s',putDst nt o (r.c6 (sig L s.nx)) (aL s L u x)=jp s'∧GO P nt (.ops all rest::k) Q s'):GO P nt (.ops all (o::rest)::k) Q s:=
 eH (R:=fun t=>GO P nt (.ops all rest::k) Q t) hg (lW ho ha hc (dh hn) (fun j y=>Yd (YG.1 A j y)) d b h) fun t B=>B
theorem HC{R:PV->AH->Nat->Prop}{l:List ResultVar}{m:Nat}{r r0:PV}{h:AH}{n:Nat}{e:Exit}(L:List Nat)(he:e= .normal∨e= .ret)(hr:lv ty s l=jp r0)(hR:R r h n)(hw:Wk m L ⟨[(0,r0)],s.h,s.nx⟩ ⟨[(0,r)],h,n⟩):QF ty l m R e s:=
 ⟨he,r0,hr,.done ⟨r,h,n,L,hR,hw⟩⟩
end
theorem k9{P:Program}{nt:Nat}{Q:AQ}{k:List KI}{s:AS}{c:Code}(i j sz:Nat){cs:List PV}{T0:Option TypeId}(hi:s.h.get i=jp (.cells cs T0))(hj:cs[j]? =jp (.iv (.v (.slice kw 0 0))))
  (h:GO P nt (.code c::k) Q ⟨s.f,(i,jp (.cells (cs.set j (.sl s.nx 0 0 sz)) T0))::(s.nx,jp (.row sz []))::s.h,s.nx+1⟩):GO P nt (.code c::k) Q s:=by
 intro M N a w x;obtain⟨sf,J,u⟩:=s;obtain⟨h1,I⟩:=x.1.Nj sz;have B:i≠u:=fun e=>by have:=x.1.used i _ hi;simp only at this;omega
 have b:AH.get ((u,jp (AO.row sz []))::J) i=jp (.cells cs T0):=by
  rw[AH.aw,be B];exact hi
 obtain⟨F,T,e1,e2,e3,G,e5⟩:=I.obj i _ b
 obtain⟨g1,g2⟩:=I.write (i:=i) (o0:= .cells cs T0) b Z w (.cells (cs.set j (.sl u 0 0 sz)) T0) Z Z Z Z (fun _ _=>rfl) ⟨F,T,e1,e2,by rw[aac];exact e3,fun k p d=>by
  rw[Y4]at d;split at d
  .rename_i hk;subst hk;split at d
   .cases d;have:=G j _ hj;generalize F.getD j undef=v at this ⊢;cases this with
    |iv _ _ h=>cases h with
     |v=>exact .pQ _ _ (ZY _)
   .cases d
  .exact G k p d,e5⟩
 have y:Fits M N ⟨sf,(i,jp (.cells (cs.set j (.sl u 0 0 sz)) T0))::(u,jp (.row sz []))::J,u+1⟩ nt a w:=
  ⟨g2,fun k=>(x.2.1 k).mono (.refl _) (.refl _ _) (fun i hi=>aag hi),x.2.2⟩
 exact AW.then h y fun e a2 w2 S Y s2 D A C=>⟨S,Y,s2,(h1.trans g1).trans D,A,C⟩
theorem iR.wE{h:AH}{n:Nat}{r:PV}{K:AH->PV->Prop}{α:Type}[Inhabited α](i:Nat){sz:Nat}{es:List (List PV)}(L:List α)(f:α->List IV)(hi:h.get i=jp (.row sz es))(hes:es=L.map fun x=>(f x).map .iv)
  (hin:r.bG i sz L.length) (b:iR ((i,kw)::h) n (r.dT i sz fun k=>f (L.getD k io)) K):iR h n r K:=
 .row i (fun k=>f (L.getD k io)) hi (cL hes) (by subst hes;simpa using hin) b
def AO.iP(i sz:Nat)(el:Nat->List IV):AO->AO
 | .cells cs T=> .cells (oy i sz el cs) T
 |o=>o
def AO.rk(i sz n:Nat):AO->Prop
 | .cells cs _=>dC i sz n cs
 | .row _ es=> ∀(k:Nat) (e:List PV) (j:Nat) (p:PV),es[k]? =jp e->e[j]? =jp p-> ∃y,p= .iv y
 |_=>True
def AH.iP(i sz:Nat)(el:Nat->List IV):AH->AH
 | []=> []
 |(k,kw)::r=>(k,kw)::AH.iP i sz el r
 |(k,jp o)::r=>(k,jp (o.iP i sz el))::AH.iP i sz el r
def AH.rk(i sz n:Nat):AH->Prop
 | []=>True
 |(_,kw)::r=>AH.rk i sz n r
 |(_,jp o)::r=>o.rk i sz n∧AH.rk i sz n r
def AF.iP(i sz:Nat)(el:Nat->List IV):AF->AF
 | []=> []
 |(d,p)::r=>(d,p.dT i sz el)::AF.iP i sz el r
def AF.rk(i sz n:Nat):AF->Prop
 | []=>True
 |(_,p)::r=>p.bG i sz n∧AF.rk i sz n r
theorem AH.mQ(i sz:Nat)(el:Nat->List IV): ∀(h:AH) (j:Nat),(AH.iP i sz el h).get j=(h.get j).map (AO.iP i sz el)
 | [],_=>rfl
 |(k,kw)::r,j=>by
  simp only[AH.iP,AH.aw,AH.mQ i sz el r j];split<;>rfl
 |(k,jp o)::r,j=>by
  simp only[AH.iP,AH.aw,AH.mQ i sz el r j];split<;>rfl
theorem AH.oT{i sz n:Nat}: ∀{h:AH} (_:h.rk i sz n) (j:Nat) (o:AO),h.get j=jp o->o.rk i sz n
 | [],_,j,o,ho=>nomatch ho
 |(k,kw)::r,hh,j,o,ho=>by
  rw[AH.aw]at ho;split at ho
  .cases ho
  .exact AH.oT (h:=r) hh j o ho
 |(k,jp q)::r,hh,j,o,ho=>by
  rw[AH.aw]at ho;split at ho
  .cases ho;exact hh.1
  .exact AH.oT (h:=r) hh.2 j o ho
theorem AF.mQ(i sz:Nat)(el:Nat->List IV): ∀(f:AF) (d:Nat),(AF.iP i sz el f).get d=(f.get d).dT i sz el
 | [],_=>rfl
 |(k,p)::r,d=>by
  simp only[AF.iP,AF.aw,AF.mQ i sz el r d];split<;>rfl
theorem AF.oT{i sz n:Nat}: ∀{f:AF} (_:f.rk i sz n) (d:Nat),(f.get d).bG i sz n
 | [],_,d=>trivial
 |(k,p)::r,h,d=>by
  rw[AF.aw];split
  .exact h.1
  .exact AF.oT (f:=r) h.2 d
theorem AO.vw(i sz:Nat)(el:Nat->List IV)(o:AO):(o.iP i sz el).real=o.real:=by
 cases o<;>rfl
theorem uv{P:Program}{nt:Nat}{Q:AQ}{k:List KI}{s:AS}{c:Code}(i:Nat){sz:Nat}{es:List (List PV)}(el:Nat->List IV)(hi:s.h.get i=jp (.row sz es))(F: ∀k e,es[k]? =jp e->e=(el k).map .iv)
  (hf:s.f.rk i sz es.length) (hh:s.h.rk i sz es.length) (h:GO P nt (.code c::k) Q ⟨s.f.iP i sz el,(i,kw)::s.h.iP i sz el,s.nx⟩):GO P nt (.code c::k) Q s:=by
 intro M N a w b;obtain⟨D,u,A,h4⟩:=xd b.1 hi F;have hM:M.le D:=u.r6;have B: ∀j o,AH.get ((i,kw)::s.h.iP i sz el) j=jp o-> ∃p,AH.get ((i,kw)::s.h) j=jp p∧s.h.get j=jp p∧o=p.iP i sz el:=by
  intro j o x;obtain⟨g1,g2⟩:=bD j o x;rw[AH.mQ,Yq]at g2;obtain⟨p,g3,g4⟩:=g2;exact⟨p,by rw[AH.aw,be g1];exact g3,g3,g4.symm⟩
 have hE:Ext M N (· <s.nx) s.h w D N (· <s.nx) ((i,kw)::s.h.iP i sz el) w:=⟨u.os,u.tape,u.output,u.size,u.jO,u.r6,u.kn,u.nm,u.ule,fun j o x y=>by
  obtain⟨p,g1,_,rfl⟩:=B j o x;rw[AO.vw]at y
  exact u.jq j p g1 y⟩
 have hR:Rel D N (· <s.nx) ((i,kw)::s.h.iP i sz el) w:=by
  refine⟨A.dT,fun j o x=>?_,fun j o x y=>?_,fun j o x=>?_,fun j k o p x hk ho hp=>?_⟩
  .obtain⟨p,g1,_,rfl⟩:=B j o x;exact A.used j p g1
  .obtain⟨p,g1,_,rfl⟩:=B j o x;rw[AO.vw]at y;exact A.fk j p g1 y
  .obtain⟨p,g1,g2,rfl⟩:=B j o x;cases p with
   |cells cs T0=>
    obtain⟨c,T,q1,q2,q3,q4,q5⟩:=b.1.obj j _ g2;have J:=AH.oT hh j _ g2;refine⟨c,T,q1,q2,by simpa[fQ]using q3,fun k q hq=>?_,q5⟩;rw[fQ,Yo,Yq]at hq;obtain⟨q0,C,rfl⟩:=hq;exact h4 _ _ (q4 k q0 C) (hP J k q0 C)
   |row=>exact A.obj j _ g1
   |bM=>exact A.obj j _ g1
   |gn=>exact A.obj j _ g1
   |map=>exact A.obj j _ g1
   |b3=>exact A.obj j _ g1
   |eT=>exact A.obj j _ g1
  .obtain⟨o',g1,_,rfl⟩:=B j o x;obtain⟨p',g2,_,rfl⟩:=B k p hk;rw[AO.vw]at ho hp;exact A.inj j k o' p' g1 g2 ho hp
 have G:Fits D N ⟨s.f.iP i sz el,(i,kw)::s.h.iP i sz el,s.nx⟩ nt a w:=⟨hR,fun d=>by
  rw[AF.mQ];exact h4 _ _ (b.2.1 d) (AF.oT hf d),b.2.2⟩
 exact AW.then h G fun e a2 w2 M2 N2 s2 Y I S=>⟨M2,N2,s2,hE.trans Y,I,S⟩
def AO.ic(i sz:Nat)(el:Nat->List IV):AO->AO
 | .cells cs T=> .cells (oy i sz el cs) T
 | .row s es=> .row s (es.map (oy i sz el))
 |o=>o
def AO.vg(i sz n:Nat):AO->Prop
 | .cells cs _=>dC i sz n cs
 | .row _ es=> ∀e∈es,dC i sz n e
 |_=>True
def AH.ic(i sz:Nat)(el:Nat->List IV):AH->AH
 | []=> []
 |(k,kw)::r=>(k,kw)::AH.ic i sz el r
 |(k,jp o)::r=>(k,jp (o.ic i sz el))::AH.ic i sz el r
def AH.vg(i sz n:Nat):AH->Prop
 | []=>True
 |(_,kw)::r=>AH.vg i sz n r
 |(_,jp o)::r=>o.vg i sz n∧AH.vg i sz n r
theorem AH.kJ(i sz:Nat)(el:Nat->List IV): ∀(h:AH) (j:Nat),(AH.ic i sz el h).get j=(h.get j).map (AO.ic i sz el)
 | [],_=>rfl
 |(k,kw)::r,j=>by
  simp only[AH.ic,AH.aw,AH.kJ i sz el r j];split<;>rfl
 |(k,jp o)::r,j=>by
  simp only[AH.ic,AH.aw,AH.kJ i sz el r j];split<;>rfl
theorem AH.og{i sz n:Nat}: ∀{h:AH} (_:h.vg i sz n) (j:Nat) (o:AO),h.get j=jp o->o.vg i sz n
 | [],_,j,o,ho=>nomatch ho
 |(k,kw)::r,hh,j,o,ho=>by
  rw[AH.aw]at ho;split at ho
  .cases ho
  .exact AH.og (h:=r) hh j o ho
 |(k,jp q)::r,hh,j,o,ho=>by
  rw[AH.aw]at ho;split at ho
  .cases ho;exact hh.1
  .exact AH.og (h:=r) hh.2 j o ho
theorem AO.mR(i sz:Nat)(el:Nat->List IV)(o:AO):(o.ic i sz el).real=o.real:=by
 cases o with
 |row s es=>cases es<;>rfl
 |_=>rfl
theorem va{M:Mem}{N:Nm}{n:Nat}{h:AH}{w:World}(hr:Rel M N (· <n) h w)(i:Nat){sz:Nat}{es:List (List PV)}(el:Nat->List IV)(hi:h.get i=jp (.row sz es))(a0: ∀k e,es[k]? =jp e->e=(el k).map .iv)
  (hh:h.vg i sz es.length): ∃A,M.le A∧Rel A N (· <n) ((i,kw)::h.ic i sz el) w∧ ∀p x,VR M N (· <n) p x->p.bG i sz es.length->VR A N (· <n) (p.dT i sz el) x:=by
 obtain⟨A,h1,b,Y⟩:=xd hr hi a0;refine⟨A,h1.r6,?_,Y⟩;have C: ∀j o,AH.get ((i,kw)::h.ic i sz el) j=jp o-> ∃p,AH.get ((i,kw)::h) j=jp p∧h.get j=jp p∧o=p.ic i sz el:=by
  intro j o u;obtain⟨g1,g2⟩:=bD j o u;rw[AH.kJ,Yq]at g2;obtain⟨p,g3,g4⟩:=g2;exact⟨p,by rw[AH.aw,be g1];exact g3,g3,g4.symm⟩
 refine⟨b.dT,fun j o u=>?_,fun j o u I=>?_,fun j o u=>?_,fun j k o p u hk ho D=>?_⟩
 .obtain⟨p,g1,_,rfl⟩:=C j o u;exact b.used j p g1
 .obtain⟨p,g1,_,rfl⟩:=C j o u;rw[AO.mR]at I;exact b.fk j p g1 I
 .obtain⟨p,g1,g2,rfl⟩:=C j o u;cases p with
  |cells cs T0=>
   obtain⟨c,T,q1,q2,q3,q4,q5⟩:=hr.obj j _ g2;have y:=AH.og hh j _ g2;refine⟨c,T,q1,q2,by simpa[fQ]using q3,fun k q hq=>?_,q5⟩;rw[fQ,Yo,Yq]at hq;obtain⟨S,G,rfl⟩:=hq;exact Y _ _ (q4 k S G) (hP y k S G)
  |row s2 es2=>
   have y:=AH.og hh j _ g2;rcases hr.obj j _ g2 with rfl|⟨S,c,T,q1,q2,q3,q4,q5⟩
   .exact .inl Z
   .refine .inr ⟨S,c,T,q1,q2,by simpa using q3,fun k e B=>?_,fun k e j2 p B D=>?_⟩
    .rw[Yo,Yq]at B;obtain⟨J,d,rfl⟩:=B;rw[fQ,YH];exact q4 k J d
    .rw[Yo,Yq]at B;obtain⟨J,d,rfl⟩:=B;rw[fQ,Yo,Yq]at D;obtain⟨p0,F,rfl⟩:=D;exact Y _ _ (q5 k J j2 p0 d F) (hP (y J (YL d)) j2 p0 F)
  |bM=>exact b.obj j _ g1
  |gn=>exact b.obj j _ g1
  |map=>exact b.obj j _ g1
  |b3=>exact b.obj j _ g1
  |eT=>exact b.obj j _ g1
 .obtain⟨o',g1,_,rfl⟩:=C j o u;obtain⟨p',g2,_,rfl⟩:=C k p hk;rw[AO.mR]at ho D;exact b.inj j k o' p' g1 g2 ho D
def Ta:List Code->Code->Code
 | [],r=>r
 |c::l,r=> .seq c (Ta l r)
def Bq:Nat->Code->List Code
 |n+1,.seq a b=>a::Bq n b
 |_,_=> []
def xf:Nat->Code->Code
 |n+1,.seq _ b=>xf n b
 |_,c=>c
theorem Hh{P:Program}{nt:Nat}{R:AQ}: ∀{l:List Code} {e:Exit} {s:AS},e≠ .normal->kp P nt (l.map KI.code) R e s->R e s
 | [],_,_,_,h=>h
 |c::l,e,s,he,h=>by
  cases e with
  |normal=>exact absurd Z he
  |_=>exact Hh (l:=l) he h
mutual
def EK:PV->Bool
 | .iv (.v _)=>lc
 | .iv _=>li
 | .agg cs=>wm cs
 | .bX cs=>wm cs
 | .dx _ _ _=>li
 |_=>lc
def wm:List PV->Bool
 | []=>lc
 |p::r=>EK p&&wm r
end
theorem me: ∀{l:List PV},wm l=lc-> ∀(j:Nat) (p:PV),l[j]? =jp p->EK p=lc
 | [],_,j,p,h=>by simp at h
 |c::l,hh,j,p,h=>by
  simp only[wm,YB]at hh;cases j with
  |zero=>simp at h;subst h;exact hh.1
  |succ j=>exact me hh.2 j p (by simpa using h)
theorem uJ{M u:Mem}{N:Nm}{U:Nat->Prop}{p:PV}{x:Value}(h:VR M N U p x):EK p=lc->VR u N U p x:=by
 induction h with
 |iv x y h=>
  intro hb;cases h with
  |v=>exact .iv _ _ (.v _)
  |_=>cases hb
 |agg cs ys hl hr ih=>exact fun hb=> .agg _ _ hl fun j p d=>ih j p d (me hb j p d)
 |bX cs ys hl hr ih=>exact fun hb=> .bX _ _ hl fun j p d=>ih j p d (me hb j p d)
 |ptr i off h=>exact fun _=> .ptr _ _ h
 |dJ i sz k off h=>exact fun _=> .dJ _ _ _ _ h
 |fE z i h=>exact fun _=> .fE _ _ h
 |sl i off len sz cap h h0 hl hc he=>exact fun _=> .sl _ _ _ _ _ h h0 hl hc he
 |pQ i sz h=>exact fun _=> .pQ _ _ h
 |sle i sz cap h hc he=>exact fun _=> .sle _ _ _ h hc he
 |mp i h=>exact fun _=> .mp _ h
 |dx=>intro hb;cases hb
 |kb b=>exact fun _=> .kb _
 |any=>exact fun _=> .any _
def MI:AO->Prop
 | .row _ es=> ∀e∈es,wm e=lc
 | .cells cs _=>wm cs=lc
 |_=>False
theorem MH{M C:Mem}{N:Nm}{U:Nat->Prop}{w:World}{i:Nat}{o:AO}(hb:MI o)(h:OR M N U w i o):OR C N U w i o:=by
 cases o with
 |row sz es=>
  rcases h with h|⟨D,c,T,d,u,x,y,A⟩
  .exact .inl h
  .exact .inr ⟨D,c,T,d,u,x,y,fun k e j p B b=>uJ (A k e j p B b) (me (hb e (YL B)) j p b)⟩
 |cells cs T0=>
  obtain⟨c,T,d,u,x,y,A⟩:=h;exact⟨c,T,d,u,x,fun j p b=>uJ (y j p b) (me hb j p b),A⟩
 |_=>exact hb.elim
section
variable {P:Program} {nt:Nat} {Q:AQ} {k:List KI} {s:AS}
theorem MG{o:Oper}{c:Call}{g:FuncId}{asv args:List PV}(ho:o.op= .call c)(ha:bP s.f c=jp (g,asv)){r:PV}{h':AH}{n':Nat}(hc:cj P g args [] r h' n')
  (i0:args.length=asv.length) (hlow:bq 0 args=lc)
  (f0: ∀M N w,Rel M N (· <s.nx) s.h w-> ∃M1:Mem,M.le M1∧Rel M1 N (· <s.nx) [] w∧ ∀(j:Nat) (p:PV) (x:Value),args[j]? =jp p->(∀q,asv[j]? =jp q->VR M N (· <s.nx) q x)->VR M1 N (· <s.nx) p x)
  (e0:EK (r.c6 (sig [] s.nx))=lc) (d0: ∀j o,(sX (sig [] s.nx) h').get j=jp o->MI o)
  {s':AS} (hp:putDst nt o (r.c6 (sig [] s.nx)) (aL s [] h' n')=jp s'):OT P nt o s (fun t=>t=s'):=by
 intro M N a w y K Z hk;obtain⟨vs,a0,hl,hv⟩:=Eu y ho ha hc.1;unfold Oper.wp;rw[a0];simp only[Oper.upon];obtain⟨M1,m0,j0,k0⟩:=f0 M N w y.1
 have J:=Fn.calls (s:=⟨s.f,[],s.nx⟩) (L:=[]) hc Zd (by simp) rfl (M:=M1) (N:=N) (w:=w) j0 (vs:=vs) (by omega) (fun j p B=>by
  rw[PV.jU _ _ (il hlow j p B)]
  exact k0 j p _ B fun q hq=>hv j q hq)
 refine J.mono ?_;rintro e Y ⟨x,M',N',r',h2,n2,rfl,⟨rfl,rfl,rfl⟩,hx,hr,hvr⟩;have C:N.agree N' (· <s.nx):=hx.nm;have F: ∀i,i<s.nx->i<s.nx+(n2-0):=fun i S=>hx.ule i S;have D: ∀b,b<w.heap.size->Y.heap[b]? =w.heap[b]? :=fun b hb=>hx.jO b hb fun i o S=>(nomatch S)
 have g0:(aL ⟨s.f,[],s.nx⟩ [] h2 n2).h=sX (sig [] s.nx) h2:=by simp[aL,Ew]
 have A: ∀j o,(aL s [] h2 n2).h.get j=jp o->(sX (sig [] s.nx) h2).get j=jp o∨s.h.get j=jp o:=by
  intro j o B;simp only[aL,Ew,aaj]at B;rw[AH.get_append]at B;split at B
  .exact .inl B
  .exact .inr B
 rw[g0]at hr hx;have hnew: ∀j o,(sX (sig [] s.nx) h2).get j=jp o->o.real=lc->w.heap.size<=N'.aI j:=by
  intro j o B u;rcases hx.jq j o B u with h|⟨i,p,S,_⟩
  .exact h
  .exact nomatch S
 have hR:Rel M N' (· <s.nx+(n2-0)) (aL s [] h2 n2).h Y:=by
  refine⟨fun b d hb=>(y.1.dT b d hb).mono (D b (y.1.dT b d hb).lt),fun j o B=>?_,fun j o B u=>?_,fun j o B=>?_,fun i j o p S B G I e=>?_⟩
  .rcases A j o B with h|h
   .exact hr.used j o h
   .exact F j (y.1.used j o h)
  .rcases A j o B with h|h
   .have:=hnew j o h u;cases hm:M (N'.aI j) with
    |none=>rfl
    |some d=>have:=(y.1.dT _ d hm).lt;omega
   .rw[C.aI j (y.1.used j o h)];exact y.1.fk j o h u
  .rcases A j o B with h|h
   .exact MH (d0 j o h) (hr.obj j o h)
   .cases u:o.real with
    |true=>exact(y.1.obj j o h).mono (.refl _) C F (y.1.used j o h) (D _ ((y.1.obj j o h).lt u))
    |false=>
     cases o with
     |row sz es=>cases es with
      |nil=>exact .inl rfl
      |cons=>cases u
     |bM l T=>cases l with
      |nil=>exact .inl rfl
      |cons=>cases u
     |_=>cases u
  .rcases A i o S with h1|h1<;>rcases A j p B with h2'|h2'
   .exact hr.inj i j o p h1 h2' G I e
   .have:=hnew i o h1 G;rw[e,C.aI j (y.1.used j p h2')]at this;have:=(y.1.obj j p h2').lt I;omega
   .have:=hnew j p h2' I;rw[<-e,C.aI i (y.1.used i o h1)]at this;have:=(y.1.obj i o h1).lt G;omega
   .rw[C.aI i (y.1.used i o h1),C.aI j (y.1.used j p h2')]at e;exact y.1.inj i j o p h1 h2' G I e
 have hX:Ext M N (· <s.nx) s.h w M N' (· <s.nx+(n2-0)) (aL s [] h2 n2).h Y:=
  ⟨hx.os,hx.tape,hx.output,hx.size,fun b hb _=>D b hb,.refl _,fun b d g1 g2=>absurd (g1.symm.trans g2) (by simp),C,F,fun j o B u=>by
   rcases A j o B with h|h
   .exact .inl (hnew j o h u)
   .exact .inr ⟨j,o,h,u,(C.aI j (y.1.used j o h)).symm⟩⟩
 have c0:Fits M N' (aL s [] h2 n2) nt a Y:=⟨hR,y.2.1.ext hX,y.2.2⟩
 have b0:VR M N' (· <(aL s [] h2 n2).nx) (r'.c6 (sig [] s.nx)) x:=uJ hvr e0;show K (a.put o.dst x) Y;cases hd:o.dst with
 |none=>
  have:=gP hp hd;subst this;exact hk M N' _ _ Y hX c0 rfl
 |some d=>
  obtain⟨h1,rfl⟩:=gL hp hd;exact hk M N' {aL s [] h2 n2 with f:=(d,r'.c6 (sig [] s.nx))::(aL s [] h2 n2).f} _ Y hX (c0.put d _ x h1 b0) rfl
theorem LX{all rest:List Oper}{o:Oper}{c:Call}{g:FuncId}{asv args:List PV}{r:PV}{u:AH}{C:Nat}{s':AS}(hc:cj P g args [] r u C)(ho:o.op= .call c)(hg:o.guard=kw)(ha:bP s.f c=jp (g,asv))
  (b:args.length=asv.length) (hlow:bq 0 args=lc)
  (B: ∀M N w,Rel M N (· <s.nx) s.h w-> ∃d:Mem,M.le d∧Rel d N (· <s.nx) [] w∧ ∀(j:Nat) (p:PV) (x:Value),args[j]? =jp p->(∀q,asv[j]? =jp q->VR M N (· <s.nx) q x)->VR d N (· <s.nx) p x)
  (A:EK (r.c6 (sig [] s.nx))=lc) (y: ∀j o,(sX (sig [] s.nx) u).get j=jp o->MI o) (hp:putDst nt o (r.c6 (sig [] s.nx)) (aL s [] u C)=jp s')
  (h:GO P nt (.ops all rest::k) Q s'):GO P nt (.ops all (o::rest)::k) Q s:=
 eH hg (MG ho ha hc b hlow B A y hp) fun t D=>by subst D;exact h
end
section
variable {P:Program} {ty:Ty} {nt:Nat} {Q:AQ} {k:List KI} {s:AS}
theorem CU(o0:cC P ty){o:Oper}{t:TypeId}{a x:Operand}(ho:o.op= .store t a x)(hd:o.dst=kw){e:cO}(he:ty t=jp e)(n0:e.size=1){i sz q off:Nat}{es:List (List PV)}{row:List PV}{v:PV}
  (ha:ev s.f a= .dJ i sz q off) (hi:s.h.get i=jp (.row sz es)) (S:es[q]? =jp row) (a0:YD off sz=lc) (hx:ev s.f x=v) (q0:v.cells=jp [v]) (b0:v.one=lc):
  OT P nt o s (fun u=>u=⟨s.f,(i,jp (.row sz (es.set q (row.set off v))))::s.h,s.nx⟩):=by
 have hp:putDst nt o .any ⟨s.f,(i,jp (.row sz (es.set q (row.set off v))))::s.h,s.nx⟩=jp ⟨s.f,(i,jp (.row sz (es.set q (row.set off v))))::s.h,s.nx⟩:=by simp only[putDst,hd]
 refine OT.skip hp fun M N b w J=>?_;have hu:=bf J.2.1 a;have hy:=bf J.2.1 x;rw[ha]at hu;rw[hx]at hy;have d0:off<sz:=Yd a0;generalize p0:b.eval a=u at hu;generalize r0:b.eval x=y at hy
 have key: ∃w',(Instr.storeAt t u y).run P w= .ok () w'∧Ext M N (· <s.nx) s.h w M N (· <s.nx) ((i,jp (.row sz (es.set q (row.set off v))))::s.h) w'∧Fits M N ⟨s.f,(i,jp (.row sz (es.set q (row.set off v))))::s.h,s.nx⟩ nt b w':=by
  cases hu with
  |dJ _ _ _ _ hU=>
   obtain⟨hl,hv⟩:=qN hy q0;obtain⟨B,d⟩: ∃B,y.cells= #[B]:=by
    have:y.cells.size=1:=by simpa using hl.symm
    exact Array.size_eq_one_iff.1 this
   rcases J.1.obj i _ hi with h0|⟨h0,c,T,g1,g2,g3,g4,g5⟩
   .rw[h0]at S;cases S
   have i0:q<es.length:=(Yj.1 S).1;have k0:=g4 q row S;have Y:(q+1)*sz<=es.length*sz:=YS _ i0;have t0:q*sz+off+1<=c.size:=by rw[aav]at Y;omega
   have F: ∀z∈y.cells.toList,z.oneCell'=lc:=by
    intro z hz;rw[d]at hz;simp only[Yr]at hz;have:=(hv 0 v Z).one b0;rw[d]at this;subst hz;exact this
   have C:=run_storeCells_at P (N.aI i) (q*sz+off) T y.cells.toList 0 c w g1 (by simp[d];omega) F;have hC:(c.toList.take (q*sz+off+0)++y.cells.toList++c.toList.drop (q*sz+off+0+y.cells.toList.length))=c.toList.set (q*sz+off) B:=by
    rw[List.set_eq_take_append_cons_drop,am (by simp;omega),d];simp
   rw[hC]at C;refine⟨w.setRow (N.aI i) (c.toList.set (q*sz+off) B).toArray,?_,?_⟩
   .have G:=cy (w:=w) (o0 t e he);have m0:y.cells.size=e.size:=by rw[d,n0];rfl
    simp only[Instr.storeAt,Instr.sureAddr,pure_bind,storeVar,Sem.run_bind,G,Result.andThen_ok,m0,ne_eq,not_true_eq_false,if_false,C]
   .have c0:=setRow_heap w (N.aI i) c (c.toList.set (q*sz+off) B).toArray T (0,0) g1;have g0: ∀b,b≠N.aI i->(w.setRow (N.aI i) (c.toList.set (q*sz+off) B).toArray).heap[b]? =w.heap[b]? :=by
     intro b hb;simp only[World.setRow,Za];rw[be (fun e=>hb e.symm)]
    have j0:(AO.row sz es).real=lc:=by cases es with
     |nil=>cases S
     |cons=>rfl
    have:=J.1.write hi j0 (w.setRow (N.aI i) (c.toList.set (q*sz+off) B).toArray) (.row sz (es.set q (row.set off v))) Z Z Z (by simp) g0
     (.inr ⟨h0,_,T,c0,by simp;exact g2,by simpa using g3,fun I e2 j=>?_,fun I e2 j2 p2 j A=>?_⟩)
    .exact⟨this.1,this.2,J.2.1,J.2.2⟩
    .rw[Y4]at j;split at j
     .cases j;rw[aac];exact k0
     .exact g4 I e2 j
    .have e0: ∀m,(c.toList.set (q*sz+off) B).toArray.getD m undef=if q*sz+off=m then B else c.getD m undef:=by
      intro m;rw[Yf,Yf,ZB,Y4];split
      .rename_i e;subst e;rw[am (by simp;omega)];rfl
      .simp
     rw[e0];rw[Y4]at j;split at j
     .rename_i D;subst D;cases j;rw[Y4]at A;split at A
      .rename_i hj;subst hj;rw[am (by omega)]at A;cases A;rw[am Z];have:=hv 0 v Z;rw[d]at this;exact this
      .rename_i hj;rw[be (by omega)];exact g5 _ row j2 p2 S A
     .rename_i D;have s0:j2<sz:=by rw[<-g4 I e2 j];exact(Yj.1 A).1
      rw[be ?_]
      .exact g5 I e2 j2 p2 j A
      .intro e;rcases Nat.lt_trichotomy q I with f0|heq|hgt
       .have:(q+1)*sz<=I*sz:=YS _ f0;rw[aav]at this;omega
       .exact D heq
       .have:(I+1)*sz<=q*sz:=YS _ hgt;rw[aav]at this;omega
 obtain⟨w',h1,j,A⟩:=key;refine⟨w',M,N,?_,j,A⟩;simp only[execOp,ho];simp[p0,r0,h1]
theorem Ee(y:cC P ty){all rest:List Oper}{o:Oper}{t:TypeId}{a x:Operand}(ho:o.op= .store t a x)(hd:o.dst=kw)(hg:o.guard=kw){e:cO}(he:ty t=jp e)(j:e.size=1){i sz q off:Nat}{es:List (List PV)}{row:List PV}{v:PV}
  (ha:ev s.f a= .dJ i sz q off) (hi:s.h.get i=jp (.row sz es)) (B:es[q]? =jp row) (b:YD off sz=lc) (C:ev s.f x=v) (A:v.cells=jp [v]) (d:v.one=lc)
  {s':AS} (hs:(⟨s.f,(i,jp (.row sz (es.set q (row.set off v))))::s.h,s.nx⟩:AS)=s') (h:GO P nt (.ops all rest::k) Q s'):GO P nt (.ops all (o::rest)::k) Q s:=
 eH hg (CU y ho hd he j ha hi B b C A d) fun u hu=>by subst hu;subst hs;exact h
end
end
end Go.Al
namespace Go.Al
open Go.ChangeShapes Go.WideShapes Go.RowKit
section
def AM(W:World)(b:Nat):Option MB:=match W.heap[b]? with
 |some (.cells c _ _)=>jp (.cells c)
 |some (.map es cl)=>jp (.map es cl)
 |_=>kw
def sv(W:World):Prop:= ∀b c,Tz b=jp c-> ∃T d,W.heap[b]? =jp (.cells c T d)
def Mem.rY(W:World)(h:sv W):Mem:=⟨AM W,fun b c hb=>by obtain⟨T,d,e⟩:=h b c hb;simp[AM,e]⟩
def Wz:Nm:=⟨fun _=>0,fun _=>0⟩
theorem O4(W:World)(h:sv W):Rel (Mem.rY W h) Wz (· <0) [] W:=by
 refine⟨fun b c hb=>?_,fun i o u=>by simp[AH.get]at u,fun i o u=>by simp[AH.get]at u,fun i o u=>by simp[AH.get]at u,fun i j o p u=>by simp[AH.get]at u⟩;have d:AM W b=jp c:=hb;unfold AM at d;split at d
 .rename_i y T x e;obtain rfl:=Zh d;exact⟨T,x,e⟩
 .rename_i es A e;obtain rfl:=Zh d;exact e
 .cases d
theorem EF{W:World}{h:sv W}{b o:Nat}{v:Value}(hc:W.cell? ⟨b,o,kw⟩=jp v):(Mem.rY W h).cell b o=jp v:=by
 show(match AM W b with|some (.cells c)=>c[o]? |_=>kw)=jp v;unfold World.cell? at hc;unfold AM;split at hc
 .rename_i c T d e;simp only at e;rw[e];simpa using hc
 .cases hc
def CR(M:Mem)(l:List IV)(cs:List Value):Prop:=l.length=cs.length∧ ∀j p,l[j]? =jp p->IR M p (cs.getD j undef)
theorem CR.nil(M:Mem):CR M [] []:=⟨rfl,fun j p h=>by simp at h⟩
theorem CR.one{M:Mem}{p:IV}{v:Value}(h:IR M p v):CR M [p] [v]:=⟨rfl,fun j q b=>by
 cases j with
 |zero=>simp at b;subst b;simpa using h
 |succ j=>simp at b⟩
theorem CR.append{M:Mem}{l u:List IV}{cs b:List Value}(h:CR M l cs)(k:CR M u b):CR M (l++u) (cs++b):=by
 refine⟨by simp[h.1,k.1],fun j p d=>?_⟩;rcases Zj j l.length with hj|hj
 .rw[YA hj]at d;have:=h.2 j p d;rw[Ye]at this ⊢;rwa[YA (by rw[<-h.1];exact hj)]
 .rw[YF hj]at d;have:=k.2 _ p d;rw[Ye]at this ⊢;rw[YF (by rw[<-h.1];exact hj),<-h.1];exact this
theorem CR.ir{M:Mem}{l r:List IV}{cs:List Value}{o n o':Nat}(h:CR M l ((cs.drop o).take n))(e:o'=o+n)(k:CR M r (cs.drop o')):CR M (l++r) (cs.drop o):=by
 subst e;have:=h.append k;rwa[<-List.drop_drop,List.take_append_drop]at this
theorem CR.end_{M:Mem}{cs:List Value}{o:Nat}(h:cs.length=o):CR M [] (cs.drop o):=by
 rw[List.drop_eq_nil_of_le (by omega)];exact .nil M
theorem CR.agg{M:Mem}{N:Nm}{U:Nat->Prop}{l:List IV}{ys:Array Value}(h:CR M l ys.toList):VR M N U (ag l) (.agg ys):=by
 refine .agg _ _ (by simpa using h.1) fun j p b=>?_;rw[Yo,Yq]at b;obtain⟨q,d,rfl⟩:=b;have:=h.2 j q d;exact .iv _ _ (by simpa[Yf,Ye]using this)
theorem CR.le{M:Mem}{l d:List IV}{cs:List Value}(h:CR M l cs)(x:l.length=d.length)(b: ∀(j:Nat) (p q:IV),l[j]? =jp p->d[j]? =jp q->nT p q):CR M d cs:=by
 refine⟨x▸h.1,fun j q y=>?_⟩;have u:j<l.length:=by rw[x];exact(Yj.1 y).1
 exact b j _ q (Yi u) y M _ (h.2 j _ (Yi u))
theorem CR.x9{M:Mem}{p q:IV}{cs:List Value}(h:CR M [p] cs)(b:nT p q):CR M [q] cs:=
 h.le Z fun j x y d u=>by
  cases j with
  |zero=>simp at d u;subst d;subst u;exact b
  |succ j=>simp at d
section
variable {H:Type} {enc:TypeId×Value->H} {P:Program} {W:World} {hT:sv W} {sp:Nat->Bool} {held:Bool}
def Rd(enc:TypeId×Value->H)(P:Program)(W:World)(hT:sv W)(sp:Nat->Bool)(held:Bool)(t:TypeId){α:Type}(c:α->List IV)(Q:α->DataW H->Prop)(n:Nat):Prop:=
 ∀m,m<=n-> ∀b y,DataW.trod enc P W 0 sp held m t b=jp y-> ∃x,CR (Mem.rY W hT) (c x) b∧Q x y.1
theorem Rd.mono{t:TypeId}{α:Type}{c:α->List IV}{Q:α->DataW H->Prop}{n m:Nat}(h:Rd enc P W hT sp held t c Q n)(hm:m<=n):Rd enc P W hT sp held t c Q m:=fun k b=>h k (YR b hm)
theorem mz{t:TypeId}{k:IntKind}(b:P.underlying t=jp (.int k))(n:Nat):Rd enc P W hT sp held t (fun z=> [.v (.int k z)]) (fun z d=>d= .lit (.int k z)∧(Lit.int k z).wf=lc) n:=by
 intro m _ u y h;cases m with
 |zero=>simp[DataW.trod]at h
 |succ m=>
  unfold DataW.trod at h;rw[b]at h;split at h<;>simp_all;obtain⟨⟨rfl,j⟩,rfl⟩:=h;exact⟨_,.one (.v _),rfl,j⟩
theorem l9{t:TypeId}(b:P.underlying t=jp .string)(n:Nat):Rd enc P W hT sp held t (fun s=> [.v (.string s)]) (fun s d=>d= .lit (.string s.data.toList)∧s.size<=maxLen) n:=by
 intro m _ u y h;cases m with
 |zero=>simp[DataW.trod]at h
 |succ m=>
  unfold DataW.trod at h;rw[b]at h;split at h<;>simp_all;rename_i s;obtain⟨j,rfl⟩:=h;exact⟨s,.one (.v _),rfl,j⟩
def QL{α:Type}(Q:α->DataW H->Prop)(l:List α)(d:DataW H):Prop:=
 ∃el:List (DataW H),(d= .nil∧el=[]∨ ∃sp,d= .slice el sp)∧l.length=el.length∧ ∀(i:Nat) (x:α) (e:DataW H),l[i]? =jp x->el[i]? =jp e->Q x e
theorem my{α:Type}[Inhabited α]{t e:TypeId}{sz:Nat}{c:α->List IV}{Q:α->DataW H->Prop}{n:Nat}(ht:P.underlying t=jp (.slice e))(hc:P.cellsOf e=sz)(B:0<sz)(hl: ∀x,(c x).length=sz)
  (he:Rd enc P W hT sp held e c Q n):Rd enc P W hT sp held t (fun l:List α=> [cT sz l c]) (QL Q) (n+1):=by
 intro m hm cs y h;rcases DataW.trod_slice ht h with⟨rfl,rfl⟩|⟨a,len,e0,u,rest,k,rfl,rfl,rfl,_,h1,h2,h3,h4,_⟩
 .exact⟨[],.one (.lz ..),[],.inl ⟨rfl,rfl⟩,rfl,fun i x e h=>by simp at h⟩
 have key: ∀i,i<len-> ∃x,(∃d,W.cells? 0 (a.add (i*sz)) sz=jp d∧CR (Mem.rY W hT) (c x) d)∧ ∃y,u[i]? =jp y∧Q x y.1:=by
  intro i C;have h5:=h4 i C;rw[hc,Yi (by omega)]at h5;obtain⟨d,h6,h7⟩:=Option.bind_eq_some_iff.1 h5;obtain⟨x,h8,h9⟩:=he k (by omega) _ _ h7;exact⟨x,⟨d,h6,h8⟩,_,Yi (by omega),h9⟩
 obtain⟨f,hf⟩:=Deep.choose_lt key;refine⟨(Yv len).map f,.one ?_,u.map (·.1),.inr ⟨_,rfl⟩,by simp[h3],fun i x e hx a0=>?_⟩
 .cases len with
  |zero=>exact .lz ..
  |succ len=>
   have g0: ∀i,i<len+1-> ∀j,j<sz->W.cell? ((a.add (i*sz)).add j)=((c (f i))[j]?).bind fun _=>(W.cell? ((a.add (i*sz)).add j)):=by
    intro i C j A;rw[Yi (by rw[hl];exact A)];rfl
   have b: ∀i,i<len+1-> ∀j,j<sz-> ∃v,W.cell? ⟨a.block,a.off+i*sz+j,kw⟩=jp v∧(∀p,(c (f i))[j]? =jp p->IR (Mem.rY W hT) p v)∧a.spot=kw:=by
    intro i C j A;obtain⟨⟨d,h6,h8⟩,_⟩:=hf i C;obtain⟨_,h9,F⟩:=World.cells?_some h6;have G:=F j A;rw[Yi (by omega)]at G;have hs: ∀j,j<sz->(a.add (i*sz+j)).spot=kw:=fun j A=>by
     have I:=F j A;rw[Yi (by omega),Deep.add_add]at I;exact World.cell?_spot I
    have J:a.add (i*sz+j)=⟨a.block,a.off+i*sz+j,kw⟩:=by
     have:=hs j A;unfold Addr.add at this ⊢;split
     .rename_i h0;rw[am h0]at this;cases a;simp_all
     .rw[ZR]
    refine⟨d[j]'(by omega),?_,fun p hp=>?_,?_⟩
    .rw[<-J,<-Deep.add_add];exact G
    .have:=h8.2 j p hp;rwa[Ye,Yi (by omega)]at this
    .obtain⟨⟨f0,g6,_⟩,_⟩:=hf 0 (by omega);obtain⟨_,g9,c0⟩:=World.cells?_some g6;have b0:=c0 0 B;rw[Yi (by omega),Deep.add_add]at b0;have:=World.cell?_spot b0;simpa[Addr.add]using this
   have ha:jp a=jp (⟨a.block,a.off,kw⟩:Addr):=by
    obtain⟨_,_,_,hs⟩:=b 0 (by omega) 0 B;cases a;simp_all
   rw[ha];have Y:((Yv (len+1)).map f).length=len+1:=by simp
   have S: ∀k,k<len+1->((Yv (len+1)).map f).getD k io=f k:=fun k D=>by
    simp[Ye,ZL D]
   unfold cT;rw[Y];refine .dp _ _ _ _ _ _ h1 h2 (fun k _=>hl _) (fun k j D A=>?_) (fun k j p D hp=>?_)
   .obtain⟨v,hv,_⟩:=b k D j A;rw[EF hv];rfl
   .rw[S k D]at hp;have A:j<sz:=by rw[<-hl (f k)];exact(Yj.1 hp).1
    obtain⟨v,hv,d0,_⟩:=b k D j A;rw[EF hv];exact d0 p hp
 .have C:i<len:=by simpa using(Yj.1 hx).1
  obtain⟨_,y,hy,hq⟩:=hf i C;rw[Yo,hy]at a0;rw[Yo,ZL C]at hx;simp at a0 hx;subst a0;subst hx;exact hq
theorem rv{n:Nat}{b:Array Field}{cs:List Value}{xs:List (DataW H×List MemPlace)}(hf: ∀(i:Nat) (f:Field),b[i]? =jp f->DataW.trod enc P W 0 sp held n f.type ((cs.drop f.offset).take (P.cellsOf f.type))=xs[i]?)
  (i:Nat) {f:Field} (h1:b[i]? =jp f) {t o sz:Nat} (h2:f.type=t) (h3:f.offset=o) (d:P.cellsOf t=sz) {x:DataW H×List MemPlace} (j:xs[i]? =jp x):DataW.trod enc P W 0 sp held n t ((cs.drop o).take sz)=jp x:=by
 subst h2;subst h3;subst d;rw[hf i f h1,j]
end
section
variable {H:Type} {enc:TypeId×Value->H} {P:Program} {W W':World} {T:TypeId->Prop}
theorem Ir{W W':World}(d: ∀b,b<W.heap.size->W'.heap[b]? =W.heap[b]?){p:MemPlace}(hp:p.block<W.heap.size):W.sameAt W' p:=by
 cases p with
 |cell b o=>exact World.cell?_of_block (a:=⟨b,o,kw⟩) (d b hp)
 |map b=>exact d b hp
theorem rT(K:Kids P T)(B: ∀{t e},T t->P.underlying t=jp (.slice e)->0<P.cellsOf e)(A: ∀b,b<W.heap.size->W'.heap[b]? =W.heap[b]?){sp:Nat->Bool}:
  ∀{ts:List TypeId} {vs:List Value} {y:List (DataW H)} {u:List MemPlace},(∀t∈ts,T t)->DataW.TrodAll enc P W 0 (fun _=>lc) lc ts vs y u->(∀p∈u,p.block<W.heap.size)->(∀p∈u,sp p.block=lc)->
   DataW.TrodAll enc P W' 0 sp lc ts vs y u
 | [],vs,y,u,_,h,_,_=>by
  obtain⟨rfl,rfl,rfl⟩:=trodAll_nil h;exact trodAll_mk0
 |t::ts,vs,y,u,hT,h,hlt,hsp=>by
  obtain⟨v,I,d,C,p,q,rfl,rfl,rfl,⟨n,D⟩,F⟩:=trodAll_cons h;refine⟨p,q,⟨n,DataW.trod_stays K B (fun h=>by cases h) (hT t (by simp)) D (fun x j=>Ir A (hlt x (YQ _ j))) (fun x j=>hsp x (YQ _ j))⟩,?_,rfl⟩;exact rT K B A (fun t G=>hT t (Yt _ G)) F (fun x j=>hlt x (ZK _ j)) (fun x j=>hsp x (ZK _ j))
theorem PM{W W':World}(j:W'.os=W.os)(d:W'.output=W.output)(u: ∀b,b<W.heap.size->W'.heap[b]? =W.heap[b]?)(may:MemPlace->Prop):W.keptBut W' may:=by
 refine World.keptBut_mono (fun p x=>(x:False).elim) (World.keptBut_none_iff.2 ⟨j,d,u⟩)
theorem BH{f:Func}{s:ChangeSpec}{x F y again:Bool}{args:Array Value}{v:Value}{B gs:List (DataW H)}{d:List MemPlace}
  (K:Kids P T) (hz: ∀{t e},T t->P.underlying t=jp (.slice e)->0<P.cellsOf e) (c0: ∀t∈f.params.toList,T t) (A:s.vars=[])
  (hW:DataW.Whole enc P f.params.toList s.vars x W args.toList B gs d) (g0:W'.os=W.os) (S:W'.output=W.output) (hk: ∀b,b<W.heap.size->W'.heap[b]? =W.heap[b]?)
  (D: ∀(b:Nat) (sp:Nat->Bool) (hd:Bool),DataW.TrodAll enc P W' b sp hd f.resultTypes.toList (v.resultList f.resultTypes.size) (s.fn H (B++gs)).results [])
  (G:(s.fn H (B++gs)).args=B) (j0:(s.fn H (B++gs)).vars=[])
  (f0: ∀(j:Nat) (t:TypeId) (r:Value),f.resultTypes[j]? =jp t->(v.resultList f.resultTypes.size)[j]? =jp r->Value.okWide P W' .any 0 t r):
  s.post enc P f x F y again W args v W':=by
 have I: ∀p∈d,p.block<W.heap.size:=fun p J=>by simpa using hW.lt p J
 have C: ∀p∈d,(fun b=>lw (b<W.heap.size)) p.block=lc:=fun p J=>by simpa using hW.lt p J
 obtain⟨pa,pv,hA,hV,rfl,d0,e0⟩:=id hW;rw[A]at hV;obtain⟨rfl,rfl⟩:gs=[]∧pv=[]:=by
  cases gs with
  |nil=>exact⟨rfl,hV⟩
  |cons _ _=>exact hV.elim
 rw[Y0]at I C;have u: ∀sp:Nat->Bool,(∀p∈pa,sp p.block=lc)->DataW.TrodAll enc P W' 0 sp lc f.params.toList args.toList (s.fn H (B++ [])).args pa:=fun sp i0=>by
  rw[G];exact rT K hz hk c0 hA I i0
 have a0: ∀sp:Nat->Bool,DataW.TrodVars enc P W' sp s.vars (s.fn H (B++ [])).vars []:=fun sp=>by
  rw[j0,A];rfl
 refine⟨B,[],pa++ [],[],pa,[],hW,D _ _ _,u _ C,a0 _,?_,fun _=>⟨f0,_,_,([]++pa)++ [],⟨[]++pa,[],trodAll_append (u _ (fun _ _=>rfl)) (D _ _ _),a0 _,rfl,?_,?_⟩,?_⟩⟩
 .exact PM g0 S hk _
 .intro b b0 J;have Y:MemPlace.cell b b0∈pa:=by simpa using J
  have hb:=I _ Y;have:=d0 b b0 (by simpa using Y);rw[<-this];simp only[World.frozen?];rw[hk b hb]
 .intro ha;have:=e0 ha;simpa using this
 .intro p J _;simpa using J
end
section
variable {P:Program} {ty:Ty} {nt:Nat} {s:AS} {Q:AQ} {k:List KI}
def yH(c:UInt8):List IV:=[.v (.int .u8 (c.toNat:Int))]
theorem uX(w:World)(t u D e:TypeId)(i:TypeInfo)(G:P.underlying t=jp (.slice e))(hu:P.underlying u=jp .string)(hi:P.info? e=jp i)(C:i.size=1)(T:TypeId)
  (g d x:Nat) (j:Array Value) (hg:w.heap[g]? =jp (.cells j T (0,0))) (b:ByteArray)
  (y:d+b.size<=x) (A:d+b.size<=j.size):
  (Builtin.append_ #[t,u] D #[.slice (jp ⟨g,0,kw⟩) d x,.string b]).run P w=
   .ok (.slice (jp ⟨g,0,kw⟩) (d+b.size) x) (w.setRow g (j.toList.take d++Lib.strCells b++j.toList.drop (d+b.size)).toArray):=by
 have F:=Lib.run_firstCells_string (P:=P) w 1 b;have B:=run_storeCells_at P g d T (Lib.strCells b) 0 j w hg (by simpa[Lib.strCells_length]using A) (Lib.strCells_oneCell b);simp only[aaw,Lib.strCells_length]at B;simp[Builtin.append_,run_underlying G,run_underlying hu,sizeOf,typeInfo,hi,C,Builtin.lenOf,y,F,Addr.add_lit,B]
theorem n8(w:World)(t u B e:TypeId)(i:TypeInfo)(C:P.underlying t=jp (.slice e))(hu:P.underlying u=jp .string)(hi:P.info? e=jp i)(y:Option Addr)(j d:Nat)(x:j<=d)(b:ByteArray)(hb:b.size=0)(hs:y=kw∨ ∃b o,y=jp ⟨b,o,kw⟩):
  (Builtin.append_ #[t,u] B #[.slice y j d,.string b]).run P w= .ok (.slice y j d) w:=by
 have A:=Lib.run_firstCells_string (P:=P) w i.size b;have D:Lib.strCells b=[]:=ZU (by rw[Lib.strCells_length];exact hb);rw[hb,D]at A;rcases hs with rfl|⟨g,o,rfl⟩
 .simp[Builtin.append_,run_underlying C,run_underlying hu,sizeOf,typeInfo,hi,Builtin.lenOf,hb,x,A]
 .simp[Builtin.append_,run_underlying C,run_underlying hu,sizeOf,typeInfo,hi,Builtin.lenOf,hb,x,A,storeCells]
def wA(s:AS)(i:Nat)(l:List UInt8)(u:TypeId):AS:=⟨s.f,(s.nx,jp (.bM l u))::(i,kw)::s.h,s.nx+1⟩
theorem tV{i:Nat}{l:List UInt8}{u:TypeId}{M b:Mem}{N d:Nm}{a:Act}{w j:World}(hf:Fits M N s nt a w)(x:Ext M N (· <s.nx) s.h w b d (· <s.nx+1) ((s.nx,jp (.bM l u))::(i,kw)::s.h) j)
  (hr:Rel b d (· <s.nx+1) ((s.nx,jp (.bM l u))::(i,kw)::s.h) j):
  Ext M N (· <s.nx) s.h w b d (· <(wA s i l u).nx) (wA s i l u).h j∧Fits b d (wA s i l u) nt a j:=
 ⟨x,hr,hf.2.1.ext x,hf.2.2⟩
theorem Rel.QJ{M:Mem}{N:Nm}{w:World}{n:Nat}{h:AH}(hr:Rel M N (· <n) h w)(T:TypeId):Ext M N (· <n) h w M N (· <n+1) ((n,jp (.bM [] T))::h) w∧Rel M N (· <n+1) ((n,jp (.bM [] T))::h) w:=by
 have d: ∀i p,AH.get ((n,jp (.bM [] T))::h) i=jp p->(i=n∧p= .bM [] T)∨(i<n∧h.get i=jp p):=by
  intro i p u;rw[AH.aw]at u;split at u
  .rename_i C;exact .inl ⟨C,by simpa using u.symm⟩
  .exact .inr ⟨hr.used i p u,u⟩
 refine⟨⟨rfl,rfl,rfl,Ym _,fun _ _ _=>rfl,.refl _,fun b c A y=>by simp[A]at y,.refl _ _,fun i u=>by omega,fun i p u x=>?_⟩,⟨hr.dT,fun i p u=>?_,fun i p u x=>?_,fun i p u=>?_,fun i j p q u I D F B=>?_⟩⟩
 .rcases d i p u with⟨rfl,rfl⟩|⟨A,y⟩
  .cases x
  .exact .inr ⟨i,p,y,x,rfl⟩
 .rcases d i p u with⟨rfl,rfl⟩|⟨A,y⟩<;>omega
 .rcases d i p u with⟨rfl,rfl⟩|⟨A,y⟩
  .cases x
  .exact hr.fk i p y x
 .rcases d i p u with⟨rfl,rfl⟩|⟨A,y⟩
  .exact .inl Z
  .exact(hr.obj i p y).mono (.refl _) (.refl _ _) (fun i u=>by omega) A Z
 .rcases d i p u with⟨rfl,rfl⟩|⟨A,y⟩<;>rcases d j q I with⟨rfl,rfl⟩|⟨J,G⟩
  .rfl
  .cases D
  .cases F
  .exact hr.inj i j p q y G D F B
theorem OJ(v0:cC P ty){o:Oper}{x y:Operand}{t tu u:TypeId}(ho:o.op= .call ⟨.builtin .append, #[x,y], #[t,tu]⟩){e et eu:cO}(ht:ty t=jp e)(hk:e.k= .bb (.slice u))(p1:ty tu=jp et)(j1:et.k= .bb .string)(hu:ty u=jp eu)
  {i len:Nat} {l:List UInt8} {b:ByteArray} (hx:ev s.f x= .sl i 0 len 1) (hi:s.h.get i=jp (.bM l u)) (B:l.length=len) (o1:eu.size=1) (f1:eu.bytes=1) (hz:eu.zero= .int .u8 0)
  (m1:ev s.f y= .iv (.v (.string b))) (v1:len+b.size<=140737488355328)
  {s':AS} (hp:putDst nt o (.sl s.nx 0 (len+b.size) 1) (wA s i (l++b.data.toList) u)=jp s'):OT P nt o s (fun t=>t=s'):=by
 refine OT.value hp fun M N a w G=>?_;obtain⟨⟨ii,Y,p0,o0,q0⟩,_⟩:=v0 u _ hu;rw[o1]at p0;rw[f1]at o0;rw[hz]at q0
 have i0:P.underlying t=jp (.slice u):=by
  have:=(v0 t _ ht).2.1;rw[hk]at this;exact this.1
 have g0:P.underlying tu=jp .string:=by
  have:=(v0 tu _ p1).2.1;rw[j1]at this;exact this.1
 have w0:=bf G.2.1 x;rw[hx]at w0;have x0:=bf G.2.1 y;rw[m1]at x0;have t1:a.eval y= .string b:=by
  generalize a.eval y=v at x0;cases x0 with
  |iv _ _ h=>cases h;rfl
 have d: ∀v w',(Builtin.append_ #[t,tu] o.type #[a.eval x,a.eval y]).run P w= .ok v w'->(execOp a.eval o).run P w= .ok (.value v) w':=by
  intro v w' h;simp only[execOp,ho,resolve];simp[invoke,builtin,h]
 rw[t1]at d;have w1:i<s.nx:=G.1.used i _ hi;have j0:s.nx≠i:=by omega
 have l1:=G.1.obj i _ hi;have S:b.data.toList.length=b.size:=by simp
 have e0: ∀(j:Nat) (x:UInt8),b.data.toList[j]? =jp x->(Lib.strCells b).getD j undef= .int .u8 (x.toNat:Int):=by
  intro j x hx;simp only[Lib.strCells,Ye,Yo,hx,Zg,ZG]
 have b0: ∀z:Array Value,(∀(j:Nat) (x:UInt8),l[j]? =jp x->z.getD j undef= .int .u8 (x.toNat:Int))->(∀j,j<b.size->z.getD (len+j) undef=(Lib.strCells b).getD j undef)->
   ∀(j:Nat) (x:UInt8),(l++b.data.toList)[j]? =jp x->z.getD j undef= .int .u8 (x.toNat:Int):=by
  intro z h1 h2 j x C;rcases Zj j l.length with hk|hk
  .rw[YA hk]at C;exact h1 j x C
  .rw[YF hk]at C;have r0:j-l.length<b.size:=by rw[<-S];exact(Yj.1 C).1
   have:=h2 _ r0;rw[e0 _ _ C,show len+(j-l.length)=j by omega]at this;exact this
 have J: ∀(D:List Value) (a0:Nat),D.length=len->(∀(j:Nat) (x:UInt8),l[j]? =jp x->D.getD j undef= .int .u8 (x.toNat:Int))->len+b.size<=a0->a0<=maxLen->0<len+b.size->
   ∀z:Array Value,z=D.toArray++(Lib.strCells b).toArray++Builtin.zeroCells (Value.int .u8 0).cells (a0-(len+b.size))->
   ∃M' I,Ext M N (· <s.nx) s.h w M' I (· <(wA s i (l++b.data.toList) u).nx) (wA s i (l++b.data.toList) u).h (w.drew.alloc (.cells z u))∧Fits M' I (wA s i (l++b.data.toList) u) nt a (w.drew.alloc (.cells z u))∧
    VR M' I (· <(wA s i (l++b.data.toList) u).nx) (.sl s.nx 0 (len+b.size) 1) (.slice (jp ⟨w.heap.size,0,kw⟩) (len+b.size) a0):=by
  intro D a0 a1 r1 m0 i1 s0 z y0;have u1:(Value.int IntKind.u8 0).cells.size=1:=rfl;have F:z.size=a0:=by
   rw[y0,aaX,aaX,size_zeroCells,u1];simp only[List.size_toArray,a1,Lib.strCells_length];omega
  obtain⟨I,h1,h2,h3,h4,h5⟩:=G.1.drew.alloc (.cells z u) (.bM (l++b.data.toList) u) z.size (fun I g1 g2 g3=>by
   refine .inr ⟨z,by rw[g1];exact heap_alloc_new _ _,g2.symm,by rw[F,Yg,B,S];omega,b0 z (fun j x C=>?_) (fun j C=>?_)⟩
   .have x1:=(Yj.1 C).1;have e1:z.getD j undef=D.getD j undef:=by
     rw[y0,Yf,Array.append_assoc,Zr (by simp;omega),Ye];simp
    rw[e1];exact r1 j x C
   .rw[y0,Yf,Zr (by simp[Lib.strCells_length];omega),Array.getElem?_append_right (by simp;omega),Ye]
    simp[a1])
  have n1:=(h5.del i).swap (Ne.symm j0);have s1:=(((Ext.drew (M:=M) (N:=N) (U:=(· <s.nx)) (h:=s.h) (w:=w)).trans h4).del i).swap (Ne.symm j0);obtain⟨g1,g2⟩:=tV G s1 n1;refine⟨M,I,g1,g2,?_⟩;have:=VR.sl (M:=M) (N:=I) (U:=(· <s.nx+1)) s.nx 0 (len+b.size) 1 a0 (by omega) s0 m0 i1 (by rw[h2,F];simp);rw[h1,aas]at this;exact this
 generalize a.eval x=vx at w0 d;cases w0 with
 |pQ _ _ hU=>
  have he:l=[]:=ZU B;subst he;by_cases hm:b.size=0
  .have k0:b.data.toList=[]:=ZU (by rw[S];exact hm);have A:=n8 (P:=P) w t tu o.type u ii i0 g0 Y kw 0 0 (Ym _) b hm (.inl Z);obtain⟨h1,h2⟩:=G.1.QJ u;obtain⟨g1,g2⟩:=tV (i:=i) (l:=[]) (u:=u) G ((h1.del i).swap (Ne.symm j0)) ((h2.del i).swap (Ne.symm j0));rw[k0,hm];exact⟨_,w,M,N,d _ _ A,g1,g2,.pQ _ _ (by simp only[wA];omega)⟩
  .have A:=run_append_nil_string (P:=P) w t tu o.type u ii (.int .u8 0) i0 g0 Y q0 b (by omega) (by omega) (by rw[o0];omega);have e1:(b.data.map fun b=>Value.int .u8 b.toNat)=(Lib.strCells b).toArray:=by
    apply Array.ext';simp[Lib.strCells]
   rw[e1]at A;obtain⟨M',I,g1,g2,g3⟩:=J [] (grownCap w b.size 0 u) Z (by simp) (by simpa using grownCap_ge w b.size 0 u) (grownCap_le_maxLen w _ _ _ (by simp only[maxLen];omega)) (by omega) _ Z;simp only[YC,aaj,Array.empty_append] at*
   exact⟨_,_,M',I,d _ _ A,by simpa using g1,by simpa using g2,by simpa using g3⟩
 |sl _ _ _ _ a0 hU h0 hl hc hext=>
  rcases l1 with rfl|⟨cur,q1,q2,q3,q4⟩
  .simp at B;omega
  have c0:(AO.bM l u).real=lc:=by cases l with
   |nil=>simp at B;omega
   |cons=>rfl
  rw[aas]at d;have n0:cur.size=a0:=by rw[q2,<-hext];omega
  by_cases hm:b.size=0
  .have k0:b.data.toList=[]:=ZU (by rw[S];exact hm);have A:=n8 (P:=P) w t tu o.type u ii i0 g0 Y (jp ⟨N.aI i,0,kw⟩) len a0 hl b hm (.inr ⟨_,_,rfl⟩)
   obtain⟨h1,h2⟩:=G.1.move hi c0 w (.bM (l++ []) u) Z Z Z Z (fun _ _=>rfl) (by
    rw[Y0]
    exact .inr ⟨cur,by simpa using q1,by simpa using q2,q3,q4⟩)
   obtain⟨g1,g2⟩:=tV (i:=i) G h1 h2;rw[k0,hm];refine⟨_,w,M,_,d _ _ A,g1,g2,?_⟩;have:=VR.sl (M:=M) (N:=N.with s.nx (N.aI i) (N.ext i)) (U:=(· <s.nx+1)) s.nx 0 len 1 a0 (by omega) h0 hl hc (by simpa using hext);simpa[wA]using this
  .by_cases d0:len+b.size<=a0
   .have A:=uX (P:=P) w t tu o.type u ii i0 g0 Y p0 u (N.aI i) len a0 cur q1 b d0 (by omega);generalize hL:(cur.toList.take len++Lib.strCells b++cur.toList.drop (len+b.size)).toArray=L at A;have z0:L.size=cur.size:=by rw[<-hL];simp[Lib.strCells_length];omega
    have t0:=setRow_heap w (N.aI i) cur L u (0,0) q1;have d1: ∀j,j<len->L.getD j undef=cur.getD j undef:=by
     intro j C;rw[<-hL,Yf,Yf];simp only[ZB];rw[Yu,YA (by simp;omega),Zi,am C,Zn]
    have b1: ∀j,j<b.size->L.getD (len+j) undef=(Lib.strCells b).getD j undef:=by
     intro j C;rw[<-hL,Yf,Ye];simp only[ZB];rw[YA (by simp[Lib.strCells_length];omega),YF (by simp;omega)];congr 2;simp;omega
    obtain⟨h1,h2⟩:=G.1.move hi c0 (w.setRow (N.aI i) L) (.bM (l++b.data.toList) u) Z Z Z (by simp) (fun b hb=>by
      simp only[World.setRow,Za]
      rw[be (fun e=>hb e.symm)]) (by
     refine .inr ⟨L,by simpa using t0,by rw[z0];simpa using q2,by rw[z0,n0,Yg,B,S];omega,b0 L (fun j x C=>?_) b1⟩;rw[d1 j (by rw[<-B];exact(Yj.1 C).1)]
     exact q4 j x C)
    obtain⟨g1,g2⟩:=tV (i:=i) G h1 h2;refine⟨_,_,M,_,d _ _ A,g1,g2,?_⟩;have:=VR.sl (M:=M) (N:=N.with s.nx (N.aI i) (N.ext i)) (U:=(· <s.nx+1)) s.nx 0 (len+b.size) 1 a0 (by omega) (by omega) d0 hc (by simpa using hext);simpa[wA]using this
   .have f0: ∀(j:Nat) (v:Value),(cur.toList.take len)[j]? =jp v->w.cell? ((⟨N.aI i,0,kw⟩:Addr).add j)=jp v:=by
     intro j v hv;rw[Zi]at hv;split at hv
     .rw[iq,YC];simp only[World.cell?,q1];simpa using hv
     .cases hv
    have A:=Lib.run_append_grow_string (P:=P) w t tu o.type u ii (.int .u8 0) i0 g0 Y q0 ⟨N.aI i,0,kw⟩ len a0 (cur.toList.take len) (by rw[p0];simp;omega) f0 b (by omega) (by omega)
     (by rw[o0];exact growslice_fits (by omega) (by omega))
    obtain⟨M',I,g1,g2,g3⟩:=J (cur.toList.take len) (grownCap w (len+b.size) a0 u) (by simp;omega) (fun j x C=>by
      have:=q4 j x C;have r0:j<len:=by rw[<-B];exact(Yj.1 C).1
      rw[Ye,Zi,am r0,Zn]
      rw[Yf]at this;exact this) (grownCap_ge w _ _ _) (grownCap_le_maxLen w _ _ _ (by simp only[maxLen];omega)) (by omega) _ Z
    exact⟨_,_,M',I,d _ _ A,g1,g2,g3⟩
theorem PS(S:cC P ty){all rest:List Oper}{o:Oper}{x y:Operand}{t tu u d:Nat}{e Y A:cO}{i len:Nat}{l:List UInt8}{b:ByteArray}(ho:o.op= .call ⟨.builtin .append, #[x,y], #[t,tu]⟩)(hg:o.guard=kw)(I:ty t=jp e)(hk:e.k= .bb (.slice u))(J:ty tu=jp Y)(D:Y.k= .bb .string)(hu:ty u=jp A)
  (hx:ev s.f x= .sl i 0 len 1) (hi:s.h.get i=jp (.bM l u)) (G:A.size=1) (C:A.bytes=1) (hz:A.zero= .int .u8 0)
  (F:ev s.f y= .iv (.v (.string b))) (hd:o.dst=jp d) (hlt:YD d nt=lc) (j:l.length=len) (B:len+b.size<=140737488355328)
  (h:GO P nt (.ops all rest::k) Q ⟨(d,.sl s.nx 0 (l++b.data.toList).length 1)::s.f,(s.nx,jp (.bM (l++b.data.toList) u))::(i,kw)::s.h,s.nx+1⟩):GO P nt (.ops all (o::rest)::k) Q s:=by
 have e:(l++b.data.toList).length=len+b.size:=by rw[Yg,j];simp
 rw[e]at h
 exact eH hg (OJ S ho I hk J D hu hx hi j G C hz F B (s':=⟨(d,.sl s.nx 0 (len+b.size) 1)::s.f,(s.nx,jp (.bM (l++b.data.toList) u))::(i,kw)::s.h,s.nx+1⟩) (by
  simp only[putDst,wA,hd,hlt,cond_true,eO])) fun t I=>by subst I;exact h
theorem Kh{o:Oper}{G:Operand}(ho:o.op= .next G lc){i:Nat}(I:ev s.f G= .ptr i 0){b:ByteArray}{a0:Nat}(hi:s.h.get i=jp (.eT b a0)){d:Nat}(hd:o.dst=jp d)(hlt:YD d nt=lc):
  OT P nt o s (fun t=>(b.size<=a0∧t=⟨(d,.bX [.kb li])::s.f,s.h,s.nx⟩)∨
   (a0<b.size∧t=⟨(d,.bX [.kb lc,.iv (.v (.int .i64 (a0:Nat))),.iv (.v (.int .i32 (Utf8.decode b a0).1))])::s.f,(i,jp (.eT b (a0+(Utf8.decode b a0).2)))::s.h,s.nx⟩)):=by
 intro M N a w F K Z S;have J:=bf F.2.1 G;rw[I]at J;have A:w.heap[N.aI i]? =jp (.stringIter b a0):=F.1.obj i _ hi;have B:N.aI i<w.heap.size:=(Zy.1 A).1;have C:d<nt:=Yd hlt;have D:a.eval G= .pointer (jp ⟨N.aI i,0,kw⟩):=by
  generalize a.eval G=y at J;cases J;rfl
 unfold Oper.wp;by_cases u:a0<b.size
 .have x:(execOp a.eval o).run P w= .ok (.value (.tuple #[.bool lc,.int .i64 (a0:Nat),.int .i32 (Utf8.decode b a0).1])) {w with heap:=w.heap.setIfInBounds (N.aI i) (.stringIter b (a0+(Utf8.decode b a0).2))}:=by
   simp only[execOp,ho,D];simp[Instr.next,getObj,setObj,Sem.run,A,u,Result.andThen,goInt]
  rw[x];simp only[Oper.upon]
  obtain⟨q1,q2⟩:=F.1.write hi rfl {w with heap:=w.heap.setIfInBounds (N.aI i) (.stringIter b (a0+(Utf8.decode b a0).2))} (.eT b (a0+(Utf8.decode b a0).2)) rfl rfl rfl (by simp) (fun c Y=>by
   show(w.heap.setIfInBounds _ _)[c]? =_
   rw[Y2,be (fun e=>Y e.symm)]) (by
   show(w.heap.setIfInBounds _ _)[_]? =_
   rw[Y2,am rfl,am B])
  refine S M N _ _ _ q1 ?_ (.inr ⟨u,rfl⟩);rw[hd];refine Fits.put (s:=⟨s.f,(i,jp (.eT b (a0+(Utf8.decode b a0).2)))::s.h,s.nx⟩) ⟨q2,F.2⟩ d _ _ C (.bX _ _ rfl fun q p u=>?_)
  match q with
  |0=>simp at u;subst u;exact .kb _
  |1=>simp at u;subst u;exact .iv _ _ (.v _)
  |2=>simp at u;subst u;exact .iv _ _ (.v _)
  |q+3=>simp at u
 .have x:(execOp a.eval o).run P w= .ok (.value (.tuple #[.bool li])) w:=by
   simp only[execOp,ho,D];simp[Instr.next,getObj,Sem.run,A,u,Result.andThen]
  rw[x];simp only[Oper.upon];refine S M N ⟨(d,.bX [.kb li])::s.f,s.h,s.nx⟩ _ w (.refl _ _ _ _ _) ?_ (.inl ⟨by omega,rfl⟩);rw[hd]
  exact F.put d _ _ C (.bX _ _ rfl fun j p u=>by
    match j with
    |0=>simp at u;subst u;exact .kb _
    |j+1=>simp at u)
theorem ov{all rest:List Oper}{o:Oper}{u:Operand}{i:Nat}{b:ByteArray}{a0 d:Nat}(ho:o.op= .next u lc)(hg:o.guard=kw)(j:ev s.f u= .ptr i 0)(hi:s.h.get i=jp (.eT b a0))(hd:o.dst=jp d)(hlt:YD d nt=lc)
  (h1:b.size<=a0->GO P nt (.ops all rest::k) Q ⟨(d,.bX [.kb li])::s.f,s.h,s.nx⟩)
  (h2:a0<b.size->GO P nt (.ops all rest::k) Q ⟨(d,.bX [.kb lc,.iv (.v (.int .i64 (a0:Nat))),.iv (.v (.int .i32 (Utf8.decode b a0).1))])::s.f,(i,jp (.eT b (a0+(Utf8.decode b a0).2)))::s.h,s.nx⟩):
  GO P nt (.ops all (o::rest)::k) Q s:=by
 refine eH hg (Kh ho j hi hd hlt) fun t x=>?_;rcases x with⟨g1,rfl⟩|⟨g1,rfl⟩
 .exact h1 g1
 .exact h2 g1
theorem AD(B:cC P ty){all rest:List Oper}{o:Oper}{x:Operand}{t d:Nat}{b:ByteArray}{e:cO}(ho:o.op= .range t x)(hg:o.guard=kw)(A:ty t=jp e)(J:e.k= .bb .string)(S:ev s.f x= .iv (.v (.string b)))(hd:o.dst=jp d)(hlt:YD d nt=lc)
  (h:GO P nt (.ops all rest::k) Q ⟨(d,.ptr s.nx 0)::s.f,(s.nx,jp (.eT b 0))::s.h,s.nx+1⟩):GO P nt (.ops all (o::rest)::k) Q s:=by
 have C:P.underlying t=jp .string:=by
  have:=(B t _ A).2.1;rw[J]at this;exact this.1
 refine eH (R:=fun t=>t=⟨(d,.ptr s.nx 0)::s.f,(s.nx,jp (.eT b 0))::s.h,s.nx+1⟩) hg (OT.value (s1:=newObj s (.eT b 0)) (p:= .ptr s.nx 0) (by cases s;simp only[putDst,newObj,hd,hlt,cond_true,eO]) fun M N a w y=>?_) fun t A=>by subst A;exact h
 have j:=bf y.2.1 x;rw[S]at j;have D:a.eval x= .string b:=by
  generalize a.eval x=v at j;cases j with
  |iv _ _ h=>cases h;rfl
 obtain⟨u,G,Y,h3,F,I⟩:=y.1.alloc (.stringIter b 0) (.eT b 0) 0 (fun u g1 g2 g3=>by
  show(w.alloc _).heap[u.aI s.nx]? =_
  rw[g1];exact heap_alloc_new w _)
 refine⟨.pointer (jp ⟨w.heap.size,0,kw⟩),_,M,u,?_,F,fg y F I,?_⟩
 .simp only[execOp,ho,D];simp[Instr.range,run_underlying C]
 .have:=VR.ptr (M:=M) (N:=u) (U:=(· <s.nx+1)) s.nx 0 (by omega);rw[G]at this;exact this
end
section
variable {P:Program} {ty:Ty} {nt:Nat} {s:AS} {Q:AQ} {k:List KI}
theorem I3(a0:cC P ty){all rest:List Oper}{o:Oper}{x:Operand}{t t' u d:Nat}{b:ByteArray}{et c0 eu:cO}(ho:o.op= .convert t t' x)(hg:o.guard=kw)(ht:ty t=jp et)(hk:et.k= .bb .string)(k0:ty t'=jp c0)(g0:c0.k= .bb (.slice u))(hu:ty u=jp eu)(i0:eu.k= .bb (.int .u8))
  (hx:ev s.f x= .iv (.v (.string b))) (hd:o.dst=jp d) (hlt:YD d nt=lc) (hb:b.size<=1000000)
  (h:GO P nt (.ops all rest::k) Q ⟨(d,.iv (.dp 1 b.data.toList.length fun k=>yH (b.data.toList.getD k io)))::s.f,s.h,s.nx⟩):GO P nt (.ops all (o::rest)::k) Q s:=by
 have hs:P.underlying t=jp .string:=by have:=(a0 t _ ht).2.1;rw[hk]at this;exact this.1
 have j0:P.underlying t'=jp (.slice u):=by have:=(a0 t' _ k0).2.1;rw[g0]at this;exact this.1
 have m0:P.underlying u=jp (.int .u8):=by have:=(a0 u _ hu).2.1;rw[i0]at this;exact this.1
 refine eH (R:=fun t=>t=⟨(d,.iv (.dp 1 b.data.toList.length fun k=>yH (b.data.toList.getD k io)))::s.f,s.h,s.nx⟩) hg (OT.value (s1:=s) (p:= .iv (.dp 1 b.data.toList.length fun k=>yH (b.data.toList.getD k io))) (by cases s;simp only[putDst,hd,hlt,cond_true,eO]) fun M N a w D=>?_) fun t ht=>by subst ht;exact h
 have b0:=bf D.2.1 x;rw[hx]at b0;have n0:a.eval x= .string b:=by
  generalize a.eval x=v at b0;cases b0 with
  |iv _ _ h=>cases h;rfl
 have J:=Go.run_bytes_of_string (P:=P) w t t' u b hs j0 m0;generalize hC:bytesRow b (grownCap w b.size 0 u)=C at J;have B:M w.heap.size=kw:=by
  cases hm:M w.heap.size with
  |none=>rfl
  |some c=>exact absurd (D.1.dT _ _ hm).lt (abc _)
 have F: ∀c,c<w.heap.size->(w.drew.alloc (.cells C u (C.size,C.size+1))).heap[c]? =w.heap[c]? :=fun c A=>by
  show(w.heap.push _)[c]? =_;rw[aaB,be (by omega)]
 have hnew:(w.drew.alloc (.cells C u (C.size,C.size+1))).heap[w.heap.size]? =jp (.cells C u (C.size,C.size+1)):=by
  show(w.heap.push _)[w.heap.size]? =_;simp
 have d0: ∀j,j<b.data.toList.length->C[j]? =jp (.int .u8 ((b.data.toList.getD j io).toNat:Int)):=by
  intro j hj;have S:j<b.data.size:=by simpa using hj
  rw[<-hC];simp only[bytesRow];rw[Zr (by simpa using S)];simp[Ye];exact⟨b.data[j],Zb S,by rw[Zb S];rfl⟩
 have G:=grownCap_ge w b.size 0 u;refine⟨.slice (jp ⟨w.heap.size,0,kw⟩) b.size (grownCap w b.size 0 u),w.drew.alloc (.cells C u (C.size,C.size+1)),M.set w.heap.size (.cells C) B,N,?_,?_,?_,?_⟩
 .simp only[execOp,ho,n0];rw[Sem.run_bind,J];rfl
 .have q1:M.le (M.set w.heap.size (.cells C) B):=fun c e A=>by
   simp only[Mem.set];rw[be fun e2=>by rw[e2,B]at A;cases A];exact A
  have q2: ∀c e,M c=kw->(M.set w.heap.size (.cells C) B) c=jp e->w.heap.size<=c∨ ∃i o,s.h.get i=jp o∧o.real=lc∧N.aI i=c:=fun c e h1 h2=>by
   simp only[Mem.set]at h2;by_cases he:c=w.heap.size
   .exact .inl (by omega)
   .rw[be he,h1]at h2;cases h2
  exact⟨rfl,rfl,rfl,(by show w.heap.size<=(w.heap.push _).size;simp),fun c A _=>F c A,q1,q2,.refl _ _,fun _ h=>h,fun i o I y=> .inr ⟨i,o,I,y,rfl⟩⟩
 .have e0:M.le (M.set w.heap.size (.cells C) B):=fun c e A=>by
   simp only[Mem.set];rw[be fun e2=>by rw[e2,B]at A;cases A];exact A
  refine⟨⟨fun c e A=>?_,D.1.used,fun i o I y=>?_,fun i o I=>?_,D.1.inj⟩,fun i=>(D.2.1 i).mono e0 (.refl _ _) fun _ h=>h,D.2.2⟩
  .simp only[Mem.set]at A;by_cases he:c=w.heap.size
   .rw[am he]at A;cases A;exact⟨u,(C.size,C.size+1),by rw[he];exact hnew⟩
   .rw[be he]at A;exact(D.1.dT c e A).mono (F c (D.1.dT c e A).lt)
  .simp only[Mem.set];have:=D.1.lt I y;rw[be (by omega)];exact D.1.fk i o I y
  .cases y:o.real with
   |true=>exact(D.1.obj i o I).mono e0 (.refl _ _) (fun _ h=>h) (D.1.used i o I) (F _ (D.1.lt I y))
   |false=>
    cases o with
    |row sz es=>cases es with
     |nil=>exact .inl Z
     |cons=>cases y
    |bM l T=>cases l with
     |nil=>exact .inl Z
     |cons=>cases y
    |_=>cases y
 .have f0:b.data.toList.length=b.size:=by simp
  rw[<-f0]at G ⊢;by_cases h0:b.data.toList.length=0
  .rw[h0];exact .iv _ _ (.lz _ _ _ _)
  .refine .iv _ _ (.dp _ _ _ _ _ _ (by omega) (grownCap_le_maxLen w _ _ _ (by simp only[maxLen];omega)) (fun _ _=>rfl) (fun k j hk hj=>?_) (fun k j p hk hp=>?_))
   .have Y:j=0:=by omega
    subst Y;have:=d0 k hk;simp only[Mem.cell,Mem.set,if_true,YC,aba,aaw,this,Option.isSome_some]
   .have Y:j=0:=by
     have:=(Yj.1 hp).1;simp[yH]at this;exact this
    subst Y;cases hp;have:=d0 k hk;simp only[Mem.cell,Mem.set,if_true,YC,aba,aaw,this,ZG];exact .v _
theorem PZ(B:cC P ty)(l:List UInt8){all rest:List Oper}{o:Oper}{x:Operand}{t C u d i n:Nat}{es:List (List PV)}{et F eu:cO}(ho:o.op= .convert t C x)(hg:o.guard=kw)(ht:ty t=jp et)(hk:et.k= .bb (.slice u))(e0:ty C=jp F)(b0:F.k= .bb .string)(hu:ty u=jp eu)(c0:eu.k= .bb (.int .u8))
  (hx:ev s.f x= .sl i 0 n 1) (hi:s.h.get i=jp (.row 1 es)) (hd:o.dst=jp d) (hlt:YD d nt=lc) (hes:es=l.map fun x=>(yH x).map .iv) (hn:n=l.length)
  (h:GO P nt (.ops all rest::k) Q ⟨(d,.iv (.v (.string ⟨l.toArray⟩)))::s.f,s.h,s.nx⟩):GO P nt (.ops all (o::rest)::k) Q s:=by
 have hs:P.underlying C=jp .string:=by have:=(B C _ e0).2.1;rw[b0]at this;exact this.1
 have S:P.underlying t=jp (.slice u):=by have:=(B t _ ht).2.1;rw[hk]at this;exact this.1
 have Y:P.underlying u=jp (.int .u8):=by have:=(B u _ hu).2.1;rw[c0]at this;exact this.1
 subst hn;subst hes;refine eH (R:=fun t=>t=⟨(d,.iv (.v (.string ⟨l.toArray⟩)))::s.f,s.h,s.nx⟩) hg (OT.value (s1:=s) (p:= .iv (.v (.string ⟨l.toArray⟩))) (by cases s;simp only[putDst,hd,hlt,cond_true,eO]) fun M N a w hf=>?_) fun t ht=>by subst ht;exact h
 have b:=bf hf.2.1 x;rw[hx]at b;have J:(convert t C (a.eval x)).run P w= .ok (.string ⟨l.toArray⟩) w:=by
  generalize a.eval x=v at b;cases hor:l with
  |nil=>
   rw[hor]at b;generalize D:PV.sl i 0 ([]:List UInt8).length 1=q at b;cases b with
   |sl _ _ _ _ _ _ h0=>cases D;simp at h0
   |pQ _ _ _=>
    have:=run_convert_bytes_nil (P:=P) w t u S Y 0 0 C hs;exact this
   |_=>cases D
  |cons x0 r0=>
   rw[<-hor];have I:0<l.length:=by rw[hor];simp
   generalize d0:l.length=n at b I;generalize D:PV.sl i 0 n 1=q at b;cases b with
   |sl _ _ _ _ cap hU h0 hl hc he=>
    cases D;rcases hf.1.obj i _ hi with A|⟨_,c,T,q1,q2,q3,q4,q5⟩
    .rw[hor]at A;cases A
    rw[aas,<-d0];refine run_convert_bytes_back (P:=P) w t C u ⟨N.aI i,0,kw⟩ cap l S Y hs fun j hj=>?_;rw[iq,YC];have G:j<c.size:=by rw[YH]at q3;omega
    have:=q5 j [.iv (.v (.int .u8 (l[j].toNat:Int)))] 0 _ (by rw[Yo,Yi hj];rfl) Z;rw[aba,aaw,Yf,Zb G,ZG]at this;simp only[World.cell?,q1];generalize a0:c[j]=y at this;cases this with
    |iv _ _ h=>cases h;simp[G,a0]
   |pQ _ _ _=>cases D;omega
   |_=>cases D
 exact⟨_,w,M,N,by simp only[execOp,ho];exact bU J,.refl _ _ _ _ _,hf,.iv _ _ (.v _)⟩
theorem xa(u:cC P ty){all rest:List Oper}{o:Oper}{x:Operand}{t y d:Nat}{q I:IntKind}{n:Int}{F j:cO}(ho:o.op= .convert t y x)(hg:o.guard=kw)(B:ty t=jp F)(S:F.k= .bb (.int q))(C:ty y=jp j)(A:j.k= .bb .string)
  (hx:ev s.f x= .iv (.v (.int I n))) (hd:o.dst=jp d) (hlt:YD d nt=lc)
  (h:GO P nt (.ops all rest::k) Q ⟨(d,.iv (.v (.string (Utf8.encode n))))::s.f,s.h,s.nx⟩):GO P nt (.ops all (o::rest)::k) Q s:=by
 have Y:P.underlying y=jp .string:=by have:=(u y _ C).2.1;rw[A]at this;exact this.1
 have J:P.underlying t=jp (.int q):=by have:=(u t _ B).2.1;rw[S]at this;exact this.1
 refine eH (R:=fun t=>t=⟨(d,.iv (.v (.string (Utf8.encode n))))::s.f,s.h,s.nx⟩) hg (OT.value (s1:=s) (p:= .iv (.v (.string (Utf8.encode n)))) (by cases s;simp only[putDst,hd,hlt,cond_true,eO]) fun M N a w G=>?_) fun t B=>by subst B;exact h
 have b:=bf G.2.1 x;rw[hx]at b;have D:a.eval x= .int I n:=by
  generalize a.eval x=v at b;cases b with
  |iv _ _ h=>cases h;rfl
 refine⟨_,w,M,N,?_,.refl _ _ _ _ _,G,.iv _ _ (.v _)⟩;simp only[execOp,ho,D];refine bU ?_;simp[convert,run_underlying J,run_underlying Y,Conv.intToString]
end
section
variable {P:Program} {ty:Ty} {nt:Nat} {Q:AQ} {k:List KI} {s:AS}
theorem Fb(p0:cC P ty){o:Oper}{t:TypeId}{a x:Operand}(ho:o.op= .store t a x)(hd:o.dst=kw){i sz q:Nat}{e:cO}(he:ty t=jp e)(w0:e.size=sz){es:List (List PV)}{xs:List PV}
  (ha:ev s.f a= .dJ i sz q 0) (hi:s.h.get i=jp (.row sz es)) (hq:q<es.length) (s0:(ev s.f x).cells=jp xs) (d0:xs.length=sz) (a0:jw xs=lc):
  OT P nt o s (fun u=>u=⟨s.f,(i,jp (.row sz (es.set q xs)))::s.h,s.nx⟩):=by
 have hp:putDst nt o .any ⟨s.f,(i,jp (.row sz (es.set q xs)))::s.h,s.nx⟩=jp ⟨s.f,(i,jp (.row sz (es.set q xs)))::s.h,s.nx⟩:=by simp only[putDst,hd]
 refine OT.skip hp fun M N b w G=>?_;have hu:=bf G.2.1 a;have hy:=bf G.2.1 x;rw[ha]at hu;generalize q0:b.eval a=u at hu;generalize t0:b.eval x=y at hy
 have key: ∃w',(Instr.storeAt t u y).run P w= .ok () w'∧Ext M N (· <s.nx) s.h w M N (· <s.nx) ((i,jp (.row sz (es.set q xs)))::s.h) w'∧Fits M N ⟨s.f,(i,jp (.row sz (es.set q xs)))::s.h,s.nx⟩ nt b w':=by
  cases hu with
  |dJ _ _ _ _ hU=>
   obtain⟨hl,hv⟩:=qN hy s0;have x0:y.cells.size=sz:=by omega
   rcases G.1.obj i _ hi with h0|⟨h0,c,T,g1,g2,g3,g4,g5⟩
   .rw[h0]at hq;simp at hq
   have Y:(q+1)*sz<=es.length*sz:=YS _ hq;have v0:q*sz+sz<=c.size:=by rw[aav]at Y;omega
   have B: ∀z∈y.cells.toList,z.oneCell'=lc:=by
    intro v r0;obtain⟨j,hj⟩:=Y9 r0;have i0:j<y.cells.toList.length:=(Yj.1 hj).1;have S:xs[j]? =jp (xs[j]'(by simp at i0;omega)):=Yi _;have:=(hv j _ S).one (oI a0 j _ S);rw[Yf]at this;have f0:y.cells[j]? =jp v:=by simpa using hj
    rw[f0]at this;exact this
   have c0:=run_storeCells_at P (N.aI i) (q*sz) T y.cells.toList 0 c w g1 (by simp;omega) B;refine⟨w.setRow (N.aI i) (c.toList.take (q*sz+0)++y.cells.toList++c.toList.drop (q*sz+0+y.cells.toList.length)).toArray,?_,?_⟩
   .have C:=cy (w:=w) (p0 t e he);have o0:y.cells.size=e.size:=by omega
    simp only[Instr.storeAt,Instr.sureAddr,pure_bind,storeVar,Sem.run_bind,C,Result.andThen_ok,o0,ne_eq,not_true_eq_false,if_false];exact c0
   .have b0:=setRow_heap w (N.aI i) c (c.toList.take (q*sz+0)++y.cells.toList++c.toList.drop (q*sz+0+y.cells.toList.length)).toArray T (0,0) g1;have m0: ∀b,b≠N.aI i->(w.setRow (N.aI i) (c.toList.take (q*sz+0)++y.cells.toList++c.toList.drop (q*sz+0+y.cells.toList.length)).toArray).heap[b]? =w.heap[b]? :=by
     intro b hb;simp only[World.setRow,Za];rw[be (fun e=>hb e.symm)]
    have n0:(AO.row sz es).real=lc:=by cases es with
     |nil=>simp at hq
     |cons=>rfl
    have e0: ∀m,(c.toList.take (q*sz+0)++y.cells.toList++c.toList.drop (q*sz+0+y.cells.toList.length)).toArray.getD m undef=if q*sz<=m∧m<q*sz+sz then y.cells.getD (m-q*sz) undef else c.getD m undef:=by
     intro m;rw[Yf,Yf,Yf];have j0:y.cells.toList.length=sz:=by simp;omega
     split
     .rename_i hm;have e1:(c.toList.take (q*sz+0)++y.cells.toList++c.toList.drop (q*sz+0+y.cells.toList.length)).toArray[m]? =y.cells[m-q*sz]? :=by
       simp only[ZB];rw[YA (by simp;omega),YF (by simp;omega)];simp only[YV,Array.length_toList,Zn];congr 1;omega
      rw[e1]
     .rename_i hm;have e1:(c.toList.take (q*sz+0)++y.cells.toList++c.toList.drop (q*sz+0+y.cells.toList.length)).toArray[m]? =c[m]? :=by
       simp only[ZB];rcases Zj m (q*sz) with k1|k1
       .rw[Yu,YA (by simp;omega),Zi,am (by omega),Zn]
       .rw[YF (by simp;omega),Zw,Zn];congr 1;simp;omega
      rw[e1]
    have:=G.1.write hi n0 (w.setRow (N.aI i) (c.toList.take (q*sz+0)++y.cells.toList++c.toList.drop (q*sz+0+y.cells.toList.length)).toArray) (.row sz (es.set q xs)) Z Z Z (by simp) m0
     (.inr ⟨h0,_,T,b0,by simp;omega,by simp;omega,fun D J d=>?_,fun D J I p2 d F=>?_⟩)
    .exact⟨this.1,this.2,G.2.1,G.2.2⟩
    .rw[Y4]at d;split at d
     .cases d;exact d0
     .exact g4 D J d
    .rw[e0];rw[Y4]at d;split at d
     .rename_i A;subst A;cases d;have g0:I<sz:=by rw[<-d0];exact(Yj.1 F).1
      rw[am (by omega),show q*sz+I-q*sz=I by omega];exact hv I p2 F
     .rename_i A;have g0:I<sz:=by rw[<-g4 D J d];exact(Yj.1 F).1
      rw[be ?_]
      .exact g5 D J I p2 d F
      .intro⟨e1,J⟩;rcases Nat.lt_trichotomy q D with k0|heq|hgt
       .have:(q+1)*sz<=D*sz:=YS _ k0;rw[aav]at this;omega
       .exact A heq
       .have:(D+1)*sz<=q*sz:=YS _ hgt;rw[aav]at this;omega
 obtain⟨w',h1,d,F⟩:=key;refine⟨w',M,N,?_,d,F⟩;simp only[execOp,ho];simp[q0,t0,h1]
theorem hZ(j:cC P ty){all rest:List Oper}{o:Oper}{t:TypeId}{a x:Operand}(ho:o.op= .store t a x)(hd:o.dst=kw)(hg:o.guard=kw){i sz q:Nat}{e:cO}(he:ty t=jp e)(d:e.size=sz){es:List (List PV)}{xs:List PV}
  (ha:ev s.f a= .dJ i sz q 0) (hi:s.h.get i=jp (.row sz es)) (B:q<es.length) (A:(ev s.f x).cells=jp xs) (y:xs.length=sz) (b:jw xs=lc)
  {s':AS} (hs:(⟨s.f,(i,jp (.row sz (es.set q xs)))::s.h,s.nx⟩:AS)=s') (h:GO P nt (.ops all rest::k) Q s'):GO P nt (.ops all (o::rest)::k) Q s:=
 eH hg (Fb j ho hd he d ha hi B A y b) fun u hu=>by subst hu;subst hs;exact h
end
theorem gd{P:Program}{nt:Nat}{Q:AQ}{k:List KI}{s:AS}{c:Code}(i:Nat){sz:Nat}{es:List (List PV)}(el:Nat->List IV)(hi:s.h.get i=jp (.row sz es))(a0: ∀k e,es[k]? =jp e->e=(el k).map .iv)
  (hf:s.f.rk i sz es.length) (hh:s.h.vg i sz es.length) (h:GO P nt (.code c::k) Q ⟨s.f.iP i sz el,(i,kw)::s.h.ic i sz el,s.nx⟩):GO P nt (.code c::k) Q s:=by
 intro M N a w b;obtain⟨M',y,A,h4⟩:=xd b.1 hi a0;have D: ∀j o,AH.get ((i,kw)::s.h.ic i sz el) j=jp o-> ∃p,AH.get ((i,kw)::s.h) j=jp p∧s.h.get j=jp p∧o=p.ic i sz el:=by
  intro j o u;obtain⟨g1,g2⟩:=bD j o u;rw[AH.kJ,Yq]at g2;obtain⟨p,g3,g4⟩:=g2;exact⟨p,by rw[AH.aw,be g1];exact g3,g3,g4.symm⟩
 have hE:Ext M N (· <s.nx) s.h w M' N (· <s.nx) ((i,kw)::s.h.ic i sz el) w:=⟨y.os,y.tape,y.output,y.size,y.jO,y.r6,y.kn,y.nm,y.ule,fun j o u x=>by
  obtain⟨p,g1,_,rfl⟩:=D j o u;rw[AO.mR]at x
  exact y.jq j p g1 x⟩
 have hR:Rel M' N (· <s.nx) ((i,kw)::s.h.ic i sz el) w:=by
  refine⟨A.dT,fun j o u=>?_,fun j o u x=>?_,fun j o u=>?_,fun j k o p u hk ho G=>?_⟩
  .obtain⟨p,g1,_,rfl⟩:=D j o u;exact A.used j p g1
  .obtain⟨p,g1,_,rfl⟩:=D j o u;rw[AO.mR]at x;exact A.fk j p g1 x
  .obtain⟨p,g1,g2,rfl⟩:=D j o u;cases p with
   |cells cs T0=>
    obtain⟨c,T,q1,q2,q3,q4,q5⟩:=b.1.obj j _ g2;have C:=AH.og hh j _ g2;refine⟨c,T,q1,q2,by simpa[fQ]using q3,fun k q hq=>?_,q5⟩;rw[fQ,Yo,Yq]at hq;obtain⟨Y,J,rfl⟩:=hq;exact h4 _ _ (q4 k Y J) (hP C k Y J)
   |row s2 es2=>
    have C:=AH.og hh j _ g2;rcases b.1.obj j _ g2 with rfl|⟨Y,c,T,q1,q2,q3,q4,q5⟩
    .exact .inl Z
    .refine .inr ⟨Y,c,T,q1,q2,by simpa using q3,fun k e F=>?_,fun k e j2 p F G=>?_⟩
     .rw[Yo,Yq]at F;obtain⟨S,B,rfl⟩:=F;rw[fQ,YH];exact q4 k S B
     .rw[Yo,Yq]at F;obtain⟨S,B,rfl⟩:=F;rw[fQ,Yo,Yq]at G;obtain⟨p0,I,rfl⟩:=G;exact h4 _ _ (q5 k S j2 p0 B I) (hP (C S (YL B)) j2 p0 I)
   |bM=>exact A.obj j _ g1
   |gn=>exact A.obj j _ g1
   |map=>exact A.obj j _ g1
   |b3=>exact A.obj j _ g1
   |eT=>exact A.obj j _ g1
  .obtain⟨o',g1,_,rfl⟩:=D j o u;obtain⟨p',g2,_,rfl⟩:=D k p hk;rw[AO.mR]at ho G;exact A.inj j k o' p' g1 g2 ho G
 have b0:Fits M' N ⟨s.f.iP i sz el,(i,kw)::s.h.ic i sz el,s.nx⟩ nt a w:=⟨hR,fun d=>by
  rw[AF.mQ];exact h4 _ _ (b.2.1 d) (AF.oT hf d),b.2.2⟩
 exact AW.then h b0 fun e a2 w2 M2 N2 s2 f0 c0 d0=>⟨M2,N2,s2,hE.trans f0,c0,d0⟩
section
variable {P:Program} {ty:Ty} {nt:Nat} {s:AS}
theorem ye{M:Mem}{N:Nm}{a:Act}{w:World}(hf:Fits M N s nt a w){x:Operand}{k:IntKind}{n:Int}(h:ev s.f x= .iv (.v (.int k n))):a.eval x= .int k n:=by
 have b:=bf hf.2.1 x;rw[h]at b;generalize a.eval x=v at b;cases b with
 |iv _ _ b=>cases b with
  |v=>rfl
theorem Vs(C:cC P ty){o:Oper}{t u:TypeId}{l c:Operand}(ho:o.op= .makeSlice t l c){e b:cO}(ht:ty t=jp e)(hk:e.k= .bb (.slice u))(hu:ty u=jp b)
  {n m sz:Nat} {kl kc:IntKind} {ml nc:Int} (hl:ev s.f l= .iv (.v (.int kl ml))) (hc:ev s.f c= .iv (.v (.int kc nc))) (f0:ml=(m:Int)) (g0:nc=(n:Int)) (hn:0<n) (o0:n<=100000000000) (hb:b.bytes*n<=281474976710656) (k0:b.size=sz) (D:b.zero.cells.size=sz) (j0:0<sz)
  {z:List PV} (hz:z=c4 b.zero) {p:PV} (B:(m=0∧p= .sl s.nx 1 0 sz)∨(m=n∧p= .sl s.nx 0 n sz))
  {s':AS} (hp:putDst nt o p (newObj s (.row sz (ZW n z)))=jp s'):OT P nt o s (fun t=>t=s'):=by
 refine OT.value hp fun M N a w I=>?_;subst hz k0 f0 g0;obtain⟨⟨ii,Y,a0,S,b0⟩,_⟩:=C u _ hu
 have m0:P.underlying t=jp (.slice u):=by
  have:=(C t _ ht).2.1;rw[hk]at this;exact this.1
 have n0:m<=n:=by rcases B with⟨h,_⟩|⟨h,_⟩<;>omega
 have A:=run_make w t u ii b.zero m0 Y b0 kl kc (m:Int) (n:Int) (by omega) (by omega) (by rw[S];omega) (by omega);rw[YK,YK,a0]at A;have F:(c4 b.zero).length=b.size:=by rw[(gj (M:=M) (N:=N) (U:=(· <s.nx)) b.zero).1,D]
 have y: ∀(k:Nat) (e:List PV),(ZW n (c4 b.zero))[k]? =jp e->k<n∧e=c4 b.zero:=by
  intro k e d;rw[aad]at d;split at d
  .exact⟨by assumption,by simpa using d.symm⟩
  .cases d
 obtain⟨G,h1,h2,h8,h9,J⟩:=I.1.alloc (.cells (madeCells b.zero.cells (n*b.size)) u) (.row b.size (ZW n (c4 b.zero))) (n*b.size) (fun G g1 g2 g3=>
  .inr ⟨j0,_,u,by rw[g1];exact heap_alloc_new w _,by rw[size_madeCells,g2],by rw[size_madeCells,List.length_replicate];exact Ym _,fun k e d=>by rw[(y k e d).2,F],fun k e j p d hj=>by
   obtain⟨d0,rfl⟩:=y k e d;have c0:j<b.size:=by rw[<-F];exact(Yj.1 hj).1
   have e0:k*b.size+j<n*b.size:=by
    have:(k+1)*b.size<=n*b.size:=YS _ d0;rw[Zz]at this;omega
   have h7:(madeCells b.zero.cells (n*b.size)).getD (k*b.size+j) undef=b.zero.cells.getD j undef:=by
    have hx:(abv (n*b.size))[k*b.size+j]? =jp (k*b.size+j):=by simp[e0]
    have hm:(k*b.size+j) % b.zero.cells.size=j:=by rw[D,Nat.add_comm,Nat.add_mul_mod_self_right,Nat.mod_eq_of_lt c0]
    rw[madeCells,Yf,aaD,hx];simp only[Zg,ZG,hm];rw[Yf,getElem!_pos b.zero.cells j (by omega),Zb (by omega)];rfl
   rw[h7];exact(gj b.zero).2 j p hj⟩)
 refine⟨.slice (jp ⟨w.heap.size,0,kw⟩) m n,_,M,G,?_,h9,fg I h9 J,?_⟩
 .simp only[execOp,ho,ye I hl,ye I hc];rw[Sem.run_bind,A];rfl
 .have i0:(newObj s (.row b.size (ZW n (c4 b.zero)))).nx=s.nx+1:=by cases s;rfl
  rw[i0];have x:n<=maxLen:=by simp only[maxLen];omega
  rcases B with⟨rfl,rfl⟩|⟨rfl,rfl⟩
  .have:=VR.sle (M:=M) (N:=G) (U:=(· <s.nx+1)) s.nx b.size n (by omega) x (by rw[h2]);rw[h1]at this;exact this
  .have:=VR.sl (M:=M) (N:=G) (U:=(· <s.nx+1)) s.nx 0 m b.size m (by omega) hn (Ym _) x (by rw[h2,YC]);rw[h1,aas]at this;exact this
theorem Tu(d:cC P ty){o:Oper}{t u:TypeId}{l c:Operand}(ho:o.op= .makeSlice t l c){e x:cO}(ht:ty t=jp e)(hk:e.k= .bb (.slice u))(hu:ty u=jp x)
  {sz:Nat} (el:Nat->List IV) {S kc:IntKind} {Y nc:Int} (hl:ev s.f l= .iv (.v (.int S Y))) (hc:ev s.f c= .iv (.v (.int kc nc))) (C:Y=0) (D:nc=0)
  {s':AS} (hp:putDst nt o (.iv (.dp sz 0 el)) (newObj s (.row sz []))=jp s'):OT P nt o s (fun t=>t=s'):=by
 refine OT.value hp fun M N a w j=>?_;subst C D;obtain⟨⟨J,A,b0,a0,B⟩,_⟩:=d u _ hu
 have F:P.underlying t=jp (.slice u):=by
  have:=(d t _ ht).2.1;rw[hk]at this;exact this.1
 have b:=run_make w t u J x.zero F A B S kc 0 0 (by omega) (by omega) (by omega) (by omega);obtain⟨G,h1,h2,h8,I,y⟩:=j.1.alloc (.cells (madeCells x.zero.cells ((0:Int).toNat*J.size)) u) (.row sz []) 0 (fun G g1 g2 g3=> .inl Z);refine⟨.slice (jp ⟨w.heap.size,0,kw⟩) 0 0,_,M,G,?_,I,fg j I y,.iv _ _ (.lz _ _ _ _)⟩;simp only[execOp,ho,ye j hl,ye j hc];rw[Sem.run_bind,b];rfl
theorem TZ(A:cC P ty){o:Oper}{t u:TypeId}{x hi:Operand}(ho:o.op= .slice t x kw (jp hi) kw){e F:cO}(Y:ty t=jp e)(I:e.k= .bb (.slice u))(hu:ty u=jp F)
  {i n m sz:Nat} {kc:IntKind} {G:Int} (hx:ev s.f x= .sl i 0 n sz) (hh:ev s.f hi= .iv (.v (.int kc G))) (C:G=(m:Int)) (S:m<=n) (hn:0<n)
  {p:PV} (D:(m=0∧p= .sl i 1 0 sz)∨(0<m∧p= .sl i 0 m sz)) {s':AS} (hp:putDst nt o p s=jp s'):OT P nt o s (fun t=>t=s'):=by
 refine OT.value hp fun M N a w B=>?_;subst C
 have j:P.underlying t=jp (.slice u):=by
  have:=(A t _ Y).2.1;rw[I]at this;exact this.1
 have d:P.elem t=u:=by simp[Program.elem,j]
 have y:=bf B.2.1 x;rw[hx]at y;generalize hv:a.eval x=vx at y;cases y with
 |pQ=>omega
 |sl _ _ _ _ cap hU h0 hl hc hext=>
  have b:=run_slice_h (P:=P) (w:=w) t (jp ⟨N.aI i,0*sz,kw⟩) n cap (by rw[d];exact j) kc (m:Int) (by omega) (by omega);rw[d,cy (A u _ hu)]at b;refine⟨sliced (jp ⟨N.aI i,0*sz,kw⟩) 0 m cap F.size,w,M,N,?_,.refl _ _ _ _ _,B,?_⟩
  .simp only[execOp,ho,hv,Zg,abn,ye B hh];refine bU ?_;rw[run_sliceAt_slice w t _ _ _ _ (by rw[d];exact j),b];rfl
  .rcases D with⟨rfl,rfl⟩|⟨J,rfl⟩
   .have:=VR.sle (M:=M) (N:=N) (U:=(· <s.nx)) i sz cap hU hc (by rw[<-hext,YC]);simpa[sliced,Addr.add]using this
   .have:=VR.sl (M:=M) (N:=N) (U:=(· <s.nx)) i 0 m sz cap hU J (by omega) hc hext;simpa[sliced,Addr.add]using this
theorem Qp(i0:cC P ty){o:Oper}{x y:Operand}{t u:TypeId}(ho:o.op= .call ⟨.builtin .append, #[x,y], #[t,t]⟩){e A:cO}(ht:ty t=jp e)(hk:e.k= .bb (.slice u))(hu:ty u=jp A)
  {i sz:Nat} {es news:List (List PV)} {py:PV} (hx:ev s.f x= .sl i 1 0 sz) (hi:s.h.get i=jp (.row sz es)) (w0:A.size=sz) (a0:news.length<=es.length) (hm:0<news.length)
  (v0:ev s.f y=py) (hy:Src s.h sz py news) (d0: ∀e∈news,jw e=lc)
  {s':AS} (hp:putDst nt o (.sl s.nx 0 news.length sz) (uL s i sz [] news)=jp s'):OT P nt o s (fun t=>t=s'):=by
 refine OT.value hp fun M N a w hf=>?_;subst w0;obtain⟨⟨ii,q0,c0,b1,d1⟩,_⟩:=i0 u _ hu
 have x0:P.underlying t=jp (.slice u):=by
  have:=(i0 t _ ht).2.1;rw[hk]at this;exact this.1
 have f0:=bf hf.2.1 x;rw[hx]at f0;have m0:=bf hf.2.1 y;rw[v0]at m0;obtain⟨F,ao,c,z0,J⟩:=hy.ok hf m0;have B: ∀v w',(Builtin.append_ #[t,t] o.type #[a.eval x,a.eval y]).run P w= .ok v w'->(execOp a.eval o).run P w= .ok (.value v) w':=by
  intro v w' h;simp only[execOp,ho,resolve];simp[invoke,builtin,h]
 rw[z0]at B;have G:(AO.row A.size es).real=lc:=by cases es with
  |nil=>exact absurd a0 (by simp only[ZM];omega)
  |cons=>rfl
 rcases hf.1.obj i _ hi with rfl|⟨hsz0,cur,T,q1,q2,q3,q4,q5⟩
 .cases G
 generalize a.eval x=vx at f0 B;cases f0 with
 |sl _ _ _ _ _ _ h0=>exact absurd h0 (abc _)
 |sle _ _ cap hU hc hext=>
  have D:cur.size=cap*A.size:=by rw[q2,<-hext]
  have d:news.length<=cap:=by
   have:es.length*A.size<=cap*A.size:=by rw[<-D];exact q3
   have:=Nat.le_of_mul_le_mul_right this hsz0;omega
  obtain⟨b2,a1,o0,S⟩:=J (List.ne_nil_of_length_pos hm);subst o0;obtain⟨Y,j0,y0,k0⟩:=Bl (s:=s) S;have I:Y.length=news.length*A.size:=by rw[j0,qy F]
  have p0:Y.length<=cur.size:=by rw[I,D];exact YS _ d
  have b0: ∀v∈Y,v.oneCell'=lc:=by
   intro v hv;obtain⟨j,hj⟩:=Y9 hv;have r0:j<news.flatten.length:=by rw[<-j0];exact(Yj.1 hj).1
   have hp:=Yi r0;obtain⟨k,e,i',h1,h2,_⟩:=qz F j _ hp;have:=(k0 j _ hp).one (oI (d0 e (YL h1)) i' _ h2);rw[Ye,hj]at this;exact this
  have C:=n9 (P:=P) (w:=w) t o.type u ii x0 q0 T (N.aI i) 0 cap cur q1 ⟨b2,a1,kw⟩ news.length c Y (by rw[I,c0]) y0 b0 (by omega) (by rw[c0];omega);rw[c0]at C;generalize hL:(cur.toList.take (0*A.size)++Y++cur.toList.drop (0*A.size+Y.length)).toArray=L at C;rw[YC]at C;have g0:L.size=cur.size:=by rw[<-hL];simp;omega
  have e0:=setRow_heap w (N.aI i) cur L T (0,0) q1;have n0: ∀j,j<Y.length->L.getD j undef=Y.getD j undef:=by
   intro j hj;rw[<-hL,Yf,Ye];simp only[ZB];rw[YA (by simp;omega),YF (by simp)];simp
  obtain⟨h1,h2⟩:=hf.1.move hi G (w.setRow (N.aI i) L) (.row A.size ([]++news)) Z Z Z (by simp) (fun b hb=>by
    simp only[World.setRow,Za]
    rw[be (fun e=>hb e.symm)]) (by
   refine .inr ⟨hsz0,L,T,by simpa using e0,by rw[g0];simpa using q2,by rw[g0,D];exact YS _ d,fun k e he=>F _ e he,fun k e j p he hj=>?_⟩;have e1:j<A.size:=by rw[<-F _ e he];exact(Yj.1 hj).1
   have s0:k<news.length:=(Yj.1 he).1;have t0:k*A.size+j<Y.length:=by
    rw[I];have:(k+1)*A.size<=news.length*A.size:=YS _ s0;rw[Zz]at this;omega
   rw[n0 _ t0]
   exact(k0 _ p (uA F _ e j p he hj)).mono (.refl _) (N.gB _ _ _) (fun i hi=>by omega))
  obtain⟨g1,g2⟩:=qT (es:=[]) (news:=news) (i:=i) hf h1 h2;refine⟨_,_,M,_,B _ _ C,g1,g2,?_⟩;have:=VR.sl (M:=M) (N:=N.with s.nx (N.aI i) (N.ext i)) (U:=(· <s.nx+1)) s.nx 0 news.length A.size cap (by omega) hm d hc (by simpa using hext);rw[nG];simpa using this
section
variable {Q:AQ} {k:List KI} {all rest:List Oper} {o:Oper} {s':AS}
theorem AE(C:cC P ty){t u:TypeId}{l c:Operand}(n m:Nat)(hg:o.guard=kw)(ho:o.op= .makeSlice t l c){e b:cO}(B:ty t=jp e)(I:e.k= .bb (.slice u))(hu:ty u=jp b)
  {Y kc:IntKind} {F G:Int} (J:ev s.f l= .iv (.v (.int Y F))) (hc:ev s.f c= .iv (.v (.int kc G))) (d:F=(m:Int)) (x:G=(n:Int)) (hn:0<n) (j:n<=100000000000) (hb:b.bytes*n<=281474976710656) (D:b.zero.cells.size=b.size) (A:0<b.size)
  {z:List PV} (S:z=c4 b.zero) {p:PV} (y:(m=0∧p= .sl s.nx 1 0 b.size)∨(m=n∧p= .sl s.nx 0 n b.size))
  (hp:putDst nt o p (newObj s (.row b.size (ZW n z)))=jp s') (h:GO P nt (.ops all rest::k) Q s'):GO P nt (.ops all (o::rest)::k) Q s:=
 eH hg (Vs C ho B I hu J hc d x hn j hb Z D A S y hp) fun t B=>by subst B;exact h
theorem yl(x:cC P ty){t u:TypeId}{l c:Operand}(sz:Nat)(el:Nat->List IV)(hg:o.guard=kw)(ho:o.op= .makeSlice t l c){e B:cO}(j:ty t=jp e)(C:e.k= .bb (.slice u))(hu:ty u=jp B)
  {F kc:IntKind} {y A:Int} (D:ev s.f l= .iv (.v (.int F y))) (hc:ev s.f c= .iv (.v (.int kc A))) (b:y=0) (d:A=0)
  (hp:putDst nt o (.iv (.dp sz 0 el)) (newObj s (.row sz []))=jp s') (h:GO P nt (.ops all rest::k) Q s'):GO P nt (.ops all (o::rest)::k) Q s:=
 eH hg (Tu x ho j C hu el D hc b d hp) fun t j=>by subst j;exact h
theorem Hw(A:cC P ty){t u:TypeId}{x hi:Operand}{i n sz:Nat}(m:Nat)(hg:o.guard=kw)(ho:o.op= .slice t x kw (jp hi) kw){e C:cO}(y:ty t=jp e)(D:e.k= .bb (.slice u))(hu:ty u=jp C)
  {kc:IntKind} {B:Int} (F:ev s.f x= .sl i 0 n sz) (hh:ev s.f hi= .iv (.v (.int kc B))) (b:B=(m:Int)) (d:m<=n) (hn:0<n)
  {p:PV} (j:(m=0∧p= .sl i 1 0 sz)∨(0<m∧p= .sl i 0 m sz)) (hp:putDst nt o p s=jp s') (h:GO P nt (.ops all rest::k) Q s'):GO P nt (.ops all (o::rest)::k) Q s:=
 eH hg (TZ A ho y D hu F hh b d hn j hp) fun t y=>by subst y;exact h
theorem Ca(C:cC P ty){x y:Operand}{t u:TypeId}(hg:o.guard=kw)(ho:o.op= .call ⟨.builtin .append, #[x,y], #[t,t]⟩){e d:cO}(B:ty t=jp e)(F:e.k= .bb (.slice u))(hu:ty u=jp d)
  {i:Nat} {es news:List (List PV)} {D:PV} (G:ev s.f x= .sl i 1 0 d.size) (hi:s.h.get i=jp (.row d.size es))
  (A:ev s.f y=D) (I:S8 s.h d.size D=jp news) (b:news.length<=es.length) (hm:0<news.length) (j: ∀e∈news,jw e=lc)
  (hp:putDst nt o (.sl s.nx 0 news.length d.size) (uL s i d.size [] news)=jp s') (h:GO P nt (.ops all rest::k) Q s'):GO P nt (.ops all (o::rest)::k) Q s:=
 eH hg (Qp C ho B F hu G hi Z b hm A (OE I) j hp) fun t B=>by subst B;exact h
end
theorem Aj{M:Mem}{N:Nm}{a:Act}{w:World}(hf:Fits M N s nt a w){x:Operand}(h:ev s.f x= .iv (.v (.map kw))):a.eval x= .map kw:=by
 have b:=bf hf.2.1 x;rw[h]at b;generalize a.eval x=v at b;cases b with
 |iv _ _ b=>cases b with
  |v=>rfl
theorem IW(b:cC P ty){o:Oper}{t u d:TypeId}{x:Operand}(ho:o.op= .call ⟨.builtin .len, #[x], #[t]⟩){e:cO}(A:ty t=jp e)(y:e.k= .bb (.map u d))(B:ev s.f x= .iv (.v (.map kw)))
  {s':AS} (hp:putDst nt o (pI 0) s=jp s'):OT P nt o s (fun t=>t=s'):=by
 refine OT.value hp fun M N a w j=>?_
 have hu:P.underlying t=jp (.map u d):=by
  have:=(b t _ A).2.1;rw[y]at this;exact this.1
 refine⟨.int .i64 0,w,M,N,?_,.refl _ _ _ _ _,j,.iv _ _ (.v _)⟩;simp only[execOp,ho,resolve];simp[invoke,builtin,Aj j B,Builtin.len_,run_underlying hu,goInt]
theorem Iu(u:cC P ty){o:Oper}{t B y:TypeId}{x:Operand}(ho:o.op= .range t x){e:cO}(G:ty t=jp e)(F:e.k= .bb (.map B y))(I:ev s.f x= .iv (.v (.map kw)))
  {s':AS} (hp:putDst nt o (.ptr s.nx 0) (newObj s (.b3 .str iI [] [] kw))=jp s'):OT P nt o s (fun t=>t=s'):=by
 refine OT.value hp fun M N a w d=>?_
 have hu:P.underlying t=jp (.map B y):=by
  have:=(u t _ G).2.1;rw[F]at this;exact this.1
 obtain⟨b,C,J,S,A,D⟩:=d.1.alloc (.mapIter kw 0 #[] 0) (.b3 .str iI [] [] kw) 0 (fun b g1 g2 g3=> .inl ⟨rfl,rfl,rfl,by rw[g1];exact heap_alloc_new w _⟩);have j:(newObj s (.b3 .str iI [] [] kw)).nx=s.nx+1:=by cases s;rfl
 refine⟨.pointer (jp ⟨w.heap.size,0,kw⟩),_,M,b,?_,A,fg d A D,?_⟩
 .simp only[execOp,ho,Aj d I];simp[Instr.range,run_underlying hu]
 .have:=VR.ptr (M:=M) (N:=b) (U:=(· <s.nx+1)) s.nx 0 (by omega);rw[C]at this;rw[j];exact this
section
variable {Q:AQ} {k:List KI} {all rest:List Oper} {o:Oper} {s':AS}
theorem I5(d:cC P ty){t A j:TypeId}{x:Operand}(hg:o.guard=kw)(ho:o.op= .call ⟨.builtin .len, #[x], #[t]⟩){e:cO}(b:ty t=jp e)(u:e.k= .bb (.map A j))(y:ev s.f x= .iv (.v (.map kw)))
  (hp:putDst nt o (pI 0) s=jp s') (h:GO P nt (.ops all rest::k) Q s'):GO P nt (.ops all (o::rest)::k) Q s:=
 eH hg (IW d ho b u y hp) fun t b=>by subst b;exact h
theorem I4(d:cC P ty){t A j:TypeId}{x:Operand}(hg:o.guard=kw)(ho:o.op= .range t x){e:cO}(b:ty t=jp e)(u:e.k= .bb (.map A j))(y:ev s.f x= .iv (.v (.map kw)))
  (hp:putDst nt o (.ptr s.nx 0) (newObj s (.b3 .str iI [] [] kw))=jp s') (h:GO P nt (.ops all rest::k) Q s'):GO P nt (.ops all (o::rest)::k) Q s:=
 eH hg (Iu d ho b u y hp) fun t b=>by subst b;exact h
end
end
theorem gi.take{sz n:Nat}{es:List (List PV)}:gi (.row sz es) (.row sz (es.take n)):=by
 refine⟨fun h=>?_,fun M N U w i h=>?_⟩
 .cases es with
  |nil=>rw[List.take_nil]at h;exact h
  |cons=>rfl
 .rcases h with h|⟨d,c,T,u,x,y,A,B⟩
  .exact .inl (by rw[h,List.take_nil])
  .refine .inr ⟨d,c,T,u,x,YR (YS _ (by rw[YV];omega)) y,fun k e b=>?_,fun k e j p b C=>?_⟩
   .rw[Zi]at b;split at b
    .exact A k e b
    .cases b
   .rw[Zi]at b;split at b
    .exact B k e j p b C
    .cases b
theorem pe{P:Program}{nt:Nat}{Q:AQ}{k:List KI}{s:AS}{body:Code}{σ:Type}(i0 n:Nat)(j:i0<=n)(I:Nat->σ->AS)(J:Nat->σ->Prop)(u:σ)(y:List Nat)(C:J i0 u)(h0:Wk s.nx y s (I i0 u))
  (b: ∀i x,i<=n->J i x->GO P nt (.code body:: .lp (fun t=>i<n∧ ∃d L,J (i+1) d∧Wk s.nx L t (I (i+1) d))::k) Q (I i x)):GO P nt (.code (.loop body)::k) Q s:=by
 refine ow (σ:={p:Nat×σ//p.1<=n∧J p.1 p.2}) (fun p=>I p.1.1 p.1.2) (fun p=>n-p.1.1) ⟨(i0,u),j,C⟩ y h0 fun p=>?_;obtain⟨⟨i,x⟩,A,B⟩:=p;refine tk ?_ (b i x A B)
 rintro t ⟨h3,d,L,h4,h5⟩;exact⟨⟨(i+1,d),h3,h4⟩,L,by show n-(i+1)<n-i;omega,h5⟩
theorem LQ{P:Program}{nt:Nat}{Q:AQ}{k:List KI}{s:AS}{all rest:List Oper}(d:Nat){p:PV}(j:aG (s.f.get d) p)(h:GO P nt (.ops all rest::k) Q ⟨(d,p)::s.f,s.h,s.nx⟩):GO P nt (.ops all rest::k) Q s:=by
 intro M N a w b;refine h M N a w ⟨b.1,fun e=>?_,b.2.2⟩;rw[AF.aw];split
 .rename_i u;subst u;exact j M N _ _ (b.2.1 e)
 .exact b.2.1 e
theorem uu{P:Program}{ty:Ty}{nt:Nat}{Q:AQ}{k:List KI}{s:AS}(d:cC P ty){all rest:List Oper}{o:Oper}{t:TypeId}{x i:Operand}(p:PV)(ho:o.op= .lookup t x i li)(hg:o.guard=kw)
  {kc:KC} {V:Type} {e:V->IV} {z:V} {j:Value} {m:List (kc.K×V)} (B:ev s.f x= .iv (.fF kc e z j m)) {q:PV} (y:xY ty t li kc e z j m (ev s.f i)=jp (q,True)) (A:q=p)
  {s':AS} (hp:putDst nt o p s=jp s') (h:GO P nt (.ops all rest::k) Q s'):GO P nt (.ops all (o::rest)::k) Q s:=by
 have b:lu ty s o.op=jp (p,True):=by
  rw[ho,<-A];simp only[lu,B];exact y
 exact eH hg (uZ d b ac hp) fun u hu=>by subst hu;exact h
def Ul{σ:Type}(P:Program)(nt:Nat)(k:List KI)(Q:AQ)(n0:Nat)(t:σ->AS):AQ:=fun e u=>(e= .normal∧ ∃i L,Wk n0 L u (t i))∨(e≠ .normal∧kp P nt k Q e u)
theorem go_cut{P:Program}{nt:Nat}{Q:AQ}{k:List KI}{s:AS}{c:Code}{σ:Type}(n:Nat)(t:σ->AS)(y:c=Ta (Bq n c) (xf n c))
  (h1:GO P nt ((Bq n c).map KI.code) (Ul P nt k Q s.nx t) s) (h2: ∀i,GO P nt (.code (xf n c)::k) Q (t i)):GO P nt (.code c::k) Q s:=by
 intro M N a w hf;rw[y];have key: ∀(l:List Code) (u:AS) B D G A,Ext M N (· <s.nx) s.h w B D (· <u.nx) u.h A->Fits B D u nt G A->
   kp P nt (l.map KI.code) (Ul P nt k Q s.nx t) .normal u->(Ta l (xf n c)).wp P (pK nt M N s w (kp P nt k Q)) G A:=by
  intro l
  induction l with
  |nil=>
   intro u B D G A I x Y;rcases Y with⟨_,i,L,hw⟩|⟨S,_⟩
   .exact AW.then (h2 i) (hw.fits x) fun e a2 w2 C F J j b d=>⟨C,F,J,(hw.ext I).trans j,b,d⟩
   .exact absurd Z S
  |cons c l ih=>
   intro u B D G A I x Y;refine wp_seq (AW.then Y x fun e a2 w2 C F J j b d=>?_);cases e with
   |normal=>exact ih J C F a2 w2 (I.trans j) b d
   |_=>
    rcases Hh (l:=l) (by simp) d with⟨S,_⟩|⟨_,hq⟩
    .cases S
    .exact⟨C,F,J,I.trans j,b,hq⟩
 exact key _ s M N a w (.refl _ _ _ _ _) hf h1
theorem eL{P:Program}{nt:Nat}{k:List KI}{Q:AQ}{n0:Nat}{σ:Type}{t:σ->AS}{u:AS}(i:σ)(L:List Nat)(h:Wk n0 L u (t i)):Ul P nt k Q n0 t .normal u:= .inl ⟨rfl,i,L,h⟩
section
variable {P:Program} {ty:Ty} {nt:Nat} {Q:AQ} {k:List KI} {s:AS}
theorem bB(d:cC P ty){all rest:List Oper}{o:Oper}{t:TypeId}{a:Operand}(ho:o.op= .load t a)(hg:o.guard=kw){e:cO}(he:ty t=jp e){i sz q off:Nat}{es:List (List PV)}{row:List PV}{v:PV}
  (ha:ev s.f a= .dJ i sz q off) (hi:s.h.get i=jp (.row sz es)) (j:es[q]? =jp row) (hr:kB e (row.drop off)=jp v)
  {s':AS} (hp:putDst nt o v s=jp s') (h:GO P nt (.ops all rest::k) Q s'):GO P nt (.ops all (o::rest)::k) Q s:=by
 have hb:behind s.h (.dJ i sz q off)=jp (row.drop off):=by
  simp only[behind,hi,j,Nat.beq_refl]
 have b:lu ty s o.op=jp (v,True):=by
  rw[ho];simp only[lu,he,ha,hb,hr]
 exact eH hg (uZ d b ac hp) fun u hu=>by subst hu;exact h
theorem fm{α:Type}[Inhabited α]{l:List α}{f:α->List IV}{i:Nat}(h:i<l.length):(l.map fun x=>(f x).map PV.iv)[0+i]? =jp ((f (l.getD i io)).map .iv):=by
 rw[YC,Yo,Yi h,Ye,Yi h];rfl
end
def Nm.one(b e:Nat):Nm:=⟨fun _=>b,fun _=>e⟩
inductive SB:Type 1 where
 |obj (o:AO) (e:Nat)
 |out (i e:Nat)
abbrev bc:=Nat->Option SB
def bc.nil:bc:=fun _=>kw
def bc.put(X:bc)(b:Nat)(x:SB):bc:=fun c=>if c=b then jp x else X c
def bc.still(X:bc):Prop:= ∀b i e,X b≠jp (.out i e)
theorem bc.dB(X:bc)(b:Nat)(x:SB):X.put b x b=jp x:=by simp[bc.put]
theorem bc.lx(X:bc){b c:Nat}(x:SB)(h:c≠b):X.put b x c=X c:=by simp[bc.put,h]
theorem bc.G3(X:bc)(b:Nat)(x y:SB):(X.put b x).put b y=X.put b y:=by
 funext c;simp only[bc.put];split<;>rfl
structure dW (M:Mem) (N:Nm) (n:Nat) (h:AH) (X:bc) (w:World):Prop where
 real: ∀b o e,X b=jp (.obj o e)->o.real=lc
 obj: ∀b o e,X b=jp (.obj o e)->OR M (Nm.one b e) (fun _=>False) w 0 o
 dT: ∀b o e,X b=jp (.obj o e)->M b=kw
 apart: ∀b o e,X b=jp (.obj o e)-> ∀i p,h.get i=jp p->p.real=lc->N.aI i≠b
 out: ∀b i e,X b=jp (.out i e)->i<n∧N.aI i=b∧N.ext i=e
def AO.all(G:PV->Prop):AO->Prop
 | .cells cs _=> ∀p∈cs,G p
 | .row _ es=> ∀e∈es,∀p∈e,G p
 |_=>True
theorem AO.all_true(o:AO):o.all fun _=>True:=by cases o<;>simp[AO.all]
theorem OR.move{M I:Mem}{N B:Nm}{U Y:Nat->Prop}{w F:World}{i D:Nat}{o:AO}{G:PV->Prop}(hM:M.le I)(hG:o.all G)(hV: ∀p x,G p->VR M N U p x->VR I B Y p x)
  (hb:B.aI D=N.aI i) (he:B.ext D=N.ext i) (hw:F.heap[N.aI i]? =w.heap[N.aI i]?) (h:OR M N U w i o):OR I B Y F D o:=by
 cases o with
 |cells cs T0=>
  obtain⟨c,T,d,u,y,A,S⟩:=h;exact⟨c,T,by rw[hb,hw,d],by rw[he,u],y,fun j p C=>hV _ _ (hG p (YL C)) (A j p C),S⟩
 |row sz es=>
  rcases h with h|⟨h0,c,T,d,u,y,A,S⟩
  .exact .inl h
  exact .inr ⟨h0,c,T,by rw[hb,hw,d],by rw[he,u],y,A,fun k e j p hk C=>hV _ _ (hG e (YL hk) p (YL C)) (S k e j p hk C)⟩
 |bM l T=>
  rcases h with h|⟨c,d,u,y,A⟩
  .exact .inl h
  exact .inr ⟨c,by rw[hb,hw,d],by rw[he,u],y,A⟩
 |gn=>show F.heap[B.aI D]? =_;rw[hb,hw];exact h
 |map kc ev z zv dv m=>
  obtain⟨e,J,d,u,y⟩:=h;exact⟨e,J,by rw[hb,hw,d],u.mono hM,y.mono hM⟩
 |b3 kc ev m l cu=>
  rcases h with⟨d,u,y,A⟩|⟨b,e,J,se,d,u,y,A⟩
  .exact .inl ⟨d,u,y,by rw[hb,hw,A]⟩
  .exact .inr ⟨b,e,J,se,by rw[hb,hw,d],hM _ _ u,y.mono hM,A⟩
 |eT s p=>show F.heap[B.aI D]? =_;rw[hb,hw];exact h
theorem VR.G6{M b:Mem}{N d:Nm}{j:Nat->Prop}(hM:M.le b){p:PV}{x:Value}(h:VR M N (fun _=>False) p x):VR b d j p x:=
 h.mono hM ⟨fun _ h=>h.elim,fun _ h=>h.elim⟩ (fun _ h=>h.elim)
def PV.flat:PV->Prop
 | .iv _=>True
 | .kb _=>True
 | .any=>True
 |_=>False
theorem VR.Oy{M:Mem}{N d:Nm}{U j:Nat->Prop}{p:PV}{x:Value}(hp:p.flat)(h:VR M N U p x):VR M d j p x:=by
 cases h with
 |iv x y h=>exact .iv _ _ h
 |kb b=>exact .kb _
 |any x=>exact .any _
 |_=>exact hp.elim
def Ws(N:Nm)(h:AH)(X:bc)(b:Nat):Prop:=(∃i o,h.get i=jp o∧o.real=lc∧N.aI i=b)∨ ∃o e,X b=jp (.obj o e)
structure jy (M:Mem) (N:Nm) (n:Nat) (h:AH) (X:bc) (w:World) (M':Mem) (N':Nm) (n':Nat) (h':AH) (X':bc) (w':World):Prop where
 os:w'.os=w.os
 tape:w'.tape=w.tape
 output:w'.output=w.output
 size:w.heap.size<=w'.heap.size
 jO: ∀b,b<w.heap.size-> ¬Ws N h X b->w'.heap[b]? =w.heap[b]?
 r6:M.le M'
 kn: ∀b c,M b=kw->M' b=jp c->w.heap.size<=b∨Ws N h X b
 nm:N.agree N' (· <n)
 ule:n<=n'
 jq: ∀b,Ws N' h' X' b->w.heap.size<=b∨Ws N h X b
theorem jy.refl(M:Mem)(N:Nm)(n:Nat)(h:AH)(X:bc)(w:World):jy M N n h X w M N n h X w:=
 ⟨rfl,rfl,rfl,Ym _,fun _ _ _=>rfl,.refl _,fun b c d j=>by simp[d]at j,.refl _ _,Ym _,fun _ h=> .inr h⟩
theorem jy.trans{M u x:Mem}{N y A:Nm}{n n1 n2:Nat}{h h1 h2:AH}{X B C:bc}{w F G:World}
  (a:jy M N n h X w u y n1 h1 B F) (b:jy u y n1 h1 B F x A n2 h2 C G):jy M N n h X w x A n2 h2 C G where
 os:=b.os.trans a.os
 tape:=b.tape.trans a.tape
 output:=b.output.trans a.output
 size:=YR a.size b.size
 jO:=fun k j D=>by
  rw[b.jO k (aao j a.size) (fun J=>?_),a.jO k j D];rcases a.jq k J with h3|h3
  .omega
  .exact D h3
 r6:=a.r6.trans b.r6
 kn:=fun k c h3 I=>by
  cases h5:u k with
  |some c'=>exact a.kn k c' h3 h5
  |none=>
   rcases b.kn k c h5 I with h6|h6
   .exact .inl (YR a.size h6)
   .exact a.jq k h6
 nm:=⟨fun i d=>(b.nm.aI i (aao d a.ule)).trans (a.nm.aI i d),fun i d=>(b.nm.ext i (aao d a.ule)).trans (a.nm.ext i d)⟩
 ule:=YR a.ule b.ule
 jq:=fun k j=>by
  rcases b.jq k j with h3|h3
  .exact .inl (YR a.size h3)
  .exact a.jq k h3
theorem jy.frame{M J:Mem}{N S:Nm}{n I:Nat}{h Y:AH}{X:bc}{w w':World}(x:Ext M N (· <n) h w J S (· <I) Y w')(hs:dW M N n h X w):
  jy M N n h X w J S I Y X w'∧dW J S I Y X w':=by
 have C: ∀b o e,X b=jp (.obj o e)->b<w.heap.size:=fun b o e hb=>(hs.obj b o e hb).lt (hs.real b o e hb);have A:n<=I:=aap fun hh=>absurd (x.ule I hh) (abc _);refine⟨⟨x.os,x.tape,x.output,x.size,fun b hb hn=>x.jO b hb fun i o hi D he=>hn (.inl ⟨i,o,hi,D,he⟩),x.r6,fun b c F h2=>?_,x.nm,A,fun b hb=>?_⟩,hs.real,fun b o e hb=>?_,fun b o e hb=>?_,fun b o e hb i p hi D a0=>?_,fun b i e hb=>?_⟩
 .rcases x.kn b c F h2 with d|⟨i,o,d,B,u⟩
  .exact .inl d
  .exact .inr (.inl ⟨i,o,d,B,u⟩)
 .rcases hb with⟨i,o,d,B,u⟩|hb
  .rcases x.jq i o d B with h6|⟨j,p,h6,h7,h8⟩
   .exact .inl (u▸h6)
   .exact .inr (.inl ⟨j,p,h6,h7,h8.trans u⟩)
  .exact .inr (.inr hb)
 .refine OR.move (G:=fun _=>True) x.r6 (AO.all_true o) (fun p y _ hv=>hv.G6 x.r6) Z Z ?_ (hs.obj b o e hb);exact x.jO b (C b o e hb) (hs.apart b o e hb)
 .cases hM:J b with
  |none=>rfl
  |some c=>
   rcases x.kn b c (hs.dT b o e hb) hM with d|⟨i,p,d,B,u⟩
   .have:=C b o e hb;omega
   .exact absurd u (hs.apart b o e hb i p d B)
 .rcases x.jq i p hi D with d|⟨j,q,d,B,u⟩
  .have:=C b o e hb;omega
  .exact hs.apart b o e hb j q d B (u.trans a0)
 .obtain⟨F,h2,d⟩:=hs.out b i e hb;exact⟨aao F A,(x.nm.aI i F).trans h2,(x.nm.ext i F).trans d⟩
theorem jy.S2{M B:Mem}{N C:Nm}{n F:Nat}{h D:AH}{I:bc}{w G:World}(x:jy M N n h bc.nil w B C F D I G):Ext M N (· <n) h w B C (· <F) D G:=by
 have d: ∀b,Ws N h bc.nil b-> ∃i o,h.get i=jp o∧o.real=lc∧N.aI i=b:=fun b hb=>by
  rcases hb with hb|⟨o,e,hb⟩
  .exact hb
  .cases hb
 refine⟨x.os,x.tape,x.output,x.size,fun b hb S=>x.jO b hb fun Y=>?_,x.r6,fun b c j u=>?_,x.nm,fun i y=>aao y x.ule,fun i o y A=>?_⟩
 .obtain⟨i,o,j,u,J⟩:=d b Y;exact S i o j u J
 .exact(x.kn b c j u).imp id (d b)
 .exact(x.jq _ (.inl ⟨i,o,y,A,rfl⟩)).imp id (d _)
theorem dW.nil(M:Mem)(N:Nm)(n:Nat)(h:AH)(w:World):dW M N n h bc.nil w:=⟨nofun,nofun,nofun,nofun,nofun⟩
abbrev XQ:=Exit->AS->bc->Prop
def qX(nt:Nat)(M:Mem)(N:Nm)(s:AS)(X:bc)(w:World)(R:XQ):Exit->Act->World->Prop:=fun e x u=>
 ∃b d s' j,jy M N s.nx s.h X w b d s'.nx s'.h j u∧Fits b d s' nt x u∧dW b d s'.nx s'.h j u∧R e s' j
theorem qX.later{nt:Nat}{M b:Mem}{N d:Nm}{s s':AS}{X j:bc}{w u:World}{R:XQ}{e:Exit}{a:Act}{y:World}
  (x:jy M N s.nx s.h X w b d s'.nx s'.h j u) (h:qX nt b d s' j u R e a y):qX nt M N s X w R e a y:=by
 obtain⟨A,B,G,C,D,F⟩:=h;exact⟨A,B,G,C,x.trans D,F⟩
theorem qX.now{nt:Nat}{M:Mem}{N:Nm}{s:AS}{X:bc}{w:World}{R:XQ}{e:Exit}{a:Act}(hf:Fits M N s nt a w)(hs:dW M N s.nx s.h X w)(h:R e s X):qX nt M N s X w R e a w:=
 ⟨M,N,s,X,.refl _ _ _ _ _ _,hf,hs,h⟩
def AX(P:Program)(nt:Nat)(c:Code)(R:XQ)(s:AS)(X:bc):Prop:= ∀M N a w,Fits M N s nt a w->dW M N s.nx s.h X w->c.wp P (qX nt M N s X w R) a w
def ALX(P:Program)(nt:Nat)(all rest:List Oper)(R:XQ)(s:AS)(X:bc):Prop:= ∀M N a w,Fits M N s nt a w->dW M N s.nx s.h X w->wpList P all.toArray (qX nt M N s X w R) rest a w
def SLX(P:Program)(nt:Nat)(all rest:List Oper)(R:XQ)(s:AS)(X:bc):Prop:= ∀M N a w,Fits M N s nt a w->dW M N s.nx s.h X w->
 wpStill P all.toArray w (fun b=>qX nt M N s X w R .normal b w) rest a
inductive XI where
 |wz (all rest:List Oper)
 |code (c:Code)
 |aI (id:Nat)
 |ops (all rest:List Oper)
 |lp (R:AS->bc->Prop)
 |JA
def kx(P:Program)(nt:Nat):List XI->XQ->XQ
 | [],Q=>Q
 | .code c::k,Q=>fun e s X=>match e with| .normal=>AX P nt c (kx P nt k Q) s X|e=>kx P nt k Q e s X
 | .ops all rest::k,Q=>fun e s X=>match e with| .normal=>ALX P nt all rest (kx P nt k Q) s X|e=>kx P nt k Q e s X
 | .wz all rest::k,Q=>fun e s X=>match e with| .normal=>SLX P nt all rest (kx P nt k Q) s X|e=>kx P nt k Q e s X
 | .lp R::k,Q=>fun e s X=>match e with| .normal=>R s X|e=>kx P nt k Q e s X
 | .aI id::k,Q=>fun e s X=>match e with| .exit j=>if j=id then kx P nt k Q .normal s X else kx P nt k Q (.exit j) s X|e=>kx P nt k Q e s X
 | .JA::k,Q=>fun e s X=>match e with| .goto _=>False|e=>kx P nt k Q e s X
def GX(P:Program)(nt:Nat)(k:List XI)(Q:XQ)(s:AS)(X:bc):Prop:=kx P nt k Q .normal s X
section
variable {P:Program} {nt:Nat} {Q:XQ} {k:List XI} {s:AS} {X:bc}
theorem AX.then{c:Code}{R:XQ}(h:AX P nt c R s X){M:Mem}{N:Nm}{a:Act}{w:World}(hf:Fits M N s nt a w)(hs:dW M N s.nx s.h X w){Z:Exit->Act->World->Prop}
  (y: ∀e x b d j s' u,jy M N s.nx s.h X w d j s'.nx s'.h u b->Fits d j s' nt x b->dW d j s'.nx s'.h u b->R e s' u->Z e x b):c.wp P Z a w:=
 wp_mono (h M N a w hf hs) fun e x b ⟨d,j,s',u,h1,h2,h3,h4⟩=>y e x b d j s' u h1 h2 h3 h4
theorem Hq{d:AQ}{k0:List KI}{c:Code}(h:GX P nt [.code c] (fun e t _=>kp P nt k0 d e t) s bc.nil):GO P nt (.code c::k0) d s:=by
 intro M N a w x;exact AX.then h x (.nil ..) fun e C D j u s' B A b _ y=>⟨j,u,s',A.S2,b,y⟩
theorem b7{c:Code}(h:GO P nt [.code c] (fun e u=>kx P nt k Q e u X) s):GX P nt (.code c::k) Q s X:=by
 intro M N a w A C;refine AW.then h A fun e F G d j s' D b B=>?_;obtain⟨x,y⟩:=jy.frame D C;exact⟨d,j,s',X,x,b,y,B⟩
theorem aH{x y:Code}(h:GX P nt (.code x:: .code y::k) Q s X):GX P nt (.code (.seq x y)::k) Q s X:=by
 intro M N a w hf hs;refine wp_seq (AX.then h hf hs fun e a' w' F I s' S D b d C=>?_);cases e with
 |normal=>exact AX.then C b d fun e a2 w2 G J s2 Y B j A u=>⟨G,J,s2,Y,D.trans B,j,A,u⟩
 |_=>exact⟨F,I,s',S,D,b,d,C⟩
theorem fo(h:GX P nt k Q s X):GX P nt (.code .skip::k) Q s X:=fun _ _ _ _ b d=>wp_skip (.now b d h)
theorem iE{id:Nat}(h:kx P nt k Q (.exit id) s X):GX P nt (.code (.exit id)::k) Q s X:=fun _ _ _ _ b d=>wp_exit (.now b d h)
theorem lA{id:Nat}(h:GX P nt k Q s X):GX P nt (.aI id::k) Q s X:=h
theorem bV{id:Nat}{x:Code}(h:GX P nt (.code x:: .aI id::k) Q s X):GX P nt (.code (.block id x)::k) Q s X:=by
 intro M N a w F G;refine wp_block (AX.then h F G fun e I J y A s' B D b d u=>?_);cases e with
 |exit j=>
  simp only[kx]at u;simp only[Exit.inBlock];split
  .rename_i C;rw[am C]at u;exact⟨y,A,s',B,D,b,d,u⟩
  .rename_i C;rw[be C]at u;exact⟨y,A,s',B,D,b,d,u⟩
 |_=>exact⟨y,A,s',B,D,b,d,u⟩
theorem iD{id:Nat}{ops:Array Oper}(h:GX P nt (.ops ops.toList ops.toList::k) Q s X):GX P nt (.code (.region id ops li)::k) Q s X:=by
 intro M N a w b d;refine wp_region_list ?_;have:=h M N a w b d;simpa using this
theorem ff{all:List Oper}(h:GX P nt k Q s X):GX P nt (.ops all []::k) Q s X:=fun _ _ _ _ b d=>wpList_nil (qX.now b d h)
theorem FX{c:Operand}{x y:Code}{t:Bool}(hc:ev s.f c= .kb t)(h:GX P nt (.code (bif t then x else y)::k) Q s X):GX P nt (.code (.cond c x y)::k) Q s X:=by
 intro M N a w b d;have hb:a.eval c= .bool t:=by
  have:=bf b.2.1 c;rw[hc]at this;generalize a.eval c=v at this;cases this;rfl
 refine wp_cond hb ?_;cases t
 .exact h M N a w b d
 .exact h M N a w b d
theorem eV{c:Operand}{x y:Code}{t:Bool}(hc:ev s.f c= .iv (.v (.bool t)))(h1:t=lc->GX P nt (.code x::k) Q s X)(h2:t=li->GX P nt (.code y::k) Q s X):
  GX P nt (.code (.cond c x y)::k) Q s X:=by
 intro M N a w b j;refine wp_cond_split (b.bool hc) (fun d=>?_) (fun d=>?_)
 .exact h1 d M N a w b j
 .exact h2 d M N a w b j
theorem BM{o:Oper}{a:Act}{w:World}{K K':Act->World->Prop}{Q d:Exit->Act->World->Prop}(h: ∀a w,K a w->K' a w)(j: ∀e a w,e≠ .normal->Q e a w->d e a w)(hh:o.wp P a w K Q):o.wp P a w K' d:=by
 have u:LetsOut Q->LetsOut d:=fun⟨a,w,x⟩=>⟨a,w,j _ _ _ (by simp) x⟩
 unfold Oper.wp at*
 generalize(execOp a.eval o).run P w=r at*
 cases r with
 |ok n w'=>
  cases n<;>simp only[Oper.upon]at hh ⊢ <;>
   first
    |exact h _ _ hh
    |exact Calls.mono hh (fun e y b=>by cases e<;>first|exact h _ _ b|exact u b|exact j _ _ _ (by simp) b)
    |exact Rows.mono hh (fun _ _ b=>h _ _ b)
 |halt x w'=>cases x<;>simp only[Oper.upon]at hh ⊢ <;>exact j _ _ _ (by simp) hh
theorem sx{ops:Array Oper}{j u:Exit->Act->World->Prop}(d:List Oper)(h2: ∀a w,j .normal a w->wpList P ops u d a w)(b: ∀e a w,e≠ .normal->j e a w->u e a w): ∀(l:List Oper) (a:Act) (w:World),wpList P ops j l a w->wpList P ops u (l++d) a w
 | [],a,w,h=>h2 _ _ h
 |o::r,a,w,h=>by
  rw[ZO];rw[wpList]at h ⊢;split
  .rename_i x;rw[am x]at h;exact h.imp (BM (sx d h2 b r) b) (fun⟨h3,a1,w1,h4⟩=>⟨h3,a1,w1,b _ _ _ (by simp) h4⟩)
  .rename_i x;rw[be x]at h;exact sx d h2 b r _ _ h
theorem I2{all G d:List Oper}(h:GO P nt [.ops all G] (fun e u=>kx P nt (.ops all d::k) Q e u X) s):GX P nt (.ops all (G++d)::k) Q s X:=by
 intro M N a w Y J;refine sx d (fun y I C=>?_) (fun e y I S C=>?_) G a w (h M N a w Y)
 .obtain⟨j,x,s',F,b,D⟩:=C;obtain⟨A,B⟩:=jy.frame F J;have:=D j x y I b B;exact jz (fun _ _ _=>qX.later A) d y I this
 .obtain⟨j,x,s',F,b,D⟩:=C;obtain⟨A,B⟩:=jy.frame F J;refine⟨j,x,s',X,A,b,B,?_⟩;cases e with
  |normal=>exact absurd Z S
  |_=>exact D
theorem dW.drew{M:Mem}{N:Nm}{n:Nat}{h:AH}{X:bc}{w:World}(hs:dW M N n h X w):dW M N n h X {w with drawn:=w.drawn+1}:=
 ⟨hs.real,fun b o e hb=>OR.move (G:=fun _=>True) (.refl _) (AO.all_true o) (fun _ _ _ d=>d) Z Z Z (hs.obj b o e hb),hs.dT,hs.apart,hs.out⟩
theorem jy.drew{M:Mem}{N:Nm}{n:Nat}{h:AH}{X:bc}{w:World}:jy M N n h X w M N n h X {w with drawn:=w.drawn+1}:=
 ⟨rfl,rfl,rfl,Ym _,fun _ _ _=>rfl,.refl _,fun b c d j=>by simp[d]at j,.refl _ _,Ym _,fun _ h=> .inr h⟩
theorem bC{all rest:List Oper}(m:Nat)(h:GO P nt [.ops all (rest.take m)] (fun e u=>kx P nt (.ops all (rest.drop m)::k) Q e u X) s):GX P nt (.ops all rest::k) Q s X:=by
 have:=I2 h;rwa[List.take_append_drop]at this
def SX(nt:Nat)(s:AS)(X:bc)(T:AS->bc->Prop):Prop:= ∀M N a w,Fits M N s nt a w->dW M N s.nx s.h X w->
 ∃b d t Y,jy M N s.nx s.h X w b d t.nx t.h Y w∧Fits b d t nt a w∧dW b d t.nx t.h Y w∧T t Y
theorem D9{c:Code}{T:AS->bc->Prop}(h:SX nt s X T)(I: ∀t Y,T t Y->GX P nt (.code c::k) Q t Y):GX P nt (.code c::k) Q s X:=by
 intro M N a w G J;obtain⟨M',N',t,Y,B,C,D,F⟩:=h M N a w G J;exact AX.then (I t Y F) C D fun e a2 w2 x y S A u b j d=>⟨x,y,S,A,B.trans u,b,j,d⟩
theorem eK{all rest:List Oper}{T:AS->bc->Prop}(h:SX nt s X T)(B: ∀t Y,T t Y->GX P nt (.ops all rest::k) Q t Y):GX P nt (.ops all rest::k) Q s X:=by
 intro M N a w A C;obtain⟨b,d,t,Y,j,u,x,y⟩:=h M N a w A C;exact jz (fun _ _ _=>qX.later j) rest a w (B t Y y b d a w u x)
theorem RS{L:List Nat}{t:AS}(hw:Wk s.nx L s t):SX nt s X (fun x Y=>x=t∧Y=X):=by
 intro M N a w j u;obtain⟨b,d⟩:=jy.frame (hw.ext (.refl M N (· <s.nx) s.h w)) u;exact⟨M,_,t,X,b,hw.fits j,d,rfl,rfl⟩
theorem VF{body:Code}{σ:Type 1}(I:σ->AS)(J:σ->bc)(μ:σ->Nat)(i0:σ)(L0:List Nat)(h0:Wk s.nx L0 s (I i0))(y:J i0=X)(j0: ∀i,(J i).still)
  (A: ∀i,GX P nt (.code body:: .lp (fun t Y=> ∃j L,μ j<μ i∧Wk s.nx L t (I j)∧Y=J j)::k) Q (I i) (J i)):GX P nt (.code (.loop body)::k) Q s X:=by
 intro F G a0 w0 d0 g0
 let K:Act->World->Nat->Prop:=fun a w n=> ∃i M N,μ i=n∧jy F G s.nx s.h X w0 M N (I i).nx (I i).h (J i) w∧Fits M N (I i) nt a w∧dW M N (I i).nx (I i).h (J i) w
 have c0:K a0 w0 (μ i0):=by
  obtain⟨h1,h2⟩:=jy.frame (h0.ext (.refl F G (· <s.nx) s.h w0)) g0;exact⟨i0,F,G.comp (sg s.nx L0),rfl,by rw[y];exact h1,h0.fits d0,by rw[y];exact h2⟩
 refine wp_loop (fun a w=> ∃n,K a w n) (fun a w=>by classical exact if h: ∃n,K a w n then aaJ (dI h) else 0) ⟨_,c0⟩ fun a w b0=>?_;obtain⟨⟨i,M,N,x,hx,hf,hs⟩,e0⟩:=aan (dI b0);refine AX.then (A i) hf hs fun e S w' M' N' s' X' C B u hr=>?_
 cases e with
 |normal=>
  obtain⟨j,L,hj,D,hY⟩:=hr
  have y:K S w' (μ j):=⟨j,M',N'.comp (sg s.nx L),rfl,by
   have d:=hx.trans C;rw[hY]at d u;refine⟨d.os,d.tape,d.output,d.size,d.jO,d.r6,d.kn,⟨fun i x=>?_,fun i x=>?_⟩,by have:=D.nx;omega,fun b hb=>d.jq b ?_⟩
   .simp only[Nm.comp,gr x];exact d.nm.aI i x
   .simp only[Nm.comp,gr x];exact d.nm.ext i x
   .rcases hb with⟨i,o,h3,h4,h5⟩|hb
    .obtain⟨⟨o',g1,g2⟩,_⟩:=kM D.h i o h3;exact .inl ⟨_,o',g1,g2.real ((AO.cS _ o).trans h4),h5⟩
    .exact .inr hb,D.fits B,by
   rw[hY]at u;refine⟨u.real,u.obj,u.dT,fun b o e hb i p x f0=>?_,fun b i e hb=>?_⟩
   .obtain⟨⟨o',g1,g2⟩,_⟩:=kM D.h i p x;exact u.apart b o e hb _ o' g1 (g2.real ((AO.cS _ p).trans f0))
   .exact absurd hb (j0 j b i e)⟩
  refine⟨⟨_,y⟩,?_⟩;simp only[dif_pos b0,dif_pos (⟨_,y⟩: ∃n,K S w' n)];rw[<-x];exact abC ((aan (dI (⟨_,y⟩: ∃n,K S w' n))).2 _ y) hj
 |_=>exact⟨M',N',s',X',hx.trans C,B,u,hr⟩
theorem J2{b e d:Nat}{o:AO}{p:PV}(hX:X b=jp (.obj o e))(hp: ∀(M:Mem) (N:Nm) (U:Nat->Prop) (x:Value),U s.nx->N.aI s.nx=b->N.ext s.nx=e->VR M N U (s.f.get d) x->VR M N U p x):
  SX nt s X (fun t Y=>t=⟨(d,p)::s.f,(s.nx,jp o)::s.h,s.nx+1⟩∧Y=X.put b (.out s.nx e)):=by
 intro M N a w hf hs;obtain⟨f,h,n⟩:=s
 let N':Nm:=⟨fun j=>if j=n then b else N.aI j,fun j=>if j=n then e else N.ext j⟩
 have A:N.agree N' (· <n):=⟨fun i D=>be (abj D),fun i D=>be (abj D)⟩
 have F:N'.aI n=b:=am Z;have a0:N'.ext n=e:=am Z;have hU: ∀i,i<n->i<n+1:=fun i D=>aag D;have c0:=hs.real b o e hX
 have C: ∀i q,AH.get ((n,jp o)::h) i=jp q->(i=n∧q=o)∨(i<n∧h.get i=jp q):=by
  intro i q D;rw[AH.aw]at D;split at D
  .rename_i b0;exact .inl ⟨b0,by simpa using D.symm⟩
  .exact .inr ⟨hf.1.used i q D,D⟩
 refine⟨M,N',⟨(d,p)::f,(n,jp o)::h,n+1⟩,X.put b (.out n e),⟨rfl,rfl,rfl,Ym _,fun _ _ _=>rfl,.refl _,fun c m I h2=>by simp[I]at h2,A,aaH _,fun c B=> .inr ?_⟩,⟨⟨hf.1.dT,fun i q D=>?_,fun i q D hr=>?_,fun i q D=>?_,fun i j q r D hj hq hr he=>?_⟩,fun k=>?_,hf.2.2⟩,⟨fun c q g B=>?_,fun c q g B=>?_,fun c q g B=>?_,fun c q g B i r D hr=>?_,fun c i g B=>?_⟩,rfl,rfl⟩
 .rcases B with⟨i,q,I,h2,h3⟩|⟨q,g,I⟩
  .rcases C i q I with⟨rfl,rfl⟩|⟨J,S⟩
   .rw[F]at h3;subst h3;exact .inr ⟨_,_,hX⟩
   .exact .inl ⟨i,q,S,h2,by rw[<-h3];exact(A.aI i J).symm⟩
  .by_cases u:c=b
   .subst u;rw[bc.dB]at I;cases I
   .rw[bc.lx _ _ u]at I;exact .inr ⟨q,g,I⟩
 .rcases C i q D with⟨rfl,rfl⟩|⟨J,_⟩
  .exact ZY _
  .exact hU i J
 .rcases C i q D with⟨rfl,rfl⟩|⟨J,S⟩
  .rw[F];exact hs.dT _ _ _ hX
  .rw[A.aI i J];exact hf.1.fk i q S hr
 .rcases C i q D with⟨rfl,rfl⟩|⟨J,S⟩
  .exact OR.move (G:=fun _=>True) (.refl _) (AO.all_true _) (fun p y _ hv=>hv.G6 (.refl _)) F a0 Z (hs.obj b _ e hX)
  .exact(hf.1.obj i q S).mono (.refl _) A hU J Z
 .rcases C i q D with⟨rfl,rfl⟩|⟨J,S⟩<;>rcases C j r hj with⟨h6,rfl⟩|⟨h6,h7⟩
  .exact h6.symm
  .rw[F,A.aI j h6]at he;exact absurd he.symm (hs.apart b _ e hX j r h7 hr)
  .subst h6;rw[F,A.aI i J]at he;exact absurd he (hs.apart b _ e hX i q S hq)
  .rw[A.aI i J,A.aI j h6]at he;exact hf.1.inj i j q r S h7 hq hr he
 .rw[AF.aw];split
  .rename_i hk;subst hk;exact hp M N' _ _ (ZY _) F a0 ((hf.2.1 k).mono (.refl _) A hU)
  .exact(hf.2.1 k).mono (.refl _) A hU
 all_goals by_cases u:c=b
 .subst u;rw[bc.dB]at B;cases B
 .rw[bc.lx _ _ u]at B;exact hs.real c q g B
 .subst u;rw[bc.dB]at B;cases B
 .rw[bc.lx _ _ u]at B;exact hs.obj c q g B
 .subst u;rw[bc.dB]at B;cases B
 .rw[bc.lx _ _ u]at B;exact hs.dT c q g B
 .subst u;rw[bc.dB]at B;cases B
 .rw[bc.lx _ _ u]at B;rcases C i r D with⟨rfl,rfl⟩|⟨J,S⟩
  .rw[F];exact fun e=>u e.symm
  .rw[A.aI i J];exact hs.apart c q g B i r S hr
 .subst u;rw[bc.dB]at B;cases B;exact⟨ZY _,F,a0⟩
 .rw[bc.lx _ _ u]at B;obtain⟨I,h2,h3⟩:=hs.out c i g B;exact⟨hU i I,(A.aI i I).trans h2,(A.ext i I).trans h3⟩
theorem kv{b e d len cap sz:Nat}{o:AO}(hX:X b=jp (.obj o e))(hd:s.f.get d= .iv (.v (.slice (jp ⟨b,0,kw⟩) len cap)))(h0:0<len)(u:len<=cap)(hc:cap<=maxLen)(he:cap*sz=e):
  SX nt s X (fun t Y=>t=⟨(d,.sl s.nx 0 len sz)::s.f,(s.nx,jp o)::s.h,s.nx+1⟩∧Y=X.put b (.out s.nx e)):=
 J2 hX fun M N U x hu hb hE j=>by
  rw[hd]at j;cases j with
  |iv _ _ hi=>cases hi with
   |v=>
    have:=VR.sl (M:=M) (N:=N) s.nx 0 len sz cap hu h0 u hc (by rw[hE,YC];exact he);rw[hb,aas]at this;exact this
theorem Ib{b e d:Nat}{o:AO}(hX:X b=jp (.obj o e))(hd:s.f.get d= .iv (.v (.map (jp b)))):
  SX nt s X (fun t Y=>t=⟨(d,.mp s.nx)::s.f,(s.nx,jp o)::s.h,s.nx+1⟩∧Y=X.put b (.out s.nx e)):=
 J2 hX fun M N U x hu hb hE j=>by
  rw[hd]at j;cases j with
  |iv _ _ hi=>cases hi with
   |v=>
    have:=VR.mp (M:=M) (N:=N) s.nx hu;rw[hb]at this;exact this
theorem Rel.drop{M:Mem}{N:Nm}{n:Nat}{h:AH}{w:World}(hr:Rel M N (· <n) h w)(i:Nat):Rel M N (· <n) ((i,kw)::h) w:=
 ⟨hr.dT,fun j o b=>hr.used j o (bD j o b).2,fun j o b d=>hr.fk j o (bD j o b).2 d,fun j o b=>hr.obj j o (bD j o b).2,fun j l o p b x y A u=>hr.inj j l o p (bD j o b).2 (bD l p x).2 y A u⟩
theorem GC{M:Mem}{N:Nm}{n:Nat}{h:AH}{w:World}(hr:Rel M N (· <n) h w)(hs:dW M N n h X w){i:Nat}{o:AO}(hi:h.get i=jp o)(y:o.real=lc)(D:o.all PV.flat):
  jy M N n h X w M N n ((i,kw)::h) (X.put (N.aI i) (.obj o (N.ext i))) w∧dW M N n ((i,kw)::h) (X.put (N.aI i) (.obj o (N.ext i))) w:=by
 refine⟨⟨rfl,rfl,rfl,Ym _,fun _ _ _=>rfl,.refl _,fun b c A B=>by simp[A]at B,.refl _ _,Ym _,fun c u=> .inr ?_⟩,fun c q g u=>?_,fun c q g u=>?_,fun c q g u=>?_,fun c q g u j r F C=>?_,fun c j g u=>?_⟩
 .rcases u with⟨j,q,A,B,I⟩|⟨q,g,A⟩
  .exact .inl ⟨j,q,(bD j q A).2,B,I⟩
  .by_cases d:c=N.aI i
   .exact .inl ⟨i,o,hi,y,d.symm⟩
   .rw[bc.lx _ _ d]at A;exact .inr ⟨q,g,A⟩
 all_goals by_cases d:c=N.aI i
 .subst d;rw[bc.dB]at u;cases u;exact y
 .rw[bc.lx _ _ d]at u;exact hs.real c q g u
 .subst d;rw[bc.dB]at u;cases u;exact OR.move (G:=PV.flat) (N:=N) (i:=i) (.refl _) D (fun p x J S=>S.Oy J) Z Z Z (hr.obj i o hi)
 .rw[bc.lx _ _ d]at u;exact hs.obj c q g u
 .subst d;exact hr.fk i o hi y
 .rw[bc.lx _ _ d]at u;exact hs.dT c q g u
 .obtain⟨A,B⟩:=bD j r F;subst d;exact fun e=>A (hr.inj j i r o B hi C y e)
 .rw[bc.lx _ _ d]at u;exact hs.apart c q g u j r (bD j r F).2 C
 .subst d;rw[bc.dB]at u;cases u
 .rw[bc.lx _ _ d]at u;exact hs.out c j g u
theorem xz{b e i:Nat}{o:AO}(hX:X b=jp (.out i e))(hi:s.h.get i=jp o)(u:o.real=lc)(j:o.all PV.flat):
  SX nt s X (fun t Y=>t=⟨s.f,(i,kw)::s.h,s.nx⟩∧Y=X.put b (.obj o e)):=by
 intro M N a w d x;obtain⟨B,rfl,rfl⟩:=x.out b i e hX;obtain⟨y,A⟩:=GC d.1 x hi u j;exact⟨M,N,⟨s.f,(i,kw)::s.h,s.nx⟩,_,y,⟨d.1.drop i,d.2⟩,A,rfl,rfl⟩
theorem J3{i d:Nat}{o:AO}{G:Nat->Nat->PV->Prop}(C:X.still)(hi:s.h.get i=jp o)(A:o.real=lc)(B:o.all PV.flat)
  (hq: ∀(M:Mem) (N:Nm) (U:Nat->Prop) (x:Value),VR M N U (s.f.get d) x-> ∃q,G (N.aI i) (N.ext i) q∧VR M N U q x):
  SX nt s X (fun t Y=> ∃b e q,X b=kw∧G b e q∧t=⟨(d,q)::s.f,(i,kw)::s.h,s.nx⟩∧Y=X.put b (.obj o e)):=by
 intro M N a w u D;obtain⟨F,I⟩:=GC u.1 D hi A B;obtain⟨q,J,S⟩:=hq M N _ _ (u.2.1 d);refine⟨M,N,⟨(d,q)::s.f,(i,kw)::s.h,s.nx⟩,_,F,⟨u.1.drop i,fun k=>?_,u.2.2⟩,I,N.aI i,N.ext i,q,?_,J,rfl,rfl⟩
 .rw[AF.aw];split
  .rename_i hk;subst hk;exact S
  .exact u.2.1 k
 .cases hx:X (N.aI i) with
  |none=>rfl
  |some y=>
   cases y with
   |obj p g=>exact absurd Z (D.apart _ p g hx i o hi A)
   |out j g=>exact absurd hx (C _ _ _)
theorem q9{i d len sz:Nat}{o:AO}(y:X.still)(hi:s.h.get i=jp o)(u:o.real=lc)(j:o.all PV.flat)(hd:s.f.get d= .sl i 0 len sz)(h0:0<len):
  SX nt s X (fun t Y=> ∃b e a0,X b=kw∧len<=a0∧a0<=maxLen∧a0*sz=e∧t=⟨(d,.iv (.v (.slice (jp ⟨b,0,kw⟩) len a0)))::s.f,(i,kw)::s.h,s.nx⟩∧Y=X.put b (.obj o e)):=by
 intro M N a w hf hs
 obtain⟨B,C,t,Y,D,F,I,b,e,q,J,⟨a0,S,h6,h7,rfl⟩,h8,h9⟩:=J3 (G:=fun b e q=> ∃a0,len<=a0∧a0<=maxLen∧a0*sz=e∧q= .iv (.v (.slice (jp ⟨b,0,kw⟩) len a0))) (d:=d) y hi u j (fun M N U x A=>by
  rw[hd]at A;cases A with
  |sl _ _ _ _ a0 hu h0 hl hc he=>exact⟨_,⟨a0,hl,hc,by rw[YC]at he;exact he,rfl⟩,by rw[aas];exact .iv _ _ (.v _)⟩
  |pQ=>exact absurd h0 (abc _)) M N a w hf hs
 exact⟨B,C,t,Y,D,F,I,b,e,a0,J,S,h6,h7,h8,h9⟩
theorem Ic{i d:Nat}{o:AO}(y:X.still)(hi:s.h.get i=jp o)(u:o.real=lc)(j:o.all PV.flat)(hd:s.f.get d= .mp i):
  SX nt s X (fun t Y=> ∃b e,X b=kw∧t=⟨(d,.iv (.v (.map (jp b))))::s.f,(i,kw)::s.h,s.nx⟩∧Y=X.put b (.obj o e)):=by
 intro M N a w hf hs
 obtain⟨B,C,t,Y,D,F,I,b,e,q,J,rfl,S,h9⟩:=J3 (G:=fun b e q=>q= .iv (.v (.map (jp b)))) (d:=d) y hi u j (fun M N U x A=>by
  rw[hd]at A;cases A with
  |mp _ hu=>exact⟨_,rfl,.iv _ _ (.v _)⟩) M N a w hf hs
 exact⟨B,C,t,Y,D,F,I,b,e,J,S,h9⟩
inductive Up (X:bc):Value->IV->Prop
 | row (b len cap sz e:Nat) (es:List (List PV)) (el:Nat->List IV) (hX:X b=jp (.obj (.row sz es) e)) (hn:len=es.length) (hl:len<=cap) (hc:cap<=maxLen) (hel: ∀k e,es[k]? =jp e->e=(el k).map .iv):
   Up X (.slice (jp ⟨b,0,kw⟩) len cap) (.dp sz len el)
 |map {V:Type} (b e:Nat) (kc:KC) (ev:V->IV) (z:V) (zv:Value) (dv:PV->V) (m:List (kc.K×V)) (hX:X b=jp (.obj (.map kc ev z zv dv m) e)):Up X (.map (jp b)) (.fF kc ev z zv m)
 |gn {V:Type} (b e:Nat) (kc:KC) (ev:V->IV) (z:V) (zv:Value) (hX:X b=jp (.obj .gn e)) (hz: ∀M,IR M (ev z) zv):Up X (.map (jp b)) (.fF kc ev z zv [])
 |Vn (y:Value):Up X y (.v y)
 |nil (sz:Nat) (el:Nat->List IV) (a:Option Addr) (cap:Nat):Up X (.slice a 0 cap) (.dp sz 0 el)
theorem Ki{M:Mem}{N:Nm}{n:Nat}{h:AH}{w:World}(hr:Rel M N (· <n) h w)(hs:dW M N n h X w):
  ∃u:Mem,M.le u∧jy M N n h X w u N n h bc.nil w∧Rel u N (· <n) h w∧ ∀y p,Up X y p->IR u p y:=by
 let u:Mem:=⟨fun b=>match X b with
  |some (.obj _ _)=>(match w.heap[b]? with|some (.cells c _ _)=>jp (.cells c)|some (.map es F)=>jp (.map es F)|_=>kw)
  |_=>M.fn b,fun b c hb=>by
   have:=M.P0 b c hb;cases d:X b with
   |none=>simpa using this
   |some y=>cases y with
    |obj o e=>exact absurd (this.symm.trans (hs.dT b o e d)) (by simp)
    |out i e=>simpa using this⟩
 have x: ∀b,(∀o e,X b≠jp (.obj o e))->u b=M b:=fun b hb=>by
  show(match X b with|some (.obj _ _)=>_|_=>M.fn b)=M.fn b;cases d:X b with
  |none=>rfl
  |some y=>cases y with
   |obj o e=>exact absurd d (hb o e)
   |out i e=>rfl
 have C: ∀b o e,X b=jp (.obj o e)->u b=(match w.heap[b]? with|some (.cells c _ _)=>jp (MB.cells c)|some (.map es F)=>jp (MB.map es F)|_=>kw):=fun b o e hb=>by
  show(match X b with|some (.obj _ _)=>_|_=>M.fn b)=_;rw[hb]
 have A:M.le u:=fun b c hb=>by
  rw[x b fun o e d=>absurd (hb.symm.trans (hs.dT b o e d)) (by simp)];exact hb
 refine⟨u,A,⟨rfl,rfl,rfl,Ym _,fun _ _ _=>rfl,A,fun b c J D=>?_,.refl _ _,Ym _,fun c G=> .inr ?_⟩,⟨fun b c hb=>?_,hr.used,fun i o hi b0=>?_,fun i o hi=>(hr.obj i o hi).mono A (.refl _ _) (fun _ h=>h) (hr.used i o hi) Z,hr.inj⟩,fun y p hu=>?_⟩
 .cases d:X b with
  |none=>rw[x b (by simp[d]),J]at D;cases D
  |some y=>cases y with
   |obj o e=>exact .inr (.inr ⟨o,e,d⟩)
   |out i e=>rw[x b (by simp[d]),J]at D;cases D
 .rcases G with G|⟨o,e,G⟩
  .exact .inl G
  .cases G
 .cases d:X b with
  |none=>rw[x b (by simp[d])]at hb;exact hr.dT b c hb
  |some y=>cases y with
   |out i e=>rw[x b (by simp[d])]at hb;exact hr.dT b c hb
   |obj o e=>
    rw[C b o e d]at hb;split at hb
    .rename_i hh;cases hb;exact⟨_,_,hh⟩
    .rename_i hh;cases hb;exact hh
    .cases hb
 .rw[x _ fun q e d=>hs.apart _ q e d i o hi b0 Z];exact hr.fk i o hi b0
 .cases hu with
  |Vn=>exact .v _
  |nil=>exact .lz _ _ _ _
  |gn b e kc ev z zv hX hz=>
   have J:=hs.obj b _ e hX;have D:u b=jp (.map #[] 0):=by rw[C b _ e hX];rw[show w.heap[b]? =jp (.map #[] 0) from J]
   exact .fF _ _ _ _ _ b #[] 0 D Z (by simp) (by simp) (hz u) (by simp) (by simp)
  |map b e kc ev z zv dv m hX=>
   obtain⟨ents,F,J,D,h3⟩:=hs.obj b _ e hX;have h4:u b=jp (.map ents F):=by rw[C b _ e hX];rw[show w.heap[b]? =jp (.map ents F) from J]
   have h5:=D.mono A;exact .fF _ _ _ _ _ b ents F h4 h5.size h5.key h5.val (h3.mono A) h5.inj h5.lt
  |row b len cap sz e es el hX hn hl G hel=>
   rcases hs.obj b _ e hX with h0|⟨h0,c,T,g1,g2,g3,g4,g5⟩
   .have:=hs.real b _ e hX;rw[h0]at this;cases this
   have h4:u b=jp (.cells c):=by rw[C b _ e hX];rw[show w.heap[b]? =jp (.cells c T (0,0)) from g1]
   have B: ∀o,u.cell b o=c[o]? :=fun o=>by simp only[Mem.cell,h4]
   have a0: ∀k,k<len-> ∃e,es[k]? =jp e:=fun k I=>⟨_,Yi (by omega)⟩
   have c0: ∀k j,k<len->j<sz->k*sz+j<c.size:=fun k j I hj=>by
    have:(k+1)*sz<=es.length*sz:=YS _ (by omega);rw[Zz]at this;omega
   refine .dp _ _ _ _ _ _ hl G (fun k I=>?_) (fun k j I hj=>?_) (fun k j p I hp=>?_)
   .obtain⟨e,S⟩:=a0 k I;have:=g4 _ e S;rw[hel _ e S]at this;simpa using this
   .rw[B,YC];simp[c0 k j I hj]
   .obtain⟨e,S⟩:=a0 k I;have h9:=g4 _ e S;have Y:=hel _ e S;have hj:j<sz:=by rw[<-h9,Y,YH];exact(Yj.1 hp).1
    have:=g5 _ e j (.iv p) S (by rw[Y,Yo,hp];rfl);rw[B,YC];rw[Yf]at this;cases this with
    |iv _ _ h=>exact h.mono A
def Up1(X:bc)(p p':PV):Prop:=p'=p∨ ∃y q,p= .iv (.v y)∧p'= .iv q∧Up X y q
inductive Nb (X:bc):AO->AO->Prop
 | row (sz:Nat) (es es':List (List PV)) (hl:es'.length=es.length) (h: ∀(k:Nat) (e':List PV),es'[k]? =jp e'-> ∃e,es[k]? =jp e∧e'.length=e.length∧ ∀(j:Nat) (p':PV),e'[j]? =jp p'-> ∃p,e[j]? =jp p∧Up1 X p p'):
   Nb X (.row sz es) (.row sz es')
 | map {V V':Type} (kc:KC) (ev:V->IV) (z:V) (zv:Value) (dv:PV->V) (m:List (kc.K×V)) (ev':V'->IV) (z':V') (dv':PV->V') (m':List (kc.K×V')) (hl:m'.length=m.length)
   (h: ∀(j:Nat) (x':kc.K×V'),m'[j]? =jp x'-> ∃x y,m[j]? =jp x∧x'.1=x.1∧ev x.2= .v y∧Up X y (ev' x'.2)) (hz: ∀M,IR M (ev' z') zv):Nb X (.map kc ev z zv dv m) (.map kc ev' z' zv dv' m')
theorem Nb.or{M A:Mem}{N:Nm}{U:Nat->Prop}{w:World}{i:Nat}{o o':AO}(I:M.le A)(hu: ∀y p,Up X y p->IR A p y)(h:Nb X o o')(ho:OR M N U w i o):OR A N U w i o':=by
 have hv: ∀p C x,Up1 X p C->VR M N U p x->VR A N U C x:=by
  rintro p C x (rfl|⟨y,q,rfl,rfl,B⟩) hx
  .exact hx.mono I (.refl _ _) (fun _ h=>h)
  .cases hx with
   |iv _ _ hi=>cases hi with
    |v=>exact .iv _ _ (hu _ _ B)
 cases h with
 |row sz es es' hl h=>
  rcases ho with rfl|⟨h0,c,T,g1,g2,g3,g4,g5⟩
  .left;exact ZP.1 hl
  .refine .inr ⟨h0,c,T,g1,g2,by rw[hl];exact g3,fun k D d=>?_,fun k D j C d J=>?_⟩
   .obtain⟨e,b,F,_⟩:=h k D d;rw[F];exact g4 k e b
   .obtain⟨e,b,_,B⟩:=h k D d;obtain⟨p,G,h5⟩:=B j C J;exact hv _ _ _ h5 (g5 k e j p b G)
 |map kc ev z zv dv m ev' z' dv' m' hl h hz=>
  obtain⟨ents,Y,g1,g2,g3⟩:=ho;refine⟨ents,Y,g1,⟨g2.size.trans hl.symm,fun j S u=>?_,fun j S u=>?_,g2.inj,g2.lt⟩,hz A⟩
  .obtain⟨x,y,b,F,_⟩:=h j S u;rw[F];exact g2.key j x b
  .obtain⟨x,y,b,_,B,G⟩:=h j S u;have:=g2.val j x b;rw[B]at this;generalize(ents.getD j io).val=v at this ⊢;cases this with
   |v=>exact hu _ _ G
theorem Nb.real{o o':AO}(h:Nb X o o'):o'.real=o.real:=by
 cases h with
 |row sz es es' hl h=>cases es<;>cases es'<;>first|rfl|simp at hl
 |map=>rfl
theorem Bt{i:Nat}{o o':AO}(hi:s.h.get i=jp o)(hu:Nb X o o'):SX nt s X (fun t Y=>t=⟨s.f,(i,jp o')::s.h,s.nx⟩∧Y=bc.nil):=by
 intro M N a w A hs;obtain⟨G,F,y,B,I⟩:=Ki A.1 hs;have d: ∀j q,AH.get ((i,jp o')::s.h) j=jp q-> ∃x,s.h.get j=jp x∧q.real=x.real∧(q=x∨(j=i∧q=o')):=by
  intro j q u;rw[AH.aw]at u;split at u
  .rename_i C;subst C;cases u;exact⟨o,hi,hu.real,.inr ⟨rfl,rfl⟩⟩
  .exact⟨q,u,rfl,.inl Z⟩
 refine⟨G,N,⟨s.f,(i,jp o')::s.h,s.nx⟩,bc.nil,?_,⟨⟨B.dT,fun j q u=>?_,fun j q u D=>?_,fun j q u=>?_,fun j k q r u S hq D J=>?_⟩,fun k=>(A.2.1 k).mono F (.refl _ _) (fun _ h=>h),A.2.2⟩,.nil ..,rfl,rfl⟩
 .exact⟨y.os,y.tape,y.output,y.size,y.jO,y.r6,y.kn,y.nm,y.ule,fun b hb=> .inr<|by
   rcases hb with⟨j,q,g1,g2,g3⟩|⟨q,g,g1⟩
   .obtain⟨x,g4,g5,_⟩:=d j q g1;exact .inl ⟨j,x,g4,g5▸g2,g3⟩
   .cases g1⟩
 .obtain⟨x,g4,_⟩:=d j q u;exact A.1.used j x g4
 .obtain⟨x,g4,g5,_⟩:=d j q u;exact B.fk j x g4 (g5▸D)
 .obtain⟨x,g4,_,rfl|⟨rfl,rfl⟩⟩:=d j q u
  .exact B.obj j _ g4
  .exact hu.or F I (A.1.obj j o hi)
 .obtain⟨x,g4,g5,_⟩:=d j q u;obtain⟨r',g6,g7,_⟩:=d k r S;exact A.1.inj j k x r' g4 g6 (g5▸hq) (g7▸D) J
end
section
variable {P:Program}
section
variable {nt:Nat} {Q:XQ} {k0:List XI} {s:AS} {X:bc}
theorem Gx{t:AS}(hh:t.h=s.h)(hn:t.nx=s.nx)(h: ∀M N a w,Fits M N s nt a w->dW M N s.nx s.h X w->FR M N (· <s.nx) t.f a.tmps):SX nt s X (fun j Y=>j=t∧Y=X):=by
 intro M N a w b d;obtain⟨f,u,n⟩:=t;simp only at hh hn;subst hh;subst hn;exact⟨M,N,⟨f,s.h,s.nx⟩,X,.refl _ _ _ _ _ _,⟨b.1,h M N a w b d,b.2.2⟩,d,rfl,rfl⟩
theorem RT{d:Nat}{p:PV}(b:aG (s.f.get d) p):SX nt s X (fun t Y=>t=⟨(d,p)::s.f,s.h,s.nx⟩∧Y=X):=
 Gx Z Z fun M N a w j _ k=>by
  rw[AF.aw];split
  .rename_i u;subst u;exact b M N _ _ (j.2.1 k)
  .exact j.2.1 k
theorem J4{b j e d:Nat}{p:PV}(hX:X b=jp (.out j e))(hp: ∀(M:Mem) (N:Nm) (U:Nat->Prop) (x:Value),U j->N.aI j=b->N.ext j=e->VR M N U (s.f.get d) x->VR M N U p x):
  SX nt s X (fun t Y=>t=⟨(d,p)::s.f,s.h,s.nx⟩∧Y=X):=
 Gx Z Z fun M N a w u D k=>by
  obtain⟨y,A,B⟩:=D.out b j e hX;rw[AF.aw];split
  .rename_i C;subst C;exact hp M N _ _ y A B (u.2.1 k)
  .exact u.2.1 k
theorem Fp{M:Mem}{N:Nm}{n:Nat}{h:AH}{w:World}(hr:Rel M N (· <n) h w){i:Nat}{o o':AO}(hi:h.get i=jp o)(A:o'.real=lc->o.real=lc)(ho:OR M N (· <n) w i o'):Rel M N (· <n) ((i,jp o')::h) w:=by
 have b: ∀j q,AH.get ((i,jp o')::h) j=jp q->(j=i∧q=o')∨(j≠i∧h.get j=jp q):=by
  intro j q u;rw[AH.aw]at u;split at u
  .rename_i y;exact .inl ⟨y,by simpa using u.symm⟩
  .rename_i y;exact .inr ⟨y,u⟩
 refine⟨hr.dT,fun j q u=>?_,fun j q u d=>?_,fun j q u=>?_,fun j k q r u F D d C=>?_⟩
 .rcases b j q u with⟨rfl,rfl⟩|⟨_,x⟩
  .exact hr.used j o hi
  .exact hr.used j q x
 .rcases b j q u with⟨rfl,rfl⟩|⟨_,x⟩
  .exact hr.fk j o hi (A d)
  .exact hr.fk j q x d
 .rcases b j q u with⟨rfl,rfl⟩|⟨_,x⟩
  .exact ho
  .exact hr.obj j q x
 .rcases b j q u with⟨rfl,rfl⟩|⟨g1,x⟩<;>rcases b k r F with⟨g2,B⟩|⟨g2,B⟩
  .exact g2.symm
  .exact hr.inj j k o r hi B (A D) d C
  .subst g2;subst B;exact hr.inj j k q o x hi D (A d) C
  .exact hr.inj j k q r x B D d C
theorem S5{i:Nat}{o o':AO}(hi:s.h.get i=jp o)(A:o'.real=lc->o.real=lc)(ho: ∀M N w,dW M N s.nx s.h X w->OR M N (· <s.nx) w i o->OR M N (· <s.nx) w i o'):
  SX nt s X (fun t Y=>t=⟨s.f,(i,jp o')::s.h,s.nx⟩∧Y=X):=by
 intro M N a w F x;have d: ∀j q,AH.get ((i,jp o')::s.h) j=jp q->q.real=lc-> ∃y,s.h.get j=jp y∧y.real=lc:=by
  intro j q u B;rw[AH.aw]at u;split at u
  .rename_i G;subst G;cases u;exact⟨o,hi,A B⟩
  .exact⟨q,u,B⟩
 refine⟨M,N,⟨s.f,(i,jp o')::s.h,s.nx⟩,X,⟨rfl,rfl,rfl,Ym _,fun _ _ _=>rfl,.refl _,fun b c C D=>by simp[C]at D,.refl _ _,Ym _,fun b hb=> .inr ?_⟩,
  ⟨Fp F.1 hi A (ho M N w x (F.1.obj i o hi)),F.2⟩,⟨x.real,x.obj,x.dT,fun b p e hb j q u B=>?_,x.out⟩,rfl,rfl⟩
 .rcases hb with⟨j,q,C,D,I⟩|hb
  .obtain⟨y,g1,g2⟩:=d j q C D;exact .inl ⟨j,y,g1,g2,I⟩
  .exact .inr hb
 .obtain⟨y,g1,g2⟩:=d j q u B;exact x.apart b p e hb j y g1 g2
theorem xy{i:Nat}{o o':AO}(hi:s.h.get i=jp o)(b:gi o o'):SX nt s X (fun t Y=>t=⟨s.f,(i,jp o')::s.h,s.nx⟩∧Y=X):=
 S5 hi b.1 fun M N w _ h=>b.2 M N _ w i h
end
end
section
variable {P:Program} {nt:Nat} {Q:XQ} {k0:List XI} {s:AS} {X:bc} {ty:Ty}
theorem FQ{c:Code}{R j:AS->bc->Prop}(h: ∀t Y,R t Y->j t Y)(hg:GX P nt (.code c:: .lp R::k0) Q s X):GX P nt (.code c:: .lp j::k0) Q s X:=by
 intro M N a w B C;refine AX.then hg B C fun e F G x y s' A D b d u=>⟨x,y,s',A,D,b,d,?_⟩
 cases e with
 |normal=>exact h _ _ u
 |_=>exact u
theorem kI{body:Code}{σ:Type 1}(i0 n:Nat)(u:i0<=n)(I:Nat->σ->AS)(J:Nat->σ->bc->Prop)(A:σ)(B:List Nat)(F:J i0 A X)(h0:Wk s.nx B s (I i0 A))(y: ∀i x Y,J i x Y->Y.still)
  (b: ∀i x Y,i<=n->J i x Y->GX P nt (.code body:: .lp (fun t j=>i<n∧ ∃d L,J (i+1) d j∧Wk s.nx L t (I (i+1) d))::k0) Q (I i x) Y):GX P nt (.code (.loop body)::k0) Q s X:=by
 refine VF (σ:={p:Nat×σ×bc//p.1<=n∧J p.1 p.2.1 p.2.2}) (fun p=>I p.1.1 p.1.2.1) (fun p=>p.1.2.2) (fun p=>n-p.1.1) ⟨(i0,A,X),u,F⟩ B h0 Z (fun p=>y _ _ _ p.2.2) fun p=>?_;obtain⟨⟨i,x,Y⟩,C,D⟩:=p;refine FQ ?_ (b i x Y C D)
 rintro t j ⟨h3,d,L,h4,h5⟩;exact⟨⟨(i+1,d,j),h3,h4⟩,L,by show n-(i+1)<n-i;omega,h5,rfl⟩
end
section
variable {P:Program} {nt:Nat} {Q:XQ} {k:List XI} {s:AS} {X:bc}
def GoW(P:Program)(nt:Nat)(k:List XI)(Q:XQ)(X:bc)(n0:Nat)(t:AS):AQ:=fun e u=>(e= .normal∧ ∃L,Wk n0 L u t)∨(e≠ .normal∧kx P nt k Q e u X)
theorem j6{n0:Nat}{t u:AS}(L:List Nat)(h:Wk n0 L u t):GoW P nt k Q X n0 t .normal u:= .inl ⟨rfl,L,h⟩
theorem gp{c:Code}(t:AS)(h1:GO P nt [.code c] (GoW P nt k Q X s.nx t) s)(h2:GX P nt k Q t X):GX P nt (.code c::k) Q s X:=by
 intro M N a w C x;refine AW.then h1 C fun e D F j B u A b d=>?_;rcases d with⟨rfl,L,y⟩|⟨_,d⟩
 .obtain⟨g1,g2⟩:=jy.frame (y.ext A) x;exact⟨j,_,t,X,g1,y.fits b,g2,h2⟩
 .obtain⟨g1,g2⟩:=jy.frame A x;exact⟨j,B,u,X,g1,b,g2,d⟩
def bc.drop(X:bc)(b:Nat):bc:=fun c=>if c=b then kw else X c
theorem Ie(b:Nat):SX nt s X (fun t Y=>t=s∧Y=X.drop b):=by
 intro M N a w B u;have h: ∀c y,X.drop b c=jp y->X c=jp y:=fun c y j=>by
  unfold bc.drop at j;split at j
  .cases j
  .exact j
 refine⟨M,N,s,X.drop b,⟨rfl,rfl,rfl,Ym _,fun _ _ _=>rfl,.refl _,fun c d x A=>by simp[x]at A,.refl _ _,Ym _,fun c j=> .inr ?_⟩,B,⟨fun c o e j=>u.real c o e (h c _ j),fun c o e j=>u.obj c o e (h c _ j),fun c o e j=>u.dT c o e (h c _ j),fun c o e j=>u.apart c o e (h c _ j),fun c i e j=>u.out c i e (h c _ j)⟩,rfl,rfl⟩;rcases j with j|⟨o,e,j⟩
 .exact .inl j
 .exact .inr ⟨o,e,h c _ j⟩
end
section
variable {P:Program} {ty:Ty} {nt:Nat} {Q:AQ} {k:List KI} {s:AS}
theorem TF(B:cC P ty){all:List Oper}{todo pend:List (Nat×Oper)}{j:Nat}{o:Oper}{c:Call}{g:FuncId}{asv args:List PV}{os:List AO}{R:PV->AH->Nat->Prop}{J:Prop}(L:List Nat)(hc:Fn P g args os R)
  (hrd:eJ todo=[(j,o)]) (ho:o.op= .call c) (ha:bP s.f c=jp (g,asv)) (hn:bT L=lc) (hl:L.all (fun j=>YD j s.nx)=lc) (F:L.map s.h.get=os.map fun o=>jp (o.c6 (sig L s.nx))) (b:asv=dZ (sig L s.nx) args)
  (hg:cE nt all s.f o=jp lc) (hpb:iW all pend o=lc) (hE:oA todo [j]=lc) (hag:qW ty nt all s todo pend=jp J) (hCA:J)
  (h: ∀r Y n',R r Y n'-> ∃s',putDst nt o (r.c6 (sig L s.nx)) (aL s L Y n')=jp s'∧ ∃d,dK ty nt all s' (bg pend o)=jp d∧d∧GO P nt (.cP all (todo.filter fun x=>!YJ x.1 j) (bg pend o)::k) Q s'):
  GO P nt (.cP all todo pend::k) Q s:=by
 have A:(j,o)∈eJ todo:=by rw[hrd];simp
 obtain⟨h3,C⟩:=YO.1 A;simp only[Y1,Y6,Y5]at C;have u: ∀y∈todo,aU y.2=lc-> ∀y∈pend,iL P nt all s y.2:=by
  intro y G I;unfold qW at hag;split at hag
  .exact ep B hag hCA
  .rename_i h2;have:=Y5.1 h2 y G;rw[I]at this;exact absurd Z this
 refine xb hE ⟨_,h3,C.1⟩ u fun j' o' D _ hu=>?_;simp only[Yr]at D;subst D;have:=hu o h3;subst this;refine⟨C.1,fun y G _=>by simpa using C.2 y G,hpb,hg,_,lW (S:=fun t=> ∃d,dK ty nt all t (bg pend o)=jp d∧d∧GO P nt (.cP all (todo.filter fun x=>!YJ x.1 j') (bg pend o)::k) Q t) ho ha hc (dh hn) (fun j D=>Yd (YG.1 hl j D)) F b h,fun t ⟨d,h5,h6,h7⟩=>⟨ep B h5 h6,h7⟩⟩
end
structure BX where
 M:Mem
 N:Nm
 n:Nat
 h:AH
 X:bc
 w:World
def Wr(nt:Nat)(B:BX)(R:XQ):Exit->Act->World->Prop:=fun e x u=>
 ∃b d s' j,jy B.M B.N B.n B.h B.X B.w b d s'.nx s'.h j u∧Fits b d s' nt x u∧dW b d s'.nx s'.h j u∧R e s' j
def Cw(P:Program)(nt:Nat)(all:List Oper)(todo pend:List (Nat×Oper))(R:XQ)(s:AS)(X:bc):Prop:=
 Region.noSelect all.toArray=lc->ij 0 all=lc->kj P nt all->(∀x∈todo,aU x.2=li)-> ∀(B:BX) (b:Bs) M N listed a w fuel,jy B.M B.N B.n B.h B.X B.w M N s.nx s.h X w->dW M N s.nx s.h X w->
  oK P nt all todo pend b M N s listed a w->listed.toList.count li<=fuel->wpAny P .any all.toArray (Wr nt B R) fuel listed a w
section
variable {P:Program} {ty:Ty} {nt:Nat} {all:List Oper} {todo pend:List (Nat×Oper)} {Q R:XQ} {k:List XI} {s:AS} {X:bc}
theorem HI(h:R .normal s X):Cw P nt all [] pend R s X:=by
 intro A hd x Y B B0 M N listed a w b F I
 induction b generalizing listed a with
 |zero=>
  intro j S;have d: ∀i,listed.getD i lc=lc:=fun i=>by
   cases hx:listed.getD i lc with
   |true=>rfl
   |false=>have:=oB hx;omega
  exact⟨xR d,M,N,s,X,F,j.done d,I,h⟩
 |succ b ih=>
  intro j S;refine⟨fun hr=>⟨M,N,s,X,F,j.done (mw j.size hd hr),I,h⟩,fun i u=>?_⟩;obtain⟨hu,o,G,_⟩:=mem_ready.1 u;have C:all[i]? =jp o:=by simpa using G
  rcases j.JG i o C hu with hm|hm
  .cases hm
  .obtain⟨v,hv,y⟩:=j.take A x hm u;refine wpOp_of_stOp (K:=fun D=>D=a.put o.dst v) (fun D J=>?_) (hv.stOp G Z);subst J;exact ih _ _ y (by have:=dw hu;omega)
theorem yB{i:Nat}{o:Oper}{s':AS}(hin:(i,o)∈todo)(C:aU o=li)(D: ∀x∈todo,waits o x.1=li)(j:zl all pend o=lc)(he:s'.h=s.h∧s'.nx=s.nx)
  (hy: ∀M N b w,Fits M N s nt b w-> ∃v,YieldsAt P all.toArray w o v b∧Fits M N s' nt (b.put o.dst v) w) (h:Cw P nt all (todo.filter fun x=>!YJ x.1 i) ((i,o)::pend) R s' X):Cw P nt all todo pend R s X:=by
 intro y hd A u B F M N listed a w d G S J I;exact h y hd A (fun x Y=>u x (YO.1 Y).1) B F M N listed a w d (by rw[he.1,he.2];exact G) (by rw[he.1,he.2];exact S) (J.read y hin C D j he hy) I
theorem qH{T:AS->bc->Prop}(h:SX nt s X T)(hk: ∀t Y,T t Y->Cw P nt all todo pend R t Y):Cw P nt all todo pend R s X:=by
 intro G hd D A B I M N listed a w u hB hs d hc;obtain⟨b,hb,hr⟩:=d.ap;obtain⟨J,S,t,Y,h1,h2,h3,h4⟩:=h M N b w hb hs;obtain⟨bl,F,_⟩:=d.er;have C: ∀x∈todo,listed.getD x.1 lc=lc->False:=fun x j y=>by
  have:=(F x j y).alloc;rw[A x j]at this;cases this
 exact hk t Y h4 G hd D A B I J S listed a w u (hB.trans h1) h3 ⟨d.size,d.tl,d.pl,d.dj,d.JG,d.pw,d.pp,d.pa,⟨bl,fun x j y=>(C x j y).elim,fun x j _ _ y=>(C x j y).elim⟩,b,h2,hr⟩ hc
theorem P8{j:Nat}{o:Oper}{T:AS->Prop}(hrd:eJ todo=[(j,o)])(hg:cE nt all s.f o=jp lc)(hpb:iW all pend o=lc)(hE:oA todo [j]=lc)(j0:OT P nt o s T)
  (h: ∀s',T s'->(∀x∈bg pend o,iL P nt all s' x.2)∧Cw P nt all (todo.filter fun x=>!YJ x.1 j) (bg pend o) R s' X):Cw P nt all todo pend R s X:=by
 have d0:(j,o)∈eJ todo:=by rw[hrd];simp
 obtain⟨C,h4⟩:=YO.1 d0;simp only[Y1,Y6,Y5]at h4;intro f0 hd S e0 B B0 M N listed a w u hB hs
 induction u generalizing listed a w with
 |zero=>
  intro I hc;obtain⟨bl,Y,_⟩:=I.er;have p0:listed.getD j lc=li:=by
   cases hl:listed.getD j lc with
   |false=>rfl
   |true=>have:=(Y _ C hl).alloc;simp only at this;rw[h4.1]at this;cases this
  have:=oB p0;omega
 |succ u ih=>
  intro I hc;obtain⟨bl,Y,q0⟩:=I.er;have J: ∀x∈todo,aU x.2=li->listed.getD x.1 lc=li:=fun x A D=>by
   cases hl:listed.getD x.1 lc with
   |false=>rfl
   |true=>have:=(Y x A hl).alloc;rw[D]at this;cases this
  refine⟨fun hr=>?_,fun i c0=>?_⟩
  .have:=mw I.size hd hr j;rw[J _ C h4.1]at this;cases this
  obtain⟨hu,q,hq,b0⟩:=mem_ready.1 c0;have i0:all[i]? =jp q:=by simpa using hq
  rcases I.JG i q i0 hu with hm|hm
  .have m0:i=j:=by
    have:=YG.1 hE _ hm;simp only[Y3,Y8,YB,Y1]at this;rcases this with h1|h1|⟨y,hy,h0,h1⟩
    .simpa using h1
    .rw[e0 _ hm]at h1;cases h1
    .obtain⟨e,he,hb,n0⟩:=gC h1;have:=b0 e he hb;rw[n0,mX (J y hy h0)]at this;cases this
   subst m0;have o0:q=o:=by
    have:=I.tl _ C;simp only at this;rw[i0]at this;exact Zh this
   subst o0;obtain⟨b,hb,a0,g0,hnew⟩:=I.eff f0 hd S C (fun x A D=>by rw[e0 x A]at D;cases D) hpb c0 hu;unfold wpOp;simp only[hq];rw[am (by rw[g0];exact eE hg hb)];refine .inl (Gm (K':=fun a' w'=> ∃F G s',Ext M N (· <s.nx) s.h w F G (· <s'.nx) s'.h w'∧Fits F G s' nt a' w'∧T s') a0 ?_ ?_ (j0 M N b w hb _ _ fun F G s' a' w' A hf hr=>⟨F,G,s',A,hf,hr⟩))
   .rintro d w' ⟨F,G,s',_,hf,_⟩;have:=hf.2.2.1;rw[lQ]at this;cases this
   .rintro v w' ⟨F,G,s',A,hf,hr⟩;obtain⟨h5,h6⟩:=h s' hr;obtain⟨g1,g2⟩:=jy.frame A hs;exact h6 f0 hd S (fun x A=>e0 x (YO.1 A).1) B B0 F G _ _ w' u (hB.trans g1) g2 (hnew v F G s' w' A hf h5) (by have:=dw hu;omega)
  .obtain⟨v,hv,k0⟩:=I.take f0 S hm c0;refine wpOp_of_stOp (K:=fun a'=>a'=a.put q.dst v) (fun a' ha=>?_) (hv.stOp hq Z);subst ha;exact ih _ _ _ hB hs k0 (by have:=dw hu;omega)
theorem LF{id:Nat}{ops:Array Oper}(hm:P.follows .mixedOrders=lc)(hns:vj ops.toList=lc)(hd:ij 0 ops.toList=lc)(d:ops.toList.all (fun o=>!aU o)=lc)(h:Cw P nt ops.toList (gX 0 ops.toList) [] (kx P nt k Q) s X):GX P nt (.code (.region id ops lc)::k) Q s X:=by
 intro M N a w G J;refine wp_region_any hm ?_;have B:=G.drew;have d: ∀o∈ops.toList,aU o=li:=fun o A=>by simpa using YG.1 d o A
 have j: ∀x∈gX 0 ops.toList,ops.toList[x.1]? =jp x.2:=fun x b=>by
  obtain⟨_,F⟩:=(jV _ 0 x.1 x.2).1 b;simpa using F
 have C: ∀i,i<ops.size->(aab ops.size li).getD i lc=li:=fun i I=>by simp[Yf,I]
 have y: ∀x∈gX 0 ops.toList,(aab ops.size li).getD x.1 lc=lc->False:=fun x b u=>by
  have:x.1<ops.size:=by simpa using(Yj.1 (j x b)).1
  rw[C _ this]at u;cases u
 have:=h (Ai hns) hd (fun i o A D=>by rw[d o (YL A)]at D;cases D) (fun x b=>d _ (YL (j x b))) ⟨M,N,s.nx,s.h,X,w⟩ ⟨M,N,s.nx,s.h,w⟩ M N (aab ops.size li) a {w with drawn:=w.drawn+1} ops.size jy.drew J.drew
  ⟨by simp,j,fun _ b=>(nomatch b),fun _ b=>(nomatch b),fun i o A _=> .inl ((jV _ 0 i o).2 ⟨Yl _,by simpa using A⟩),Z6,fun _ b=>(nomatch b),fun _ b=>(nomatch b),
   ⟨fun _=>0,fun x b u=>(y x b u).elim,fun x b _ _ u=>(y x b u).elim⟩,⟨a,B,rfl,rfl,fun _ _ _=>rfl,fun _ b=>(nomatch b)⟩⟩ (by simp)
 rw[ZT]at this;exact this
def R9(ty:Ty)(nt:Nat)(all:List Oper):Nat->List (Nat×Oper)->List (Nat×Oper)->AS->Prop->Prop×List (Nat×Oper)×List (Nat×Oper)×AS
 |0,todo,pend,s,C=>(C,todo,pend,s)
 |n+1,todo,pend,s,C=>match ny ty nt s all todo pend todo with
  |some (.read i o p C')=>match putDst nt o p s with
   |none=>(C,todo,pend,s)
   |some s'=>match BK o.op with
    |true=>R9 ty nt all n (todo.filter fun x=>!YJ x.1 i) ((i,o)::pend) s' (C∧C')
    |false=>R9 ty nt all n (todo.filter fun x=>!YJ x.1 i) ((i,o)::pend) s' C
  |some (.skip i o)=>R9 ty nt all n (todo.filter fun x=>!YJ x.1 i) ((i,o)::pend) (iM o s) C
  |_=>(C,todo,pend,s)
theorem Cg(u:cC P ty): ∀{n:Nat} {todo pend:List (Nat×Oper)} {s:AS} {C F:Prop} {j d:List (Nat×Oper)} {s':AS},R9 ty nt all n todo pend s C=(F,j,d,s')->F->C∧(Cw P nt all j d R s' X->Cw P nt all todo pend R s X)
 |0,todo,pend,s,C,F,j,d,s',h,hC=>by
  simp only[R9,Yw]at h;obtain⟨rfl,rfl,rfl,rfl⟩:=h;exact⟨hC,id⟩
 |n+1,todo,pend,s,C,F,j,d,s',h,hC=>by
  simp only[R9]at h;split at h
  .rename_i i o p C1 A;obtain⟨g1,G,I,g2,g3,g4⟩:=(p8 (fun _ h=>h)).1 A;split at h
   .simp only[Yw]at h;obtain⟨rfl,rfl,rfl,rfl⟩:=h;exact⟨hC,id⟩
   .rename_i s1 Y;split at h
    .obtain⟨⟨B,h2⟩,D⟩:=Cg u h hC;obtain⟨J,S⟩:=l5 u g4 h2 Y;exact⟨B,fun g=>yB g1 G I g3 J (fun M N b w y=>let ⟨x,f1,f2⟩:=S M N b w y;⟨x,.inl ⟨eE g2 y,.inl f1⟩,f2⟩) (D g)⟩
    .rename_i ho;obtain⟨B,D⟩:=Cg u h hC;obtain⟨J,S⟩:=l5 u g4 (wU g4 ho) Y;exact⟨B,fun g=>yB g1 G I g3 J (fun M N b w y=>let ⟨x,f1,f2⟩:=S M N b w y;⟨x,.inl ⟨eE g2 y,.inl f1⟩,f2⟩) (D g)⟩
  .rename_i i o A;obtain⟨g1,G,I,g2,g3⟩:=(p8 (fun _ h=>h)).2 A;obtain⟨B,D⟩:=Cg u h hC;exact⟨B,fun g=>yB g1 G I g3 (jF o s) (fun _ _ _ _ y=>⟨undef,.inr ⟨eE g2 y,rfl⟩,y.skip o⟩) (D g)⟩
  .simp only[Yw]at h;obtain⟨rfl,rfl,rfl,rfl⟩:=h;exact⟨hC,id⟩
def WC(ty:Ty)(nt:Nat)(s:AS)(o:Oper):Option (Prop×AS):=match lu ty s o.op with
 |some (p,C)=>(putDst nt o p s).map fun s'=>(C,s')
 |none=>match JD ty s o.op with
  |some (p,s1)=>(putDst nt o p s1).map fun s'=>(True,s')
  |none=>match Ut ty s o.op with
   |some (C,p,s1)=>(putDst nt o p s1).map fun s'=>(C,s')
   |none=>kw
theorem TQ(b:cC P ty){o:Oper}{C:Prop}{s':AS}(h:WC ty nt s o=jp (C,s'))(hC:C):OT P nt o s (fun t=>t=s'):=by
 unfold WC at h;split at h
 .rename_i p y A;obtain⟨x,d,j⟩:=Yq.1 h;cases j;exact uZ b A hC d
 .split at h
  .rename_i p s0 u;obtain⟨x,d,j⟩:=Yq.1 h;cases j;exact FF b u d
  .split at h
   .rename_i y p s0 u;obtain⟨x,d,j⟩:=Yq.1 h;cases j;exact E1 b u hC d
   .cases h
theorem P7(j:cC P ty)(n:Nat){u:Prop}{d b:List (Nat×Oper)}{s':AS}(h:R9 ty nt all n todo pend s True=(u,d,b,s'))(hC:u)(g:Cw P nt all d b R s' X):Cw P nt all todo pend R s X:=(Cg j h hC).2 g
theorem TU(b:cC P ty){j:Nat}{o:Oper}{C d:Prop}{s':AS}(hrd:eJ todo=[(j,o)])(ho:WC ty nt s o=jp (C,s'))(hg:cE nt all s.f o=jp lc)(hpb:iW all pend o=lc)(hE:oA todo [j]=lc)(hag:dK ty nt all s' (bg pend o)=jp d)
  (hC:C) (hC2:d) (h:Cw P nt all (todo.filter fun x=>!YJ x.1 j) (bg pend o) R s' X):Cw P nt all todo pend R s X:=
 P8 hrd hg hpb hE (TQ b ho hC) fun t u=>by subst u;exact⟨ep b hag hC2,h⟩
end
end
end Go.Al
namespace Go.Proofs.YtflegjieadkonaaGreatDoor
open Go Go.Al Go.Proofs.Tryz
def ty2:cO:=⟨.bb (.int .i64),1,8,.int .i64 (0),li⟩
theorem UH:ay prog 2 ty2:=⟨an (by kernel_rfl),⟨underlying2,rfl⟩,fun h=>nomatch h⟩
def ty3:cO:=⟨.bb (.int .i64),1,8,.int .i64 (0),li⟩
theorem UG:ay prog 3 ty3:=⟨an (by kernel_rfl),⟨underlying3,rfl⟩,fun h=>nomatch h⟩
def ty4:cO:=⟨.bb (.bool),1,1,.bool li,li⟩
theorem UF:ay prog 4 ty4:=⟨an (by kernel_rfl),⟨underlying4,rfl⟩,fun h=>nomatch h⟩
def ty5:cO:=⟨.bb (.int .u8),1,1,.int .u8 (0),li⟩
theorem UE:ay prog 5 ty5:=⟨an (by kernel_rfl),⟨underlying5,rfl⟩,fun h=>nomatch h⟩
def ty9:cO:=⟨.bb (.string),1,16,.string Yp,li⟩
theorem UD:ay prog 9 ty9:=⟨an (by kernel_rfl),⟨underlying9,rfl⟩,fun h=>nomatch h⟩
def Vc:cO:=⟨.bb (.int .i32),1,4,.int .i32 (0),li⟩
theorem SY:ay prog 21 Vc:=⟨an (by kernel_rfl),⟨underlying21,rfl⟩,fun h=>nomatch h⟩
def Vb:cO:=⟨.bb (.slice 49),1,24,.slice kw 0 0,li⟩
theorem SW:ay prog 22 Vb:=⟨an (by kernel_rfl),⟨underlying22,rfl⟩,fun h=>nomatch h⟩
def Va:cO:=⟨.bb (.slice 76),1,24,.slice kw 0 0,li⟩
theorem SV:ay prog 23 Va:=⟨an (by kernel_rfl),⟨underlying23,rfl⟩,fun h=>nomatch h⟩
def U9:cO:=⟨.dL [(0,22),(1,23)],2,48,.agg #[.slice kw 0 0,.slice kw 0 0],lc⟩
theorem SU:ay prog 25 U9:=⟨an (by kernel_rfl),⟨_,underlying25,rfl⟩,fun _=>cZ underlying25 Tryz.stoodInHeld25 Tryz.eqGuardType25 (by decide)⟩
def U8:cO:=⟨.bb (.slice 80),1,24,.slice kw 0 0,li⟩
theorem SS:ay prog 28 U8:=⟨an (by kernel_rfl),⟨underlying28,rfl⟩,fun h=>nomatch h⟩
def U7:cO:=⟨.bb (.slice 53),1,24,.slice kw 0 0,li⟩
theorem SR:ay prog 30 U7:=⟨an (by kernel_rfl),⟨underlying30,rfl⟩,fun h=>nomatch h⟩
def U6:cO:=⟨.bb (.slice 56),1,24,.slice kw 0 0,li⟩
theorem SQ:ay prog 32 U6:=⟨an (by kernel_rfl),⟨underlying32,rfl⟩,fun h=>nomatch h⟩
def U5:cO:=⟨.bb (.int .i64),1,8,.int .i64 (0),li⟩
theorem SP:ay prog 33 U5:=⟨an (by kernel_rfl),⟨underlying33,rfl⟩,fun h=>nomatch h⟩
def U4:cO:=⟨.dL [(0,3),(1,3)],2,16,.agg #[.int .i64 (0),.int .i64 (0)],lc⟩
theorem SO:ay prog 35 U4:=⟨an (by kernel_rfl),⟨_,underlying35,rfl⟩,fun _=>cZ underlying35 Tryz.stoodInHeld35 Tryz.eqGuardType35 (by decide)⟩
def U3:cO:=⟨.dL [(0,33),(1,35)],3,24,.agg #[.int .i64 (0),.int .i64 (0),.int .i64 (0)],lc⟩
theorem SN:ay prog 37 U3:=⟨an (by kernel_rfl),⟨_,underlying37,rfl⟩,fun _=>cZ underlying37 Tryz.stoodInHeld37 Tryz.eqGuardType37 (by decide)⟩
def U0:cO:=⟨.bb (.slice 3),1,24,.slice kw 0 0,li⟩
theorem SM:ay prog 47 U0:=⟨an (by kernel_rfl),⟨underlying47,rfl⟩,fun h=>nomatch h⟩
def UZ:cO:=⟨.dL [(0,9),(1,47),(2,35)],4,56,.agg #[.string Yp,.slice kw 0 0,.int .i64 (0),.int .i64 (0)],lc⟩
theorem SK:ay prog 49 UZ:=⟨an (by kernel_rfl),⟨_,underlying49,rfl⟩,fun _=>cZ underlying49 Tryz.stoodInHeld49 Tryz.eqGuardType49 (by decide)⟩
def UY:cO:=⟨.bb (.slice 9),1,24,.slice kw 0 0,li⟩
theorem SJ:ay prog 53 UY:=⟨an (by kernel_rfl),⟨underlying53,rfl⟩,fun h=>nomatch h⟩
def UX:cO:=⟨.dL [(0,9),(1,3)],2,24,.agg #[.string Yp,.int .i64 (0)],lc⟩
theorem SI:ay prog 56 UX:=⟨an (by kernel_rfl),⟨_,underlying56,rfl⟩,fun _=>cZ underlying56 Tryz.stoodInHeld56 Tryz.eqGuardType56 (by decide)⟩
def UW:cO:=⟨.bb (.slice 143),1,24,.slice kw 0 0,li⟩
theorem SH:ay prog 71 UW:=⟨an (by kernel_rfl),⟨underlying71,rfl⟩,fun h=>nomatch h⟩
def UU:cO:=⟨.dL [(0,9),(1,71)],2,40,.agg #[.string Yp,.slice kw 0 0],lc⟩
theorem SG:ay prog 73 UU:=⟨an (by kernel_rfl),⟨_,underlying73,rfl⟩,fun _=>cZ underlying73 Tryz.stoodInHeld73 Tryz.eqGuardType73 (by decide)⟩
def UT:cO:=⟨.bb (.slice 105),1,24,.slice kw 0 0,li⟩
theorem SF:ay prog 74 UT:=⟨an (by kernel_rfl),⟨underlying74,rfl⟩,fun h=>nomatch h⟩
def US:cO:=⟨.dL [(0,73),(2,74),(3,35)],5,80,.agg #[.string Yp,.slice kw 0 0,.slice kw 0 0,.int .i64 (0),.int .i64 (0)],lc⟩
theorem SE:ay prog 76 US:=⟨an (by kernel_rfl),⟨_,underlying76,rfl⟩,fun _=>cZ underlying76 Tryz.stoodInHeld76 Tryz.eqGuardType76 (by decide)⟩
def UR:cO:=⟨.dL [(0,9),(1,9),(2,4)],3,40,.agg #[.string Yp,.string Yp,.bool li],lc⟩
theorem SC:ay prog 80 UR:=⟨an (by kernel_rfl),⟨_,underlying80,rfl⟩,fun _=>cZ underlying80 Tryz.stoodInHeld80 Tryz.eqGuardType80 (by decide)⟩
def UQ:cO:=⟨.bb (.map 9 88),1,8,.map kw,li⟩
theorem SA:ay prog 83 UQ:=⟨an (by kernel_rfl),⟨underlying83,rfl⟩,fun h=>nomatch h⟩
def UP:cO:=⟨.bb (.map 9 88),1,8,.map kw,li⟩
theorem Sz:ay prog 84 UP:=⟨an (by kernel_rfl),⟨underlying84,rfl⟩,fun h=>nomatch h⟩
def UO:cO:=⟨.bb (.map 9 3),1,8,.map kw,li⟩
theorem Sy:ay prog 88 UO:=⟨an (by kernel_rfl),⟨underlying88,rfl⟩,fun h=>nomatch h⟩
def UN:cO:=⟨.bb (.map 3 53),1,8,.map kw,li⟩
theorem Sx:ay prog 91 UN:=⟨an (by kernel_rfl),⟨underlying91,rfl⟩,fun h=>nomatch h⟩
def UL:cO:=⟨.bb (.map 3 3),1,8,.map kw,li⟩
theorem Sv:ay prog 92 UL:=⟨an (by kernel_rfl),⟨underlying92,rfl⟩,fun h=>nomatch h⟩
def UK:cO:=⟨.bb (.slice 47),1,24,.slice kw 0 0,li⟩
theorem Su:ay prog 94 UK:=⟨an (by kernel_rfl),⟨underlying94,rfl⟩,fun h=>nomatch h⟩
def UJ:cO:=⟨.dL [(0,3),(1,3),(2,9)],3,32,.agg #[.int .i64 (0),.int .i64 (0),.string Yp],lc⟩
theorem Ss:ay prog 98 UJ:=⟨an (by kernel_rfl),⟨_,underlying98,rfl⟩,fun _=>cZ underlying98 Tryz.stoodInHeld98 Tryz.eqGuardType98 (by decide)⟩
def UI:cO:=⟨.bb (.slice 101),1,24,.slice kw 0 0,li⟩
theorem Sr:ay prog 99 UI:=⟨an (by kernel_rfl),⟨underlying99,rfl⟩,fun h=>nomatch h⟩
def RR:cO:=⟨.dL [(0,3),(1,9),(2,98),(5,3),(6,99)],7,88,.agg #[.int .i64 (0),.string Yp,.int .i64 (0),.int .i64 (0),.string Yp,.int .i64 (0),.slice kw 0 0],lc⟩
theorem Ov:ay prog 101 RR:=⟨an (by kernel_rfl),⟨_,underlying101,rfl⟩,fun _=>cZ underlying101 Tryz.stoodInHeld101 Tryz.eqGuardType101 (by decide)⟩
def RQ:cO:=⟨.dL [(0,3),(1,9),(2,101),(9,74)],10,136,.agg #[.int .i64 (0),.string Yp,.int .i64 (0),.string Yp,.int .i64 (0),.int .i64 (0),.string Yp,.int .i64 (0),.slice kw 0 0,.slice kw 0 0],lc⟩
theorem Ou:ay prog 103 RQ:=⟨an (by kernel_rfl),⟨_,underlying103,rfl⟩,fun _=>cZ underlying103 Tryz.stoodInHeld103 Tryz.eqGuardType103 (by decide)⟩
def RP:cO:=⟨.dL [(0,3),(1,73),(3,3),(4,101),(11,101),(18,103),(28,35)],30,384,.agg #[.int .i64 (0),.string Yp,.slice kw 0 0,.int .i64 (0),.int .i64 (0),.string Yp,.int .i64 (0),.int .i64 (0),.string Yp,.int .i64 (0),.slice kw 0 0,.int .i64 (0),.string Yp,.int .i64 (0),.int .i64 (0),.string Yp,.int .i64 (0),.slice kw 0 0,.int .i64 (0),.string Yp,.int .i64 (0),.string Yp,.int .i64 (0),.int .i64 (0),.string Yp,.int .i64 (0),.slice kw 0 0,.slice kw 0 0,.int .i64 (0),.int .i64 (0)],lc⟩
theorem Ot:ay prog 105 RP:=⟨an (by kernel_rfl),⟨_,underlying105,rfl⟩,fun _=>cZ underlying105 Tryz.stoodInHeld105 Tryz.eqGuardType105 (by decide)⟩
def RO:cO:=⟨.bb (.slice 113),1,24,.slice kw 0 0,li⟩
theorem Oq:ay prog 110 RO:=⟨an (by kernel_rfl),⟨underlying110,rfl⟩,fun h=>nomatch h⟩
def RN:cO:=⟨.bb (.slice 4),1,24,.slice kw 0 0,li⟩
theorem Oo:ay prog 113 RN:=⟨an (by kernel_rfl),⟨underlying113,rfl⟩,fun h=>nomatch h⟩
def RL:cO:=⟨.dL [(0,3),(1,9),(2,98)],5,56,.agg #[.int .i64 (0),.string Yp,.int .i64 (0),.int .i64 (0),.string Yp],lc⟩
theorem On:ay prog 143 RL:=⟨an (by kernel_rfl),⟨_,underlying143,rfl⟩,fun _=>cZ underlying143 Tryz.stoodInHeld143 Tryz.eqGuardType143 (by decide)⟩
def RK:cO:=⟨.bb (.func #[9] #[3] li),1,8,.nilFunc,li⟩
theorem Om:ay prog 148 RK:=⟨an (by kernel_rfl),⟨underlying148,rfl⟩,fun h=>nomatch h⟩
def RJ:cO:=⟨.bb (.func #[37] #[4] li),1,8,.nilFunc,li⟩
theorem Ol:ay prog 151 RJ:=⟨an (by kernel_rfl),⟨underlying151,rfl⟩,fun h=>nomatch h⟩
def RI:cO:=⟨.bb (.func #[105] #[4] li),1,8,.nilFunc,li⟩
theorem Oj:ay prog 155 RI:=⟨an (by kernel_rfl),⟨underlying155,rfl⟩,fun h=>nomatch h⟩
def RH:cO:=⟨.bb (.slice 37),1,24,.slice kw 0 0,li⟩
theorem Oi:ay prog 156 RH:=⟨an (by kernel_rfl),⟨underlying156,rfl⟩,fun h=>nomatch h⟩
def RG:cO:=⟨.bb (.map 9 3),1,8,.map kw,li⟩
theorem Oh:ay prog 164 RG:=⟨an (by kernel_rfl),⟨underlying164,rfl⟩,fun h=>nomatch h⟩
def RF:cO:=⟨.dL [(0,76),(5,164)],6,88,.agg #[.string Yp,.slice kw 0 0,.slice kw 0 0,.int .i64 (0),.int .i64 (0),.map kw],lc⟩
theorem Og:ay prog 166 RF:=⟨an (by kernel_rfl),⟨_,underlying166,rfl⟩,fun _=>cZ underlying166 Tryz.stoodInHeld166 Tryz.eqGuardType166 (by decide)⟩
def RE:cO:=⟨.bb (.pointer 166),1,8,.pointer kw,li⟩
theorem Of:ay prog 167 RE:=⟨an (by kernel_rfl),⟨underlying167,rfl⟩,fun h=>nomatch h⟩
def RD:cO:=⟨.bb (.int .u64),1,8,.int .u64 (0),li⟩
theorem Oe:ay prog 179 RD:=⟨an (by kernel_rfl),⟨underlying179,rfl⟩,fun h=>nomatch h⟩
def RC:cO:=⟨.bb (.map 9 49),1,8,.map kw,li⟩
theorem Od:ay prog 181 RC:=⟨an (by kernel_rfl),⟨underlying181,rfl⟩,fun h=>nomatch h⟩
def RB:cO:=⟨.bb (.func #[101] #[4] li),1,8,.nilFunc,li⟩
theorem Oc:ay prog 185 RB:=⟨an (by kernel_rfl),⟨underlying185,rfl⟩,fun h=>nomatch h⟩
def RA:cO:=⟨.bb (.func #[103] #[4] li),1,8,.nilFunc,li⟩
theorem Ob:ay prog 186 RA:=⟨an (by kernel_rfl),⟨underlying186,rfl⟩,fun h=>nomatch h⟩
def Rz:cO:=⟨.bb (.int .i64),1,8,.int .i64 (0),li⟩
theorem Oa:ay prog 195 Rz:=⟨an (by kernel_rfl),⟨underlying195,rfl⟩,fun h=>nomatch h⟩
def Ry:cO:=⟨.bb (.int .u32),1,4,.int .u32 (0),li⟩
theorem N9:ay prog 203 Ry:=⟨an (by kernel_rfl),⟨underlying203,rfl⟩,fun h=>nomatch h⟩
def Rx:cO:=⟨.bb (.int .u64),1,8,.int .u64 (0),li⟩
theorem N8:ay prog 205 Rx:=⟨an (by kernel_rfl),⟨underlying205,rfl⟩,fun h=>nomatch h⟩
def Rw:cO:=⟨.bb (.func #[3] #[4] li),1,8,.nilFunc,li⟩
theorem N7:ay prog 207 Rw:=⟨an (by kernel_rfl),⟨underlying207,rfl⟩,fun h=>nomatch h⟩
def Rv:cO:=⟨.bb (.slice 73),1,24,.slice kw 0 0,li⟩
theorem N6:ay prog 215 Rv:=⟨an (by kernel_rfl),⟨underlying215,rfl⟩,fun h=>nomatch h⟩
def Ru:cO:=⟨.bb (.func #[73] #[4] li),1,8,.nilFunc,li⟩
theorem N5:ay prog 217 Ru:=⟨an (by kernel_rfl),⟨underlying217,rfl⟩,fun h=>nomatch h⟩
def Rt:cO:=⟨.dL [(0,33),(1,207)],2,16,.agg #[.int .i64 (0),.nilFunc],lc⟩
theorem N4:ay prog 218 Rt:=⟨an (by kernel_rfl),⟨_,underlying218,rfl⟩,fun _=>cZ underlying218 Tryz.stoodInHeld218 Tryz.eqGuardType218 (by decide)⟩
def Rs:cO:=⟨.bb (.pointer 257),1,8,.pointer kw,li⟩
theorem N3:ay prog 220 Rs:=⟨an (by kernel_rfl),⟨underlying220,rfl⟩,fun h=>nomatch h⟩
def Rr:cO:=⟨.bb (.slice 218),1,24,.slice kw 0 0,li⟩
theorem NZ:ay prog 222 Rr:=⟨an (by kernel_rfl),⟨underlying222,rfl⟩,fun h=>nomatch h⟩
def Rq:cO:=⟨.bb (.int .u64),1,8,.int .u64 (0),li⟩
theorem NY:ay prog 233 Rq:=⟨an (by kernel_rfl),⟨underlying233,rfl⟩,fun h=>nomatch h⟩
def Rp:cO:=⟨.bb (.pointer 3),1,8,.pointer kw,li⟩
theorem NX:ay prog 237 Rp:=⟨an (by kernel_rfl),⟨underlying237,rfl⟩,fun h=>nomatch h⟩
def Ro:cO:=⟨.bb (.pointer 247),1,8,.pointer kw,li⟩
theorem NW:ay prog 241 Ro:=⟨an (by kernel_rfl),⟨underlying241,rfl⟩,fun h=>nomatch h⟩
def Rn:cO:=⟨.bb (.pointer 245),1,8,.pointer kw,li⟩
theorem NV:ay prog 242 Rn:=⟨an (by kernel_rfl),⟨underlying242,rfl⟩,fun h=>nomatch h⟩
def Rm:cO:=⟨.bb (.slice 5),1,24,.slice kw 0 0,li⟩
theorem NU:ay prog 243 Rm:=⟨an (by kernel_rfl),⟨underlying243,rfl⟩,fun h=>nomatch h⟩
def Rl:cO:=⟨.dL [(0,242),(1,243)],2,32,.agg #[.pointer kw,.slice kw 0 0],lc⟩
theorem NT:ay prog 245 Rl:=⟨an (by kernel_rfl),⟨_,underlying245,rfl⟩,fun _=>cZ underlying245 Tryz.stoodInHeld245 Tryz.eqGuardType245 (by decide)⟩
def Rk:cO:=⟨.dL [(0,245),(2,4),(3,3)],4,48,.agg #[.pointer kw,.slice kw 0 0,.bool li,.int .i64 (0)],lc⟩
theorem NS:ay prog 247 Rk:=⟨an (by kernel_rfl),⟨_,underlying247,rfl⟩,fun _=>cZ underlying247 Tryz.stoodInHeld247 Tryz.eqGuardType247 (by decide)⟩
def Rj:cO:=⟨.bb (.func #[143] #[4] li),1,8,.nilFunc,li⟩
theorem NR:ay prog 252 Rj:=⟨an (by kernel_rfl),⟨underlying252,rfl⟩,fun h=>nomatch h⟩
def Ri:cO:=⟨.bb (.map 263 263),1,8,.map kw,li⟩
theorem NQ:ay prog 253 Ri:=⟨an (by kernel_rfl),⟨underlying253,rfl⟩,fun h=>nomatch h⟩
def Rh:cO:=⟨.bb (.map 263 3),1,8,.map kw,li⟩
theorem NP:ay prog 254 Rh:=⟨an (by kernel_rfl),⟨underlying254,rfl⟩,fun h=>nomatch h⟩
def Rf:cO:=⟨.bb (.slice 265),1,24,.slice kw 0 0,li⟩
theorem NO:ay prog 255 Rf:=⟨an (by kernel_rfl),⟨underlying255,rfl⟩,fun h=>nomatch h⟩
def Rc:cO:=⟨.dL [(0,167),(1,253),(2,255),(3,254)],4,48,.agg #[.pointer kw,.map kw,.slice kw 0 0,.map kw],lc⟩
theorem NN:ay prog 257 Rc:=⟨an (by kernel_rfl),⟨_,underlying257,rfl⟩,fun _=>cZ underlying257 Tryz.stoodInHeld257 Tryz.eqGuardType257 (by decide)⟩
def Rb:cO:=⟨.dL [(0,9),(1,3)],2,24,.agg #[.string Yp,.int .i64 (0)],lc⟩
theorem NL:ay prog 263 Rb:=⟨an (by kernel_rfl),⟨_,underlying263,rfl⟩,fun _=>cZ underlying263 Tryz.stoodInHeld263 Tryz.eqGuardType263 (by decide)⟩
def Ra:cO:=⟨.dL [(0,3),(1,263),(3,3),(4,3)],5,48,.agg #[.int .i64 (0),.string Yp,.int .i64 (0),.int .i64 (0),.int .i64 (0)],lc⟩
theorem NK:ay prog 265 Ra:=⟨an (by kernel_rfl),⟨_,underlying265,rfl⟩,fun _=>cZ underlying265 Tryz.stoodInHeld265 Tryz.eqGuardType265 (by decide)⟩
def Q9:cO:=⟨.bb (.pointer 276),1,8,.pointer kw,li⟩
theorem NJ:ay prog 271 Q9:=⟨an (by kernel_rfl),⟨underlying271,rfl⟩,fun h=>nomatch h⟩
def Q8:cO:=⟨.bb (.slice 325),1,24,.slice kw 0 0,li⟩
theorem NI:ay prog 273 Q8:=⟨an (by kernel_rfl),⟨underlying273,rfl⟩,fun h=>nomatch h⟩
def Q7:cO:=⟨.bb (.slice 278),1,24,.slice kw 0 0,li⟩
theorem NH:ay prog 274 Q7:=⟨an (by kernel_rfl),⟨underlying274,rfl⟩,fun h=>nomatch h⟩
def Q6:cO:=⟨.dL [(0,273),(1,47),(2,274),(3,53)],4,96,.agg #[.slice kw 0 0,.slice kw 0 0,.slice kw 0 0,.slice kw 0 0],lc⟩
theorem NF:ay prog 276 Q6:=⟨an (by kernel_rfl),⟨_,underlying276,rfl⟩,fun _=>cZ underlying276 Tryz.stoodInHeld276 Tryz.eqGuardType276 (by decide)⟩
def Q5:cO:=⟨.dL [(0,3),(1,3),(2,3),(3,3)],4,32,.agg #[.int .i64 (0),.int .i64 (0),.int .i64 (0),.int .i64 (0)],lc⟩
theorem ND:ay prog 278 Q5:=⟨an (by kernel_rfl),⟨_,underlying278,rfl⟩,fun _=>cZ underlying278 Tryz.stoodInHeld278 Tryz.eqGuardType278 (by decide)⟩
def Q4:cO:=⟨.bb (.pointer 233),1,8,.pointer kw,li⟩
theorem NC:ay prog 280 Q4:=⟨an (by kernel_rfl),⟨underlying280,rfl⟩,fun h=>nomatch h⟩
def Q3:cO:=⟨.bb (.func #[21] #[4] li),1,8,.nilFunc,li⟩
theorem NB:ay prog 284 Q3:=⟨an (by kernel_rfl),⟨underlying284,rfl⟩,fun h=>nomatch h⟩
def QZ:cO:=⟨.arr 7 9,7,112,.agg #[.string Yp,.string Yp,.string Yp,.string Yp,.string Yp,.string Yp,.string Yp],li⟩
theorem Nz:ay prog 289 QZ:=⟨an (by kernel_rfl),underlying289,fun h=>nomatch h⟩
def QY:cO:=⟨.bb (.pointer 5),1,8,.pointer kw,li⟩
theorem Ny:ay prog 306 QY:=⟨an (by kernel_rfl),⟨underlying306,rfl⟩,fun h=>nomatch h⟩
def QX:cO:=⟨.arr 5 9,5,80,.agg #[.string Yp,.string Yp,.string Yp,.string Yp,.string Yp],li⟩
theorem Nx:ay prog 307 QX:=⟨an (by kernel_rfl),underlying307,fun h=>nomatch h⟩
def QW:cO:=⟨.dL [(0,9),(1,4)],2,24,.agg #[.string Yp,.bool li],lc⟩
theorem Nw:ay prog 320 QW:=⟨an (by kernel_rfl),⟨_,underlying320,rfl⟩,fun _=>cZ underlying320 Tryz.stoodInHeld320 Tryz.eqGuardType320 (by decide)⟩
def QU:cO:=⟨.dL [(0,9),(1,3)],2,24,.agg #[.string Yp,.int .i64 (0)],lc⟩
theorem Nv:ay prog 325 QU:=⟨an (by kernel_rfl),⟨_,underlying325,rfl⟩,fun _=>cZ underlying325 Tryz.stoodInHeld325 Tryz.eqGuardType325 (by decide)⟩
def QS:cO:=⟨.bb (.unsafePointer),1,8,.pointer kw,li⟩
theorem Nu:ay prog 327 QS:=⟨an (by kernel_rfl),⟨underlying327,rfl⟩,fun h=>nomatch h⟩
def QR:cO:=⟨.arr 24 5,24,24,.agg (.replicate 24 (.int .u8 (0))),li⟩
theorem Nt:ay prog 337 QR:=⟨an (by kernel_rfl),underlying337,fun h=>nomatch h⟩
def QQ:cO:=⟨.arr 20 205,20,160,.agg (.replicate 20 (.int .u64 (0))),li⟩
theorem Ns:ay prog 343 QQ:=⟨an (by kernel_rfl),underlying343,fun h=>nomatch h⟩
def QO:cO:=⟨.arr 65 5,65,65,.agg (.replicate 65 (.int .u8 (0))),li⟩
theorem Nr:ay prog 344 QO:=⟨an (by kernel_rfl),underlying344,fun h=>nomatch h⟩
def QN:cO:=⟨.arr 32 5,32,32,.agg (.replicate 32 (.int .u8 (0))),li⟩
theorem Nq:ay prog 345 QN:=⟨an (by kernel_rfl),underlying345,fun h=>nomatch h⟩
def QM:cO:=⟨.arr 64 5,64,64,.agg (.replicate 64 (.int .u8 (0))),li⟩
theorem Np:ay prog 346 QM:=⟨an (by kernel_rfl),underlying346,fun h=>nomatch h⟩
def JR:TT:=(.node (.node (.node (.node (.node (.node (.node .leaf 2 ty2 .leaf) 3 ty3 .leaf) 4 ty4 (.node (.node .leaf 5 ty5 .leaf) 9 ty9 .leaf)) 21 Vc (.node (.node (.node .leaf 22 Vb .leaf) 23 Va .leaf) 25 U9 (.node (.node .leaf 28 U8 .leaf) 30 U7 .leaf))) 32 U6 (.node (.node (.node (.node .leaf 33 U5 .leaf) 35 U4 .leaf) 37 U3 (.node (.node .leaf 47 U0 .leaf) 49 UZ .leaf)) 53 UY (.node (.node (.node .leaf 56 UX .leaf) 71 UW .leaf) 73 UU (.node .leaf 74 UT .leaf)))) 76 US (.node (.node (.node (.node (.node .leaf 80 UR .leaf) 83 UQ .leaf) 84 UP (.node (.node .leaf 88 UO .leaf) 91 UN .leaf)) 92 UL (.node (.node (.node .leaf 94 UK .leaf) 98 UJ .leaf) 99 UI (.node (.node .leaf 101 RR .leaf) 103 RQ .leaf))) 105 RP (.node (.node (.node (.node .leaf 110 RO .leaf) 113 RN .leaf) 143 RL (.node (.node .leaf 148 RK .leaf) 151 RJ .leaf)) 155 RI (.node (.node (.node .leaf 156 RH .leaf) 164 RG .leaf) 166 RF (.node .leaf 167 RE .leaf))))) 179 RD (.node (.node (.node (.node (.node (.node .leaf 181 RC .leaf) 185 RB .leaf) 186 RA (.node (.node .leaf 195 Rz .leaf) 203 Ry .leaf)) 205 Rx (.node (.node (.node .leaf 207 Rw .leaf) 215 Rv .leaf) 217 Ru (.node (.node .leaf 218 Rt .leaf) 220 Rs .leaf))) 222 Rr (.node (.node (.node (.node .leaf 233 Rq .leaf) 237 Rp .leaf) 241 Ro (.node (.node .leaf 242 Rn .leaf) 243 Rm .leaf)) 245 Rl (.node (.node (.node .leaf 247 Rk .leaf) 252 Rj .leaf) 253 Ri (.node .leaf 254 Rh .leaf)))) 255 Rf (.node (.node (.node (.node (.node .leaf 257 Rc .leaf) 263 Rb .leaf) 265 Ra (.node (.node .leaf 271 Q9 .leaf) 273 Q8 .leaf)) 274 Q7 (.node (.node (.node .leaf 276 Q6 .leaf) 278 Q5 .leaf) 280 Q4 (.node .leaf 284 Q3 .leaf))) 289 QZ (.node (.node (.node (.node .leaf 306 QY .leaf) 307 QX .leaf) 320 QW (.node (.node .leaf 325 QU .leaf) 327 QS .leaf)) 337 QR (.node (.node (.node .leaf 343 QQ .leaf) 344 QO .leaf) 345 QN (.node .leaf 346 QM .leaf))))))
theorem E3:JR.WI (ay prog):=⟨Oe,⟨SE,⟨SQ,⟨SY,⟨UF,⟨UG,⟨UH,ac,ac⟩,ac⟩,⟨UD,⟨UE,ac,ac⟩,ac⟩⟩,⟨SU,⟨SV,⟨SW,ac,ac⟩,ac⟩,⟨SR,⟨SS,ac,ac⟩,ac⟩⟩⟩,⟨SJ,⟨SN,⟨SO,⟨SP,ac,ac⟩,ac⟩,⟨SK,⟨SM,ac,ac⟩,ac⟩⟩,⟨SG,⟨SH,⟨SI,ac,ac⟩,ac⟩,⟨SF,ac,ac⟩⟩⟩⟩,⟨Ot,⟨Sv,⟨Sz,⟨SA,⟨SC,ac,ac⟩,ac⟩,⟨Sx,⟨Sy,ac,ac⟩,ac⟩⟩,⟨Sr,⟨Ss,⟨Su,ac,ac⟩,ac⟩,⟨Ou,⟨Ov,ac,ac⟩,ac⟩⟩⟩,⟨Oj,⟨On,⟨Oo,⟨Oq,ac,ac⟩,ac⟩,⟨Ol,⟨Om,ac,ac⟩,ac⟩⟩,⟨Og,⟨Oh,⟨Oi,ac,ac⟩,ac⟩,⟨Of,ac,ac⟩⟩⟩⟩⟩,⟨NO,⟨NZ,⟨N8,⟨Ob,⟨Oc,⟨Od,ac,ac⟩,ac⟩,⟨N9,⟨Oa,ac,ac⟩,ac⟩⟩,⟨N5,⟨N6,⟨N7,ac,ac⟩,ac⟩,⟨N3,⟨N4,ac,ac⟩,ac⟩⟩⟩,⟨NT,⟨NW,⟨NX,⟨NY,ac,ac⟩,ac⟩,⟨NU,⟨NV,ac,ac⟩,ac⟩⟩,⟨NQ,⟨NR,⟨NS,ac,ac⟩,ac⟩,⟨NP,ac,ac⟩⟩⟩⟩,⟨Nz,⟨NH,⟨NK,⟨NL,⟨NN,ac,ac⟩,ac⟩,⟨NI,⟨NJ,ac,ac⟩,ac⟩⟩,⟨NC,⟨ND,⟨NF,ac,ac⟩,ac⟩,⟨NB,ac,ac⟩⟩⟩,⟨Nt,⟨Nw,⟨Nx,⟨Ny,ac,ac⟩,ac⟩,⟨Nu,⟨Nv,ac,ac⟩,ac⟩⟩,⟨Nq,⟨Nr,⟨Ns,ac,ac⟩,ac⟩,⟨Np,ac,ac⟩⟩⟩⟩⟩⟩
def pC:Ty:=JR.find
theorem ab:cC prog pC:=TT.yu E3
theorem cz:prog.follows .mixedOrders=lc:=rfl
theorem ox{Q:AQ}{nt:Nat}{k:List KI}{s:AS}{C:Prop}{b:Nat}{st:Stop}(h:b4 pC ⟨fun _=>kw,0,li⟩ 400 nt k s True=jp (C,b,st))(hC:C)(hg:gh prog b Q st):GO prog nt k Q s:=aQ cz ab 400 h hC hg
theorem gA{Q:AQ}{nt:Nat}{k:List KI}{s:AS}{C:Prop}{b:Nat}{st:Stop}(h:b4 pC ⟨fun _=>kw,0,li⟩ 400 nt k s True=jp (C,b,st))(hg:gh prog b Q st)
  (hC:C:=by(repeat' (first|exact ac|exact rfl|exact aG.refl _|exact aG.bk (by assumption)|apply YW))<;>first|omega|exact fL (fun _=>rfl) _|(simp only[YK];omega)|(simp;done)|(simp;omega)):GO prog nt k Q s:=aQ cz ab 400 h hC hg
theorem gM(N:Nat){Q:AQ}{nt:Nat}{k:List KI}{s:AS}{C:Prop}{b:Nat}{st:Stop}(h:b4 pC ⟨fun _=>kw,0,li⟩ N nt k s True=jp (C,b,st))(hg:gh prog b Q st)
  (hC:C:=by(repeat' (first|exact ac|exact rfl|exact aG.refl _|exact aG.bk (by assumption)|apply YW))<;>first|omega|exact fL (fun _=>rfl) _|(simp only[YK];omega)|(simp;done)|(simp;omega)):GO prog nt k Q s:=aQ cz ab N h hC hg
theorem zp{nt:Nat}{Q:AQ}{k:List KI}{s:AS}{all rest:List Oper}{o:Oper}{c:Call}{g:FuncId}{args:List PV}{r:PV}{s':AS}(hc:Al.Pure prog g args r)(h:GO prog nt (.ops all rest::k) Q s')(ho:o.op= .call c:=by exact rfl)(hg:o.guard=kw:=by exact rfl)(ha:bP s.f c=jp (g,args):=by exact rfl)(b:bq 0 args=lc:=by exact rfl)(hr:r.low 0=lc:=by exact rfl)(hp:putDst nt o r s=jp s':=by exact rfl):GO prog nt (.ops all (o::rest)::k) Q s:=bn hc ho hg ha b hr hp h
theorem zL{ty:Ty}{d:List ResultVar}{e:Exit}{s:AS}{r r0:PV}(b:aG r0 r)(he:e= .normal∨e= .ret:=by first|exact .inr Z|exact .inl Z)(h:lv ty s d=jp r0:=by exact rfl):EW ty d r e s:=jv he h b
theorem zq{nt:Nat}{Q:AQ}{k:List KI}{s:AS}{all rest:List Oper}{o:Oper}{c:Call}{g:FuncId}{asv args:List PV}{os:List AO}{r:PV}{u:AH}{x:Nat}{s':AS}(L:List Nat)(hc:cj prog g args os r u x)(h:GO prog nt (.ops all rest::k) Q s')(ho:o.op= .call c:=by exact rfl)(hg:o.guard=kw:=by exact rfl)(ha:bP s.f c=jp (g,asv):=by exact rfl)(hn:bT L=lc:=by exact rfl)(y:L.all (fun j=>YD j s.nx)=lc:=by exact rfl)(d:L.map s.h.get=os.map fun o=>jp (o.c6 (sig L s.nx)):=by exact rfl)(b:asv=dZ (sig L s.nx) args:=by exact rfl)(hp:putDst nt o (r.c6 (sig L s.nx)) (aL s L u x)=jp s':=by exact rfl):GO prog nt (.ops all (o::rest)::k) Q s:=iO L hc ho hg ha hn y d b hp h
theorem zd{nt:Nat}{Q:AQ}{k:List KI}{s:AS}{all:List Oper}{todo pend:List (Nat×Oper)}{j:Nat}{o:Oper}{c:Call}{g:FuncId}{asv args:List PV}{os:List AO}{r:PV}{A:AH}{B:Nat}{s':AS}{y u:Prop}(L:List Nat)(hc:cj prog g args os r A B)(h:GO prog nt (.cP all (todo.filter fun x=>!YJ x.1 j) (bg pend o)::k) Q s')(hrd:eJ todo=[(j,o)]:=by exact rfl)(ho:o.op= .call c:=by exact rfl)(ha:bP s.f c=jp (g,asv):=by exact rfl)(hn:bT L=lc:=by exact rfl)(C:L.all (fun j=>YD j s.nx)=lc:=by exact rfl)(d:L.map s.h.get=os.map fun o=>jp (o.c6 (sig L s.nx)):=by exact rfl)(b:asv=dZ (sig L s.nx) args:=by exact rfl)(hp:putDst nt o (r.c6 (sig L s.nx)) (aL s L A B)=jp s':=by exact rfl)(hg:cE nt all s.f o=jp lc:=by exact rfl)(hpb:iW all pend o=lc:=by exact rfl)(hE:oA todo [j]=lc:=by exact rfl)(hag:qW pC nt all s todo pend=jp y:=by exact rfl)(hCA:y:=by(repeat' (first|exact ac|exact rfl|exact aG.refl _|exact aG.bk (by assumption)|apply YW))<;>first|omega|(simp only[YK];omega)|(simp;done)|(simp;omega))(hag2:dK pC nt all s' (bg pend o)=jp u:=by exact rfl)(hC2:u:=by(repeat' (first|exact ac|exact rfl|exact aG.refl _|exact aG.bk (by assumption)|apply YW))<;>first|omega|(simp only[YK];omega)|(simp;done)|(simp;omega)):GO prog nt (.cP all todo pend::k) Q s:=xc ab L hc hrd ho ha hn C d b hp hg hpb hE hag hCA hag2 hC2 h
theorem kR{nt:Nat}{Q:AQ}{k:List KI}{s:AS}{all:List Oper}{todo pend:List (Nat×Oper)}{j:Nat}{o:Oper}{c:Call}{g:FuncId}{asv args:List PV}{r:PV}{s':AS}{u d:Prop}(hc:Al.Pure prog g args r)(h:GO prog nt (.cP all (todo.filter fun x=>!YJ x.1 j) (bg pend o)::k) Q s')(hrd:eJ todo=[(j,o)]:=by exact rfl)(ho:o.op= .call c:=by exact rfl)(ha:bP s.f c=jp (g,asv):=by exact rfl)(b:asv=dZ (sig [] s.nx) args:=by exact rfl)(hp:putDst nt o (r.c6 (sig [] s.nx)) (aL s [] [] 0)=jp s':=by exact rfl)(hg:cE nt all s.f o=jp lc:=by exact rfl)(hpb:iW all pend o=lc:=by exact rfl)(hE:oA todo [j]=lc:=by exact rfl)(hag:qW pC nt all s todo pend=jp u:=by exact rfl)(hCA:u:=by(repeat' (first|exact ac|exact rfl|exact aG.refl _|exact aG.bk (by assumption)|apply YW))<;>first|omega|(simp only[YK];omega)|(simp;done)|(simp;omega))(hag2:dK pC nt all s' (bg pend o)=jp d:=by exact rfl)(hC2:d:=by(repeat' (first|exact ac|exact rfl|exact aG.refl _|exact aG.bk (by assumption)|apply YW))<;>first|omega|(simp only[YK];omega)|(simp;done)|(simp;omega)):GO prog nt (.cP all todo pend::k) Q s:=xc ab [] hc.W3 hrd ho ha Z Z Z b hp hg hpb hE hag hCA hag2 hC2 h
theorem zW{n0:Nat}{L:List Nat}{s t:AS}(hh:qY t.nx (sg n0 L) s.h t.h)(h1:YJ t.nx (n0+L.length)=lc:=by exact rfl)(h2:aaf n0 s.nx=lc:=by exact rfl)(h3:L.all (fun j=>YD j s.nx)=lc:=by exact rfl)(hf:Gp t.nx (sg n0 L) s.f t.f:=by repeat' (first|exact ac|exact aG.refl _|exact rfl|apply YW))(b:bT (eB (sg n0 L) t.h)=lc:=by exact rfl):Wk n0 L s t:=wk h1 h2 h3 hf hh b
theorem zM{n0:Nat}{L:List Nat}{s t:AS}(hf:Gp t.nx (sg n0 L) s.f t.f)(hh:qY t.nx (sg n0 L) s.h t.h)(h1:YJ t.nx (n0+L.length)=lc:=by exact rfl)(h2:aaf n0 s.nx=lc:=by exact rfl)(h3:L.all (fun j=>YD j s.nx)=lc:=by exact rfl)(b:bT (eB (sg n0 L) t.h)=lc:=by exact rfl):Wk n0 L s t:=wk h1 h2 h3 hf hh b
theorem zK{n i:Nat}{σ:Nat->Nat}{h r:AH}{cs:List PV}{T0:Option TypeId}{c:List IV}(hr:qY n σ h r)(ho:h.get (σ i)=jp (.cells cs T0):=by exact rfl)(he:cs=c.map .iv:=by exact rfl)(hi:YD i n=lc:=by exact rfl):qY n σ h ((i,jp (ak c))::r):=hC ho he hi hr
theorem zS{n i:Nat}{σ:Nat->Nat}{h r:AH}{α:Type}{sz:Nat}{es:List (List PV)}{l:List α}{f:α->List IV}(hr:qY n σ h r)(ho:h.get (σ i)=jp (.row sz es):=by exact rfl)(he:es=l.map fun x=>(f x).map .iv:=by exact rfl)(hi:YD i n=lc:=by exact rfl):qY n σ h ((i,jp (aC sz l f))::r):=hR ho he hi hr
theorem zI{a b:Prop}(l:a)(r:b):a∧b:=⟨l,r⟩
theorem zO{n i:Nat}{σ:Nat->Nat}{h r:AH}{o:AO}(hr:qY n σ h r)(he: ∃p,h.get (σ i)=jp p∧gi p (o.c6 σ):=by exact⟨_,rfl,.of_eq Z⟩)(hi:i<n:=by exact Yd Z)(b:o.low n:=by exact rfl):qY n σ h ((i,jp o)::r):=⟨he,hi,b,hr⟩
theorem zD{ty:Ty}{s:AS}{l:List ResultVar}{m:Nat}{r r0:PV}{h:AH}{n:Nat}{e:Exit}(L:List Nat)(hr:lv ty s l=jp r0)(hw:Wk m L ⟨[(0,r0)],s.h,s.nx⟩ ⟨[(0,r)],h,n⟩)(he:e= .normal∨e= .ret:=by first|exact .inr Z|exact .inl Z):Ct ty l m r h n e s:=fp L he hr hw
theorem zU{ty:Ty}{d:List ResultVar}{nt:Nat}{k:List KI}{s s':AS}{e:Exit}{C:Prop}{b:Nat}{r r0:PV}(h:b4 pC ⟨fun _=>kw,0,li⟩ 400 nt k s True=jp (C,b,.fin e s'))(hr:r0=r:=by exact rfl)(he:e= .normal∨e= .ret:=by first|exact .inr Z|exact .inl Z)(h1:lv ty s' d=jp r0:=by exact rfl)(hC:C:=by(repeat' (first|exact ac|exact rfl|exact aG.refl _|exact aG.bk (by assumption)|apply YW))<;>first|omega|exact fL (fun _=>rfl) _|(simp only[YK];omega)|(simp;done)|(simp;omega)):GO prog nt k (EW ty d r) s:=gA h (jv he h1 (.of_eq hr)) hC
theorem zC{n i:Nat}{σ:Nat->Nat}{h r:AH}{V:Type}{kc:KC}{ev:V->IV}{z:V}{j:Value}{b:PV->V}{m d:List (kc.K×V)}(hr:qY n σ h r)(ho:h.get (σ i)=jp (.map kc ev z j b m):=by exact rfl)(he:m=d:=by exact rfl)(hi:YD i n=lc:=by exact rfl):qY n σ h ((i,jp (.map kc ev z j b d))::r):=hM ho he hi hr
theorem zJ{Q:AQ}{nt:Nat}{k:List KI}{s:AS}{C:Prop}{d:Nat}{st:Stop}{a b:Prop}(h:b4 pC ⟨fun _=>kw,0,li⟩ 400 nt k s True=jp (C,d,st))(e:gh prog d Q st=(a∧b))(l:a)(r:b)(hC:C:=by(repeat' (first|exact ac|exact rfl|exact aG.refl _|exact aG.bk (by assumption)|apply YW))<;>first|omega|exact fL (fun _=>rfl) _|(simp only[YK];omega)|(simp;done)|(simp;omega)):GO prog nt k Q s:=gA h (e.mpr ⟨l,r⟩) hC
theorem zE{Q:AQ}{nt:Nat}{k:List KI}{s:AS}{C:Prop}{d:Nat}{st:Stop}{a b:Prop}(h:b4 pC ⟨fun _=>kw,0,li⟩ 400 nt k s True=jp (C,d,st))(e:gh prog d Q st=(a∧b))(r:b)(l:a)(hC:C:=by(repeat' (first|exact ac|exact rfl|exact aG.refl _|exact aG.bk (by assumption)|apply YW))<;>first|omega|exact fL (fun _=>rfl) _|(simp only[YK];omega)|(simp;done)|(simp;omega)):GO prog nt k Q s:=gA h (e.mpr ⟨l,r⟩) hC
theorem zA{b:Bool}(h:(!b)=lc):b=li:=by simpa using h
theorem zB{b:Bool}(h:(!b)=li):b=lc:=by simpa using h
theorem zX{p:Prop}[Decidable p](h:(!decide p)=lc): ¬p:=by simpa using h
theorem zY{p:Prop}[Decidable p](h:(!decide p)=li):p:=by simpa using h
theorem zT{p:Prop}[Decidable p](h:decide p=lc):p:=of_decide_eq_true h
theorem zF{p:Prop}[Decidable p](h:decide p=li): ¬p:=of_decide_eq_false h
theorem zN{a b:Nat}(h:lw ((a:Int)<(b:Int))=lc):a<b:=Int.ofNat_lt.1 (of_decide_eq_true h)
theorem zG{a b:Nat}(h:lw ((a:Int)<(b:Int))=li):b<=a:=aap fun hh=>absurd (Int.ofNat_lt.2 hh) (of_decide_eq_false h)
end Go.Proofs.YtflegjieadkonaaGreatDoor
namespace Go.Proofs.YtflegjieadkonaaGreatDoor
open Go Go.Al
abbrev aj:=ByteArray
structure tE where
 kind:Int
 num:Int
 sym:aj
 deriving Inhabited,DecidableEq
structure Term where
 kind:Int
 var:aj
 val:tE
 deriving Inhabited,DecidableEq
inductive Expr where
 |mk (kind:Int) (var:aj) (val:tE) (op:Int) (args:List Expr)
instance:Inhabited Expr:=⟨.mk 0 Yp ⟨0,0,Yp⟩ 0 []⟩
def Expr.kind:Expr->Int| .mk k _ _ _ _=>k
def Expr.var:Expr->aj| .mk _ v _ _ _=>v
def Expr.val:Expr->tE| .mk _ _ v _ _=>v
def Expr.op:Expr->Int| .mk _ _ _ o _=>o
def Expr.args:Expr->List Expr| .mk _ _ _ _ a=>a
structure Atom where
 rel:aj
 ae:List Term
 deriving Inhabited,DecidableEq
structure Pos where
 line:Int
 HN:Int
 deriving Inhabited,DecidableEq
inductive Lit where
 |mk (kind:Int) (atom:Atom) (op:Int) (left right:Expr) (dY:Int) (bp:aj) (kQ:Expr) (au:List Lit) (at_:Pos)
instance:Inhabited Lit:=⟨.mk 0 io 0 io io 0 Yp io [] ⟨0,0⟩⟩
def Lit.kind:Lit->Int| .mk k _ _ _ _ _ _ _ _ _=>k
def Lit.atom:Lit->Atom| .mk _ a _ _ _ _ _ _ _ _=>a
def Lit.op:Lit->Int| .mk _ _ o _ _ _ _ _ _ _=>o
def Lit.left:Lit->Expr| .mk _ _ _ l _ _ _ _ _ _=>l
def Lit.right:Lit->Expr| .mk _ _ _ _ r _ _ _ _ _=>r
def Lit.dY:Lit->Int| .mk _ _ _ _ _ f _ _ _ _=>f
def Lit.bp:Lit->aj| .mk _ _ _ _ _ _ v _ _ _=>v
def Lit.kQ:Lit->Expr| .mk _ _ _ _ _ _ _ o _ _=>o
def Lit.au:Lit->List Lit| .mk _ _ _ _ _ _ _ _ b _=>b
def Lit.at:Lit->Pos| .mk _ _ _ _ _ _ _ _ _ p=>p
structure fa where
 func:Int
 var:aj
 ef:Expr
 body:List Lit
 deriving Inhabited
def Lit.agg(l:Lit):fa:=⟨l.dY,l.bp,l.kQ,l.au⟩
structure aq where
 head:Atom
 body:List Lit
 at_:Pos
 deriving Inhabited
structure Decl where
 name:aj
 types:List Int
 at_:Pos
 deriving Inhabited
structure Prog where
 aB:List Decl
 rules:List aq
 deriving Inhabited
structure Fact where
 rel:aj
 args:List tE
 deriving Inhabited
def tE.c(v:tE):List IV:=[iI v.kind,iI v.num,iS v.sym]
def Term.c(t:Term):List IV:=[iI t.kind,iS t.var,iI t.val.kind,iI t.val.num,iS t.val.sym]
def cR(s:aj):List IV:=[iS s]
def aY(n:Int):List IV:=[iI n]
abbrev strs(l:List aj):IV:=cT 1 l cR
def Atom.c(a:Atom):List IV:=[iS a.rel,cT 5 a.ae Term.c]
mutual
def Expr.cr:Expr->List IV
 | .mk k v val op args=> [iI k,iS v,iI val.kind,iI val.num,iS val.sym,iI op,.dp 7 args.length (fun j=>(Expr.Ci args).getD j [])]
def Expr.Ci:List Expr->List (List IV)
 | []=> []
 |e::r=>e.cr::Expr.Ci r
end
def Expr.c(e:Expr):List IV:=[iI e.kind,iS e.var,iI e.val.kind,iI e.val.num,iS e.val.sym,iI e.op,.dp 7 e.args.length (fun j=>(Expr.Ci e.args).getD j [])]
def Expr.c1(e:Expr):List IV:=[iI e.kind,iS e.var,iI e.val.kind,iI e.val.num,iS e.val.sym,iI e.op,cT 7 e.args Expr.c]
theorem Expr.Mu(e:Expr):e.cr=e.c:=by cases e;rfl
theorem Expr.tx: ∀(l:List Expr) (k:Nat),k<l.length->(Expr.Ci l).getD k []=(l.getD k io).c
 |e::r,0,_=>by simp[Expr.Ci,Expr.Mu]
 |e::r,k+1,h=>by simpa[Expr.Ci]using Expr.tx r k (by simpa using h)
 | [],k,h=>by simp at h
theorem TO(e:Expr):nT (.dp 7 e.args.length (fun j=>(Expr.Ci e.args).getD j [])) (cT 7 e.args Expr.c):= .dp Z (Expr.tx e.args)
theorem HG(e:Expr):nT (cT 7 e.args Expr.c) (.dp 7 e.args.length (fun j=>(Expr.Ci e.args).getD j [])):= .dp Z (fun k b=>(Expr.tx e.args k b).symm)
mutual
def Lit.cr:Lit->List IV
 | .mk kind atom op left right dY bp kQ au at_=>
  iI kind::(atom.c++(iI op::(left.c++(right.c++(iI dY::iS bp::(kQ.c++ [.dp 30 au.length (fun j=>(Lit.Ci au).getD j []),iI at_.line,iI at_.HN]))))))
def Lit.Ci:List Lit->List (List IV)
 | []=> []
 |e::r=>e.cr::Lit.Ci r
end
def Lit.cw(l:Lit)(b:IV):List IV:=
 [iI l.kind,iS l.atom.rel,cT 5 l.atom.ae Term.c,iI l.op,
  iI l.left.kind,iS l.left.var,iI l.left.val.kind,iI l.left.val.num,iS l.left.val.sym,iI l.left.op,.dp 7 l.left.args.length (fun j=>(Expr.Ci l.left.args).getD j []),
  iI l.right.kind,iS l.right.var,iI l.right.val.kind,iI l.right.val.num,iS l.right.val.sym,iI l.right.op,.dp 7 l.right.args.length (fun j=>(Expr.Ci l.right.args).getD j []),
  iI l.dY,iS l.bp,
  iI l.kQ.kind,iS l.kQ.var,iI l.kQ.val.kind,iI l.kQ.val.num,iS l.kQ.val.sym,iI l.kQ.op,.dp 7 l.kQ.args.length (fun j=>(Expr.Ci l.kQ.args).getD j []),
  b,iI l.at.line,iI l.at.HN]
def uI(l:List Lit):IV:= .dp 30 l.length (fun j=>(Lit.Ci l).getD j [])
def Lit.c(l:Lit):List IV:=l.cw (uI l.au)
abbrev lits(l:List Lit):IV:=cT 30 l Lit.c
def Lit.c1(l:Lit):List IV:=l.cw (lits l.au)
theorem Lit.Mu(e:Lit):e.cr=e.c:=by cases e;rfl
theorem Lit.tx: ∀(l:List Lit) (k:Nat),k<l.length->(Lit.Ci l).getD k []=(l.getD k io).c
 |e::r,0,_=>by simp[Lit.Ci,Lit.Mu]
 |e::r,k+1,h=>by simpa[Lit.Ci]using Lit.tx r k (by simpa using h)
 | [],k,h=>by simp at h
theorem ly(l:List Lit):nT (uI l) (lits l):= .dp Z (Lit.tx l)
theorem FL(l:List Lit):nT (lits l) (uI l):= .dp Z (fun k b=>(Lit.tx l k b).symm)
def fa.cw(a:fa)(b:IV):List IV:=[iI a.func,iS a.var,iI a.ef.kind,iS a.ef.var,iI a.ef.val.kind,iI a.ef.val.num,iS a.ef.val.sym,iI a.ef.op,.dp 7 a.ef.args.length (fun j=>(Expr.Ci a.ef.args).getD j []),b]
def fa.c(a:fa):List IV:=a.cw (uI a.body)
def fa.c1(a:fa):List IV:=a.cw (lits a.body)
def aq.c(r:aq):List IV:=[iS r.head.rel,cT 5 r.head.ae Term.c,lits r.body,iI r.at_.line,iI r.at_.HN]
def Decl.c(r:Decl):List IV:=[iS r.name,cT 1 r.types aY,iI r.at_.line,iI r.at_.HN]
def Prog.c(p:Prog):List IV:=[cT 4 p.aB Decl.c,cT 5 p.rules aq.c]
def Fact.c(f:Fact):List IV:=[iS f.rel,cT 3 f.args tE.c]
theorem Expr.x9(e:Expr):aG (ag e.c) (ag e.c1):= .agg ⟨.refl _,.refl _,.refl _,.refl _,.refl _,.refl _,.iv (TO e),ac⟩
theorem Expr.IZ(e:Expr):aG (ag e.c1) (ag e.c):= .agg ⟨.refl _,.refl _,.refl _,.refl _,.refl _,.refl _,.iv (HG e),ac⟩
theorem Lit.HM(l:Lit){b b':IV}(h:nT b b'):aG (ag (l.cw b)) (ag (l.cw b')):=
 .agg ⟨.refl _,.refl _,.refl _,.refl _,.refl _,.refl _,.refl _,.refl _,.refl _,.refl _,.refl _,.refl _,.refl _,.refl _,.refl _,.refl _,.refl _,.refl _,.refl _,.refl _,.refl _,.refl _,.refl _,.refl _,.refl _,.refl _,.refl _,.iv h,.refl _,.refl _,ac⟩
theorem Lit.x9(l:Lit):aG (ag l.c) (ag l.c1):=l.HM (ly _)
theorem fa.HM(l:fa){b b':IV}(h:nT b b'):aG (ag (l.cw b)) (ag (l.cw b')):=
 .agg ⟨.refl _,.refl _,.refl _,.refl _,.refl _,.refl _,.refl _,.refl _,.refl _,.iv h,ac⟩
theorem fa.x9(l:fa):aG (ag l.c) (ag l.c1):=l.HM (ly _)
theorem fa.IZ(l:fa):aG (ag l.c1) (ag l.c):=l.HM (FL _)
mutual
def Expr.size:Expr->Nat
 | .mk _ _ _ _ args=>1+Expr.aA args
def Expr.aA:List Expr->Nat
 | []=>0
 |e::r=>e.size+Expr.aA r
end
mutual
def Lit.size:Lit->Nat
 | .mk _ a _ l r _ _ o b _=>2+a.ae.length+l.size+r.size+o.size+Lit.aA b
def Lit.aA:List Lit->Nat
 | []=>0
 |e::r=>e.size+Lit.aA r
end
theorem Expr.size_eq(e:Expr):e.size=1+Expr.aA e.args:=by cases e;rfl
theorem Lit.size_eq(l:Lit):l.size=2+l.atom.ae.length+l.left.size+l.right.size+l.kQ.size+Lit.aA l.au:=by cases l;rfl
theorem Expr.aS: ∀(l:List Expr) (k:Nat),k<l.length->(l.getD k io).size<=Expr.aA l
 |e::r,0,_=>by simp[Expr.aA]
 |e::r,k+1,h=>by
  have:=Expr.aS r k (by simpa using h);simp only[ZE,Expr.aA];omega
 | [],k,h=>by simp at h
theorem Lit.aS: ∀(l:List Lit) (k:Nat),k<l.length->(l.getD k io).size<=Lit.aA l
 |e::r,0,_=>by simp[Lit.aA]
 |e::r,k+1,h=>by
  have:=Lit.aS r k (by simpa using h);simp only[ZE,Lit.aA];omega
 | [],k,h=>by simp at h
theorem Expr.size_pos(e:Expr):1<=e.size:=by rw[e.size_eq];omega
theorem Lit.size_pos(e:Lit):2<=e.size:=by rw[e.size_eq];omega
theorem Expr.ax: ∀(l:List Expr),l.length<=Expr.aA l
 | []=>Ym _
 |e::r=>by have:=e.size_pos;have:=Expr.ax r;simp only[YT,Expr.aA];omega
theorem Lit.ax: ∀(l:List Lit),l.length<=Lit.aA l
 | []=>Ym _
 |e::r=>by have:=e.size_pos;have:=Lit.ax r;simp only[YT,Lit.aA];omega
def aq.size(r:aq):Nat:=r.head.ae.length+Lit.aA r.body
end Go.Proofs.YtflegjieadkonaaGreatDoor
namespace Go.Proofs.YtflegjieadkonaaGreatDoor
open Go Go.Al Go.Proofs.Tryz
def ch(l:List aj)(s:aj):Bool:=l.any fun x=>lw (x=s)
theorem Js(l:List aj)(s:aj):Pure prog 212 [.iv (strs l),pS s] (pB (ch l s)):=by
 refine p6 (bN func212 Z (by decide)) ⟨_,_,Yy⟩ fun d=>?_;simp only[maxLen]at d;refine ad ab func212 Z (by decide) ntmps212 Z (by simp) Z ?_;refine aQ cz ab 100 Z ac ?_;refine ar 0 l.length (Yl _) (fun i=>⟨[(0,.iv (strs l)),(1,pS s),(5,pI i)],[],0⟩) (fun i=>ch (l.take i) s=li) [] Z (kT Z Z (bv (bv (bv ac))) Z) fun i x u=>?_;refine aQ cz ab 100 Z ac ?_;refine zI (fun b=>?_) (fun b=>?_)
 .have b:=ci b;refine aQ cz ab 100 Z ⟨ac,by omega⟩ ?_;refine zI (fun j=>?_) (fun j=>?_)
  .refine aQ cz ab 100 Z ac ?_;refine jv (.inr Z) Z (.of_eq ?_);rw[ch,ji b j]
  .refine aQ cz ab 100 Z ⟨ac,by unfold jf;omega⟩ ?_;exact⟨b,(a7 u b).2 j,[],kT Z Z (bv (bv (bv ac))) Z⟩
 .have b:=co b;refine aQ cz ab 100 Z ac ?_;refine jv (.inr Z) Z (.of_eq ?_);rw[ch,any_none u b]
def bO(s:aj)(a:List aj×Bool)(x:aj):List aj×Bool:=
 if(a.2||decide (x=s))=li∧(!(Op.bytesLess x.toList s.toList||decide (x=s)))=lc then(a.1++ [s]++ [x],lc) else(a.1++ [x],a.2||decide (x=s))
def bZ(l:List aj)(s:aj):List aj:=
 let r:=l.foldl (bO s) ([],li)
 if r.2 then r.1 else r.1++ [s]
def iH(l:List aj)(s:aj)(i:Nat):List aj×Bool:=(l.take i).foldl (bO s) ([],li)
theorem sA{l:List aj}{s:aj}{i:Nat}(h:i<l.length):iH l s (i+1)=bO s (iH l s i) (l.getD i io):=cF h
theorem sB{l:List aj}{s:aj}{i:Nat}(h:l.length<=i):bZ l s=if(iH l s i).2 then(iH l s i).1 else(iH l s i).1++ [s]:=by
 simp only[iH,ma h];rfl
theorem Bi(s:aj)(a:List aj×Bool)(x:aj)(n:Nat)(h:a.1.length<=n+(if a.2 then 1 else 0)):(bO s a x).1.length<=(n+1)+(if(bO s a x).2 then 1 else 0):=by
 obtain⟨b,a2⟩:=a;simp only[bO];cases a2<;>cases hd:lw (x=s)<;>simp only[Zt,aaK,ZH,if_false,if_true,Z9,aaA,false_and,true_and,reduceCtorEq]at h ⊢ <;>(try split)<;>simp at h ⊢ <;>omega
theorem q6(l:List aj)(s:aj): ∀i,i<=l.length->(iH l s i).1.length<=i+(if(iH l s i).2 then 1 else 0)
 |0,_=>by simp[iH]
 |i+1,h=>by
  rw[sA (by omega)];exact Bi s _ _ i (q6 l s i (by omega))
theorem Na(l:List aj)(s:aj)(hb:l.length<=1000000000000):Pure prog 111 [.iv (strs l),pS s] (.iv (strs (bZ l s))):=by
 refine ad ab func111 Z (by decide) ntmps111 Z (by simp) Z ?_;refine aQ cz ab 100 Z ac ?_;refine dF 5 1 Z ?_;refine ar 0 l.length (Yl _) (fun i=>⟨[(0,.iv (strs l)),(1,pS s),(5,.sl 1 0 (iH l s i).1.length 1),(6,pB (iH l s i).2),(7,pI i)],[(1,jp (aC 1 (iH l s i).1 cR))],2⟩) (fun _=>True) [0] ac
  (zM (bv (bv (bv ⟨.rK Z,rfl,bv trivial⟩))) (zS trivial)) fun i C D=>?_
 have y:=q6 l s i C;have B:(iH l s i).1.length<=i+1:=by split at y<;>omega
 refine aQ cz ab 100 Z ac ?_;refine zI (fun j=>?_) (fun j=>?_)
 .have j:=ci j;have b:=sA (s:=s) j;simp only[bO]at b;refine aQ cz ab 100 Z ⟨ac,by omega⟩ ?_;refine zI (fun d=>?_) (fun d=>?_)
  .have d:lw (l.getD i io=s)=lc:=d;rw[d,aaA,be (by simp)]at b;refine aQ cz ab 300 Z ?_ ⟨j,ac,[3],zM (bv (bv ⟨.row (by rw[b];simp),rfl,.rK (by rw[b]),rfl,bv ac⟩)) (hR Z (by rw[b];simp;rfl) Z ac)⟩
   repeat' (first|exact ac|exact rfl|apply YW)
   all_goals first|omega|(simp;omega)|simp
  .have d:lw (l.getD i io=s)=li:=d;rw[d,Z9,Z9]at b;refine aQ cz ab 300 Z ac ?_;refine zI (fun A=>?_) (fun A=>?_)
   .have x:(iH l s i).2=li:=by simpa using A
    refine aQ cz ab 300 Z ?_ ?_
    .repeat' (first|exact ac|exact rfl|apply YW)
     all_goals omega
    refine zI (fun u=>?_) (fun u=>?_)
    .have u:(!(Op.bytesLess (l.getD i io).toList s.toList||decide (l.getD i io=s)))=lc:=u;rw[d,Z9]at u;rw[am ⟨x,u⟩]at b;refine aQ cz ab 300 Z ?_ ⟨j,ac,[5],zM (bv (bv ⟨.row (by rw[b];simp),rfl,.rK (by rw[b]),rfl,bv ac⟩)) (hR Z (by rw[b,Yk,Yk];rfl) Z ac)⟩
     repeat' (first|exact ac|exact rfl|apply YW)
     all_goals first|omega|(simp;omega)|simp
    .have u:(!(Op.bytesLess (l.getD i io).toList s.toList||decide (l.getD i io=s)))=li:=u;rw[d,Z9]at u;rw[be (by rw[u];simp)]at b;refine aQ cz ab 300 Z ?_ ⟨j,ac,[3],zM (bv (bv ⟨.row (by rw[b];simp),rfl,.of_eq (by rw[b];rfl),rfl,bv ac⟩)) (hR Z (by rw[b];simp;rfl) Z ac)⟩
     repeat' (first|exact ac|exact rfl|apply YW)
     all_goals first|omega|(simp;omega)|simp
   .have x:(iH l s i).2=lc:=by simpa using A
    rw[be (by rw[x];simp)]at b;refine aQ cz ab 300 Z ?_ ⟨j,ac,[3],zM (bv (bv ⟨.row (by rw[b];simp),rfl,.of_eq (by rw[b];rfl),rfl,bv ac⟩)) (hR Z (by rw[b];simp;rfl) Z ac)⟩
    repeat' (first|exact ac|exact rfl|apply YW)
    all_goals first|omega|(simp;omega)|simp
 .have j:=co j;have b:=sB (s:=s) j;refine aQ cz ab 100 Z ac ?_;refine zI (fun d=>?_) (fun d=>?_)
  .have d:(iH l s i).2=li:=by simpa using d
   rw[d,be (by simp)]at b;refine aQ cz ab 300 Z ?_ (cG (.inr Z) Z Z (by rw[b];simp;rfl) (by rw[b];simp))
   repeat' (first|exact ac|exact rfl|apply YW)
   all_goals first|omega|(simp;omega)|simp
  .have d:(iH l s i).2=lc:=by simpa using d
   rw[d,am Z]at b;refine aQ cz ab 300 Z ac (cG (.inr Z) Z Z (by rw[b]) (by rw[b]))
theorem jA(l:List aj)(s:aj):(bZ l s).length<=l.length+1:=by
 have h:=q6 l s l.length (Ym _);rw[sB (Ym _)];split
 .rename_i b;rw[b]at h;simpa using h
 .rename_i b;simp[b]at h;simp;omega
def cv(l m:List aj):List aj:=m.foldl bZ l
theorem eQ: ∀(m l:List aj),(cv l m).length<=l.length+m.length
 | [],l=>by simp[cv]
 |x::r,l=>by
  have d:=jA l x;have b:=eQ r (bZ l x);simp only[cv,YN,YT]at b ⊢;omega
theorem uQ(l m:List aj)(i:Nat):(cv l (m.take i)).length<=l.length+m.length:=by
 have:=eQ (m.take i) l;have b:(m.take i).length<=m.length:=by simp;omega
 omega
theorem Bj{l m:List aj}{i:Nat}(h:i<m.length):cv l (m.take (i+1))=bZ (cv l (m.take i)) (m.getD i io):=cF h
theorem T6(l m:List aj)(hb:l.length+m.length<=1000000000000):Pure prog 120 [.iv (strs l),.iv (strs m)] (.iv (strs (cv l m))):=by
 refine ad ab func120 Z (by decide) ntmps120 Z (by simp) Z ?_;refine aQ cz ab 100 Z ac ?_;refine ar 0 m.length (Yl _) (fun i=>⟨[(0,.iv (strs (cv l (m.take i)))),(1,.iv (strs m)),(5,pI i)],[],0⟩) (fun _=>True) [] ac (kT Z Z (bv (bv (bv ac))) Z) fun i j d=>?_;have u:=uQ l m i;refine aQ cz ab 100 Z ac ?_;refine zI (fun b=>?_) (fun b=>?_)
 .have b:=ci b;refine aQ cz ab 100 Z ⟨ac,by omega⟩ (bn (Na _ _ (by omega)) Z Z Z Z Z Z ?_);refine aQ cz ab 100 Z ⟨ac,by unfold jf;omega⟩ ?_;exact⟨b,ac,[],kT Z Z ⟨.of_eq (by rw[Bj b];rfl),rfl,bv (bv ac)⟩ Z⟩
 .have b:=co b;refine aQ cz ab 100 Z ac (jv (.inr Z) Z (.of_eq ?_));rw[Yn b];rfl
theorem Xd(s:aj):Pure prog 111 [.iv (.v (.slice kw 0 0)),pS s] (.iv (strs (bZ [] s))):=(Na [] s (by decide)).le ⟨.nil _ _,.refl _,ac⟩
def lj(a:List aj)(t:Term):List aj:=if t.kind=1 then bZ a t.var else a
def dE(a:Atom):List aj:=a.ae.foldl lj []
theorem E4: ∀(l:List Term) (a:List aj),(l.foldl lj a).length<=a.length+l.length
 | [],a=>by simp
 |t::r,a=>by
  have h:=E4 r (lj a t);have b:(lj a t).length<=a.length+1:=by
   unfold lj;split
   .exact jA _ _
   .omega
  simp only[YN,YT];omega
theorem iG(a:Atom):(dE a).length<=a.ae.length:=by have:=E4 a.ae [];simpa[dE]using this
theorem Ur(a:Atom)(hb:a.ae.length<=1000000000000):Pure prog 77 [ag a.c] (.iv (strs (dE a))):=by
 refine ad ab func77 Z (by decide) ntmps77 Z (by simp) Z ?_;refine aQ cz ab 100 Z ac ?_;refine ar 0 a.ae.length (Yl _) (fun i=>⟨[(1,.ptr 0 0),(3,.iv (strs ((a.ae.take i).foldl lj []))),(4,pI i)],[(0,jp (ak a.c))],1⟩) (fun _=>True) [] ac
  (zM (bv ⟨.nil _ _,rfl,bv trivial⟩) (zK trivial)) fun i A y=>?_
 have x:=E4 (a.ae.take i) [];simp only[ZM,YV]at x;refine aQ cz ab 100 Z ac ?_;refine zI (fun d=>?_) (fun d=>?_)
 .have d:=ci d;have u:=cF (g:=lj) (b:=[]) d;simp only[lj]at u;refine aQ cz ab 100 Z ⟨ac,by omega⟩ ?_;refine zI (fun j=>?_) (fun j=>?_)
  .have j:(a.ae.getD i io).kind=1:=zT j;rw[am j]at u;refine aQ cz ab 100 Z ⟨ac,by omega⟩ (bn (Na _ _ (by omega)) Z Z Z Z Z Z ?_);refine aQ cz ab 100 Z ⟨ac,by unfold jf;omega⟩ ?_;exact⟨d,ac,[],zM (bv ⟨.of_eq (by simp only[u];rfl),rfl,bv ac⟩) (zK ac)⟩
  .have j: ¬(a.ae.getD i io).kind=1:=zF j;rw[be j]at u;refine aQ cz ab 100 Z ⟨ac,by unfold jf;omega⟩ ?_;exact⟨d,ac,[],zM (bv ⟨.of_eq (by simp only[u];rfl),rfl,bv ac⟩) (zK ac)⟩
 .have d:=co d;refine aQ cz ab 100 Z ac (jv (.inr Z) Z (.of_eq ?_));rw[Yn d];rfl
mutual
def aR:Expr->List aj
 | .mk k v _ _ args=>if k=1 then bZ [] v else if k=4 then gl [] args else[]
def gl(a:List aj):List Expr->List aj
 | []=>a
 |e::r=>gl (cv a (aR e)) r
end
theorem lU: ∀(l:List Expr) (a:List aj),gl a l=l.foldl (fun a e=>cv a (aR e)) a
 | [],_=>rfl
 |e::r,a=>by simp only[gl,YN];exact lU r _
theorem wa(e:Expr):aR e=if e.kind=1 then bZ [] e.var else if e.kind=4 then e.args.foldl (fun a e=>cv a (aR e)) [] else[]:=by
 cases e with
 |mk k v val op args=>simp only[aR,Expr.kind,Expr.var,Expr.args,lU];rfl
mutual
theorem eZ: ∀e:Expr,(aR e).length<=e.size
 | .mk k v _ _ args=>by
  simp only[aR,Expr.size];split
  .have:=jA [] v;simp at this;omega
  .split
   .have:=nR args [];simp at this;omega
   .simp
theorem nR: ∀(l:List Expr) (a:List aj),(gl a l).length<=a.length+Expr.aA l
 | [],a=>by simp[gl,Expr.aA]
 |e::r,a=>by
  have b:=nR r (cv a (aR e));have d:=eQ (aR e) a;have j:=eZ e;simp only[gl,Expr.aA];omega
end
theorem Lit.sP: ∀(l:List Lit) (i:Nat),Lit.aA (l.take i)<=Lit.aA l
 | [],i=>by simp
 |e::r,0=>by simp[Lit.aA]
 |e::r,i+1=>by have:=Lit.sP r i;simp only[ZF,Lit.aA];omega
theorem Expr.cJ: ∀(l:List Expr) (i:Nat),i<l.length->Expr.aA (l.take i)+(l.getD i io).size<=Expr.aA l
 |e::r,0,_=>by simp[Expr.aA]
 |e::r,i+1,h=>by have:=Expr.cJ r i (by simpa using h);simp only[ZF,ZE,Expr.aA];omega
 | [],i,h=>by simp at h
theorem Lit.cJ: ∀(l:List Lit) (i:Nat),i<l.length->Lit.aA (l.take i)+(l.getD i io).size<=Lit.aA l
 |e::r,0,_=>by simp[Lit.aA]
 |e::r,i+1,h=>by have:=Lit.cJ r i (by simpa using h);simp only[ZF,ZE,Lit.aA];omega
 | [],i,h=>by simp at h
abbrev W0(a:List aj)(e:Expr):List aj:=cv a (aR e)
theorem Wm: ∀(n:Nat) (e:Expr),e.size<=n->e.size<=1000000000000->Pure prog 141 [ag e.c] (.iv (strs (aR e)))
 |0,e,h,_=>by have:=e.size_pos;omega
 |n+1,e,h,hb=>by
  refine Pure.le (args:=[ag e.c1]) ?_ ⟨e.x9,ac⟩;have x:=wa e;refine ad ab func141 Z (by decide) ntmps141 Z (by simp) Z ?_;refine aQ cz ab 100 Z ac ?_;refine zI (fun j=>?_) (fun j=>?_)
  .have j:e.kind=1:=zT j;rw[am j]at x;refine aQ cz ab 100 Z ac (bn (Xd _) Z Z Z Z Z Z ?_);refine aQ cz ab 100 Z ac (jv (.inr Z) Z (.of_eq ?_));rw[x];rfl
  have j: ¬e.kind=1:=zF j;rw[be j]at x;refine aQ cz ab 100 Z ac ?_;refine zI (fun u=>?_) (fun u=>?_)
  .have u: ¬e.kind=4:=by simpa using u
   rw[be u]at x;refine aQ cz ab 100 Z ac (jv (.inr Z) Z ?_);rw[x];exact .nil _ _
  have u:e.kind=4:=by simpa using u
  rw[am u]at x;have C:=e.size_eq;refine aQ cz ab 100 Z ac ?_;refine ar 0 e.args.length (Yl _) (fun i=>⟨[(1,.ptr 0 0),(3,.iv (strs ((e.args.take i).foldl W0 []))),(4,pI i)],[(0,jp (ak e.c1))],1⟩) (fun _=>True) [] ac
   (zM (bv ⟨.nil _ _,rfl,bv trivial⟩) (zK trivial)) fun i I G=>?_
  have A:=Expr.ax e.args;refine aQ cz ab 100 Z ac ?_;refine zI (fun d=>?_) (fun d=>?_)
  .have d:=ci d;have B:=cF (g:=W0) (b:=[]) d;have J:=Expr.cJ e.args i d;have y:=nR (e.args.take i) [];rw[lU]at y;have D:=eZ (e.args.getD i io);have F:((e.args.take i).foldl W0 []).length<=Expr.aA (e.args.take i):=by simpa using y
   refine aQ cz ab 100 Z ⟨ac,by omega⟩ (bn (Wm n (e.args.getD i io) (by omega) (by omega)) Z Z Z Z Z Z ?_);refine aQ cz ab 100 Z ac (bn (T6 _ _ (by omega)) Z Z Z Z Z Z ?_);refine aQ cz ab 100 Z ⟨ac,by unfold jf;omega⟩ ?_;exact⟨d,ac,[],zM (bv ⟨.of_eq (by simp only[B];rfl),rfl,bv ac⟩) (zK ac)⟩
  .have d:=co d;refine aQ cz ab 100 Z ac (jv (.inr Z) Z (.of_eq ?_));rw[Yn d,x];rfl
theorem EH(e:Expr)(hb:e.size<=1000000000000):Pure prog 141 [ag e.c] (.iv (strs (aR e))):=Wm e.size e (Ym _) hb
def cq(l:Lit):List aj:=if l.kind=1∨l.kind=2 then dE l.atom else if l.kind=3 then cv (aR l.left) (aR l.right) else[]
theorem gk(l:Lit):(cq l).length+2<=l.size:=by
 have b:=iG l.atom;have d:=eZ l.left;have j:=eZ l.right;have u:=eQ (aR l.right) (aR l.left);rw[l.size_eq];unfold cq;split
 .omega
 .split
  .omega
  .simp;omega
theorem WG(l:Lit)(hb:l.size<=1000000000000):Pure prog 119 [ag l.c] (.iv (strs (cq l))):=by
 have j:=l.size_eq;have u:=eZ l.left;have x:=eZ l.right;refine ad ab func119 Z (by decide) ntmps119 Z (by simp) Z ?_;refine aQ cz ab 100 Z ac ?_;refine zI (fun k1=>?_) (fun k1=>?_)
 .have k1:l.kind=1:=zT k1;refine aQ cz ab 100 Z ac (bn (Ur l.atom (by omega)) Z Z Z Z Z Z ?_);refine aQ cz ab 100 Z ac (jv (.inr Z) Z (.of_eq ?_));rw[cq,am (.inl k1)];rfl
 have k1: ¬l.kind=1:=zF k1;refine aQ cz ab 100 Z ac ?_;refine zI (fun b=>?_) (fun b=>?_)
 .have b:l.kind=2:=zT b;refine aQ cz ab 100 Z ac (bn (Ur l.atom (by omega)) Z Z Z Z Z Z ?_);refine aQ cz ab 100 Z ac (jv (.inr Z) Z (.of_eq ?_));rw[cq,am (.inr b)];rfl
 have b: ¬l.kind=2:=zF b;refine aQ cz ab 100 Z ac ?_;refine zI (fun d=>?_) (fun d=>?_)
 .have d:l.kind=3:=zT d;refine aQ cz ab 100 Z ac (bn (EH l.left (by omega)) Z Z Z Z Z Z ?_);refine aQ cz ab 100 Z ac (bn (EH l.right (by omega)) Z Z Z Z Z Z ?_);refine aQ cz ab 100 Z ac (bn (T6 _ _ (by omega)) Z Z Z Z Z Z ?_);refine aQ cz ab 100 Z ac (jv (.inr Z) Z (.of_eq ?_));rw[cq,be (by simp[k1,b]),am d];rfl
 .have d: ¬l.kind=3:=zF d;refine aQ cz ab 100 Z ac (jv (.inr Z) Z ?_);rw[cq,be (by simp[k1,b]),be d];exact .nil _ _
abbrev JC(a:List aj)(l:Lit):List aj:=cv a (cq l)
def aF(a:fa):List aj:=a.body.foldl JC (if a.func=1 then[] else aR a.ef)
theorem wT: ∀(l:List Lit) (a:List aj),(l.foldl JC a).length<=a.length+Lit.aA l
 | [],a=>by simp[Lit.aA]
 |e::r,a=>by
  have b:=wT r (JC a e);have d:(JC a e).length<=_:=eQ (cq e) a;have j:=gk e;simp only[YN,Lit.aA];omega
def fa.size(a:fa):Nat:=a.ef.size+Lit.aA a.body
theorem jc(a:fa):(aF a).length<=a.size:=by
 have h:=wT a.body (if a.func=1 then[] else aR a.ef);have d:=eZ a.ef;unfold aF fa.size;split at h<;>rename_i b<;>simp[b]at h ⊢ <;>omega
theorem V1(a:fa)(hb:a.size<=1000000000000):Pure prog 118 [ag a.c] (.iv (strs (aF a))):=by
 refine Pure.le (args:=[ag a.c1]) ?_ ⟨a.x9,ac⟩;have D:=eZ a.ef;unfold fa.size at hb;refine ad ab func118 Z (by decide) ntmps118 Z (by simp) Z ?_;refine aQ cz ab 100 Z ac ?_;refine zI (fun j=>?_) (fun j=>?_)
 .have j: ¬a.func=1:=by simpa using j
  have u:aF a=a.body.foldl JC (aR a.ef):=by unfold aF;rw[be j]
  refine aQ cz ab 100 Z ac (bn (EH a.ef (by omega)) Z Z Z Z Z Z ?_);refine aQ cz ab 100 Z ac ?_;refine ar 0 a.body.length (Yl _) (fun i=>⟨[(1,.ptr 0 0),(3,.iv (strs ((a.body.take i).foldl JC (aR a.ef)))),(4,pI i)],[(0,jp (ak a.c1))],1⟩) (fun _=>True) [] ac
   (zW (zK trivial)) fun i F C=>?_
  have x:=Lit.ax a.body;refine aQ cz ab 100 Z ac ?_;refine zI (fun d=>?_) (fun d=>?_)
  .have d:=ci d;have y:=cF (g:=JC) (b:=aR a.ef) d;have G:=Lit.cJ a.body i d;have B:=wT (a.body.take i) (aR a.ef);have A:=gk (a.body.getD i io);refine aQ cz ab 100 Z ⟨ac,by omega⟩ (bn (WG (a.body.getD i io) (by omega)) Z Z Z Z Z Z ?_);refine aQ cz ab 100 Z ac (bn (T6 _ _ (by omega)) Z Z Z Z Z Z ?_);refine aQ cz ab 100 Z ⟨ac,by unfold jf;omega⟩ ?_;exact⟨d,ac,[],zM (bv ⟨.of_eq (by simp only[y];rfl),rfl,bv ac⟩) (zK ac)⟩
  .have d:=co d;refine aQ cz ab 100 Z ac (jv (.inr Z) Z (.of_eq ?_));rw[Yn d,u];rfl
 .have j:a.func=1:=by simpa using j
  have u:aF a=a.body.foldl JC []:=by unfold aF;rw[am j]
  refine aQ cz ab 100 Z ac ?_;refine ar 0 a.body.length (Yl _) (fun i=>⟨[(1,.ptr 0 0),(3,.iv (strs ((a.body.take i).foldl JC []))),(4,pI i)],[(0,jp (ak a.c1))],1⟩) (fun _=>True) [] ac
   (zM (bv ⟨.nil _ _,rfl,bv trivial⟩) (zK trivial)) fun i F C=>?_
  have x:=Lit.ax a.body;refine aQ cz ab 100 Z ac ?_;refine zI (fun d=>?_) (fun d=>?_)
  .have d:=ci d;have y:=cF (g:=JC) (b:=[]) d;have G:=Lit.cJ a.body i d;have B:=wT (a.body.take i) [];have A:=gk (a.body.getD i io);simp only[ZM]at B;refine aQ cz ab 100 Z ⟨ac,by omega⟩ (bn (WG (a.body.getD i io) (by omega)) Z Z Z Z Z Z ?_);refine aQ cz ab 100 Z ac (bn (T6 _ _ (by omega)) Z Z Z Z Z Z ?_);refine aQ cz ab 100 Z ⟨ac,by unfold jf;omega⟩ ?_;exact⟨d,ac,[],zM (bv ⟨.of_eq (by simp only[y];rfl),rfl,bv ac⟩) (zK ac)⟩
  .have d:=co d;refine aQ cz ab 100 Z ac (jv (.inr Z) Z (.of_eq ?_));rw[Yn d,u];rfl
end Go.Proofs.YtflegjieadkonaaGreatDoor
namespace Go.Proofs.YtflegjieadkonaaGreatDoor
open Go Go.Al
section
def yw(n:Int):IV:= .v (.int .i64 n)
def WD(p:PV):Int:=match p with
 | .iv (.v (.int _ n))=>n
 |_=>0
abbrev NM:=List ((KC.str).K×Int)
abbrev dd(m:NM):AO:= .map .str yw 0 (.int .i64 0) WD m
abbrev tD(m:NM):IV:= .fF .str yw 0 (.int .i64 0) m
theorem ig: ∀M,IR M (yw 0) (.int .i64 0):=fun _=> .v _
def bump(m:NM)(s:aj):NM:=ck .str m s (bY .str m s 0+1)
def aJ(l:List aj):NM:=l.foldl bump []
theorem eh(l:List aj)(s:aj):aJ (l++ [s])=bump (aJ l) s:=by simp[aJ]
section
variable {V:Type}
theorem iZ{m:List ((KC.str).K×V)}{s t:aj}{v z:V}:bY .str (ck .str m s v) t z=if s=t then v else bY .str m t z:=by
 induction m with
 |nil=>simp only[ck,bY]
 |cons x r ih=>
  obtain⟨a,b⟩:=x;simp only[ck];by_cases h:a=s
  .rw[am h];simp only[bY];by_cases d:s=t
   .simp[d]
   .have: ¬a=t:=fun e=>d (h▸e)
    rw[be d,be d,be this]
  .rw[be h];simp only[bY,ih];by_cases d:a=t
   .have: ¬s=t:=fun e=>h (d.trans e.symm)
    simp[d,this]
   .simp[d]
theorem qu{m:List ((KC.str).K×V)}{t:aj}:ej .str m t=lc↔t∈m.map YI:=by
 induction m with
 |nil=>simp[ej]
 |cons x r ih=>
  obtain⟨a,b⟩:=x;simp only[ej,Yz,Yx];by_cases h:a=t
  .simp[h]
  .have: ¬t=a:=fun e=>h e.symm
   simp[h,this,ih]
theorem pc{m:List ((KC.str).K×V)}{s:aj}{v:V}(h:s∈m.map YI):(ck .str m s v).map YI=m.map YI:=by
 induction m with
 |nil=>simp at h
 |cons x r ih=>
  obtain⟨a,b⟩:=x;simp only[ck];by_cases d:a=s
  .rw[am d];simp[d]
  .have: ¬s=a:=fun e=>d e.symm
   rw[be d,Yz,ih (by simpa[this]using h)];rfl
theorem dX{m:List ((KC.str).K×V)}{s:aj}{v:V}(h:s∉m.map YI):(ck .str m s v).map YI=m.map YI++ [s]:=by
 induction m with
 |nil=>simp[ck]
 |cons x r ih=>
  obtain⟨a,b⟩:=x;simp only[Yz,Yx,not_or]at h;have: ¬a=s:=fun e=>h.1 e.symm;simp only[ck,be this,Yz,ih h.2];rfl
theorem xZ{m:List ((KC.str).K×V)}{t:aj}{z:V}(h:t∉m.map YI):bY .str m t z=z:=by
 induction m with
 |nil=>rfl
 |cons x r ih=>
  obtain⟨a,b⟩:=x;simp only[Yz,Yx,not_or]at h;have: ¬a=t:=fun e=>h.1 e.symm;simp only[bY,be this];exact ih h.2
end
theorem mu{α:Type}{p:List α->Prop}(h0:p [])(h1: ∀l a,p l->p (l++ [a]))(l:List α):p l:=by
 have key: ∀r:List α,p r.reverse:=by
  intro r
  induction r with
  |nil=>exact h0
  |cons a r ih=>rw[List.reverse_cons];exact h1 _ _ ih
 simpa using key l.reverse
def tA(l:List aj)(t:aj):Nat:=(l.filter fun x=>lw (x=t)).length
theorem EB(l m:List aj)(t:aj):tA (l++m) t=tA l t+tA m t:=by simp[tA]
theorem jg(l:List aj)(t:aj):tA l t<=l.length:=Ze _ _
theorem oD{l:List aj}{t:aj}:0<tA l t↔t∈l:=by
 rw[tA,List.length_pos_iff_exists_mem];constructor
 .rintro⟨x,hx⟩;obtain⟨b,d⟩:=YO.1 hx;exact(zT d)▸b
 .exact fun h=>⟨t,YO.2 ⟨h,by simp⟩⟩
theorem rz{l:List aj}{t:aj}:tA l t=0↔t∉l:=by
 rw[<-oD];omega
theorem bR(l:List aj)(t:aj):bY .str (aJ l) t 0=(tA l t:Int):=by
 induction l using mu with
 |h0=>rfl
 |h1 l s ih=>
  rw[eh,bump,iZ,EB];by_cases h:s=t
  .subst h;rw[ih];simp[tA]
  .rw[be h,ih];simp[h,tA]
theorem cf(l:List aj):((aJ l).map YI).Nodup∧ ∀t:aj,t∈(aJ l).map YI↔t∈l:=by
 induction l using mu with
 |h0=>simp[aJ]
 |h1 l s ih=>
  rw[eh,bump];obtain⟨h1,d⟩:=ih;by_cases h:s∈(aJ l).map YI
  .rw[pc h];refine⟨h1,fun t=>?_⟩;rw[d,Ys,Yr];exact⟨.inl,fun j=>j.elim id fun e=>e▸(d s).1 h⟩
  .rw[dX h];refine⟨?_,fun t=>by rw[Ys,d,Ys]⟩;rw[Z2];refine⟨h1,Zo.2 ⟨aaL,Zd⟩,fun a u b hb e=>?_⟩;rw[Yr]at hb;exact h ((e.trans hb)▸u)
def de(a:Atom):List aj:=a.ae.flatMap fun t=>if t.kind=1 then[t.var] else[]
theorem cm{α β:Type}[Inhabited α]{l:List α}{f:α->List β}{i:Nat}(h:i<l.length):(l.take (i+1)).flatMap f=(l.take i).flatMap f++f (l.getD i io):=by
 rw[aK h,aai];simp
theorem xx: ∀l:List Term,(l.flatMap fun t=>if t.kind=1 then[t.var] else[]).length<=l.length
 | []=>by simp
 |t::r=>by
  have:=xx r;have b:(if t.kind=1 then[t.var] else[]).length<=1:=by split<;>simp
  rw[Zk,Yg,YT];omega
theorem lf(a:Atom):(de a).length<=a.ae.length:=xx a.ae
theorem d88(occ:List aj)(a:Atom)(hb:occ.length+a.ae.length<=1000000000000):cj Tryz.prog 135 [.mp 0,ag a.c] [dd (aJ occ)] (.bX []) [(0,jp (dd (aJ (occ++de a))))] 1:=by
 refine aE ab Tryz.func135 Z (by decide) Tryz.ntmps135 Z (by simp) ?_;refine gA Z ?_;refine ar 0 a.ae.length (Yl _) (fun i=>⟨[(0,.mp 0),(3,.ptr 1 0),(7,.iv (cT 5 a.ae Term.c)),(8,pI a.ae.length),(9,pI i)],[(0,jp (dd (aJ (occ++(a.ae.take i).flatMap fun t=>if t.kind=1 then[t.var] else[]))))],2⟩) (fun _=>True) [] ac
  (zW (hM Z (by simp) Z trivial)) fun i B _=>?_
 have y:=xx (a.ae.take i);simp only[YV]at y;refine zJ Z Z (fun b=>?_) fun b=>?_
 .have b:=ci b;have j:=cm (f:=fun t:Term=>if t.kind=1 then[t.var] else[]) b;have A:=bR (occ++(a.ae.take i).flatMap fun t=>if t.kind=1 then[t.var] else[]) (a.ae.getD i io).var;have u:=jg (occ++(a.ae.take i).flatMap fun t=>if t.kind=1 then[t.var] else[]) (a.ae.getD i io).var;rw[Yg]at u;refine zJ Z Z (fun d=>?_) fun d=>?_
  .have d:(a.ae.getD i io).kind=1:=by simpa using d
   rw[am d]at j;refine gA Z ⟨b,ac,[],zW (hM Z (by rw[j,<-Yu,eh];rfl) Z ac)⟩
  .have d: ¬(a.ae.getD i io).kind=1:=by simpa using d
   rw[be d,Y0]at j;refine gA Z ⟨b,ac,[],zW (hM Z (by rw[j]) Z ac)⟩
 .have b:=co b;have x:a.ae.take i=a.ae:=Yn b;refine gA Z (zD [] Z (zW (hM Z (by rw[x];rfl) Z ac)))
end
end Go.Proofs.YtflegjieadkonaaGreatDoor
namespace Go.Proofs.YtflegjieadkonaaGreatDoor
open Go Go.Al Go.Proofs.Tryz
mutual
def cU:Expr->List aj
 | .mk k v _ _ args=>if k=1 then[v] else if k=4 then je args else[]
def je:List Expr->List aj
 | []=> []
 |e::r=>cU e++je r
end
theorem qF: ∀l:List Expr,je l=l.flatMap cU
 | []=>rfl
 |e::r=>by simp only[je,Zk,qF r]
theorem F9(e:Expr):cU e=if e.kind=1 then[e.var] else if e.kind=4 then e.args.flatMap cU else[]:=by
 cases e with
 |mk k v val op args=>simp only[cU,Expr.kind,Expr.var,Expr.args,qF];rfl
mutual
theorem jL: ∀e:Expr,(cU e).length<=e.size
 | .mk k v _ _ args=>by
  have:=pf args;simp only[cU,Expr.size];split
  .simp
  .split
   .omega
   .simp
theorem pf: ∀l:List Expr,(je l).length<=Expr.aA l
 | []=>by simp[je]
 |e::r=>by
  have b:=jL e;have d:=pf r;simp only[je,Expr.aA,Yg];omega
end
theorem d135: ∀(n:Nat) (e:Expr) (occ:List aj),e.size<=n->occ.length+e.size<=1000000000000->cj prog 178 [.mp 0,ag e.c] [dd (aJ occ)] (.bX []) [(0,jp (dd (aJ (occ++cU e))))] 1
 |0,e,_,h,_=>by have:=e.size_pos;omega
 |n+1,e,occ,h,hb=>by
  refine cj.le (args:=[.mp 0,ag e.c1]) ?_ ⟨.refl _,e.x9,ac⟩;have u:=F9 e;have D:=e.size_eq;have B:=bR occ e.var;have A:=jg occ e.var;refine aE ab func178 Z (by decide) ntmps178 Z (by simp) ?_;refine zJ Z Z (fun d=>?_) fun d=>?_
  .have d:e.kind=1:=by simpa using d
   rw[am d]at u;refine gA Z (zD [] Z (zW (hM Z (by rw[u,eh];rfl) Z ac)))
  have d: ¬e.kind=1:=by simpa using d
  rw[be d]at u;refine zJ Z Z (fun j=>?_) fun j=>?_
  .have j:e.kind=4:=by simpa using j
   rw[am j]at u;refine gA Z ?_;refine ar 0 e.args.length (Yl _) (fun i=>⟨[(0,.mp 0),(3,.ptr 1 0),(18,.iv (cT 7 e.args Expr.c)),(19,pI e.args.length),(20,pI i)],[(0,jp (dd (aJ (occ++(e.args.take i).flatMap cU))))],2⟩) (fun _=>True) [] ac
    (zW (hM Z (by simp) Z trivial)) fun i G _=>?_
   have y:=Expr.ax e.args;refine zJ Z Z (fun b=>?_) fun b=>?_
   .have b:=ci b;have C:=cm (f:=cU) b;have I:=Expr.cJ e.args i b;have F:=pf (e.args.take i);rw[qF]at F;refine gA Z (iO [0] (d135 n (e.args.getD i io) _ (by omega) (by rw[Yg];omega)) Z Z Z Z Z Z Z Z ?_);refine gA Z ⟨b,ac,[],zW (hM Z (by rw[C,Yu]) Z ac)⟩
   .have b:=co b;have x:e.args.take i=e.args:=Yn b;refine gA Z (zD [] Z (zW (hM Z (by rw[u,x]) Z ac)))
  .have j: ¬e.kind=4:=by simpa using j
   rw[be j]at u;refine gA Z (zD [] Z (zW (hM Z (by rw[u,Y0]) Z ac)))
theorem Mr(e:Expr)(occ:List aj)(hb:occ.length+e.size<=1000000000000):cj prog 178 [.mp 0,ag e.c] [dd (aJ occ)] (.bX []) [(0,jp (dd (aJ (occ++cU e))))] 1:=d135 e.size e occ (Ym _) hb
def cV(l:Lit):List aj:=if l.kind=1∨l.kind=2 then de l.atom else if l.kind=3 then cU l.left++cU l.right else[]
theorem o9(l:Lit):(cV l).length+2<=l.size:=by
 have b:=lf l.atom;have d:=jL l.left;have j:=jL l.right;rw[l.size_eq];unfold cV;split
 .omega
 .split
  .rw[Yg];omega
  .simp;omega
theorem d89(l:Lit)(occ:List aj)(hb:occ.length+l.size<=1000000000000):cj prog 136 [.mp 0,ag l.c] [dd (aJ occ)] (.bX []) [(0,jp (dd (aJ (occ++cV l))))] 1:=by
 have x:=l.size_eq;have y:=jL l.left;refine aE ab func136 Z (by decide) ntmps136 Z (by simp) ?_;refine zJ Z Z (fun k1=>?_) fun k1=>?_
 .have k1:l.kind=1:=zT k1;have u:cV l=de l.atom:=am (.inl k1);refine gA Z (zq [0] (d88 occ l.atom (by omega)) ?_);refine gA Z (zD [] Z (zW (hM Z (by rw[u]) Z ac)))
 have k1: ¬l.kind=1:=zF k1;refine zJ Z Z (fun d=>?_) fun d=>?_
 .have d:l.kind=2:=zT d;have u:cV l=de l.atom:=am (.inr d);refine gA Z (zq [0] (d88 occ l.atom (by omega)) ?_);refine gA Z (zD [] Z (zW (hM Z (by rw[u]) Z ac)))
 have d: ¬l.kind=2:=zF d;have b:cV l=if l.kind=3 then cU l.left++cU l.right else[]:=be (by simp[k1,d]);refine zJ Z Z (fun j=>?_) fun j=>?_
 .have j:l.kind=3:=zT j;rw[am j]at b;refine gA Z (zq [0] (Mr l.left occ (by omega)) ?_);refine gA Z (iO [0] (Mr l.right _ (by rw[Yg];omega)) Z Z Z Z Z Z Z Z ?_);refine gA Z (zD [] Z (zW (hM Z (by rw[b,Yu]) Z ac)))
 .have j: ¬l.kind=3:=zF j;rw[be j]at b;refine gA Z (zD [] Z (zW (hM Z (by rw[b,Y0]) Z ac)))
def bj(a:fa):List aj:=(if a.func=1 then[] else cU a.ef)++a.body.flatMap cV
theorem nB: ∀l:List Lit,(l.flatMap cV).length<=Lit.aA l
 | []=>by simp
 |e::r=>by
  have b:=o9 e;have d:=nB r;rw[Zk,Yg];simp only[Lit.aA];omega
theorem Sd(e:Expr)(hb:e.size<=1000000000000):cj prog 178 [.mp 0,ag e.c] [.gn] (.bX []) [(0,jp (dd (aJ (cU e))))] 1:=
 (Mr e [] (by simpa using hb)).R3 ⟨⟨id,fun M N U w j b=>⟨#[],0,b,⟨rfl,by simp[aJ],by simp[aJ],by simp,by simp⟩,ig M⟩⟩,ac⟩
theorem W6(a:Atom)(hb:a.ae.length<=1000000000000):cj prog 135 [.mp 0,ag a.c] [.gn] (.bX []) [(0,jp (dd (aJ (de a))))] 1:=
 (d88 [] a (by simpa using hb)).R3 ⟨⟨id,fun M N U w j b=>⟨#[],0,b,⟨rfl,by simp[aJ],by simp[aJ],by simp,by simp⟩,ig M⟩⟩,ac⟩
theorem d127(a:fa)(hb:a.size<=1000000000000):cj prog 196 [ag a.c] [] (.mp 0) [(0,jp (dd (aJ (bj a))))] 1:=by
 refine cj.le (args:=[ag a.c1]) ?_ ⟨a.x9,ac⟩;unfold fa.size at hb;have A:=jL a.ef;have y:=Lit.ax a.body;refine aE ab func196 Z (by decide) ntmps196 Z (by simp) ?_;refine zJ Z Z (fun d=>?_) fun d=>?_
 .have d: ¬a.func=1:=by simpa using d
  have j:bj a=cU a.ef++a.body.flatMap cV:=by unfold bj;rw[be d]
  refine gA Z (zq [1] (Sd a.ef (by omega)) ?_);refine gA Z ?_;refine ar 0 a.body.length (Yl _) (fun i=>⟨[(3,.mp 1),(15,.iv (lits a.body)),(16,pI a.body.length),(17,pI i)],[(1,jp (dd (aJ (cU a.ef++(a.body.take i).flatMap cV))))],2⟩) (fun _=>True) [] ac
   (zW (hM Z (by simp) Z trivial)) fun i B _=>?_
  refine zJ Z Z (fun b=>?_) fun b=>?_
  .have b:=ci b;have x:=cm (f:=cV) b;have C:=Lit.cJ a.body i b;have D:=nB (a.body.take i);refine gA Z (iO [1] (d89 (a.body.getD i io) _ (by rw[Yg];omega)) Z Z Z Z Z Z Z Z ?_);refine gA Z ⟨b,ac,[],zW (hM Z (by rw[x,Yu]) Z ac)⟩
  .have b:=co b;have u:a.body.take i=a.body:=Yn b;refine gA Z (zD [1] Z (zW (hM Z (by rw[u,j]) Z ac)))
 .have d:a.func=1:=by simpa using d
  have j:bj a=a.body.flatMap cV:=by unfold bj;rw[am d];rfl
  refine gA Z ?_;refine ar 0 a.body.length (Yl _) (fun i=>⟨[(3,.mp 1),(15,.iv (lits a.body)),(16,pI a.body.length),(17,pI i)],[(1,jp (dd (aJ ((a.body.take i).flatMap cV))))],2⟩) (fun _=>True) [] ac
   (zW (LD Z ig Z trivial)) fun i B _=>?_
  refine zJ Z Z (fun b=>?_) fun b=>?_
  .have b:=ci b;have x:=cm (f:=cV) b;have C:=Lit.cJ a.body i b;have D:=nB (a.body.take i);refine gA Z (iO [1] (d89 (a.body.getD i io) _ (by omega)) Z Z Z Z Z Z Z Z ?_);refine gA Z ⟨b,ac,[],zW (hM Z (by rw[x]) Z ac)⟩
  .have b:=co b;have u:a.body.take i=a.body:=Yn b;refine gA Z (zD [1] Z (zW (hM Z (by rw[u,j]) Z ac)))
def ins:List aj->aj->List aj
 | [],s=> [s]
 |x::r,s=>if x=s then x::r else if Op.bytesLess x.toList s.toList=lc then x::ins r s else s::x::r
theorem mT(s:aj): ∀(l a:List aj),l.foldl (bO s) (a,lc)=(a++l,lc)
 | [],a=>by simp
 |x::r,a=>by
  have:bO s (a,lc) x=(a++ [x],lc):=by simp[bO]
  rw[YN,this,mT s r];simp
theorem AT(s:aj): ∀(l a:List aj),(if(l.foldl (bO s) (a,li)).2 then(l.foldl (bO s) (a,li)).1 else(l.foldl (bO s) (a,li)).1++ [s])=a++ins l s
 | [],a=>by simp[ins]
 |x::r,a=>by
  by_cases b:x=s
  .have:bO s (a,li) x=(a++ [x],lc):=by simp[bO,b]
   rw[YN,this,mT];simp[ins,b]
  .cases h2:Op.bytesLess x.toList s.toList with
   |true=>
    have:bO s (a,li) x=(a++ [x],li):=by simp[bO,b,h2]
    rw[YN,this,AT s r];simp[ins,b,h2]
   |false=>
    have:bO s (a,li) x=(a++ [s]++ [x],lc):=by simp[bO,b,h2]
    rw[YN,this,mT];simp[ins,b,h2]
theorem qZ(l:List aj)(s:aj):bZ l s=ins l s:=by
 have:=AT s l [];simpa[bZ]using this
theorem wY{x:aj}: ∀{l:List aj} {s:aj},x∈ins l s↔x∈l∨x=s
 | [],s=>by simp[ins]
 |y::r,s=>by
  simp only[ins];split
  .rename_i h;subst h;simp;exact fun h=> .inl h
  .split
   .simp[wY (l:=r),or_assoc]
   .simp;constructor
    .rintro(h|h|h)
     .exact .inr h
     .exact .inl (.inl h)
     .exact .inl (.inr h)
    .rintro((h|h)|h)
     .exact .inr (.inl h)
     .exact .inr (.inr h)
     .exact .inl h
theorem ct{x s:aj}{l:List aj}:x∈bZ l s↔x∈l∨x=s:=by rw[qZ];exact wY
theorem gY{x:aj}: ∀{m l:List aj},x∈cv l m↔x∈l∨x∈m
 | [],l=>by simp[cv]
 |y::r,l=>by
  have h:=gY (x:=x) (m:=r) (l:=bZ l y);simp only[cv,YN]at h ⊢;rw[h,ct,Yx,or_assoc]
theorem aP{l:List aj}{s:aj}:ch l s=lc↔s∈l:=by
 simp[ch]
theorem ei{l:List aj}{s:aj}:ch l s=li↔s∉l:=by
 rw[<-ZQ,aP]
def lY(l m:List aj):Bool:=m.all fun x=>ch l x
theorem MR{l m:List aj}:lY l m=lc↔ ∀x∈m,x∈l:=by simp[lY,aP]
theorem Wh(l m:List aj):Pure prog 296 [.iv (strs l),.iv (strs m)] (pB (lY l m)):=by
 refine p6 (bN func296 Z (by decide)) ⟨_,_,Yt _ Yy⟩ fun d=>?_;simp only[maxLen]at d;refine ad ab func296 Z (by decide) ntmps296 Z (by simp) Z ?_;refine gA Z ?_;refine ar 0 m.length (Yl _) (fun i=>⟨[(0,.iv (strs l)),(1,.iv (strs m)),(5,pI i)],[],0⟩) (fun i=>(m.take i).all (fun x=>ch l x)=lc) [] Z (kT Z Z (bv (bv (bv ac))) Z) fun i y u=>?_;refine zJ Z Z (fun b=>?_) fun b=>?_
 .have b:=ci b;refine gA Z (zp (Js l (m.getD i io)) ?_);refine zJ Z Z (fun j=>?_) fun j=>?_
  .refine gA Z (zL (.of_eq ?_));rw[lY,ER b (by simpa using j)];try rfl
  .refine gA Z ?_;exact⟨b,(oH u b).2 (by simpa using j),[],kT Z Z (bv (bv (bv ac))) Z⟩
 .have b:=co b;refine gA Z (zL (.of_eq ?_));rw[lY,ES u b];try rfl
def vf(a:List aj)(l:Lit):List aj:=if l.kind=4 then bZ (cv a (cq l)) l.bp else cv a (cq l)
theorem Dy{a:List aj}{l:Lit}(h:l.kind=4):vf a l=bZ (cv a (cq l)) l.bp:=am h
theorem Dz{a:List aj}{l:Lit}(h: ¬l.kind=4):vf a l=cv a (cq l):=be h
def outer(r:aq):List aj:=r.body.foldl vf (dE r.head)
theorem KW(a:List aj)(l:Lit):(vf a l).length+1<=a.length+l.size:=by
 have b:=eQ (cq l) a;have d:=gk l;have j:=jA (cv a (cq l)) l.bp;unfold vf;split<;>omega
theorem rW: ∀(l:List Lit) (a:List aj),(l.foldl vf a).length<=a.length+Lit.aA l
 | [],a=>by simp[Lit.aA]
 |e::r,a=>by
  have b:=rW r (vf a e);have d:=KW a e;simp only[YN,Lit.aA];omega
theorem Us(r:aq)(hb:r.size<=1000000000000):Pure prog 87 [ag r.c] (.iv (strs (outer r))):=by
 have y:=iG r.head;have x:=Lit.ax r.body;unfold aq.size at hb;refine ad ab func87 Z (by decide) ntmps87 Z (by simp) Z ?_;refine gA Z (zp (Ur r.head (by omega)) ?_);refine gA Z ?_;refine ar 0 r.body.length (Yl _) (fun i=>⟨[(1,.ptr 0 0),(3,.iv (strs ((r.body.take i).foldl vf (dE r.head)))),(4,pI i)],[(0,jp (ak r.c))],1⟩) (fun _=>True) [] ac
  (zW (zK trivial)) fun i D C=>?_
 refine zJ Z Z (fun d=>?_) fun d=>?_
 .have d:=ci d;have u:=cF (g:=vf) (b:=dE r.head) d;have F:=Lit.cJ r.body i d;have G:=rW (r.body.take i) (dE r.head);have A:=gk (r.body.getD i io);have B:=eQ (cq (r.body.getD i io)) ((r.body.take i).foldl vf (dE r.head));refine gA Z (zp (WG (r.body.getD i io) (by omega)) ?_);refine gA Z (bn (T6 _ _ (by omega)) Z Z Z Z Z Z ?_);refine zJ Z Z (fun j=>?_) fun j=>?_
  .have j:(r.body.getD i io).kind=4:=zT j;rw[Dy j]at u;refine gA Z (bn (Na _ _ (by omega)) Z Z Z Z Z Z ?_);refine gA Z ⟨d,ac,[],zM (bv ⟨.of_eq (by rw[u];rfl),rfl,bv ac⟩) (zK ac)⟩
  .have j: ¬(r.body.getD i io).kind=4:=zF j;rw[Dz j]at u;refine gA Z ⟨d,ac,[],zM (bv ⟨.of_eq (by rw[u];rfl),rfl,bv ac⟩) (zK ac)⟩
 .have d:=co d;refine gA Z (zL (.of_eq ?_));rw[Yn d];rfl
def fe(l:Lit):List aj:=cV l++if l.kind=4 then[l.bp] else[]
def az(r:aq):List aj:=de r.head++r.body.flatMap fe
theorem FM(l:Lit):(fe l).length+1<=l.size:=by
 have:=o9 l;unfold fe;rw[Yg];split<;>simp<;>omega
theorem qq: ∀l:List Lit,(l.flatMap fe).length<=Lit.aA l
 | []=>by simp
 |e::r=>by
  have b:=FM e;have d:=qq r;rw[Zk,Yg];simp only[Lit.aA];omega
theorem uf(r:aq):(az r).length<=r.size:=by
 have b:=qq r.body;have d:=lf r.head;unfold az aq.size;rw[Yg];omega
def Sh(r:aq):List IV:=[iS r.head.rel,cT 5 r.head.ae Term.c,lits r.body,iI r.at_.line,iI r.at_.HN,tD (aJ (az r))]
abbrev da(r:aq):IV:= .mL (Sh r)
theorem c48(r:aq)(hb:r.size<=1000000000000):Pure prog 113 [ag r.c] (.iv (da r)):=by
 unfold aq.size at hb;have B:=lf r.head;have A:=Lit.ax r.body;refine ad ab func113 Z (by decide) ntmps113 Z (by simp) Z ?_;refine gA Z (zd [1] (W6 r.head (by omega)) ?_);refine gA Z ?_
 refine ar 0 r.body.length (Yl _) (fun i=>⟨[(3,.ptr 2 0),(18,.iv (lits r.body)),(19,pI r.body.length),(20,pI i)],
   [(1,jp (dd (aJ (de r.head++(r.body.take i).flatMap fe)))),(2,jp (.cells [pS r.head.rel,.iv (cT 5 r.head.ae Term.c),.iv (lits r.body),pI r.at_.line,pI r.at_.HN,.mp 1]))],3⟩) (fun _=>True) [] ac
  (zW (hM Z (by simp) Z (zO trivial))) fun i F _=>?_
 refine zJ Z Z (fun d=>?_) fun d=>?_
 .have d:=ci d;have u:=cm (f:=fe) d;have G:=Lit.cJ r.body i d;have I:=qq (r.body.take i);have D:=o9 (r.body.getD i io);refine gA Z (xc ab [1] (d89 (r.body.getD i io) _ (by rw[Yg];omega)) Z Z Z Z Z Z Z Z Z Z Z Z (by(repeat' (first|exact ac|exact rfl|exact aG.refl _|exact aG.bk (by assumption)|apply YW))<;>first|omega|(simp only[YK];omega)|(simp;done)|(simp;omega)) Z (by(repeat' (first|exact ac|exact rfl|exact aG.refl _|exact aG.bk (by assumption)|apply YW))<;>first|omega|(simp only[YK];omega)|(simp;done)|(simp;omega)) ?_);refine zJ Z Z (fun j=>?_) fun j=>?_
  .have j:(r.body.getD i io).kind=4:=zT j;have b:fe (r.body.getD i io)=cV (r.body.getD i io)++ [(r.body.getD i io).bp]:=by unfold fe;rw[am j]
   rw[b]at u;have C:=bR (de r.head++(r.body.take i).flatMap fe++cV (r.body.getD i io)) (r.body.getD i io).bp;have x:=jg (de r.head++(r.body.take i).flatMap fe++cV (r.body.getD i io)) (r.body.getD i io).bp;rw[Yg,Yg]at x;refine gA Z ⟨d,ac,[],zW (hM Z (by rw[u,<-Yu,<-Yu,eh];rfl) Z (zO ac))⟩
  .have j: ¬(r.body.getD i io).kind=4:=zF j;have b:fe (r.body.getD i io)=cV (r.body.getD i io):=by unfold fe;rw[be j,Y0]
   rw[b]at u;refine gA Z ⟨d,ac,[],zW (hM Z (by rw[u,<-Yu]) Z (zO ac))⟩
 .have d:=co d;have y:r.body.take i=r.body:=Yn d;refine ox Z ac (kf (.inr Z) Z (.map 1 Z (.cells 2 _ Z (show _=List.map PV.iv (Sh r) by rw[y];rfl) (.done (.of_eq Z)))))
def aW(occ:List aj)(e:Expr):Bool:=(cU e).all fun x=>ch occ x
theorem w5{l:List aj}{j:Nat}{x:(KC.str).K×Int}(h:(aJ l)[j]? =jp x):x.1∈l:=
 ((cf l).2 x.1).1 (YP.2 ⟨x,YL h,rfl⟩)
theorem all_keys{l:List aj}{vs:List Nat}(h: ∀j,j<(aJ l).length->j∈vs){p:aj->Prop}(hp: ∀j∈vs,∀x,(aJ l)[j]? =jp x->p x.1): ∀t∈l,p t:=by
 intro t d;obtain⟨x,u,rfl⟩:=YP.1 (((cf l).2 t).2 d);obtain⟨j,b⟩:=Y9 u;exact hp j (h j (Yj.1 b).1) x b
theorem d125(occ:List aj)(e:Expr)(hb:e.size<=1000000000000):cj prog 227 [.mp 0,ag e.c] [dd (aJ occ)] (pB (aW occ e)) [(0,jp (dd (aJ occ)))] 1:=by
 refine aE ab func227 Z (by decide) ntmps227 Z (by simp) ?_;refine gA Z (zq [2] (Sd e hb) ?_);refine gA Z ?_;refine ib (aJ (cU e)) (fun A=>⟨[(0,.mp 0),(12,.ptr 3 0)],[(0,jp (dd (aJ occ))),(3,jp (.b3 .str yw (aJ (cU e)) A kw))],4⟩) (fun A=> ∀j∈A,∀x,(aJ (cU e))[j]? =jp x->x.1∈occ) [] (by simp)
  (zW (zC (hI Z Z (.inl Z) Z trivial))) fun A F=>?_
 refine ox Z ac (eW Z Z Z Z Z (by decide) (fun d=>?_) fun j x C G=>?_)
 .refine gA Z (zD [] Z (zM ⟨.of_eq (by rw[show aW occ e=lc from YG.2 fun t I=>aP.2 (all_keys d F t I)];rfl),rfl,ac⟩ (zC ac)))
 .have u:=bR occ x.1;refine zJ Z Z (fun b=>?_) fun b=>?_
  .have b:bY .str (aJ occ) x.1 0=0:=zT b;have B:x.1∉occ:=rz.1 (by rw[u]at b;omega);refine gA Z (zD [] Z (zM ⟨.of_eq (by rw[show aW occ e=li from Z1.2 ⟨x.1,w5 C,by rw[ei.2 B];simp⟩];rfl),rfl,ac⟩ (zC ac)))
  .have b: ¬bY .str (aJ occ) x.1 0=0:=zF b;have B:x.1∈occ:=oD.1 (by rw[u]at b;omega);refine gA Z ?_
   exact⟨j,x,C,G,fun i hi y D=>by
    rcases Yx.1 hi with rfl|hi
    .rw[C]at D;cases D;exact B
    .exact F i hi y D,[],zW (zC (hI Z Z (.inr Z) Z ac))⟩
theorem Es{α:Type}[Inhabited α]{l:List α}{p:α->Bool}{i:Nat}(h:i<l.length):(l.take (i+1)).filter p=if p (l.getD i io) then(l.take i).filter p++ [l.getD i io] else(l.take i).filter p:=by
 rw[aK h,aaq];cases hp:p (l.getD i io)<;>simp only[ZD,List.filter_nil,hp]<;>simp
theorem wH{α:Type}(l:List α)(p:α->Bool)(i:Nat):((l.take i).filter p).length<=l.length:=by
 have b:=Ze p (l.take i);have d:(l.take i).length<=l.length:=by simp;omega
 omega
def ah(r:aq)(lit:Int):Lit:=r.body.getD lit.toNat io
def mG(r:aq)(lit:Int):List aj:=if lit<0∨(r.body.length:Int)<=lit∨ ¬(ah r lit).kind=4 then[] else(aF (ah r lit).agg).filter fun x=>!ch (outer r) x
theorem Lit.fC(l:Lit):l.agg.size+2<=l.size:=by
 rw[l.size_eq];unfold fa.size Lit.agg;dsimp only;omega
theorem c36(r:aq)(lit:Int)(hb:r.size<=1000000000000):Pure prog 238 [ag r.c,pI lit] (.iv (strs (mG r lit))):=by
 have C:=hb;unfold aq.size at C;refine ad ab func238 Z (by decide) ntmps238 Z (by simp) Z ?_;refine zE Z Z (fun d=>?_) fun d=>?_
 .have d:lit<0:=by simpa using d
  refine gA Z (zL ?_);rw[mG,am (.inl d)];exact .nil _ _
 have d: ¬lit<0:=by simpa using d
 refine zE Z Z (fun u=>?_) fun u=>?_
 .have u:(r.body.length:Int)<=lit:=by simpa using u
  refine gA Z (zL ?_);rw[mG,am (.inr (.inl u))];exact .nil _ _
 have u: ¬(r.body.length:Int)<=lit:=by simpa using u
 refine zJ Z Z (fun j=>?_) fun j=>?_
 .have j: ¬(ah r lit).kind=4:=by simpa[ah]using j
  refine gA Z (zL ?_);rw[mG,am (.inr (.inr j))];exact .nil _ _
 have j:(ah r lit).kind=4:=by simpa[ah]using j
 have J:lit.toNat<r.body.length:=by omega
 have D:=Lit.aS r.body lit.toNat J;have F:=(ah r lit).fC;have I:=jc (ah r lit).agg;have S:(ah r lit).size<=Lit.aA r.body:=D;refine gA Z (zp (Us r hb) ?_);refine gA Z (zp (V1 (ah r lit).agg (by omega)) ?_);refine gA Z ?_;refine dF 7 1 Z ?_;refine ar 0 (aF (ah r lit).agg).length (Yl _) (fun i=>⟨[(5,.iv (strs (outer r))),(6,.iv (strs (aF (ah r lit).agg))),(7,.sl 2 0 (((aF (ah r lit).agg).take i).filter fun x=>!ch (outer r) x).length 1),(8,pI i)],[(2,jp (aC 1 (((aF (ah r lit).agg).take i).filter fun x=>!ch (outer r) x) cR))],3⟩) (fun _=>True) [1] ac
  (zW (zS trivial)) fun i hi Y=>?_
 have G:=wH (aF (ah r lit).agg) (fun x=>!ch (outer r) x) i;refine zJ Z Z (fun b=>?_) fun b=>?_
 .have b:=ci b;have y:=Es (p:=fun x=>!ch (outer r) x) b;refine gA Z (bn (Js _ ((aF (ah r lit).agg).getD i io)) Z Z Z Z Z Z ?_);refine zJ Z Z (fun B=>?_) fun B=>?_
  .rw[am B]at y;refine ox Z ?_ ⟨b,ac,[4],zM (bv (bv ⟨.row (by rw[y];simp),rfl,bv ac⟩)) (hR Z (by rw[y,Yk];rfl) Z ac)⟩
   repeat' (first|exact ac|exact rfl|apply YW)
   all_goals first|omega|(simp;omega)|simp
  .rw[B]at y;refine gA Z ⟨b,ac,[2],zM (bv (bv ⟨.row (by rw[y];simp),rfl,bv ac⟩)) (hR Z (by rw[y];simp;try rfl) Z ac)⟩
 .have b:=co b;have A:mG r lit=((aF (ah r lit).agg).take i).filter fun x=>!ch (outer r) x:=by
   rw[Yn b,mG,be (by simp[d,j];omega)]
  refine gA Z (cG (by first|exact .inr Z|exact .inl Z) Z Z (by rw[A]) (by rw[A]))
def ko(l:Lit)(b:List aj):aj×Bool:=
 if¬l.kind=3∨ ¬l.op=1 then(Yp,li)
 else if l.left.kind=1∧lY b (aR l.left)=li∧lY b (aR l.right)=lc then(l.left.var,lc)
 else if l.right.kind=1∧lY b (aR l.right)=li∧lY b (aR l.left)=lc then(l.right.var,lc)
 else(Yp,li)
theorem jN{a b:aj×Bool}(h:a=b):PV.bX [pS a.1,pB a.2]= .bX [pS b.1,pB b.2]:=by rw[h]
theorem XT(l:Lit)(b:List aj)(hb:l.size<=1000000000000):Pure prog 283 [ag l.c,.iv (strs b)] (.bX [pS (ko l b).1,pB (ko l b).2]):=by
 have F:=l.size_eq;refine ad ab func283 Z (by decide) ntmps283 Z (by simp) Z ?_;refine zE Z Z (fun B=>?_) fun B=>?_
 .have B: ¬l.kind=3:=by simpa using B
  refine gA Z (zL (.of_eq ?_));exact jN (a:=(Yp,li)) (by rw[ko,am (.inl B)])
 have B:l.kind=3:=by simpa using B
 refine zJ Z Z (fun C=>?_) fun C=>?_
 .have C: ¬l.op=1:=by simpa using C
  refine gA Z (zL (.of_eq ?_));exact jN (a:=(Yp,li)) (by rw[ko,am (.inr C)])
 have C:l.op=1:=by simpa using C
 have y:ko l b=if l.left.kind=1∧lY b (aR l.left)=li∧lY b (aR l.right)=lc then(l.left.var,lc)
   else if l.right.kind=1∧lY b (aR l.right)=li∧lY b (aR l.left)=lc then(l.right.var,lc)
   else(Yp,li):=by rw[ko,be (by simp[B,C])]
 refine gA Z (zp (EH l.left (by omega)) ?_);refine gA Z (zp (EH l.right (by omega)) ?_);refine gA Z (zp (Wh b (aR l.left)) ?_);refine gA Z (zp (Wh b (aR l.right)) ?_);refine zJ Z Z (fun A=>?_) fun A=>?_
 .have A:l.left.kind=1:=by simpa using A
  refine zJ Z Z (fun u=>?_) fun u=>?_
  .have u:lY b (aR l.left)=li:=by simpa using u
   refine zJ Z Z (fun D=>?_) fun D=>?_
   .refine gA Z (zL (.of_eq ?_));exact jN (a:=(l.left.var,lc)) (by rw[y,am ⟨A,u,D⟩])
   .refine zJ Z Z (fun d=>?_) fun d=>?_
    .have d:l.right.kind=1:=by simpa using d
     refine zJ Z Z (fun j=>?_) fun j=>?_
     .refine zJ Z Z (fun x=>?_) fun x=>?_
      .rw[u]at x;cases x
      .refine gA Z (zL (.of_eq ?_));exact jN (a:=(Yp,li)) (by rw[y,be (by simp[D]),be (by simp[u])])
     .rw[D]at j;cases j
    .have d: ¬l.right.kind=1:=by simpa using d
     refine gA Z (zL (.of_eq ?_));exact jN (a:=(Yp,li)) (by rw[y,be (by simp[D]),be (by simp[u])])
  .have u:lY b (aR l.left)=lc:=by simpa using u
   refine zJ Z Z (fun d=>?_) fun d=>?_
   .have d:l.right.kind=1:=by simpa using d
    refine zJ Z Z (fun j=>?_) fun j=>?_
    .have j:lY b (aR l.right)=li:=by simpa using j
     refine zJ Z Z (fun x=>?_) fun x=>?_
     .refine gA Z (zL (.of_eq ?_));exact jN (a:=(l.right.var,lc)) (by rw[y,be (by simp[u]),am ⟨d,j,u⟩])
     .rw[u]at x;cases x
    .have j:lY b (aR l.right)=lc:=by simpa using j
     refine gA Z (zL (.of_eq ?_));exact jN (a:=(Yp,li)) (by rw[y,be (by simp[u]),be (by simp[j])])
   .have d: ¬l.right.kind=1:=by simpa using d
    refine gA Z (zL (.of_eq ?_));exact jN (a:=(Yp,li)) (by rw[y,be (by simp[u]),be (by simp[d])])
 .have A: ¬l.left.kind=1:=by simpa using A
  refine zJ Z Z (fun d=>?_) fun d=>?_
  .have d:l.right.kind=1:=by simpa using d
   refine zJ Z Z (fun j=>?_) fun j=>?_
   .have j:lY b (aR l.right)=li:=by simpa using j
    refine zJ Z Z (fun x=>?_) fun x=>?_
    .refine gA Z (zL (.of_eq ?_));exact jN (a:=(l.right.var,lc)) (by rw[y,be (by simp[A]),am ⟨d,j,x⟩])
    .refine gA Z (zL (.of_eq ?_));exact jN (a:=(Yp,li)) (by rw[y,be (by simp[A]),be (by simp[x])])
   .have j:lY b (aR l.right)=lc:=by simpa using j
    refine gA Z (zL (.of_eq ?_));exact jN (a:=(Yp,li)) (by rw[y,be (by simp[A]),be (by simp[j])])
  .have d: ¬l.right.kind=1:=by simpa using d
   refine gA Z (zL (.of_eq ?_));exact jN (a:=(Yp,li)) (by rw[y,be (by simp[A]),be (by simp[d])])
def su(a:fa)(b outer:List aj):Bool:=!ch b a.var&&(aF a).all fun x=>!(ch outer x&&(!ch b x&&!lw (x=a.var)))
theorem XS(a:fa)(b outer:List aj)(hb:a.size<=1000000000000):Pure prog 284 [ag a.c,.iv (strs b),.iv (strs outer)] (pB (su a b outer)):=by
 have C:=jc a;refine ad ab func284 Z (by decide) ntmps284 Z (by simp) Z ?_;refine gA Z (zp (Js b a.var) ?_);refine zJ Z Z (fun y=>?_) fun y=>?_
 .refine gA Z (zL (.of_eq ?_));rw[su,y];try rfl
 refine gA Z (zp (V1 a hb) ?_);refine gA Z ?_;refine ar 0 (aF a).length (Yl _) (fun i=>⟨[(1,.iv (strs b)),(2,.iv (strs outer)),(3,.ptr 0 0),(8,.iv (strs (aF a))),(9,pI i)],[(0,jp (ak a.c))],1⟩) (fun i=>((aF a).take i).all (fun x=>!(ch outer x&&(!ch b x&&!lw (x=a.var))))=lc) [] Z
  (zW (zK trivial)) fun i D u=>?_
 refine zJ Z Z (fun d=>?_) fun d=>?_
 .have d:=ci d;refine gA Z (zp (Js outer ((aF a).getD i io)) ?_);refine gA Z (zp (Js b ((aF a).getD i io)) ?_);refine zJ Z Z (fun j=>?_) fun j=>?_
  .refine zJ Z Z (fun A=>?_) fun A=>?_
   .refine zJ Z Z (fun B=>?_) fun B=>?_
    .refine gA Z (zL (.of_eq ?_));rw[su,ER d (show(!(ch outer ((aF a).getD i io)&&(!ch b ((aF a).getD i io)&&!lw ((aF a).getD i io=a.var))))=li by rw[j,A,show(!lw ((aF a).getD i io=a.var))=lc from B];rfl)];simp;try rfl
    .refine gA Z ?_;exact⟨d,(oH u d).2 (by rw[j];simp only[Zc];rw[show(!lw ((aF a).getD i io=a.var))=li from B];simp),[],zW (zK ac)⟩
   .refine gA Z ?_;exact⟨d,(oH u d).2 (by rw[A];simp),[],zW (zK ac)⟩
  .refine gA Z ?_;exact⟨d,(oH u d).2 (by rw[j];simp),[],zW (zK ac)⟩
 .have d:=co d;refine gA Z (zL (.of_eq ?_));rw[su,y,ES u d];try rfl
end Go.Proofs.YtflegjieadkonaaGreatDoor
